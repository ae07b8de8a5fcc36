-- Slimmed by slim.py from the text of this name without 'V'.
import Derived.Test.YtonljejhlphgpaaVG0
import Derived.Test.YtonljejhlphgpaaVG4
import Derived.Test.YtonljejhlphgpaaVG8
namespace Go.Proofs.Ytonljejhlphgpaa.G
open Go.RowKit Go.Proofs.YtonljejhlphgpaaW.PrintWords Go.Proofs.YtonljejhlphgpaaW.PrintLast Go.Proofs.YtonljejhlphgpaaW.PrintMore
set_option linter.unusedVariables false
set_option linter.unusedSimpArgs false
mutual
def rule_Check.j0 : Nat → Bool → Bool → List (List (S68)) → List (List (S68)) → List (List (S68)) → Bool → List (S43) → Int → Option (Int)
  | 0, _, _, _, _, _, _, _, _ => none
  | k + 1, x10, x140000, x140001, x140002, x140003, x140004, x140005, x140006 => if x10 = true then (some 70) else (if (x140001.length : Int) > 8 then (some 72) else (if (x140003.length : Int) > 8 then (some 72) else (if (x140005.length : Int) > 16 then (some 72) else ((some (([x140001, x140002, x140003] : List (List (List (S68)))) : List (List (List (S68))))).bind fun y140 => (rule_Check.l0 k y140 (y140.length : Int) 0 x140000 x140001 x140002 x140003 x140004 x140005 x140006)))))
def rule_Check.l0 : Nat → List (List (List (S68))) → Int → Int → Bool → List (List (S68)) → List (List (S68)) → List (List (S68)) → Bool → List (S43) → Int → Option (Int)
  | 0, _, _, _, _, _, _, _, _, _, _ => none
  | k + 1, x44, x45, x46, x140000, x140001, x140002, x140003, x140004, x140005, x140006 => if x46 < x45 then (if 0 ≤ x46 then (if x46 < (x44.length : Int) then (rule_Check.l1 k x44 x45 x46 (rd_L4 x44 x46) ((rd_L4 x44 x46).length : Int) 0 x140000 x140001 x140002 x140003 x140004 x140005 x140006) else (none)) else (none)) else (rule_Check.l2 k x140005 (x140005.length : Int) 0 x140000 x140001 x140002 x140003 x140004 x140005 x140006)
def rule_Check.l1 : Nat → List (List (List (S68))) → Int → Int → List (List (S68)) → Int → Int → Bool → List (List (S68)) → List (List (S68)) → List (List (S68)) → Bool → List (S43) → Int → Option (Int)
  | 0, _, _, _, _, _, _, _, _, _, _, _, _, _ => none
  | k + 1, x44, x45, x46, x50, x51, x52, x140000, x140001, x140002, x140003, x140004, x140005, x140006 => if x52 < x51 then (if 0 ≤ x52 then (if x52 < (x50.length : Int) then ((set_Valid.f k (rd_L2 x50 x52)).bind fun t145 => (if t145 = true then (if ((rd_L2 x50 x52).length : Int) = 0 then (some 71) else (rule_Check.l1 k x44 x45 x46 x50 x51 (wrap64 (x52 + 1)) x140000 x140001 x140002 x140003 x140004 x140005 x140006)) else (some 71))) else (none)) else (none)) else (rule_Check.l0 k x44 x45 (wrap64 (x46 + 1)) x140000 x140001 x140002 x140003 x140004 x140005 x140006)
def rule_Check.l2 : Nat → List (S43) → Int → Int → Bool → List (List (S68)) → List (List (S68)) → List (List (S68)) → Bool → List (S43) → Int → Option (Int)
  | 0, _, _, _, _, _, _, _, _, _, _ => none
  | k + 1, x67, x68, x69, x140000, x140001, x140002, x140003, x140004, x140005, x140006 => if x69 < x68 then (if 0 ≤ x69 then (if x69 < (x67.length : Int) then ((rule_piece.f k x140000 x140001 x140002 x140003 x140004 x140005 x140006 ((rd_T43 x67 x69).f0) ((rd_T43 x67 x69).f1) ((rd_T43 x67 x69).f2) ((rd_T43 x67 x69).f3)).bind fun t148 => (if t148 = 0 then (rule_Check.l2 k x67 x68 (wrap64 (x69 + 1)) x140000 x140001 x140002 x140003 x140004 x140005 x140006) else (some t148))) else (none)) else (none)) else (if x140006 < 0 then (some 76) else (if x140006 > (x140005.length : Int) then (some 76) else (some 0)))
end
def rule_Check.f (k : Nat) (a0_0 : Bool) (l0_1 : List (List (S68))) (l0_2 : List (List (S68))) (l0_3 : List (List (S68))) (a0_4 : Bool) (l0_5 : List (S43)) (a0_6 : Int) : Option (Int) := if (l0_2.length : Int) < 1 then (rule_Check.j0 k true a0_0 l0_1 l0_2 l0_3 a0_4 l0_5 a0_6) else (rule_Check.j0 k (decide ((l0_2.length : Int) > 8)) a0_0 l0_1 l0_2 l0_3 a0_4 l0_5 a0_6)
theorem rule_Check.mono_l : ∀ k, (∀ y0 y1 y2 y3 y4 y5 y6 y7, LeO (rule_Check.j0 k y0 y1 y2 y3 y4 y5 y6 y7) (rule_Check.j0 (k + 1) y0 y1 y2 y3 y4 y5 y6 y7)) ∧ (∀ y0 y1 y2 y3 y4 y5 y6 y7 y8 y9, LeO (rule_Check.l0 k y0 y1 y2 y3 y4 y5 y6 y7 y8 y9) (rule_Check.l0 (k + 1) y0 y1 y2 y3 y4 y5 y6 y7 y8 y9)) ∧ (∀ y0 y1 y2 y3 y4 y5 y6 y7 y8 y9 y10 y11 y12, LeO (rule_Check.l1 k y0 y1 y2 y3 y4 y5 y6 y7 y8 y9 y10 y11 y12) (rule_Check.l1 (k + 1) y0 y1 y2 y3 y4 y5 y6 y7 y8 y9 y10 y11 y12)) ∧ (∀ y0 y1 y2 y3 y4 y5 y6 y7 y8 y9, LeO (rule_Check.l2 k y0 y1 y2 y3 y4 y5 y6 y7 y8 y9) (rule_Check.l2 (k + 1) y0 y1 y2 y3 y4 y5 y6 y7 y8 y9))
  | 0 => ⟨fun _ _ _ _ _ _ _ _ r h => by simp [rule_Check.j0] at h, fun _ _ _ _ _ _ _ _ _ _ r h => by simp [rule_Check.l0] at h, fun _ _ _ _ _ _ _ _ _ _ _ _ _ r h => by simp [rule_Check.l1] at h, fun _ _ _ _ _ _ _ _ _ _ r h => by simp [rule_Check.l2] at h⟩
  | k + 1 => by
    obtain ⟨ih0, ih1, ih2, ih3⟩ := rule_Check.mono_l k
    refine ⟨?_, ?_, ?_, ?_⟩
    · intro y0 y1 y2 y3 y4 y5 y6 y7
      unfold rule_Check.j0
      repeat' first
      | (with_reducible exact ih0 _ _ _ _ _ _ _ _)
      | (with_reducible exact ih1 _ _ _ _ _ _ _ _ _ _)
      | (with_reducible exact ih2 _ _ _ _ _ _ _ _ _ _ _ _ _)
      | (with_reducible exact ih3 _ _ _ _ _ _ _ _ _ _)
      | (with_reducible exact rule_piece.mono _ _ _ _ _ _ _ _ _ _ _ _)
      | (with_reducible exact set_Valid.mono _ _)
      | (with_reducible exact LeO.refl _)
      | (with_reducible exact LeO.none _)
      | (with_reducible refine LeO.ite ?_ ?_)
      | (with_reducible refine LeO.bind ?_ (fun _ => ?_))
      | exact ih0 _ _ _ _ _ _ _ _
      | exact ih1 _ _ _ _ _ _ _ _ _ _
      | exact ih2 _ _ _ _ _ _ _ _ _ _ _ _ _
      | exact ih3 _ _ _ _ _ _ _ _ _ _
      | exact rule_piece.mono _ _ _ _ _ _ _ _ _ _ _ _
      | exact set_Valid.mono _ _
      | exact LeO.none _
      | refine LeO.ite ?_ ?_
      | refine LeO.bind ?_ (fun _ => ?_)
    · intro y0 y1 y2 y3 y4 y5 y6 y7 y8 y9
      unfold rule_Check.l0
      repeat' first
      | (with_reducible exact ih0 _ _ _ _ _ _ _ _)
      | (with_reducible exact ih1 _ _ _ _ _ _ _ _ _ _)
      | (with_reducible exact ih2 _ _ _ _ _ _ _ _ _ _ _ _ _)
      | (with_reducible exact ih3 _ _ _ _ _ _ _ _ _ _)
      | (with_reducible exact rule_piece.mono _ _ _ _ _ _ _ _ _ _ _ _)
      | (with_reducible exact set_Valid.mono _ _)
      | (with_reducible exact LeO.refl _)
      | (with_reducible exact LeO.none _)
      | (with_reducible refine LeO.ite ?_ ?_)
      | (with_reducible refine LeO.bind ?_ (fun _ => ?_))
      | exact ih0 _ _ _ _ _ _ _ _
      | exact ih1 _ _ _ _ _ _ _ _ _ _
      | exact ih2 _ _ _ _ _ _ _ _ _ _ _ _ _
      | exact ih3 _ _ _ _ _ _ _ _ _ _
      | exact rule_piece.mono _ _ _ _ _ _ _ _ _ _ _ _
      | exact set_Valid.mono _ _
      | exact LeO.none _
      | refine LeO.ite ?_ ?_
      | refine LeO.bind ?_ (fun _ => ?_)
    · intro y0 y1 y2 y3 y4 y5 y6 y7 y8 y9 y10 y11 y12
      unfold rule_Check.l1
      repeat' first
      | (with_reducible exact ih0 _ _ _ _ _ _ _ _)
      | (with_reducible exact ih1 _ _ _ _ _ _ _ _ _ _)
      | (with_reducible exact ih2 _ _ _ _ _ _ _ _ _ _ _ _ _)
      | (with_reducible exact ih3 _ _ _ _ _ _ _ _ _ _)
      | (with_reducible exact rule_piece.mono _ _ _ _ _ _ _ _ _ _ _ _)
      | (with_reducible exact set_Valid.mono _ _)
      | (with_reducible exact LeO.refl _)
      | (with_reducible exact LeO.none _)
      | (with_reducible refine LeO.ite ?_ ?_)
      | (with_reducible refine LeO.bind ?_ (fun _ => ?_))
      | exact ih0 _ _ _ _ _ _ _ _
      | exact ih1 _ _ _ _ _ _ _ _ _ _
      | exact ih2 _ _ _ _ _ _ _ _ _ _ _ _ _
      | exact ih3 _ _ _ _ _ _ _ _ _ _
      | exact rule_piece.mono _ _ _ _ _ _ _ _ _ _ _ _
      | exact set_Valid.mono _ _
      | exact LeO.none _
      | refine LeO.ite ?_ ?_
      | refine LeO.bind ?_ (fun _ => ?_)
    · intro y0 y1 y2 y3 y4 y5 y6 y7 y8 y9
      unfold rule_Check.l2
      repeat' first
      | (with_reducible exact ih0 _ _ _ _ _ _ _ _)
      | (with_reducible exact ih1 _ _ _ _ _ _ _ _ _ _)
      | (with_reducible exact ih2 _ _ _ _ _ _ _ _ _ _ _ _ _)
      | (with_reducible exact ih3 _ _ _ _ _ _ _ _ _ _)
      | (with_reducible exact rule_piece.mono _ _ _ _ _ _ _ _ _ _ _ _)
      | (with_reducible exact set_Valid.mono _ _)
      | (with_reducible exact LeO.refl _)
      | (with_reducible exact LeO.none _)
      | (with_reducible refine LeO.ite ?_ ?_)
      | (with_reducible refine LeO.bind ?_ (fun _ => ?_))
      | exact ih0 _ _ _ _ _ _ _ _
      | exact ih1 _ _ _ _ _ _ _ _ _ _
      | exact ih2 _ _ _ _ _ _ _ _ _ _ _ _ _
      | exact ih3 _ _ _ _ _ _ _ _ _ _
      | exact rule_piece.mono _ _ _ _ _ _ _ _ _ _ _ _
      | exact set_Valid.mono _ _
      | exact LeO.none _
      | refine LeO.ite ?_ ?_
      | refine LeO.bind ?_ (fun _ => ?_)
theorem rule_Check.mono : ∀ a0 a1 a2 a3 a4 a5 a6 k, LeO (rule_Check.f k a0 a1 a2 a3 a4 a5 a6) (rule_Check.f (k + 1) a0 a1 a2 a3 a4 a5 a6) := by
  intro a0 a1 a2 a3 a4 a5 a6 k
  obtain ⟨ih0, ih1, ih2, ih3⟩ := rule_Check.mono_l k
  unfold rule_Check.f
  repeat' first
      | (with_reducible exact ih0 _ _ _ _ _ _ _ _)
      | (with_reducible exact ih1 _ _ _ _ _ _ _ _ _ _)
      | (with_reducible exact ih2 _ _ _ _ _ _ _ _ _ _ _ _ _)
      | (with_reducible exact ih3 _ _ _ _ _ _ _ _ _ _)
      | (with_reducible exact rule_piece.mono _ _ _ _ _ _ _ _ _ _ _ _)
      | (with_reducible exact set_Valid.mono _ _)
      | (with_reducible exact LeO.refl _)
      | (with_reducible exact LeO.none _)
      | (with_reducible refine LeO.ite ?_ ?_)
      | (with_reducible refine LeO.bind ?_ (fun _ => ?_))
      | exact ih0 _ _ _ _ _ _ _ _
      | exact ih1 _ _ _ _ _ _ _ _ _ _
      | exact ih2 _ _ _ _ _ _ _ _ _ _ _ _ _
      | exact ih3 _ _ _ _ _ _ _ _ _ _
      | exact rule_piece.mono _ _ _ _ _ _ _ _ _ _ _ _
      | exact set_Valid.mono _ _
      | exact LeO.none _
      | refine LeO.ite ?_ ?_
      | refine LeO.bind ?_ (fun _ => ?_)
set_option maxHeartbeats 8000000 in
set_option maxRecDepth 100000 in
theorem rule_Check.calls (k : Nat) (a0_0 : Bool) (P0_1_ : Nat → Prop) (A0_1 : Option Addr) (c0_1 : Nat) (l0_1 : List (List (S68))) (P0_2_ : Nat → Prop) (A0_2 : Option Addr) (c0_2 : Nat) (l0_2 : List (List (S68))) (P0_3_ : Nat → Prop) (A0_3 : Option Addr) (c0_3 : Nat) (l0_3 : List (List (S68))) (a0_4 : Bool) (A0_5 : Option Addr) (c0_5 : Nat) (l0_5 : List (S43)) (a0_6 : Int) (r : Int) (w : World) (hs0_1 : Kd.V (Kd.slice 68 k68) 41 w w.heap.size (fun k_ => P0_1_ k_) (.slice A0_1 l0_1.length c0_1) l0_1) (hs0_2 : Kd.V (Kd.slice 68 k68) 41 w w.heap.size (fun k_ => P0_2_ k_) (.slice A0_2 l0_2.length c0_2) l0_2) (hs0_3 : Kd.V (Kd.slice 68 k68) 41 w w.heap.size (fun k_ => P0_3_ k_) (.slice A0_3 l0_3.length c0_3) l0_3) (hr0_5 : Kd.C k43 w A0_5 l0_5.length l0_5) (hc0_5 : l0_5.length ≤ c0_5) (h : rule_Check.f k a0_0 l0_1 l0_2 l0_3 a0_4 l0_5 a0_6 = some r) :
    Calls Try.prog 18 #[.agg #[.bool a0_0, .slice A0_1 l0_1.length c0_1, .slice A0_2 l0_2.length c0_2, .slice A0_3 l0_3.length c0_3, .bool a0_4, .slice A0_5 l0_5.length c0_5, .int .i64 a0_6]] w fun e w' => e = .returned (.int .i64 r) ∧ Below w.heap.size w w' := by
  have hu25 := Try.underlying25
  have hu43 := Try.underlying43
  have HO0_1 := Aside0.mk (show Kd.V (Kd.slice 68 k68) 41 w w.heap.size (fun k_ => ((P0_1_ k_ ∨ P0_2_ k_ ∨ P0_3_ k_) ∨ w.heap.size ≤ k_)) (.slice A0_1 l0_1.length c0_1) l0_1 from Kd.V_mono hs0_1 (fun k_ hk => .inl (.inl hk)))
  have HO0_2 := Aside0.mk (show Kd.V (Kd.slice 68 k68) 41 w w.heap.size (fun k_ => ((P0_1_ k_ ∨ P0_2_ k_ ∨ P0_3_ k_) ∨ w.heap.size ≤ k_)) (.slice A0_2 l0_2.length c0_2) l0_2 from Kd.V_mono hs0_2 (fun k_ hk => .inl (.inr (.inl hk))))
  have HO0_3 := Aside0.mk (show Kd.V (Kd.slice 68 k68) 41 w w.heap.size (fun k_ => ((P0_1_ k_ ∨ P0_2_ k_ ∨ P0_3_ k_) ∨ w.heap.size ≤ k_)) (.slice A0_3 l0_3.length c0_3) l0_3 from Kd.V_mono hs0_3 (fun k_ hk => .inl (.inr (.inr hk))))
  have HR0_5 := Aside0.mk hr0_5
  have HC0_5 := Aside0.mk hc0_5
  clear hr0_5 hc0_5
  have HB := Aside0.mk (Below.refl w.heap.size w)
  have H : (if (l0_2.length : Int) < 1 then (rule_Check.j0 k true a0_0 l0_1 l0_2 l0_3 a0_4 l0_5 a0_6) else (rule_Check.j0 k (decide ((l0_2.length : Int) > 8)) a0_0 l0_1 l0_2 l0_3 a0_4 l0_5 a0_6)) = some r := h
  clear h
  have HC2 := Aside0.mk H
  clear H
  go_enter Try.func18, Try.ntmps18
  go_upto_region 1 with (first | ((with_reducible refine gate_dst (N := 1) rfl ?_); (try (refine gate_guard (by rfl) ?_; dsimp only)); refine box_event ?hg (N := 1) ?hd (cs := #[.bool a0_0, .slice A0_1 l0_1.length c0_1, .slice A0_2 l0_2.length c0_2, .slice A0_3 l0_3.length c0_3, .bool a0_4, .slice A0_5 l0_5.length c0_5, .int .i64 a0_6]) (t := 25) ?hr ?_; (case hd => rfl); (case hg => rfl); (case hr => first | (go_simp; done) | (go_simp; rfl)); intro gb139 hg w3 hbox hb; have n0_ := Aside0.mk (Kd.V_below (Kd.V_elderB (by (with_reducible repeat (first | apply Kd.V_alloc | apply Kd.V_drewN | apply Kd.V_drew)); exact HO0_1.out) gb139 (Nat.le_of_eq hg.symm)) hb); have n1_ := Aside0.mk (Kd.V_below (Kd.V_elderB (by (with_reducible repeat (first | apply Kd.V_alloc | apply Kd.V_drewN | apply Kd.V_drew)); exact HO0_2.out) gb139 (Nat.le_of_eq hg.symm)) hb); have n2_ := Aside0.mk (Kd.V_below (Kd.V_elderB (by (with_reducible repeat (first | apply Kd.V_alloc | apply Kd.V_drewN | apply Kd.V_drew)); exact HO0_3.out) gb139 (Nat.le_of_eq hg.symm)) hb); have n3_ := Aside0.mk (below_step (by repeat (first | (with_reducible first | exact HB.out | apply below_alloc | apply pw_below_drewN | apply below_drew1) | exact HB.out)) hb); have n4_ := Aside0.mk (hbox); have n5_ := Aside0.mk ((by rw [hg]; exact (below_size (by repeat (first | (with_reducible first | exact HB.out | apply below_alloc | apply pw_below_drewN | apply below_drew1) | exact HB.out))) : w.heap.size ≤ gb139)); have n6_ := Aside0.mk ((by rw [hg]; exact (below_size (by repeat (first | (with_reducible first | exact HB.out | apply below_alloc | apply pw_below_drewN | apply below_drew1) | exact HB.out))) : w.heap.size ≤ gb139)); clear HO0_1; clear HO0_2; clear HO0_3; clear HB; have HO0_1 := n0_; have HO0_2 := n1_; have HO0_3 := n2_; have HB := n3_; have BK139 := n4_; have GW139 := n5_; have GE139 := n6_; clear n0_ n1_ n2_ n3_ n4_ n5_ n6_; clear hb hbox hg))
  (try simp only [Act.put, List.setIfInBounds_toArray, List.set_cons_zero, List.set_cons_succ])
  go_cut [10] (fun v10 wc => ∃ (kq : Nat) (x10_1 : Bool), v10 = .bool x10_1 ∧ Aside0 (rule_Check.j0 kq x10_1 a0_0 l0_1 l0_2 l0_3 a0_4 l0_5 a0_6 = some r) ∧ Aside0 (kq ≤ k) ∧ Aside0 (Kd.V (Kd.slice 68 k68) 41 wc w.heap.size (fun k_ => ((P0_1_ k_ ∨ P0_2_ k_ ∨ P0_3_ k_) ∨ w.heap.size ≤ k_) ∧ k_ ≠ gb139) (.slice A0_1 l0_1.length c0_1) l0_1) ∧ Aside0 (Kd.V (Kd.slice 68 k68) 41 wc w.heap.size (fun k_ => ((P0_1_ k_ ∨ P0_2_ k_ ∨ P0_3_ k_) ∨ w.heap.size ≤ k_) ∧ k_ ≠ gb139) (.slice A0_2 l0_2.length c0_2) l0_2) ∧ Aside0 (Kd.V (Kd.slice 68 k68) 41 wc w.heap.size (fun k_ => ((P0_1_ k_ ∨ P0_2_ k_ ∨ P0_3_ k_) ∨ w.heap.size ≤ k_) ∧ k_ ≠ gb139) (.slice A0_3 l0_3.length c0_3) l0_3) ∧ Aside0 (wc.heap[gb139]? = some (.cells #[.bool a0_0, (.slice A0_1 l0_1.length c0_1), (.slice A0_2 l0_2.length c0_2), (.slice A0_3 l0_3.length c0_3), .bool a0_4, (.slice A0_5 l0_5.length c0_5), .int .i64 a0_6] 25 (0, 0))) ∧ Aside0 (Below w.heap.size w wc))
  case first =>
    have H := HC2.out
    clear HC2
    by_cases c4 : (l0_2.length : Int) < 1
    · rw [if_pos c4] at H
      have c4b0 : decide ((l0_2.length : Int) < 1) = true := decide_eq_true c4
      have c4b1 : decide (l0_2.length < 1) = true := decide_eq_true (by omega)
      clear c4
      (first | rw [c4b0] | (simp only [i64_w, i32_w]; rw [c4b0]) | skip)
      have H' := Aside0.mk H
      clear H
      have hcz5_0 : w3.cell? ⟨gb139, 0, none⟩ = some (.bool a0_0) := (blk_cell BK139.out 0).trans rfl
      have hcz5_1 : w3.cell? ⟨gb139, 1, none⟩ = some (.slice A0_1 l0_1.length c0_1) := (blk_cell BK139.out 1).trans rfl
      have hcz5_2 : w3.cell? ⟨gb139, 2, none⟩ = some (.slice A0_2 l0_2.length c0_2) := (blk_cell BK139.out 2).trans rfl
      have hcz5_3 : w3.cell? ⟨gb139, 3, none⟩ = some (.slice A0_3 l0_3.length c0_3) := (blk_cell BK139.out 3).trans rfl
      have hcz5_4 : w3.cell? ⟨gb139, 4, none⟩ = some (.bool a0_4) := (blk_cell BK139.out 4).trans rfl
      have hcz5_5 : w3.cell? ⟨gb139, 5, none⟩ = some (.slice A0_5 l0_5.length c0_5) := (blk_cell BK139.out 5).trans rfl
      have hcz5_6 : w3.cell? ⟨gb139, 6, none⟩ = some (.int .i64 a0_6) := (blk_cell BK139.out 6).trans rfl
      have hfz5_0 := blk_frozen BK139.out 0
      have hfz5_1 := blk_frozen BK139.out 1
      have hfz5_2 := blk_frozen BK139.out 2
      have hfz5_3 := blk_frozen BK139.out 3
      have hfz5_4 := blk_frozen BK139.out 4
      have hfz5_5 := blk_frozen BK139.out 5
      have hfz5_6 := blk_frozen BK139.out 6
      go_wp2
      go_meet
      case rel => exact ⟨_, (true), (by first | rfl | (simp; done) | (simp [*]; done)), H', ⟨by first | omega | exact Nat.le_refl _⟩, ⟨by (with_reducible repeat (first | apply Kd.V_alloc | apply Kd.V_drewN | apply Kd.V_drew)); exact HO0_1.out⟩, ⟨by (with_reducible repeat (first | apply Kd.V_alloc | apply Kd.V_drewN | apply Kd.V_drew)); exact HO0_2.out⟩, ⟨by (with_reducible repeat (first | apply Kd.V_alloc | apply Kd.V_drewN | apply Kd.V_drew)); exact HO0_3.out⟩, ⟨by (with_reducible repeat (first | refine blk_drewN ?_ _ | refine blk_drew ?_ | refine blk_alloc ?_ _)); exact BK139.out⟩, ⟨by repeat (first | (with_reducible first | exact HB.out | apply below_alloc | apply pw_below_drewN | apply below_drew1 | refine below_set ?_ GE139.out) | exact HB.out)⟩⟩
    · rw [if_neg c4] at H
      have c4b0 : decide ((l0_2.length : Int) < 1) = false := decide_eq_false c4
      have c4b1 : decide (l0_2.length < 1) = false := decide_eq_false (by omega)
      clear c4
      (first | rw [c4b0] | (simp only [i64_w, i32_w]; rw [c4b0]) | skip)
      have H' := Aside0.mk H
      clear H
      have hcz6_0 : w3.cell? ⟨gb139, 0, none⟩ = some (.bool a0_0) := (blk_cell BK139.out 0).trans rfl
      have hcz6_1 : w3.cell? ⟨gb139, 1, none⟩ = some (.slice A0_1 l0_1.length c0_1) := (blk_cell BK139.out 1).trans rfl
      have hcz6_2 : w3.cell? ⟨gb139, 2, none⟩ = some (.slice A0_2 l0_2.length c0_2) := (blk_cell BK139.out 2).trans rfl
      have hcz6_3 : w3.cell? ⟨gb139, 3, none⟩ = some (.slice A0_3 l0_3.length c0_3) := (blk_cell BK139.out 3).trans rfl
      have hcz6_4 : w3.cell? ⟨gb139, 4, none⟩ = some (.bool a0_4) := (blk_cell BK139.out 4).trans rfl
      have hcz6_5 : w3.cell? ⟨gb139, 5, none⟩ = some (.slice A0_5 l0_5.length c0_5) := (blk_cell BK139.out 5).trans rfl
      have hcz6_6 : w3.cell? ⟨gb139, 6, none⟩ = some (.int .i64 a0_6) := (blk_cell BK139.out 6).trans rfl
      have hfz6_0 := blk_frozen BK139.out 0
      have hfz6_1 := blk_frozen BK139.out 1
      have hfz6_2 := blk_frozen BK139.out 2
      have hfz6_3 := blk_frozen BK139.out 3
      have hfz6_4 := blk_frozen BK139.out 4
      have hfz6_5 := blk_frozen BK139.out 5
      have hfz6_6 := blk_frozen BK139.out 6
      go_wp2
      go_meet
      case rel => exact ⟨_, (decide ((l0_2.length : Int) > 8)), (by first | rfl | (simp; done) | (simp [*]; done)), H', ⟨by first | omega | exact Nat.le_refl _⟩, ⟨by (with_reducible repeat (first | apply Kd.V_alloc | apply Kd.V_drewN | apply Kd.V_drew)); exact HO0_1.out⟩, ⟨by (with_reducible repeat (first | apply Kd.V_alloc | apply Kd.V_drewN | apply Kd.V_drew)); exact HO0_2.out⟩, ⟨by (with_reducible repeat (first | apply Kd.V_alloc | apply Kd.V_drewN | apply Kd.V_drew)); exact HO0_3.out⟩, ⟨by (with_reducible repeat (first | refine blk_drewN ?_ _ | refine blk_drew ?_ | refine blk_alloc ?_ _)); exact BK139.out⟩, ⟨by repeat (first | (with_reducible first | exact HB.out | apply below_alloc | apply pw_below_drewN | apply below_drew1 | refine below_set ?_ GE139.out) | exact HB.out)⟩⟩
  case rest =>
    clear HC2
    try clear c1
    try clear p2
    try clear c4
    try clear c4b0
    try clear c4b1
    try clear hcz5_0
    try clear hcz5_1
    try clear hcz5_2
    try clear hcz5_3
    try clear hcz5_4
    try clear hcz5_5
    try clear hcz5_6
    try clear hcz6_0
    try clear hcz6_1
    try clear hcz6_2
    try clear hcz6_3
    try clear hcz6_4
    try clear hcz6_5
    try clear hcz6_6
    try clear hfz5_0
    try clear hfz5_1
    try clear hfz5_2
    try clear hfz5_3
    try clear hfz5_4
    try clear hfz5_5
    try clear hfz5_6
    try clear hfz6_0
    try clear hfz6_1
    try clear hfz6_2
    try clear hfz6_3
    try clear hfz6_4
    try clear hfz6_5
    try clear hfz6_6
    obtain ⟨kq, x10_1, rfl, HA, HJ1, HO_140001, HO_140002, HO_140003, BK139, HB⟩ := hcut
    cases kq with
    | zero => exact absurd HA.out (by simp [rule_Check.j0])
    | succ kj1 =>
      have H := HA.out
      clear HA
      simp only [rule_Check.j0] at H
      by_cases c7 : x10_1 = true
      · subst c7
        have H1 : (some 70) = some r := by rw [if_pos rfl] at H; exact H
        clear H
        have H := H1
        clear H1
        obtain rfl := Option.some.inj H
        go_wp2
        go_ret
        exact ⟨by first | rfl | (simp [errW_none, errW_some] <;> rfl) | (simp [*, errW_none, errW_some] <;> rfl), by repeat (first | (with_reducible first | exact HB.out | apply below_alloc | apply pw_below_drewN | apply below_drew1 | refine below_set ?_ GE139.out) | exact HB.out)⟩
      · replace c7 := Bool.eq_false_iff.mpr c7
        subst c7
        have H1 : (if (l0_1.length : Int) > 8 then (some 72) else (if (l0_3.length : Int) > 8 then (some 72) else (if (l0_5.length : Int) > 16 then (some 72) else ((some (([l0_1, l0_2, l0_3] : List (List (List (S68)))) : List (List (List (S68))))).bind fun y140 => (rule_Check.l0 kj1 y140 (y140.length : Int) 0 a0_0 l0_1 l0_2 l0_3 a0_4 l0_5 a0_6))))) = some r := by rw [if_neg (show ¬ (false = true) by decide)] at H; exact H
        clear H
        have H := H1
        clear H1
        by_cases c8 : (l0_1.length : Int) > 8
        · rw [if_pos c8] at H
          have c8b0 : decide (8 < (l0_1.length : Int)) = true := decide_eq_true c8
          have c8b1 : decide (8 < l0_1.length) = true := decide_eq_true (by omega)
          clear c8
          obtain rfl := Option.some.inj H
          have hcz9_0 : wc.cell? ⟨gb139, 0, none⟩ = some (.bool a0_0) := (blk_cell BK139.out 0).trans rfl
          have hcz9_1 : wc.cell? ⟨gb139, 1, none⟩ = some (.slice A0_1 l0_1.length c0_1) := (blk_cell BK139.out 1).trans rfl
          have hcz9_2 : wc.cell? ⟨gb139, 2, none⟩ = some (.slice A0_2 l0_2.length c0_2) := (blk_cell BK139.out 2).trans rfl
          have hcz9_3 : wc.cell? ⟨gb139, 3, none⟩ = some (.slice A0_3 l0_3.length c0_3) := (blk_cell BK139.out 3).trans rfl
          have hcz9_4 : wc.cell? ⟨gb139, 4, none⟩ = some (.bool a0_4) := (blk_cell BK139.out 4).trans rfl
          have hcz9_5 : wc.cell? ⟨gb139, 5, none⟩ = some (.slice A0_5 l0_5.length c0_5) := (blk_cell BK139.out 5).trans rfl
          have hcz9_6 : wc.cell? ⟨gb139, 6, none⟩ = some (.int .i64 a0_6) := (blk_cell BK139.out 6).trans rfl
          have hfz9_0 := blk_frozen BK139.out 0
          have hfz9_1 := blk_frozen BK139.out 1
          have hfz9_2 := blk_frozen BK139.out 2
          have hfz9_3 := blk_frozen BK139.out 3
          have hfz9_4 := blk_frozen BK139.out 4
          have hfz9_5 := blk_frozen BK139.out 5
          have hfz9_6 := blk_frozen BK139.out 6
          go_wp2
          go_ret
          exact ⟨by first | rfl | (simp [errW_none, errW_some] <;> rfl) | (simp [*, errW_none, errW_some] <;> rfl), by repeat (first | (with_reducible first | exact HB.out | apply below_alloc | apply pw_below_drewN | apply below_drew1 | refine below_set ?_ GE139.out) | exact HB.out)⟩
        · rw [if_neg c8] at H
          have c8b0 : decide (8 < (l0_1.length : Int)) = false := decide_eq_false c8
          have c8b1 : decide (8 < l0_1.length) = false := decide_eq_false (by omega)
          clear c8
          by_cases c10 : (l0_3.length : Int) > 8
          · rw [if_pos c10] at H
            have c10b0 : decide (8 < (l0_3.length : Int)) = true := decide_eq_true c10
            have c10b1 : decide (8 < l0_3.length) = true := decide_eq_true (by omega)
            clear c10
            obtain rfl := Option.some.inj H
            have hcz11_0 : wc.cell? ⟨gb139, 0, none⟩ = some (.bool a0_0) := (blk_cell BK139.out 0).trans rfl
            have hcz11_1 : wc.cell? ⟨gb139, 1, none⟩ = some (.slice A0_1 l0_1.length c0_1) := (blk_cell BK139.out 1).trans rfl
            have hcz11_2 : wc.cell? ⟨gb139, 2, none⟩ = some (.slice A0_2 l0_2.length c0_2) := (blk_cell BK139.out 2).trans rfl
            have hcz11_3 : wc.cell? ⟨gb139, 3, none⟩ = some (.slice A0_3 l0_3.length c0_3) := (blk_cell BK139.out 3).trans rfl
            have hcz11_4 : wc.cell? ⟨gb139, 4, none⟩ = some (.bool a0_4) := (blk_cell BK139.out 4).trans rfl
            have hcz11_5 : wc.cell? ⟨gb139, 5, none⟩ = some (.slice A0_5 l0_5.length c0_5) := (blk_cell BK139.out 5).trans rfl
            have hcz11_6 : wc.cell? ⟨gb139, 6, none⟩ = some (.int .i64 a0_6) := (blk_cell BK139.out 6).trans rfl
            have hfz11_0 := blk_frozen BK139.out 0
            have hfz11_1 := blk_frozen BK139.out 1
            have hfz11_2 := blk_frozen BK139.out 2
            have hfz11_3 := blk_frozen BK139.out 3
            have hfz11_4 := blk_frozen BK139.out 4
            have hfz11_5 := blk_frozen BK139.out 5
            have hfz11_6 := blk_frozen BK139.out 6
            go_wp2
            go_ret
            exact ⟨by first | rfl | (simp [errW_none, errW_some] <;> rfl) | (simp [*, errW_none, errW_some] <;> rfl), by repeat (first | (with_reducible first | exact HB.out | apply below_alloc | apply pw_below_drewN | apply below_drew1 | refine below_set ?_ GE139.out) | exact HB.out)⟩
          · rw [if_neg c10] at H
            have c10b0 : decide (8 < (l0_3.length : Int)) = false := decide_eq_false c10
            have c10b1 : decide (8 < l0_3.length) = false := decide_eq_false (by omega)
            clear c10
            by_cases c12 : (l0_5.length : Int) > 16
            · rw [if_pos c12] at H
              have c12b0 : decide (16 < (l0_5.length : Int)) = true := decide_eq_true c12
              have c12b1 : decide (16 < l0_5.length) = true := decide_eq_true (by omega)
              clear c12
              obtain rfl := Option.some.inj H
              have hcz13_0 : wc.cell? ⟨gb139, 0, none⟩ = some (.bool a0_0) := (blk_cell BK139.out 0).trans rfl
              have hcz13_1 : wc.cell? ⟨gb139, 1, none⟩ = some (.slice A0_1 l0_1.length c0_1) := (blk_cell BK139.out 1).trans rfl
              have hcz13_2 : wc.cell? ⟨gb139, 2, none⟩ = some (.slice A0_2 l0_2.length c0_2) := (blk_cell BK139.out 2).trans rfl
              have hcz13_3 : wc.cell? ⟨gb139, 3, none⟩ = some (.slice A0_3 l0_3.length c0_3) := (blk_cell BK139.out 3).trans rfl
              have hcz13_4 : wc.cell? ⟨gb139, 4, none⟩ = some (.bool a0_4) := (blk_cell BK139.out 4).trans rfl
              have hcz13_5 : wc.cell? ⟨gb139, 5, none⟩ = some (.slice A0_5 l0_5.length c0_5) := (blk_cell BK139.out 5).trans rfl
              have hcz13_6 : wc.cell? ⟨gb139, 6, none⟩ = some (.int .i64 a0_6) := (blk_cell BK139.out 6).trans rfl
              have hfz13_0 := blk_frozen BK139.out 0
              have hfz13_1 := blk_frozen BK139.out 1
              have hfz13_2 := blk_frozen BK139.out 2
              have hfz13_3 := blk_frozen BK139.out 3
              have hfz13_4 := blk_frozen BK139.out 4
              have hfz13_5 := blk_frozen BK139.out 5
              have hfz13_6 := blk_frozen BK139.out 6
              go_wp2
              go_ret
              exact ⟨by first | rfl | (simp [errW_none, errW_some] <;> rfl) | (simp [*, errW_none, errW_some] <;> rfl), by repeat (first | (with_reducible first | exact HB.out | apply below_alloc | apply pw_below_drewN | apply below_drew1 | refine below_set ?_ GE139.out) | exact HB.out)⟩
            · rw [if_neg c12] at H
              have c12b0 : decide (16 < (l0_5.length : Int)) = false := decide_eq_false c12
              have c12b1 : decide (16 < l0_5.length) = false := decide_eq_false (by omega)
              clear c12
              obtain ⟨y140, hy140⟩ : ∃ y_ : List (List (List (S68))), y_ = (([l0_1, l0_2, l0_3] : List (List (List (S68))))) := ⟨_, rfl⟩
              replace H : (rule_Check.l0 kj1 y140 (y140.length : Int) 0 a0_0 l0_1 l0_2 l0_3 a0_4 l0_5 a0_6) = some r := by first | (rw [hy140]; with_reducible exact H) | (have H2_ := (Option.bind_some _ _).symm.trans H; rw [hy140]; with_reducible exact H2_) | (have H2_ := (Option.bind_some _ _).symm.trans H; with_reducible exact H2_) | with_reducible exact H | (rw [hy140]; exact H) | exact H
              have Ny140 := Aside0.mk hy140
              clear hy140
              have H' := Aside0.mk H
              clear H
              have hcz14_0 : wc.cell? ⟨gb139, 0, none⟩ = some (.bool a0_0) := (blk_cell BK139.out 0).trans rfl
              have hcz14_1 : wc.cell? ⟨gb139, 1, none⟩ = some (.slice A0_1 l0_1.length c0_1) := (blk_cell BK139.out 1).trans rfl
              have hcz14_2 : wc.cell? ⟨gb139, 2, none⟩ = some (.slice A0_2 l0_2.length c0_2) := (blk_cell BK139.out 2).trans rfl
              have hcz14_3 : wc.cell? ⟨gb139, 3, none⟩ = some (.slice A0_3 l0_3.length c0_3) := (blk_cell BK139.out 3).trans rfl
              have hcz14_4 : wc.cell? ⟨gb139, 4, none⟩ = some (.bool a0_4) := (blk_cell BK139.out 4).trans rfl
              have hcz14_5 : wc.cell? ⟨gb139, 5, none⟩ = some (.slice A0_5 l0_5.length c0_5) := (blk_cell BK139.out 5).trans rfl
              have hcz14_6 : wc.cell? ⟨gb139, 6, none⟩ = some (.int .i64 a0_6) := (blk_cell BK139.out 6).trans rfl
              have hfz14_0 := blk_frozen BK139.out 0
              have hfz14_1 := blk_frozen BK139.out 1
              have hfz14_2 := blk_frozen BK139.out 2
              have hfz14_3 := blk_frozen BK139.out 3
              have hfz14_4 := blk_frozen BK139.out 4
              have hfz14_5 := blk_frozen BK139.out 5
              have hfz14_6 := blk_frozen BK139.out 6
              go_wp2_with (first | ((with_reducible refine gate_dst (N := 44) rfl ?_); (try (refine gate_guard (by rfl) ?_; dsimp only)); refine Kd.N_lit (Kd.slice 41 (Kd.slice 68 k68)) _ 22 ?hg (N' := 44) ?hd (xs := ([l0_1, l0_2, l0_3] : List (List (List (S68))))) (inner := [.slice A0_1 l0_1.length c0_1, .slice A0_2 l0_2.length c0_2, .slice A0_3 l0_3.length c0_3]) (ok := (fun k_ => ((P0_1_ k_ ∨ P0_2_ k_ ∨ P0_3_ k_) ∨ w.heap.size ≤ k_) ∧ k_ ≠ gb139)) (okp := (fun k_ => ((P0_1_ k_ ∨ P0_2_ k_ ∨ P0_3_ k_) ∨ w.heap.size ≤ k_) ∧ k_ ≠ gb139)) ?hr ?hp (fun _ hk => hk) ((show ∀ k_, wc.heap.size ≤ k_ → (fun k_ => ((P0_1_ k_ ∨ P0_2_ k_ ∨ P0_3_ k_) ∨ w.heap.size ≤ k_) ∧ k_ ≠ gb139) k_ from fun k_ hk => ⟨(.inr (Nat.le_trans (below_size (by repeat (first | (with_reducible first | exact HB.out | apply below_alloc | apply pw_below_drewN | apply below_drew1 | refine below_set ?_ GE139.out) | exact HB.out))) hk)), Kd.freshB (g := gb139) (o := .cells #[.bool a0_0, .slice A0_1 l0_1.length c0_1, .slice A0_2 l0_2.length c0_2, .slice A0_3 l0_3.length c0_3, .bool a0_4, .slice A0_5 l0_5.length c0_5, .int .i64 a0_6] 25 (0, 0)) (by (with_reducible repeat (first | refine blk_drewN ?_ _ | refine blk_drew ?_ | refine blk_alloc ?_ _)); exact BK139.out) k_ hk⟩) _ (Nat.le_refl _)) (Below.refl _ _) (Nat.le_refl _) (by simp) ?_; (case hd => rfl); (case hg => rfl); (case hr => first | (go_simp; done) | (go_simp; rfl)); (case hp => exact (Reps.one (show Kd.FK (Kd.slice 41 (Kd.slice 68 k68)) _ _ l0_1 [.slice A0_1 l0_1.length c0_1] from (Kd.FK_slice_mk (Kd.V_reads' (Kd.V_mono (ok' := (fun k_ => ((P0_1_ k_ ∨ P0_2_ k_ ∨ P0_3_ k_) ∨ w.heap.size ≤ k_) ∧ k_ ≠ gb139)) (HO_140001.out) (fun k_ hk => ⟨hk.1, hk.2⟩))).2.1 (Kd.V_F (Kd.V_mono (ok' := (fun k_ => ((P0_1_ k_ ∨ P0_2_ k_ ∨ P0_3_ k_) ∨ w.heap.size ≤ k_) ∧ k_ ≠ gb139)) (HO_140001.out) (fun k_ hk => ⟨hk.1, hk.2⟩))))) (Reps.one (show Kd.FK (Kd.slice 41 (Kd.slice 68 k68)) _ _ l0_2 [.slice A0_2 l0_2.length c0_2] from (Kd.FK_slice_mk (Kd.V_reads' (Kd.V_mono (ok' := (fun k_ => ((P0_1_ k_ ∨ P0_2_ k_ ∨ P0_3_ k_) ∨ w.heap.size ≤ k_) ∧ k_ ≠ gb139)) (HO_140002.out) (fun k_ hk => ⟨hk.1, hk.2⟩))).2.1 (Kd.V_F (Kd.V_mono (ok' := (fun k_ => ((P0_1_ k_ ∨ P0_2_ k_ ∨ P0_3_ k_) ∨ w.heap.size ≤ k_) ∧ k_ ≠ gb139)) (HO_140002.out) (fun k_ hk => ⟨hk.1, hk.2⟩))))) (Reps.one (show Kd.FK (Kd.slice 41 (Kd.slice 68 k68)) _ _ l0_3 [.slice A0_3 l0_3.length c0_3] from (Kd.FK_slice_mk (Kd.V_reads' (Kd.V_mono (ok' := (fun k_ => ((P0_1_ k_ ∨ P0_2_ k_ ∨ P0_3_ k_) ∨ w.heap.size ≤ k_) ∧ k_ ≠ gb139)) (HO_140003.out) (fun k_ hk => ⟨hk.1, hk.2⟩))).2.1 (Kd.V_F (Kd.V_mono (ok' := (fun k_ => ((P0_1_ k_ ∨ P0_2_ k_ ∨ P0_3_ k_) ∨ w.heap.size ≤ k_) ∧ k_ ≠ gb139)) (HO_140003.out) (fun k_ hk => ⟨hk.1, hk.2⟩))))) (Reps.none _ _))))); intro v141 w15 ho16 hb hg_ hnew_; clear hg_ hnew_; (first | rw [← Ny140.out] at ho16 | (simp only [Int.reduceToNat] at ho16; rw [← Ny140.out] at ho16)); have n0_ := Aside0.mk (Kd.V_elder' (by (with_reducible repeat (first | apply Kd.V_alloc | apply Kd.V_drewN | apply Kd.V_drew)); exact HO_140001.out) (Kd.N_base ho16) hb); have n1_ := Aside0.mk (Kd.V_elder' (by (with_reducible repeat (first | apply Kd.V_alloc | apply Kd.V_drewN | apply Kd.V_drew)); exact HO_140002.out) (Kd.N_base ho16) hb); have n2_ := Aside0.mk (Kd.V_elder' (by (with_reducible repeat (first | apply Kd.V_alloc | apply Kd.V_drewN | apply Kd.V_drew)); exact HO_140003.out) (Kd.N_base ho16) hb); have n3_ := Aside0.mk (Kd.N_lower ho16 (below_size (by repeat (first | (with_reducible first | exact HB.out | apply below_alloc | apply pw_below_drewN | apply below_drew1 | refine below_set ?_ GE139.out) | exact HB.out)))); have n4_ := Aside0.mk (blk_below (g := gb139) (o := .cells #[.bool a0_0, .slice A0_1 l0_1.length c0_1, .slice A0_2 l0_2.length c0_2, .slice A0_3 l0_3.length c0_3, .bool a0_4, .slice A0_5 l0_5.length c0_5, .int .i64 a0_6] 25 (0, 0)) (by (with_reducible repeat (first | refine blk_drewN ?_ _ | refine blk_drew ?_ | refine blk_alloc ?_ _)); exact BK139.out) hb); have n5_ := Aside0.mk (below_step (by repeat (first | (with_reducible first | exact HB.out | apply below_alloc | apply pw_below_drewN | apply below_drew1 | refine below_set ?_ GE139.out) | exact HB.out)) hb); clear HO_140001; clear HO_140002; clear HO_140003; clear BK139; clear HB; have HO_140001 := n0_; have HO_140002 := n1_; have HO_140003 := n2_; have HO142 := n3_; have BK139 := n4_; have HB := n5_; clear n0_ n1_ n2_ n3_ n4_ n5_; clear hb ho16; obtain ⟨Ao17, co17, eo17⟩ := Kd.N_slice HO142.out; subst eo17))
              go_loopg [46] kj1 (fun kq v46 w' => ∃ (x46_2 : Int), v46 = .int .i64 x46_2 ∧ Aside0 (rule_Check.l0 kq y140 (y140.length : Int) x46_2 a0_0 l0_1 l0_2 l0_3 a0_4 l0_5 a0_6 = some r) ∧ Aside0 (kq ≤ kj1) ∧ Aside0 (Kd.N (Kd.slice 41 (Kd.slice 68 k68)) 22 w' w.heap.size (fun k_ => ((P0_1_ k_ ∨ P0_2_ k_ ∨ P0_3_ k_) ∨ w.heap.size ≤ k_) ∧ k_ ≠ gb139) (.slice Ao17 y140.length co17) y140) ∧ Aside0 (Kd.V (Kd.slice 68 k68) 41 w' w.heap.size (fun k_ => ((P0_1_ k_ ∨ P0_2_ k_ ∨ P0_3_ k_) ∨ w.heap.size ≤ k_) ∧ some k_ ≠ ((.slice Ao17 y140.length co17) : Value).ownBlock ∧ k_ ≠ gb139) (.slice A0_1 l0_1.length c0_1) l0_1) ∧ Aside0 (Kd.V (Kd.slice 68 k68) 41 w' w.heap.size (fun k_ => ((P0_1_ k_ ∨ P0_2_ k_ ∨ P0_3_ k_) ∨ w.heap.size ≤ k_) ∧ some k_ ≠ ((.slice Ao17 y140.length co17) : Value).ownBlock ∧ k_ ≠ gb139) (.slice A0_2 l0_2.length c0_2) l0_2) ∧ Aside0 (Kd.V (Kd.slice 68 k68) 41 w' w.heap.size (fun k_ => ((P0_1_ k_ ∨ P0_2_ k_ ∨ P0_3_ k_) ∨ w.heap.size ≤ k_) ∧ some k_ ≠ ((.slice Ao17 y140.length co17) : Value).ownBlock ∧ k_ ≠ gb139) (.slice A0_3 l0_3.length c0_3) l0_3) ∧ Aside0 (w'.heap[gb139]? = some (.cells #[.bool a0_0, (.slice A0_1 l0_1.length c0_1), (.slice A0_2 l0_2.length c0_2), (.slice A0_3 l0_3.length c0_3), .bool a0_4, (.slice A0_5 l0_5.length c0_5), .int .i64 a0_6] 25 (0, 0))) ∧ Aside0 (Below w.heap.size w w'))
              case atStart => exact ⟨(0), (by first | rfl | (simp; done) | (simp [*]; done)), H', ⟨Nat.le_refl _⟩, ⟨by (with_reducible repeat (first | apply Kd.N_alloc | apply Kd.N_drewN | apply Kd.N_drew)); exact HO142.out⟩, ⟨by (with_reducible repeat (first | apply Kd.V_alloc | apply Kd.V_drewN | apply Kd.V_drew)); exact Kd.V_mono HO_140001.out (fun _ hk => ⟨hk.1.1, ⟨hk.2, hk.1.2⟩⟩)⟩, ⟨by (with_reducible repeat (first | apply Kd.V_alloc | apply Kd.V_drewN | apply Kd.V_drew)); exact Kd.V_mono HO_140002.out (fun _ hk => ⟨hk.1.1, ⟨hk.2, hk.1.2⟩⟩)⟩, ⟨by (with_reducible repeat (first | apply Kd.V_alloc | apply Kd.V_drewN | apply Kd.V_drew)); exact Kd.V_mono HO_140003.out (fun _ hk => ⟨hk.1.1, ⟨hk.2, hk.1.2⟩⟩)⟩, ⟨by (with_reducible repeat (first | refine blk_drewN ?_ _ | refine blk_drew ?_ | refine blk_alloc ?_ _)); exact BK139.out⟩, ⟨by repeat (first | (with_reducible first | exact HB.out | apply below_alloc | apply pw_below_drewN | apply below_drew1 | refine below_set ?_ GE139.out) | exact HB.out)⟩⟩
              case round =>
                clear H'
                try clear c1
                try clear p2
                try clear c4
                try clear c4b0
                try clear c4b1
                try clear c7
                try clear c8
                try clear c8b0
                try clear c8b1
                try clear c10
                try clear c10b0
                try clear c10b1
                try clear c12
                try clear c12b0
                try clear c12b1
                try clear hcz11_0
                try clear hcz11_1
                try clear hcz11_2
                try clear hcz11_3
                try clear hcz11_4
                try clear hcz11_5
                try clear hcz11_6
                try clear hcz13_0
                try clear hcz13_1
                try clear hcz13_2
                try clear hcz13_3
                try clear hcz13_4
                try clear hcz13_5
                try clear hcz13_6
                try clear hcz14_0
                try clear hcz14_1
                try clear hcz14_2
                try clear hcz14_3
                try clear hcz14_4
                try clear hcz14_5
                try clear hcz14_6
                try clear hcz5_0
                try clear hcz5_1
                try clear hcz5_2
                try clear hcz5_3
                try clear hcz5_4
                try clear hcz5_5
                try clear hcz5_6
                try clear hcz6_0
                try clear hcz6_1
                try clear hcz6_2
                try clear hcz6_3
                try clear hcz6_4
                try clear hcz6_5
                try clear hcz6_6
                try clear hcz9_0
                try clear hcz9_1
                try clear hcz9_2
                try clear hcz9_3
                try clear hcz9_4
                try clear hcz9_5
                try clear hcz9_6
                try clear hfz11_0
                try clear hfz11_1
                try clear hfz11_2
                try clear hfz11_3
                try clear hfz11_4
                try clear hfz11_5
                try clear hfz11_6
                try clear hfz13_0
                try clear hfz13_1
                try clear hfz13_2
                try clear hfz13_3
                try clear hfz13_4
                try clear hfz13_5
                try clear hfz13_6
                try clear hfz14_0
                try clear hfz14_1
                try clear hfz14_2
                try clear hfz14_3
                try clear hfz14_4
                try clear hfz14_5
                try clear hfz14_6
                try clear hfz5_0
                try clear hfz5_1
                try clear hfz5_2
                try clear hfz5_3
                try clear hfz5_4
                try clear hfz5_5
                try clear hfz5_6
                try clear hfz6_0
                try clear hfz6_1
                try clear hfz6_2
                try clear hfz6_3
                try clear hfz6_4
                try clear hfz6_5
                try clear hfz6_6
                try clear hfz9_0
                try clear hfz9_1
                try clear hfz9_2
                try clear hfz9_3
                try clear hfz9_4
                try clear hfz9_5
                try clear hfz9_6
                try clear p2
                obtain ⟨x46_2, rfl, HA, HK2, HO_44, HO_140001, HO_140002, HO_140003, BK139, HB⟩ := hrel
                cases gk with
                | zero => exact absurd HA.out (by simp [rule_Check.l0])
                | succ k2 =>
                  have H := HA.out
                  clear HA
                  simp only [rule_Check.l0] at H
                  by_cases c18 : x46_2 < (y140.length : Int)
                  · rw [if_pos c18] at H
                    have c18b0 : decide (x46_2 < (y140.length : Int)) = true := decide_eq_true c18
                    clear c18
                    by_cases c19 : 0 ≤ x46_2
                    · rw [if_pos c19] at H
                      have c19b0 : decide (0 ≤ x46_2) = true := decide_eq_true c19
                      clear c19
                      by_cases c20 : x46_2 < (y140.length : Int)
                      · rw [if_pos c20] at H
                        have c20b0 : decide (x46_2 < (y140.length : Int)) = true := decide_eq_true c20
                        clear c20
                        have H' := Aside0.mk H
                        clear H
                        have p143 : 0 ≤ (x46_2 : Int) := of_decide_eq_true (by first | (with_reducible assumption) | assumption)
                        have q143 : x46_2 < (y140.length : Int) := of_decide_eq_true (by first | (with_reducible assumption) | assumption)
                        obtain ⟨ad143, A143_0, c143_0, e143, hx143_0, hl143_0, hi143_0⟩ := at_L4 (Kd.N_reads' HO_44.out).2.2 x46_2 p143 q143
                        cases e143
                        obtain ⟨ce143, hce143, hMe143, hcc143⟩ := Kd.N_get HO_44.out [] x46_2 p143 (by first | exact q143 | exact of_decide_eq_true (by first | (with_reducible assumption) | assumption) | (have e_ := (Kd.N_reads' HO_44.out).1; omega))
                        obtain ⟨ua143_0, uc143_0, rfl, ul143_0, ge143_0⟩ := Kd.FK_slice_open hMe143
                        have hv143_0 := hcc143 0 _ rfl
                        rw [Nat.add_zero, show ((Kd.slice 41 (Kd.slice 68 k68))).sz = 1 from rfl, Nat.mul_one] at hv143_0
                        replace hv143_0 := Option.some.inj (hv143_0.symm.trans hx143_0)
                        injection hv143_0 with hva_ hvn_ hvc_
                        rw [hva_] at ge143_0
                        rw [hvc_] at ul143_0
                        have HL143_0 := Aside0.mk (show Kd.V (Kd.slice 68 k68) 41 _ w.heap.size _ _ (rd_L4 y140 x46_2) from Kd.V_mk ul143_0 ge143_0)
                        clear hva_ hvn_ hvc_ ge143_0 ul143_0
                        clear hcc143 hce143
                        have HR143_0 := Aside0.mk hi143_0
                        have HC143_0 := Aside0.mk hl143_0
                        clear hi143_0 hl143_0
                        replace p143 := eq_true p143
                        replace q143 := eq_true q143
                        go_wp2
                        go_loopg [52] k2 (fun kq v52 w' => ∃ (x52_3 : Int), v52 = .int .i64 x52_3 ∧ Aside0 (rule_Check.l1 kq y140 (y140.length : Int) x46_2 (rd_L4 y140 x46_2) ((rd_L4 y140 x46_2).length : Int) x52_3 a0_0 l0_1 l0_2 l0_3 a0_4 l0_5 a0_6 = some r) ∧ Aside0 (kq ≤ k2) ∧ Aside0 (Kd.N (Kd.slice 41 (Kd.slice 68 k68)) 22 w' w.heap.size (fun k_ => ((P0_1_ k_ ∨ P0_2_ k_ ∨ P0_3_ k_) ∨ w.heap.size ≤ k_) ∧ k_ ≠ gb139) (.slice (some ad143) y140.length co17) y140) ∧ Aside0 (Kd.V (Kd.slice 68 k68) 41 w' w.heap.size (fun k_ => ((P0_1_ k_ ∨ P0_2_ k_ ∨ P0_3_ k_) ∨ w.heap.size ≤ k_) ∧ some k_ ≠ ((.slice (some ad143) y140.length co17) : Value).ownBlock ∧ k_ ≠ gb139) (.slice A0_1 l0_1.length c0_1) l0_1) ∧ Aside0 (Kd.V (Kd.slice 68 k68) 41 w' w.heap.size (fun k_ => ((P0_1_ k_ ∨ P0_2_ k_ ∨ P0_3_ k_) ∨ w.heap.size ≤ k_) ∧ some k_ ≠ ((.slice (some ad143) y140.length co17) : Value).ownBlock ∧ k_ ≠ gb139) (.slice A0_2 l0_2.length c0_2) l0_2) ∧ Aside0 (Kd.V (Kd.slice 68 k68) 41 w' w.heap.size (fun k_ => ((P0_1_ k_ ∨ P0_2_ k_ ∨ P0_3_ k_) ∨ w.heap.size ≤ k_) ∧ some k_ ≠ ((.slice (some ad143) y140.length co17) : Value).ownBlock ∧ k_ ≠ gb139) (.slice A0_3 l0_3.length c0_3) l0_3) ∧ Aside0 (w'.heap[gb139]? = some (.cells #[.bool a0_0, (.slice A0_1 l0_1.length c0_1), (.slice A0_2 l0_2.length c0_2), (.slice A0_3 l0_3.length c0_3), .bool a0_4, (.slice A0_5 l0_5.length c0_5), .int .i64 a0_6] 25 (0, 0))) ∧ Aside0 (Kd.C (Kd.slice 68 k68) w' A143_0 (rd_L4 y140 x46_2).length (rd_L4 y140 x46_2)) ∧ Aside0 (Below w.heap.size w w'))
                        case atStart => exact ⟨(0), (by first | rfl | (simp; done) | (simp [*]; done)), H', ⟨Nat.le_refl _⟩, ⟨by (with_reducible repeat (first | apply Kd.N_alloc | apply Kd.N_drewN | apply Kd.N_drew)); exact HO_44.out⟩, ⟨by (with_reducible repeat (first | apply Kd.V_alloc | apply Kd.V_drewN | apply Kd.V_drew)); exact HO_140001.out⟩, ⟨by (with_reducible repeat (first | apply Kd.V_alloc | apply Kd.V_drewN | apply Kd.V_drew)); exact HO_140002.out⟩, ⟨by (with_reducible repeat (first | apply Kd.V_alloc | apply Kd.V_drewN | apply Kd.V_drew)); exact HO_140003.out⟩, ⟨by (with_reducible repeat (first | refine blk_drewN ?_ _ | refine blk_drew ?_ | refine blk_alloc ?_ _)); exact BK139.out⟩, ⟨by repeat (first | (with_reducible exact HR143_0.out) | (with_reducible refine Kd.C_alloc ?_ _) | (with_reducible refine Kd.C_drewN ?_ _) | (with_reducible refine Kd.C_drew ?_) | exact HR143_0.out)⟩, ⟨by repeat (first | (with_reducible first | exact HB.out | apply below_alloc | apply pw_below_drewN | apply below_drew1 | refine below_set ?_ GE139.out) | exact HB.out)⟩⟩
                        case round =>
                          clear H'
                          try clear c1
                          try clear p1
                          try clear q1
                          try clear hx1
                          try clear c2
                          try clear p2
                          try clear c4
                          try clear c4b0
                          try clear c4b1
                          try clear c7
                          try clear c8
                          try clear c8b0
                          try clear c8b1
                          try clear c10
                          try clear c10b0
                          try clear c10b1
                          try clear c12
                          try clear c12b0
                          try clear c12b1
                          try clear c14
                          try clear p14
                          try clear q14
                          try clear hx14
                          try clear c18
                          try clear c18b0
                          try clear c19
                          try clear c19b0
                          try clear c20
                          try clear c20b0
                          try clear hcz11_0
                          try clear hcz11_1
                          try clear hcz11_2
                          try clear hcz11_3
                          try clear hcz11_4
                          try clear hcz11_5
                          try clear hcz11_6
                          try clear hcz13_0
                          try clear hcz13_1
                          try clear hcz13_2
                          try clear hcz13_3
                          try clear hcz13_4
                          try clear hcz13_5
                          try clear hcz13_6
                          try clear hcz14_0
                          try clear hcz14_1
                          try clear hcz14_2
                          try clear hcz14_3
                          try clear hcz14_4
                          try clear hcz14_5
                          try clear hcz14_6
                          try clear hcz5_0
                          try clear hcz5_1
                          try clear hcz5_2
                          try clear hcz5_3
                          try clear hcz5_4
                          try clear hcz5_5
                          try clear hcz5_6
                          try clear hcz6_0
                          try clear hcz6_1
                          try clear hcz6_2
                          try clear hcz6_3
                          try clear hcz6_4
                          try clear hcz6_5
                          try clear hcz6_6
                          try clear hcz9_0
                          try clear hcz9_1
                          try clear hcz9_2
                          try clear hcz9_3
                          try clear hcz9_4
                          try clear hcz9_5
                          try clear hcz9_6
                          try clear hfz11_0
                          try clear hfz11_1
                          try clear hfz11_2
                          try clear hfz11_3
                          try clear hfz11_4
                          try clear hfz11_5
                          try clear hfz11_6
                          try clear hfz13_0
                          try clear hfz13_1
                          try clear hfz13_2
                          try clear hfz13_3
                          try clear hfz13_4
                          try clear hfz13_5
                          try clear hfz13_6
                          try clear hfz14_0
                          try clear hfz14_1
                          try clear hfz14_2
                          try clear hfz14_3
                          try clear hfz14_4
                          try clear hfz14_5
                          try clear hfz14_6
                          try clear hfz5_0
                          try clear hfz5_1
                          try clear hfz5_2
                          try clear hfz5_3
                          try clear hfz5_4
                          try clear hfz5_5
                          try clear hfz5_6
                          try clear hfz6_0
                          try clear hfz6_1
                          try clear hfz6_2
                          try clear hfz6_3
                          try clear hfz6_4
                          try clear hfz6_5
                          try clear hfz6_6
                          try clear hfz9_0
                          try clear hfz9_1
                          try clear hfz9_2
                          try clear hfz9_3
                          try clear hfz9_4
                          try clear hfz9_5
                          try clear hfz9_6
                          try clear hx143_0
                          try clear p143
                          try clear p2
                          try clear q143
                          obtain ⟨x52_3, rfl, HA, HK3, HO_44, HO_140001, HO_140002, HO_140003, BK139, HR143_0, HB⟩ := hrel
                          cases gk with
                          | zero => exact absurd HA.out (by simp [rule_Check.l1])
                          | succ k3 =>
                            have H := HA.out
                            clear HA
                            simp only [rule_Check.l1] at H
                            by_cases c21 : x52_3 < ((rd_L4 y140 x46_2).length : Int)
                            · rw [if_pos c21] at H
                              have c21b0 : decide (x52_3 < ((rd_L4 y140 x46_2).length : Int)) = true := decide_eq_true c21
                              clear c21
                              by_cases c22 : 0 ≤ x52_3
                              · rw [if_pos c22] at H
                                have c22b0 : decide (0 ≤ x52_3) = true := decide_eq_true c22
                                clear c22
                                by_cases c23 : x52_3 < ((rd_L4 y140 x46_2).length : Int)
                                · rw [if_pos c23] at H
                                  have c23b0 : decide (x52_3 < ((rd_L4 y140 x46_2).length : Int)) = true := decide_eq_true c23
                                  clear c23
                                  replace H := Option.bind_eq_some_iff.mp H
                                  obtain ⟨t145, A240, H⟩ := H
                                  replace H : (if t145 = true then (if ((rd_L2 (rd_L4 y140 x46_2) x52_3).length : Int) = 0 then (some 71) else (rule_Check.l1 k3 y140 (y140.length : Int) x46_2 (rd_L4 y140 x46_2) ((rd_L4 y140 x46_2).length : Int) (wrap64 (x52_3 + 1)) a0_0 l0_1 l0_2 l0_3 a0_4 l0_5 a0_6)) else (some 71)) = some r := H
                                  have A24 := Aside0.mk A240
                                  clear A240
                                  by_cases c25 : t145 = true
                                  · subst c25
                                    have H1 : (if ((rd_L2 (rd_L4 y140 x46_2) x52_3).length : Int) = 0 then (some 71) else (rule_Check.l1 k3 y140 (y140.length : Int) x46_2 (rd_L4 y140 x46_2) ((rd_L4 y140 x46_2).length : Int) (wrap64 (x52_3 + 1)) a0_0 l0_1 l0_2 l0_3 a0_4 l0_5 a0_6)) = some r := by rw [if_pos rfl] at H; exact H
                                    clear H
                                    have H := H1
                                    clear H1
                                    by_cases c26 : ((rd_L2 (rd_L4 y140 x46_2) x52_3).length : Int) = 0
                                    · rw [if_pos c26] at H
                                      have c26b0 : (((rd_L2 (rd_L4 y140 x46_2) x52_3).length : Int) == 0) = true := beq_iff_eq.mpr c26
                                      have c26b1 : (((rd_L2 (rd_L4 y140 x46_2) x52_3).length : Int) != 0) = false := bne_eq_false_iff_eq.mpr c26
                                      clear c26
                                      obtain rfl := Option.some.inj H
                                      have p144 : 0 ≤ (x52_3 : Int) := of_decide_eq_true (by first | (with_reducible assumption) | assumption)
                                      have q144 : x52_3 < ((rd_L4 y140 x46_2).length : Int) := of_decide_eq_true (by first | (with_reducible assumption) | assumption)
                                      obtain ⟨ad144, A144_0, c144_0, e144, hx144_0, hl144_0, hi144_0⟩ := at_L2 HR143_0.out x52_3 p144 q144
                                      cases e144
                                      try replace hx144_0 := (HB.out.cell (World.block_lt_of_cell? w _ hx144_0)).trans hx144_0
                                      have HR144_0 := Aside0.mk hi144_0
                                      have HC144_0 := Aside0.mk hl144_0
                                      clear hi144_0 hl144_0
                                      replace p144 := eq_true p144
                                      replace q144 := eq_true q144
                                      go_wp2_with (first | ((with_reducible refine gate_callee (f := 21) rfl ?_); refine goesL_ (some 57) rfl rfl Try.func21 (by kernel_rfl) rfl #[.slice A144_0 (rd_L2 (rd_L4 y140 x46_2) x52_3).length c144_0] rfl (by (try simp only [List.map_toArray, List.map_cons, List.map_nil]); first | done | rfl | (simp only [List.length_drop, List.length_take]; rfl)) ?_; (with_reducible refine (set_Valid.calls k3 _ _ (rd_L2 (rd_L4 y140 x46_2) x52_3) true _ ?side1 ?side2 A24.out).mono ?_); (case side1 => repeat (first | exact (Kd.C_below HR144_0.out HB.out) | exact HR144_0.out | (with_reducible refine Kd.C_alloc ?_ _) | (with_reducible refine Kd.C_drewN ?_ _) | (with_reducible refine Kd.C_drew ?_))); (case side2 => exact HC144_0.out); rintro e w27 ⟨rfl, hb⟩; refine ⟨_, rfl, ?_⟩; have n0_ := Aside0.mk (Kd.N_below (by (with_reducible repeat (first | apply Kd.N_alloc | apply Kd.N_drewN | apply Kd.N_drew)); exact HO_44.out) hb); have n1_ := Aside0.mk (Kd.V_below (by (with_reducible repeat (first | apply Kd.V_alloc | apply Kd.V_drewN | apply Kd.V_drew)); exact HO_140001.out) hb); have n2_ := Aside0.mk (Kd.V_below (by (with_reducible repeat (first | apply Kd.V_alloc | apply Kd.V_drewN | apply Kd.V_drew)); exact HO_140002.out) hb); have n3_ := Aside0.mk (Kd.V_below (by (with_reducible repeat (first | apply Kd.V_alloc | apply Kd.V_drewN | apply Kd.V_drew)); exact HO_140003.out) hb); have n4_ := Aside0.mk (blk_below (g := gb139) (o := .cells #[.bool a0_0, .slice A0_1 l0_1.length c0_1, .slice A0_2 l0_2.length c0_2, .slice A0_3 l0_3.length c0_3, .bool a0_4, .slice A0_5 l0_5.length c0_5, .int .i64 a0_6] 25 (0, 0)) (by (with_reducible repeat (first | refine blk_drewN ?_ _ | refine blk_drew ?_ | refine blk_alloc ?_ _)); exact BK139.out) hb); have n5_ := Aside0.mk (Kd.C_below (by repeat (first | (with_reducible exact HR143_0.out) | (with_reducible refine Kd.C_alloc ?_ _) | (with_reducible refine Kd.C_drewN ?_ _) | (with_reducible refine Kd.C_drew ?_) | exact HR143_0.out)) hb); have n6_ := Aside0.mk (below_step (by repeat (first | (with_reducible first | exact HB.out | apply below_alloc | apply pw_below_drewN | apply below_drew1 | refine below_set ?_ GE139.out) | exact HB.out)) hb); clear HO_44; clear HO_140001; clear HO_140002; clear HO_140003; clear BK139; clear HR143_0; clear HB; have HO_44 := n0_; have HO_140001 := n1_; have HO_140002 := n2_; have HO_140003 := n3_; have BK139 := n4_; have HR143_0 := n5_; have HB := n6_; clear n0_ n1_ n2_ n3_ n4_ n5_ n6_; (try clear hb); (try clear hb2); (try clear hk); (try clear hi)))
                                      go_ret
                                      exact ⟨by first | rfl | (simp [errW_none, errW_some] <;> rfl) | (simp [*, errW_none, errW_some] <;> rfl), by repeat (first | (with_reducible first | exact HB.out | apply below_alloc | apply pw_below_drewN | apply below_drew1 | refine below_set ?_ GE139.out) | exact HB.out)⟩
                                    · rw [if_neg c26] at H
                                      have c26b0 : (((rd_L2 (rd_L4 y140 x46_2) x52_3).length : Int) == 0) = false := beq_eq_false_iff_ne.mpr c26
                                      have c26b1 : (((rd_L2 (rd_L4 y140 x46_2) x52_3).length : Int) != 0) = true := bne_iff_ne.mpr c26
                                      have c26b2 : ¬ ((rd_L2 (rd_L4 y140 x46_2) x52_3) = []) := fun h_ => c26 (by rw [h_]; rfl)
                                      have H' := Aside0.mk H
                                      clear H
                                      have p144 : 0 ≤ (x52_3 : Int) := of_decide_eq_true (by first | (with_reducible assumption) | assumption)
                                      have q144 : x52_3 < ((rd_L4 y140 x46_2).length : Int) := of_decide_eq_true (by first | (with_reducible assumption) | assumption)
                                      obtain ⟨ad144, A144_0, c144_0, e144, hx144_0, hl144_0, hi144_0⟩ := at_L2 HR143_0.out x52_3 p144 q144
                                      cases e144
                                      try replace hx144_0 := (HB.out.cell (World.block_lt_of_cell? w _ hx144_0)).trans hx144_0
                                      have HR144_0 := Aside0.mk hi144_0
                                      have HC144_0 := Aside0.mk hl144_0
                                      clear hi144_0 hl144_0
                                      replace p144 := eq_true p144
                                      replace q144 := eq_true q144
                                      go_wp2_with (first | ((with_reducible refine gate_callee (f := 21) rfl ?_); refine goesL_ (some 57) rfl rfl Try.func21 (by kernel_rfl) rfl #[.slice A144_0 (rd_L2 (rd_L4 y140 x46_2) x52_3).length c144_0] rfl (by (try simp only [List.map_toArray, List.map_cons, List.map_nil]); first | done | rfl | (simp only [List.length_drop, List.length_take]; rfl)) ?_; (with_reducible refine (set_Valid.calls k3 _ _ (rd_L2 (rd_L4 y140 x46_2) x52_3) true _ ?side1 ?side2 A24.out).mono ?_); (case side1 => repeat (first | exact (Kd.C_below HR144_0.out HB.out) | exact HR144_0.out | (with_reducible refine Kd.C_alloc ?_ _) | (with_reducible refine Kd.C_drewN ?_ _) | (with_reducible refine Kd.C_drew ?_))); (case side2 => exact HC144_0.out); rintro e w28 ⟨rfl, hb⟩; refine ⟨_, rfl, ?_⟩; have n0_ := Aside0.mk (Kd.N_below (by (with_reducible repeat (first | apply Kd.N_alloc | apply Kd.N_drewN | apply Kd.N_drew)); exact HO_44.out) hb); have n1_ := Aside0.mk (Kd.V_below (by (with_reducible repeat (first | apply Kd.V_alloc | apply Kd.V_drewN | apply Kd.V_drew)); exact HO_140001.out) hb); have n2_ := Aside0.mk (Kd.V_below (by (with_reducible repeat (first | apply Kd.V_alloc | apply Kd.V_drewN | apply Kd.V_drew)); exact HO_140002.out) hb); have n3_ := Aside0.mk (Kd.V_below (by (with_reducible repeat (first | apply Kd.V_alloc | apply Kd.V_drewN | apply Kd.V_drew)); exact HO_140003.out) hb); have n4_ := Aside0.mk (blk_below (g := gb139) (o := .cells #[.bool a0_0, .slice A0_1 l0_1.length c0_1, .slice A0_2 l0_2.length c0_2, .slice A0_3 l0_3.length c0_3, .bool a0_4, .slice A0_5 l0_5.length c0_5, .int .i64 a0_6] 25 (0, 0)) (by (with_reducible repeat (first | refine blk_drewN ?_ _ | refine blk_drew ?_ | refine blk_alloc ?_ _)); exact BK139.out) hb); have n5_ := Aside0.mk (Kd.C_below (by repeat (first | (with_reducible exact HR143_0.out) | (with_reducible refine Kd.C_alloc ?_ _) | (with_reducible refine Kd.C_drewN ?_ _) | (with_reducible refine Kd.C_drew ?_) | exact HR143_0.out)) hb); have n6_ := Aside0.mk (below_step (by repeat (first | (with_reducible first | exact HB.out | apply below_alloc | apply pw_below_drewN | apply below_drew1 | refine below_set ?_ GE139.out) | exact HB.out)) hb); clear HO_44; clear HO_140001; clear HO_140002; clear HO_140003; clear BK139; clear HR143_0; clear HB; have HO_44 := n0_; have HO_140001 := n1_; have HO_140002 := n2_; have HO_140003 := n3_; have BK139 := n4_; have HR143_0 := n5_; have HB := n6_; clear n0_ n1_ n2_ n3_ n4_ n5_ n6_; (try clear hb); (try clear hb2); (try clear hk); (try clear hi)))
                                      go_roundg k3
                                      case measure => have := HJ1.out; have := HK2.out; have := HK3.out; omega
                                      case rel => exact ⟨(wrap64 (x52_3 + 1)), (by first | rfl | (simp; done) | (simp [*]; done)), H', ⟨by have := HJ1.out; have := HK2.out; have := HK3.out; omega⟩, ⟨by (with_reducible repeat (first | apply Kd.N_alloc | apply Kd.N_drewN | apply Kd.N_drew)); exact HO_44.out⟩, ⟨by (with_reducible repeat (first | apply Kd.V_alloc | apply Kd.V_drewN | apply Kd.V_drew)); exact HO_140001.out⟩, ⟨by (with_reducible repeat (first | apply Kd.V_alloc | apply Kd.V_drewN | apply Kd.V_drew)); exact HO_140002.out⟩, ⟨by (with_reducible repeat (first | apply Kd.V_alloc | apply Kd.V_drewN | apply Kd.V_drew)); exact HO_140003.out⟩, ⟨by (with_reducible repeat (first | refine blk_drewN ?_ _ | refine blk_drew ?_ | refine blk_alloc ?_ _)); exact BK139.out⟩, ⟨by repeat (first | (with_reducible exact HR143_0.out) | (with_reducible refine Kd.C_alloc ?_ _) | (with_reducible refine Kd.C_drewN ?_ _) | (with_reducible refine Kd.C_drew ?_) | exact HR143_0.out)⟩, ⟨by repeat (first | (with_reducible first | exact HB.out | apply below_alloc | apply pw_below_drewN | apply below_drew1 | refine below_set ?_ GE139.out) | exact HB.out)⟩⟩
                                  · replace c25 := Bool.eq_false_iff.mpr c25
                                    subst c25
                                    have H1 : (some 71) = some r := by rw [if_neg (show ¬ (false = true) by decide)] at H; exact H
                                    clear H
                                    have H := H1
                                    clear H1
                                    obtain rfl := Option.some.inj H
                                    have p144 : 0 ≤ (x52_3 : Int) := of_decide_eq_true (by first | (with_reducible assumption) | assumption)
                                    have q144 : x52_3 < ((rd_L4 y140 x46_2).length : Int) := of_decide_eq_true (by first | (with_reducible assumption) | assumption)
                                    obtain ⟨ad144, A144_0, c144_0, e144, hx144_0, hl144_0, hi144_0⟩ := at_L2 HR143_0.out x52_3 p144 q144
                                    cases e144
                                    try replace hx144_0 := (HB.out.cell (World.block_lt_of_cell? w _ hx144_0)).trans hx144_0
                                    have HR144_0 := Aside0.mk hi144_0
                                    have HC144_0 := Aside0.mk hl144_0
                                    clear hi144_0 hl144_0
                                    replace p144 := eq_true p144
                                    replace q144 := eq_true q144
                                    go_wp2_with (first | ((with_reducible refine gate_callee (f := 21) rfl ?_); refine goesL_ (some 57) rfl rfl Try.func21 (by kernel_rfl) rfl #[.slice A144_0 (rd_L2 (rd_L4 y140 x46_2) x52_3).length c144_0] rfl (by (try simp only [List.map_toArray, List.map_cons, List.map_nil]); first | done | rfl | (simp only [List.length_drop, List.length_take]; rfl)) ?_; (with_reducible refine (set_Valid.calls k3 _ _ (rd_L2 (rd_L4 y140 x46_2) x52_3) false _ ?side1 ?side2 A24.out).mono ?_); (case side1 => repeat (first | exact (Kd.C_below HR144_0.out HB.out) | exact HR144_0.out | (with_reducible refine Kd.C_alloc ?_ _) | (with_reducible refine Kd.C_drewN ?_ _) | (with_reducible refine Kd.C_drew ?_))); (case side2 => exact HC144_0.out); rintro e w29 ⟨rfl, hb⟩; refine ⟨_, rfl, ?_⟩; have n0_ := Aside0.mk (Kd.N_below (by (with_reducible repeat (first | apply Kd.N_alloc | apply Kd.N_drewN | apply Kd.N_drew)); exact HO_44.out) hb); have n1_ := Aside0.mk (Kd.V_below (by (with_reducible repeat (first | apply Kd.V_alloc | apply Kd.V_drewN | apply Kd.V_drew)); exact HO_140001.out) hb); have n2_ := Aside0.mk (Kd.V_below (by (with_reducible repeat (first | apply Kd.V_alloc | apply Kd.V_drewN | apply Kd.V_drew)); exact HO_140002.out) hb); have n3_ := Aside0.mk (Kd.V_below (by (with_reducible repeat (first | apply Kd.V_alloc | apply Kd.V_drewN | apply Kd.V_drew)); exact HO_140003.out) hb); have n4_ := Aside0.mk (blk_below (g := gb139) (o := .cells #[.bool a0_0, .slice A0_1 l0_1.length c0_1, .slice A0_2 l0_2.length c0_2, .slice A0_3 l0_3.length c0_3, .bool a0_4, .slice A0_5 l0_5.length c0_5, .int .i64 a0_6] 25 (0, 0)) (by (with_reducible repeat (first | refine blk_drewN ?_ _ | refine blk_drew ?_ | refine blk_alloc ?_ _)); exact BK139.out) hb); have n5_ := Aside0.mk (Kd.C_below (by repeat (first | (with_reducible exact HR143_0.out) | (with_reducible refine Kd.C_alloc ?_ _) | (with_reducible refine Kd.C_drewN ?_ _) | (with_reducible refine Kd.C_drew ?_) | exact HR143_0.out)) hb); have n6_ := Aside0.mk (below_step (by repeat (first | (with_reducible first | exact HB.out | apply below_alloc | apply pw_below_drewN | apply below_drew1 | refine below_set ?_ GE139.out) | exact HB.out)) hb); clear HO_44; clear HO_140001; clear HO_140002; clear HO_140003; clear BK139; clear HR143_0; clear HB; have HO_44 := n0_; have HO_140001 := n1_; have HO_140002 := n2_; have HO_140003 := n3_; have BK139 := n4_; have HR143_0 := n5_; have HB := n6_; clear n0_ n1_ n2_ n3_ n4_ n5_ n6_; (try clear hb); (try clear hb2); (try clear hk); (try clear hi)))
                                    go_ret
                                    exact ⟨by first | rfl | (simp [errW_none, errW_some] <;> rfl) | (simp [*, errW_none, errW_some] <;> rfl), by repeat (first | (with_reducible first | exact HB.out | apply below_alloc | apply pw_below_drewN | apply below_drew1 | refine below_set ?_ GE139.out) | exact HB.out)⟩
                                · rw [if_neg c23] at H
                                  exact absurd H (by simp)
                              · rw [if_neg c22] at H
                                exact absurd H (by simp)
                            · rw [if_neg c21] at H
                              have c21b0 : decide (x52_3 < ((rd_L4 y140 x46_2).length : Int)) = false := decide_eq_false c21
                              clear c21
                              have H' := Aside0.mk H
                              clear H
                              go_wp2
                              go_roundg k3
                              case measure => have := HJ1.out; have := HK2.out; have := HK3.out; omega
                              case rel => exact ⟨(wrap64 (x46_2 + 1)), (by first | rfl | (simp; done) | (simp [*]; done)), H', ⟨by have := HJ1.out; have := HK2.out; have := HK3.out; omega⟩, ⟨by (with_reducible repeat (first | apply Kd.N_alloc | apply Kd.N_drewN | apply Kd.N_drew)); exact HO_44.out⟩, ⟨by (with_reducible repeat (first | apply Kd.V_alloc | apply Kd.V_drewN | apply Kd.V_drew)); exact HO_140001.out⟩, ⟨by (with_reducible repeat (first | apply Kd.V_alloc | apply Kd.V_drewN | apply Kd.V_drew)); exact HO_140002.out⟩, ⟨by (with_reducible repeat (first | apply Kd.V_alloc | apply Kd.V_drewN | apply Kd.V_drew)); exact HO_140003.out⟩, ⟨by (with_reducible repeat (first | refine blk_drewN ?_ _ | refine blk_drew ?_ | refine blk_alloc ?_ _)); exact BK139.out⟩, ⟨by repeat (first | (with_reducible first | exact HB.out | apply below_alloc | apply pw_below_drewN | apply below_drew1 | refine below_set ?_ GE139.out) | exact HB.out)⟩⟩
                      · rw [if_neg c20] at H
                        exact absurd H (by simp)
                    · rw [if_neg c19] at H
                      exact absurd H (by simp)
                  · rw [if_neg c18] at H
                    have c18b0 : decide (x46_2 < (y140.length : Int)) = false := decide_eq_false c18
                    clear c18
                    have H' := Aside0.mk H
                    clear H
                    have hcz30_0 : wr.cell? ⟨gb139, 0, none⟩ = some (.bool a0_0) := (blk_cell BK139.out 0).trans rfl
                    have hcz30_1 : wr.cell? ⟨gb139, 1, none⟩ = some (.slice A0_1 l0_1.length c0_1) := (blk_cell BK139.out 1).trans rfl
                    have hcz30_2 : wr.cell? ⟨gb139, 2, none⟩ = some (.slice A0_2 l0_2.length c0_2) := (blk_cell BK139.out 2).trans rfl
                    have hcz30_3 : wr.cell? ⟨gb139, 3, none⟩ = some (.slice A0_3 l0_3.length c0_3) := (blk_cell BK139.out 3).trans rfl
                    have hcz30_4 : wr.cell? ⟨gb139, 4, none⟩ = some (.bool a0_4) := (blk_cell BK139.out 4).trans rfl
                    have hcz30_5 : wr.cell? ⟨gb139, 5, none⟩ = some (.slice A0_5 l0_5.length c0_5) := (blk_cell BK139.out 5).trans rfl
                    have hcz30_6 : wr.cell? ⟨gb139, 6, none⟩ = some (.int .i64 a0_6) := (blk_cell BK139.out 6).trans rfl
                    have hfz30_0 := blk_frozen BK139.out 0
                    have hfz30_1 := blk_frozen BK139.out 1
                    have hfz30_2 := blk_frozen BK139.out 2
                    have hfz30_3 := blk_frozen BK139.out 3
                    have hfz30_4 := blk_frozen BK139.out 4
                    have hfz30_5 := blk_frozen BK139.out 5
                    have hfz30_6 := blk_frozen BK139.out 6
                    go_wp2
                    go_loopg [69] k2 (fun kq v69 w' => ∃ (x69_3 : Int), v69 = .int .i64 x69_3 ∧ Aside0 (rule_Check.l2 kq l0_5 (l0_5.length : Int) x69_3 a0_0 l0_1 l0_2 l0_3 a0_4 l0_5 a0_6 = some r) ∧ Aside0 (kq ≤ k2) ∧ Aside0 (Kd.V (Kd.slice 68 k68) 41 w' w.heap.size (fun k_ => ((P0_1_ k_ ∨ P0_2_ k_ ∨ P0_3_ k_) ∨ w.heap.size ≤ k_) ∧ k_ ≠ gb139) (.slice A0_1 l0_1.length c0_1) l0_1) ∧ Aside0 (Kd.V (Kd.slice 68 k68) 41 w' w.heap.size (fun k_ => ((P0_1_ k_ ∨ P0_2_ k_ ∨ P0_3_ k_) ∨ w.heap.size ≤ k_) ∧ k_ ≠ gb139) (.slice A0_2 l0_2.length c0_2) l0_2) ∧ Aside0 (Kd.V (Kd.slice 68 k68) 41 w' w.heap.size (fun k_ => ((P0_1_ k_ ∨ P0_2_ k_ ∨ P0_3_ k_) ∨ w.heap.size ≤ k_) ∧ k_ ≠ gb139) (.slice A0_3 l0_3.length c0_3) l0_3) ∧ Aside0 (w'.heap[gb139]? = some (.cells #[.bool a0_0, (.slice A0_1 l0_1.length c0_1), (.slice A0_2 l0_2.length c0_2), (.slice A0_3 l0_3.length c0_3), .bool a0_4, (.slice A0_5 l0_5.length c0_5), .int .i64 a0_6] 25 (0, 0))) ∧ Aside0 (Below w.heap.size w w'))
                    case atStart => exact ⟨(0), (by first | rfl | (simp; done) | (simp [*]; done)), H', ⟨Nat.le_refl _⟩, ⟨by (with_reducible repeat (first | apply Kd.V_alloc | apply Kd.V_drewN | apply Kd.V_drew)); exact Kd.V_mono HO_140001.out (fun _ hk => ⟨hk.1, hk.2.2⟩)⟩, ⟨by (with_reducible repeat (first | apply Kd.V_alloc | apply Kd.V_drewN | apply Kd.V_drew)); exact Kd.V_mono HO_140002.out (fun _ hk => ⟨hk.1, hk.2.2⟩)⟩, ⟨by (with_reducible repeat (first | apply Kd.V_alloc | apply Kd.V_drewN | apply Kd.V_drew)); exact Kd.V_mono HO_140003.out (fun _ hk => ⟨hk.1, hk.2.2⟩)⟩, ⟨by (with_reducible repeat (first | refine blk_drewN ?_ _ | refine blk_drew ?_ | refine blk_alloc ?_ _)); exact BK139.out⟩, ⟨by repeat (first | (with_reducible first | exact HB.out | apply below_alloc | apply pw_below_drewN | apply below_drew1 | refine below_set ?_ GE139.out) | exact HB.out)⟩⟩
                    case round =>
                      clear H'
                      try clear c1
                      try clear p1
                      try clear q1
                      try clear hx1
                      try clear c2
                      try clear p2
                      try clear c4
                      try clear c4b0
                      try clear c4b1
                      try clear p6
                      try clear c7
                      try clear c8
                      try clear c8b0
                      try clear c8b1
                      try clear c10
                      try clear c10b0
                      try clear c10b1
                      try clear c12
                      try clear c12b0
                      try clear c12b1
                      try clear c14
                      try clear p14
                      try clear q14
                      try clear hx14
                      try clear c18
                      try clear c18b0
                      try clear c19
                      try clear c19b0
                      try clear c20
                      try clear c20b0
                      try clear c21
                      try clear c21b0
                      try clear c22
                      try clear c22b0
                      try clear c23
                      try clear c23b0
                      try clear c25
                      try clear c26
                      try clear c26b0
                      try clear c26b1
                      try clear c26b2
                      try clear hcz11_0
                      try clear hcz11_1
                      try clear hcz11_2
                      try clear hcz11_3
                      try clear hcz11_4
                      try clear hcz11_5
                      try clear hcz11_6
                      try clear hcz13_0
                      try clear hcz13_1
                      try clear hcz13_2
                      try clear hcz13_3
                      try clear hcz13_4
                      try clear hcz13_5
                      try clear hcz13_6
                      try clear hcz14_0
                      try clear hcz14_1
                      try clear hcz14_2
                      try clear hcz14_3
                      try clear hcz14_4
                      try clear hcz14_5
                      try clear hcz14_6
                      try clear hcz30_0
                      try clear hcz30_1
                      try clear hcz30_2
                      try clear hcz30_3
                      try clear hcz30_4
                      try clear hcz30_5
                      try clear hcz30_6
                      try clear hcz5_0
                      try clear hcz5_1
                      try clear hcz5_2
                      try clear hcz5_3
                      try clear hcz5_4
                      try clear hcz5_5
                      try clear hcz5_6
                      try clear hcz6_0
                      try clear hcz6_1
                      try clear hcz6_2
                      try clear hcz6_3
                      try clear hcz6_4
                      try clear hcz6_5
                      try clear hcz6_6
                      try clear hcz9_0
                      try clear hcz9_1
                      try clear hcz9_2
                      try clear hcz9_3
                      try clear hcz9_4
                      try clear hcz9_5
                      try clear hcz9_6
                      try clear hfz11_0
                      try clear hfz11_1
                      try clear hfz11_2
                      try clear hfz11_3
                      try clear hfz11_4
                      try clear hfz11_5
                      try clear hfz11_6
                      try clear hfz13_0
                      try clear hfz13_1
                      try clear hfz13_2
                      try clear hfz13_3
                      try clear hfz13_4
                      try clear hfz13_5
                      try clear hfz13_6
                      try clear hfz14_0
                      try clear hfz14_1
                      try clear hfz14_2
                      try clear hfz14_3
                      try clear hfz14_4
                      try clear hfz14_5
                      try clear hfz14_6
                      try clear hfz30_0
                      try clear hfz30_1
                      try clear hfz30_2
                      try clear hfz30_3
                      try clear hfz30_4
                      try clear hfz30_5
                      try clear hfz30_6
                      try clear hfz5_0
                      try clear hfz5_1
                      try clear hfz5_2
                      try clear hfz5_3
                      try clear hfz5_4
                      try clear hfz5_5
                      try clear hfz5_6
                      try clear hfz6_0
                      try clear hfz6_1
                      try clear hfz6_2
                      try clear hfz6_3
                      try clear hfz6_4
                      try clear hfz6_5
                      try clear hfz6_6
                      try clear hfz9_0
                      try clear hfz9_1
                      try clear hfz9_2
                      try clear hfz9_3
                      try clear hfz9_4
                      try clear hfz9_5
                      try clear hfz9_6
                      try clear hx143_0
                      try clear hx144_0
                      try clear p1
                      try clear p14
                      try clear p143
                      try clear p144
                      try clear p2
                      try clear q1
                      try clear q14
                      try clear q143
                      try clear q144
                      obtain ⟨x69_3, rfl, HA, HK3, HO_140001, HO_140002, HO_140003, BK139, HB⟩ := hrel
                      cases gk with
                      | zero => exact absurd HA.out (by simp [rule_Check.l2])
                      | succ k3 =>
                        have H := HA.out
                        clear HA
                        simp only [rule_Check.l2] at H
                        by_cases c31 : x69_3 < (l0_5.length : Int)
                        · rw [if_pos c31] at H
                          have c31b0 : decide (x69_3 < (l0_5.length : Int)) = true := decide_eq_true c31
                          clear c31
                          by_cases c32 : 0 ≤ x69_3
                          · rw [if_pos c32] at H
                            have c32b0 : decide (0 ≤ x69_3) = true := decide_eq_true c32
                            clear c32
                            by_cases c33 : x69_3 < (l0_5.length : Int)
                            · rw [if_pos c33] at H
                              have c33b0 : decide (x69_3 < (l0_5.length : Int)) = true := decide_eq_true c33
                              clear c33
                              replace H := Option.bind_eq_some_iff.mp H
                              obtain ⟨t148, A340, H⟩ := H
                              replace H : (if t148 = 0 then (rule_Check.l2 k3 l0_5 (l0_5.length : Int) (wrap64 (x69_3 + 1)) a0_0 l0_1 l0_2 l0_3 a0_4 l0_5 a0_6) else (some t148)) = some r := H
                              have A34 := Aside0.mk A340
                              clear A340
                              by_cases c35 : t148 = 0
                              · rw [if_pos c35] at H
                                have c35b0 : (t148 == 0) = true := beq_iff_eq.mpr c35
                                have c35b1 : (t148 != 0) = false := bne_eq_false_iff_eq.mpr c35
                                clear c35
                                have H' := Aside0.mk H
                                clear H
                                have p146 : 0 ≤ (x69_3 : Int) := of_decide_eq_true (by first | (with_reducible assumption) | assumption)
                                have q146 : x69_3 < (l0_5.length : Int) := of_decide_eq_true (by first | (with_reducible assumption) | assumption)
                                obtain ⟨ad146, A146_3, c146_3, e146, hx146_0, hx146_1, hx146_2, hx146_3, hl146_3, hi146_3⟩ := at_T43 HR0_5.out x69_3 p146 q146
                                cases e146
                                try replace hx146_0 := (HB.out.cell (World.block_lt_of_cell? w _ hx146_0)).trans hx146_0
                                try replace hx146_1 := (HB.out.cell (World.block_lt_of_cell? w _ hx146_1)).trans hx146_1
                                try replace hx146_2 := (HB.out.cell (World.block_lt_of_cell? w _ hx146_2)).trans hx146_2
                                try replace hx146_3 := (HB.out.cell (World.block_lt_of_cell? w _ hx146_3)).trans hx146_3
                                have HR146_3 := Aside0.mk hi146_3
                                have HC146_3 := Aside0.mk hl146_3
                                clear hi146_3 hl146_3
                                replace p146 := eq_true p146
                                replace q146 := eq_true q146
                                go_wp2_with (first | ((with_reducible refine gate_dst (N := 8) rfl ?_); (try (refine gate_guard (by rfl) ?_; dsimp only)); refine box_event ?hg (N := 8) ?hd (cs := #[.int .i64 0, .int .i64 0, .int .i64 0, .slice none 0 0]) (t := 43) ?hr ?_; (case hd => rfl); (case hg => rfl); (case hr => first | (go_simp; done) | (go_simp; rfl)); intro gb147 hg w36 hbox hb; have n0_ := Aside0.mk (Kd.V_below (Kd.V_elderB (by (with_reducible repeat (first | apply Kd.V_alloc | apply Kd.V_drewN | apply Kd.V_drew)); exact HO_140001.out) gb147 (Nat.le_of_eq hg.symm)) hb); have n1_ := Aside0.mk (Kd.V_below (Kd.V_elderB (by (with_reducible repeat (first | apply Kd.V_alloc | apply Kd.V_drewN | apply Kd.V_drew)); exact HO_140002.out) gb147 (Nat.le_of_eq hg.symm)) hb); have n2_ := Aside0.mk (Kd.V_below (Kd.V_elderB (by (with_reducible repeat (first | apply Kd.V_alloc | apply Kd.V_drewN | apply Kd.V_drew)); exact HO_140003.out) gb147 (Nat.le_of_eq hg.symm)) hb); have n3_ := Aside0.mk (blk_below (g := gb139) (o := .cells #[.bool a0_0, .slice A0_1 l0_1.length c0_1, .slice A0_2 l0_2.length c0_2, .slice A0_3 l0_3.length c0_3, .bool a0_4, .slice (some ad146) l0_5.length c0_5, .int .i64 a0_6] 25 (0, 0)) (by (with_reducible repeat (first | refine blk_drewN ?_ _ | refine blk_drew ?_ | refine blk_alloc ?_ _)); exact BK139.out) hb); have n4_ := Aside0.mk (below_step (by repeat (first | (with_reducible first | exact HB.out | apply below_alloc | apply pw_below_drewN | apply below_drew1 | refine below_set ?_ GE139.out) | exact HB.out)) hb); have n5_ := Aside0.mk (hbox); have n6_ := Aside0.mk ((by rw [hg]; exact (below_size (by repeat (first | (with_reducible first | exact HB.out | apply below_alloc | apply pw_below_drewN | apply below_drew1 | refine below_set ?_ GE139.out) | exact HB.out))) : w.heap.size ≤ gb147)); have n7_ := Aside0.mk ((by rw [hg]; exact (below_size (by repeat (first | (with_reducible first | exact HB.out | apply below_alloc | apply pw_below_drewN | apply below_drew1 | refine below_set ?_ GE139.out) | exact HB.out))) : w.heap.size ≤ gb147)); have n8_ := Aside0.mk ((by rw [hg]; exact Nat.ne_of_lt (blk_lt (g := gb139) (o := .cells #[.bool a0_0, .slice A0_1 l0_1.length c0_1, .slice A0_2 l0_2.length c0_2, .slice A0_3 l0_3.length c0_3, .bool a0_4, .slice (some ad146) l0_5.length c0_5, .int .i64 a0_6] 25 (0, 0)) (by (with_reducible repeat (first | refine blk_drewN ?_ _ | refine blk_drew ?_ | refine blk_alloc ?_ _)); exact BK139.out)) : gb139 ≠ gb147)); have n9_ := Aside0.mk ((by rw [hg]; exact Nat.ne_of_gt (blk_lt (g := gb139) (o := .cells #[.bool a0_0, .slice A0_1 l0_1.length c0_1, .slice A0_2 l0_2.length c0_2, .slice A0_3 l0_3.length c0_3, .bool a0_4, .slice (some ad146) l0_5.length c0_5, .int .i64 a0_6] 25 (0, 0)) (by (with_reducible repeat (first | refine blk_drewN ?_ _ | refine blk_drew ?_ | refine blk_alloc ?_ _)); exact BK139.out)) : gb147 ≠ gb139)); clear HO_140001; clear HO_140002; clear HO_140003; clear BK139; clear HB; have HO_140001 := n0_; have HO_140002 := n1_; have HO_140003 := n2_; have BK139 := n3_; have HB := n4_; have BK147 := n5_; have GW147 := n6_; have GE147 := n7_; have NB139_147 := n8_; have NB147_139 := n9_; clear n0_ n1_ n2_ n3_ n4_ n5_ n6_ n7_ n8_ n9_; clear hb hbox hg; have hnb37 := NB147_139.out; have hnc37 := NB139_147.out; have hcz38_0 : w36.cell? ⟨gb147, 0, none⟩ = some (.int .i64 0) := (blk_cell BK147.out 0).trans rfl; have hcz38_1 : w36.cell? ⟨gb147, 1, none⟩ = some (.int .i64 0) := (blk_cell BK147.out 1).trans rfl; have hcz38_2 : w36.cell? ⟨gb147, 2, none⟩ = some (.int .i64 0) := (blk_cell BK147.out 2).trans rfl; have hcz38_3 : w36.cell? ⟨gb147, 3, none⟩ = some (.slice none 0 0) := (blk_cell BK147.out 3).trans rfl; have hfz38_0 := blk_frozen BK147.out 0; have hfz38_1 := blk_frozen BK147.out 1; have hfz38_2 := blk_frozen BK147.out 2; have hfz38_3 := blk_frozen BK147.out 3; have hcz39_0 : w36.cell? ⟨gb139, 0, none⟩ = some (.bool a0_0) := (blk_cell BK139.out 0).trans rfl; have hcz39_1 : w36.cell? ⟨gb139, 1, none⟩ = some (.slice A0_1 l0_1.length c0_1) := (blk_cell BK139.out 1).trans rfl; have hcz39_2 : w36.cell? ⟨gb139, 2, none⟩ = some (.slice A0_2 l0_2.length c0_2) := (blk_cell BK139.out 2).trans rfl; have hcz39_3 : w36.cell? ⟨gb139, 3, none⟩ = some (.slice A0_3 l0_3.length c0_3) := (blk_cell BK139.out 3).trans rfl; have hcz39_4 : w36.cell? ⟨gb139, 4, none⟩ = some (.bool a0_4) := (blk_cell BK139.out 4).trans rfl; have hcz39_5 : w36.cell? ⟨gb139, 5, none⟩ = some (.slice (some ad146) l0_5.length c0_5) := (blk_cell BK139.out 5).trans rfl; have hcz39_6 : w36.cell? ⟨gb139, 6, none⟩ = some (.int .i64 a0_6) := (blk_cell BK139.out 6).trans rfl; have hfz39_0 := blk_frozen BK139.out 0; have hfz39_1 := blk_frozen BK139.out 1; have hfz39_2 := blk_frozen BK139.out 2; have hfz39_3 := blk_frozen BK139.out 3; have hfz39_4 := blk_frozen BK139.out 4; have hfz39_5 := blk_frozen BK139.out 5; have hfz39_6 := blk_frozen BK139.out 6) | ((with_reducible refine gate_callee (f := 54) rfl ?_); refine goesL_ (some 75) rfl rfl Try.func54 (by kernel_rfl) rfl #[.agg #[.bool a0_0, .slice A0_1 l0_1.length c0_1, .slice A0_2 l0_2.length c0_2, .slice A0_3 l0_3.length c0_3, .bool a0_4, .slice (some ad146) l0_5.length c0_5, .int .i64 a0_6], .agg #[.int .i64 ((rd_T43 l0_5 x69_3).f0), .int .i64 ((rd_T43 l0_5 x69_3).f1), .int .i64 ((rd_T43 l0_5 x69_3).f2), .slice A146_3 ((rd_T43 l0_5 x69_3).f3).length c146_3]] rfl (by (try simp only [List.map_toArray, List.map_cons, List.map_nil]); first | done | rfl | (simp only [List.length_drop, List.length_take]; rfl)) ?_; (with_reducible refine (rule_piece.calls k3 a0_0 _ _ l0_1 _ _ l0_2 _ _ l0_3 a0_4 _ _ l0_5 a0_6 ((rd_T43 l0_5 x69_3).f0) ((rd_T43 l0_5 x69_3).f1) ((rd_T43 l0_5 x69_3).f2) _ _ ((rd_T43 l0_5 x69_3).f3) t148 _ ?side1 ?side2 ?side3 ?side4 ?side5 ?side6 ?side7 ?side8 ?side9 ?side10 A34.out).mono ?_); (case side1 => refine (Kd.V_reads' (e := 41) (base := w.heap.size) (ok := fun k_ => ((((P0_1_ k_ ∨ P0_2_ k_ ∨ P0_3_ k_) ∨ w.heap.size ≤ k_) ∧ k_ ≠ gb139) ∧ k_ ≠ gb147)) (n := l0_1.length) (c := c0_1) ?_).2.2; exact (by (with_reducible repeat (first | apply Kd.V_alloc | apply Kd.V_drewN | apply Kd.V_drew)); exact (Kd.V_mono (Kd.V_far (p := ⟨gb147, 3, none⟩) (Kd.V_far (p := ⟨gb147, 2, none⟩) (Kd.V_far (p := ⟨gb147, 1, none⟩) (Kd.V_far (p := ⟨gb147, 0, none⟩) (Kd.V_mono HO_140001.out (fun k_ hk => (⟨hk, hk.2⟩ : _ ∧ k_ ≠ gb147))) (fun _ hk => hk.2) (.int .i64 ((rd_T43 l0_5 x69_3).f0))) (fun _ hk => hk.2) (.int .i64 ((rd_T43 l0_5 x69_3).f1))) (fun _ hk => hk.2) (.int .i64 ((rd_T43 l0_5 x69_3).f2))) (fun _ hk => hk.2) (.slice A146_3 ((rd_T43 l0_5 x69_3).f3).length c146_3)) (fun _ h_ => h_.1)))); (case side2 => exact (Kd.V_reads' HO_140001.out).2.1); (case side3 => refine (Kd.V_reads' (e := 41) (base := w.heap.size) (ok := fun k_ => ((((P0_1_ k_ ∨ P0_2_ k_ ∨ P0_3_ k_) ∨ w.heap.size ≤ k_) ∧ k_ ≠ gb139) ∧ k_ ≠ gb147)) (n := l0_2.length) (c := c0_2) ?_).2.2; exact (by (with_reducible repeat (first | apply Kd.V_alloc | apply Kd.V_drewN | apply Kd.V_drew)); exact (Kd.V_mono (Kd.V_far (p := ⟨gb147, 3, none⟩) (Kd.V_far (p := ⟨gb147, 2, none⟩) (Kd.V_far (p := ⟨gb147, 1, none⟩) (Kd.V_far (p := ⟨gb147, 0, none⟩) (Kd.V_mono HO_140002.out (fun k_ hk => (⟨hk, hk.2⟩ : _ ∧ k_ ≠ gb147))) (fun _ hk => hk.2) (.int .i64 ((rd_T43 l0_5 x69_3).f0))) (fun _ hk => hk.2) (.int .i64 ((rd_T43 l0_5 x69_3).f1))) (fun _ hk => hk.2) (.int .i64 ((rd_T43 l0_5 x69_3).f2))) (fun _ hk => hk.2) (.slice A146_3 ((rd_T43 l0_5 x69_3).f3).length c146_3)) (fun _ h_ => h_.1)))); (case side4 => exact (Kd.V_reads' HO_140002.out).2.1); (case side5 => refine (Kd.V_reads' (e := 41) (base := w.heap.size) (ok := fun k_ => ((((P0_1_ k_ ∨ P0_2_ k_ ∨ P0_3_ k_) ∨ w.heap.size ≤ k_) ∧ k_ ≠ gb139) ∧ k_ ≠ gb147)) (n := l0_3.length) (c := c0_3) ?_).2.2; exact (by (with_reducible repeat (first | apply Kd.V_alloc | apply Kd.V_drewN | apply Kd.V_drew)); exact (Kd.V_mono (Kd.V_far (p := ⟨gb147, 3, none⟩) (Kd.V_far (p := ⟨gb147, 2, none⟩) (Kd.V_far (p := ⟨gb147, 1, none⟩) (Kd.V_far (p := ⟨gb147, 0, none⟩) (Kd.V_mono HO_140003.out (fun k_ hk => (⟨hk, hk.2⟩ : _ ∧ k_ ≠ gb147))) (fun _ hk => hk.2) (.int .i64 ((rd_T43 l0_5 x69_3).f0))) (fun _ hk => hk.2) (.int .i64 ((rd_T43 l0_5 x69_3).f1))) (fun _ hk => hk.2) (.int .i64 ((rd_T43 l0_5 x69_3).f2))) (fun _ hk => hk.2) (.slice A146_3 ((rd_T43 l0_5 x69_3).f3).length c146_3)) (fun _ h_ => h_.1)))); (case side6 => exact (Kd.V_reads' HO_140003.out).2.1); (case side7 => exact Kd.C_below HR0_5.out (by repeat (first | (with_reducible first | exact HB.out | apply below_alloc | apply pw_below_drewN | apply below_drew1 | refine below_set ?_ GE139.out | refine below_set ?_ GE147.out) | exact HB.out))); (case side8 => exact HC0_5.out); (case side9 => exact Kd.C_below HR146_3.out (by repeat (first | (with_reducible first | exact HB.out | apply below_alloc | apply pw_below_drewN | apply below_drew1 | refine below_set ?_ GE139.out | refine below_set ?_ GE147.out) | exact HB.out))); (case side10 => exact HC146_3.out); rintro e w40 ⟨rfl, hb⟩; refine ⟨_, rfl, ?_⟩; have n0_ := Aside0.mk (Kd.V_below (by (with_reducible repeat (first | apply Kd.V_alloc | apply Kd.V_drewN | apply Kd.V_drew)); exact (Kd.V_mono (Kd.V_far (p := ⟨gb147, 3, none⟩) (Kd.V_far (p := ⟨gb147, 2, none⟩) (Kd.V_far (p := ⟨gb147, 1, none⟩) (Kd.V_far (p := ⟨gb147, 0, none⟩) (Kd.V_mono HO_140001.out (fun k_ hk => (⟨hk, hk.2⟩ : _ ∧ k_ ≠ gb147))) (fun _ hk => hk.2) (.int .i64 ((rd_T43 l0_5 x69_3).f0))) (fun _ hk => hk.2) (.int .i64 ((rd_T43 l0_5 x69_3).f1))) (fun _ hk => hk.2) (.int .i64 ((rd_T43 l0_5 x69_3).f2))) (fun _ hk => hk.2) (.slice A146_3 ((rd_T43 l0_5 x69_3).f3).length c146_3)) (fun _ h_ => h_.1))) hb); have n1_ := Aside0.mk (Kd.V_below (by (with_reducible repeat (first | apply Kd.V_alloc | apply Kd.V_drewN | apply Kd.V_drew)); exact (Kd.V_mono (Kd.V_far (p := ⟨gb147, 3, none⟩) (Kd.V_far (p := ⟨gb147, 2, none⟩) (Kd.V_far (p := ⟨gb147, 1, none⟩) (Kd.V_far (p := ⟨gb147, 0, none⟩) (Kd.V_mono HO_140002.out (fun k_ hk => (⟨hk, hk.2⟩ : _ ∧ k_ ≠ gb147))) (fun _ hk => hk.2) (.int .i64 ((rd_T43 l0_5 x69_3).f0))) (fun _ hk => hk.2) (.int .i64 ((rd_T43 l0_5 x69_3).f1))) (fun _ hk => hk.2) (.int .i64 ((rd_T43 l0_5 x69_3).f2))) (fun _ hk => hk.2) (.slice A146_3 ((rd_T43 l0_5 x69_3).f3).length c146_3)) (fun _ h_ => h_.1))) hb); have n2_ := Aside0.mk (Kd.V_below (by (with_reducible repeat (first | apply Kd.V_alloc | apply Kd.V_drewN | apply Kd.V_drew)); exact (Kd.V_mono (Kd.V_far (p := ⟨gb147, 3, none⟩) (Kd.V_far (p := ⟨gb147, 2, none⟩) (Kd.V_far (p := ⟨gb147, 1, none⟩) (Kd.V_far (p := ⟨gb147, 0, none⟩) (Kd.V_mono HO_140003.out (fun k_ hk => (⟨hk, hk.2⟩ : _ ∧ k_ ≠ gb147))) (fun _ hk => hk.2) (.int .i64 ((rd_T43 l0_5 x69_3).f0))) (fun _ hk => hk.2) (.int .i64 ((rd_T43 l0_5 x69_3).f1))) (fun _ hk => hk.2) (.int .i64 ((rd_T43 l0_5 x69_3).f2))) (fun _ hk => hk.2) (.slice A146_3 ((rd_T43 l0_5 x69_3).f3).length c146_3)) (fun _ h_ => h_.1))) hb); have n3_ := Aside0.mk (blk_below (g := gb139) (o := .cells #[.bool a0_0, .slice A0_1 l0_1.length c0_1, .slice A0_2 l0_2.length c0_2, .slice A0_3 l0_3.length c0_3, .bool a0_4, .slice (some ad146) l0_5.length c0_5, .int .i64 a0_6] 25 (0, 0)) (by (with_reducible repeat (first | refine blk_drewN ?_ _ | refine blk_drew ?_ | refine blk_alloc ?_ _)); refine blk_far ?_ NB139_147.out _; (with_reducible repeat (first | refine blk_drewN ?_ _ | refine blk_drew ?_ | refine blk_alloc ?_ _)); refine blk_far ?_ NB139_147.out _; (with_reducible repeat (first | refine blk_drewN ?_ _ | refine blk_drew ?_ | refine blk_alloc ?_ _)); refine blk_far ?_ NB139_147.out _; (with_reducible repeat (first | refine blk_drewN ?_ _ | refine blk_drew ?_ | refine blk_alloc ?_ _)); refine blk_far ?_ NB139_147.out _; (with_reducible repeat (first | refine blk_drewN ?_ _ | refine blk_drew ?_ | refine blk_alloc ?_ _)); exact BK139.out) hb); have n4_ := Aside0.mk (blk_below (g := gb147) (o := .cells #[.int .i64 ((rd_T43 l0_5 x69_3).f0), .int .i64 ((rd_T43 l0_5 x69_3).f1), .int .i64 ((rd_T43 l0_5 x69_3).f2), .slice A146_3 ((rd_T43 l0_5 x69_3).f3).length c146_3] 43 (0, 0)) (by (with_reducible repeat (first | refine blk_drewN ?_ _ | refine blk_drew ?_ | refine blk_alloc ?_ _)); refine blk_put (cs := #[.int .i64 ((rd_T43 l0_5 x69_3).f0), .int .i64 ((rd_T43 l0_5 x69_3).f1), .int .i64 ((rd_T43 l0_5 x69_3).f2), .slice none 0 0]) ?_ 3 _ rfl; (with_reducible repeat (first | refine blk_drewN ?_ _ | refine blk_drew ?_ | refine blk_alloc ?_ _)); refine blk_put (cs := #[.int .i64 ((rd_T43 l0_5 x69_3).f0), .int .i64 ((rd_T43 l0_5 x69_3).f1), .int .i64 0, .slice none 0 0]) ?_ 2 _ rfl; (with_reducible repeat (first | refine blk_drewN ?_ _ | refine blk_drew ?_ | refine blk_alloc ?_ _)); refine blk_put (cs := #[.int .i64 ((rd_T43 l0_5 x69_3).f0), .int .i64 0, .int .i64 0, .slice none 0 0]) ?_ 1 _ rfl; (with_reducible repeat (first | refine blk_drewN ?_ _ | refine blk_drew ?_ | refine blk_alloc ?_ _)); refine blk_put (cs := #[.int .i64 0, .int .i64 0, .int .i64 0, .slice none 0 0]) ?_ 0 _ rfl; (with_reducible repeat (first | refine blk_drewN ?_ _ | refine blk_drew ?_ | refine blk_alloc ?_ _)); exact BK147.out) hb); have n5_ := Aside0.mk (below_step (by repeat (first | (with_reducible first | exact HB.out | apply below_alloc | apply pw_below_drewN | apply below_drew1 | refine below_set ?_ GE139.out | refine below_set ?_ GE147.out) | exact HB.out)) hb); clear HO_140001; clear HO_140002; clear HO_140003; clear BK139; clear BK147; clear HB; have HO_140001 := n0_; have HO_140002 := n1_; have HO_140003 := n2_; have BK139 := n3_; have BK147 := n4_; have HB := n5_; clear n0_ n1_ n2_ n3_ n4_ n5_; (try clear hb); (try clear hb2); (try clear hk); (try clear hi)))
                                go_roundg k3
                                case measure => have := HJ1.out; have := HK2.out; have := HK3.out; omega
                                case rel => exact ⟨(wrap64 (x69_3 + 1)), (by first | rfl | (simp; done) | (simp [*]; done)), H', ⟨by have := HJ1.out; have := HK2.out; have := HK3.out; omega⟩, ⟨by (with_reducible repeat (first | apply Kd.V_alloc | apply Kd.V_drewN | apply Kd.V_drew)); exact Kd.V_mono HO_140001.out (fun _ hk => ⟨hk.1.1, hk.1.2⟩)⟩, ⟨by (with_reducible repeat (first | apply Kd.V_alloc | apply Kd.V_drewN | apply Kd.V_drew)); exact Kd.V_mono HO_140002.out (fun _ hk => ⟨hk.1.1, hk.1.2⟩)⟩, ⟨by (with_reducible repeat (first | apply Kd.V_alloc | apply Kd.V_drewN | apply Kd.V_drew)); exact Kd.V_mono HO_140003.out (fun _ hk => ⟨hk.1.1, hk.1.2⟩)⟩, ⟨by (with_reducible repeat (first | refine blk_drewN ?_ _ | refine blk_drew ?_ | refine blk_alloc ?_ _)); exact BK139.out⟩, ⟨by repeat (first | (with_reducible first | exact HB.out | apply below_alloc | apply pw_below_drewN | apply below_drew1 | refine below_set ?_ GE139.out | refine below_set ?_ GE147.out) | exact HB.out)⟩⟩
                              · rw [if_neg c35] at H
                                have c35b0 : (t148 == 0) = false := beq_eq_false_iff_ne.mpr c35
                                have c35b1 : (t148 != 0) = true := bne_iff_ne.mpr c35
                                obtain rfl := Option.some.inj H
                                have p146 : 0 ≤ (x69_3 : Int) := of_decide_eq_true (by first | (with_reducible assumption) | assumption)
                                have q146 : x69_3 < (l0_5.length : Int) := of_decide_eq_true (by first | (with_reducible assumption) | assumption)
                                obtain ⟨ad146, A146_3, c146_3, e146, hx146_0, hx146_1, hx146_2, hx146_3, hl146_3, hi146_3⟩ := at_T43 HR0_5.out x69_3 p146 q146
                                cases e146
                                try replace hx146_0 := (HB.out.cell (World.block_lt_of_cell? w _ hx146_0)).trans hx146_0
                                try replace hx146_1 := (HB.out.cell (World.block_lt_of_cell? w _ hx146_1)).trans hx146_1
                                try replace hx146_2 := (HB.out.cell (World.block_lt_of_cell? w _ hx146_2)).trans hx146_2
                                try replace hx146_3 := (HB.out.cell (World.block_lt_of_cell? w _ hx146_3)).trans hx146_3
                                have HR146_3 := Aside0.mk hi146_3
                                have HC146_3 := Aside0.mk hl146_3
                                clear hi146_3 hl146_3
                                replace p146 := eq_true p146
                                replace q146 := eq_true q146
                                go_wp2_with (first | ((with_reducible refine gate_dst (N := 8) rfl ?_); (try (refine gate_guard (by rfl) ?_; dsimp only)); refine box_event ?hg (N := 8) ?hd (cs := #[.int .i64 0, .int .i64 0, .int .i64 0, .slice none 0 0]) (t := 43) ?hr ?_; (case hd => rfl); (case hg => rfl); (case hr => first | (go_simp; done) | (go_simp; rfl)); intro gb147 hg w41 hbox hb; have n0_ := Aside0.mk (Kd.V_below (Kd.V_elderB (by (with_reducible repeat (first | apply Kd.V_alloc | apply Kd.V_drewN | apply Kd.V_drew)); exact HO_140001.out) gb147 (Nat.le_of_eq hg.symm)) hb); have n1_ := Aside0.mk (Kd.V_below (Kd.V_elderB (by (with_reducible repeat (first | apply Kd.V_alloc | apply Kd.V_drewN | apply Kd.V_drew)); exact HO_140002.out) gb147 (Nat.le_of_eq hg.symm)) hb); have n2_ := Aside0.mk (Kd.V_below (Kd.V_elderB (by (with_reducible repeat (first | apply Kd.V_alloc | apply Kd.V_drewN | apply Kd.V_drew)); exact HO_140003.out) gb147 (Nat.le_of_eq hg.symm)) hb); have n3_ := Aside0.mk (blk_below (g := gb139) (o := .cells #[.bool a0_0, .slice A0_1 l0_1.length c0_1, .slice A0_2 l0_2.length c0_2, .slice A0_3 l0_3.length c0_3, .bool a0_4, .slice (some ad146) l0_5.length c0_5, .int .i64 a0_6] 25 (0, 0)) (by (with_reducible repeat (first | refine blk_drewN ?_ _ | refine blk_drew ?_ | refine blk_alloc ?_ _)); exact BK139.out) hb); have n4_ := Aside0.mk (below_step (by repeat (first | (with_reducible first | exact HB.out | apply below_alloc | apply pw_below_drewN | apply below_drew1 | refine below_set ?_ GE139.out) | exact HB.out)) hb); have n5_ := Aside0.mk (hbox); have n6_ := Aside0.mk ((by rw [hg]; exact (below_size (by repeat (first | (with_reducible first | exact HB.out | apply below_alloc | apply pw_below_drewN | apply below_drew1 | refine below_set ?_ GE139.out) | exact HB.out))) : w.heap.size ≤ gb147)); have n7_ := Aside0.mk ((by rw [hg]; exact (below_size (by repeat (first | (with_reducible first | exact HB.out | apply below_alloc | apply pw_below_drewN | apply below_drew1 | refine below_set ?_ GE139.out) | exact HB.out))) : w.heap.size ≤ gb147)); have n8_ := Aside0.mk ((by rw [hg]; exact Nat.ne_of_lt (blk_lt (g := gb139) (o := .cells #[.bool a0_0, .slice A0_1 l0_1.length c0_1, .slice A0_2 l0_2.length c0_2, .slice A0_3 l0_3.length c0_3, .bool a0_4, .slice (some ad146) l0_5.length c0_5, .int .i64 a0_6] 25 (0, 0)) (by (with_reducible repeat (first | refine blk_drewN ?_ _ | refine blk_drew ?_ | refine blk_alloc ?_ _)); exact BK139.out)) : gb139 ≠ gb147)); have n9_ := Aside0.mk ((by rw [hg]; exact Nat.ne_of_gt (blk_lt (g := gb139) (o := .cells #[.bool a0_0, .slice A0_1 l0_1.length c0_1, .slice A0_2 l0_2.length c0_2, .slice A0_3 l0_3.length c0_3, .bool a0_4, .slice (some ad146) l0_5.length c0_5, .int .i64 a0_6] 25 (0, 0)) (by (with_reducible repeat (first | refine blk_drewN ?_ _ | refine blk_drew ?_ | refine blk_alloc ?_ _)); exact BK139.out)) : gb147 ≠ gb139)); clear HO_140001; clear HO_140002; clear HO_140003; clear BK139; clear HB; have HO_140001 := n0_; have HO_140002 := n1_; have HO_140003 := n2_; have BK139 := n3_; have HB := n4_; have BK147 := n5_; have GW147 := n6_; have GE147 := n7_; have NB139_147 := n8_; have NB147_139 := n9_; clear n0_ n1_ n2_ n3_ n4_ n5_ n6_ n7_ n8_ n9_; clear hb hbox hg; have hnb42 := NB147_139.out; have hnc42 := NB139_147.out; have hcz43_0 : w41.cell? ⟨gb147, 0, none⟩ = some (.int .i64 0) := (blk_cell BK147.out 0).trans rfl; have hcz43_1 : w41.cell? ⟨gb147, 1, none⟩ = some (.int .i64 0) := (blk_cell BK147.out 1).trans rfl; have hcz43_2 : w41.cell? ⟨gb147, 2, none⟩ = some (.int .i64 0) := (blk_cell BK147.out 2).trans rfl; have hcz43_3 : w41.cell? ⟨gb147, 3, none⟩ = some (.slice none 0 0) := (blk_cell BK147.out 3).trans rfl; have hfz43_0 := blk_frozen BK147.out 0; have hfz43_1 := blk_frozen BK147.out 1; have hfz43_2 := blk_frozen BK147.out 2; have hfz43_3 := blk_frozen BK147.out 3; have hcz44_0 : w41.cell? ⟨gb139, 0, none⟩ = some (.bool a0_0) := (blk_cell BK139.out 0).trans rfl; have hcz44_1 : w41.cell? ⟨gb139, 1, none⟩ = some (.slice A0_1 l0_1.length c0_1) := (blk_cell BK139.out 1).trans rfl; have hcz44_2 : w41.cell? ⟨gb139, 2, none⟩ = some (.slice A0_2 l0_2.length c0_2) := (blk_cell BK139.out 2).trans rfl; have hcz44_3 : w41.cell? ⟨gb139, 3, none⟩ = some (.slice A0_3 l0_3.length c0_3) := (blk_cell BK139.out 3).trans rfl; have hcz44_4 : w41.cell? ⟨gb139, 4, none⟩ = some (.bool a0_4) := (blk_cell BK139.out 4).trans rfl; have hcz44_5 : w41.cell? ⟨gb139, 5, none⟩ = some (.slice (some ad146) l0_5.length c0_5) := (blk_cell BK139.out 5).trans rfl; have hcz44_6 : w41.cell? ⟨gb139, 6, none⟩ = some (.int .i64 a0_6) := (blk_cell BK139.out 6).trans rfl; have hfz44_0 := blk_frozen BK139.out 0; have hfz44_1 := blk_frozen BK139.out 1; have hfz44_2 := blk_frozen BK139.out 2; have hfz44_3 := blk_frozen BK139.out 3; have hfz44_4 := blk_frozen BK139.out 4; have hfz44_5 := blk_frozen BK139.out 5; have hfz44_6 := blk_frozen BK139.out 6) | ((with_reducible refine gate_callee (f := 54) rfl ?_); refine goesL_ (some 75) rfl rfl Try.func54 (by kernel_rfl) rfl #[.agg #[.bool a0_0, .slice A0_1 l0_1.length c0_1, .slice A0_2 l0_2.length c0_2, .slice A0_3 l0_3.length c0_3, .bool a0_4, .slice (some ad146) l0_5.length c0_5, .int .i64 a0_6], .agg #[.int .i64 ((rd_T43 l0_5 x69_3).f0), .int .i64 ((rd_T43 l0_5 x69_3).f1), .int .i64 ((rd_T43 l0_5 x69_3).f2), .slice A146_3 ((rd_T43 l0_5 x69_3).f3).length c146_3]] rfl (by (try simp only [List.map_toArray, List.map_cons, List.map_nil]); first | done | rfl | (simp only [List.length_drop, List.length_take]; rfl)) ?_; (with_reducible refine (rule_piece.calls k3 a0_0 _ _ l0_1 _ _ l0_2 _ _ l0_3 a0_4 _ _ l0_5 a0_6 ((rd_T43 l0_5 x69_3).f0) ((rd_T43 l0_5 x69_3).f1) ((rd_T43 l0_5 x69_3).f2) _ _ ((rd_T43 l0_5 x69_3).f3) t148 _ ?side1 ?side2 ?side3 ?side4 ?side5 ?side6 ?side7 ?side8 ?side9 ?side10 A34.out).mono ?_); (case side1 => refine (Kd.V_reads' (e := 41) (base := w.heap.size) (ok := fun k_ => ((((P0_1_ k_ ∨ P0_2_ k_ ∨ P0_3_ k_) ∨ w.heap.size ≤ k_) ∧ k_ ≠ gb139) ∧ k_ ≠ gb147)) (n := l0_1.length) (c := c0_1) ?_).2.2; exact (by (with_reducible repeat (first | apply Kd.V_alloc | apply Kd.V_drewN | apply Kd.V_drew)); exact (Kd.V_mono (Kd.V_far (p := ⟨gb147, 3, none⟩) (Kd.V_far (p := ⟨gb147, 2, none⟩) (Kd.V_far (p := ⟨gb147, 1, none⟩) (Kd.V_far (p := ⟨gb147, 0, none⟩) (Kd.V_mono HO_140001.out (fun k_ hk => (⟨hk, hk.2⟩ : _ ∧ k_ ≠ gb147))) (fun _ hk => hk.2) (.int .i64 ((rd_T43 l0_5 x69_3).f0))) (fun _ hk => hk.2) (.int .i64 ((rd_T43 l0_5 x69_3).f1))) (fun _ hk => hk.2) (.int .i64 ((rd_T43 l0_5 x69_3).f2))) (fun _ hk => hk.2) (.slice A146_3 ((rd_T43 l0_5 x69_3).f3).length c146_3)) (fun _ h_ => h_.1)))); (case side2 => exact (Kd.V_reads' HO_140001.out).2.1); (case side3 => refine (Kd.V_reads' (e := 41) (base := w.heap.size) (ok := fun k_ => ((((P0_1_ k_ ∨ P0_2_ k_ ∨ P0_3_ k_) ∨ w.heap.size ≤ k_) ∧ k_ ≠ gb139) ∧ k_ ≠ gb147)) (n := l0_2.length) (c := c0_2) ?_).2.2; exact (by (with_reducible repeat (first | apply Kd.V_alloc | apply Kd.V_drewN | apply Kd.V_drew)); exact (Kd.V_mono (Kd.V_far (p := ⟨gb147, 3, none⟩) (Kd.V_far (p := ⟨gb147, 2, none⟩) (Kd.V_far (p := ⟨gb147, 1, none⟩) (Kd.V_far (p := ⟨gb147, 0, none⟩) (Kd.V_mono HO_140002.out (fun k_ hk => (⟨hk, hk.2⟩ : _ ∧ k_ ≠ gb147))) (fun _ hk => hk.2) (.int .i64 ((rd_T43 l0_5 x69_3).f0))) (fun _ hk => hk.2) (.int .i64 ((rd_T43 l0_5 x69_3).f1))) (fun _ hk => hk.2) (.int .i64 ((rd_T43 l0_5 x69_3).f2))) (fun _ hk => hk.2) (.slice A146_3 ((rd_T43 l0_5 x69_3).f3).length c146_3)) (fun _ h_ => h_.1)))); (case side4 => exact (Kd.V_reads' HO_140002.out).2.1); (case side5 => refine (Kd.V_reads' (e := 41) (base := w.heap.size) (ok := fun k_ => ((((P0_1_ k_ ∨ P0_2_ k_ ∨ P0_3_ k_) ∨ w.heap.size ≤ k_) ∧ k_ ≠ gb139) ∧ k_ ≠ gb147)) (n := l0_3.length) (c := c0_3) ?_).2.2; exact (by (with_reducible repeat (first | apply Kd.V_alloc | apply Kd.V_drewN | apply Kd.V_drew)); exact (Kd.V_mono (Kd.V_far (p := ⟨gb147, 3, none⟩) (Kd.V_far (p := ⟨gb147, 2, none⟩) (Kd.V_far (p := ⟨gb147, 1, none⟩) (Kd.V_far (p := ⟨gb147, 0, none⟩) (Kd.V_mono HO_140003.out (fun k_ hk => (⟨hk, hk.2⟩ : _ ∧ k_ ≠ gb147))) (fun _ hk => hk.2) (.int .i64 ((rd_T43 l0_5 x69_3).f0))) (fun _ hk => hk.2) (.int .i64 ((rd_T43 l0_5 x69_3).f1))) (fun _ hk => hk.2) (.int .i64 ((rd_T43 l0_5 x69_3).f2))) (fun _ hk => hk.2) (.slice A146_3 ((rd_T43 l0_5 x69_3).f3).length c146_3)) (fun _ h_ => h_.1)))); (case side6 => exact (Kd.V_reads' HO_140003.out).2.1); (case side7 => exact Kd.C_below HR0_5.out (by repeat (first | (with_reducible first | exact HB.out | apply below_alloc | apply pw_below_drewN | apply below_drew1 | refine below_set ?_ GE139.out | refine below_set ?_ GE147.out) | exact HB.out))); (case side8 => exact HC0_5.out); (case side9 => exact Kd.C_below HR146_3.out (by repeat (first | (with_reducible first | exact HB.out | apply below_alloc | apply pw_below_drewN | apply below_drew1 | refine below_set ?_ GE139.out | refine below_set ?_ GE147.out) | exact HB.out))); (case side10 => exact HC146_3.out); rintro e w45 ⟨rfl, hb⟩; refine ⟨_, rfl, ?_⟩; have n0_ := Aside0.mk (Kd.V_below (by (with_reducible repeat (first | apply Kd.V_alloc | apply Kd.V_drewN | apply Kd.V_drew)); exact (Kd.V_mono (Kd.V_far (p := ⟨gb147, 3, none⟩) (Kd.V_far (p := ⟨gb147, 2, none⟩) (Kd.V_far (p := ⟨gb147, 1, none⟩) (Kd.V_far (p := ⟨gb147, 0, none⟩) (Kd.V_mono HO_140001.out (fun k_ hk => (⟨hk, hk.2⟩ : _ ∧ k_ ≠ gb147))) (fun _ hk => hk.2) (.int .i64 ((rd_T43 l0_5 x69_3).f0))) (fun _ hk => hk.2) (.int .i64 ((rd_T43 l0_5 x69_3).f1))) (fun _ hk => hk.2) (.int .i64 ((rd_T43 l0_5 x69_3).f2))) (fun _ hk => hk.2) (.slice A146_3 ((rd_T43 l0_5 x69_3).f3).length c146_3)) (fun _ h_ => h_.1))) hb); have n1_ := Aside0.mk (Kd.V_below (by (with_reducible repeat (first | apply Kd.V_alloc | apply Kd.V_drewN | apply Kd.V_drew)); exact (Kd.V_mono (Kd.V_far (p := ⟨gb147, 3, none⟩) (Kd.V_far (p := ⟨gb147, 2, none⟩) (Kd.V_far (p := ⟨gb147, 1, none⟩) (Kd.V_far (p := ⟨gb147, 0, none⟩) (Kd.V_mono HO_140002.out (fun k_ hk => (⟨hk, hk.2⟩ : _ ∧ k_ ≠ gb147))) (fun _ hk => hk.2) (.int .i64 ((rd_T43 l0_5 x69_3).f0))) (fun _ hk => hk.2) (.int .i64 ((rd_T43 l0_5 x69_3).f1))) (fun _ hk => hk.2) (.int .i64 ((rd_T43 l0_5 x69_3).f2))) (fun _ hk => hk.2) (.slice A146_3 ((rd_T43 l0_5 x69_3).f3).length c146_3)) (fun _ h_ => h_.1))) hb); have n2_ := Aside0.mk (Kd.V_below (by (with_reducible repeat (first | apply Kd.V_alloc | apply Kd.V_drewN | apply Kd.V_drew)); exact (Kd.V_mono (Kd.V_far (p := ⟨gb147, 3, none⟩) (Kd.V_far (p := ⟨gb147, 2, none⟩) (Kd.V_far (p := ⟨gb147, 1, none⟩) (Kd.V_far (p := ⟨gb147, 0, none⟩) (Kd.V_mono HO_140003.out (fun k_ hk => (⟨hk, hk.2⟩ : _ ∧ k_ ≠ gb147))) (fun _ hk => hk.2) (.int .i64 ((rd_T43 l0_5 x69_3).f0))) (fun _ hk => hk.2) (.int .i64 ((rd_T43 l0_5 x69_3).f1))) (fun _ hk => hk.2) (.int .i64 ((rd_T43 l0_5 x69_3).f2))) (fun _ hk => hk.2) (.slice A146_3 ((rd_T43 l0_5 x69_3).f3).length c146_3)) (fun _ h_ => h_.1))) hb); have n3_ := Aside0.mk (blk_below (g := gb139) (o := .cells #[.bool a0_0, .slice A0_1 l0_1.length c0_1, .slice A0_2 l0_2.length c0_2, .slice A0_3 l0_3.length c0_3, .bool a0_4, .slice (some ad146) l0_5.length c0_5, .int .i64 a0_6] 25 (0, 0)) (by (with_reducible repeat (first | refine blk_drewN ?_ _ | refine blk_drew ?_ | refine blk_alloc ?_ _)); refine blk_far ?_ NB139_147.out _; (with_reducible repeat (first | refine blk_drewN ?_ _ | refine blk_drew ?_ | refine blk_alloc ?_ _)); refine blk_far ?_ NB139_147.out _; (with_reducible repeat (first | refine blk_drewN ?_ _ | refine blk_drew ?_ | refine blk_alloc ?_ _)); refine blk_far ?_ NB139_147.out _; (with_reducible repeat (first | refine blk_drewN ?_ _ | refine blk_drew ?_ | refine blk_alloc ?_ _)); refine blk_far ?_ NB139_147.out _; (with_reducible repeat (first | refine blk_drewN ?_ _ | refine blk_drew ?_ | refine blk_alloc ?_ _)); exact BK139.out) hb); have n4_ := Aside0.mk (blk_below (g := gb147) (o := .cells #[.int .i64 ((rd_T43 l0_5 x69_3).f0), .int .i64 ((rd_T43 l0_5 x69_3).f1), .int .i64 ((rd_T43 l0_5 x69_3).f2), .slice A146_3 ((rd_T43 l0_5 x69_3).f3).length c146_3] 43 (0, 0)) (by (with_reducible repeat (first | refine blk_drewN ?_ _ | refine blk_drew ?_ | refine blk_alloc ?_ _)); refine blk_put (cs := #[.int .i64 ((rd_T43 l0_5 x69_3).f0), .int .i64 ((rd_T43 l0_5 x69_3).f1), .int .i64 ((rd_T43 l0_5 x69_3).f2), .slice none 0 0]) ?_ 3 _ rfl; (with_reducible repeat (first | refine blk_drewN ?_ _ | refine blk_drew ?_ | refine blk_alloc ?_ _)); refine blk_put (cs := #[.int .i64 ((rd_T43 l0_5 x69_3).f0), .int .i64 ((rd_T43 l0_5 x69_3).f1), .int .i64 0, .slice none 0 0]) ?_ 2 _ rfl; (with_reducible repeat (first | refine blk_drewN ?_ _ | refine blk_drew ?_ | refine blk_alloc ?_ _)); refine blk_put (cs := #[.int .i64 ((rd_T43 l0_5 x69_3).f0), .int .i64 0, .int .i64 0, .slice none 0 0]) ?_ 1 _ rfl; (with_reducible repeat (first | refine blk_drewN ?_ _ | refine blk_drew ?_ | refine blk_alloc ?_ _)); refine blk_put (cs := #[.int .i64 0, .int .i64 0, .int .i64 0, .slice none 0 0]) ?_ 0 _ rfl; (with_reducible repeat (first | refine blk_drewN ?_ _ | refine blk_drew ?_ | refine blk_alloc ?_ _)); exact BK147.out) hb); have n5_ := Aside0.mk (below_step (by repeat (first | (with_reducible first | exact HB.out | apply below_alloc | apply pw_below_drewN | apply below_drew1 | refine below_set ?_ GE139.out | refine below_set ?_ GE147.out) | exact HB.out)) hb); clear HO_140001; clear HO_140002; clear HO_140003; clear BK139; clear BK147; clear HB; have HO_140001 := n0_; have HO_140002 := n1_; have HO_140003 := n2_; have BK139 := n3_; have BK147 := n4_; have HB := n5_; clear n0_ n1_ n2_ n3_ n4_ n5_; (try clear hb); (try clear hb2); (try clear hk); (try clear hi)))
                                go_ret
                                exact ⟨by first | rfl | (simp [errW_none, errW_some] <;> rfl) | (simp [*, errW_none, errW_some] <;> rfl), by repeat (first | (with_reducible first | exact HB.out | apply below_alloc | apply pw_below_drewN | apply below_drew1 | refine below_set ?_ GE139.out | refine below_set ?_ GE147.out) | exact HB.out)⟩
                            · rw [if_neg c33] at H
                              exact absurd H (by simp)
                          · rw [if_neg c32] at H
                            exact absurd H (by simp)
                        · rw [if_neg c31] at H
                          have c31b0 : decide (x69_3 < (l0_5.length : Int)) = false := decide_eq_false c31
                          clear c31
                          by_cases c46 : a0_6 < 0
                          · rw [if_pos c46] at H
                            have c46b0 : decide (a0_6 < 0) = true := decide_eq_true c46
                            clear c46
                            obtain rfl := Option.some.inj H
                            have hcz47_0 : wr.cell? ⟨gb139, 0, none⟩ = some (.bool a0_0) := (blk_cell BK139.out 0).trans rfl
                            have hcz47_1 : wr.cell? ⟨gb139, 1, none⟩ = some (.slice A0_1 l0_1.length c0_1) := (blk_cell BK139.out 1).trans rfl
                            have hcz47_2 : wr.cell? ⟨gb139, 2, none⟩ = some (.slice A0_2 l0_2.length c0_2) := (blk_cell BK139.out 2).trans rfl
                            have hcz47_3 : wr.cell? ⟨gb139, 3, none⟩ = some (.slice A0_3 l0_3.length c0_3) := (blk_cell BK139.out 3).trans rfl
                            have hcz47_4 : wr.cell? ⟨gb139, 4, none⟩ = some (.bool a0_4) := (blk_cell BK139.out 4).trans rfl
                            have hcz47_5 : wr.cell? ⟨gb139, 5, none⟩ = some (.slice A0_5 l0_5.length c0_5) := (blk_cell BK139.out 5).trans rfl
                            have hcz47_6 : wr.cell? ⟨gb139, 6, none⟩ = some (.int .i64 a0_6) := (blk_cell BK139.out 6).trans rfl
                            have hfz47_0 := blk_frozen BK139.out 0
                            have hfz47_1 := blk_frozen BK139.out 1
                            have hfz47_2 := blk_frozen BK139.out 2
                            have hfz47_3 := blk_frozen BK139.out 3
                            have hfz47_4 := blk_frozen BK139.out 4
                            have hfz47_5 := blk_frozen BK139.out 5
                            have hfz47_6 := blk_frozen BK139.out 6
                            go_wp2
                            go_ret
                            exact ⟨by first | rfl | (simp [errW_none, errW_some] <;> rfl) | (simp [*, errW_none, errW_some] <;> rfl), by repeat (first | (with_reducible first | exact HB.out | apply below_alloc | apply pw_below_drewN | apply below_drew1 | refine below_set ?_ GE139.out) | exact HB.out)⟩
                          · rw [if_neg c46] at H
                            have c46b0 : decide (a0_6 < 0) = false := decide_eq_false c46
                            clear c46
                            by_cases c48 : a0_6 > (l0_5.length : Int)
                            · rw [if_pos c48] at H
                              have c48b0 : decide ((l0_5.length : Int) < a0_6) = true := decide_eq_true c48
                              clear c48
                              obtain rfl := Option.some.inj H
                              have hcz49_0 : wr.cell? ⟨gb139, 0, none⟩ = some (.bool a0_0) := (blk_cell BK139.out 0).trans rfl
                              have hcz49_1 : wr.cell? ⟨gb139, 1, none⟩ = some (.slice A0_1 l0_1.length c0_1) := (blk_cell BK139.out 1).trans rfl
                              have hcz49_2 : wr.cell? ⟨gb139, 2, none⟩ = some (.slice A0_2 l0_2.length c0_2) := (blk_cell BK139.out 2).trans rfl
                              have hcz49_3 : wr.cell? ⟨gb139, 3, none⟩ = some (.slice A0_3 l0_3.length c0_3) := (blk_cell BK139.out 3).trans rfl
                              have hcz49_4 : wr.cell? ⟨gb139, 4, none⟩ = some (.bool a0_4) := (blk_cell BK139.out 4).trans rfl
                              have hcz49_5 : wr.cell? ⟨gb139, 5, none⟩ = some (.slice A0_5 l0_5.length c0_5) := (blk_cell BK139.out 5).trans rfl
                              have hcz49_6 : wr.cell? ⟨gb139, 6, none⟩ = some (.int .i64 a0_6) := (blk_cell BK139.out 6).trans rfl
                              have hfz49_0 := blk_frozen BK139.out 0
                              have hfz49_1 := blk_frozen BK139.out 1
                              have hfz49_2 := blk_frozen BK139.out 2
                              have hfz49_3 := blk_frozen BK139.out 3
                              have hfz49_4 := blk_frozen BK139.out 4
                              have hfz49_5 := blk_frozen BK139.out 5
                              have hfz49_6 := blk_frozen BK139.out 6
                              go_wp2
                              go_ret
                              exact ⟨by first | rfl | (simp [errW_none, errW_some] <;> rfl) | (simp [*, errW_none, errW_some] <;> rfl), by repeat (first | (with_reducible first | exact HB.out | apply below_alloc | apply pw_below_drewN | apply below_drew1 | refine below_set ?_ GE139.out) | exact HB.out)⟩
                            · rw [if_neg c48] at H
                              have c48b0 : decide ((l0_5.length : Int) < a0_6) = false := decide_eq_false c48
                              clear c48
                              obtain rfl := Option.some.inj H
                              have hcz50_0 : wr.cell? ⟨gb139, 0, none⟩ = some (.bool a0_0) := (blk_cell BK139.out 0).trans rfl
                              have hcz50_1 : wr.cell? ⟨gb139, 1, none⟩ = some (.slice A0_1 l0_1.length c0_1) := (blk_cell BK139.out 1).trans rfl
                              have hcz50_2 : wr.cell? ⟨gb139, 2, none⟩ = some (.slice A0_2 l0_2.length c0_2) := (blk_cell BK139.out 2).trans rfl
                              have hcz50_3 : wr.cell? ⟨gb139, 3, none⟩ = some (.slice A0_3 l0_3.length c0_3) := (blk_cell BK139.out 3).trans rfl
                              have hcz50_4 : wr.cell? ⟨gb139, 4, none⟩ = some (.bool a0_4) := (blk_cell BK139.out 4).trans rfl
                              have hcz50_5 : wr.cell? ⟨gb139, 5, none⟩ = some (.slice A0_5 l0_5.length c0_5) := (blk_cell BK139.out 5).trans rfl
                              have hcz50_6 : wr.cell? ⟨gb139, 6, none⟩ = some (.int .i64 a0_6) := (blk_cell BK139.out 6).trans rfl
                              have hfz50_0 := blk_frozen BK139.out 0
                              have hfz50_1 := blk_frozen BK139.out 1
                              have hfz50_2 := blk_frozen BK139.out 2
                              have hfz50_3 := blk_frozen BK139.out 3
                              have hfz50_4 := blk_frozen BK139.out 4
                              have hfz50_5 := blk_frozen BK139.out 5
                              have hfz50_6 := blk_frozen BK139.out 6
                              go_wp2
                              go_ret
                              exact ⟨by first | rfl | (simp [errW_none, errW_some] <;> rfl) | (simp [*, errW_none, errW_some] <;> rfl), by repeat (first | (with_reducible first | exact HB.out | apply below_alloc | apply pw_below_drewN | apply below_drew1 | refine below_set ?_ GE139.out) | exact HB.out)⟩
end Go.Proofs.Ytonljejhlphgpaa.G

