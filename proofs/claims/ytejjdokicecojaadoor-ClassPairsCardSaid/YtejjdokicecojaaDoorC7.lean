/- The walks of the reference's partners, Lower and Upper. -/
import Derived.Test.YtejjdokicecojaaDoorC6
namespace Go.Proofs.YtejjdokicecojaaDoor
open Go.RowKit Go.WideMaps Go.Maps
open Go.Proofs.YtejjdokicecojaaDoorW.PrintWords
def partsCs : Array Value := #[.int .i64 0x41, .int .i64 0x5A, .int .i64 0x20, .int .i64 0xC0, .int .i64 0xD6, .int .i64 0x20, .int .i64 0xD8, .int .i64 0xDE, .int .i64 0x20, .int .i64 0x391, .int .i64 0x3A1, .int .i64 0x20, .int .i64 0x3A3, .int .i64 0x3A9, .int .i64 0x20, .int .i64 0x400, .int .i64 0x40F, .int .i64 0x50, .int .i64 0x410, .int .i64 0x42F, .int .i64 0x20]
structure PartsAt (B : Nat) (W : World) : Prop where
  cells : ∀ k, k < 7 → W.cell? ⟨B, k * 3, none⟩ = some (.int .i64 (plo k)) ∧ W.cell? ⟨B, k * 3 + 1, none⟩ = some (.int .i64 (phi k)) ∧ W.cell? ⟨B, k * 3 + 2, none⟩ = some (.int .i64 (pby k))
theorem parts_any (w : World) : Calls Tryd.prog 21 #[] w fun e w' => e = .returned (.slice (some ⟨w.heap.size, 0, none⟩) 7 7) ∧ w.alloc (.cells partsCs 57) = w' := by
  go_enter Tryd.func21, Tryd.ntmps21
  go_wp2
  go_ret
  exact ⟨rfl, rfl⟩
theorem parts_at (w : World) : Calls Tryd.prog 21 #[] w fun e w' => e = .returned (.slice (some ⟨w.heap.size, 0, none⟩) 7 7) ∧ PartsAt w.heap.size w' ∧ Below w.heap.size w w' := by
  refine (parts_any w).mono ?_
  rintro e w' ⟨rfl, rfl⟩
  refine ⟨rfl, ⟨fun k hk => ?_⟩, (Below.refl _ _).alloc (Nat.le_refl _) _⟩
  rw [cell_of_row _ _ _ _ _ _ (heap_alloc_new w _), cell_of_row _ _ _ _ _ _ (heap_alloc_new w _), cell_of_row _ _ _ _ _ _ (heap_alloc_new w _)]
  rcases (show k = 0 ∨ k = 1 ∨ k = 2 ∨ k = 3 ∨ k = 4 ∨ k = 5 ∨ k = 6 by omega) with rfl | rfl | rfl | rfl | rfl | rfl | rfl <;> exact ⟨rfl, rfl, rfl⟩
theorem refLower_any (u : Int) (w : World) :
    Calls Tryd.prog 15 #[.int .i64 u] w fun e w' => e = .returned (.int .i64 (lowF u)) ∧ Below w.heap.size w w' := by
  go_enter Tryd.func15, Tryd.ntmps15
  go_wp2_with (go_at_call 21; refine (parts_at _).mono ?_; rintro e w' ⟨rfl, hP0, hB0⟩)
  have HP := Lib.hid hP0
  have HB := Lib.hid hB0
  clear hP0 hB0
  go_loop [4] (fun i => ∃ k : Nat, k ≤ 7 ∧ i = .int .i64 k ∧ NoLow u k) (fun i => 7 - (intOf i).toNat)
  case atStart => exact ⟨0, by omega, rfl, fun j h => absurd h (by omega)⟩
  case round =>
    obtain ⟨k, hk, rfl, hn⟩ := hrel
    by_cases hlt : k < 7
    · obtain ⟨c0, c1, c2⟩ := HP.out.cells k hlt
      obtain ⟨b1, b2, b3, b4, b5, b6⟩ := pbd k hlt
      go_wp2
      · go_ret
        exact ⟨ret_int (low_in u k hlt ‹_› ‹_›).symm, HB.out⟩
      all_goals
        go_round
        case rel => exact ⟨k + 1, by omega, by go_num, hn.step (by omega)⟩
        case measure => simp [intOf]; omega
    · obtain rfl : k = 7 := by omega
      go_wp2
      go_ret
      exact ⟨ret_int (low_out u hn).symm, HB.out⟩
theorem PartsAt.below {B : Nat} {w w' : World} (h : PartsAt B w) (hb : Below w.heap.size w w') : PartsAt B w' :=
  ⟨fun k hk => ⟨pw_cell_below hb (h.cells k hk).1, pw_cell_below hb (h.cells k hk).2.1, pw_cell_below hb (h.cells k hk).2.2⟩⟩
theorem refUpper_any (u : Int) (w : World) :
    Calls Tryd.prog 17 #[.int .i64 u] w fun e w' => e = .returned (.int .i64 (upF u)) ∧ Below w.heap.size w w' := by
  go_enter Tryd.func17, Tryd.ntmps17
  go_wp2_with (go_at_call 21; refine (parts_at _).mono ?_; rintro e w' ⟨rfl, hP0, hB0⟩)
  have HP := Lib.hid hP0
  have HB := Lib.hid hB0
  clear hP0 hB0
  go_loopw [4] (fun i wr => ∃ k : Nat, k ≤ 7 ∧ i = .int .i64 k ∧ NoUp u k ∧ Hid (Below w'.heap.size w' wr)) (fun i _ => 7 - (intOf i).toNat)
  case atStart => exact ⟨0, by omega, rfl, fun j h => absurd h (by omega), Lib.hid (Below.refl _ _)⟩
  case round =>
    obtain ⟨k, hk, rfl, hn, hB2⟩ := hrel
    by_cases hlt : k < 7
    · obtain ⟨c0, c1, c2⟩ := (HP.out.below hB2.out).cells k hlt
      obtain ⟨b1, b2, b3, b4, b5, b6⟩ := pbd k hlt
      have p1 : (0 : Int) ≤ k := by omega
      have p2 : (k : Int) < 7 := by omega
      by_cases h1 : plo k + pby k ≤ u
      · by_cases h2 : u ≤ phi k + pby k
        · go_wp2
          go_quiet (fail)
          go_wp2
          go_ret
          exact ⟨ret_int (up_in u k hlt h1 h2).symm, below_then HB.out HB.out.size (pw_below_drewN hB2.out _)⟩
        · go_wp2
          go_quiet (fail)
          go_wp2
          go_roundw
          case rel => exact ⟨k + 1, by omega, by go_num, hn.step (by omega), Lib.hid (pw_below_drewN hB2.out _)⟩
          case measure => simp [intOf]; omega
      · have hd : decide (plo k + pby k ≤ u) = false := by simpa using h1
        go_wp2
        go_quiet (fail)
        go_wp2
        go_roundw
        case rel => exact ⟨k + 1, by omega, by go_num, hn.step (by omega), Lib.hid (pw_below_drewN hB2.out _)⟩
        case measure => simp [intOf]; omega
    · obtain rfl : k = 7 := by omega
      go_wp2
      go_ret
      exact ⟨ret_int (up_out u hn).symm, below_then HB.out HB.out.size hB2.out⟩
end Go.Proofs.YtejjdokicecojaaDoor
