/- The walks of class.Lower and class.Upper. -/
import Derived.Test.YtejjdokicecojaaDoorProg
import Derived.WalkKit
import Derived.KernelRfl
import Derived.Outline
import Derived.Laws.Rows
import Derived.WalkLawsBesides
import Derived.WalkSpells
import Derived.Deep.QuietTactic
import Derived.BigQuiet
import Derived.Deep.LoopGhost
namespace Go.Proofs.YtejjdokicecojaaDoor
open Go.RowKit
def prow (a b c : Int) : Value := .agg #[.int .i32 a, .int .i32 b, .int .i32 c]
def partnersCs : Array Value := #[.int .i32 0x41, .int .i32 0x5A, .int .i32 0x20, .int .i32 0xC0, .int .i32 0xD6, .int .i32 0x20, .int .i32 0xD8, .int .i32 0xDE, .int .i32 0x20, .int .i32 0x391, .int .i32 0x3A1, .int .i32 0x20, .int .i32 0x3A3, .int .i32 0x3A9, .int .i32 0x20, .int .i32 0x400, .int .i32 0x40F, .int .i32 0x50, .int .i32 0x410, .int .i32 0x42F, .int .i32 0x20]
def plo : Nat → Int := fun k => [0x41, 0xC0, 0xD8, 0x391, 0x3A3, 0x400, 0x410].getD k 0
def phi : Nat → Int := fun k => [0x5A, 0xD6, 0xDE, 0x3A1, 0x3A9, 0x40F, 0x42F].getD k 0
def pby : Nat → Int := fun k => [0x20, 0x20, 0x20, 0x20, 0x20, 0x50, 0x20].getD k 0

theorem idx7 (k : Nat) (hk : k < 7) (w : World) : (Instr.index 54 (.agg partnersCs) (.int .i64 (k : Int))).run Tryd.prog w = .ok (prow (plo k) (phi k) (pby k)) w := by
  rcases (show k = 0 ∨ k = 1 ∨ k = 2 ∨ k = 3 ∨ k = 4 ∨ k = 5 ∨ k = 6 by omega) with rfl | rfl | rfl | rfl | rfl | rfl | rfl <;> kernel_rfl
theorem pbd (k : Nat) (hk : k < 7) : 0x41 ≤ plo k ∧ plo k ≤ 0x42F ∧ 0x5A ≤ phi k ∧ phi k ≤ 0x42F ∧ 32 ≤ pby k ∧ pby k ≤ 80 := by
  match k, hk with
  | 0, _ | 1, _ | 2, _ | 3, _ | 4, _ | 5, _ | 6, _ => decide

def lowF (u : Int) : Int := if 0x41 ≤ u ∧ u ≤ 0x5A then u + 0x20 else if 0xC0 ≤ u ∧ u ≤ 0xD6 then u + 0x20 else if 0xD8 ≤ u ∧ u ≤ 0xDE then u + 0x20 else if 0x391 ≤ u ∧ u ≤ 0x3A1 then u + 0x20 else if 0x3A3 ≤ u ∧ u ≤ 0x3A9 then u + 0x20 else if 0x400 ≤ u ∧ u ≤ 0x40F then u + 0x50 else if 0x410 ≤ u ∧ u ≤ 0x42F then u + 0x20 else u
def upF (u : Int) : Int := if 0x61 ≤ u ∧ u ≤ 0x7A then u - 0x20 else if 0xE0 ≤ u ∧ u ≤ 0xF6 then u - 0x20 else if 0xF8 ≤ u ∧ u ≤ 0xFE then u - 0x20 else if 0x3B1 ≤ u ∧ u ≤ 0x3C1 then u - 0x20 else if 0x3C3 ≤ u ∧ u ≤ 0x3C9 then u - 0x20 else if 0x450 ≤ u ∧ u ≤ 0x45F then u - 0x50 else if 0x430 ≤ u ∧ u ≤ 0x44F then u - 0x20 else u
theorem low_in (u : Int) (k : Nat) (hk : k < 7) (h1 : plo k ≤ u) (h2 : u ≤ phi k) : lowF u = u + pby k := by
  rcases (show k = 0 ∨ k = 1 ∨ k = 2 ∨ k = 3 ∨ k = 4 ∨ k = 5 ∨ k = 6 by omega) with rfl | rfl | rfl | rfl | rfl | rfl | rfl <;> simp [plo, phi, pby] at * <;> unfold lowF <;> (repeat' split) <;> omega
theorem low_out (u : Int) (h : ∀ k, k < 7 → ¬ (plo k ≤ u ∧ u ≤ phi k)) : lowF u = u := by
  have h0 := h 0 (by omega); have h1 := h 1 (by omega); have h2 := h 2 (by omega); have h3 := h 3 (by omega); have h4 := h 4 (by omega); have h5 := h 5 (by omega); have h6 := h 6 (by omega)
  simp [plo, phi] at h0 h1 h2 h3 h4 h5 h6
  unfold lowF
  (repeat' split) <;> omega
theorem up_in (u : Int) (k : Nat) (hk : k < 7) (h1 : plo k + pby k ≤ u) (h2 : u ≤ phi k + pby k) : upF u = u - pby k := by
  rcases (show k = 0 ∨ k = 1 ∨ k = 2 ∨ k = 3 ∨ k = 4 ∨ k = 5 ∨ k = 6 by omega) with rfl | rfl | rfl | rfl | rfl | rfl | rfl <;> simp [plo, phi, pby] at * <;> unfold upF <;> (repeat' split) <;> omega
theorem up_out (u : Int) (h : ∀ k, k < 7 → ¬ (plo k + pby k ≤ u ∧ u ≤ phi k + pby k)) : upF u = u := by
  have h0 := h 0 (by omega); have h1 := h 1 (by omega); have h2 := h 2 (by omega); have h3 := h 3 (by omega); have h4 := h 4 (by omega); have h5 := h 5 (by omega); have h6 := h 6 (by omega)
  simp [plo, phi, pby] at h0 h1 h2 h3 h4 h5 h6
  unfold upF
  (repeat' split) <;> omega
theorem ret_int {k : IntKind} {a b : Int} (h : a = b) : Ending.returned (.int k a) = .returned (.int k b) := by rw [h]
def NoLow (u : Int) (k : Nat) : Prop := ∀ j, j < k → ¬ (plo j ≤ u ∧ u ≤ phi j)
def NoUp (u : Int) (k : Nat) : Prop := ∀ j, j < k → ¬ (plo j + pby j ≤ u ∧ u ≤ phi j + pby j)
theorem NoLow.step {u : Int} {k : Nat} (h : NoLow u k) (hk : ¬ (plo k ≤ u ∧ u ≤ phi k)) : NoLow u (k + 1) := by
  intro j hj
  rcases Nat.lt_succ_iff_lt_or_eq.1 hj with h' | rfl
  · exact h j h'
  · exact hk
theorem NoUp.step {u : Int} {k : Nat} (h : NoUp u k) (hk : ¬ (plo k + pby k ≤ u ∧ u ≤ phi k + pby k)) : NoUp u (k + 1) := by
  intro j hj
  rcases Nat.lt_succ_iff_lt_or_eq.1 hj with h' | rfl
  · exact h j h'
  · exact hk
theorem Lower_any (u : Int) (w : World) (t : TypeId) (fr : Nat × Nat) (hg : w.heap[3]? = some (.cells partnersCs t fr)) :
    Calls Tryd.prog 14 #[.int .i64 u] w fun e w' => e = .returned (.int .i64 (lowF u)) ∧ Below w.heap.size w w' := by
  go_enter Tryd.func14, Tryd.ntmps14
  go_wp2_with (refine wpList_load_row rfl 54 _ rfl 3 rfl t partnersCs fr _ hg Tryd.underlying54 rfl (by kernel_rfl) ?_)
  go_loopw [6] (fun i wr => ∃ k : Nat, k ≤ 7 ∧ i = .int .i64 k ∧ NoLow u k ∧ Below w.heap.size w wr) (fun i _ => 7 - (intOf i).toNat)
  case atStart => exact ⟨0, by omega, rfl, fun j h => absurd h (by omega), Below.refl _ _⟩
  case round =>
    obtain ⟨k, hk, rfl, hn, hB⟩ := hrel
    by_cases hlt : k < 7
    · have hi := idx7 k hlt
      obtain ⟨b1, b2, b3, b4, b5, b6⟩ := pbd k hlt
      unfold prow at hi
      go_wp2
      · go_ret
        exact ⟨ret_int (low_in u k hlt ‹_› ‹_›).symm, hB.alloc hB.size _⟩
      all_goals
        go_roundw
        case rel => exact ⟨k + 1, by omega, by go_num, hn.step (by omega), hB.alloc hB.size _⟩
        case measure => simp [intOf]; omega
    · obtain rfl : k = 7 := by omega
      go_wp2
      go_ret
      exact ⟨ret_int (low_out u hn).symm, hB⟩
theorem Upper_any (u : Int) (w : World) (t : TypeId) (fr : Nat × Nat) (hg : w.heap[3]? = some (.cells partnersCs t fr)) :
    Calls Tryd.prog 16 #[.int .i64 u] w fun e w' => e = .returned (.int .i64 (upF u)) ∧ Below w.heap.size w w' := by
  go_enter Tryd.func16, Tryd.ntmps16
  go_wp2_with (refine wpList_load_row rfl 54 _ rfl 3 rfl t partnersCs fr _ hg Tryd.underlying54 rfl (by kernel_rfl) ?_)
  go_loopw [7] (fun i wr => ∃ k : Nat, k ≤ 7 ∧ i = .int .i64 k ∧ NoUp u k ∧ Below w.heap.size w wr) (fun i _ => 7 - (intOf i).toNat)
  case atStart => exact ⟨0, by omega, rfl, fun j h => absurd h (by omega), Below.refl _ _⟩
  case round =>
    obtain ⟨k, hk, rfl, hn, hB⟩ := hrel
    by_cases hlt : k < 7
    · have hi := idx7 k hlt
      obtain ⟨b1, b2, b3, b4, b5, b6⟩ := pbd k hlt
      unfold prow at hi
      go_wp2
      · go_ret
        exact ⟨ret_int (up_in u k hlt ‹_› ‹_›).symm, hB.alloc hB.size _⟩
      all_goals
        go_roundw
        case rel => exact ⟨k + 1, by omega, by go_num, hn.step (by omega), hB.alloc hB.size _⟩
        case measure => simp [intOf]; omega
    · obtain rfl : k = 7 := by omega
      go_wp2
      go_ret
      exact ⟨ret_int (up_out u hn).symm, hB⟩
end Go.Proofs.YtejjdokicecojaaDoor
