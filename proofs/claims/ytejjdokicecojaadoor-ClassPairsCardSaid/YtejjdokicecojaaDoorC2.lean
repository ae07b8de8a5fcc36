/- The tables of package class as Lean's lists, and plain facts of them. -/
import Derived.Test.YtejjdokicecojaaDoorC1
import Derived.Maps.OwnSet
import Derived.Maps.Views
import Derived.Test.YtejjdokicecojaaDoorG0
namespace Go.Proofs.YtejjdokicecojaaDoor
open Go.RowKit
def nameL : List ByteArray := [⟨#[97, 108, 110, 117, 109]⟩, ⟨#[97, 108, 112, 104, 97]⟩, ⟨#[97, 110, 121]⟩, ⟨#[97, 115, 99, 105, 105]⟩, ⟨#[98, 108, 97, 110, 107]⟩, ⟨#[99, 110, 116, 114, 108]⟩, ⟨#[99, 121, 114, 105, 108, 108, 105, 99]⟩, ⟨#[100, 105, 103, 105, 116]⟩, ⟨#[103, 114, 97, 112, 104]⟩, ⟨#[103, 114, 101, 101, 107]⟩, ⟨#[104, 97, 110, 103, 117, 108]⟩, ⟨#[107, 97, 110, 97]⟩, ⟨#[108, 97, 116, 105, 110]⟩, ⟨#[108, 111, 119, 101, 114]⟩, ⟨#[109, 97, 114, 107]⟩, ⟨#[111, 116, 104, 101, 114]⟩, ⟨#[112, 114, 105, 110, 116]⟩, ⟨#[112, 117, 110, 99, 116]⟩, ⟨#[114, 117, 110, 101]⟩, ⟨#[115, 112, 97, 99, 101]⟩, ⟨#[115, 116, 114, 97, 121]⟩, ⟨#[117, 112, 112, 101, 114]⟩, ⟨#[118, 111, 119, 101, 108]⟩, ⟨#[120, 100, 105, 103, 105, 116]⟩]
def cntL : List Nat := [3, 2, 3, 1, 2, 2, 1, 1, 1, 3, 1, 2, 5, 5, 1, 3, 1, 4, 2, 4, 1, 6, 10, 3]
def rngL : List (Int × Int) := [(48, 57), (65, 90), (97, 122), (65, 90), (97, 122), (0, 55295), (57344, 1114111), (1114240, 1114367), (0, 127), (9, 9), (32, 32), (0, 31), (127, 127), (1024, 1119), (48, 57), (33, 126), (913, 929), (931, 937), (945, 969), (44032, 55203), (12353, 12438), (12449, 12538), (65, 90), (97, 122), (192, 214), (216, 246), (248, 255), (97, 122), (223, 246), (248, 255), (945, 969), (1072, 1119), (768, 879), (128, 55295), (57344, 1114111), (1114240, 1114367), (32, 126), (33, 47), (58, 64), (91, 96), (123, 126), (0, 55295), (57344, 1114111), (9, 13), (32, 32), (133, 133), (160, 160), (1114240, 1114367), (65, 90), (192, 214), (216, 222), (913, 929), (931, 937), (1024, 1071), (65, 65), (69, 69), (73, 73), (79, 79), (85, 85), (97, 97), (101, 101), (105, 105), (111, 111), (117, 117), (48, 57), (65, 70), (97, 102)]
def nameB (k : Nat) : ByteArray := nameL.getD k ByteArray.empty
def cnt (k : Nat) : Nat := cntL.getD k 0
def sumC (k : Nat) : Nat := (cntL.take k).foldl (· + ·) 0
def rlo (k : Nat) : Int := (rngL.getD k (0, 0)).1
def rhi (k : Nat) : Int := (rngL.getD k (0, 0)).2
def namesCs : Array Value := (nameL.map Value.string).toArray
def countsCs : Array Value := (cntL.map fun n : Nat => Value.int .i8 (n : Int)).toArray
def rangesCs : Array Value := (rngL.flatMap fun p => [Value.int .i32 p.1, Value.int .i32 p.2]).toArray
/-- What the package's tables hold. -/
structure Tabs (w : World) : Prop where
  names : ∃ t fr, w.heap[0]? = some (.cells namesCs t fr)
  counts : ∃ t fr, w.heap[1]? = some (.cells countsCs t fr)
  ranges : ∃ t fr, w.heap[2]? = some (.cells rangesCs t fr)
  partners : ∃ t fr, w.heap[3]? = some (.cells partnersCs t fr)
theorem Tabs.below {w w' : World} (h : Tabs w) (hb : Below w.heap.size w w') : Tabs w' := by
  have L : ∀ {i : Nat} {o : Obj}, w.heap[i]? = some o → w'.heap[i]? = some o := fun {i o} hi => (hb.block i (by
    rcases Nat.lt_or_ge i w.heap.size with h | h
    · exact h
    · rw [Array.getElem?_eq_none h] at hi
      cases hi)).trans hi
  obtain ⟨⟨t0, f0, h0⟩, ⟨t1, f1, h1⟩, ⟨t2, f2, h2⟩, ⟨t3, f3, h3⟩⟩ := h
  exact ⟨⟨t0, f0, L h0⟩, ⟨t1, f1, L h1⟩, ⟨t2, f2, L h2⟩, ⟨t3, f3, L h3⟩⟩
theorem lt24 {k : Nat} (h : k < 24) : k = 0 ∨ k = 1 ∨ k = 2 ∨ k = 3 ∨ k = 4 ∨ k = 5 ∨ k = 6 ∨ k = 7 ∨ k = 8 ∨ k = 9 ∨ k = 10 ∨ k = 11 ∨ k = 12 ∨ k = 13 ∨ k = 14 ∨ k = 15 ∨ k = 16 ∨ k = 17 ∨ k = 18 ∨ k = 19 ∨ k = 20 ∨ k = 21 ∨ k = 22 ∨ k = 23 := by omega
theorem idx24 (k : Nat) (hk : k < 24) (w : World) : (Instr.index 40 (.agg namesCs) (.int .i64 (k : Int))).run Tryd.prog w = .ok (.string (nameB k)) w := by
  rcases lt24 hk with rfl | rfl | rfl | rfl | rfl | rfl | rfl | rfl | rfl | rfl | rfl | rfl | rfl | rfl | rfl | rfl | rfl | rfl | rfl | rfl | rfl | rfl | rfl | rfl <;> kernel_rfl
theorem cnt_bd (k : Nat) : cnt k ≤ 10 := by
  rcases Nat.lt_or_ge k 24 with h | h
  · have : ∀ j : Fin 24, cnt j.1 ≤ 10 := by decide
    exact this ⟨k, h⟩
  · unfold cnt
    rw [List.getD_eq_getElem?_getD, List.getElem?_eq_none (show cntL.length ≤ k from h)]
    simp
theorem sumC_step (k : Nat) (h : k < 24) : sumC (k + 1) = sumC k + cnt k := by
  have : ∀ j : Fin 24, sumC (j.1 + 1) = sumC j.1 + cnt j.1 := by decide
  exact this ⟨k, h⟩
theorem sumC_bd (k : Nat) (h : k < 24) : sumC k + cnt k ≤ 67 := by
  have : ∀ j : Fin 24, sumC j.1 + cnt j.1 ≤ 67 := by decide
  exact this ⟨k, h⟩
theorem cells_counts {w : World} (h : Tabs w) (k : Nat) (hk : k < 24) : w.cell? ⟨1, k, none⟩ = some (.int .i8 (cnt k)) := by
  obtain ⟨t, fr, h⟩ := h.counts
  rw [cell_of_row w 1 k _ t fr h]
  unfold countsCs cnt
  rw [List.getElem?_toArray, List.getElem?_map, List.getElem?_eq_getElem (show k < cntL.length from hk)]
  simp [List.getD_eq_getElem?_getD, List.getElem?_eq_getElem (show k < cntL.length from hk)]
theorem rng_bd (k : Nat) (h : k < 67) : 0 ≤ rlo k ∧ rlo k ≤ rhi k ∧ rhi k ≤ 1114367 := by
  have : ∀ j : Fin 67, 0 ≤ rlo j.1 ∧ rlo j.1 ≤ rhi j.1 ∧ rhi j.1 ≤ 1114367 := by decide
  exact this ⟨k, h⟩
theorem cells_ranges {w : World} (h : Tabs w) (k : Nat) (hk : k < 67) : w.cell? ⟨2, k * 2, none⟩ = some (.int .i32 (rlo k)) ∧ w.cell? ⟨2, k * 2 + 1, none⟩ = some (.int .i32 (rhi k)) := by
  obtain ⟨t, fr, h⟩ := h.ranges
  rw [cell_of_row w 2 _ _ t fr h, cell_of_row w 2 _ _ t fr h]
  have : ∀ (l : List (Int × Int)) (k : Nat), k < l.length → (l.flatMap fun p => [Value.int .i32 p.1, Value.int .i32 p.2])[k * 2]? = some (.int .i32 (l.getD k (0, 0)).1) ∧ (l.flatMap fun p => [Value.int .i32 p.1, Value.int .i32 p.2])[k * 2 + 1]? = some (.int .i32 (l.getD k (0, 0)).2) := by
    intro l
    induction l with
    | nil => intro k hk; simp at hk
    | cons p l ih =>
      intro k hk
      cases k with
      | zero => simp
      | succ k =>
        have := ih k (by simpa using hk)
        rw [show (k + 1) * 2 = k * 2 + 2 by omega]
        simpa using this
  have := this rngL k hk
  unfold rangesCs rlo rhi
  rw [List.getElem?_toArray, List.getElem?_toArray]
  exact this
end Go.Proofs.YtejjdokicecojaaDoor
