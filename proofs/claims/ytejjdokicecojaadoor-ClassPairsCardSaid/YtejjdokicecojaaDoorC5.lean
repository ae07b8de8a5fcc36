/- The reference's tables: rows, Of, Names. -/
import Derived.Test.YtejjdokicecojaaDoorC4
namespace Go.Proofs.YtejjdokicecojaaDoor
open Go.RowKit Go.WideMaps Go.Maps
open Go.Proofs.YtejjdokicecojaaDoor.G (S31 k31 info31 k31_mkM)
open Go.Proofs.YtejjdokicecojaaDoorW.PrintWords
def allocAll (w : World) (l : List Obj) : World := l.foldl World.alloc w
def rowsObjs (B : Nat) : List Obj := [.cells #[.int .i64 48, .int .i64 57, .int .i64 65, .int .i64 90, .int .i64 97, .int .i64 122] 31,
  .cells #[.int .i64 65, .int .i64 90, .int .i64 97, .int .i64 122] 31,
  .cells #[.int .i64 0, .int .i64 55295, .int .i64 57344, .int .i64 1114111, .int .i64 1114240, .int .i64 1114367] 31,
  .cells #[.int .i64 0, .int .i64 127] 31,
  .cells #[.int .i64 9, .int .i64 9, .int .i64 32, .int .i64 32] 31,
  .cells #[.int .i64 0, .int .i64 31, .int .i64 127, .int .i64 127] 31,
  .cells #[.int .i64 1024, .int .i64 1119] 31,
  .cells #[.int .i64 48, .int .i64 57] 31,
  .cells #[.int .i64 33, .int .i64 126] 31,
  .cells #[.int .i64 913, .int .i64 929, .int .i64 931, .int .i64 937, .int .i64 945, .int .i64 969] 31,
  .cells #[.int .i64 44032, .int .i64 55203] 31,
  .cells #[.int .i64 12353, .int .i64 12438, .int .i64 12449, .int .i64 12538] 31,
  .cells #[.int .i64 65, .int .i64 90, .int .i64 97, .int .i64 122, .int .i64 192, .int .i64 214, .int .i64 216, .int .i64 246, .int .i64 248, .int .i64 255] 31,
  .cells #[.int .i64 97, .int .i64 122, .int .i64 223, .int .i64 246, .int .i64 248, .int .i64 255, .int .i64 945, .int .i64 969, .int .i64 1072, .int .i64 1119] 31,
  .cells #[.int .i64 768, .int .i64 879] 31,
  .cells #[.int .i64 128, .int .i64 55295, .int .i64 57344, .int .i64 1114111, .int .i64 1114240, .int .i64 1114367] 31,
  .cells #[.int .i64 32, .int .i64 126] 31,
  .cells #[.int .i64 33, .int .i64 47, .int .i64 58, .int .i64 64, .int .i64 91, .int .i64 96, .int .i64 123, .int .i64 126] 31,
  .cells #[.int .i64 0, .int .i64 55295, .int .i64 57344, .int .i64 1114111] 31,
  .cells #[.int .i64 9, .int .i64 13, .int .i64 32, .int .i64 32, .int .i64 133, .int .i64 133, .int .i64 160, .int .i64 160] 31,
  .cells #[.int .i64 1114240, .int .i64 1114367] 31,
  .cells #[.int .i64 65, .int .i64 90, .int .i64 192, .int .i64 214, .int .i64 216, .int .i64 222, .int .i64 913, .int .i64 929, .int .i64 931, .int .i64 937, .int .i64 1024, .int .i64 1071] 31,
  .cells #[.int .i64 65, .int .i64 65, .int .i64 69, .int .i64 69, .int .i64 73, .int .i64 73, .int .i64 79, .int .i64 79, .int .i64 85, .int .i64 85, .int .i64 97, .int .i64 97, .int .i64 101, .int .i64 101, .int .i64 105, .int .i64 105, .int .i64 111, .int .i64 111, .int .i64 117, .int .i64 117] 31,
  .cells #[.int .i64 48, .int .i64 57, .int .i64 65, .int .i64 70, .int .i64 97, .int .i64 102] 31,
  .cells #[.string ⟨#[97, 108, 110, 117, 109]⟩, .slice (some ⟨B, 0, none⟩) 3 3, .string ⟨#[97, 108, 112, 104, 97]⟩, .slice (some ⟨B + 1, 0, none⟩) 2 2, .string ⟨#[97, 110, 121]⟩, .slice (some ⟨B + 1 + 1, 0, none⟩) 3 3, .string ⟨#[97, 115, 99, 105, 105]⟩, .slice (some ⟨B + 1 + 1 + 1, 0, none⟩) 1 1, .string ⟨#[98, 108, 97, 110, 107]⟩, .slice (some ⟨B + 1 + 1 + 1 + 1, 0, none⟩) 2 2, .string ⟨#[99, 110, 116, 114, 108]⟩, .slice (some ⟨B + 1 + 1 + 1 + 1 + 1, 0, none⟩) 2 2, .string ⟨#[99, 121, 114, 105, 108, 108, 105, 99]⟩, .slice (some ⟨B + 1 + 1 + 1 + 1 + 1 + 1, 0, none⟩) 1 1, .string ⟨#[100, 105, 103, 105, 116]⟩, .slice (some ⟨B + 1 + 1 + 1 + 1 + 1 + 1 + 1, 0, none⟩) 1 1, .string ⟨#[103, 114, 97, 112, 104]⟩, .slice (some ⟨B + 1 + 1 + 1 + 1 + 1 + 1 + 1 + 1, 0, none⟩) 1 1, .string ⟨#[103, 114, 101, 101, 107]⟩, .slice (some ⟨B + 1 + 1 + 1 + 1 + 1 + 1 + 1 + 1 + 1, 0, none⟩) 3 3, .string ⟨#[104, 97, 110, 103, 117, 108]⟩, .slice (some ⟨B + 1 + 1 + 1 + 1 + 1 + 1 + 1 + 1 + 1 + 1, 0, none⟩) 1 1, .string ⟨#[107, 97, 110, 97]⟩, .slice (some ⟨B + 1 + 1 + 1 + 1 + 1 + 1 + 1 + 1 + 1 + 1 + 1, 0, none⟩) 2 2, .string ⟨#[108, 97, 116, 105, 110]⟩, .slice (some ⟨B + 1 + 1 + 1 + 1 + 1 + 1 + 1 + 1 + 1 + 1 + 1 + 1, 0, none⟩) 5 5, .string ⟨#[108, 111, 119, 101, 114]⟩, .slice (some ⟨B + 1 + 1 + 1 + 1 + 1 + 1 + 1 + 1 + 1 + 1 + 1 + 1 + 1, 0, none⟩) 5 5, .string ⟨#[109, 97, 114, 107]⟩, .slice (some ⟨B + 1 + 1 + 1 + 1 + 1 + 1 + 1 + 1 + 1 + 1 + 1 + 1 + 1 + 1, 0, none⟩) 1 1, .string ⟨#[111, 116, 104, 101, 114]⟩, .slice (some ⟨B + 1 + 1 + 1 + 1 + 1 + 1 + 1 + 1 + 1 + 1 + 1 + 1 + 1 + 1 + 1, 0, none⟩) 3 3, .string ⟨#[112, 114, 105, 110, 116]⟩, .slice (some ⟨B + 1 + 1 + 1 + 1 + 1 + 1 + 1 + 1 + 1 + 1 + 1 + 1 + 1 + 1 + 1 + 1, 0, none⟩) 1 1, .string ⟨#[112, 117, 110, 99, 116]⟩, .slice (some ⟨B + 1 + 1 + 1 + 1 + 1 + 1 + 1 + 1 + 1 + 1 + 1 + 1 + 1 + 1 + 1 + 1 + 1, 0, none⟩) 4 4, .string ⟨#[114, 117, 110, 101]⟩, .slice (some ⟨B + 1 + 1 + 1 + 1 + 1 + 1 + 1 + 1 + 1 + 1 + 1 + 1 + 1 + 1 + 1 + 1 + 1 + 1, 0, none⟩) 2 2, .string ⟨#[115, 112, 97, 99, 101]⟩, .slice (some ⟨B + 1 + 1 + 1 + 1 + 1 + 1 + 1 + 1 + 1 + 1 + 1 + 1 + 1 + 1 + 1 + 1 + 1 + 1 + 1, 0, none⟩) 4 4, .string ⟨#[115, 116, 114, 97, 121]⟩, .slice (some ⟨B + 1 + 1 + 1 + 1 + 1 + 1 + 1 + 1 + 1 + 1 + 1 + 1 + 1 + 1 + 1 + 1 + 1 + 1 + 1 + 1, 0, none⟩) 1 1, .string ⟨#[117, 112, 112, 101, 114]⟩, .slice (some ⟨B + 1 + 1 + 1 + 1 + 1 + 1 + 1 + 1 + 1 + 1 + 1 + 1 + 1 + 1 + 1 + 1 + 1 + 1 + 1 + 1 + 1, 0, none⟩) 6 6, .string ⟨#[118, 111, 119, 101, 108]⟩, .slice (some ⟨B + 1 + 1 + 1 + 1 + 1 + 1 + 1 + 1 + 1 + 1 + 1 + 1 + 1 + 1 + 1 + 1 + 1 + 1 + 1 + 1 + 1 + 1, 0, none⟩) 10 10, .string ⟨#[120, 100, 105, 103, 105, 116]⟩, .slice (some ⟨B + 1 + 1 + 1 + 1 + 1 + 1 + 1 + 1 + 1 + 1 + 1 + 1 + 1 + 1 + 1 + 1 + 1 + 1 + 1 + 1 + 1 + 1 + 1, 0, none⟩) 3 3] 51]
theorem allocAll_size (l : List Obj) : ∀ w : World, (allocAll w l).heap.size = w.heap.size + l.length := by
  induction l with
  | nil => intro w; rfl
  | cons o l ih => intro w; show (allocAll (w.alloc o) l).heap.size = _; rw [ih, World.size_alloc, List.length_cons]; omega
theorem allocAll_below (l : List Obj) : ∀ w : World, Below w.heap.size w (allocAll w l) := by
  induction l with
  | nil => intro w; exact Below.refl _ _
  | cons o l ih =>
    intro w
    show Below w.heap.size w (allocAll (w.alloc o) l)
    exact below_then ((Below.refl _ w).alloc (Nat.le_refl _) o) (by rw [World.size_alloc]; omega) (ih _)
theorem allocAll_at (l : List Obj) : ∀ (w : World) (k : Nat), k < l.length → (allocAll w l).heap[w.heap.size + k]? = l[k]? := by
  induction l with
  | nil => intro w k h; simp at h
  | cons o l ih =>
    intro w k h
    show (allocAll (w.alloc o) l).heap[w.heap.size + k]? = _
    cases k with
    | zero =>
      have hb := allocAll_below l (w.alloc o)
      rw [hb.block _ (by rw [World.size_alloc]; omega)]
      simpa using heap_alloc_new w o
    | succ k =>
      have := ih (w.alloc o) k (by simpa using h)
      rw [World.size_alloc] at this
      rw [show w.heap.size + (k + 1) = w.heap.size + 1 + k by omega, this]
      simp
set_option maxRecDepth 100000 in
set_option maxHeartbeats 4000000 in
theorem rows_any (w : World) :
    Calls Tryd.prog 19 #[] w fun e w' => e = .returned (.slice (some ⟨w.heap.size + 24, 0, none⟩) 24 24) ∧ allocAll w (rowsObjs w.heap.size) = w' := by
  go_enter Tryd.func19, Tryd.ntmps19
  go_wp2
  go_ret
  exact ⟨rfl, rfl⟩
end Go.Proofs.YtejjdokicecojaaDoor
