/- The walk of class.Of. -/
import Derived.Test.YtejjdokicecojaaDoorC2
import Derived.Laws.Slices
import Derived.Lib.Hide
import Derived.Maps.Own
namespace Go.Proofs.YtejjdokicecojaaDoor
open Go.RowKit Go.WideMaps Go.Maps
open Go.Proofs.YtejjdokicecojaaDoor.G (S31 k31 info31 k31_mkM)
open Go.Proofs.YtejjdokicecojaaDoorW.PrintWords
theorem law9 : Keyed Tryd.prog 9 := string_keyed Tryd.underlying9
theorem zero3 (w : World) : (zeroValue 3).run Tryd.prog w = .ok (.int .i64 0) w := by kernel_rfl
def keyB (s : ByteArray) : Lit := .string s.data.toList
noncomputable def mapD (H : Type) : Nat → DataW H
  | 0 => .map []
  | k + 1 => (mapD H k).put (keyB (nameB k)) (.lit (.int .i64 k))
theorem key_ok (s : ByteArray) (h : s.size ≤ maxLen) : keyOf Tryd.prog 9 (.string s) = some (keyB s) := keyOf_string_mk Tryd.underlying9 h
theorem name_sz (k : Nat) (h : k < 24) : (nameB k).size ≤ maxLen := by
  have : ∀ j : Fin 24, (nameB j.1).size ≤ 10 := by decide
  exact Nat.le_trans (this ⟨k, h⟩) (by decide)
theorem keyB_inj {s t : ByteArray} (h : keyB s = keyB t) : s = t := by
  unfold keyB at h
  injection h with h
  cases s with | mk a => cases t with | mk b => cases a with | mk a => cases b with | mk b => simp at h; rw [h]
theorem isMap (k : Nat) : IsMap (mapD Unit k) := by
  induction k with
  | zero => exact isMap_empty
  | succ k ih => exact ih.put _ _
theorem isKey (s : ByteArray) : WideAt.IsKeyLit (keyB s) := by trivial
theorem names_apart (i j : Nat) (hi : i < 24) (hj : j < 24) (h : nameB i = nameB j) : i = j := by
  have : ∀ (i j : Fin 24), (nameB i.1).data.toList = (nameB j.1).data.toList → i = j := by decide
  have := this ⟨i, hi⟩ ⟨j, hj⟩ (by rw [h])
  exact congrArg Fin.val this
theorem has_none (s : ByteArray) (k : Nat) (h : ∀ j, j < k → nameB j ≠ s) : Maps.has (mapD Unit k) (keyB s) = false := by
  induction k with
  | zero => rfl
  | succ k ih =>
    rw [mapD, has_put_other (fun e => h k (by omega) (keyB_inj e).symm)]
    exact ih fun j hj => h j (by omega)
theorem has_some (j k : Nat) (hk : k ≤ 24) (h : j < k) : Maps.has (mapD Unit k) (keyB (nameB j)) = true ∧ ∀ z, (mapD Unit k).atKey (keyB (nameB j)) z = .lit (.int .i64 j) := by
  induction k with
  | zero => omega
  | succ k ih =>
    rw [mapD]
    by_cases e : j = k
    · subst e
      exact ⟨has_put_same (isMap _) (isKey _) _, fun z => atKey_put_same (isMap _) (isKey _) _ _⟩
    · have hne : keyB (nameB j) ≠ keyB (nameB k) := fun he => e (names_apart j k (by omega) (by omega) (keyB_inj he))
      have := ih (by omega) (by omega)
      exact ⟨(has_put_other hne _).trans this.1, fun z => (atKey_put_other hne _ _).trans (this.2 z)⟩
end Go.Proofs.YtejjdokicecojaaDoor
