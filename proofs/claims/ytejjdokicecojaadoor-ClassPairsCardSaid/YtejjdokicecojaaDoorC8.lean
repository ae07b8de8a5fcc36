/- The contracts of class.Of, Names, Lower, Upper and of the reference's, in the form in which the printed callers take them. -/
import Derived.Test.YtejjdokicecojaaDoorC7
namespace Go.Proofs.YtejjdokicecojaaDoor
open Go.RowKit
open Go.Proofs.YtejjdokicecojaaDoor.G (S31 k31 k31_mkM)
open Go.Proofs.YtejjdokicecojaaDoorW.PrintWords
theorem str_eq {a b : ByteArray} (h : (a.toList == b.toList) = true) : a = b := by
  rw [beq_iff_eq, ByteArray.toList_eq, ByteArray.toList_eq] at h
  cases a with | mk a => cases b with | mk b => cases a with | mk a => cases b with | mk b => simp at h; rw [h]
def nameIx (s : ByteArray) : Option Nat := (List.range 24).find? fun j => (nameB j).toList == s.toList
theorem nameIx_some {s : ByteArray} {i : Nat} (h : nameIx s = some i) : i < 24 ∧ nameB i = s := by
  unfold nameIx at h
  have h1 := List.find?_some h
  have h2 := List.mem_of_find?_eq_some h
  exact ⟨by simpa using h2, str_eq h1⟩
theorem nameIx_none {s : ByteArray} (h : nameIx s = none) : ∀ j, j < 24 → ¬ nameB j = s := by
  intro j hj e
  unfold nameIx at h
  rw [List.find?_eq_none] at h
  exact h j (by simpa using hj) (by rw [e]; exact str_self s)
def ofL (s : ByteArray) : List S31 × Int := match nameIx s with | some i => (rowS i, 0) | none => ([], 30)
def ofF (s : ByteArray) : Option (List S31 × Int) := if s.size ≤ 140737488351232 then some (ofL s) else none
theorem Of_calls (a0 : ByteArray) (r1 : List S31) (r2 : Int) (w : World) (HT : Aside0 (Tabs w)) (h : ofF a0 = some (r1, r2)) :
    Calls Tryd.prog 8 #[.string a0] w fun e w' => ∃ v0_ : Value, e = .returned (.tuple #[v0_, .int .i64 r2]) ∧ Kd.R k31 31 w' w.heap.size (fun _ => True) v0_ r1 ∧ Below w.heap.size w w' := by
  unfold ofF at h
  split at h
  · rename_i hsz
    unfold ofL at h
    cases hx : nameIx a0 with
    | some i =>
      rw [hx] at h
      simp at h
      obtain ⟨rfl, rfl⟩ := h
      obtain ⟨hi, rfl⟩ := nameIx_some hx
      exact Of_some i hi w HT.out
    | none =>
      rw [hx] at h
      simp at h
      obtain ⟨rfl, rfl⟩ := h
      refine (Of_none a0 w HT.out (by unfold maxLen; omega) (nameIx_none hx)).mono ?_
      rintro e w' ⟨rfl, hb⟩
      exact ⟨_, rfl, Kd.R_nil _ _ _ _ _, hb⟩
  · cases h
theorem refOf_row {i : Nat} (hi24 : i < 24) (w : World) :
    Calls Tryd.prog 9 #[.string (nameB i)] w fun e w' => ∃ v0_ : Value, e = .returned (.tuple #[v0_, .int .i64 0]) ∧ Kd.R k31 31 w' w.heap.size (fun _ => True) v0_ (rowS i) ∧ Below w.heap.size w w' := by
  have hne : ∀ j, j < i → ¬ nameB j = nameB i := fun j hj e => by have := names_apart j i (by omega) hi24 e; omega
  have HNE := Lib.hid hne
  clear hne
  obtain ⟨s, hs⟩ : ∃ s, s = nameB i := ⟨_, rfl⟩
  have Hs := Lib.hid hs
  rw [← hs]
  clear hs
  go_enter Tryd.func9, Tryd.ntmps9
  go_wp2_with (go_at_call 19; refine (rows_at _).mono ?_; rintro e w' ⟨rfl, hW0, hB0⟩)
  have HW := Lib.hid hW0
  clear hW0
  go_loop [5] (fun i' => ∃ k : Nat, k ≤ i ∧ i' = .int .i64 k) (fun i' => i - (intOf i').toNat)
  case atStart => exact ⟨0, by omega, rfl⟩
  case round =>
    obtain ⟨k, hk, rfl⟩ := hrel
    obtain ⟨c0, c1⟩ := HW.out.cells k (by omega)
    by_cases hlt : k < i
    · have hn := HNE.out k hlt
      rw [← Hs.out] at hn
      obtain ⟨nm, hnm⟩ : ∃ nm, nm = nameB k := ⟨_, rfl⟩
      rw [← hnm] at hn c0
      have hne : (nm.toList == s.toList) = false := str_ne hn
      clear hnm hn
      go_wp2
      go_round
      case rel => exact ⟨k + 1, by omega, by go_num⟩
      case measure => simp [intOf]; omega
    · obtain rfl : k = i := by omega
      rw [← Hs.out] at c0
      have hb := HW.out.set k hi24
      have b1 := cnt_bd k
      have hR : Kd.R k31 31 w' w.heap.size (fun _ => True) (.slice (some ⟨w.heap.size + k, 0, none⟩) (cnt k) (cnt k)) (rowS k) := by
        refine ⟨fun _ _ => trivial, flat (rowS k), ⟨flat_len _, .inr ⟨_, _, _, by rw [rowS_len], by omega, hb, by rw [rowS_len]; exact Nat.le_refl _, Nat.le_trans b1 (by decide), ?_, ?_⟩⟩, flat_len _, ?_⟩
        · rw [List.size_toArray, flat_len, rowS_len]
          rfl
        · show List.take ((rowS k).length * 2) (flat (rowS k)) = _
          rw [List.take_of_length_le (by rw [flat_len]; exact Nat.le_refl _)]
        · intro j p hj
          obtain ⟨h0, h1⟩ := flat_get (rowS k) j p hj
          have hlen : j < (rowS k).length := (List.getElem?_eq_some_iff.1 hj).1
          have e : ((flat (rowS k)).drop (j * 2)).take 2 = [.int .i64 p.f0, .int .i64 p.f1] := by
            apply List.ext_getElem?
            intro n
            rw [List.getElem?_take, List.getElem?_drop]
            match n with
            | 0 => simpa using h0
            | 1 => simpa using h1
            | n + 2 => rw [if_neg (by omega)]; simp
          show k31.M _ _ _ p (((flat (rowS k)).drop (j * 2)).take 2)
          rw [e]
          exact k31_mkM _ _ _ _
      have HR := Lib.hid hR
      clear hR hb
      go_wp2
      go_ret2
      exact ⟨_, rfl, HR.out, hB0⟩
theorem refOf_calls (a0 : ByteArray) (r1 : List S31) (r2 : Int) (w : World) (h : some (ofL a0) = some (r1, r2)) :
    Calls Tryd.prog 9 #[.string a0] w fun e w' => ∃ v0_ : Value, e = .returned (.tuple #[v0_, .int .i64 r2]) ∧ Kd.R k31 31 w' w.heap.size (fun _ => True) v0_ r1 ∧ Below w.heap.size w w' := by
  unfold ofL at h
  cases hx : nameIx a0 with
  | some i =>
    rw [hx] at h
    simp at h
    obtain ⟨rfl, rfl⟩ := h
    obtain ⟨hi, rfl⟩ := nameIx_some hx
    exact refOf_row hi w
  | none =>
    rw [hx] at h
    simp at h
    obtain ⟨rfl, rfl⟩ := h
    refine (refOf_none a0 w (nameIx_none hx)).mono ?_
    rintro e w' ⟨rfl, hb⟩
    exact ⟨_, rfl, Kd.R_nil _ _ _ _ _, hb⟩
theorem Names_calls (r : List ByteArray) (w : World) (HT : Aside0 (Tabs w)) (h : some (namesTo 24) = some r) :
    Calls Tryd.prog 12 #[] w fun e w' => ∃ v0_ : Value, e = .returned (v0_) ∧ Kd.R Kd.string 9 w' w.heap.size (fun _ => True) v0_ r ∧ Below w.heap.size w w' := by
  obtain rfl := Option.some.inj h
  exact Names_any w HT.out
theorem refNames_calls (r : List ByteArray) (w : World) (h : some (namesTo 24) = some r) :
    Calls Tryd.prog 11 #[] w fun e w' => ∃ v0_ : Value, e = .returned (v0_) ∧ Kd.R Kd.string 9 w' w.heap.size (fun _ => True) v0_ r ∧ Below w.heap.size w w' := by
  obtain rfl := Option.some.inj h
  exact refNames_any w
theorem Lower_calls (a0 : Int) (r : Int) (w : World) (HT : Aside0 (Tabs w)) (h : some (lowF a0) = some r) :
    Calls Tryd.prog 14 #[.int .i64 a0] w fun e w' => e = .returned (.int .i64 r) ∧ Below w.heap.size w w' := by
  obtain rfl := Option.some.inj h
  obtain ⟨t, fr, hg⟩ := HT.out.partners
  exact Lower_any a0 w t fr hg
theorem Upper_calls (a0 : Int) (r : Int) (w : World) (HT : Aside0 (Tabs w)) (h : some (upF a0) = some r) :
    Calls Tryd.prog 16 #[.int .i64 a0] w fun e w' => e = .returned (.int .i64 r) ∧ Below w.heap.size w w' := by
  obtain rfl := Option.some.inj h
  obtain ⟨t, fr, hg⟩ := HT.out.partners
  exact Upper_any a0 w t fr hg
theorem refLower_calls (a0 : Int) (r : Int) (w : World) (h : some (lowF a0) = some r) :
    Calls Tryd.prog 15 #[.int .i64 a0] w fun e w' => e = .returned (.int .i64 r) ∧ Below w.heap.size w w' := by
  obtain rfl := Option.some.inj h
  exact refLower_any a0 w
theorem refUpper_calls (a0 : Int) (r : Int) (w : World) (h : some (upF a0) = some r) :
    Calls Tryd.prog 17 #[.int .i64 a0] w fun e w' => e = .returned (.int .i64 r) ∧ Below w.heap.size w w' := by
  obtain rfl := Option.some.inj h
  exact refUpper_any a0 w
end Go.Proofs.YtejjdokicecojaaDoor
