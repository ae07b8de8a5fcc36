/- The walks of the reference's Of and Names, and of class.Names. -/
import Derived.Test.YtejjdokicecojaaDoorC5
namespace Go.Proofs.YtejjdokicecojaaDoor
open Go.RowKit Go.WideMaps Go.Maps
open Go.Proofs.YtejjdokicecojaaDoor.G (S31 k31 info31 k31_mkM k31_mk)
open Go.Proofs.YtejjdokicecojaaDoorW.PrintWords
theorem str_ne {a b : ByteArray} (h : ¬ a = b) : (a.toList == b.toList) = false := by
  rw [beq_eq_false_iff_ne]
  intro e
  rw [ByteArray.toList_eq, ByteArray.toList_eq] at e
  cases a with | mk a => cases b with | mk b => cases a with | mk a => cases b with | mk b => simp at e; exact h (by rw [e])
theorem str_self (a : ByteArray) : (a.toList == a.toList) = true := beq_self_eq_true _
def flat (l : List S31) : List Value := l.flatMap fun x => [.int .i64 x.f0, .int .i64 x.f1]
theorem flat_len (l : List S31) : (flat l).length = l.length * 2 := by
  induction l with
  | nil => rfl
  | cons x l ih => rw [show flat (x :: l) = .int .i64 x.f0 :: .int .i64 x.f1 :: flat l from rfl, List.length_cons, List.length_cons, ih, List.length_cons]; omega
theorem flat_get (l : List S31) : ∀ (j : Nat) (p : S31), l[j]? = some p → (flat l)[j * 2]? = some (.int .i64 p.f0) ∧ (flat l)[j * 2 + 1]? = some (.int .i64 p.f1) := by
  induction l with
  | nil => intro j p h; simp at h
  | cons x l ih =>
    intro j p h
    cases j with
    | zero => simp at h; subst h; simp [flat]
    | succ j =>
      have := ih j p (by simpa using h)
      rw [show (j + 1) * 2 = j * 2 + 2 by omega]
      simpa [flat] using this
theorem C_of_block {w : World} {b : Nat} {l : List S31} (hb : w.heap[b]? = some (.cells (flat l).toArray 31 (0, 0))) (hl : l.length ≤ 9223372036854775807) : Kd.C k31 w (some ⟨b, 0, none⟩) l.length l := by
  refine ⟨rfl, hl, fun _ => ⟨_, rfl, fun j p hj => ⟨_, rfl, k31_mk w p, fun i u hi => ?_⟩⟩⟩
  obtain ⟨h0, h1⟩ := flat_get l j p hj
  rw [add_plain, cell_of_row w b _ _ _ _ hb]
  match i, hi with
  | 0, hi => simp at hi; subst hi; rw [List.getElem?_toArray]; exact h0
  | 1, hi => simp at hi; subst hi; rw [List.getElem?_toArray]; exact h1
  | i + 2, hi => simp at hi
def rowsW (w : World) : World := allocAll w (rowsObjs w.heap.size)
theorem rowsW_below (w : World) : Below w.heap.size w (rowsW w) := allocAll_below _ _
theorem rowsW_set (w : World) (k : Nat) (hk : k < 24) : (rowsW w).heap[w.heap.size + k]? = some (.cells (flat (rowS k)).toArray 31 (0, 0)) := by
  unfold rowsW
  rw [allocAll_at _ w k (by show k < 25; omega)]
  rcases lt24 hk with rfl | rfl | rfl | rfl | rfl | rfl | rfl | rfl | rfl | rfl | rfl | rfl | rfl | rfl | rfl | rfl | rfl | rfl | rfl | rfl | rfl | rfl | rfl | rfl <;> rfl
theorem rowsW_cells (w : World) (k : Nat) (hk : k < 24) : (rowsW w).cell? ⟨w.heap.size + 24, k * 2, none⟩ = some (.string (nameB k)) ∧
    (rowsW w).cell? ⟨w.heap.size + 24, k * 2 + 1, none⟩ = some (.slice (some ⟨w.heap.size + k, 0, none⟩) (cnt k) (cnt k)) := by
  unfold rowsW
  have h := allocAll_at (rowsObjs w.heap.size) w 24 (by show 24 < 25; omega)
  rw [cell_of_row _ _ _ _ _ _ (h.trans rfl), cell_of_row _ _ _ _ _ _ (h.trans rfl)]
  rcases lt24 hk with rfl | rfl | rfl | rfl | rfl | rfl | rfl | rfl | rfl | rfl | rfl | rfl | rfl | rfl | rfl | rfl | rfl | rfl | rfl | rfl | rfl | rfl | rfl | rfl <;> exact ⟨rfl, rfl⟩
structure RowsAt (B : Nat) (W : World) : Prop where
  set : ∀ k, k < 24 → W.heap[B + k]? = some (.cells (flat (rowS k)).toArray 31 (0, 0))
  cells : ∀ k, k < 24 → W.cell? ⟨B + 24, k * 2, none⟩ = some (.string (nameB k)) ∧ W.cell? ⟨B + 24, k * 2 + 1, none⟩ = some (.slice (some ⟨B + k, 0, none⟩) (cnt k) (cnt k))
theorem rows_at (w : World) : Calls Tryd.prog 19 #[] w fun e w' => e = .returned (.slice (some ⟨w.heap.size + 24, 0, none⟩) 24 24) ∧ RowsAt w.heap.size w' ∧ Below w.heap.size w w' := by
  refine (rows_any w).mono ?_
  rintro e w' ⟨rfl, h⟩
  replace h : rowsW w = w' := h
  subst h
  exact ⟨rfl, ⟨rowsW_set w, rowsW_cells w⟩, rowsW_below w⟩
theorem rowS_len (k : Nat) : (rowS k).length = cnt k := rowTo_len k (cnt k)
/-- What a call of Of answers for the i-th name: its set, in memory of the call's own (or later than it began). -/
def HasSet (i : Nat) (e : Ending) (w' : World) : Prop := ∃ A, e = .returned (.tuple #[.slice A (rowS i).length (rowS i).length, .int .i64 0]) ∧ Kd.C k31 w' A (rowS i).length (rowS i)
set_option maxHeartbeats 1000000 in
theorem refOf_some (i : Nat) (hi24 : i < 24) (w : World) :
    Calls Tryd.prog 9 #[.string (nameB i)] w fun e w' => HasSet i e w' ∧ Below w.heap.size w w' := by
  have hne : ∀ j, j < i → ¬ nameB j = nameB i := fun j hj e => by have := names_apart j i (by omega) hi24 e; omega
  have HNE := Lib.hid hne
  clear hne
  obtain ⟨s, hs⟩ : ∃ s, s = nameB i := ⟨_, rfl⟩
  have Hs := Lib.hid hs
  rw [← hs]
  clear hs
  go_enter Tryd.func9, Tryd.ntmps9
  go_wp2_with (go_at_call 19; refine (rows_at _).mono ?_; rintro e w' ⟨rfl, hW0, hB0⟩)
  have HW := Lib.hid hW0
  clear hW0
  go_loop [5] (fun i' => ∃ k : Nat, k ≤ i ∧ i' = .int .i64 k) (fun i' => i - (intOf i').toNat)
  case atStart => exact ⟨0, by omega, rfl⟩
  case round =>
    obtain ⟨k, hk, rfl⟩ := hrel
    obtain ⟨c0, c1⟩ := HW.out.cells k (by omega)
    by_cases hlt : k < i
    · have hn := HNE.out k hlt
      rw [← Hs.out] at hn
      obtain ⟨nm, hnm⟩ : ∃ nm, nm = nameB k := ⟨_, rfl⟩
      rw [← hnm] at hn c0
      have hne : (nm.toList == s.toList) = false := str_ne hn
      clear hnm hn
      go_wp2
      go_round
      case rel => exact ⟨k + 1, by omega, by go_num⟩
      case measure => simp [intOf]; omega
    · obtain rfl : k = i := by omega
      rw [← Hs.out] at c0
      have HR := Lib.hid (C_of_block (HW.out.set k hi24) (by rw [rowS_len]; have := cnt_bd k; omega))
      go_wp2
      go_ret2
      refine ⟨⟨_, ?_, HR.out⟩, hB0⟩
      rw [rowS_len]
      rfl
theorem refOf_none (s : ByteArray) (w : World) (hno : ∀ j, j < 24 → ¬ nameB j = s) :
    Calls Tryd.prog 9 #[.string s] w fun e w' => e = .returned (.tuple #[.slice none 0 0, .int .i64 30]) ∧ Below w.heap.size w w' := by
  have HNE := Lib.hid hno
  clear hno
  go_enter Tryd.func9, Tryd.ntmps9
  go_wp2_with (go_at_call 19; refine (rows_at _).mono ?_; rintro e w' ⟨rfl, hW0, hB0⟩)
  have HW := Lib.hid hW0
  clear hW0
  go_loop [5] (fun i' => ∃ k : Nat, k ≤ 24 ∧ i' = .int .i64 k) (fun i' => 24 - (intOf i').toNat)
  case atStart => exact ⟨0, by omega, rfl⟩
  case round =>
    obtain ⟨k, hk, rfl⟩ := hrel
    by_cases hlt : k < 24
    · obtain ⟨c0, c1⟩ := HW.out.cells k (by omega)
      have hn := HNE.out k hlt
      obtain ⟨nm, hnm⟩ : ∃ nm, nm = nameB k := ⟨_, rfl⟩
      rw [← hnm] at hn c0
      have hne : (nm.toList == s.toList) = false := str_ne hn
      clear hnm hn
      go_wp2
      go_round
      case rel => exact ⟨k + 1, by omega, by go_num⟩
      case measure => simp [intOf]; omega
    · obtain rfl : k = 24 := by omega
      go_wp2
      go_ret2
      exact ⟨rfl, hB0⟩
theorem info9 : (Tryd.prog.info? 9).map (fun i => (i.zero, i.size, i.bytes)) = some (some (.string ⟨#[]⟩), 1, 16) := by kernel_rfl
def namesTo (n : Nat) : List ByteArray := (List.range n).map nameB
theorem namesTo_step (n : Nat) : namesTo (n + 1) = namesTo n ++ [nameB n] := by unfold namesTo; rw [List.range_succ, List.map_append]; rfl
theorem namesTo_len (n : Nat) : (namesTo n).length = n := by simp [namesTo]
theorem empty_R (W : World) (base : Nat) (hb : base ≤ W.heap.size) : Kd.R Kd.string 9 (W.alloc (.cells #[] 9)) base (fun _ => True) (.slice (some ⟨W.heap.size, 0, none⟩) 0 0) [] := by
  refine ⟨fun _ _ => trivial, [], ⟨rfl, .inr ⟨_, 0, #[], rfl, hb, heap_alloc_new W _, Nat.le_refl _, Nat.zero_le _, rfl, rfl⟩⟩, Reps.none _ _⟩
set_option maxHeartbeats 1000000 in
theorem refNames_any (w : World) :
    Calls Tryd.prog 11 #[] w fun e w' => ∃ v, e = .returned v ∧ Kd.R Kd.string 9 w' w.heap.size (fun _ => True) v (namesTo 24) ∧ Below w.heap.size w w' := by
  go_enter Tryd.func11, Tryd.ntmps11
  go_wp2_with (go_at_call 19; refine (rows_at _).mono ?_; rintro e w' ⟨rfl, hW0, hB0⟩)
  have HW := Lib.hid hW0
  clear hW0
  go_loopw [2, 3] (fun v i' wr => ∃ k : Nat, k ≤ 24 ∧ i' = .int .i64 k ∧ Kd.R Kd.string 9 wr w'.heap.size (fun _ => True) v (namesTo k) ∧ Hid (Below w'.heap.size w' wr)) (fun _ i' _ => 24 - (intOf i').toNat)
  case atStart =>
    have hB1 := (Below.refl w'.heap.size w').alloc (Nat.le_refl _) (.cells #[] 9)
    exact ⟨0, by omega, rfl, empty_R w' w'.heap.size (Nat.le_refl _), Lib.hid hB1⟩
  case round =>
    obtain ⟨k, hk, rfl, HO, hB2⟩ := hrel
    have HO := Lib.hid HO
    by_cases hlt : k < 24
    · obtain ⟨c0, _⟩ := HW.out.cells k (by omega)
      have hst := Lib.hid (namesTo_step k)
      have hsz : ((namesTo k).length + 1) * 16 ≤ 140737488355328 := by rw [namesTo_len]; omega
      have hsz := Lib.hid hsz
      obtain ⟨nm, hnm⟩ : ∃ nm, nm = nameB k := ⟨_, rfl⟩
      rw [← hnm] at c0
      have Hnm := Lib.hid hnm
      clear hnm
      replace c0 := pw_cell_below hB2.out c0
      go_wp2_with (at_builtin; refine Kd.R_append Kd.string w'.heap.size rfl (.tmp 12) (.tmp 18) 33 9 (.string ⟨#[]⟩) 16 rfl Tryd.underlying33 info9 rfl (by decide) (by decide) u2 (namesTo k) nm [.string nm] (fun _ => True) (fun _ => False) rfl rfl rfl (fun _ h => h.elim) (fun _ _ => trivial) HO.out hB2.out hB2.out.size hsz.out ?_; intro v1 w1 HO1 HB1 _ _)
      go_roundw
      case rel => exact ⟨k + 1, by omega, by go_num, by rw [hst.out, ← Hnm.out]; exact HO1, Lib.hid HB1⟩
      case measure => simp [intOf]; omega
    · obtain rfl : k = 24 := by omega
      go_wp2
      go_ret
      exact ⟨_, rfl, Kd.R_lower HO.out hB0.size, below_then hB0 hB0.size hB2.out⟩
set_option maxHeartbeats 1000000 in
theorem Names_any (w : World) (hG : Tabs w) :
    Calls Tryd.prog 12 #[] w fun e w' => ∃ v, e = .returned v ∧ Kd.R Kd.string 9 w' w.heap.size (fun _ => True) v (namesTo 24) ∧ Below w.heap.size w w' := by
  obtain ⟨t0, f0, hg0⟩ := hG.names
  go_enter Tryd.func12, Tryd.ntmps12
  go_wp2_with (refine wpList_load_row rfl 40 _ rfl 0 rfl t0 namesCs f0 _ hg0 Tryd.underlying40 rfl (by kernel_rfl) ?_)
  clear hg0
  go_loopw [1, 5] (fun v i' wr => ∃ k : Nat, k ≤ 24 ∧ i' = .int .i64 k ∧ Kd.R Kd.string 9 wr w.heap.size (fun _ => True) v (namesTo k) ∧ Below w.heap.size w wr) (fun _ i' _ => 24 - (intOf i').toNat)
  case atStart => exact ⟨0, by omega, rfl, Kd.R_nil _ _ _ _ _, Below.refl _ _⟩
  case round =>
    obtain ⟨k, hk, rfl, HO, hB⟩ := hrel
    have HO := Lib.hid HO
    by_cases hlt : k < 24
    · have hi := idx24 k hlt
      have hst := Lib.hid (namesTo_step k)
      have hsz : ((namesTo k).length + 1) * 16 ≤ 140737488355328 := by rw [namesTo_len]; omega
      have hsz := Lib.hid hsz
      obtain ⟨nm, hnm⟩ : ∃ nm, nm = nameB k := ⟨_, rfl⟩
      rw [← hnm] at hi
      have Hnm := Lib.hid hnm
      clear hnm
      have HB3 := Lib.hid hB
      go_wp2_with (at_builtin; go_loud (refine Kd.R_append Kd.string w.heap.size rfl (.tmp 8) (.tmp 10) 33 9 (.string ⟨#[]⟩) 16 rfl Tryd.underlying33 info9 rfl (by decide) (by decide) u1 (namesTo k) nm [.string nm] (fun _ => True) (fun _ => False) rfl rfl rfl (fun _ h => h.elim) (fun _ _ => trivial) HO.out HB3.out HB3.out.size hsz.out ?_); intro v1 w1 HO1 HB1 _ _)
      go_roundw
      case rel => exact ⟨k + 1, by omega, by go_num, by rw [hst.out, ← Hnm.out]; exact HO1, HB1⟩
      case measure => simp [intOf]; omega
    · obtain rfl : k = 24 := by omega
      go_wp2
      go_ret
      exact ⟨_, rfl, HO.out, hB⟩
end Go.Proofs.YtejjdokicecojaaDoor
