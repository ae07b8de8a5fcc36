/- The walk of class.Of: the set of a name; none of what is no name. -/
import Derived.Test.YtejjdokicecojaaDoorC3
import Derived.WalkSmall
namespace Go.Proofs.YtejjdokicecojaaDoor
open Go.RowKit Go.WideMaps Go.Maps
open Go.Proofs.YtejjdokicecojaaDoor.G (S31 k31 info31 k31_mkM)
open Go.Proofs.YtejjdokicecojaaDoorW.PrintWords
theorem blk0 {w : World} {o p : Obj} (h : w.heap[0]? = some o) : (w.alloc p).heap[0]? = some o := by
  rw [heap_alloc_old]
  · exact h
  · rcases Nat.lt_or_ge 0 w.heap.size with h' | h'
    · exact h'
    · rw [Array.getElem?_eq_none h'] at h; cases h
theorem wf24 (k : Nat) (h : k < 24) : (Lit.int .i64 (k : Int)).wf = true := by
  rcases lt24 h with rfl | rfl | rfl | rfl | rfl | rfl | rfl | rfl | rfl | rfl | rfl | rfl | rfl | rfl | rfl | rfl | rfl | rfl | rfl | rfl | rfl | rfl | rfl | rfl <;> decide
set_option maxHeartbeats 1000000 in
theorem Of_none (s : ByteArray) (w : World) (hG : Tabs w) (hs : s.size ≤ maxLen) (hno : ∀ j, j < 24 → nameB j ≠ s) :
    Calls Tryd.prog 8 #[.string s] w fun e w' => e = .returned (.tuple #[.slice none 0 0, .int .i64 30]) ∧ Below w.heap.size w w' := by
  have hmm := @run_makeMap Tryd.prog
  obtain ⟨t0, f0, hg0⟩ := hG.names
  have hg0' := blk0 (p := .map #[] 0) hg0
  clear hg0
  have hnone := has_none s 24 hno
  clear hG hno
  go_enter Tryd.func8, Tryd.ntmps8
  go_wp2_with (refine wpList_load_row rfl 40 _ rfl 0 rfl t0 namesCs f0 _ hg0' Tryd.underlying40 rfl (by kernel_rfl) ?_)
  go_loopw [17] (fun i wr => ∃ k : Nat, k ≤ 24 ∧ i = .int .i64 k ∧ wr.ownsMap Tryd.prog 9 (plainElem Tryd.prog 3) w.heap.size k (mapD Unit k) ∧ Below w.heap.size w wr) (fun i _ => 24 - (intOf i).toNat)
  case atStart => exact ⟨0, by omega, rfl, World.ownsMap_made _ _ _ _, (Below.refl _ _).alloc (Nat.le_refl _) _⟩
  case round =>
    clear hmm hg0'
    obtain ⟨k, hk, rfl, hown, hB⟩ := hrel
    by_cases hlt : k < 24
    · have hi := idx24 k hlt
      obtain ⟨nm, hnm⟩ : ∃ nm, nm = nameB k := ⟨_, rfl⟩
      have hkey := key_ok (nameB k) (name_sz k hlt)
      rw [← hnm] at hi hkey
      have Hnm := Lib.hid hnm
      have hwf := wf24 k hlt
      clear hnm hnone
      go_wp2_with (at_mapUpdate; refine wpList_mapUpdate_own _ rfl _ _ _ 39 rfl 9 3 law9 Tryd.underlying39 _ w.heap.size k _ rfl hown (by unfold maxLen; omega) _ _ _ rfl rfl hkey _ [] (plainElem_int Tryd.underlying3 hwf) ?_)
      intro w1 hown1 hgrow1
      have R2 := hB.grown hgrow1 hB.size (fun j hj => by cases hj; exact Nat.le_refl _)
      rw [Hnm.out] at hown1
      clear hgrow1 hown hkey hi
      go_wp2
      go_roundw
      case rel => exact ⟨k + 1, by omega, by go_num, hown1, R2⟩
      case measure => simp [intOf]; omega
    · obtain rfl : k = 24 := by omega
      have hkey := key_ok s hs
      go_wp2_with (at_lookup; refine wpList_lookup_own_ok_int wr rfl _ _ 39 rfl 9 3 .i64 law9 Tryd.underlying39 Tryd.underlying3 (zero3 _) w.heap.size 24 _ rfl hown _ _ rfl hkey ?_; intro c hat hwc; rw [hnone])
      go_ret2
      exact ⟨rfl, hB⟩
theorem arr44 : Tryd.prog.underlying 44 = some (.array (Tryd.prog.arrayLen 44) (Tryd.prog.elem 44)) := by kernel_rfl
theorem len44 : Tryd.prog.arrayLen 44 = 24 := by kernel_rfl
theorem size44 (w : World) : (sizeOf (Tryd.prog.elem 44)).run Tryd.prog w = .ok 1 w := by kernel_rfl
theorem slice44 (i : Nat) (h : i ≤ 24) (w : World) : (Instr.sliceAt 44 (.pointer (some ⟨1, 0, none⟩)) none (some (.int .i64 (i : Int))) none).run Tryd.prog w = .ok (.slice (some ⟨1, 0, none⟩) i 24) w := by
  rw [run_sliceAt_array_h w 44 _ arr44 .i64 (i : Int) (by omega) (by rw [len44]; omega), size44]
  simp only [Result.andThen, slicedAt, len44, add_plain, Nat.zero_mul, ite_self, Int.toNat_natCast, Nat.sub_zero]
theorem arr47 : Tryd.prog.underlying 47 = some (.array (Tryd.prog.arrayLen 47) (Tryd.prog.elem 47)) := by kernel_rfl
theorem len47 : Tryd.prog.arrayLen 47 = 67 := by kernel_rfl
theorem size47 (w : World) : (sizeOf (Tryd.prog.elem 47)).run Tryd.prog w = .ok 2 w := by kernel_rfl
theorem slice47 (a n : Nat) (h : a + n ≤ 67) (ha : a < 67) (w : World) : (Instr.sliceAt 47 (.pointer (some ⟨2, 0, none⟩)) (some (.int .i64 (a : Int))) (some (.int .i64 ((a : Int) + (n : Int)))) none).run Tryd.prog w = .ok (.slice (some ⟨2, a * 2, none⟩) n (67 - a)) w := by
  rw [run_sliceAt_array_lh w 47 _ arr47 .i64 .i64 (a : Int) ((a : Int) + (n : Int)) (by omega) (by omega) (by rw [len47]; omega), size47]
  simp only [Result.andThen, slicedAt, len47]
  rw [if_neg (by omega), show ((a : Int) + (n : Int)).toNat - (a : Int).toNat = n by omega, add_plain, Int.toNat_natCast]
theorem cnt_pos (k : Nat) (h : k < 24) : 1 ≤ cnt k := by
  have : ∀ j : Fin 24, 1 ≤ cnt j.1 := by decide
  exact this ⟨k, h⟩
def rowTo (k n : Nat) : List S31 := (List.range n).map fun j => ⟨rlo (sumC k + j), rhi (sumC k + j)⟩
def rowS (k : Nat) : List S31 := rowTo k (cnt k)
theorem rowTo_step (k n : Nat) : rowTo k (n + 1) = rowTo k n ++ [⟨rlo (sumC k + n), rhi (sumC k + n)⟩] := by unfold rowTo; rw [List.range_succ, List.map_append]; rfl
theorem rowTo_len (k n : Nat) : (rowTo k n).length = n := by simp [rowTo]
set_option maxHeartbeats 1000000 in
theorem Of_some (i : Nat) (hi24 : i < 24) (w : World) (hG : Tabs w) :
    Calls Tryd.prog 8 #[.string (nameB i)] w fun e w' => ∃ v, e = .returned (.tuple #[v, .int .i64 0]) ∧ Kd.R k31 31 w' w.heap.size (fun _ => True) v (rowS i) ∧ Below w.heap.size w w' := by
  have hmm := @run_makeMap Tryd.prog
  obtain ⟨t0, f0, hg0⟩ := hG.names
  have hg0' := blk0 (p := .map #[] 0) hg0
  clear hg0
  obtain ⟨hyes, hat0⟩ := has_some i 24 (Nat.le_refl _) hi24
  have Hat := Lib.hid hat0
  have HG := Lib.hid hG
  clear hG hat0
  have hkey0 := key_ok (nameB i) (name_sz i hi24)
  obtain ⟨s, hs⟩ : ∃ s, s = nameB i := ⟨_, rfl⟩
  rw [← hs] at hyes hkey0 Hat ⊢
  clear hs
  go_enter Tryd.func8, Tryd.ntmps8
  go_wp2_with (refine wpList_load_row rfl 40 _ rfl 0 rfl t0 namesCs f0 _ hg0' Tryd.underlying40 rfl (by kernel_rfl) ?_)
  go_loopw [17] (fun i wr => ∃ k : Nat, k ≤ 24 ∧ i = .int .i64 k ∧ wr.ownsMap Tryd.prog 9 (plainElem Tryd.prog 3) w.heap.size k (mapD Unit k) ∧ Below w.heap.size w wr) (fun i _ => 24 - (intOf i).toNat)
  case atStart => exact ⟨0, by omega, rfl, World.ownsMap_made _ _ _ _, (Below.refl _ _).alloc (Nat.le_refl _) _⟩
  case round =>
    clear hmm hg0'
    obtain ⟨k, hk, rfl, hown, hB⟩ := hrel
    by_cases hlt : k < 24
    · have hi := idx24 k hlt
      obtain ⟨nm, hnm⟩ : ∃ nm, nm = nameB k := ⟨_, rfl⟩
      have hkey := key_ok (nameB k) (name_sz k hlt)
      rw [← hnm] at hi hkey
      have Hnm := Lib.hid hnm
      have hwf := wf24 k hlt
      clear hnm hyes hkey0
      go_wp2_with (at_mapUpdate; refine wpList_mapUpdate_own _ rfl _ _ _ 39 rfl 9 3 law9 Tryd.underlying39 _ w.heap.size k _ rfl hown (by unfold maxLen; omega) _ _ _ rfl rfl hkey _ [] (plainElem_int Tryd.underlying3 hwf) ?_)
      intro w1 hown1 hgrow1
      have R2 := hB.grown hgrow1 hB.size (fun j hj => by cases hj; exact Nat.le_refl _)
      rw [Hnm.out] at hown1
      clear hgrow1 hown hkey hi
      go_wp2
      go_roundw
      case rel => exact ⟨k + 1, by omega, by go_num, hown1, R2⟩
      case measure => simp [intOf]; omega
    · obtain rfl : k = 24 := by omega
      have hsl := slice44 i (by omega)
      go_wp2_with (at_lookup; refine wpList_lookup_own_ok_int wr rfl _ _ 39 rfl 9 3 .i64 law9 Tryd.underlying39 Tryd.underlying3 (zero3 _) w.heap.size 24 _ rfl hown _ _ rfl hkey0 ?_; intro c hat hwc; rw [hyes]; obtain rfl : c = i := (by have := (Hat.out _).symm.trans hat; injection this with this; injection this with _ this; exact this.symm))
      clear hyes hkey0 hown hat hwc
      obtain ⟨wo, rfl⟩ : ∃ wo : World, wo = wr := ⟨_, rfl⟩
      go_loopw [9, 36] (fun t i' wr => ∃ k : Nat, k ≤ i ∧ i' = .int .i64 k ∧ t = .int .i64 (sumC k) ∧ Below w.heap.size w wr) (fun _ i' _ => i - (intOf i').toNat)
      case atStart => exact ⟨0, by omega, rfl, rfl, hB⟩
      case round =>
        clear hB hsl
        obtain ⟨k, hk, rfl, rfl, hB⟩ := hrel
        by_cases hlt : k < i
        · have hc := cells_counts (HG.out.below hB) k (by omega)
          have b1 := cnt_bd k
          have b2 := sumC_bd k (by omega)
          have hst := Lib.hid (sumC_step k (by omega))
          go_wp2
          go_roundw
          case rel => exact ⟨k + 1, by omega, by go_num, by rw [hst.out]; go_num, hB⟩
          case measure => simp [intOf]; omega
        · obtain rfl : k = i := by omega
          have hc := cells_counts (HG.out.below hB) k (by omega)
          have b1 := cnt_bd k
          have b2 := sumC_bd k (by omega)
          have b3 := cnt_pos k (by omega)
          have hsl2 := slice47 (sumC k) (cnt k) b2 (by omega)
          go_wp2
          clear hsl2 hc
          obtain ⟨wo2, rfl⟩ : ∃ wo : World, wo = wr := ⟨_, rfl⟩
          go_loopw [12, 54] (fun v i' wr => ∃ j : Nat, j ≤ cnt k ∧ i' = .int .i64 j ∧ Kd.R k31 31 wr w.heap.size (fun _ => True) v (rowTo k j) ∧ Below w.heap.size w wr) (fun _ i' _ => cnt k - (intOf i').toNat)
          case atStart => exact ⟨0, by omega, rfl, Kd.R_nil _ _ _ _ _, hB⟩
          case round =>
            obtain ⟨j, hj, rfl, HO, hB⟩ := hrel
            by_cases hlt : j < cnt k
            · obtain ⟨c0, c1⟩ := cells_ranges (HG.out.below hB) (sumC k + j) (by omega)
              obtain ⟨d1, d2, d3⟩ := rng_bd (sumC k + j) (by omega)
              rw [Nat.add_mul] at c0 c1
              have HB2 := hB.alloc hB.size (.cells #[Value.int IntKind.i32 (rlo (sumC k + j)), Value.int IntKind.i32 (rhi (sumC k + j))] 46)
              have HO2 := Kd.R_below HO ((Below.refl wr.heap.size wr).alloc (Nat.le_refl _) (.cells #[Value.int IntKind.i32 (rlo (sumC k + j)), Value.int IntKind.i32 (rhi (sumC k + j))] 46))
              have hsz : ((rowTo k j).length + 1) * 16 ≤ 140737488355328 := by rw [rowTo_len]; omega
              have hst := Lib.hid (rowTo_step k j)
              have HB3 := Lib.hid HB2
              have HO3 := Lib.hid HO2
              have hsz2 := Lib.hid hsz
              clear HB2 HO2 HO hsz
              go_wp2_with (at_builtin; go_loud (refine Kd.R_append k31 w.heap.size rfl (.tmp 58) (.tmp 66) 25 31 (.agg #[.int .i64 0, .int .i64 0]) 16 rfl Tryd.underlying25 info31 rfl (by decide) (by decide) u12 (rowTo k j) ⟨rlo (sumC k + j), rhi (sumC k + j)⟩ [.int .i64 (rlo (sumC k + j)), .int .i64 (rhi (sumC k + j))] (fun _ => True) (fun _ => False) rfl (by rw [World.size_alloc]; rfl) (k31_mkM _ _ _ _) (fun _ h => h.elim) (fun _ _ => trivial) HO3.out HB3.out HB3.out.size hsz2.out ?_); intro v1 w1 HO1 HB1 _ _)
              go_roundw
              case rel => exact ⟨j + 1, by omega, by go_num, by rw [hst.out]; exact HO1, HB1⟩
              case measure => simp [intOf]; omega
            · obtain rfl : j = cnt k := by omega
              have HO3 := Lib.hid HO
              clear HO
              go_wp2
              go_ret2
              exact ⟨_, rfl, HO3.out, hB⟩
end Go.Proofs.YtejjdokicecojaaDoor
