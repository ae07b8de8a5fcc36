-- Slimmed by slim.py from the text of this name without 'Kh'.
import Derived.Test.YtalbchgiijoeaaaDoorKhP6
import Derived.Test.YtalbchgiijoeaaaDoorKhG5
import Derived.RangeFuncNested
import Derived.RangeFuncBound
import Derived.RangeFuncCalls
import Derived.RangeFuncLeaves
import Derived.RangeFuncBox
import Derived.RangeFuncFrom
import Derived.Shelf.Abstract
import Derived.Shelf.RegionOpen
import Derived.OwnWalkIn
import Derived.TacticsInMore
import Derived.LoopNIn
import Derived.LoopIn
import Derived.Lib.Hide
import Derived.Laws.RangeAny
set_option linter.unusedVariables false
set_option linter.unusedSimpArgs false
namespace Go.Proofs.YtalbchgiijoeaaaDoor
open Go.RowKit Go.Shelf Go.Proofs.YtalbchgiijoeaaaDoor.G Go.Proofs.YtalbchgiijoeaaaDoorW.PrintWords
attribute [local go_sem] Oper.semAt_some
theorem run_next_at {P : Program} (W : World) (B : Nat) (s : ByteArray) (pos : Nat) (ty : TypeId) (hB : W.heap[B]? = some (.stringIter s pos)) (h : pos < s.size) :
    (Instr.next (.pointer (some ⟨B, 0, none⟩)) true ty).run P W = .ok (.tuple #[.bool true, .int .i64 pos, .int .i32 (Utf8.decode s pos).1]) (W.putObj B (.stringIter s (pos + (Utf8.decode s pos).2))) := by
  simp only [Instr.next, getObj, setObj, Sem.run_bind, Sem.run, hB, Result.andThen, h, if_true]
  simp [goInt, Sem.run, hB, World.putObj]
theorem run_next_out {P : Program} (W : World) (B : Nat) (s : ByteArray) (pos : Nat) (ty : TypeId) (hB : W.heap[B]? = some (.stringIter s pos)) (h : ¬ pos < s.size) :
    (Instr.next (.pointer (some ⟨B, 0, none⟩)) true ty).run P W = .ok (.tuple #[.bool false]) W := by
  simp [Instr.next, getObj, Sem.run, hB, h]
def KpU (n₀ Bs : Nat) (A B : World) : Prop := Below n₀ A B ∧ KeepsWalks A B ∧ ∀ v, A.cell? ⟨Bs, 0, none⟩ = some v → B.cell? ⟨Bs, 0, none⟩ = some v
theorem kpU_t {n₀ Bs : Nat} {A B C : World} (h : KpU n₀ Bs A B) (k : KpU n₀ Bs B C) : KpU n₀ Bs A C := ⟨h.1.trans k.1, h.2.1.trans k.2.1, fun v hv => k.2.2 v (h.2.2 v hv)⟩
theorem kpU_b {n₀ Bs : Nat} {w : World} (hn : n₀ ≤ w.heap.size) (W : World) (l : Nat) (o o' : Obj) (hl : w.heap.size ≤ l) (h : W.heap[l]? = some o) (hc : o.isCells = false) (hw : o.isWalk = false) : KpU n₀ Bs W (W.putObj l o') :=
  ⟨belowK_b hn W l o o' hl h hc hw, walksK_b (w := w) W l o o' hl h hc hw, fun v hv => by
    obtain ⟨ob, ho, hcc⟩ := cells_of_cell hv
    have hne : Bs ≠ l := by
      rintro rfl
      rw [show W.heap[Bs]? = some o from h] at ho
      cases ho
      rw [hcc] at hc
      cases hc
    rw [← hv]
    exact World.cell?_of_block (World.putObj_heap_other (by simpa using hne))⟩
set_option maxRecDepth 100000 in
set_option maxHeartbeats 4000000 in
theorem all1_in (n : Nat) (hn : 1 ≤ n) (l Bs : Nat) (w0 : World) (HT : Tabs w0) (s : ByteArray) (hs : s.size ≤ 9223372036854775807) (J Jx : List (Nat × Nat) → World → Prop) (W : World) (hw0 : Below w0.heap.size w0 W) (hJ : AbidesFrom W.heap.size J)
    (hY : ∀ pre x W1, J pre W1 → pre.length < s.size → YieldAt Fence.wide (n - 1) Tryd.prog l #[.int .i64 (x.1 : Int), .int .i64 (x.2 : Int)] W1 fun e W' =>
      (e = .returned (.bool true) ∧ J (pre ++ [x]) W' ∧ KpU w0.heap.size Bs W1 W') ∨ (e = .returned (.bool false) ∧ Jx (pre ++ [x]) W'))
    (hBs : W.cell? ⟨Bs, 0, none⟩ = some (.string s)) (h0 : J [] W) :
    CallsIn Fence.wide n Tryd.prog 43 #[.func (.yield l) #[] #[], .pointer (some ⟨Bs, 0, none⟩)] W fun e W' => (∃ v, e = .returned v) ∧
      ((∃ ys, ys = units s ∧ J ys W') ∨ (∃ pre, pre <+: units s ∧ Jx pre W')) := by
  have HJ := Lib.hid hJ
  have HY := Lib.hid hY
  have HW0 := Lib.hid hw0
  have H0 := Lib.hid h0
  have HBs := Lib.hid hBs
  have HTt := Lib.hid HT
  clear hJ hY hw0 h0 HT
  refine callsIn_of_wp Tryd.func43 rfl trivial ?_ rfl
  simp only [Tryd.ntmps43, List.size_toArray, List.length_cons, List.length_nil, Nat.reduceAdd, Nat.reduceSub, Array.replicate_succ, Array.replicate_zero, List.push_toArray, List.append_toArray, List.nil_append, List.cons_append]
  gi_wp2
  clear hBs
  gi_loopw [3] (fun _ wr => ∃ pre p, Hid (units s = pre ++ uF s s.size p ∧ pre.length ≤ p ∧ p ≤ s.size) ∧ Hid (wr.heap[W.heap.size]? = some (.stringIter s p)) ∧ Hid (J pre wr) ∧ Hid (Below w0.heap.size w0 wr ∧ W.heap.size < wr.heap.size ∧ wr.cell? ⟨Bs, 0, none⟩ = some (.string s))) (fun _ wr => s.size - wr.iterPos W.heap.size)
  case atStart =>
    refine ⟨[], 0, Lib.hid ⟨rfl, Nat.le_refl _, Nat.zero_le _⟩, Lib.hid (World.iter_heap W s 0), Lib.hid (HJ.out [] W _ none H0.out (World.grownBy_alloc W _ none) (fun r h => by cases h)), Lib.hid ⟨HW0.out.alloc HW0.out.size _, by show W.heap.size < (W.alloc _).heap.size; simp, ?_⟩⟩
    exact (World.cell?_of_block (Below.heap_alloc W _ _ (World.block_lt_of_cell? W _ HBs.out))).trans HBs.out
  case round =>
    obtain ⟨pre, p, hU, hI, hJs, hB⟩ := hrel
    by_cases hlt : p < s.size
    · have hnx := fun ty => run_next_at (P := Tryd.prog) wr W.heap.size s p ty hI.out hlt
      obtain ⟨W1, hW1⟩ : ∃ W1, wr.putObj W.heap.size (.stringIter s (p + (Utf8.decode s p).2)) = W1 := ⟨_, rfl⟩
      have hg1 : wr.grownBy W1 (some W.heap.size) := hW1 ▸ grownBy_putObj' wr W.heap.size _
      have hJ1 : J pre W1 := HJ.out _ _ _ _ hJs.out hg1 (fun r h => by cases h; exact ⟨Nat.le_refl _, _, hI.out, rfl⟩)
      have hI1 : W1.heap[W.heap.size]? = some (.stringIter s (p + (Utf8.decode s p).2)) := by rw [← hW1]; exact World.putObj_heap_same (Array.getElem?_eq_some_iff.1 hI.out).1
      have hB1 : Below w0.heap.size w0 W1 := hB.out.1.grown hg1 hB.out.1.size (fun k e => by cases e; exact HW0.out.size)
      have hz1 : W.heap.size < W1.heap.size := Nat.lt_of_lt_of_le hB.out.2.1 hg1.size
      have hne : Bs ≠ W.heap.size := Nat.ne_of_lt (World.block_lt_of_cell? W _ HBs.out)
      have hc1 : W1.cell? ⟨Bs, 0, none⟩ = some (.string s) := hg1.cell hB.out.2.2 (fun e => hne (by injection e))
      rw [hW1] at hnx
      have HI1 := Lib.hid hI1
      have HJ1 := Lib.hid hJ1
      have HB1 := Lib.hid hB1
      have HZ1 := Lib.hid hz1
      have HC1 := Lib.hid hc1
      clear hg1 hJ1 hI1 hB1 hz1 hne hW1
      have hu := unit_at 20 s p hlt
      have hp64 : (p : Int) < 9223372036854775807 := by omega
      have hpl : (p : Int) ≤ (s.size : Int) := by omega
      have hple : p ≤ s.size := by omega
      have hrl := decode_le s p
      obtain ⟨rn, hrn⟩ : ∃ rn, rn = ((Utf8.decode s p).1 : Int) := ⟨_, rfl⟩
      rw [← hrn] at hnx hu
      have HT1 : Aside0 (Tabs W1) := ⟨HTt.out.below HB1.out⟩
      have Hu := Lib.hid hu
      clear hu hrn hrl
      gi_wp2_with (refine ⟨trivial, ?_⟩; gi_at_call 40; refine (callsIn_wide.2 (utf_unit.calls 21 _ _ _ _ _ HT1 Hu.out)).mono ?_; rintro e w2 ⟨rfl, hb2⟩)
      have hw2 := dW_le hlt
      have hJ2 : J pre w2 := HJ.out _ _ _ none HJ1.out (grown_of_below hb2 none) (fun r h => by cases h)
      obtain ⟨fn, tmps, assign, body, hy, hR⟩ := HY.out pre (p, dU s p) w2 hJ2 (by have := hU.out; omega)
      have HR := Lib.hid hR
      have HI2 : Hid (w2.heap[W.heap.size]? = some (.stringIter s (p + dW s p))) := Lib.hid ((hb2.block _ HZ1.out).trans HI1.out)
      have HB2 : Hid (Below w0.heap.size w0 w2) := Lib.hid (below_step HB1.out hb2)
      have HZ2 : Hid (W.heap.size < w2.heap.size) := Lib.hid (Nat.lt_of_lt_of_le HZ1.out hb2.size)
      have HC2 : Hid (w2.cell? ⟨Bs, 0, none⟩ = some (.string s)) := Lib.hid (pw_cell_below hb2 HC1.out)
      clear hR hJ2 hb2 hc1 HT1 hnx
      gi_wp2
      refine HR.out.mono ?_
      rintro e W3 (⟨rfl, hJ3, hk3⟩ | ⟨rfl, hJx3⟩)
      · have HJ3 := Lib.hid hJ3
        have HK3 := Lib.hid hk3
        clear hJ3 hk3 hy
        gi_wp2
        go_roundw
        case rel => exact ⟨pre ++ [(p, dU s p)], p + dW s p, Lib.hid ⟨by rw [hU.out.1, uF_cons s s.size p hlt (Nat.sub_le _ _), List.append_assoc]; rfl, by rw [List.length_append]; have := hU.out; simp; omega, by omega⟩, Lib.hid (HK3.out.2.1.same _ _ HI2.out rfl), HJ3, Lib.hid ⟨HB2.out.trans HK3.out.1, Nat.lt_of_lt_of_le HZ2.out HK3.out.2.1.size, HK3.out.2.2 _ HC2.out⟩⟩
        case measure =>
          have e1 : W3.iterPos W.heap.size = p + dW s p := by unfold World.iterPos; rw [HK3.out.2.1.same _ _ HI2.out rfl]
          have e2 : wr.iterPos W.heap.size = p := by unfold World.iterPos; rw [hI.out]
          rw [e1, e2]; omega
      · have HJx3 := Lib.hid hJx3
        clear hJx3 hy
        gi_wp2
        refine bodyPost_ret (results_none rfl _ _ _) rfl ?_
        refine ⟨⟨_, rfl⟩, .inr ⟨_, ?_, HJx3.out⟩⟩
        rw [hU.out.1, uF_cons s s.size p hlt (Nat.sub_le _ _)]
        exact ⟨uF s s.size (p + dW s p), by rw [List.append_assoc]; rfl⟩
    · have hnx := fun ty => run_next_out (P := Tryd.prog) wr W.heap.size s p ty hI.out hlt
      have hnil : uF s s.size p = [] := uF_nil s _ _ (by omega)
      have HN := Lib.hid hnil
      clear hnil
      gi_wp2
      go_end0
      refine ⟨⟨_, rfl⟩, .inl ⟨_, rfl, ?_⟩⟩
      rw [hU.out.1, HN.out, List.append_nil]
      exact hJs.out
end Go.Proofs.YtalbchgiijoeaaaDoor

