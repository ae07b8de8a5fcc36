-- Slimmed by slim.py from the text of this name without 'V'.
import Derived.Test.YtonljejhlphgpaaVS1
import Derived.RangeFuncNested
import Derived.RangeFuncBound
import Derived.RangeFuncCalls
import Derived.RangeFuncLeaves
import Derived.RangeFuncBox
import Derived.RangeFuncFrom
import Derived.Shelf.Abstract
import Derived.Shelf.RegionOpen
import Derived.OwnWalkIn
import Derived.TacticsInMore
import Derived.LoopNIn
import Derived.LoopIn
import Derived.Lib.Hide
set_option linter.unusedVariables false
set_option linter.unusedSimpArgs false
namespace Go.Proofs.Ytonljejhlphgpaa
open Go.RowKit Go.Shelf Go.Proofs.Ytonljejhlphgpaa.G Go.Proofs.YtonljejhlphgpaaW.PrintWords
attribute [local go_sem] Oper.semAt_some
def ValidC : Prop := ∀ (A : Option Addr) (c : Nat) (l : List Rg) (w : World), Kd.C k68 w A l.length l → l.length ≤ c →
  Calls Try.prog 21 #[.slice A l.length c] w fun e w' => e = .returned (.bool (validB l)) ∧ Below w.heap.size w w'
theorem add_block (a : Addr) (j : Nat) : (a.add j).block = a.block := by unfold Addr.add; split <;> rfl
def Lies (n₀ : Nat) (w : World) (A : Option Addr) (xs : List Rg) : Prop := ∀ k, k < xs.length → ∃ ad, A = some ad ∧ ad.block < n₀ ∧ w.cell? (ad.add (k * 2)) = some (.int .i64 (rd_T68 xs k).f0) ∧ w.cell? ⟨(ad.add (k * 2)).block, (ad.add (k * 2)).off + 1, none⟩ = some (.int .i64 (rd_T68 xs k).f1)
theorem Lies.of {w : World} {A : Option Addr} {xs : List Rg} (h : Kd.C k68 w A xs.length xs) : Lies w.heap.size w A xs := by
  intro k hk
  obtain ⟨ad, e, h0, h1⟩ := at_T68 h (k : Int) (by omega) (by omega)
  simp only [Int.toNat_natCast] at h0 h1
  refine ⟨ad, e, ?_, h0, h1⟩
  have := World.block_lt_of_cell? w _ h0
  rwa [add_block] at this
theorem Lies.below {n₀ : Nat} {w w' : World} {A : Option Addr} {xs : List Rg} (h : Lies n₀ w A xs) (hb : Below n₀ w w') : Lies n₀ w' A xs := by
  intro k hk
  obtain ⟨ad, e, hlt, h0, h1⟩ := h k hk
  exact ⟨ad, e, hlt, (hb.cell (by rw [add_block]; exact hlt)).trans h0, (hb.cell (by show (ad.add (k * 2)).block < n₀; rw [add_block]; exact hlt)).trans h1⟩
theorem take_snoc' (xs : List Rg) (k : Nat) (h : k < xs.length) : xs.take (k + 1) = xs.take k ++ [rd_T68 xs k] := by
  rw [List.take_succ_eq_append_getElem h]
  simp [rd_T68, List.getD_eq_getElem?_getD, List.getElem?_eq_getElem h]
set_option maxRecDepth 100000 in
set_option maxHeartbeats 2000000 in
theorem ranges1_in (HV : ValidC) (n : Nat) (hn : 1 ≤ n) (l Bs n₀ : Nat) (A : Option Addr) (c : Nat) (xs : List Rg) (hlen : xs.length ≤ 9223372036854775807) (hc : xs.length ≤ c) (J Jx : List Rg → World → Prop) (W : World) (hn₀ : n₀ ≤ W.heap.size) (hJ : AbidesFrom W.heap.size J)
    (hY : ∀ pre x W1, J pre W1 → pre.length < xs.length → YieldAt Fence.wide (n - 1) Try.prog l #[.agg #[.int .i64 x.f0, .int .i64 x.f1]] W1 fun e W' =>
      (e = .returned (.bool true) ∧ J (pre ++ [x]) W' ∧ Below n₀ W1 W') ∨ (e = .returned (.bool false) ∧ Jx (pre ++ [x]) W'))
    (hBs : W.cell? ⟨Bs, 0, none⟩ = some (.slice A xs.length c)) (hL : Lies n₀ W A xs) (hC : Kd.C k68 W A xs.length xs) (h0 : J [] W) :
    CallsIn Fence.wide n Try.prog 88 #[.func (.yield l) #[] #[], .pointer (some ⟨Bs, 0, none⟩)] W fun e W' => (∃ v, e = .returned v) ∧
      ((∃ ys, ys = seqOf xs ∧ J ys W') ∨ (∃ pre, pre <+: seqOf xs ∧ Jx pre W')) := by
  have HJ := Lib.hid hJ
  have HY := Lib.hid hY
  have HC := Lib.hid hC
  have HL := Lib.hid hL
  have HW := Lib.hid hn₀
  have H0 := Lib.hid h0
  clear hJ hY hC hL hn₀ h0
  refine callsIn_of_wp Try.func88 rfl trivial ?_ rfl
  simp only [Try.ntmps88, List.size_toArray, List.length_cons, List.length_nil, Nat.reduceAdd, Nat.reduceSub, Array.replicate_succ, Array.replicate_zero, List.push_toArray, List.append_toArray, List.nil_append, List.cons_append]
  obtain ⟨v, hv⟩ : ∃ v, v = validB xs := ⟨_, rfl⟩
  have hV := HV A c xs W HC.out hc
  rw [← hv] at hV
  have HV1 := Lib.hid hV
  have Hv := Lib.hid hv
  clear hv hV HV
  cases v with
  | false =>
    gi_wp2_with (refine ⟨trivial, ?_⟩; gi_at_call 21; refine (callsIn_wide.2 HV1.out).mono ?_; rintro e w1 ⟨rfl, hb1⟩)
    refine bodyPost_ret (results_none rfl _ _ _) rfl ?_
    refine ⟨⟨_, rfl⟩, .inl ⟨[], ?_, HJ.out [] W w1 none H0.out (grown_of_below hb1 none) (fun r h => by cases h)⟩⟩
    unfold seqOf
    rw [← Hv.out]
    rfl
  | true =>
    have hseq : seqOf xs = xs := by unfold seqOf; rw [← Hv.out]; rfl
    have Hseq := Lib.hid hseq
    clear hseq
    gi_wp2_with (refine ⟨trivial, ?_⟩; gi_at_call 21; refine (callsIn_wide.2 HV1.out).mono ?_; rintro e w1 ⟨rfl, hb1⟩; have hBs1 := pw_cell_below hb1 hBs)
    clear hBs1
    have HB1 := Lib.hid hb1
    clear hb1 hBs
    gi_loopw [10] (fun i wr => ∃ k : Nat, k ≤ xs.length ∧ i = .int .i64 k ∧ Hid (J (xs.take k) wr) ∧ Hid (Below n₀ W wr ∧ W.heap.size ≤ wr.heap.size)) (fun i _ => xs.length - (intOf i).toNat)
    case atStart => exact ⟨0, Nat.zero_le _, rfl, Lib.hid (HJ.out [] W w1 none H0.out (grown_of_below HB1.out none) (fun r h => by cases h)), Lib.hid ⟨HB1.out.mono HW.out, HB1.out.size⟩⟩
    case round =>
      obtain ⟨k, hk, rfl, hJs, hnx⟩ := hrel
      by_cases hlt : k < xs.length
      · obtain ⟨ad, rfl, had, c0, c1⟩ := (HL.out.below hnx.out.1) k hlt
        obtain ⟨lo, hlo⟩ : ∃ lo, lo = (rd_T68 xs k).f0 := ⟨_, rfl⟩
        obtain ⟨hi, hhi⟩ : ∃ hi, hi = (rd_T68 xs k).f1 := ⟨_, rfl⟩
        rw [← hlo] at c0
        rw [← hhi] at c1
        have hlen' : (k : Int) < 9223372036854775807 := by omega
        have hJ2 : J (xs.take k) (wr.alloc (.cells #[.int .i64 lo, .int .i64 hi] 68)) := HJ.out _ _ _ none hJs.out (World.grownBy_alloc wr _ none) (fun r h => by cases h)
        obtain ⟨fn, tmps, assign, body, hy, hR⟩ := HY.out _ (rd_T68 xs k) _ hJ2 (by rw [List.length_take]; omega)
        rw [← hlo, ← hhi] at hy
        have Hlo := Lib.hid hlo
        have Hhi := Lib.hid hhi
        have HR := Lib.hid hR
        have Hst := Lib.hid (take_snoc' xs k hlt)
        clear hR hJ2 had hlo hhi
        gi_wp2
        refine HR.out.mono ?_
        rintro e W3 (⟨rfl, hJ3, hk3⟩ | ⟨rfl, hJx3⟩)
        · have HJ3 := Lib.hid hJ3
          have HB3 : Hid (Below n₀ W W3 ∧ W.heap.size ≤ W3.heap.size) := ⟨(hnx.out.1.alloc (Nat.le_trans HW.out hnx.out.2) _).trans hk3, by have h1 := hnx.out.2; have h2 := hk3.size; rw [World.size_alloc] at h2; omega⟩
          clear hJ3 hk3
          gi_wp2
          go_roundw
          case rel => exact ⟨k + 1, by omega, by simp, by rw [Hst.out]; exact HJ3, HB3⟩
          case measure => simp [intOf]; omega
        · have HJx3 := Lib.hid hJx3
          clear hJx3
          gi_wp2
          refine bodyPost_ret (results_none rfl _ _ _) rfl ?_
          refine ⟨⟨_, rfl⟩, .inr ⟨_, ?_, HJx3.out⟩⟩
          rw [Hseq.out, ← Hst.out]
          exact List.take_prefix _ _
      · obtain rfl : k = xs.length := by omega
        gi_wp2
        go_end0
        refine ⟨⟨_, rfl⟩, .inl ⟨_, rfl, ?_⟩⟩
        rw [Hseq.out]
        have := hJs.out
        rwa [List.take_length] at this
theorem ranges_in (n : Nat) (A : Option Addr) (m c : Nat) (w : World) :
    CallsIn Fence.wide n Try.prog 58 #[.slice A m c] w fun e w' => e = .returned (.func (.func 88) #[] #[.pointer (some ⟨w.heap.size, 0, none⟩)]) ∧ w' = w.alloc (.cells #[.slice A m c] 41) := by
  refine callsIn_of_wp Try.func58 rfl trivial ?_ rfl
  simp only [Try.ntmps58, List.size_toArray, List.length_cons, List.length_nil, Nat.reduceAdd, Nat.reduceSub, Array.replicate_succ, Array.replicate_zero, List.push_toArray, List.append_toArray, List.nil_append, List.cons_append]
  gi_wp2
  go_ret
  exact ⟨rfl, rfl⟩
theorem ranges_stops (HV : ValidC) (n : Nat) (hn : 1 ≤ n) (Bs n₀ : Nat) (A : Option Addr) (c : Nat) (xs : List Rg) (hlen : xs.length ≤ 9223372036854775807) (hc : xs.length ≤ c) (w : World) (hBs : Bs < w.heap.size) (hn₀ : n₀ ≤ w.heap.size)
    (hb : w.cell? ⟨Bs, 0, none⟩ = some (.slice A xs.length c)) (hL : Lies n₀ w A xs) (hC : Kd.C k68 w A xs.length xs) :
    SeqStopsK Fence.wide n Try.prog 88 #[.pointer (some ⟨Bs, 0, none⟩)] (fun x : Rg => #[.agg #[.int .i64 x.f0, .int .i64 x.f1]]) (Below n₀) (fun ys => ys = seqOf xs) (fun pre => pre <+: seqOf xs) xs.length w := fun l J Jx W hW hJ _ hY h0 => by
  have hn₁ := hW.size
  exact ranges1_in HV n hn l Bs n₀ A c xs hlen hc J Jx W (Nat.le_trans hn₀ hn₁) hJ hY ((hW.cell (p := ⟨Bs, 0, none⟩) hBs).trans hb) (hL.below (hW.mono hn₀)) (Kd.C_below hC hW) h0
def Blk (W : World) (B : Nat) (t : TypeId) (cs : Array Value) : Prop := W.heap[B]? = some (.cells cs t (0, 0))
theorem Blk.lt {W : World} {B : Nat} {t : TypeId} {cs : Array Value} (h : Blk W B t cs) : B < W.heap.size := (Array.getElem?_eq_some_iff.1 h).1
theorem Blk.new (W : World) (t : TypeId) (cs : Array Value) : Blk (W.alloc (.cells cs t)) W.heap.size t cs := World.alloc_heap_new W _
theorem Blk.kept {W W' : World} {row : Option Nat} {B : Nat} {t : TypeId} {cs : Array Value} (h : Blk W B t cs) (hg : W.grownBy W' row) (hne : some B ≠ row) : Blk W' B t cs := (hg.block B h.lt hne).trans h
theorem Blk.alloc {W : World} {B : Nat} {t : TypeId} {cs : Array Value} (h : Blk W B t cs) (o : Obj) : Blk (W.alloc o) B t cs := h.kept (World.grownBy_alloc W o none) (by simp)
theorem Blk.other {W : World} {B B' : Nat} {t : TypeId} {cs : Array Value} (h : Blk W B t cs) (hne : B ≠ B') (u : Value) : Blk (W.setCell ⟨B', 0, none⟩ u) B t cs := h.kept (grownBy_setCell' W B' u) (fun e => hne (by cases e; rfl))
theorem Blk.cell {W : World} {B : Nat} {t : TypeId} {cs : Array Value} (h : Blk W B t cs) (i : Nat) : W.cell? ⟨B, i, none⟩ = cs[i]? := cell_of_row W B i _ _ _ h
theorem blk_own {β : Type} (B : Nat) (t : TypeId) (f : β → Array Value) : Own (fun s W => Blk W B t (f s)) := by
  intro s X Y row h hg hr
  refine h.kept hg (fun e => ?_)
  obtain ⟨o, ho, hc⟩ := hr B e.symm
  rw [show X.heap[B]? = _ from h] at ho
  cases ho
  cases hc
set_option maxRecDepth 100000 in
set_option maxHeartbeats 4000000 in
theorem Len_in (HV : ValidC) (A : Option Addr) (c : Nat) (xs : List Rg) (w : World) (hC : Kd.C k68 w A xs.length xs) (hc : xs.length ≤ c) (hlen : xs.length ≤ 9223372036854775807) :
    CallsIn Fence.wide 10 Try.prog 22 #[.slice A xs.length c] w fun e w' => e = .returned (.int .i64 (lenF xs)) ∧ Below w.heap.size w w' := by
  have HL := Lib.hid (Lies.of hC)
  have HC := Lib.hid hC
  have HVv := Lib.hid HV
  clear hC HV
  refine callsIn_of_wp_marks Try.func22 rfl trivial ?_ rfl
  simp only [Try.ntmps22, List.size_toArray, List.length_cons, List.length_nil, Nat.reduceAdd, Nat.reduceSub, Array.replicate_succ, Array.replicate_zero, List.push_toArray, List.append_toArray, List.nil_append, List.cons_append]
  gi_wp2_with (refine ⟨trivial, ?_⟩; gi_at_call 58; refine (ranges_in 9 _ _ _ _).mono ?_; rintro e w' ⟨rfl, rfl⟩)
  have bN := (Boxed.new w 3 (.int .i64 0)).alloc (.cells #[.slice A xs.length c] 41)
  have bA := Boxed.new (w.alloc (.cells #[.int .i64 0] 3)) 41 (.slice A xs.length c)
  rw [World.size_alloc] at bA
  have hB0 : Below w.heap.size w ((w.alloc (.cells #[.int .i64 0] 3)).alloc (.cells #[.slice A xs.length c] 41)) := ((Below.refl _ w).alloc (Nat.le_refl _) _).alloc (by simp) _
  have hsz : ((w.alloc (.cells #[.int .i64 0] 3)).alloc (.cells #[.slice A xs.length c] 41)).heap.size = w.heap.size + 2 := by simp
  obtain ⟨W0, hW0⟩ : ∃ W0, (w.alloc (.cells #[.int .i64 0] 3)).alloc (.cells #[.slice A xs.length c] 41) = W0 := ⟨_, rfl⟩
  rw [hW0] at bN bA hB0 hsz ⊢
  clear hW0
  refine wpIn_rangeFunc_ownH rfl (by omega) (gf := 88) (lb := #[.pointer (some ⟨w.heap.size + 1, 0, none⟩)]) rfl trivial (enters_of Try.func88 (by kernel_rfl) rfl)
    (ranges_stops HVv.out 9 (by omega) (w.heap.size + 1) w.heap.size A c xs hlen hc W0 (by omega) (by omega) bA.cell (HL.out.below hB0) (Kd.C_below HC.out hB0)) belowK_t (belowK_b (by omega)) (Below.refl _ _) (fun _ => rfl)
    (fun pre W => (Boxed W w.heap.size 3 (.int .i64 (sumW pre)) ∧ w.heap.size + 2 ≤ W.heap.size) ∧ Below w.heap.size w W)
    (fun _ _ _ => False)
    (OwnFrom.and (OwnFrom.and (Own.from (boxed_own _ _ _) _) (fun s X Y row hs hg _ => Nat.le_trans hs hg.size)) (ownFrom_below (Nat.le_refl _) (by omega)))
    (fun _ _ _ _ _ hs _ _ => hs)
    ⟨⟨bN, by omega⟩, hB0⟩
    (fun x a' W => ∃ Bx, w.heap.size + 1 < Bx ∧ Blk W Bx 68 #[.int .i64 x.f0, .int .i64 x.f1] ∧ a' = { tmps := #[.slice A xs.length c, undef, .int .i64 0, .pointer (some ⟨w.heap.size, 0, none⟩), .pointer (some ⟨Bx, 0, none⟩), .slice A xs.length c, .func (.func 88) #[] #[.pointer (some ⟨w.heap.size + 1, 0, none⟩)], .agg #[.int .i64 x.f0, .int .i64 x.f1], undef, undef, undef, undef, undef, undef, undef, undef, undef], defers := [] })
    (fun x a' _ X Y row hs hg hr => by obtain ⟨Bx, h1, h2, h3⟩ := hs; exact ⟨Bx, h1, blk_own Bx 68 (fun (_ : Unit) => #[Value.int .i64 x.f0, Value.int .i64 x.f1]) () X Y row h2 hg (fun r e => (hr r e).2), h3⟩)
    ?assign ?body ?done ?stop
  case assign =>
    rintro l pre x W K ⟨⟨b1, hz⟩, hB1⟩ hK
    gi_wp2
    exact hK _ _ ((KeepsOthers.alloc _ _).from _) ((Below.refl _ W).alloc hB1.size _) ⟨⟨b1.alloc _, by rw [World.size_alloc]; omega⟩, hB1.alloc hB1.size _⟩ ⟨W.heap.size, by omega, Blk.new W _ _, rfl⟩
  case body =>
    rintro l pre x a' W hl ⟨r, hr⟩ ⟨⟨b1, hz⟩, hB1⟩ ⟨Bx, hBx, bX, rfl⟩ hlt
    have cN := b1.cell
    have fN := b1.frozen
    have c0 := bX.cell 0
    have c1 := bX.cell 1
    simp only [List.getElem?_toArray, List.getElem?_cons_zero, List.getElem?_cons_succ] at c0 c1
    have HZ := Lib.hid hz
    have HB := Lib.hid hB1
    have Hst := Lib.hid (sumW_snoc pre x)
    clear hz hB1 HL HC HVv hr
    gi_wp2
    refine ⟨(KeepsOthers.setCell _ _ _).from _, (Below.refl w.heap.size W).setCell (p := ⟨w.heap.size, 0, none⟩) (Nat.le_refl _) _, ⟨⟨?_, ?_⟩, HB.out.setCell (p := ⟨w.heap.size, 0, none⟩) (Nat.le_refl _) _⟩⟩
    · rw [Hst.out]; exact b1.set _
    · exact Nat.le_trans HZ.out (KeepsWalks.setCell W _ _).size
  case done =>
    rintro D zs W hD rfl ⟨⟨b1, hz⟩, hB1⟩ hK
    have cS := b1.cell
    have HB := Lib.hid hB1
    clear hB1 hz
    gi_wp2
    refine ⟨by simp, .inl ⟨_, _, rfl, run_takeDeferred hK, ?_⟩⟩
    exact ⟨_, results_tmp rfl _ _ _, rfl, HB.out.trans (belowK_b (w := w) (Nat.le_refl _) W D _ _ (by omega) hK rfl rfl)⟩
  case stop =>
    rintro D c pre W _ _ h _
    exact h.elim
theorem Len_calls0 (HV : ValidC) (A : Option Addr) (c : Nat) (xs : List Rg) (w : World) (hC : Kd.C k68 w A xs.length xs) (hc : xs.length ≤ c) :
    Calls Try.prog 22 #[.slice A xs.length c] w fun e w' => e = .returned (.int .i64 (lenF xs)) ∧ Below w.heap.size w w' := callsIn_wide.1 (Len_in HV A c xs w hC hc hC.2.1)
theorem nthL_prefix {l m : List Rg} {n u : Int} (h : nthL l n = some u) (hp : l <+: m) : nthL m n = some u := by
  obtain ⟨t, rfl⟩ := hp
  induction l generalizing n with
  | nil => cases h
  | cons x l ih =>
    simp only [nthL, List.cons_append] at h ⊢
    split at h
    · rename_i hn; rw [if_pos hn]; exact h
    · rename_i hn; rw [if_neg hn]; exact ih h
theorem nthL_snoc (l : List Rg) (x : Rg) (n : Int) (h : nthL l n = none) : nthL (l ++ [x]) n = if restL l n ≤ wrap64 (x.f1 - x.f0) then some (wrap64 (x.f0 + restL l n)) else none := by
  rw [nthL_append l [x] n h]
  rfl
set_option maxRecDepth 100000 in
set_option maxHeartbeats 4000000 in
theorem Nth_in (HV : ValidC) (A : Option Addr) (c : Nat) (xs : List Rg) (n0 : Int) (w : World) (hC : Kd.C k68 w A xs.length xs) (hc : xs.length ≤ c) (hlen : xs.length ≤ 9223372036854775807) :
    CallsIn Fence.wide 10 Try.prog 53 #[.slice A xs.length c, .int .i64 n0] w fun e w' => e = .returned (.tuple #[.int .i64 (nthF xs n0).1, .bool (nthF xs n0).2]) ∧ Below w.heap.size w w' := by
  have HL := Lib.hid (Lies.of hC)
  have HC := Lib.hid hC
  have HVv := Lib.hid HV
  clear hC HV
  by_cases hneg : n0 < 0
  · have hF : nthF xs n0 = (0, false) := by unfold nthF; rw [if_pos hneg]
    have HF := Lib.hid hF
    clear hF
    refine callsIn_of_wp Try.func53 rfl trivial ?_ rfl
    simp only [Try.ntmps53, List.size_toArray, List.length_cons, List.length_nil, Nat.reduceAdd, Nat.reduceSub, Array.replicate_succ, Array.replicate_zero, List.push_toArray, List.append_toArray, List.nil_append, List.cons_append]
    gi_wp2
    refine bodyPost_ret (v := .tuple #[.int .i64 0, .bool false]) (by simp [results, Try.results53, go_sem]) rfl ⟨by rw [HF.out], ?_⟩
    exact ((((Below.refl _ w).alloc (Nat.le_refl _) _).alloc (by simp) _).alloc (by simp; omega) _)
  · refine callsIn_of_wp_marks Try.func53 rfl trivial ?_ rfl
    simp only [Try.ntmps53, List.size_toArray, List.length_cons, List.length_nil, Nat.reduceAdd, Nat.reduceSub, Array.replicate_succ, Array.replicate_zero, List.push_toArray, List.append_toArray, List.nil_append, List.cons_append]
    gi_wp2_with (refine ⟨trivial, ?_⟩; gi_at_call 58; refine (ranges_in 9 _ _ _ _).mono ?_; rintro e w' ⟨rfl, rfl⟩)
    have bN := (((Boxed.new w 3 (.int .i64 n0)).alloc (.cells #[.int .i64 0] 3)).alloc (.cells #[.bool false] 4)).alloc (.cells #[.slice A xs.length c] 41)
    have bU := ((Boxed.new (w.alloc (.cells #[.int .i64 n0] 3)) 3 (.int .i64 0)).alloc (.cells #[.bool false] 4)).alloc (.cells #[.slice A xs.length c] 41)
    have bO := (Boxed.new ((w.alloc (.cells #[.int .i64 n0] 3)).alloc (.cells #[.int .i64 0] 3)) 4 (.bool false)).alloc (.cells #[.slice A xs.length c] 41)
    have bA := Boxed.new (((w.alloc (.cells #[.int .i64 n0] 3)).alloc (.cells #[.int .i64 0] 3)).alloc (.cells #[.bool false] 4)) 41 (.slice A xs.length c)
    simp only [World.size_alloc] at bU bO bA
    have hB0 : Below w.heap.size w ((((w.alloc (.cells #[.int .i64 n0] 3)).alloc (.cells #[.int .i64 0] 3)).alloc (.cells #[.bool false] 4)).alloc (.cells #[.slice A xs.length c] 41)) := ((((Below.refl _ w).alloc (Nat.le_refl _) _).alloc (by simp) _).alloc (by simp; omega) _).alloc (by simp; omega) _
    have hsz : ((((w.alloc (.cells #[.int .i64 n0] 3)).alloc (.cells #[.int .i64 0] 3)).alloc (.cells #[.bool false] 4)).alloc (.cells #[.slice A xs.length c] 41)).heap.size = w.heap.size + 4 := by simp
    obtain ⟨W0, hW0⟩ : ∃ W0, (((w.alloc (.cells #[.int .i64 n0] 3)).alloc (.cells #[.int .i64 0] 3)).alloc (.cells #[.bool false] 4)).alloc (.cells #[.slice A xs.length c] 41) = W0 := ⟨_, rfl⟩
    rw [hW0] at bN bU bO bA hB0 hsz ⊢
    clear hW0
    refine wpIn_rangeFunc_ownH rfl (by omega) (gf := 88) (lb := #[.pointer (some ⟨w.heap.size + 1 + 1 + 1, 0, none⟩)]) rfl trivial (enters_of Try.func88 (by kernel_rfl) rfl)
      (ranges_stops HVv.out 9 (by omega) (w.heap.size + 1 + 1 + 1) w.heap.size A c xs hlen hc W0 (by omega) (by omega) bA.cell (HL.out.below hB0) (Kd.C_below HC.out hB0)) belowK_t (belowK_b (by omega)) (Below.refl _ _) (fun _ => rfl)
      (fun pre W => ((nthL pre n0 = none ∧ Boxed W w.heap.size 3 (.int .i64 (restL pre n0)) ∧ Boxed W (w.heap.size + 1) 3 (.int .i64 0) ∧ Boxed W (w.heap.size + 1 + 1) 4 (.bool false)) ∧ w.heap.size + 4 ≤ W.heap.size) ∧ Below w.heap.size w W)
      (fun cd pre W => ((cd = .ret ∧ ∃ u, nthL pre n0 = some u ∧ Boxed W (w.heap.size + 1) 3 (.int .i64 u) ∧ Boxed W (w.heap.size + 1 + 1) 4 (.bool true))) ∧ Below w.heap.size w W)
      (OwnFrom.and (OwnFrom.and (Own.from (fun s X Y row hs hg hr => ⟨hs.1, boxed_own _ 3 (fun (_ : Unit) => Value.int .i64 (restL s n0)) () X Y row hs.2.1 hg hr, boxed_own _ 3 (fun (_ : Unit) => Value.int .i64 0) () X Y row hs.2.2.1 hg hr, boxed_own _ 4 (fun (_ : Unit) => Value.bool false) () X Y row hs.2.2.2 hg hr⟩) _) (fun s X Y row hs hg _ => Nat.le_trans hs hg.size)) (ownFrom_below (Nat.le_refl _) (by omega)))
      (fun cd => OwnFrom.and (Own.from (fun s X Y row hs hg hr => by obtain ⟨h1, u, h2, h3, h4⟩ := hs; exact ⟨h1, u, h2, boxed_own _ 3 (fun (_ : Unit) => Value.int .i64 u) () X Y row h3 hg hr, boxed_own _ 4 (fun (_ : Unit) => Value.bool true) () X Y row h4 hg hr⟩) _) (ownFrom_below (Nat.le_refl _) (by omega)))
      ⟨⟨⟨rfl, bN, bU, bO⟩, by omega⟩, hB0⟩
      (fun x a' W => ∃ Bx, w.heap.size + 3 < Bx ∧ Blk W Bx 68 #[.int .i64 x.f0, .int .i64 x.f1] ∧ a' = { tmps := #[.slice A xs.length c, .int .i64 n0, undef, .pointer (some ⟨w.heap.size, 0, none⟩), .pointer (some ⟨w.heap.size + 1, 0, none⟩), .pointer (some ⟨w.heap.size + 1 + 1, 0, none⟩), .pointer (some ⟨Bx, 0, none⟩), .int .i64 n0, .bool false, .slice A xs.length c, .func (.func 88) #[] #[.pointer (some ⟨w.heap.size + 1 + 1 + 1, 0, none⟩)], .agg #[.int .i64 x.f0, .int .i64 x.f1], undef, undef, undef, undef, undef, undef, undef, undef, undef, undef, undef, undef, undef, undef, undef, undef, undef, undef, undef], defers := [] })
      (fun x a' _ X Y row hs hg hr => by obtain ⟨Bx, h1, h2, h3⟩ := hs; exact ⟨Bx, h1, blk_own Bx 68 (fun (_ : Unit) => #[Value.int .i64 x.f0, Value.int .i64 x.f1]) () X Y row h2 hg (fun r e => (hr r e).2), h3⟩)
      ?assign ?body ?done ?stop
    case assign =>
      rintro l pre x W K ⟨⟨⟨hp, b1, b2, b3⟩, hz⟩, hB1⟩ hK
      gi_wp2
      exact hK _ _ ((KeepsOthers.alloc _ _).from _) ((Below.refl _ W).alloc hB1.size _) ⟨⟨⟨hp, b1.alloc _, b2.alloc _, b3.alloc _⟩, by rw [World.size_alloc]; omega⟩, hB1.alloc hB1.size _⟩ ⟨W.heap.size, by omega, Blk.new W _ _, rfl⟩
    case body =>
      rintro l pre x a' W hl ⟨r, hr⟩ ⟨⟨⟨hp, b1, b2, b3⟩, hz⟩, hB1⟩ ⟨Bx, hBx, bX, rfl⟩ hlt
      have cN := b1.cell
      have fN := b1.frozen
      have cU := b2.cell
      have fU := b2.frozen
      have cO := b3.cell
      have fO := b3.frozen
      have c0 := bX.cell 0
      have c1 := bX.cell 1
      simp only [List.getElem?_toArray, List.getElem?_cons_zero, List.getElem?_cons_succ] at c0 c1
      have HZ := Lib.hid hz
      have HB := Lib.hid hB1
      have Hst := Lib.hid (restL_snoc pre x n0)
      have Hnt := Lib.hid (nthL_snoc pre x n0 hp)
      clear hz hB1 HL HC HVv hr hp
      obtain ⟨rs, hrs⟩ : ∃ rs, rs = restL pre n0 := ⟨_, rfl⟩
      rw [← hrs] at cN Hst Hnt b1
      clear hrs
      by_cases ht : rs ≤ wrap64 (x.f1 - x.f0)
      · gi_wp2
        refine ⟨((KeepsOthers.setCell _ _ _).trans (KeepsOthers.setCell _ _ _)).from _, ⟨rfl, wrap64 (x.f0 + rs), ?_, ?_, ?_⟩, (HB.out.setCell (p := ⟨w.heap.size + 1, 0, none⟩) (by simp) _).setCell (p := ⟨w.heap.size + 1 + 1, 0, none⟩) (by simp; omega) _⟩
        · rw [Hnt.out, if_pos ht]
        · exact (b2.set _).other (by omega) _
        · exact (b3.other (by omega) _).set _
      · gi_wp2
        refine ⟨(KeepsOthers.setCell _ _ _).from _, (Below.refl w.heap.size W).setCell (p := ⟨w.heap.size, 0, none⟩) (Nat.le_refl _) _, ⟨⟨⟨?_, ?_, b2.other (by omega) _, b3.other (by omega) _⟩, Nat.le_trans HZ.out (KeepsWalks.setCell W _ _).size⟩, HB.out.setCell (p := ⟨w.heap.size, 0, none⟩) (Nat.le_refl _) _⟩⟩
        · rw [Hnt.out, if_neg (by omega)]
        · rw [Hst.out]; exact b1.set _
    case done =>
      rintro D zs W hD rfl ⟨⟨⟨hp, b1, b2, b3⟩, hz⟩, hB1⟩ hK
      have cU := b2.cell
      have fU := b2.frozen
      have cO := b3.cell
      have fO := b3.frozen
      have HB := Lib.hid hB1
      have HP := Lib.hid hp
      clear hB1 hz hp
      gi_wp2
      have hK' : ((W.setCell ⟨w.heap.size + 1, 0, none⟩ (.int .i64 0)).setCell ⟨w.heap.size + 1 + 1, 0, none⟩ (.bool false)).heap[D]? = some (.deferred (some [])) := ((KeepsOthers.setCell W ⟨w.heap.size + 1, 0, none⟩ (.int .i64 0)).trans (KeepsOthers.setCell _ ⟨w.heap.size + 1 + 1, 0, none⟩ (.bool false))).same D _ hK rfl
      refine ⟨by simp, .inl ⟨_, _, rfl, run_takeDeferred hK', ?_⟩⟩
      have d2 := ((b2.set (.int .i64 0)).other (show w.heap.size + 1 ≠ w.heap.size + 1 + 1 by omega) (.bool false)).kept (grownBy_putObj' _ D (.deferred none)) (fun e => by injection e with e; omega)
      have d3 := ((b3.other (show w.heap.size + 1 + 1 ≠ w.heap.size + 1 by omega) (.int .i64 0)).set (.bool false)).kept (grownBy_putObj' _ D (.deferred none)) (fun e => by injection e with e; omega)
      have e2 := d2.cell
      have e3 := d3.cell
      have hF : nthF xs n0 = (0, false) := by unfold nthF; rw [if_neg (by omega), HP.out]
      refine ⟨.tuple #[.int .i64 0, .bool false], by simp [results, Try.f53, go_sem, e2, e3], by rw [hF], ((HB.out.setCell (p := ⟨w.heap.size + 1, 0, none⟩) (by simp) _).setCell (p := ⟨w.heap.size + 1 + 1, 0, none⟩) (by simp; omega) _).trans (belowK_b (w := w) (Nat.le_refl _) _ D _ _ (by omega) hK' rfl rfl)⟩
    case stop =>
      rintro D cd pre W hD hpre ⟨⟨rfl, u, hu, b2, b3⟩, hB1⟩ hK
      have HB := Lib.hid hB1
      have HU := Lib.hid hu
      clear hB1 hu
      gi_wp2
      refine ⟨by simp, .inl ⟨_, _, rfl, run_takeDeferred hK, ?_⟩⟩
      have d2 := b2.kept (grownBy_putObj' W D (.deferred none)) (fun e => by injection e with e; omega)
      have d3 := b3.kept (grownBy_putObj' W D (.deferred none)) (fun e => by injection e with e; omega)
      have e2 := d2.cell
      have e3 := d3.cell
      have hF : nthF xs n0 = (u, true) := by unfold nthF; rw [if_neg (by omega), nthL_prefix HU.out hpre]
      refine ⟨.tuple #[.int .i64 u, .bool true], by simp [results, Try.f53, go_sem, e2, e3], by rw [hF], HB.out.trans (belowK_b (w := w) (Nat.le_refl _) W D _ _ (by omega) hK rfl rfl)⟩
theorem Nth_calls0 (HV : ValidC) (A : Option Addr) (c : Nat) (xs : List Rg) (n0 : Int) (w : World) (hC : Kd.C k68 w A xs.length xs) (hc : xs.length ≤ c) :
    Calls Try.prog 53 #[.slice A xs.length c, .int .i64 n0] w fun e w' => e = .returned (.tuple #[.int .i64 (nthF xs n0).1, .bool (nthF xs n0).2]) ∧ Below w.heap.size w w' := callsIn_wide.1 (Nth_in HV A c xs n0 w hC hc hC.2.1)
end Go.Proofs.Ytonljejhlphgpaa

