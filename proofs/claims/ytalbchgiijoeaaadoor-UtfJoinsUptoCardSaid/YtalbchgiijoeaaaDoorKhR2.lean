-- Slimmed by slim.py from the text of this name without 'Kh'.
import Derived.Test.YtalbchgiijoeaaaDoorKhR1
import Derived.RowKit3
import Derived.Maps.AppendAt
set_option linter.unusedVariables false
set_option linter.unusedSimpArgs false
namespace Go.Proofs.YtalbchgiijoeaaaDoor
open Go.RowKit Go.Shelf Go.Proofs.YtalbchgiijoeaaaDoor.G Go.Proofs.YtalbchgiijoeaaaDoorW.PrintWords
attribute [local go_sem] Oper.semAt_some
theorem all_in (n : Nat) (s : ByteArray) (w : World) :
    CallsIn Fence.wide n Tryd.prog 22 #[.string s] w fun e w' => e = .returned (.func (.func 43) #[] #[.pointer (some ⟨w.heap.size, 0, none⟩)]) ∧ w' = w.alloc (.cells #[.string s] 9) := by
  refine callsIn_of_wp Tryd.func22 rfl trivial ?_ rfl
  simp only [Tryd.ntmps22, List.size_toArray, List.length_cons, List.length_nil, Nat.reduceAdd, Nat.reduceSub, Array.replicate_succ, Array.replicate_zero, List.push_toArray, List.append_toArray, List.nil_append, List.cons_append]
  gi_wp2
  go_ret
  exact ⟨rfl, rfl⟩
def encU (x : Nat × Nat) : Array Value := #[.int .i64 (x.1 : Int), .int .i64 (x.2 : Int)]
theorem all_stops (n : Nat) (hn : 1 ≤ n) (Bs : Nat) (w0 : World) (HT : Tabs w0) (s : ByteArray) (hs : s.size ≤ 9223372036854775807) (w : World) (hw0 : Below w0.heap.size w0 w) (hb : w.cell? ⟨Bs, 0, none⟩ = some (.string s)) :
    SeqStopsK Fence.wide n Tryd.prog 43 #[.pointer (some ⟨Bs, 0, none⟩)] encU (KpU w0.heap.size Bs) (fun ys => ys = units s) (fun pre => pre <+: units s) s.size w := fun l J Jx W hW hJ _ hY h0 =>
  all1_in n hn l Bs w0 HT s hs J Jx W (hw0.trans (hW.mono hw0.size)) hJ hY ((hW.cell (p := ⟨Bs, 0, none⟩) (World.block_lt_of_cell? w _ hb)).trans hb) h0
def cutF (s : ByteArray) : List Int := (units s).map fun x => (x.2 : Int)
set_option maxRecDepth 100000 in
set_option maxHeartbeats 4000000 in
theorem Cut_in (s : ByteArray) (hs : s.size ≤ 8796093022208) (w : World) (HT : Tabs w) :
    CallsIn Fence.wide 10 Tryd.prog 31 #[.string s] w fun e w' => ∃ v, e = .returned v ∧ w'.ownsRow w.heap.size 3 1 v (cutF s).length ((cutF s).map (Value.int .i64)) ∧ Below w.heap.size w w' := by
  obtain ⟨i0, hi, hz0, hz1, hz2⟩ := info_parts info3
  have HTt := Lib.hid HT
  clear HT
  refine callsIn_of_wp_marks Tryd.func31 rfl trivial ?_ rfl
  simp only [Tryd.ntmps31, List.size_toArray, List.length_cons, List.length_nil, Nat.reduceAdd, Nat.reduceSub, Array.replicate_succ, Array.replicate_zero, List.push_toArray, List.append_toArray, List.nil_append, List.cons_append]
  gi_wp2_with (refine ⟨trivial, ?_⟩; gi_at_call 22; refine (all_in 9 _ _).mono ?_; rintro e w' ⟨rfl, rfl⟩)
  have bO := (Boxed.new w 29 (.slice none 0 0)).alloc (.cells #[.string s] 9)
  have bS := Boxed.new (w.alloc (.cells #[.slice none 0 0] 29)) 9 (.string s)
  rw [World.size_alloc] at bS
  have hB0 : Below w.heap.size w ((w.alloc (.cells #[.slice none 0 0] 29)).alloc (.cells #[.string s] 9)) := ((Below.refl _ w).alloc (Nat.le_refl _) _).alloc (by simp) _
  have hsz : ((w.alloc (.cells #[.slice none 0 0] 29)).alloc (.cells #[.string s] 9)).heap.size = w.heap.size + 2 := by simp
  obtain ⟨W0, hW0⟩ : ∃ W0, (w.alloc (.cells #[.slice none 0 0] 29)).alloc (.cells #[.string s] 9) = W0 := ⟨_, rfl⟩
  rw [hW0] at bO bS hB0 hsz ⊢
  clear hW0
  refine wpIn_rangeFunc_ownG rfl (by omega) (gf := 43) (lb := #[.pointer (some ⟨w.heap.size + 1, 0, none⟩)]) rfl trivial (enters_of Tryd.func43 (by kernel_rfl) rfl)
    (all_stops 9 (by omega) (w.heap.size + 1) w HTt.out s (by omega) W0 hB0 bS.cell) kpU_t (kpU_b (by omega)) (Below.refl _ _) (fun _ => rfl)
    (fun pre W => ((∃ v, Boxed W w.heap.size 29 v ∧ W.ownsRow w.heap.size 3 1 v pre.length (pre.map fun x => Value.int .i64 (x.2 : Int)) ∧ True) ∧ Boxed W (w.heap.size + 1) 9 (.string s)) ∧ Below w.heap.size w W)
    (fun _ _ _ => False)
    (OwnFrom.and (OwnFrom.and (Own.from (holdsRow_own w.heap.size w.heap.size 29 3 1 (fun pre : List (Nat × Nat) => pre.length) (fun pre => pre.map fun x => Value.int .i64 (x.2 : Int)) (fun _ _ => True)) _) (Own.from (boxed_own (w.heap.size + 1) 9 (fun (_ : List (Nat × Nat)) => Value.string s)) _)) (ownFrom_below (Nat.le_refl _) (by omega)))
    (fun _ _ _ _ _ hs _ _ => hs)
    ⟨⟨⟨_, bO, World.ownsRow_nil _ _ _ _, trivial⟩, bS⟩, hB0⟩
    (fun x => { tmps := #[.string s, undef, .slice none 0 0, .pointer (some ⟨w.heap.size, 0, none⟩), undef, .int .i64 (x.2 : Int), .string s, .func (.func 43) #[] #[.pointer (some ⟨w.heap.size + 1, 0, none⟩)], .int .i64 (x.1 : Int), .int .i64 (x.2 : Int), undef, undef, undef, undef, undef], defers := [] }) ?assign ?body ?done ?stop
  case assign =>
    intro l x W K hK
    unfold encU
    gi_wp2
    exact hK
  case body =>
    rintro l pre x W ⟨⟨⟨v, hv, hrow, _⟩, hS⟩, hB⟩ hlt
    have hc := hv.cell
    have HS := Lib.hid hS
    obtain ⟨u, hu⟩ : ∃ u : Int, u = (x.2 : Int) := ⟨_, rfl⟩
    have Hu := Lib.hid hu
    rw [← hu]
    clear hS hu
    gi_wp2_with (gi_at_builtin; refine wpListIn_append_own _ rfl _ _ 29 rfl w.heap.size 3 i0 (.int .i64 0) 1 8 Tryd.underlying29 hi hz0 hz1 hz2 rfl (by decide) _ _ _ rfl (hrow.alloc _) ⟨W.heap.size, 0, none⟩ 1 1 [.int .i64 u] rfl rfl (cell_one_new _ _ _) (by simp [Value.oneCell']) (by unfold maxLen; omega) (by omega) (by have := hB.size; simp; omega) ?_; intro v' w1 hown' hgrow _; obtain ⟨g', cap', rfl⟩ := ownsRow_succ hown'; obtain ⟨hv1, hv2, hr2, hk2, hb2⟩ := hv.appended (by decide) hrow hB.size (Nat.le_refl _) hown' hgrow; have HS2 := Lib.hid (((HS.out.alloc _).kept hgrow (HS.out.not_row (by decide) hrow)).other (show w.heap.size + 1 ≠ w.heap.size by omega) (.slice (some ⟨g', 0, none⟩) (pre.length + 1) cap')); have hc1 := hv1.cell; have hf1 := hv1.frozen)
    refine ⟨hk2.from _, ⟨hb2, hk2.walks, fun z hz => ?_⟩, ⟨⟨_, hv2, ?_, trivial⟩, HS2.out⟩, hB.trans hb2⟩
    · rw [HS.out.cell] at hz
      cases hz
      exact HS2.out.cell
    · rw [List.length_append, List.map_append, List.map_cons, List.map_nil, ← Hu.out]; exact hr2
  case done =>
    rintro D ys W hD rfl ⟨⟨⟨v, hv, hrow, _⟩, hS⟩, hB⟩ hK
    have hc := hv.cell
    gi_wp2
    refine ⟨by simp, .inl ⟨_, _, rfl, run_takeDeferred hK, ?_⟩⟩
    refine ⟨_, results_tmp rfl _ _ _, v, rfl, ?_, hB.trans (belowK_b (w := w) (Nat.le_refl _) W D _ _ (by omega) hK rfl rfl)⟩
    have := ownsRow_putObj hrow (.deferred none) hK rfl
    unfold cutF
    rw [List.length_map, List.map_map]
    exact this
  case stop =>
    rintro D c pre W _ _ h _
    exact h.elim
theorem Cut_calls0 (s : ByteArray) (hs : s.size ≤ 8796093022208) (w : World) (HT : Tabs w) :
    Calls Tryd.prog 31 #[.string s] w fun e w' => ∃ v, e = .returned v ∧ Kd.R (Kd.int .i64) 3 w' w.heap.size (fun _ => True) v (cutF s) ∧ Below w.heap.size w w' :=
  (callsIn_wide.1 (Cut_in s hs w HT)).mono fun _ _ ⟨v, e, h1, h2⟩ => ⟨v, e, Kd.R_of_own h1 (fun _ _ => trivial), h2⟩
end Go.Proofs.YtalbchgiijoeaaaDoor

