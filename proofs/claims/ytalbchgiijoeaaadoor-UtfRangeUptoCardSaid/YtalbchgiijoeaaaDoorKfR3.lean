-- Slimmed by slim.py from the text of this name without 'Kf'.
import Derived.Test.YtalbchgiijoeaaaDoorKfR2
import Derived.Deep.Onto
set_option linter.unusedVariables false
set_option linter.unusedSimpArgs false
namespace Go.Proofs.YtalbchgiijoeaaaDoor
open Go.RowKit Go.Shelf Go.Proofs.YtalbchgiijoeaaaDoor.G Go.Proofs.YtalbchgiijoeaaaDoorW.PrintWords
attribute [local go_sem] Oper.semAt_some
theorem cells_new (W1 : World) (n : Nat) (hn : n = W1.heap.size) (cs : List Value) (t : TypeId) : ∀ j u, cs[j]? = some u → (W1.alloc (.cells cs.toArray t)).cell? ((⟨n, 0, none⟩ : Addr).add j) = some u := by
  subst hn
  intro j u h
  have e : ((⟨W1.heap.size, 0, none⟩ : Addr).add j) = ⟨W1.heap.size, j, none⟩ := by unfold Addr.add; split <;> simp_all
  rw [e, World.cell?_alloc_mark W1 cs.toArray t (0, 0) j]
  simpa using h
def pairsL (pre : List (Nat × Nat)) : List Int := pre.flatMap fun x => [(x.1 : Int), (x.2 : Int)]
theorem pairsL_len (pre : List (Nat × Nat)) : (pairsL pre).length = 2 * pre.length := by
  induction pre with
  | nil => rfl
  | cons x l ih => unfold pairsL at *; rw [List.flatMap_cons, List.length_append, ih]; simp; omega
theorem pairsL_snoc (pre : List (Nat × Nat)) (x : Nat × Nat) : pairsL (pre ++ [x]) = pairsL pre ++ [(x.1 : Int), (x.2 : Int)] := by unfold pairsL; rw [List.flatMap_append]; simp
def forthF (s : ByteArray) (m : Int) : List Int := pairsL ((units s).take m.toNat)
set_option maxRecDepth 100000 in
set_option maxHeartbeats 4000000 in
theorem forth_in (s : ByteArray) (hs : s.size ≤ 4398046511104) (many : Int) (hm : many ≤ 9223372036854775807) (w : World) (HT : Tabs w) :
    CallsIn Fence.wide 10 Tryd.prog 20 #[.string s, .int .i64 many] w fun e w' => ∃ v, e = .returned v ∧ w'.ownsRow w.heap.size 3 1 v (forthF s many).length ((forthF s many).map (Value.int .i64)) ∧ Below w.heap.size w w' := by
  obtain ⟨i0, hi, hz0, hz1, hz2⟩ := info_parts info3
  have HTt := Lib.hid HT
  clear HT
  refine callsIn_of_wp_marks Tryd.func20 rfl trivial ?_ rfl
  simp only [Tryd.ntmps20, List.size_toArray, List.length_cons, List.length_nil, Nat.reduceAdd, Nat.reduceSub, Array.replicate_succ, Array.replicate_zero, List.push_toArray, List.append_toArray, List.nil_append, List.cons_append]
  gi_wp2_with (refine ⟨trivial, ?_⟩; gi_at_call 22; refine (all_in 9 _ _).mono ?_; rintro e w' ⟨rfl, rfl⟩)
  have bM := (((Boxed.new w 3 (.int .i64 many)).alloc (.cells #[] 3)).alloc (.cells #[.slice (some ⟨w.heap.size + 1, 0, none⟩) 0 0] 29)).alloc (.cells #[.string s] 9)
  have rO := (((World.ownsRow_made (e := 3) (size := 1) (w.alloc (.cells #[.int .i64 many] 3)) #[] 0 (by rw [World.size_alloc]; exact Nat.le_refl _) (Nat.zero_le _) rfl).alloc (.cells #[.slice (some ⟨w.heap.size + 1, 0, none⟩) 0 0] 29)).alloc (.cells #[.string s] 9))
  have bO := (Boxed.new ((w.alloc (.cells #[.int .i64 many] 3)).alloc (.cells #[] 3)) 29 (.slice (some ⟨w.heap.size + 1, 0, none⟩) 0 0)).alloc (.cells #[.string s] 9)
  have bS := Boxed.new (((w.alloc (.cells #[.int .i64 many] 3)).alloc (.cells #[] 3)).alloc (.cells #[.slice (some ⟨w.heap.size + 1, 0, none⟩) 0 0] 29)) 9 (.string s)
  simp only [World.size_alloc] at bM rO bO bS
  have hB0 : Below w.heap.size w ((((w.alloc (.cells #[.int .i64 many] 3)).alloc (.cells #[] 3)).alloc (.cells #[.slice (some ⟨w.heap.size + 1, 0, none⟩) 0 0] 29)).alloc (.cells #[.string s] 9)) := ((((Below.refl _ w).alloc (Nat.le_refl _) _).alloc (by simp) _).alloc (by simp; omega) _).alloc (by simp; omega) _
  have hsz : ((((w.alloc (.cells #[.int .i64 many] 3)).alloc (.cells #[] 3)).alloc (.cells #[.slice (some ⟨w.heap.size + 1, 0, none⟩) 0 0] 29)).alloc (.cells #[.string s] 9)).heap.size = w.heap.size + 4 := by simp
  obtain ⟨W0, hW0⟩ : ∃ W0, (((w.alloc (.cells #[.int .i64 many] 3)).alloc (.cells #[] 3)).alloc (.cells #[.slice (some ⟨w.heap.size + 1, 0, none⟩) 0 0] 29)).alloc (.cells #[.string s] 9) = W0 := ⟨_, rfl⟩
  rw [hW0] at bM rO bO bS hB0 hsz ⊢
  clear hW0
  refine wpIn_rangeFunc_ownG rfl (by omega) (gf := 43) (lb := #[.pointer (some ⟨w.heap.size + 1 + 1 + 1, 0, none⟩)]) rfl trivial (enters_of Tryd.func43 (by kernel_rfl) rfl)
    (all_stops 9 (by omega) (w.heap.size + 1 + 1 + 1) w HTt.out s (by omega) W0 hB0 bS.cell) kpU_t (kpU_b (by omega)) (Below.refl _ _) (fun _ => rfl)
    (fun pre W => (((∃ v, Boxed W (w.heap.size + 1 + 1) 29 v ∧ W.ownsRow (w.heap.size + 1) 3 1 v (2 * pre.length) ((pairsL pre).map (Value.int .i64)) ∧ True) ∧ Boxed W (w.heap.size + 1 + 1 + 1) 9 (.string s)) ∧ (Boxed W w.heap.size 3 (.int .i64 (many - pre.length)) ∧ pre.length ≤ many.toNat)) ∧ (Below w.heap.size w W ∧ w.heap.size + 4 ≤ W.heap.size))
    (fun cd pre W => (cd = .exit 0 ∧ ∃ q x, pre = q ++ [x] ∧ q.length = many.toNat ∧ ∃ v, Boxed W (w.heap.size + 1 + 1) 29 v ∧ W.ownsRow (w.heap.size + 1) 3 1 v (2 * q.length) ((pairsL q).map (Value.int .i64)) ∧ True) ∧ Below w.heap.size w W)
    (OwnFrom.and (OwnFrom.and (OwnFrom.and (Own.from (holdsRow_own (w.heap.size + 1) (w.heap.size + 1 + 1) 29 3 1 (fun pre : List (Nat × Nat) => 2 * pre.length) (fun pre => (pairsL pre).map (Value.int .i64)) (fun _ _ => True)) _) (Own.from (boxed_own (w.heap.size + 1 + 1 + 1) 9 (fun (_ : List (Nat × Nat)) => Value.string s)) _)) (OwnFrom.and (Own.from (boxed_own w.heap.size 3 (fun pre : List (Nat × Nat) => Value.int .i64 (many - pre.length))) _) (fun _ _ _ _ hs _ _ => hs))) (OwnFrom.and (ownFrom_below (Nat.le_refl _) (by omega)) (fun _ _ _ _ hs hg _ => Nat.le_trans hs hg.size)))
    (fun cd => OwnFrom.and (Own.from (fun pre X Y row hs hg hr => by
      obtain ⟨h1, q, x, h2, h3, h4⟩ := hs
      exact ⟨h1, q, x, h2, h3, holdsRow_own (w.heap.size + 1) (w.heap.size + 1 + 1) 29 3 1 (fun _ : Unit => 2 * q.length) (fun _ => (pairsL q).map (Value.int .i64)) (fun _ _ => True) () X Y row h4 hg hr⟩) _) (ownFrom_below (Nat.le_refl _) (by omega)))
    ⟨⟨⟨⟨_, bO, rO, trivial⟩, bS⟩, by simpa using bM, Nat.zero_le _⟩, hB0, by omega⟩
    (fun x => { tmps := #[.string s, .int .i64 many, undef, .pointer (some ⟨w.heap.size, 0, none⟩), .slice none 0 0, .pointer (some ⟨w.heap.size + 1 + 1, 0, none⟩), .int .i64 (x.1 : Int), .int .i64 (x.2 : Int), .slice (some ⟨w.heap.size + 1, 0, none⟩) 0 0, .string s, .func (.func 43) #[] #[.pointer (some ⟨w.heap.size + 1 + 1 + 1, 0, none⟩)], .int .i64 (x.1 : Int), .int .i64 (x.2 : Int), undef, undef, undef, undef, undef, undef, undef, undef, undef, undef], defers := [] }) ?assign ?body ?done ?stop
  case assign =>
    intro l x W K hK
    unfold encU
    gi_wp2
    exact hK
  case body =>
    rintro l pre x W ⟨⟨⟨⟨v, hv, hrow, _⟩, hS⟩, hM, hle⟩, hB, hz⟩ hlt
    obtain ⟨m, hmm⟩ : ∃ m : Int, m = many - pre.length := ⟨_, rfl⟩
    rw [← hmm] at hM
    have Hmm := Lib.hid hmm
    by_cases hm0 : m ≤ 0
    · have hd : decide (m ≤ 0) = true := decide_eq_true hm0
      have hcm := hM.cell
      have hq : pre.length = many.toNat := by omega
      have HQ := Lib.hid hq
      have HV := Lib.hid (And.intro hv hrow)
      have HB := Lib.hid hB
      clear hq hmm hv hrow hB hle hlt hz hS hm0
      gi_wp2
      exact ⟨KeepsFrom.refl _ _, ⟨rfl, pre, x, rfl, HQ.out, v, HV.out.1, HV.out.2, trivial⟩, HB.out⟩
    · have hd : decide (m ≤ 0) = false := decide_eq_false hm0
      have hwm : wrap64 (m - 1) = m - 1 := by unfold wrap64; omega
      have hcm := hM.cell
      have hfm := hM.frozen
      obtain ⟨at_, hat⟩ : ∃ u : Int, u = (x.1 : Int) := ⟨_, rfl⟩
      obtain ⟨u, hu⟩ : ∃ u : Int, u = (x.2 : Int) := ⟨_, rfl⟩
      have hM1 := hM.set (.int .i64 (m - 1))
      have hv1 := hv.other (show w.heap.size + 1 + 1 ≠ w.heap.size by omega) (.int .i64 (m - 1))
      have hS1 := hS.other (show w.heap.size + 1 + 1 + 1 ≠ w.heap.size by omega) (.int .i64 (m - 1))
      have hnb : some w.heap.size ≠ v.ownBlock := fun e => by have := (hrow.lt _ e.symm).1; omega
      have hrow1 := hrow.kept (grownBy_setCell' W w.heap.size (.int .i64 (m - 1))) (.inr fun e => hnb e.symm)
      have hsz1 : (W.setCell ⟨w.heap.size, 0, none⟩ (.int .i64 (m - 1))).heap.size = W.heap.size := by simp
      have hcv := hv1.cell
      have hp2 : 2 * pre.length + 2 ≤ 8796093022208 := by omega
      have HM1 := Lib.hid hM1
      have HS1 := Lib.hid hS1
      have HS := Lib.hid hS
      have HV1 := Lib.hid hv1
      have HR1 := Lib.hid hrow1
      have HB := Lib.hid (And.intro hB hz)
      have HLE : Hid (pre.length + 1 ≤ many.toNat) := Lib.hid (by omega)
      have Hat := Lib.hid hat
      have Hu := Lib.hid hu
      have HNB := Lib.hid hnb
      have HSZ := Lib.hid hsz1
      rw [← hu, ← hat]
      clear hM hM1 hv hv1 hS hS1 hrow hrow1 hB hz hle hlt hat hu hmm hnb hsz1 hm0
      gi_wp2_with (gi_at_builtin; refine wpListIn_append_own _ rfl _ _ 29 rfl (w.heap.size + 1) 3 i0 (.int .i64 0) 1 8 Tryd.underlying29 hi hz0 hz1 hz2 rfl (by decide) _ _ _ rfl (HR1.out.alloc _) _ 2 2 [.int .i64 at_, .int .i64 u] rfl rfl (cells_new _ _ (by rw [HSZ.out]) _ _) (by simp [Value.oneCell']) (by unfold maxLen; omega) (by omega) (by have := HB.out.2; rw [World.size_alloc, HSZ.out]; omega) ?_; intro v' w1 hown' hgrow _; obtain ⟨g', cap', rfl⟩ := ownsRow_succ hown'; obtain ⟨hv2, hv3, hr3, hk3, hb3⟩ := HV1.out.appended (by decide) HR1.out (by have := HB.out.2; rw [HSZ.out]; omega) (by omega) hown' hgrow; have HS3 := Lib.hid (((HS1.out.alloc _).kept hgrow (HS1.out.not_row (by decide) HR1.out)).other (show w.heap.size + 1 + 1 + 1 ≠ w.heap.size + 1 + 1 by omega) (.slice (some ⟨g', 0, none⟩) (2 * pre.length + 1 + 1) cap')); have HM3 := Lib.hid (((HM1.out.alloc _).kept hgrow HNB.out).other (show w.heap.size ≠ w.heap.size + 1 + 1 by omega) (.slice (some ⟨g', 0, none⟩) (2 * pre.length + 1 + 1) cap')); have hc2 := hv2.cell; have hf2 := hv2.frozen)
      have HK3 := (KeepsOthers.setCell W ⟨w.heap.size, 0, none⟩ (.int .i64 (m - 1))).trans hk3
      have HB3 : Below w.heap.size W (w1.setCell ⟨w.heap.size + 1 + 1, 0, none⟩ (.slice (some ⟨g', 0, none⟩) (2 * pre.length + 1 + 1) cap')) := ((Below.refl _ W).setCell (p := ⟨w.heap.size, 0, none⟩) (Nat.le_refl _) _).trans (hb3.mono (Nat.le_succ _))
      refine ⟨HK3.from _, ⟨HB3, HK3.walks, fun z hz => ?_⟩, ⟨⟨⟨_, hv3, ?_, trivial⟩, HS3.out⟩, ?_, ?_⟩, HB.out.1.trans HB3, Nat.le_trans HB.out.2 HK3.size⟩
      · rw [HS.out.cell] at hz
        cases hz
        exact HS3.out.cell
      · have e : 2 * (pre ++ [x]).length = 2 * pre.length + 2 := by rw [List.length_append]; simp; omega
        rw [e, pairsL_snoc, List.map_append, ← Hat.out, ← Hu.out]; exact hr3
      · have e : many - ((pre ++ [x]).length : Int) = m - 1 := by rw [Hmm.out, List.length_append]; simp; omega
        rw [e]; exact HM3.out
      · rw [List.length_append]; exact HLE.out
  case done =>
    rintro D ys W hD rfl ⟨⟨⟨⟨v, hv, hrow, _⟩, hS⟩, hM, hle⟩, hB, hz⟩ hK
    have hc := hv.cell
    have HF : Hid (forthF s many = pairsL (units s)) := Lib.hid (by unfold forthF; rw [List.take_of_length_le hle])
    gi_wp2
    refine ⟨by simp, .inl ⟨_, _, rfl, run_takeDeferred hK, ?_⟩⟩
    refine ⟨_, results_tmp rfl _ _ _, v, rfl, ?_, hB.trans (belowK_b (w := w) (Nat.le_refl _) W D _ _ (by omega) hK rfl rfl)⟩
    rw [HF.out, pairsL_len]
    exact World.ownsRow.mono (ownsRow_putObj hrow (.deferred none) hK rfl) (Nat.le_succ _)
  case stop =>
    rintro D c pre W hD hpre ⟨⟨rfl, q, x, rfl, hq, v, hv, hrow, _⟩, hB⟩ hK
    have hc := hv.cell
    have HF : Hid (forthF s many = pairsL q) := Lib.hid (by
      obtain ⟨t, ht⟩ := hpre
      unfold forthF
      rw [← ht, ← hq, List.append_assoc, List.take_append_of_le_length (Nat.le_refl _), List.take_length])
    clear hpre hq
    gi_wp2
    refine ⟨by simp, .inl ⟨_, _, rfl, run_takeDeferred hK, ?_⟩⟩
    refine ⟨_, results_tmp rfl _ _ _, v, rfl, ?_, hB.trans (belowK_b (w := w) (Nat.le_refl _) W D _ _ (by omega) hK rfl rfl)⟩
    rw [HF.out, pairsL_len]
    exact World.ownsRow.mono (ownsRow_putObj hrow (.deferred none) hK rfl) (Nat.le_succ _)
theorem forth_calls0 (s : ByteArray) (hs : s.size ≤ 4398046511104) (many : Int) (hm : many ≤ 9223372036854775807) (w : World) (HT : Tabs w) :
    Calls Tryd.prog 20 #[.string s, .int .i64 many] w fun e w' => ∃ v, e = .returned v ∧ Kd.R (Kd.int .i64) 3 w' w.heap.size (fun _ => True) v (forthF s many) ∧ Below w.heap.size w w' :=
  (callsIn_wide.1 (forth_in s hs many hm w HT)).mono fun _ _ ⟨v, e, h1, h2⟩ => ⟨v, e, Kd.R_of_own h1 (fun _ _ => trivial), h2⟩
end Go.Proofs.YtalbchgiijoeaaaDoor

