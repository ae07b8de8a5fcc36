/- What the listed variables' data give: the tables' cells. -/
import Derived.Test.YtejjdokicecojaaDoorC2
import Derived.Test.YtejjdokicecojaaDoorRows
import Derived.ProofKit
import Derived.LaidMore
import Derived.LaidHandle
import Derived.OpenShut
import Derived.Lib.LaidTab
import Derived.Stop.Joined
namespace Go.Proofs.YtejjdokicecojaaDoor
open Go.ChangeShapes Go.WideShapes Go.ChangeAt Go.WideMaps Go.WideElems Go.RowKit
theorem flat_of {α : Type} (c : Nat) (f : α → List Value) : ∀ (l : List α) (cs : List Value), cs.length = l.length * c → (∀ i x, l[i]? = some x → (cs.drop (i * c)).take c = f x) → cs = l.flatMap f := by
  intro l
  induction l with
  | nil => intro cs hlen _; simpa using hlen
  | cons x l ih =>
    intro cs hlen h
    have h0 := h 0 x rfl
    simp only [Nat.zero_mul, List.drop_zero] at h0
    have hlen' : cs.length = l.length * c + c := by rw [hlen, List.length_cons, Nat.add_mul, Nat.one_mul]
    have := ih (cs.drop c) (by rw [List.length_drop, hlen']; omega) (fun i y hy => by
      have := h (i + 1) y (by simpa using hy)
      rw [List.drop_drop]
      rw [show c + i * c = (i + 1) * c by rw [Nat.add_mul, Nat.one_mul]; omega]
      exact this)
    rw [List.flatMap_cons, ← h0, ← this, List.take_append_drop]
def laid4 : List (String × DataW Unit) := [("respell/class.names", Rows.laid_respell_class_names), ("respell/class.counts", Rows.laid_respell_class_counts), ("respell/class.ranges", Rows.laid_respell_class_ranges), ("respell/class.partners", Rows.laid_respell_class_partners)]
section
variable {H : Type} {enc : TypeId × Value → H} {w : World} {base : Nat} {sp : Nat → Bool} {held : Bool} {fuel : Nat} {cs : List Value} {p : List MemPlace}
theorem names_cs (h : DataW.trod enc Tryd.prog w base sp held fuel 40 cs = some (Rows.laid_respell_class_names, p)) : cs = nameL.map Value.string := by
  obtain ⟨xs, m, _, hx, hlen, hn, hel⟩ := DataW.trod_array (n := 24) (e := 9) (by kernel_rfl) h
  simp only [Prod.mk.injEq] at hx
  have c9 : Tryd.prog.cellsOf 9 = 1 := by kernel_rfl
  have c40 : Tryd.prog.cellsOf 40 = 24 := by kernel_rfl
  have key := flat_of 1 (fun b : ByteArray => [Value.string b]) nameL cs (by rw [hlen, c40]; rfl) (fun i x hi => by
    have hi24 : i < 24 := (List.getElem?_eq_some_iff.1 hi).1
    have h1 := hel i hi24
    rw [c9] at h1
    rw [List.getElem?_eq_getElem (by omega)] at h1
    obtain ⟨s, e1, e2, _⟩ := DataW.trod_string Tryd.underlying9 h1
    rw [e1]
    have e3 : (DataW.agg (nameL.map fun b => DataW.lit (Lit.string b.data.toList)) : DataW H) = DataW.agg (xs.map (·.1)) := (show (DataW.agg (nameL.map fun b => DataW.lit (Lit.string b.data.toList)) : DataW H) = Rows.laid_respell_class_names from rfl).trans hx.1
    injection e3 with e3
    have e4 := congrArg (fun l => l[i]?) e3
    simp only [List.getElem?_map, hi, Option.map_some, List.getElem?_eq_getElem (show i < xs.length by omega), e2, Option.some.injEq, DataW.lit.injEq, Lit.string.injEq] at e4
    have : x = s := by cases x with | mk a => cases s with | mk b => cases a with | mk a => cases b with | mk b => simp at e4; rw [e4]
    rw [this])
  rw [key]
  rfl
theorem counts_cs (h : DataW.trod enc Tryd.prog w base sp held fuel 44 cs = some (Rows.laid_respell_class_counts, p)) : cs = cntL.map fun n : Nat => Value.int .i8 (n : Int) := by
  have h' : DataW.trod enc Tryd.prog w base sp held fuel 44 cs = some (Lib.tabData .i8 (cntL.map fun n : Nat => (n : Int)), p) := h
  rw [Lib.cells_of_tab (n := 24) (e := 43) (by kernel_rfl) Tryd.underlying43 (by kernel_rfl) (by kernel_rfl) h']
  rfl
theorem ranges_cs (h : DataW.trod enc Tryd.prog w base sp held fuel 47 cs = some (Rows.laid_respell_class_ranges, p)) : cs = rngL.flatMap fun q => [Value.int .i32 q.1, Value.int .i32 q.2] := by
  obtain ⟨xs, m, _, hx, hlen, hn, hel⟩ := DataW.trod_array (n := 67) (e := 46) (by kernel_rfl) h
  simp only [Prod.mk.injEq] at hx
  have c46 : Tryd.prog.cellsOf 46 = 2 := by kernel_rfl
  have c47 : Tryd.prog.cellsOf 47 = 134 := by kernel_rfl
  exact flat_of 2 (fun q : Int × Int => [Value.int .i32 q.1, Value.int .i32 q.2]) rngL cs (by rw [hlen, c47]; rfl) (fun i x hi => by
    have hi67 : i < 67 := (List.getElem?_eq_some_iff.1 hi).1
    have h1 := hel i hi67
    rw [c46] at h1
    rw [List.getElem?_eq_getElem (by omega)] at h1
    have e3 : (DataW.agg (rngL.map fun q => Lib.tabData .i32 [q.1, q.2]) : DataW H) = DataW.agg (xs.map (·.1)) := (show (DataW.agg (rngL.map fun q => Lib.tabData .i32 [q.1, q.2]) : DataW H) = Rows.laid_respell_class_ranges from rfl).trans hx.1
    injection e3 with e3
    have e4 := congrArg (fun l => l[i]?) e3
    simp only [List.getElem?_map, hi, Option.map_some, List.getElem?_eq_getElem (show i < xs.length by omega), Option.some.injEq] at e4
    have h2 : DataW.trod enc Tryd.prog w base sp held m 46 (List.take 2 (List.drop (i * 2) cs)) = some (Lib.tabData .i32 [x.1, x.2], xs[i].2) := by rw [h1, e4]
    rw [Lib.cells_of_tab (n := 2) (e := 21) (by kernel_rfl) Tryd.underlying21 (by kernel_rfl) (by kernel_rfl) h2]
    rfl)
def parL : List (List Int) := [[0x41, 0x5A, 0x20], [0xC0, 0xD6, 0x20], [0xD8, 0xDE, 0x20], [0x391, 0x3A1, 0x20], [0x3A3, 0x3A9, 0x20], [0x400, 0x40F, 0x50], [0x410, 0x42F, 0x20]]
theorem partners_cs (h : DataW.trod enc Tryd.prog w base sp held fuel 54 cs = some (Rows.laid_respell_class_partners, p)) : cs = partnersCs.toList := by
  obtain ⟨xs, m, _, hx, hlen, hn, hel⟩ := DataW.trod_array (n := 7) (e := 53) (by kernel_rfl) h
  simp only [Prod.mk.injEq] at hx
  have c53 : Tryd.prog.cellsOf 53 = 3 := by kernel_rfl
  have c54 : Tryd.prog.cellsOf 54 = 21 := by kernel_rfl
  have key := flat_of 3 (fun q : List Int => q.map fun z => Value.int .i32 z) parL cs (by rw [hlen, c54]; rfl) (fun i x hi => by
    have hi7 : i < 7 := (List.getElem?_eq_some_iff.1 hi).1
    have h1 := hel i hi7
    rw [c53] at h1
    rw [List.getElem?_eq_getElem (by omega)] at h1
    have e3 : (DataW.agg (parL.map fun q => Lib.tabData .i32 q) : DataW H) = DataW.agg (xs.map (·.1)) := (show (DataW.agg (parL.map fun q => Lib.tabData .i32 q) : DataW H) = Rows.laid_respell_class_partners from rfl).trans hx.1
    injection e3 with e3
    have e4 := congrArg (fun l => l[i]?) e3
    simp only [List.getElem?_map, hi, Option.map_some, List.getElem?_eq_getElem (show i < xs.length by omega), Option.some.injEq] at e4
    have h2 : DataW.trod enc Tryd.prog w base sp held m 53 (List.take 3 (List.drop (i * 3) cs)) = some (Lib.tabData .i32 x, xs[i].2) := by rw [h1, e4]
    exact Lib.cells_of_tab (n := 3) (e := 21) (by kernel_rfl) Tryd.underlying21 (by kernel_rfl) (by kernel_rfl) h2)
  rw [key]
  rfl
end
theorem blk_of_var {W : World} {n : String} {g : Nat} {cs : Array Value} (hg : Tryd.prog.globalNamed n = some g) (h : W.var? Tryd.prog n = some cs) : ∃ t fr, W.heap[g]? = some (.cells cs t fr) := by
  simp only [World.var?, hg, Option.bind_some] at h
  split at h
  · rename_i c t fr hh
    injection h with h
    subst h
    exact ⟨_, _, hh⟩
  · cases h
theorem arr_eq {a : Array Value} {l : List Value} (h : a.toList = l) : a = l.toArray := by rw [← h]
theorem tabs_of_laid {W : World} (h : laidMetH Tryd.prog laid4 W) : Tabs W := by
  rw [MakeChecks.laidMetH_plain _ _ _ (by kernel_rfl)] at h
  obtain ⟨ps, ⟨g0, t0, cs0, f0, p0, q0, hg0, ht0, hv0, hd0, ⟨g1, t1, cs1, f1, p1, q1, hg1, ht1, hv1, hd1, ⟨g2, t2, cs2, f2, p2, q2, hg2, ht2, hv2, hd2, ⟨g3, t3, cs3, f3, p3, q3, hg3, ht3, hv3, hd3, _, _⟩, _⟩, _⟩, _⟩, _, _⟩ := h
  obtain rfl := Option.some.inj ((show Tryd.prog.globalNamed "respell/class.names" = some 0 by kernel_rfl).symm.trans hg0)
  obtain rfl := Option.some.inj ((show Tryd.prog.globalNamed "respell/class.counts" = some 1 by kernel_rfl).symm.trans hg1)
  obtain rfl := Option.some.inj ((show Tryd.prog.globalNamed "respell/class.ranges" = some 2 by kernel_rfl).symm.trans hg2)
  obtain rfl := Option.some.inj ((show Tryd.prog.globalNamed "respell/class.partners" = some 3 by kernel_rfl).symm.trans hg3)
  obtain rfl := Option.some.inj ((show (Tryd.prog.globals[0]?).map (·.type) = some 40 by kernel_rfl).symm.trans ht0)
  obtain rfl := Option.some.inj ((show (Tryd.prog.globals[1]?).map (·.type) = some 44 by kernel_rfl).symm.trans ht1)
  obtain rfl := Option.some.inj ((show (Tryd.prog.globals[2]?).map (·.type) = some 47 by kernel_rfl).symm.trans ht2)
  obtain rfl := Option.some.inj ((show (Tryd.prog.globals[3]?).map (·.type) = some 54 by kernel_rfl).symm.trans ht3)
  obtain rfl := arr_eq (names_cs hd0)
  obtain rfl := arr_eq (counts_cs hd1)
  obtain rfl := arr_eq (ranges_cs hd2)
  obtain rfl := arr_eq (partners_cs hd3)
  exact ⟨blk_of_var hg0 hv0, blk_of_var hg1 hv1, blk_of_var hg2 hv2, by simpa using blk_of_var hg3 hv3⟩
theorem door_met (os : Os) (args : Array Value) : laidMetH Tryd.prog laid4 ((World.doorLaid Tryd.prog 103 os).forCall (fun _ _ => 0) ⟨#[], args, []⟩).memory :=
  laidMetH_of_parts3 (fuel := 8) (laidMet_of_run' 8 (by kernel_rfl) (by kernel_rfl)) (by kernel_rfl) (by kernel_rfl)
end Go.Proofs.YtejjdokicecojaaDoor
