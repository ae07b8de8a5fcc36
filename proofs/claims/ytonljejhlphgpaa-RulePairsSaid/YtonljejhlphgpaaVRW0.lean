-- Slimmed by slim.py from the text of this name without 'V'.
import Derived.Test.YtonljejhlphgpaaVPR1
import Derived.Test.YtonljejhlphgpaaVG16
import Derived.Test.YtonljejhlphgpaaVG18
set_option linter.unusedVariables false
set_option linter.unusedSimpArgs false
namespace Go.Proofs.Ytonljejhlphgpaa
open Go.RowKit Go.Proofs.Ytonljejhlphgpaa.G Go.Proofs.YtonljejhlphgpaaW.PrintWords Go.Proofs.YtonljejhlphgpaaW.PrintLast Go.Proofs.YtonljejhlphgpaaW.PrintMore
section
variable {P : Program} {ops : Array Oper} {rest : List Oper} {o : Oper} {a : Act} {Q : Exit → Act → World → Prop}
theorem lit1 {α : Type} (d : Kd α) (e : Nat) {W : World} (hgd : o.guard = none) {N' : Tmp} (hd : o.dst = some N') {x : α} {inner : List Value}
    (hrun : (execOp a.eval o).run P W = .ok (.value (.slice (some ⟨W.heap.size, 0, none⟩) 1 1)) (W.alloc (.cells inner.toArray e)))
    (hrep : Reps (Kd.FK d W (fun k => k < W.heap.size)) d.sz [x] inner)
    (h : ∀ A c w1, 1 ≤ c → d.C w1 A 1 [x] → Below W.heap.size W w1 → wpList P ops Q rest (a.put o.dst (.slice A 1 c)) w1) : wpList P ops Q (o :: rest) a W := by
  refine Kd.N_lit d (w0 := W) W.heap.size e hgd hd (xs := [x]) (ok := fun _ => True) (okp := fun k => k < W.heap.size) hrun hrep (fun _ _ => trivial) trivial (Below.refl _ _) (Nat.le_refl _) (by simp) ?_
  intro v w1 hn hb _ _
  obtain ⟨A, c, rfl⟩ := Kd.N_slice hn
  obtain ⟨_, h2, h3⟩ := Kd.N_reads' hn
  exact h A c w1 h2 h3 hb
end
structure RB (W : World) (gb : Nat) (Ak : Option Addr) (ck : Nat) (Ar : Option Addr) (cr : Nat) (f t : List Rg) : Prop where
  blk : W.heap[gb]? = some (.cells #[.bool false, .slice none 0 0, .slice Ak 1 ck, .slice none 0 0, .bool false, .slice Ar 1 cr, .int .i64 1] 25 (0, 0))
  key : Kd.C (Kd.slice 68 k68) W Ak 1 [f]
  kc : 1 ≤ ck
  res : Kd.C k43 W Ar 1 [(⟨3, 0, 0, t⟩ : S43)]
  rc : 1 ≤ cr
theorem RB.below {W W' : World} {gb : Nat} {Ak : Option Addr} {ck : Nat} {Ar : Option Addr} {cr : Nat} {f t : List Rg} (h : RB W gb Ak ck Ar cr f t) (hb : Below W.heap.size W W') : RB W' gb Ak ck Ar cr f t :=
  ⟨blk_below h.blk hb, Kd.C_below h.key hb, h.kc, Kd.C_below h.res hb, h.rc⟩
theorem RB.cells {W : World} {gb : Nat} {Ak : Option Addr} {ck : Nat} {Ar : Option Addr} {cr : Nat} {f t : List Rg} (h : RB W gb Ak ck Ar cr f t) :
    W.cell? ⟨gb, 0, none⟩ = some (.bool false) ∧ W.cell? ⟨gb, 1, none⟩ = some (.slice none 0 0) ∧ W.cell? ⟨gb, 2, none⟩ = some (.slice Ak 1 ck) ∧ W.cell? ⟨gb, 3, none⟩ = some (.slice none 0 0) ∧ W.cell? ⟨gb, 4, none⟩ = some (.bool false) ∧ W.cell? ⟨gb, 5, none⟩ = some (.slice Ar 1 cr) ∧ W.cell? ⟨gb, 6, none⟩ = some (.int .i64 1) :=
  ⟨(blk_cell h.blk 0).trans rfl, (blk_cell h.blk 1).trans rfl, (blk_cell h.blk 2).trans rfl, (blk_cell h.blk 3).trans rfl, (blk_cell h.blk 4).trans rfl, (blk_cell h.blk 5).trans rfl, (blk_cell h.blk 6).trans rfl⟩
def set7 (W : World) (gb : Nat) (v2 v5 : Value) : World := (((((((W.setCell ⟨gb, 0, none⟩ (.bool false)).setCell ⟨gb, 1, none⟩ (.slice none 0 0)).setCell ⟨gb, 2, none⟩ v2).setCell ⟨gb, 3, none⟩ (.slice none 0 0)).setCell ⟨gb, 4, none⟩ (.bool false)).setCell ⟨gb, 5, none⟩ v5).setCell ⟨gb, 6, none⟩ (.int .i64 1))
theorem set7_blk {W : World} {gb : Nat} (h : W.heap[gb]? = some (.cells #[.bool false, .slice none 0 0, .slice none 0 0, .slice none 0 0, .bool false, .slice none 0 0, .int .i64 0] 25 (0, 0))) (v2 v5 : Value) :
    (set7 W gb v2 v5).heap[gb]? = some (.cells #[.bool false, .slice none 0 0, v2, .slice none 0 0, .bool false, v5, .int .i64 1] 25 (0, 0)) := by
  unfold set7
  refine blk_put (cs := #[.bool false, .slice none 0 0, v2, .slice none 0 0, .bool false, v5, .int .i64 0]) ?_ 6 _ rfl
  refine blk_put (cs := #[.bool false, .slice none 0 0, v2, .slice none 0 0, .bool false, .slice none 0 0, .int .i64 0]) ?_ 5 _ rfl
  refine blk_put (cs := #[.bool false, .slice none 0 0, v2, .slice none 0 0, .bool false, .slice none 0 0, .int .i64 0]) ?_ 4 _ rfl
  refine blk_put (cs := #[.bool false, .slice none 0 0, v2, .slice none 0 0, .bool false, .slice none 0 0, .int .i64 0]) ?_ 3 _ rfl
  refine blk_put (cs := #[.bool false, .slice none 0 0, .slice none 0 0, .slice none 0 0, .bool false, .slice none 0 0, .int .i64 0]) ?_ 2 _ rfl
  refine blk_put (cs := #[.bool false, .slice none 0 0, .slice none 0 0, .slice none 0 0, .bool false, .slice none 0 0, .int .i64 0]) ?_ 1 _ rfl
  exact blk_put (cs := #[.bool false, .slice none 0 0, .slice none 0 0, .slice none 0 0, .bool false, .slice none 0 0, .int .i64 0]) h 0 _ rfl
theorem set7_below {B : Nat} {w0 W : World} {gb : Nat} (h : Below B w0 W) (hg : B ≤ gb) (v2 v5 : Value) : Below B w0 (set7 W gb v2 v5) :=
  ((((((h.setCell (p := ⟨gb, 0, none⟩) hg _).setCell (p := ⟨gb, 1, none⟩) hg _).setCell (p := ⟨gb, 2, none⟩) hg _).setCell (p := ⟨gb, 3, none⟩) hg _).setCell (p := ⟨gb, 4, none⟩) hg _).setCell (p := ⟨gb, 5, none⟩) hg _).setCell (p := ⟨gb, 6, none⟩) hg _
theorem nilC {α : Type} (d : Kd α) (w : World) : Kd.C d w none 0 [] := Kd.C_nil d w
theorem V_of {w : World} {A : Option Addr} {c : Nat} {l : List (List Rg)} (h : Kd.C (Kd.slice 68 k68) w A l.length l) (hc : l.length ≤ c) : Kd.V (Kd.slice 68 k68) 41 w w.heap.size (fun k => k < w.heap.size) (.slice A l.length c) l :=
  Kd.V_mk hc (Kd.C_F (Kd.heap_slice 68 k68_heap) h)
theorem check_box (k : Nat) {w : World} {gb : Nat} {Ak : Option Addr} {ck : Nat} {Ar : Option Addr} {cr : Nat} {f t : List Rg} (h : RB w gb Ak ck Ar cr f t) {r : Int} (hr : rule_Check.f k false [] [f] [] false [(⟨3, 0, 0, t⟩ : S43)] 1 = some r) :
    Calls Try.prog 18 #[.agg #[.bool false, .slice none 0 0, .slice Ak 1 ck, .slice none 0 0, .bool false, .slice Ar 1 cr, .int .i64 1]] w fun e w' => e = .returned (.int .i64 r) ∧ Below w.heap.size w w' :=
  rule_Check.calls k false (fun k => k < w.heap.size) none 0 [] (fun k => k < w.heap.size) Ak ck [f] (fun k => k < w.heap.size) none 0 [] false Ar cr [(⟨3, 0, 0, t⟩ : S43)] 1 r w (V_of (nilC _ w) (Nat.le_refl _)) (V_of h.key h.kc) (V_of (nilC _ w) (Nat.le_refl _)) h.res h.rc hr
theorem lays_box (k : Nat) {w : World} {gb : Nat} {Ak : Option Addr} {ck : Nat} {Ar : Option Addr} {cr : Nat} {f t : List Rg} (h : RB w gb Ak ck Ar cr f t) {Ax : Option Addr} {cx : Nat} {xs : List Int} (hx : Kd.C (Kd.int .i64) w Ax xs.length xs) (hcx : xs.length ≤ cx) {r1 r2 : List Int} (hr : rule_Lays.f k false [] [f] [] false [(⟨3, 0, 0, t⟩ : S43)] 1 xs = some (r1, r2)) :
    Calls Try.prog 17 #[.agg #[.bool false, .slice none 0 0, .slice Ak 1 ck, .slice none 0 0, .bool false, .slice Ar 1 cr, .int .i64 1], .slice Ax xs.length cx] w fun e w' => ∃ A1 c1 A2 c2, e = .returned (.tuple #[.slice A1 r1.length c1, .slice A2 r2.length c2]) ∧ r1.length ≤ c1 ∧ Kd.C (Kd.int .i64) w' A1 r1.length r1 ∧ Below w.heap.size w w' := by
  refine (rule_Lays.calls k false none 0 [] Ak ck [f] none 0 [] false Ar cr [(⟨3, 0, 0, t⟩ : S43)] 1 Ax cx xs r1 r2 w (nilC _ w) (Nat.le_refl _) h.key h.kc (nilC _ w) (Nat.le_refl _) h.res h.rc hx hcx hr).mono ?_
  rintro e w' ⟨v0, v1, rfl, h0, h1, hb⟩
  obtain ⟨A1, c1, rfl⟩ := Kd.R_slice h0
  obtain ⟨A2, c2, rfl⟩ := Kd.R_slice h1
  exact ⟨A1, c1, A2, c2, rfl, (Kd.R_reads' h0).2.1, (Kd.R_reads' h0).2.2, hb⟩
theorem lays_box1 (k : Nat) {w : World} {gb : Nat} {Ak : Option Addr} {ck : Nat} {Ar : Option Addr} {cr : Nat} {f t : List Rg} (h : RB w gb Ak ck Ar cr f t) {Ax : Option Addr} {cx : Nat} {u : Int} (hx : Kd.C (Kd.int .i64) w Ax 1 [u]) (hcx : 1 ≤ cx) {r1 r2 : List Int} (hr : rule_Lays.f k false [] [f] [] false [(⟨3, 0, 0, t⟩ : S43)] 1 [u] = some (r1, r2)) :
    Calls Try.prog 17 #[.agg #[.bool false, .slice none 0 0, .slice Ak 1 ck, .slice none 0 0, .bool false, .slice Ar 1 cr, .int .i64 1], .slice Ax 1 cx] w fun e w' => ∃ A1 c1 A2 c2, e = .returned (.tuple #[.slice A1 r1.length c1, .slice A2 r2.length c2]) ∧ r1.length ≤ c1 ∧ Kd.C (Kd.int .i64) w' A1 r1.length r1 ∧ Below w.heap.size w w' :=
  lays_box k h (xs := [u]) hx hcx hr
theorem numbers1_is (u : Int) : respelllaw07_numbers.f 2 [u] [u] = some true := by
  simp [respelllaw07_numbers.f, respelllaw07_numbers.l0, wrap64]
theorem numbers1 (A0 : Option Addr) (c0 : Nat) (A1 : Option Addr) (c1 : Nat) (u : Int) (w : World) (h0 : Kd.C (Kd.int .i64) w A0 1 [u]) (hc0 : 1 ≤ c0) (h1 : Kd.C (Kd.int .i64) w A1 1 [u]) (hc1 : 1 ≤ c1) :
    Calls Try.prog 23 #[.slice A0 1 c0, .slice A1 1 c1] w fun e w' => e = .returned (.bool true) ∧ Drawn0 w w' :=
  respelllaw07_numbers.calls 2 A0 c0 [u] A1 c1 [u] true w h0 hc0 h1 hc1 (numbers1_is u)
end Go.Proofs.Ytonljejhlphgpaa

