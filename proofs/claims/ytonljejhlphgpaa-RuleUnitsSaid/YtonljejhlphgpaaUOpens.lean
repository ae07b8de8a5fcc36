-- Slimmed by slim.py from the text of this name without 'U'.
import Derived.Test.YtonljejhlphgpaaUOpen
set_option linter.unusedVariables false
set_option linter.unusedSimpArgs false
set_option maxRecDepth 20000
namespace Go.Proofs.Ytonljejhlphgpaa
open Go.RowKit Go.Deep Go.Proofs.Ytonljejhlphgpaa.G Go.Proofs.YtonljejhlphgpaaW.PrintWords
def WfI (n : Int) : Prop := (Lit.int .i64 n).wf = true
theorem c3 : Try.prog.cellsOf 3 = 1 := by kernel_rfl
theorem c4 : Try.prog.cellsOf 4 = 1 := by kernel_rfl
theorem cSet : Try.prog.cellsOf 41 = 1 := by kernel_rfl
theorem cSets : Try.prog.cellsOf 22 = 1 := by kernel_rfl
theorem cPieces : Try.prog.cellsOf 23 = 1 := by kernel_rfl
theorem opens_int : Opens Try.prog (Kd.int .i64) WfI 3 := Opens.int Try.underlying3 c3
theorem opens_bool : Opens Try.prog Kd.bool (fun _ => True) 4 := Opens.bool Try.underlying4 c4
def GRange (x : S68) : Prop := WfI x.f0 ∧ WfI x.f1
theorem opens_Range : Opens Try.prog k68 GRange 68 := by
  refine ⟨fun hx => ?_, by kernel_rfl⟩
  obtain ⟨hlen, hf⟩ := fields_of Try.underlying68 hx
  obtain ⟨n0, y0, h0⟩ := hf 0 ⟨_, _, _, _, _, _, _⟩ rfl
  obtain ⟨n1, y1, h1⟩ := hf 1 ⟨_, _, _, _, _, _, _⟩ rfl
  dsimp only at h0 h1
  rw [c3] at h0 h1
  obtain ⟨a0, e0, w0⟩ := opens_int.run h0
  obtain ⟨a1, e1, w1⟩ := opens_int.run h1
  have hlen2 : _ = 2 := hlen.trans (show Try.prog.cellsOf 68 = 2 by kernel_rfl)
  rename_i cs x
  match cs, hlen2, e0, e1 with
  | [u0, u1], _, e0, e1 =>
    have e0' : [u0] = [Value.int .i64 a0] := e0
    have e1' : [u1] = [Value.int .i64 a1] := e1
    simp only [List.cons.injEq, and_true] at e0' e1'
    subst e0' e1'
    exact ⟨⟨a0, a1⟩, k68_mk _ ⟨a0, a1⟩, w0, w1⟩
theorem opens_Set : Opens Try.prog (Kd.slice 68 k68) (fun l => ∀ x ∈ l, GRange x) 41 := Opens.slice Try.underlying41 (by kernel_rfl) opens_Range
theorem opens_Sets : Opens Try.prog (Kd.slice 41 (Kd.slice 68 k68)) (fun l => ∀ s ∈ l, ∀ x ∈ s, GRange x) 22 := Opens.slice Try.underlying22 (by kernel_rfl) opens_Set
theorem opens_ints : Opens Try.prog (Kd.slice 3 (Kd.int .i64)) (fun l => ∀ x ∈ l, WfI x) 26 := Opens.slice Try.underlying26 (by kernel_rfl) opens_int
def GPiece (x : S43) : Prop := WfI x.f0 ∧ WfI x.f1 ∧ WfI x.f2 ∧ ∀ r ∈ x.f3, GRange r
theorem opens_Piece : Opens Try.prog k43 GPiece 43 := by
  refine ⟨fun hx => ?_, by kernel_rfl⟩
  obtain ⟨hlen, hf⟩ := fields_of Try.underlying43 hx
  obtain ⟨n0, y0, h0⟩ := hf 0 ⟨_, _, _, _, _, _, _⟩ rfl
  obtain ⟨n1, y1, h1⟩ := hf 1 ⟨_, _, _, _, _, _, _⟩ rfl
  obtain ⟨n2, y2, h2⟩ := hf 2 ⟨_, _, _, _, _, _, _⟩ rfl
  obtain ⟨n3, y3, h3⟩ := hf 3 ⟨_, _, _, _, _, _, _⟩ rfl
  dsimp only at h0 h1 h2 h3
  rw [c3] at h0 h1 h2
  rw [cSet] at h3
  obtain ⟨a0, e0, w0⟩ := opens_int.run h0
  obtain ⟨a1, e1, w1⟩ := opens_int.run h1
  obtain ⟨a2, e2, w2⟩ := opens_int.run h2
  obtain ⟨a3, e3, w3⟩ := opens_Set.run h3
  have hlen2 : _ = 4 := hlen.trans (show Try.prog.cellsOf 43 = 4 by kernel_rfl)
  rename_i cs x
  match cs, hlen2, e0, e1, e2, e3 with
  | [u0, u1, u2, u3], _, e0, e1, e2, e3 =>
    have e0' : [u0] = [Value.int .i64 a0] := e0
    have e1' : [u1] = [Value.int .i64 a1] := e1
    have e2' : [u2] = [Value.int .i64 a2] := e2
    obtain ⟨A, c, e3', hc, hC⟩ := e3
    have e3'' : [u3] = [Value.slice A a3.length c] := e3'
    simp only [List.cons.injEq, and_true] at e0' e1' e2' e3''
    subst e0' e1' e2' e3''
    exact ⟨⟨a0, a1, a2, a3⟩, k43_mk _ ⟨a0, a1, a2, a3⟩ hc hC, w0, w1, w2, w3⟩
theorem opens_Pieces : Opens Try.prog (Kd.slice 43 k43) (fun l => ∀ x ∈ l, GPiece x) 23 := Opens.slice Try.underlying23 (by kernel_rfl) opens_Piece
def GRule (x : S25) : Prop := (∀ s ∈ x.f1, ∀ r ∈ s, GRange r) ∧ (∀ s ∈ x.f2, ∀ r ∈ s, GRange r) ∧ (∀ s ∈ x.f3, ∀ r ∈ s, GRange r) ∧ (∀ p ∈ x.f5, GPiece p) ∧ WfI x.f6
theorem rule_cells {H : Type} {enc : TypeId × Value → H} {w : World} {sp : Nat → Bool} {held : Bool} {fuel : Nat} {cs : List Value} {x : DataW H × List MemPlace} (hx : DataW.trod enc Try.prog w 0 sp held fuel 25 cs = some x) :
    ∃ (b : Bool) (A1 : Option Addr) (c1 : Nat) (l1 : List (List S68)) (A2 : Option Addr) (c2 : Nat) (l2 : List (List S68)) (A3 : Option Addr) (c3 : Nat) (l3 : List (List S68)) (e : Bool) (A5 : Option Addr) (c5 : Nat) (l5 : List S43) (cur : Int),
      cs = [.bool b, .slice A1 l1.length c1, .slice A2 l2.length c2, .slice A3 l3.length c3, .bool e, .slice A5 l5.length c5, .int .i64 cur] ∧
      Kd.C (Kd.slice 68 k68) w A1 l1.length l1 ∧ l1.length ≤ c1 ∧ Kd.C (Kd.slice 68 k68) w A2 l2.length l2 ∧ l2.length ≤ c2 ∧ Kd.C (Kd.slice 68 k68) w A3 l3.length l3 ∧ l3.length ≤ c3 ∧ Kd.C k43 w A5 l5.length l5 ∧ l5.length ≤ c5 ∧ GRule ⟨b, l1, l2, l3, e, l5, cur⟩ := by
  obtain ⟨hlen, hf⟩ := fields_of Try.underlying25 hx
  obtain ⟨n0, y0, h0⟩ := hf 0 ⟨_, _, _, _, _, _, _⟩ rfl
  obtain ⟨n1, y1, h1⟩ := hf 1 ⟨_, _, _, _, _, _, _⟩ rfl
  obtain ⟨n2, y2, h2⟩ := hf 2 ⟨_, _, _, _, _, _, _⟩ rfl
  obtain ⟨n3, y3, h3⟩ := hf 3 ⟨_, _, _, _, _, _, _⟩ rfl
  obtain ⟨n4, y4, h4⟩ := hf 4 ⟨_, _, _, _, _, _, _⟩ rfl
  obtain ⟨n5, y5, h5⟩ := hf 5 ⟨_, _, _, _, _, _, _⟩ rfl
  obtain ⟨n6, y6, h6⟩ := hf 6 ⟨_, _, _, _, _, _, _⟩ rfl
  dsimp only at h0 h1 h2 h3 h4 h5 h6
  rw [c4] at h0 h4
  rw [cSets] at h1 h2 h3
  rw [cPieces] at h5
  rw [c3] at h6
  obtain ⟨a0, e0, _⟩ := opens_bool.run h0
  obtain ⟨a1, ⟨A1, q1, e1, k1, g1⟩, w1⟩ := opens_Sets.run h1
  obtain ⟨a2, ⟨A2, q2, e2, k2, g2⟩, w2⟩ := opens_Sets.run h2
  obtain ⟨a3, ⟨A3, q3, e3, k3, g3⟩, w3⟩ := opens_Sets.run h3
  obtain ⟨a4, e4, _⟩ := opens_bool.run h4
  obtain ⟨a5, ⟨A5, q5, e5, k5, g5⟩, w5⟩ := opens_Pieces.run h5
  obtain ⟨a6, e6, w6⟩ := opens_int.run h6
  have hlen2 : cs.length = 7 := hlen.trans (show Try.prog.cellsOf 25 = 7 by kernel_rfl)
  match cs, hlen2, e0, e1, e2, e3, e4, e5, e6 with
  | [u0, u1, u2, u3, u4, u5, u6], _, e0, e1, e2, e3, e4, e5, e6 =>
    have e0' : [u0] = [Value.bool a0] := e0
    have e1' : [u1] = _ := e1
    have e2' : [u2] = _ := e2
    have e3' : [u3] = _ := e3
    have e4' : [u4] = [Value.bool a4] := e4
    have e5' : [u5] = _ := e5
    have e6' : [u6] = [Value.int .i64 a6] := e6
    simp only [List.cons.injEq, and_true] at e0' e1' e2' e3' e4' e5' e6'
    subst e0' e1' e2' e3' e4' e5' e6'
    exact ⟨a0, A1, q1, a1, A2, q2, a2, A3, q3, a3, a4, A5, q5, a5, a6, rfl, g1, k1, g2, k2, g3, k3, g5, k5, w1, w2, w3, w5, w6⟩
end Go.Proofs.Ytonljejhlphgpaa

