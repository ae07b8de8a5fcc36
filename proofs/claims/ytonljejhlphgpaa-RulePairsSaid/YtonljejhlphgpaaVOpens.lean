-- Slimmed by slim.py from the text of this name without 'V'.
import Derived.Test.YtonljejhlphgpaaVOpen
set_option linter.unusedVariables false
set_option linter.unusedSimpArgs false
set_option maxRecDepth 20000
namespace Go.Proofs.Ytonljejhlphgpaa
open Go.RowKit Go.Deep Go.Proofs.Ytonljejhlphgpaa.G Go.Proofs.YtonljejhlphgpaaW.PrintWords
def WfI (n : Int) : Prop := (Lit.int .i64 n).wf = true
theorem c3 : Try.prog.cellsOf 3 = 1 := by kernel_rfl
theorem c4 : Try.prog.cellsOf 4 = 1 := by kernel_rfl
theorem opens_int : Opens Try.prog (Kd.int .i64) WfI 3 := Opens.int Try.underlying3 c3
def GRange (x : S68) : Prop := WfI x.f0 ∧ WfI x.f1
theorem opens_Range : Opens Try.prog k68 GRange 68 := by
  refine ⟨fun hx => ?_, by kernel_rfl⟩
  obtain ⟨hlen, hf⟩ := fields_of Try.underlying68 hx
  obtain ⟨n0, y0, h0⟩ := hf 0 ⟨_, _, _, _, _, _, _⟩ rfl
  obtain ⟨n1, y1, h1⟩ := hf 1 ⟨_, _, _, _, _, _, _⟩ rfl
  dsimp only at h0 h1
  rw [c3] at h0 h1
  obtain ⟨a0, e0, w0⟩ := opens_int.run h0
  obtain ⟨a1, e1, w1⟩ := opens_int.run h1
  have hlen2 : _ = 2 := hlen.trans (show Try.prog.cellsOf 68 = 2 by kernel_rfl)
  rename_i cs x
  match cs, hlen2, e0, e1 with
  | [u0, u1], _, e0, e1 =>
    have e0' : [u0] = [Value.int .i64 a0] := e0
    have e1' : [u1] = [Value.int .i64 a1] := e1
    simp only [List.cons.injEq, and_true] at e0' e1'
    subst e0' e1'
    exact ⟨⟨a0, a1⟩, k68_mk _ ⟨a0, a1⟩, w0, w1⟩
theorem opens_Set : Opens Try.prog (Kd.slice 68 k68) (fun l => ∀ x ∈ l, GRange x) 41 := Opens.slice Try.underlying41 (by kernel_rfl) opens_Range
end Go.Proofs.Ytonljejhlphgpaa

