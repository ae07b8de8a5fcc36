-- Slimmed by slim.py from the text of this name without 'Kh'.
import Derived.Test.YtalbchgiijoeaaaDoorRows
import Derived.Test.YtalbchgiijoeaaaDoorKhWWords
import Derived.ChangeSlices
import Derived.ProofKit
namespace Go.Proofs.YtalbchgiijoeaaaDoor
open Go.ChangeShapes Go.WideShapes Go.ChangeAt Go.RowKit Go.Proofs.YtalbchgiijoeaaaDoorW.PrintWords
set_option linter.unusedVariables false
theorem bulk_len {H : Type} (l : List (DataW H)) : l.length ≤ Rows.uptoBulkAll l := by
  induction l with
  | nil => simp [Rows.uptoBulkAll]
  | cons x r ih =>
    have : 1 ≤ Rows.uptoBulk x := by
      cases x with
      | lit l => cases l <;> simp [Rows.uptoBulk]
      | nil => simp [Rows.uptoBulk]
      | ptr d => simp [Rows.uptoBulk]
      | slice elems spare => simp [Rows.uptoBulk]
      | agg parts => simp [Rows.uptoBulk]
      | iface t d => simp [Rows.uptoBulk]
      | map entries => simp [Rows.uptoBulk]
      | held h => simp [Rows.uptoBulk]
    simp only [Rows.uptoBulkAll, List.length_cons]
    omega
theorem ints_read {H : Type} {enc : TypeId × Value → H} {P : Program} {W : World} {base : Nat} {spare : Nat → Bool} {held : Bool} {t e : TypeId} {a : Option Addr} {len cap : Nat} {d : DataW H} {ps : List MemPlace}
    (hu : P.underlying t = some (.slice e)) (he : P.underlying e = some (.int .i64)) (hc : P.cellsOf e = 1) (h : DataW.Trod enc P W base spare held t (.slice a len cap) d ps) :
    ∃ l : List Int, len = l.length ∧ Kd.C (Kd.int .i64) W a l.length l ∧ l.length ≤ cap ∧ l.length + 1 ≤ Rows.uptoBulk d ∧ ∀ n ∈ l, (Lit.int .i64 n).wf = true := by
  obtain ⟨fuel, hf⟩ := h
  rcases open_ints hu he hc hf with ⟨hcs, hd⟩ | ⟨x, l, c, zs, hcs, hd, hl, hm, hz, hx, hcell, hwz⟩
  · simp [Value.cells] at hcs
    obtain ⟨rfl, rfl, rfl⟩ := hcs
    refine ⟨[], rfl, Kd.C_nil _ _, Nat.le_refl _, ?_, fun n hn => by cases hn⟩
    obtain ⟨rfl, _⟩ := Prod.mk.inj hd
    simp [Rows.uptoBulk]
  · simp [Value.cells] at hcs
    obtain ⟨rfl, rfl, rfl⟩ := hcs
    have hlen : len ≤ zs.length := by rw [hz]; split; exact hl; exact Nat.le_refl _
    have htl : (zs.take len).length = len := by rw [List.length_take]; omega
    refine ⟨zs.take len, htl.symm, ⟨rfl, by rw [htl]; unfold maxLen at hm; omega, fun _ => ⟨x, rfl, fun j p hj => ?_⟩⟩, by rw [htl]; exact hl, ?_, fun n hn => hwz n (List.mem_of_mem_take hn)⟩
    · obtain ⟨hjl, hjp⟩ := List.getElem?_eq_some_iff.1 hj
      have hjz : j < zs.length := by omega
      refine ⟨[.int .i64 p], rfl, rfl, fun i u hi => ?_⟩
      have hi0 : i = 0 := by
        obtain ⟨h, _⟩ := List.getElem?_eq_some_iff.1 hi
        simp at h
        exact h
      subst hi0
      obtain rfl : Value.int .i64 p = u := Option.some.inj hi
      have := hcell j hjz
      rw [List.getElem_take] at hjp
      rw [List.getD_eq_getElem?_getD, List.getElem?_eq_getElem hjz, Option.getD_some, hjp] at this
      simpa [Kd.int, Kd.scalar] using this
    · obtain ⟨rfl, _⟩ := Prod.mk.inj hx
      have := bulk_len (lits (H := H) .i64 (zs.take len))
      have h2 : (lits (H := H) .i64 (zs.take len)).length = (zs.take len).length := by simp [lits]
      simp only [Rows.uptoBulk]
      omega
end Go.Proofs.YtalbchgiijoeaaaDoor

