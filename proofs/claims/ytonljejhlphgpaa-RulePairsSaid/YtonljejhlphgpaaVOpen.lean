-- Slimmed by slim.py from the text of this name without 'V'.
import Derived.Test.YtonljejhlphgpaaVG0
import Derived.ProofKit
import Derived.OpenShut
import Derived.Deep.Slices
import Derived.DataReads
import Derived.DataElems
set_option linter.unusedVariables false
set_option linter.unusedSimpArgs false
namespace Go.Proofs.Ytonljejhlphgpaa
open Go.RowKit Go.Deep Go.Proofs.Ytonljejhlphgpaa.G Go.Proofs.YtonljejhlphgpaaW.PrintWords
structure Opens {α : Type} (P : Program) (d : Kd α) (G : α → Prop) (t : TypeId) : Prop where
  run : ∀ {H : Type} {enc : TypeId × Value → H} {w : World} {sp : Nat → Bool} {held : Bool} {fuel : Nat} {cs : List Value} {x : DataW H × List MemPlace}, DataW.trod enc P w 0 sp held fuel t cs = some x → ∃ a, d.K w a cs ∧ G a
  cells : P.cellsOf t = d.sz
theorem Opens.int {P : Program} {t : TypeId} {k : IntKind} (h : P.underlying t = some (.int k)) (hc : P.cellsOf t = 1) : Opens P (Kd.int k) (fun n => (Lit.int k n).wf = true) t :=
  ⟨fun hx => by obtain ⟨n, rfl, _, hw⟩ := DataW.trod_int h hx; exact ⟨n, rfl, hw⟩, hc⟩
theorem Opens.bool {P : Program} {t : TypeId} (h : P.underlying t = some .bool) (hc : P.cellsOf t = 1) : Opens P Kd.bool (fun _ => True) t :=
  ⟨fun hx => by obtain ⟨b, rfl, _⟩ := DataW.trod_bool h hx; exact ⟨b, rfl, trivial⟩, hc⟩
theorem list_of {α : Type} (R : Nat → α → Prop) (n : Nat) (h : ∀ i, i < n → ∃ a, R i a) : ∃ l : List α, l.length = n ∧ ∀ i a, l[i]? = some a → R i a := by
  induction n with
  | zero => exact ⟨[], rfl, fun i a h => by simp at h⟩
  | succ n ih =>
    obtain ⟨l, hl, hR⟩ := ih fun i hi => h i (by omega)
    obtain ⟨a, ha⟩ := h n (by omega)
    refine ⟨l ++ [a], by simp [hl], fun i b hb => ?_⟩
    rcases Nat.lt_or_ge i n with hi | hi
    · rw [List.getElem?_append_left (by omega)] at hb
      exact hR i b hb
    · have hlt := (List.getElem?_eq_some_iff.1 hb).1
      rw [List.length_append, List.length_singleton] at hlt
      obtain rfl : i = n := by omega
      rw [List.getElem?_append_right (by omega), hl, Nat.sub_self] at hb
      simp at hb
      subst hb
      exact ha
theorem Opens.slice {α : Type} {P : Program} {d : Kd α} {G : α → Prop} {t e : TypeId} (h : P.underlying t = some (.slice e)) (hc : P.cellsOf t = 1) (he : Opens P d G e) : Opens P (Kd.slice e d) (fun l => ∀ a ∈ l, G a) t := by
  refine ⟨fun hx => ?_, hc⟩
  rename_i H enc w sp held fuel cs x
  rcases open_slice h hx with ⟨rfl, _⟩ | ⟨a, len, cap, m, n, D, Pl, rfl, _, hl, hm, hm', _, hel⟩
  · exact ⟨[], ⟨none, 0, rfl, Nat.le_refl _, rfl, Nat.zero_le _, fun h => absurd h (Nat.lt_irrefl 0)⟩, fun a ha => by simp at ha⟩
  · have hlm : len ≤ m := by rw [hm']; split <;> omega
    obtain ⟨l, hll, hR⟩ := list_of (fun i (b : α) => G b ∧ ∃ cs', cs'.length = d.sz ∧ d.K w b cs' ∧ ∀ j u, cs'[j]? = some u → w.cell? (a.add (i * d.sz + j)) = some u) len (fun i hi => by
      obtain ⟨cs', h1, h2⟩ := hel i (by omega)
      obtain ⟨b, hb, hg⟩ := he.run h2
      rw [he.cells] at h1
      obtain ⟨_, hlen, hcell⟩ := World.cells?_some h1
      refine ⟨b, hg, cs', hlen, hb, fun j u hj => ?_⟩
      have hjl := (List.getElem?_eq_some_iff.1 hj).1
      have := hcell j (by omega)
      rw [Addr.add_add] at this
      rw [this, hj])
    refine ⟨l, ⟨some a, cap, by rw [hll], by omega, rfl, by rw [hll]; have : maxLen = 9223372036854775807 := rfl; omega, fun _ => ⟨a, rfl, fun j p hj => ?_⟩⟩, fun b hb => ?_⟩
    · obtain ⟨_, cs', h1, h2, h3⟩ := hR j p hj
      exact ⟨cs', h1, h2, h3⟩
    · obtain ⟨i, hi⟩ := List.getElem?_of_mem hb
      exact (hR i b hi).1
theorem fields_of {H : Type} {enc : TypeId × Value → H} {P : Program} {w : World} {sp : Nat → Bool} {held : Bool} {fuel : Nat} {t : TypeId} {fs : Array Field} {cs : List Value} {x : DataW H × List MemPlace} (ht : P.underlying t = some (.struct fs)) (hx : DataW.trod enc P w 0 sp held fuel t cs = some x) :
    cs.length = P.cellsOf t ∧ ∀ (i : Nat) (f : Field), fs[i]? = some f → ∃ n y, DataW.trod enc P w 0 sp held n f.type ((cs.drop f.offset).take (P.cellsOf f.type)) = some y := by
  obtain ⟨xs, n, _, _, hlen, hn, hf⟩ := DataW.trod_struct ht hx
  refine ⟨hlen, fun i f hi => ?_⟩
  have h1 := hf i f hi
  have hlt : i < xs.length := by rw [hn]; exact (Array.getElem?_eq_some_iff.1 hi).1
  rw [List.getElem?_eq_getElem hlt] at h1
  exact ⟨n, _, h1⟩
end Go.Proofs.Ytonljejhlphgpaa

