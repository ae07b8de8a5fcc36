-- Slimmed by slim.py from the text of this name without 'Kd'.
import Derived.Test.YtalbchgiijoeaaaDoorKdP4
namespace Go.Proofs.YtalbchgiijoeaaaDoor
open Go.RowKit Go.Lib
set_option linter.unusedVariables false
set_option linter.unusedSimpArgs false
inductive Reach (s : ByteArray) : Nat → Nat → Prop where
  | refl (i : Nat) : Reach s i i
  | step {i p : Nat} (h : i < s.size) (r : Reach s (i + dW s i) p) : Reach s i p
theorem Reach.le {s : ByteArray} {i p : Nat} (h : Reach s i p) : i ≤ p := by
  induction h with
  | refl i => exact Nat.le_refl _
  | step h r ih => omega
theorem Reach.snoc {s : ByteArray} {i p : Nat} (h : Reach s i p) (hp : p < s.size) : Reach s i (p + dW s p) := by
  induction h with
  | refl i => exact .step hp (.refl _)
  | step h r ih => exact .step h (ih hp)
theorem Reach.trans {s : ByteArray} {i p q : Nat} (h : Reach s i p) (h2 : Reach s p q) : Reach s i q := by
  induction h with
  | refl i => exact h2
  | step h r ih => exact .step h (ih h2)
theorem Reach.next {s : ByteArray} {i p q : Nat} (h : Reach s i p) (h2 : Reach s i q) (hl : p < q) : Reach s (p + dW s p) q := by
  induction h with
  | refl i =>
    cases h2 with
    | refl => exact absurd hl (Nat.lt_irrefl _)
    | step h r => exact r
  | step h r ih =>
    cases h2 with
    | refl => have := r.le; omega
    | step h' r' => exact ih r' hl
def uF (s : ByteArray) : Nat → Nat → List (Nat × Nat)
  | 0, _ => []
  | f + 1, i => if i < s.size then (i, dU s i) :: uF s f (i + dW s i) else []
def units (s : ByteArray) : List (Nat × Nat) := uF s s.size 0
theorem uF_mem (s : ByteArray) (p u : Nat) : ∀ f i, s.size - i ≤ f → ((p, u) ∈ uF s f i ↔ Reach s i p ∧ p < s.size ∧ u = dU s p) := by
  intro f
  induction f with
  | zero =>
    intro i h
    simp only [uF, List.not_mem_nil, false_iff]
    rintro ⟨r, h1, _⟩
    have := r.le
    omega
  | succ f ih =>
    intro i h
    simp only [uF]
    by_cases c : i < s.size
    · have hw := dW_le c
      rw [if_pos c, List.mem_cons, ih _ (by omega)]
      constructor
      · rintro (e | ⟨r, h1, h2⟩)
        · cases e; exact ⟨.refl _, c, rfl⟩
        · exact ⟨.step c r, h1, h2⟩
      · rintro ⟨r, h1, h2⟩
        cases r with
        | refl => exact .inl (by rw [h2])
        | step h r => exact .inr ⟨r, h1, h2⟩
    · rw [if_neg c]
      simp only [List.not_mem_nil, false_iff]
      rintro ⟨r, h1, _⟩
      have := r.le
      omega
theorem uF_len (s : ByteArray) : ∀ f i, (uF s f i).length ≤ s.size - i := by
  intro f
  induction f with
  | zero => intro i; simp [uF]
  | succ f ih =>
    intro i
    simp only [uF]
    by_cases c : i < s.size
    · have hw := dW_le c
      rw [if_pos c, List.length_cons]
      have := ih (i + dW s i)
      omega
    · rw [if_neg c]; simp
theorem uF_more (s : ByteArray) : ∀ f g i, s.size - i ≤ f → s.size - i ≤ g → uF s f i = uF s g i := by
  intro f
  induction f with
  | zero =>
    intro g i h1 h2
    cases g with
    | zero => rfl
    | succ g => simp only [uF]; rw [if_neg (by omega)]
  | succ f ih =>
    intro g i h1 h2
    simp only [uF]
    by_cases c : i < s.size
    · have hw := dW_le c
      rw [if_pos c]
      cases g with
      | zero => omega
      | succ g => simp only [uF]; rw [if_pos c, ih g _ (by omega) (by omega)]
    · rw [if_neg c]
      cases g with
      | zero => rfl
      | succ g => simp only [uF]; rw [if_neg c]
theorem uF_cons (s : ByteArray) (f i : Nat) (h : i < s.size) (hf : s.size - i ≤ f) : uF s f i = (i, dU s i) :: uF s f (i + dW s i) := by
  have hw := dW_le h
  cases f with
  | zero => omega
  | succ f =>
    conv => lhs; unfold uF
    rw [if_pos h, uF_more s f (f + 1) _ (by omega) (by omega)]
theorem uF_nil (s : ByteArray) (f i : Nat) (h : s.size ≤ i) : uF s f i = [] := by
  cases f with
  | zero => rfl
  | succ f => unfold uF; rw [if_neg (by omega)]
end Go.Proofs.YtalbchgiijoeaaaDoor

