-- Slimmed by slim.py from the text of this name without 'Ke'.
import Derived.Test.YtalbchgiijoeaaaDoorKeP4
namespace Go.Proofs.YtalbchgiijoeaaaDoor
open Go.RowKit Go.Lib
set_option linter.unusedVariables false
set_option linter.unusedSimpArgs false
inductive Reach (s : ByteArray) : Nat → Nat → Prop where
  | refl (i : Nat) : Reach s i i
  | step {i p : Nat} (h : i < s.size) (r : Reach s (i + dW s i) p) : Reach s i p
theorem Reach.le {s : ByteArray} {i p : Nat} (h : Reach s i p) : i ≤ p := by
  induction h with
  | refl i => exact Nat.le_refl _
  | step h r ih => omega
theorem Reach.snoc {s : ByteArray} {i p : Nat} (h : Reach s i p) (hp : p < s.size) : Reach s i (p + dW s p) := by
  induction h with
  | refl i => exact .step hp (.refl _)
  | step h r ih => exact .step h (ih hp)
theorem Reach.trans {s : ByteArray} {i p q : Nat} (h : Reach s i p) (h2 : Reach s p q) : Reach s i q := by
  induction h with
  | refl i => exact h2
  | step h r ih => exact .step h (ih h2)
theorem Reach.next {s : ByteArray} {i p q : Nat} (h : Reach s i p) (h2 : Reach s i q) (hl : p < q) : Reach s (p + dW s p) q := by
  induction h with
  | refl i =>
    cases h2 with
    | refl => exact absurd hl (Nat.lt_irrefl _)
    | step h r => exact r
  | step h r ih =>
    cases h2 with
    | refl => have := r.le; omega
    | step h' r' => exact ih r' hl
theorem cover (s : ByteArray) (at_ : Nat) (ha : at_ < s.size) : ∀ d i, s.size - i ≤ d → i ≤ at_ → ∃ p, Reach s i p ∧ p ≤ at_ ∧ at_ < p + dW s p := by
  intro d
  induction d with
  | zero => intro i h1 h2; omega
  | succ d ih =>
    intro i h1 h2
    have hw := dW_le (show i < s.size by omega)
    by_cases c : at_ < i + dW s i
    · exact ⟨i, .refl i, h2, c⟩
    · obtain ⟨p, r, h3, h4⟩ := ih (i + dW s i) (by omega) (by omega)
      exact ⟨p, .step (by omega) r, h3, h4⟩
theorem border_iff (s : ByteArray) (a : Nat) (h0 : 0 < a) (h1 : a < s.size) : Reach s 0 a ↔ ∀ f, a ≤ f + 3 → f < a → f + dW s f ≤ a := by
  constructor
  · intro hr f _ hf
    by_cases c : f + dW s f ≤ a
    · exact c
    · exfalso
      obtain ⟨p, rp, h2, h3⟩ := cover s f (by omega) s.size 0 (by omega) (by omega)
      have hn := (rp.next hr (by omega)).le
      by_cases e : p = f
      · subst e; omega
      · have hc := cont_of (s := s) (i := p) (j := f - p) (by omega) (by omega) (by omega)
        rw [show p + (f - p) = f by omega] at hc
        have := (err_of (by omega) (cont_err (by omega) hc)).2.2
        omega
  · intro h
    obtain ⟨p, rp, h2, h3⟩ := cover s a h1 s.size 0 (by omega) (by omega)
    by_cases e : p = a
    · exact e ▸ rp
    · have hw := dW_le (show p < s.size by omega)
      have := h p (by omega) (by omega)
      omega
def uF (s : ByteArray) : Nat → Nat → List (Nat × Nat)
  | 0, _ => []
  | f + 1, i => if i < s.size then (i, dU s i) :: uF s f (i + dW s i) else []
def units (s : ByteArray) : List (Nat × Nat) := uF s s.size 0
theorem uF_len (s : ByteArray) : ∀ f i, (uF s f i).length ≤ s.size - i := by
  intro f
  induction f with
  | zero => intro i; simp [uF]
  | succ f ih =>
    intro i
    simp only [uF]
    by_cases c : i < s.size
    · have hw := dW_le c
      rw [if_pos c, List.length_cons]
      have := ih (i + dW s i)
      omega
    · rw [if_neg c]; simp
theorem uF_more (s : ByteArray) : ∀ f g i, s.size - i ≤ f → s.size - i ≤ g → uF s f i = uF s g i := by
  intro f
  induction f with
  | zero =>
    intro g i h1 h2
    cases g with
    | zero => rfl
    | succ g => simp only [uF]; rw [if_neg (by omega)]
  | succ f ih =>
    intro g i h1 h2
    simp only [uF]
    by_cases c : i < s.size
    · have hw := dW_le c
      rw [if_pos c]
      cases g with
      | zero => omega
      | succ g => simp only [uF]; rw [if_pos c, ih g _ (by omega) (by omega)]
    · rw [if_neg c]
      cases g with
      | zero => rfl
      | succ g => simp only [uF]; rw [if_neg c]
theorem uF_cons (s : ByteArray) (f i : Nat) (h : i < s.size) (hf : s.size - i ≤ f) : uF s f i = (i, dU s i) :: uF s f (i + dW s i) := by
  have hw := dW_le h
  cases f with
  | zero => omega
  | succ f =>
    conv => lhs; unfold uF
    rw [if_pos h, uF_more s f (f + 1) _ (by omega) (by omega)]
theorem uF_nil (s : ByteArray) (f i : Nat) (h : s.size ≤ i) : uF s f i = [] := by
  cases f with
  | zero => rfl
  | succ f => unfold uF; rw [if_neg (by omega)]
end Go.Proofs.YtalbchgiijoeaaaDoor

