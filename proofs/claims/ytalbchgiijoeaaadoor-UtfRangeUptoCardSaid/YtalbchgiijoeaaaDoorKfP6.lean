-- Slimmed by slim.py from the text of this name without 'Kf'.
import Derived.Test.YtalbchgiijoeaaaDoorKfP4
namespace Go.Proofs.YtalbchgiijoeaaaDoor
open Go.RowKit Go.Lib
set_option linter.unusedVariables false
set_option linter.unusedSimpArgs false
def uF (s : ByteArray) : Nat → Nat → List (Nat × Nat)
  | 0, _ => []
  | f + 1, i => if i < s.size then (i, dU s i) :: uF s f (i + dW s i) else []
def units (s : ByteArray) : List (Nat × Nat) := uF s s.size 0
theorem uF_len (s : ByteArray) : ∀ f i, (uF s f i).length ≤ s.size - i := by
  intro f
  induction f with
  | zero => intro i; simp [uF]
  | succ f ih =>
    intro i
    simp only [uF]
    by_cases c : i < s.size
    · have hw := dW_le c
      rw [if_pos c, List.length_cons]
      have := ih (i + dW s i)
      omega
    · rw [if_neg c]; simp
theorem uF_more (s : ByteArray) : ∀ f g i, s.size - i ≤ f → s.size - i ≤ g → uF s f i = uF s g i := by
  intro f
  induction f with
  | zero =>
    intro g i h1 h2
    cases g with
    | zero => rfl
    | succ g => simp only [uF]; rw [if_neg (by omega)]
  | succ f ih =>
    intro g i h1 h2
    simp only [uF]
    by_cases c : i < s.size
    · have hw := dW_le c
      rw [if_pos c]
      cases g with
      | zero => omega
      | succ g => simp only [uF]; rw [if_pos c, ih g _ (by omega) (by omega)]
    · rw [if_neg c]
      cases g with
      | zero => rfl
      | succ g => simp only [uF]; rw [if_neg c]
theorem uF_cons (s : ByteArray) (f i : Nat) (h : i < s.size) (hf : s.size - i ≤ f) : uF s f i = (i, dU s i) :: uF s f (i + dW s i) := by
  have hw := dW_le h
  cases f with
  | zero => omega
  | succ f =>
    conv => lhs; unfold uF
    rw [if_pos h, uF_more s f (f + 1) _ (by omega) (by omega)]
theorem uF_nil (s : ByteArray) (f i : Nat) (h : s.size ≤ i) : uF s f i = [] := by
  cases f with
  | zero => rfl
  | succ f => unfold uF; rw [if_neg (by omega)]
end Go.Proofs.YtalbchgiijoeaaaDoor

