-- Slimmed by slim.py from the text of this name without 'V'.
import Derived.Test.YtonljejhlphgpaaVG0
set_option linter.unusedVariables false
set_option linter.unusedSimpArgs false
namespace Go.Proofs.Ytonljejhlphgpaa
open Go.RowKit Go.Proofs.Ytonljejhlphgpaa.G Go.Proofs.YtonljejhlphgpaaW.PrintWords
abbrev Rg := S68
def rgB (x : Rg) : Bool := (decide (0 ≤ x.f0) && decide (x.f1 ≤ 55295) || decide (57344 ≤ x.f0) && decide (x.f1 ≤ 1114111) || decide (1114240 ≤ x.f0) && decide (x.f1 ≤ 1114367)) && decide (x.f0 ≤ x.f1)
def chainB : Option Int → List Rg → Bool
  | _, [] => true
  | none, x :: l => rgB x && chainB (some x.f1) l
  | some p, x :: l => rgB x && decide (p + 2 ≤ x.f0) && chainB (some x.f1) l
def validB (l : List Rg) : Bool := decide (l.length ≤ 512) && chainB none l
def seqOf (l : List Rg) : List Rg := if validB l then l else []
def sumW (l : List Rg) : Int := l.foldl (fun n x => wrap64 (n + wrap64 (wrap64 (x.f1 - x.f0) + 1))) 0
theorem sumW_snoc (l : List Rg) (x : Rg) : sumW (l ++ [x]) = wrap64 (sumW l + wrap64 (wrap64 (x.f1 - x.f0) + 1)) := by simp [sumW]
def lenF (l : List Rg) : Int := sumW (seqOf l)
def nthL : List Rg → Int → Option Int
  | [], _ => none
  | x :: l, n => if n ≤ wrap64 (x.f1 - x.f0) then some (wrap64 (x.f0 + n)) else nthL l (wrap64 (n - wrap64 (wrap64 (x.f1 - x.f0) + 1)))
def restL : List Rg → Int → Int
  | [], n => n
  | x :: l, n => restL l (wrap64 (n - wrap64 (wrap64 (x.f1 - x.f0) + 1)))
theorem restL_snoc (l : List Rg) (x : Rg) (n : Int) : restL (l ++ [x]) n = wrap64 (restL l n - wrap64 (wrap64 (x.f1 - x.f0) + 1)) := by
  induction l generalizing n with
  | nil => rfl
  | cons y l ih => exact ih _
def nthF (l : List Rg) (n : Int) : Int × Bool := if n < 0 then (0, false) else match nthL (seqOf l) n with | some u => (u, true) | none => (0, false)
theorem nthL_append (l m : List Rg) (n : Int) (h : nthL l n = none) : nthL (l ++ m) n = nthL m (restL l n) := by
  induction l generalizing n with
  | nil => rfl
  | cons x l ih =>
    simp only [nthL, List.cons_append, restL] at h ⊢
    split at h
    · cases h
    · rename_i hn
      rw [if_neg hn]
      exact ih _ h
def bsF (l : List Rg) (u : Int) : Nat → Nat → Nat → Nat
  | 0, i, _ => i
  | k + 1, i, j => if i < j then (if (rd_T68 l (((i + j) / 2 : Nat) : Int)).f1 < u then bsF l u k ((i + j) / 2 + 1) j else bsF l u k i ((i + j) / 2)) else i
def atF (l : List Rg) (u : Int) : Int := (bsF l u l.length 0 l.length : Nat)
end Go.Proofs.Ytonljejhlphgpaa

