-- Slimmed by slim.py from the text of this name without 'V'.
import Derived.Test.YtonljejhlphgpaaVPR1
import Derived.Test.YtonljejhlphgpaaVP2
set_option linter.unusedVariables false
set_option linter.unusedSimpArgs false
namespace Go.Proofs.Ytonljejhlphgpaa
open Go.RowKit Go.Proofs.Ytonljejhlphgpaa.G Go.Proofs.YtonljejhlphgpaaW.PrintWords
def pairErr (f t : List Rg) : Int := if validB f = true then (if (f.length : Int) = 0 then 71 else if validB t = true then (if lenF t = lenF f then 0 else 75) else 75) else 71
theorem check_pair (K : Nat) (f t : List Rg) : rule_Check.f (K + 700) false [] [f] [] false [(⟨3, 0, 0, t⟩ : S43)] 1 = some (pairErr f t) := by
  have w1 : wrap64 (0 + 1) = 1 := by unfold wrap64; omega
  have w2 : wrap64 (1 + 1) = 2 := by unfold wrap64; omega
  have w3 : wrap64 (2 + 1) = 3 := by unfold wrap64; omega
  have r0 : rd_L4 [[], [f], []] 0 = [] := rfl
  have r1 : rd_L4 [[], [f], []] 1 = [f] := rfl
  have r2 : rd_L4 [[], [f], []] 2 = [] := rfl
  have r3 : rd_L2 [f] 0 = f := rfl
  have r4 : rd_T43 [(⟨3, 0, 0, t⟩ : S43)] 0 = ⟨3, 0, 0, t⟩ := rfl
  have b0 : ∀ k ls (i : Int), rule_Check.l0 (k + 1) ls 3 i false [] [f] [] false [(⟨3, 0, 0, t⟩ : S43)] 1 = if i < 3 then (if 0 ≤ i then (if i < (ls.length : Int) then rule_Check.l1 k ls 3 i (rd_L4 ls i) ((rd_L4 ls i).length : Int) 0 false [] [f] [] false [(⟨3, 0, 0, t⟩ : S43)] 1 else none) else none) else rule_Check.l2 k [(⟨3, 0, 0, t⟩ : S43)] 1 0 false [] [f] [] false [(⟨3, 0, 0, t⟩ : S43)] 1 := fun k ls i => by
    simp only [rule_Check.l0]; rfl
  have b1 : ∀ k ls (i : Int) (l : List (List Rg)) (n j : Int), ¬ j < n → rule_Check.l1 (k + 1) ls 3 i l n j false [] [f] [] false [(⟨3, 0, 0, t⟩ : S43)] 1 = rule_Check.l0 k ls 3 (wrap64 (i + 1)) false [] [f] [] false [(⟨3, 0, 0, t⟩ : S43)] 1 := fun k ls i l n j h => by
    simp only [rule_Check.l1]; rw [if_neg h]
  have c1 : ∀ k ls (i : Int), 530 ≤ k → rule_Check.l1 (k + 1) ls 3 i [f] 1 0 false [] [f] [] false [(⟨3, 0, 0, t⟩ : S43)] 1 = if validB f = true then (if (f.length : Int) = 0 then some 71 else rule_Check.l1 k ls 3 i [f] 1 1 false [] [f] [] false [(⟨3, 0, 0, t⟩ : S43)] 1) else some 71 := fun k ls i hk => by
    simp only [rule_Check.l1, r3, w1, valid_at f k hk, Option.bind_some]
    rw [if_pos (by omega), if_pos (by omega), if_pos (by simp)]
  have pc : ∀ m, 541 ≤ m → rule_piece.f m false [] [f] [] false [(⟨3, 0, 0, t⟩ : S43)] 1 3 0 0 t = if validB t = true then (if lenF t = lenF f then some 0 else some 75) else some 75 := fun m hm => by
    obtain ⟨k, rfl⟩ : ∃ k, m = k + 2 := ⟨m - 2, by omega⟩
    unfold rule_piece.f
    rw [if_neg (by omega), if_neg (by omega), if_pos rfl]
    simp only [rule_piece.j0]
    rw [if_neg (by simp)]
    simp only [rule_piece.j1]
    rw [if_neg (by simp), if_neg (by omega), if_neg (by simp), if_pos trivial, valid_at t k (by omega)]
    simp only [Option.bind_some, set_Len.f, r3]
    by_cases h3 : validB t = true
    · simp only [if_pos h3]
      rw [if_pos (by omega), if_pos (by simp)]
    · simp only [if_neg h3]
  have e2 : ∀ m, rule_Check.l2 (m + 1) [(⟨3, 0, 0, t⟩ : S43)] 1 1 false [] [f] [] false [(⟨3, 0, 0, t⟩ : S43)] 1 = some 0 := fun m => by
    simp only [rule_Check.l2]
    rw [if_neg (by omega), if_neg (by omega), if_neg (by simp)]
  have c2 : ∀ m, 541 ≤ m → rule_Check.l2 (m + 1) [(⟨3, 0, 0, t⟩ : S43)] 1 0 false [] [f] [] false [(⟨3, 0, 0, t⟩ : S43)] 1 = if validB t = true then (if lenF t = lenF f then some 0 else some 75) else some 75 := fun m hm => by
    simp only [rule_Check.l2, r4, w1]
    rw [if_pos (by omega), if_pos (by omega), if_pos (by simp), pc m hm]
    obtain ⟨m, rfl⟩ : ∃ k, m = k + 1 := ⟨m - 1, by omega⟩
    by_cases h3 : validB t = true
    · simp only [if_pos h3]
      by_cases h4 : lenF t = lenF f
      · simp only [if_pos h4, Option.bind_some, if_true]
        exact e2 m
      · simp only [if_neg h4, Option.bind_some]
        rfl
    · simp only [if_neg h3, Option.bind_some]
      rfl
  unfold rule_Check.f pairErr
  simp only [List.length_cons, List.length_nil, Nat.zero_add, Int.natCast_one]
  rw [if_neg (by omega)]
  simp only [rule_Check.j0, List.length_cons, List.length_nil, Nat.zero_add, Option.bind_some]
  rw [if_neg (by simp), if_neg (by simp), if_neg (by simp), if_neg (by simp)]
  show rule_Check.l0 (K + 698 + 1) [[], [f], []] 3 0 false [] [f] [] false [(⟨3, 0, 0, t⟩ : S43)] 1 = _
  rw [b0, if_pos (by omega), if_pos (by omega), if_pos (by simp), r0]
  show rule_Check.l1 (K + 697 + 1) _ 3 0 [] 0 0 _ _ _ _ _ _ _ = _
  rw [b1 _ _ _ _ _ _ (by omega), w1]
  show rule_Check.l0 (K + 696 + 1) _ 3 1 _ _ _ _ _ _ _ = _
  rw [b0, if_pos (by omega), if_pos (by omega), if_pos (by simp), r1]
  show rule_Check.l1 (K + 695 + 1) _ 3 1 [f] 1 0 _ _ _ _ _ _ _ = _
  rw [c1 _ _ _ (by omega)]
  by_cases h1 : validB f = true
  · rw [if_pos h1, if_pos h1]
    by_cases h2 : (f.length : Int) = 0
    · rw [if_pos h2, if_pos h2]
    · rw [if_neg h2, if_neg h2]
      show rule_Check.l1 (K + 694 + 1) _ 3 1 [f] 1 1 _ _ _ _ _ _ _ = _
      rw [b1 _ _ _ _ _ _ (by omega), w2]
      show rule_Check.l0 (K + 693 + 1) _ 3 2 _ _ _ _ _ _ _ = _
      rw [b0, if_pos (by omega), if_pos (by omega), if_pos (by simp), r2]
      show rule_Check.l1 (K + 692 + 1) _ 3 2 [] 0 0 _ _ _ _ _ _ _ = _
      rw [b1 _ _ _ _ _ _ (by omega), w3]
      show rule_Check.l0 (K + 691 + 1) _ 3 3 _ _ _ _ _ _ _ = _
      rw [b0, if_neg (by omega)]
      show rule_Check.l2 (K + 690 + 1) _ 1 0 _ _ _ _ _ _ _ = _
      rw [c2 _ (by omega)]
      by_cases h3 : validB t = true
      · simp only [if_pos h3]
        by_cases h4 : lenF t = lenF f
        · simp only [if_pos h4]
        · simp only [if_neg h4]
      · simp only [if_neg h3]
  · rw [if_neg h1, if_neg h1]
theorem pairErr_zero (f t : List Rg) : pairErr f t = 0 ↔ validB f = true ∧ f ≠ [] ∧ validB t = true ∧ szL f = szL t := by
  unfold pairErr
  by_cases h1 : validB f = true
  · rw [if_pos h1]
    by_cases h2 : (f.length : Int) = 0
    · rw [if_pos h2]
      have : f = [] := List.eq_nil_of_length_eq_zero (by omega)
      simp [this]
    · rw [if_neg h2]
      have hf : f ≠ [] := fun h => h2 (by rw [h]; rfl)
      by_cases h3 : validB t = true
      · rw [if_pos h3, lenF_valid h1, lenF_valid h3]
        by_cases h4 : szL t = szL f
        · rw [if_pos h4]; simp [h1, h3, hf, h4]
        · rw [if_neg h4]; simp; intro _ _ _ h; exact absurd h.symm h4
      · rw [if_neg h3]; simp [h3]
  · rw [if_neg h1]; simp [h1]
theorem pair_test (f t : List Rg) : ((pairErr f t == 0) != (validB f && (validB t && (decide (lenF f > 0) && (lenF f == lenF t))))) = false := by
  have hz := pairErr_zero f t
  by_cases h1 : validB f = true
  · by_cases h2 : validB t = true
    · rw [lenF_valid h1, lenF_valid h2]
      have hp := sz_pos h1
      simp only [h1, h2, Bool.true_and, true_and] at hz ⊢
      by_cases h3 : pairErr f t = 0
      · obtain ⟨h4, h5⟩ := hz.1 h3
        have h9 := hp.2 h4
        rw [h5] at h9
        simp [h3, h9, h5]
      · have : ¬ (f ≠ [] ∧ szL f = szL t) := fun h => h3 (hz.2 h)
        have h6 : (pairErr f t == 0) = false := by simpa using h3
        rw [h6]
        by_cases h7 : szL f > 0
        · have h8 : ¬ szL f = szL t := fun h => this ⟨hp.1 h7, h⟩
          simp [h8]
        · simp [h7]
    · have : ¬ pairErr f t = 0 := fun h => h2 (hz.1 h).2.2.1
      simp [this, h2]
  · have : ¬ pairErr f t = 0 := fun h => h1 (hz.1 h).1
    simp [this, h1]
theorem lays_pair (K : Nat) (f t : List Rg) (u : Int) (h : pairErr f t = 0) : rule_Lays.f (K + 1000) false [] [f] [] false [(⟨3, 0, 0, t⟩ : S43)] 1 [u] = some (if hasF f u = true then [pairF f t u] else [], []) := by
  obtain ⟨v, hv, hp, hl1, hl2⟩ := lays_printed false [] [f] [] false [(⟨3, 0, 0, t⟩ : S43)] 1 [u] (K + 1000) (by omega)
  have hv0 : v = 0 := by
    have := check_pair (K + 300) f t
    rw [show K + 300 + 700 = K + 1000 by omega, hv, h] at this
    exact Option.some.inj this
  have hst : StandsP [f] [u] ↔ hasF f u = true := by
    constructor
    · intro hs; exact hs.2 0 (by simp) (by simp)
    · intro hh
      refine ⟨rfl, fun j h1 h2 => ?_⟩
      have : j = 0 := by simp at h1; exact h1
      subst this
      exact hh
  by_cases hh : hasF f u = true
  · rw [hl1 ⟨hv0, hst.2 hh⟩, if_pos hh]
    have e : layF [f] [u] (⟨3, 0, 0, t⟩ : S43) = pairF f t u := by
      unfold layF pairF
      rw [if_neg (show ¬ (3 : Int) = 2 by decide), if_pos rfl]
      rfl
    simp only [List.map_cons, List.map_nil, e]
    rfl
  · rw [hl2 (fun h => hh (hst.1 h.2)), if_neg hh]
end Go.Proofs.Ytonljejhlphgpaa

