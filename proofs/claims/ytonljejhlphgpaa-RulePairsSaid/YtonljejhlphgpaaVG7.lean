-- Slimmed by slim.py from the text of this name without 'V'.
import Derived.Test.YtonljejhlphgpaaVS3
import Derived.Test.YtonljejhlphgpaaVG0
import Derived.Test.YtonljejhlphgpaaVG2
import Derived.Test.YtonljejhlphgpaaVG3
import Derived.Test.YtonljejhlphgpaaVG4
namespace Go.Proofs.Ytonljejhlphgpaa.G
open Go.RowKit Go.Proofs.YtonljejhlphgpaaW.PrintWords Go.Proofs.YtonljejhlphgpaaW.PrintLast Go.Proofs.YtonljejhlphgpaaW.PrintMore
set_option linter.unusedVariables false
set_option linter.unusedSimpArgs false
theorem set_whole_is (k : Nat) (a b : Int) : set_whole.f (k + 4) a b = some (rgB ⟨a, b⟩) := by
  simp only [set_whole.f, set_domain.f, Option.bind_some, set_whole.l0]
  simp only [rd_T68, wrap64, rgB]
  simp
  by_cases h1 : 0 ≤ a
  · by_cases h2 : b ≤ 55295
    · rw [if_pos h1, if_pos h2]; simp [h1, h2]
    · rw [if_pos h1, if_neg h2]
      by_cases h3 : 57344 ≤ a
      · by_cases h4 : b ≤ 1114111
        · rw [if_pos h3, if_pos h4]; simp [h3, h4]
        · rw [if_pos h3, if_neg h4]
          by_cases h5 : 1114240 ≤ a
          · by_cases h6 : b ≤ 1114367
            · rw [if_pos h5, if_pos h6]; simp [h5, h6]
            · rw [if_pos h5, if_neg h6]; simp [h2, h4, h6]
          · rw [if_neg h5]; simp [h2, h4, h5]
      · rw [if_neg h3]
        by_cases h5 : 1114240 ≤ a
        · omega
        · rw [if_neg h5]; simp [h2, h3, h5]
  · rw [if_neg h1, if_neg (by omega), if_neg (by omega)]
    have : ¬ 57344 ≤ a := by omega
    have : ¬ 1114240 ≤ a := by omega
    simp [*]
theorem set_whole_at (k : Nat) (h : 4 ≤ k) (a b : Int) : set_whole.f k a b = some (rgB ⟨a, b⟩) := by
  obtain ⟨k, rfl⟩ : ∃ m, k = m + 4 := ⟨k - 4, by omega⟩
  exact set_whole_is k a b
theorem set_Valid_l0 (xs : List Rg) (hl : xs.length ≤ 512) (d : Nat) : ∀ (k i : Nat), xs.length - i = d → i ≤ xs.length → d + 4 < k → (∀ j, j < i → (rd_T68 xs (j : Int)).f1 ≤ 1114367 ∧ 0 ≤ (rd_T68 xs (j : Int)).f1) →
    set_Valid.l0 k xs xs (xs.length : Int) (i : Int) = some (chainB (if i = 0 then none else some (rd_T68 xs ((i - 1 : Nat) : Int)).f1) (xs.drop i)) := by
  induction d with
  | zero =>
    intro k i hd hi hk _
    obtain ⟨k, rfl⟩ : ∃ m, k = m + 1 := ⟨k - 1, by omega⟩
    simp only [set_Valid.l0]
    rw [if_neg (by omega), List.drop_of_length_le (by omega)]
    simp [chainB]
  | succ d ih =>
    intro k i hd hi hk hw
    obtain ⟨k, rfl⟩ : ∃ m, k = m + 1 := ⟨k - 1, by omega⟩
    have hlt : i < xs.length := by omega
    have hrd : rd_T68 xs (i : Int) = xs[i] := by unfold rd_T68; simp [List.getD_eq_getElem?_getD, List.getElem?_eq_getElem hlt]
    have hnx : wrap64 ((i : Int) + 1) = ((i + 1 : Nat) : Int) := by unfold wrap64; omega
    simp only [set_Valid.l0]
    rw [if_pos (by omega), if_pos (by omega), if_pos (by omega), set_whole_at k (by omega), hrd, hnx, List.drop_eq_getElem_cons hlt]
    simp only [Option.bind_some]
    by_cases hr : rgB xs[i] = true
    · rw [if_pos (by simpa using hr)]
      have hb : xs[i].f1 ≤ 1114367 ∧ 0 ≤ xs[i].f1 := by
        unfold rgB at hr
        simp only [Bool.and_eq_true, Bool.or_eq_true, decide_eq_true_eq] at hr
        omega
      have hih := ih k (i + 1) (by omega) (by omega) (by omega) (fun j hj => by
        by_cases e : j = i
        · subst e; rw [hrd]; exact hb
        · exact hw j (by omega))
      rw [hih]
      simp only [Nat.add_sub_cancel, hrd]
      rw [if_neg (by omega : ¬ i + 1 = 0)]
      cases i with
      | zero => simp [chainB, hr]
      | succ i =>
        have hp := hw i (by omega)
        have e1 : wrap64 (((i + 1 : Nat) : Int) - 1) = (i : Int) := by unfold wrap64; omega
        have e2 : wrap64 ((rd_T68 xs (i : Int)).f1 + 2) = (rd_T68 xs (i : Int)).f1 + 2 := by unfold wrap64; omega
        rw [if_pos (by omega), e1, if_pos (by omega), if_pos (by omega), e2, if_neg (show ¬ (i + 1 = 0) by omega)]
        simp only [Nat.add_sub_cancel, chainB, hr, Bool.true_and]
        by_cases hc : xs[i + 1].f0 < (rd_T68 xs (i : Int)).f1 + 2
        · rw [if_pos hc]
          have : decide ((rd_T68 xs (i : Int)).f1 + 2 ≤ xs[i + 1].f0) = false := by simpa using hc
          rw [this]; rfl
        · rw [if_neg hc]
          have : decide ((rd_T68 xs (i : Int)).f1 + 2 ≤ xs[i + 1].f0) = true := by simpa using (show (rd_T68 xs (i : Int)).f1 + 2 ≤ xs[i + 1].f0 by omega)
          rw [this]; rfl
    · rw [if_neg (by simpa using hr)]
      have hr' : rgB xs[i] = false := by simpa using hr
      cases i with
      | zero => simp [chainB, hr']
      | succ i => rw [if_neg (show ¬ (i + 1 = 0) by omega)]; simp only [Nat.add_sub_cancel, chainB, hr', Bool.false_and]
theorem set_Valid_is (xs : List Rg) : set_Valid.f (xs.length + 10) xs = some (validB xs) := by
  unfold set_Valid.f validB
  by_cases h : xs.length ≤ 512
  · have h0 := set_Valid_l0 xs h xs.length (xs.length + 10) 0 (by omega) (by omega) (by omega) (fun j hj => absurd hj (by omega))
    rw [show ((0 : Nat) : Int) = 0 from rfl] at h0
    rw [if_neg (by omega), h0]
    simp [h]
  · rw [if_pos (by omega)]
    simp [h]
theorem set_Valid_C : ValidC := fun A c l w hC hc => set_Valid.calls (l.length + 10) A c l (validB l) w hC hc (set_Valid_is l)
def set_Len.f (l0 : List S68) : Option Int := some (lenF l0)
theorem set_Len.calls (A0 : Option Addr) (c0 : Nat) (l0 : List S68) (r : Int) (w : World) (hr0 : Kd.C k68 w A0 l0.length l0) (hc0 : l0.length ≤ c0) (h : set_Len.f l0 = some r) :
    Calls Try.prog 22 #[.slice A0 l0.length c0] w fun e w' => e = .returned (.int .i64 r) ∧ Below w.heap.size w w' := by
  obtain rfl := Option.some.inj h
  exact Len_calls0 set_Valid_C A0 c0 l0 w hr0 hc0
end Go.Proofs.Ytonljejhlphgpaa.G

