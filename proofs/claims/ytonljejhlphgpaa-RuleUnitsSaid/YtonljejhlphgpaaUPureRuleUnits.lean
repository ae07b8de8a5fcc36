-- Slimmed by slim.py from the text of this name without 'U'.
import Derived.Test.YtonljejhlphgpaaUPR1
import Derived.Test.YtonljejhlphgpaaUG17
set_option linter.unusedVariables false
set_option linter.unusedSimpArgs false
namespace Go.Proofs.Ytonljejhlphgpaa
open Go.RowKit Go.Proofs.Ytonljejhlphgpaa.G Go.Proofs.YtonljejhlphgpaaW.PrintWords
theorem shown07 (k : Nat) (hk : 60 ≤ k) : respelllaw07_shown.f k = some true := by
  have h : respelllaw07_shown.f 60 = some true := by kernel_rfl
  have := leo_up (f := fun k => respelllaw07_shown.f k) respelllaw07_shown.mono h (k - 60)
  simpa [show 60 + (k - 60) = k by omega] using this
theorem units_l1 (b : Bool) (a q p : List (List Rg)) (e : Bool) (rs : List S43) (c : Int) (us : List Int) (hr : RuleP a q p rs c) (hs : StandsP q us) : ∀ (d i k : Nat), rs.length - i = d → i ≤ rs.length → 2 * d + 600 ≤ k →
    respelllaw07_RuleUnits.l1 k us ((rs.map (layF q us)).take c.toNat) ((rs.map (layF q us)).drop c.toNat) rs (rs.length : Int) (i : Int) b a q p e rs c = some true := by
  have h16 := hr.res16
  have hc0 := hr.cur0
  have hc1 := hr.cur1
  intro d
  induction d with
  | zero =>
    intro i k hd hi hk
    obtain ⟨k, rfl⟩ : ∃ m, k = m + 1 := ⟨k - 1, by omega⟩
    simp only [respelllaw07_RuleUnits.l1]
    rw [if_neg (by omega)]
  | succ d ih =>
    intro i k hd hi hk
    obtain ⟨k, rfl⟩ : ∃ m, k = m + 2 := ⟨k - 2, by omega⟩
    have hlt : i < rs.length := by omega
    have hih := ih (i + 1) k (by omega) (by omega) (by omega)
    have hj5 : respelllaw07_RuleUnits.j5 (k + 1) us ((rs.map (layF q us)).take c.toNat) ((rs.map (layF q us)).drop c.toNat) (layF q us rs[i]) rs (rs.length : Int) (i : Int) b a q p e rs c rs[i].f0 rs[i].f1 rs[i].f2 rs[i].f3 = some true := by
      obtain ⟨hu, hto⟩ := lay_unit hr hs (List.getElem_mem hlt)
      obtain ⟨v, hv, hw⟩ := width_at k (by omega) (layF q us rs[i])
      have hv0 : ¬ v = 0 := fun h => (hw.1 h) hu
      simp only [respelllaw07_RuleUnits.j5]
      rw [hv]
      simp only [Option.bind_some]
      rw [if_neg hv0, next_is i rs.length hlt (by omega)]
      rcases hr.pieces rs[i] (List.getElem_mem hlt) with ⟨h1, _⟩ | ⟨h1, h2, h3⟩ | ⟨h1, h2, h3, h4, h5⟩
      · have e1 : layF q us rs[i] = rs[i].f1 := by unfold layF; rw [if_neg (by omega), if_neg (by omega)]
        rw [if_pos h1, if_pos e1, if_neg (by omega), if_neg (by omega)]
        exact hih
      · have e1 : layF q us rs[i] = rd us rs[i].f2 := by unfold layF; rw [if_pos h1]
        have hq := hs.1
        rw [if_neg (by omega), if_pos h1, if_pos h2, if_pos (by omega), if_pos e1, if_neg (by omega)]
        exact hih
      · rw [if_neg (by omega), if_neg (by omega), if_pos h1, has_printed k (by omega), hto h1]
        simp only [Option.bind_some]
        rw [if_pos trivial]
        exact hih
    simp only [respelllaw07_RuleUnits.l1]
    rw [if_pos (by omega), if_pos (by omega), if_pos (by omega), rd_at43 rs i hlt]
    have hmi : i < (rs.map (layF q us)).length := by rw [List.length_map]; exact hlt
    obtain ⟨cn, hcn⟩ : ∃ n : Nat, c = (n : Int) := ⟨c.toNat, by omega⟩
    have e0 : c.toNat = cn := by omega
    rw [e0] at hj5 ⊢
    by_cases h1 : (i : Int) < c
    · have h2 : i < ((rs.map (layF q us)).take cn).length := by rw [List.length_take, List.length_map]; omega
      rw [if_pos h1, if_pos (by omega), rd_atI _ i h2]
      have e1 : ((rs.map (layF q us)).take cn)[i] = layF q us rs[i] := by rw [List.getElem_take, List.getElem_map]
      rw [e1]
      exact hj5
    · have e2 : wrap64 ((i : Int) - c) = ((i - cn : Nat) : Int) := by unfold wrap64; omega
      have h2 : i - cn < ((rs.map (layF q us)).drop cn).length := by rw [List.length_drop, List.length_map]; omega
      rw [if_neg h1, e2, if_pos (by omega), if_pos (by omega), rd_atI _ (i - cn) h2]
      have e1 : ((rs.map (layF q us)).drop cn)[i - cn] = layF q us rs[i] := by
        rw [List.getElem_drop, List.getElem_map]
        congr 2; omega
      rw [e1]
      exact hj5
theorem units_l0 (b : Bool) (a q p : List (List Rg)) (e : Bool) (rs : List S43) (c : Int) (us : List Int) (x5 x6 : List Int) (hq8 : us.length ≤ 8) (hql : q.length = us.length) : ∀ (d i k : Nat), us.length - i = d → i ≤ us.length → d + 600 ≤ k → (∀ j, (h1 : j < q.length) → (h2 : j < us.length) → j < i → hasF q[j] us[j] = true) →
    ∃ t k', respelllaw07_RuleUnits.l0 k us x5 x6 true (i : Int) b a q p e rs c = respelllaw07_RuleUnits.j2 k' us x5 x6 t b a q p e rs c ∧ k ≤ k' + 2 + d ∧ (t = true ↔ StandsP q us) := by
  intro d
  induction d with
  | zero =>
    intro i k hd hi hk hb
    obtain ⟨k, rfl⟩ : ∃ m, k = m + 1 := ⟨k - 1, by omega⟩
    simp only [respelllaw07_RuleUnits.l0]
    rw [if_neg (by omega)]
    exact ⟨true, k, rfl, by omega, ⟨fun _ => ⟨hql, fun j h1 h2 => hb j h1 h2 (by omega)⟩, fun _ => rfl⟩⟩
  | succ d ih =>
    intro i k hd hi hk hb
    obtain ⟨k, rfl⟩ : ∃ m, k = m + 1 := ⟨k - 1, by omega⟩
    have hlt : i < us.length := by omega
    have hlq : i < q.length := by omega
    simp only [respelllaw07_RuleUnits.l0]
    rw [if_pos (by omega), if_pos trivial, if_pos (by omega), if_pos (by omega), rd_atL2 q i hlq, rd_atI us i hlt, has_printed k (by omega), next_is i us.length hlt (by omega)]
    simp only [Option.bind_some]
    by_cases h1 : hasF q[i] us[i] = true
    · rw [h1]
      obtain ⟨t, k', h2, h3, h4⟩ := ih (i + 1) k (by omega) (by omega) (by omega) (fun j a1 a2 a3 => by
        rcases Nat.lt_or_ge j i with h5 | h5
        · exact hb j a1 a2 h5
        · obtain rfl : j = i := by omega
          exact h1)
      exact ⟨t, k', h2, by omega, h4⟩
    · have hf : hasF q[i] us[i] = false := by simpa using h1
      have hnot : ¬ StandsP q us := fun h => h1 (h.2 i hlq hlt)
      rw [hf]
      obtain ⟨k, rfl⟩ : ∃ m, k = m + 1 := ⟨k - 1, by omega⟩
      simp only [respelllaw07_RuleUnits.l0]
      refine ⟨false, k, ?_, by omega, ⟨(fun h => by cases h), fun h => absurd h hnot⟩⟩
      by_cases h2 : ((i + 1 : Nat) : Int) < (us.length : Int)
      · rw [if_pos h2, if_neg (by simp)]
      · rw [if_neg h2]
theorem ruleUnits_pure (b : Bool) (a q p : List (List Rg)) (e : Bool) (rs : List S43) (c : Int) (us : List Int) : respelllaw07_RuleUnits.f 1000 b a q p e rs c us = some true := by
  obtain ⟨v, hv, hp, hl1, hl2⟩ := lays_printed b a q p e rs c us 1000 (by omega)
  unfold respelllaw07_RuleUnits.f
  rw [shown07 _ (by omega)]
  simp only [Option.bind_some]
  rw [if_pos trivial]
  by_cases hS : v = 0 ∧ StandsP q us
  · obtain ⟨h0, hs⟩ := id hS
    have hr := hp h0
    have h16 := hr.res16
    have hc0 := hr.cur0
    have hc1 := hr.cur1
    have hk8 := hr.key8
    have hql := hs.1
    rw [hl1 hS, hv]
    simp only [Option.bind_some]
    rw [if_pos h0]
    have e1 : ((us.length : Int) == (q.length : Int)) = true := by rw [beq_iff_eq]; omega
    rw [e1]
    simp only [respelllaw07_RuleUnits.j0]
    obtain ⟨t, k', h1, h2, h3⟩ := units_l0 b a q p e rs c us ((rs.map (layF q us)).take c.toNat) ((rs.map (layF q us)).drop c.toNat) (by omega) hql us.length 0 999 (by omega) (by omega) (by omega) (fun j _ _ h => by omega)
    rw [show ((0 : Nat) : Int) = 0 from rfl] at h1
    rw [h1, h3.2 hs]
    obtain ⟨k', rfl⟩ : ∃ m, k' = m + 2 := ⟨k' - 2, by omega⟩
    have hl5 : (((rs.map (layF q us)).take c.toNat).length : Int) = c := by rw [List.length_take, List.length_map]; omega
    have hl6 : (((rs.map (layF q us)).drop c.toNat).length : Int) = (rs.length : Int) - c := by rw [List.length_drop, List.length_map]; omega
    simp only [respelllaw07_RuleUnits.j2]
    rw [if_pos trivial, if_pos hl5, hl5, hl6]
    have e2 : (wrap64 (c + ((rs.length : Int) - c)) != (rs.length : Int)) = false := by
      have : wrap64 (c + ((rs.length : Int) - c)) = (rs.length : Int) := by unfold wrap64; omega
      rw [this]; simp
    rw [e2]
    simp only [respelllaw07_RuleUnits.j3]
    rw [if_neg (by simp)]
    have := units_l1 b a q p e rs c us hr hs rs.length 0 k' (by omega) (by omega) (by omega)
    exact this
  · rw [hl2 hS, hv]
    simp only [Option.bind_some]
    have hj2 : ∀ k, respelllaw07_RuleUnits.j2 (k + 1) us [] [] false b a q p e rs c = some true := fun k => by
      simp only [respelllaw07_RuleUnits.j2]
      rw [if_neg (by simp), if_pos (by simp)]
      rfl
    have hl0 : ∀ k, respelllaw07_RuleUnits.l0 (k + 2) us [] [] false 0 b a q p e rs c = some true := fun k => by
      simp only [respelllaw07_RuleUnits.l0]
      by_cases h1 : (0 : Int) < (us.length : Int)
      · rw [if_pos h1, if_neg (by simp)]; exact hj2 k
      · rw [if_neg h1]; exact hj2 k
    by_cases h0 : v = 0
    · rw [if_pos h0]
      simp only [respelllaw07_RuleUnits.j0]
      have hr := hp h0
      have hk8 := hr.key8
      by_cases he : us.length = q.length
      · have e1 : ((us.length : Int) == (q.length : Int)) = true := by rw [beq_iff_eq]; omega
        rw [e1]
        obtain ⟨t, k', h1, h2, h3⟩ := units_l0 b a q p e rs c us [] [] (by omega) he.symm us.length 0 999 (by omega) (by omega) (by omega) (fun j _ _ h => by omega)
        rw [show ((0 : Nat) : Int) = 0 from rfl] at h1
        have ht : t = false := by
          cases t with
          | false => rfl
          | true => exact absurd ⟨h0, h3.1 rfl⟩ hS
        rw [h1, ht]
        obtain ⟨k', rfl⟩ : ∃ m, k' = m + 1 := ⟨k' - 1, by omega⟩
        exact hj2 k'
      · have e1 : ((us.length : Int) == (q.length : Int)) = false := by rw [beq_eq_false_iff_ne]; omega
        rw [e1]
        exact hl0 _
    · rw [if_neg h0]
      simp only [respelllaw07_RuleUnits.j0]
      exact hl0 _
end Go.Proofs.Ytonljejhlphgpaa

