-- Slimmed by slim.py from the text of this name without 'V'.
import Derived.Test.YtonljejhlphgpaaVS1
set_option linter.unusedVariables false
set_option linter.unusedSimpArgs false
namespace Go.Proofs.Ytonljejhlphgpaa
open Go.RowKit Go.Proofs.Ytonljejhlphgpaa.G Go.Proofs.YtonljejhlphgpaaW.PrintWords
def inB (l : List Rg) (u : Int) : Prop := ∃ x ∈ l, x.f0 ≤ u ∧ u ≤ x.f1
def UnitP (u : Int) : Prop := (0 ≤ u ∧ u ≤ 55295) ∨ (57344 ≤ u ∧ u ≤ 1114111) ∨ (1114240 ≤ u ∧ u ≤ 1114367)
theorem rgB_iff (x : Rg) : rgB x = true ↔ ((0 ≤ x.f0 ∧ x.f1 ≤ 55295) ∨ (57344 ≤ x.f0 ∧ x.f1 ≤ 1114111) ∨ (1114240 ≤ x.f0 ∧ x.f1 ≤ 1114367)) ∧ x.f0 ≤ x.f1 := by
  simp [rgB, or_assoc]
def aheadP : Option Int → Rg → Prop
  | none, _ => True
  | some p, x => p + 2 ≤ x.f0
theorem chain_cons (p : Option Int) (x : Rg) (l : List Rg) : chainB p (x :: l) = true ↔ rgB x = true ∧ aheadP p x ∧ chainB (some x.f1) l = true := by
  cases p <;> simp [chainB, aheadP, and_assoc]
theorem chain_rg : ∀ (l : List Rg) (p : Option Int), chainB p l = true → ∀ x ∈ l, rgB x = true ∧ aheadP p x
  | [], _, _, x, hx => by simp at hx
  | y :: l, p, h, x, hx => by
    obtain ⟨h1, h2, h3⟩ := (chain_cons p y l).1 h
    rcases List.mem_cons.1 hx with rfl | hx
    · exact ⟨h1, h2⟩
    · obtain ⟨h4, h5⟩ := chain_rg l _ h3 x hx
      refine ⟨h4, ?_⟩
      have h6 := ((rgB_iff y).1 h1).2
      cases p with
      | none => trivial
      | some p => simp only [aheadP] at h2 h5 ⊢; omega
theorem chain_pair : ∀ (l : List Rg) (p : Option Int), chainB p l = true → l.Pairwise (fun x y => x.f1 + 2 ≤ y.f0)
  | [], _, _ => List.Pairwise.nil
  | y :: l, p, h => by
    obtain ⟨h1, h2, h3⟩ := (chain_cons p y l).1 h
    exact List.Pairwise.cons (fun x hx => (chain_rg l _ h3 x hx).2) (chain_pair l _ h3)
theorem chain_take : ∀ (l : List Rg) (p : Option Int) (i : Nat), chainB p l = true → chainB p (l.take i) = true
  | [], p, i, h => by simpa using h
  | y :: l, p, 0, h => by cases p <;> rfl
  | y :: l, p, i + 1, h => by
    obtain ⟨h1, h2, h3⟩ := (chain_cons p y l).1 h
    rw [List.take_succ_cons]
    exact (chain_cons p y _).2 ⟨h1, h2, chain_take l _ i h3⟩
theorem valid_iff (l : List Rg) : validB l = true ↔ l.length ≤ 512 ∧ chainB none l = true := by simp [validB]
theorem valid_take (l : List Rg) (i : Nat) (h : validB l = true) : validB (l.take i) = true := by
  obtain ⟨h1, h2⟩ := (valid_iff l).1 h
  exact (valid_iff _).2 ⟨by rw [List.length_take]; omega, chain_take l _ i h2⟩
theorem valid_seq {l : List Rg} (h : validB l = true) : seqOf l = l := by simp [seqOf, h]
theorem valid_rg {l : List Rg} (h : validB l = true) {x : Rg} (hx : x ∈ l) : rgB x = true := (chain_rg l _ ((valid_iff l).1 h).2 x hx).1
def szL (l : List Rg) : Int := (l.map fun x => x.f1 - x.f0 + 1).sum
theorem szL_nil : szL [] = 0 := rfl
theorem szL_cons (x : Rg) (l : List Rg) : szL (x :: l) = (x.f1 - x.f0 + 1) + szL l := by simp [szL]
theorem szL_append (l m : List Rg) : szL (l ++ m) = szL l + szL m := by simp [szL, List.map_append, List.sum_append]
theorem szL_bd : ∀ (l : List Rg) (p : Option Int), chainB p l = true → (∀ q, p = some q → 0 ≤ q ∧ q ≤ 1114367) → 0 ≤ szL l ∧ szL l ≤ 1114368 - (match p with | none => 0 | some q => q + 1)
  | [], p, h, hp => by
    rw [szL_nil]
    cases p with
    | none => simp
    | some q => have := hp q rfl; simp only; omega
  | y :: l, p, h, hp => by
    obtain ⟨h1, h2, h3⟩ := (chain_cons p y l).1 h
    have h4 := (rgB_iff y).1 h1
    have h5 := szL_bd l (some y.f1) h3 (fun q hq => by cases hq; omega)
    simp only at h5
    rw [szL_cons]
    cases p with
    | none => simp only; omega
    | some q => simp only [aheadP] at h2; simp only; omega
theorem sumW_go : ∀ (l : List Rg) (p : Option Int) (n : Int), chainB p l = true → 0 ≤ n → n + szL l ≤ 4611686018427387904 → l.foldl (fun n x => wrap64 (n + wrap64 (wrap64 (x.f1 - x.f0) + 1))) n = n + szL l
  | [], _, n, _, _, _ => by simp [szL]
  | y :: l, p, n, h, h0, hb => by
    obtain ⟨h1, h2, h3⟩ := (chain_cons p y l).1 h
    have h4 := (rgB_iff y).1 h1
    have h5 := szL_bd l (some y.f1) h3 (fun q hq => by cases hq; omega)
    simp only at h5
    rw [szL_cons] at hb
    rw [List.foldl_cons]
    have e : wrap64 (n + wrap64 (wrap64 (y.f1 - y.f0) + 1)) = n + (y.f1 - y.f0 + 1) := by
      have e1 : wrap64 (y.f1 - y.f0) = y.f1 - y.f0 := by unfold wrap64; omega
      rw [e1]
      have e2 : wrap64 (y.f1 - y.f0 + 1) = y.f1 - y.f0 + 1 := by unfold wrap64; omega
      rw [e2]
      unfold wrap64; omega
    rw [e, sumW_go l _ _ h3 (by omega) (by omega), szL_cons]
    omega
theorem szL_valid {l : List Rg} (h : validB l = true) : 0 ≤ szL l ∧ szL l ≤ 1114368 := by
  have := szL_bd l none ((valid_iff l).1 h).2 (fun q hq => by cases hq)
  simpa using this
theorem lenF_valid {l : List Rg} (h : validB l = true) : lenF l = szL l := by
  have h1 := szL_valid h
  unfold lenF sumW
  rw [valid_seq h, sumW_go l none 0 ((valid_iff l).1 h).2 (by omega) (by omega)]
  omega
theorem nthL_in : ∀ (l : List Rg) (p : Option Int) (n : Int), chainB p l = true → 0 ≤ n → n < szL l → ∃ u, nthL l n = some u ∧ inB l u
  | [], _, n, _, h0, hn => by rw [szL_nil] at hn; omega
  | y :: l, p, n, h, h0, hn => by
    obtain ⟨h1, h2, h3⟩ := (chain_cons p y l).1 h
    have h4 := (rgB_iff y).1 h1
    have h5 := szL_bd l (some y.f1) h3 (fun q hq => by cases hq; omega)
    simp only at h5
    rw [szL_cons] at hn
    have e1 : wrap64 (y.f1 - y.f0) = y.f1 - y.f0 := by unfold wrap64; omega
    have e2 : wrap64 (y.f1 - y.f0 + 1) = y.f1 - y.f0 + 1 := by unfold wrap64; omega
    simp only [nthL, e1, e2]
    by_cases hc : n ≤ y.f1 - y.f0
    · rw [if_pos hc]
      have e3 : wrap64 (y.f0 + n) = y.f0 + n := by unfold wrap64; omega
      rw [e3]
      exact ⟨_, rfl, y, List.mem_cons_self, by omega, by omega⟩
    · rw [if_neg hc]
      have e3 : wrap64 (n - (y.f1 - y.f0 + 1)) = n - (y.f1 - y.f0 + 1) := by unfold wrap64; omega
      rw [e3]
      obtain ⟨u, hu, x, hx, hb⟩ := nthL_in l _ (n - (y.f1 - y.f0 + 1)) h3 (by omega) (by omega)
      exact ⟨u, hu, x, List.mem_cons_of_mem _ hx, hb⟩
theorem nthF_in {l : List Rg} (h : validB l = true) {n : Int} (h0 : 0 ≤ n) (hn : n < szL l) : inB l (nthF l n).1 ∧ (nthF l n).2 = true := by
  obtain ⟨u, hu, hi⟩ := nthL_in l none n ((valid_iff l).1 h).2 h0 hn
  unfold nthF
  rw [if_neg (by omega), valid_seq h, hu]
  exact ⟨hi, rfl⟩
theorem rd_at (l : List Rg) (i : Nat) (h : i < l.length) : rd_T68 l (i : Int) = l[i] := by unfold rd_T68; simp [List.getD_eq_getElem?_getD, List.getElem?_eq_getElem h]
theorem bs_spec (l : List Rg) (u : Int) (hs : l.Pairwise (fun x y => x.f1 + 2 ≤ y.f0)) (hr : ∀ x ∈ l, x.f0 ≤ x.f1) : ∀ (k i j : Nat), j ≤ l.length → i ≤ j → j - i ≤ k → (∀ t, (ht : t < l.length) → t < i → l[t].f1 < u) → (∀ t, (ht : t < l.length) → j ≤ t → u ≤ l[t].f1) →
    bsF l u k i j ≤ l.length ∧ (∀ t, (ht : t < l.length) → t < bsF l u k i j → l[t].f1 < u) ∧ (∀ t, (ht : t < l.length) → bsF l u k i j ≤ t → u ≤ l[t].f1) := by
  have hm : ∀ a b, (ha : a < l.length) → (hb : b < l.length) → a ≤ b → l[a].f1 ≤ l[b].f1 := by
    intro a b ha hb hab
    rcases Nat.lt_or_ge a b with h | h
    · have h1 := List.pairwise_iff_getElem.1 hs a b ha hb h
      have h2 := hr l[b] (List.getElem_mem hb)
      omega
    · obtain rfl : a = b := by omega
      exact Int.le_refl _
  intro k
  induction k with
  | zero =>
    intro i j hj hij hk h1 h2
    obtain rfl : i = j := by omega
    exact ⟨hj, h1, h2⟩
  | succ k ih =>
    intro i j hj hij hk h1 h2
    simp only [bsF]
    by_cases hc : i < j
    · rw [if_pos hc]
      have hmid : (i + j) / 2 < l.length := by omega
      rw [rd_at l _ hmid]
      by_cases hd : l[(i + j) / 2].f1 < u
      · rw [if_pos hd]
        exact ih _ _ hj (by omega) (by omega) (fun t ht hti => by have := hm t _ ht hmid (by omega); omega) h2
      · rw [if_neg hd]
        exact ih _ _ (by omega) (by omega) (by omega) h1 (fun t ht hti => by have := hm _ t hmid ht hti; omega)
    · rw [if_neg hc]
      obtain rfl : i = j := by omega
      exact ⟨hj, h1, h2⟩
theorem at_spec {l : List Rg} (h : validB l = true) (u : Int) : ∃ r : Nat, atF l u = (r : Int) ∧ r ≤ l.length ∧ (∀ t, (ht : t < l.length) → t < r → l[t].f1 < u) ∧ (∀ t, (ht : t < l.length) → r ≤ t → u ≤ l[t].f1) := by
  have hc := ((valid_iff l).1 h).2
  exact ⟨_, rfl, bs_spec l u (chain_pair l _ hc) (fun x hx => ((rgB_iff x).1 (chain_rg l _ hc x hx).1).2) _ 0 _ (Nat.le_refl _) (Nat.zero_le _) (by omega) (fun t ht h => absurd h (by omega)) (fun t ht h => absurd h (by omega))⟩
def hasF (l : List Rg) (u : Int) : Bool := validB l && (decide (atF l u < (l.length : Int)) && decide ((rd_T68 l (atF l u)).f0 ≤ u))
theorem has_at {l : List Rg} {u : Int} (h : hasF l u = true) : validB l = true ∧ ∃ r : Nat, ∃ hr : r < l.length, atF l u = (r : Int) ∧ l[r].f0 ≤ u ∧ u ≤ l[r].f1 := by
  unfold hasF at h
  simp only [Bool.and_eq_true, decide_eq_true_eq] at h
  obtain ⟨h1, h2, h3⟩ := h
  obtain ⟨r, e, _, _, hu⟩ := at_spec h1 u
  rw [e] at h2 h3
  have hr : r < l.length := by omega
  rw [rd_at l r hr] at h3
  exact ⟨h1, r, hr, e, h3, hu r hr (Nat.le_refl _)⟩
theorem has_of {l : List Rg} {u : Int} (h : validB l = true) (hi : inB l u) : hasF l u = true := by
  obtain ⟨x, hx, h0, h1⟩ := hi
  obtain ⟨i, hi, rfl⟩ := List.getElem_of_mem hx
  obtain ⟨r, e, hr, ha, hb⟩ := at_spec h u
  have hri : r ≤ i := by
    rcases Nat.lt_or_ge i r with hlt | hge
    · have := ha i hi hlt; omega
    · exact hge
  have hrl : r < l.length := by omega
  have hf0 : l[r].f0 ≤ u := by
    rcases Nat.lt_or_ge r i with hlt | hge
    · have h2 := List.pairwise_iff_getElem.1 (chain_pair l _ ((valid_iff l).1 h).2) r i hrl hi hlt
      have h3 := hb r hrl (Nat.le_refl _)
      omega
    · obtain rfl : r = i := by omega
      exact h0
  unfold hasF
  rw [e, rd_at l r hrl]
  simp only [h, Bool.true_and, Bool.and_eq_true, decide_eq_true_eq]
  exact ⟨by omega, hf0⟩
theorem has_iff (l : List Rg) (u : Int) : hasF l u = true ↔ validB l = true ∧ inB l u := by
  refine ⟨fun h => ?_, fun h => has_of h.1 h.2⟩
  obtain ⟨h1, r, hr, _, h2, h3⟩ := has_at h
  exact ⟨h1, l[r], List.getElem_mem hr, h2, h3⟩
def placeF (l : List Rg) (u : Int) : Int := wrap64 (wrap64 (lenF (l.take (atF l u).toNat) + u) - (rd_T68 l (atF l u)).f0)
theorem place_is {l : List Rg} {u : Int} (h : hasF l u = true) : ∃ r : Nat, ∃ hr : r < l.length, atF l u = (r : Int) ∧ l[r].f0 ≤ u ∧ u ≤ l[r].f1 ∧ placeF l u = szL (l.take r) + (u - l[r].f0) ∧ 0 ≤ placeF l u ∧ placeF l u < szL l := by
  obtain ⟨h1, r, hr, e, h2, h3⟩ := has_at h
  have hv := valid_take l r h1
  have hz := szL_valid hv
  have hrg := (rgB_iff _).1 (valid_rg h1 (List.getElem_mem hr))
  have hp : placeF l u = szL (l.take r) + (u - l[r].f0) := by
    unfold placeF
    rw [e, Int.toNat_natCast, lenF_valid hv, rd_at l r hr]
    have e1 : wrap64 (szL (l.take r) + u) = szL (l.take r) + u := by unfold wrap64; omega
    rw [e1]
    unfold wrap64; omega
  refine ⟨r, hr, e, h2, h3, hp, by omega, ?_⟩
  have hd : l = l.take r ++ (l[r] :: l.drop (r + 1)) := by rw [← List.drop_eq_getElem_cons hr, List.take_append_drop]
  have hz2 : szL l = szL (l.take r) + ((l[r].f1 - l[r].f0 + 1) + szL (l.drop (r + 1))) := by
    conv => lhs; rw [hd]
    rw [szL_append, szL_cons]
  have hz3 : 0 ≤ szL (l.drop (r + 1)) := by
    have : ∀ m : List Rg, (∀ x ∈ m, rgB x = true) → 0 ≤ szL m := by
      intro m
      induction m with
      | nil => intro _; rw [szL_nil]; omega
      | cons y m ih =>
        intro hm
        have a := ih fun x hx => hm x (List.mem_cons_of_mem _ hx)
        have b := (rgB_iff y).1 (hm y List.mem_cons_self)
        rw [szL_cons]; omega
    exact this _ fun x hx => valid_rg h1 (List.mem_of_mem_drop hx)
  omega
end Go.Proofs.Ytonljejhlphgpaa

