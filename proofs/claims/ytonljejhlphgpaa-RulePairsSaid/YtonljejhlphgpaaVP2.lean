-- Slimmed by slim.py from the text of this name without 'V'.
import Derived.Test.YtonljejhlphgpaaVP1
set_option linter.unusedVariables false
set_option linter.unusedSimpArgs false
namespace Go.Proofs.Ytonljejhlphgpaa
open Go.RowKit Go.Proofs.Ytonljejhlphgpaa.G Go.Proofs.YtonljejhlphgpaaW.PrintWords
def nthZ : List Rg → Int → Int
  | [], _ => 0
  | x :: l, n => if n ≤ x.f1 - x.f0 then x.f0 + n else nthZ l (n - (x.f1 - x.f0 + 1))
theorem nthL_is : ∀ (l : List Rg) (p : Option Int) (n : Int), chainB p l = true → 0 ≤ n → n < szL l → nthL l n = some (nthZ l n)
  | [], _, n, _, h0, hn => by rw [szL_nil] at hn; omega
  | y :: l, p, n, h, h0, hn => by
    obtain ⟨h1, h2, h3⟩ := (chain_cons p y l).1 h
    have h4 := (rgB_iff y).1 h1
    have h5 := szL_bd l (some y.f1) h3 (fun q hq => by cases hq; omega)
    simp only at h5
    rw [szL_cons] at hn
    have e1 : wrap64 (y.f1 - y.f0) = y.f1 - y.f0 := by unfold wrap64; omega
    have e2 : wrap64 (y.f1 - y.f0 + 1) = y.f1 - y.f0 + 1 := by unfold wrap64; omega
    simp only [nthL, nthZ, e1, e2]
    by_cases hc : n ≤ y.f1 - y.f0
    · rw [if_pos hc, if_pos hc]
      have e3 : wrap64 (y.f0 + n) = y.f0 + n := by unfold wrap64; omega
      rw [e3]
    · rw [if_neg hc, if_neg hc]
      have e3 : wrap64 (n - (y.f1 - y.f0 + 1)) = n - (y.f1 - y.f0 + 1) := by unfold wrap64; omega
      rw [e3]
      exact nthL_is l _ _ h3 (by omega) (by omega)
theorem nthF_is {l : List Rg} (h : validB l = true) {n : Int} (h0 : 0 ≤ n) (hn : n < szL l) : nthF l n = (nthZ l n, true) := by
  unfold nthF
  rw [if_neg (by omega), valid_seq h, nthL_is l none n ((valid_iff l).1 h).2 h0 hn]
theorem nthZ_ge : ∀ (l : List Rg) (p : Int) (n : Int), chainB (some p) l = true → 0 ≤ n → n < szL l → p + 2 ≤ nthZ l n
  | [], _, n, _, h0, hn => by rw [szL_nil] at hn; omega
  | y :: l, p, n, h, h0, hn => by
    obtain ⟨h1, h2, h3⟩ := (chain_cons (some p) y l).1 h
    have h4 := (rgB_iff y).1 h1
    simp only [aheadP] at h2
    rw [szL_cons] at hn
    simp only [nthZ]
    by_cases hc : n ≤ y.f1 - y.f0
    · rw [if_pos hc]; omega
    · rw [if_neg hc]
      have := nthZ_ge l y.f1 (n - (y.f1 - y.f0 + 1)) h3 (by omega) (by omega)
      omega
theorem nthZ_lt : ∀ (l : List Rg) (p : Option Int) (m n : Int), chainB p l = true → 0 ≤ m → m < n → n < szL l → nthZ l m < nthZ l n
  | [], _, m, n, _, h0, hm, hn => by rw [szL_nil] at hn; omega
  | y :: l, p, m, n, h, h0, hm, hn => by
    obtain ⟨h1, h2, h3⟩ := (chain_cons p y l).1 h
    have h4 := (rgB_iff y).1 h1
    rw [szL_cons] at hn
    simp only [nthZ]
    by_cases hc : n ≤ y.f1 - y.f0
    · rw [if_pos hc, if_pos (by omega)]; omega
    · rw [if_neg hc]
      by_cases hd : m ≤ y.f1 - y.f0
      · rw [if_pos hd]
        have := nthZ_ge l y.f1 (n - (y.f1 - y.f0 + 1)) h3 (by omega) (by omega)
        omega
      · rw [if_neg hd]
        exact nthZ_lt l _ _ _ h3 (by omega) (by omega) (by omega)
theorem nthZ_at : ∀ (l : List Rg) (p : Option Int) (r : Nat) (hr : r < l.length) (m : Int), chainB p l = true → 0 ≤ m → m ≤ l[r].f1 - l[r].f0 → nthZ l (szL (l.take r) + m) = l[r].f0 + m
  | y :: l, p, 0, hr, m, h, h0, hm => by
    simp only [List.take_zero, szL_nil, List.getElem_cons_zero] at hm ⊢
    simp only [nthZ]
    rw [if_pos (by omega)]
    omega
  | y :: l, p, r + 1, hr, m, h, h0, hm => by
    obtain ⟨h1, h2, h3⟩ := (chain_cons p y l).1 h
    have h4 := (rgB_iff y).1 h1
    have h5 := szL_bd (l.take r) (some y.f1) (chain_take l _ r h3) (fun q hq => by cases hq; omega)
    simp only [List.take_succ_cons, List.getElem_cons_succ] at hm ⊢
    rw [szL_cons]
    simp only [nthZ]
    rw [if_neg (by omega)]
    have := nthZ_at l _ r (by simpa using hr) m h3 h0 hm
    rw [show y.f1 - y.f0 + 1 + szL (l.take r) + m - (y.f1 - y.f0 + 1) = szL (l.take r) + m by omega]
    exact this
theorem nth_place {l : List Rg} {u : Int} (h : hasF l u = true) : nthZ l (placeF l u) = u := by
  obtain ⟨r, hr, _, h2, h3, hp, _, _⟩ := place_is h
  rw [hp, nthZ_at l none r hr _ ((valid_iff l).1 ((has_iff l u).1 h).1).2 (by omega) (by omega)]
  omega
theorem has_nth {l : List Rg} (h : validB l = true) {n : Int} (h0 : 0 ≤ n) (hn : n < szL l) : hasF l (nthZ l n) = true := by
  have := (nthF_in h h0 hn).1
  rw [nthF_is h h0 hn] at this
  exact has_of h this
theorem nthZ_inj {l : List Rg} (h : validB l = true) {m n : Int} (hm0 : 0 ≤ m) (hm : m < szL l) (hn0 : 0 ≤ n) (hn : n < szL l) : (nthZ l m < nthZ l n ↔ m < n) ∧ (nthZ l m = nthZ l n ↔ m = n) := by
  have hc := ((valid_iff l).1 h).2
  rcases Int.lt_trichotomy m n with h1 | h1 | h1
  · have := nthZ_lt l none m n hc hm0 h1 hn; omega
  · subst h1; omega
  · have := nthZ_lt l none n m hc hn0 h1 hm; omega
theorem place_nth {l : List Rg} (h : validB l = true) {n : Int} (h0 : 0 ≤ n) (hn : n < szL l) : placeF l (nthZ l n) = n := by
  have hh := has_nth h h0 hn
  obtain ⟨_, _, _, _, _, _, hp0, hp1⟩ := place_is hh
  exact (nthZ_inj h hp0 hp1 h0 hn).2.1 (nth_place hh)
theorem place_lt {l : List Rg} {u v : Int} (hu : hasF l u = true) (hv : hasF l v = true) : placeF l u < placeF l v ↔ u < v := by
  obtain ⟨_, _, _, _, _, _, hu0, hu1⟩ := place_is hu
  obtain ⟨_, _, _, _, _, _, hv0, hv1⟩ := place_is hv
  have := (nthZ_inj ((has_iff l u).1 hu).1 hu0 hu1 hv0 hv1).1
  rw [nth_place hu, nth_place hv] at this
  exact this.symm
theorem sz_pos {l : List Rg} (h : validB l = true) : 0 < szL l ↔ l ≠ [] := by
  cases l with
  | nil => rw [szL_nil]; simp
  | cons y l =>
    have h1 := (rgB_iff y).1 (valid_rg h List.mem_cons_self)
    obtain ⟨_, _, h3⟩ := (chain_cons none y l).1 ((valid_iff _).1 h).2
    have h5 := szL_bd l (some y.f1) h3 (fun q hq => by cases hq; omega)
    rw [szL_cons]
    simp only [ne_eq, reduceCtorEq, not_false_eq_true, iff_true]
    omega
def pairF (f t : List Rg) (u : Int) : Int := (nthF t (placeF f u)).1
theorem pair_is {f t : List Rg} (ht : validB t = true) (he : szL f = szL t) {u : Int} (h : hasF f u = true) : pairF f t u = nthZ t (placeF f u) ∧ hasF t (pairF f t u) = true ∧ placeF t (pairF f t u) = placeF f u := by
  obtain ⟨_, _, _, _, _, _, h0, h1⟩ := place_is h
  have e : pairF f t u = nthZ t (placeF f u) := by unfold pairF; rw [nthF_is ht h0 (by omega)]
  rw [e]
  exact ⟨rfl, has_nth ht h0 (by omega), place_nth ht h0 (by omega)⟩
theorem pair_lt {f t : List Rg} (ht : validB t = true) (he : szL f = szL t) {u v : Int} (hu : hasF f u = true) (hv : hasF f v = true) : pairF f t u < pairF f t v ↔ u < v := by
  obtain ⟨_, h1, h2⟩ := pair_is ht he hu
  obtain ⟨_, h3, h4⟩ := pair_is ht he hv
  rw [← place_lt h1 h3, h2, h4, place_lt hu hv]
theorem pair_back {f t : List Rg} (ht : validB t = true) (he : szL f = szL t) {u : Int} (h : hasF f u = true) : pairF t f (pairF f t u) = u := by
  obtain ⟨_, h1, h2⟩ := pair_is ht he h
  have hf := ((has_iff f u).1 h).1
  rw [(pair_is hf he.symm h1).1, h2, nth_place h]
end Go.Proofs.Ytonljejhlphgpaa

