-- Slimmed by slim.py from the text of this name without 'V'.
import Derived.Test.YtonljejhlphgpaaVP1
import Derived.Test.YtonljejhlphgpaaVG15
set_option linter.unusedVariables false
set_option linter.unusedSimpArgs false
namespace Go.Proofs.Ytonljejhlphgpaa
open Go.RowKit Go.Proofs.Ytonljejhlphgpaa.G Go.Proofs.YtonljejhlphgpaaW.PrintWords
theorem leo_up {α : Type} {f : Nat → Option α} (hm : ∀ k, LeO (f k) (f (k + 1))) {k : Nat} {r : α} (h : f k = some r) : ∀ n, f (k + n) = some r
  | 0 => h
  | n + 1 => hm _ _ (leo_up hm h n)
theorem valid_at (l : List Rg) (k : Nat) (hk : 530 ≤ k) : set_Valid.f k l = some (validB l) := by
  by_cases h : l.length ≤ 512
  · have := leo_up (set_Valid.mono l) (set_Valid_is l) (k - (l.length + 10))
    rwa [show l.length + 10 + (k - (l.length + 10)) = k by omega] at this
  · unfold set_Valid.f validB
    rw [if_pos (by omega)]
    simp [h]
theorem width_at (k : Nat) (hk : 4 ≤ k) (u : Int) : ∃ v, utf_Width.f k u = some v ∧ (v = 0 ↔ ¬ UnitP u) := by
  obtain ⟨k, rfl⟩ : ∃ m, k = m + 4 := ⟨k - 4, by omega⟩
  have hw : 0 ≤ u → u ≤ 1114111 → wrap32 u = u := fun h1 h2 => by unfold wrap32; omega
  unfold UnitP
  simp only [utf_Width.f, utf_Width.j0]
  by_cases h1 : u ≥ 1114240
  · rw [if_pos h1]
    by_cases h2 : u ≤ 1114367
    · rw [if_pos (by simpa using h2)]
      exact ⟨1, rfl, by omega⟩
    · rw [if_neg (by simpa using h2), if_neg (by omega), if_pos (by omega)]
      exact ⟨0, rfl, by omega⟩
  · rw [if_neg h1, if_neg (by simp)]
    by_cases h3 : u < 0
    · rw [if_pos h3]; exact ⟨0, rfl, by omega⟩
    · rw [if_neg h3]
      by_cases h4 : u > 1114111
      · rw [if_pos h4]; exact ⟨0, rfl, by omega⟩
      · rw [if_neg h4, hw (by omega) (by omega)]
        by_cases h5 : u ≥ 55296
        · rw [if_pos h5]
          by_cases h6 : u ≤ 57343
          · rw [if_pos h6]; exact ⟨0, rfl, by omega⟩
          · rw [if_neg h6]
            simp only [utf8_RuneLen.f, utf8_RuneLen.j0]
            rw [if_neg (by omega), if_neg (by omega), if_neg (by omega), if_pos (by omega), if_neg (by simp; omega)]
            by_cases h7 : u ≤ 65535
            · rw [if_pos h7]; exact ⟨3, rfl, by omega⟩
            · rw [if_neg h7, if_pos (by omega)]; exact ⟨4, rfl, by omega⟩
        · rw [if_neg h5]
          simp only [utf8_RuneLen.f, utf8_RuneLen.j0]
          rw [if_neg (by omega)]
          by_cases h6 : u ≤ 127
          · rw [if_pos h6]; exact ⟨1, rfl, by omega⟩
          · rw [if_neg h6]
            by_cases h7 : u ≤ 2047
            · rw [if_pos h7]; exact ⟨2, rfl, by omega⟩
            · rw [if_neg h7, if_neg (by omega), if_neg (by simp), if_pos (by omega)]; exact ⟨3, rfl, by omega⟩
theorem has_printed (k : Nat) (hk : 530 ≤ k) (l : List Rg) (u : Int) : set_Has.f k l u = some (hasF l u) := by
  unfold set_Has.f hasF
  rw [valid_at l k hk]
  simp only [Option.bind_some, set_at.f]
  by_cases hv : validB l = true
  · rw [if_pos hv]
    obtain ⟨r, e, _⟩ := at_spec hv u
    rw [e]
    by_cases h1 : (r : Int) < (l.length : Int)
    · rw [if_pos h1, if_pos (by omega)]; simp [hv, h1]
    · rw [if_neg h1]; simp [h1]
  · rw [if_neg hv]
    have : validB l = false := by simpa using hv
    simp [this]
theorem place_printed (k : Nat) (hk : 530 ≤ k) (l : List Rg) (u : Int) (h : hasF l u = true) : set_Place.f k l u = some (placeF l u, true) := by
  obtain ⟨r, hr, e, _⟩ := place_is h
  unfold set_Place.f placeF
  rw [has_printed k hk, h]
  simp only [Option.bind_some, set_at.f, set_Len.f, e]
  rw [if_pos trivial, if_pos (by omega), if_pos (by omega), if_pos (by omega)]
def PieceP (key : List (List Rg)) (x : S43) : Prop :=
  (x.f0 = 1 ∧ UnitP x.f1) ∨
  (x.f0 = 2 ∧ 0 ≤ x.f2 ∧ x.f2 < (key.length : Int)) ∨
  (x.f0 = 3 ∧ 0 ≤ x.f2 ∧ x.f2 < (key.length : Int) ∧ validB x.f3 = true ∧ lenF x.f3 = lenF (rd_L2 key x.f2))
theorem piece_printed (k : Nat) (hk : 540 ≤ k) (b : Bool) (a q p : List (List Rg)) (e : Bool) (rs : List S43) (c : Int) (x : S43) :
    ∃ v, rule_piece.f k b a q p e rs c x.f0 x.f1 x.f2 x.f3 = some v ∧ (v = 0 → PieceP q x) := by
  obtain ⟨k, rfl⟩ : ∃ m, k = m + 2 := ⟨k - 2, by omega⟩
  obtain ⟨v, hv, hw⟩ := width_at (k + 2) (by omega) x.f1
  have hj : ∀ y : Bool, (x.f0 = 2 ∨ x.f0 = 3) → ∃ v, rule_piece.j0 (k + 2) y b a q p e rs c x.f0 x.f1 x.f2 x.f3 = some v ∧ (v = 0 → PieceP q x) := by
    intro y hx
    have hj1 : ∀ z : Bool, ∃ v, rule_piece.j1 (k + 1) z b a q p e rs c x.f0 x.f1 x.f2 x.f3 = some v ∧ (v = 0 → PieceP q x) := by
      intro z
      simp only [rule_piece.j1]
      by_cases h1 : z = true
      · rw [if_pos h1]; exact ⟨73, rfl, fun h => by omega⟩
      · rw [if_neg h1]
        by_cases h2 : x.f2 < 0
        · rw [if_pos h2]; exact ⟨74, rfl, fun h => by omega⟩
        · rw [if_neg h2]
          by_cases h3 : x.f2 ≥ (q.length : Int)
          · rw [if_pos h3]; exact ⟨74, rfl, fun h => by omega⟩
          · rw [if_neg h3]
            by_cases h4 : x.f0 = 3
            · rw [if_pos h4, valid_at _ _ (by omega)]
              simp only [Option.bind_some, set_Len.f]
              by_cases h5 : validB x.f3 = true
              · rw [if_pos h5, if_pos (by omega), if_pos (by omega)]
                by_cases h6 : lenF x.f3 = lenF (rd_L2 q x.f2)
                · rw [if_pos h6]; exact ⟨0, rfl, fun _ => Or.inr (Or.inr ⟨h4, by omega, by omega, h5, h6⟩)⟩
                · rw [if_neg h6]; exact ⟨75, rfl, fun h => by omega⟩
              · rw [if_neg h5]; exact ⟨75, rfl, fun h => by omega⟩
            · rw [if_neg h4]; exact ⟨0, rfl, fun _ => Or.inr (Or.inl ⟨by omega, by omega, by omega⟩)⟩
    simp only [rule_piece.j0]
    by_cases h1 : y = true
    · rw [if_pos h1]; exact hj1 _
    · rw [if_neg h1]; exact hj1 _
  unfold rule_piece.f
  by_cases h1 : x.f0 = 1
  · rw [if_pos h1, hv]
    simp only [Option.bind_some]
    by_cases h2 : v = 0
    · rw [if_pos h2]; exact ⟨73, rfl, fun h => by omega⟩
    · rw [if_neg h2]
      have hu : UnitP x.f1 := Classical.not_not.1 fun hn => h2 (hw.2 hn)
      by_cases h3 : x.f2 = 0
      · rw [if_pos h3]
        by_cases h4 : (x.f3.length : Int) > 0
        · rw [if_pos h4]; exact ⟨73, rfl, fun h => by omega⟩
        · rw [if_neg h4]; exact ⟨0, rfl, fun _ => Or.inl ⟨h1, hu⟩⟩
      · rw [if_neg h3]; exact ⟨73, rfl, fun h => by omega⟩
  · rw [if_neg h1]
    by_cases h2 : x.f0 = 2
    · rw [if_pos h2]; exact hj _ (Or.inl h2)
    · rw [if_neg h2]
      by_cases h3 : x.f0 = 3
      · rw [if_pos h3]; exact hj _ (Or.inr h3)
      · rw [if_neg h3]; exact ⟨73, rfl, fun h => by omega⟩
theorem rd_at43 (l : List S43) (i : Nat) (h : i < l.length) : rd_T43 l (i : Int) = l[i] := by unfold rd_T43; simp [List.getD_eq_getElem?_getD, List.getElem?_eq_getElem h]
theorem rd_atL2 (l : List (List Rg)) (i : Nat) (h : i < l.length) : rd_L2 l (i : Int) = l[i] := by unfold rd_L2; simp [List.getD_eq_getElem?_getD, List.getElem?_eq_getElem h]
theorem rd_atI (l : List Int) (i : Nat) (h : i < l.length) : rd l (i : Int) = l[i] := by unfold rd; simp [List.getD_eq_getElem?_getD, List.getElem?_eq_getElem h]
theorem next_is (i n : Nat) (h : i < n) (hn : n ≤ 1000000) : wrap64 ((i : Int) + 1) = ((i + 1 : Nat) : Int) := by unfold wrap64; omega
theorem check_l2 (b : Bool) (a q p : List (List Rg)) (e : Bool) (rs : List S43) (c : Int) (hrs : rs.length ≤ 16) : ∀ (d i k : Nat), rs.length - i = d → i ≤ rs.length → d + 541 ≤ k →
    ∃ v, rule_Check.l2 k rs (rs.length : Int) (i : Int) b a q p e rs c = some v ∧ (v = 0 → (∀ j, (hj : j < rs.length) → i ≤ j → PieceP q rs[j]) ∧ 0 ≤ c ∧ c ≤ (rs.length : Int)) := by
  intro d
  induction d with
  | zero =>
    intro i k hd hi hk
    obtain ⟨k, rfl⟩ : ∃ m, k = m + 1 := ⟨k - 1, by omega⟩
    simp only [rule_Check.l2]
    rw [if_neg (by omega)]
    by_cases h1 : c < 0
    · rw [if_pos h1]; exact ⟨76, rfl, fun h => by omega⟩
    · rw [if_neg h1]
      by_cases h2 : c > (rs.length : Int)
      · rw [if_pos h2]; exact ⟨76, rfl, fun h => by omega⟩
      · rw [if_neg h2]; exact ⟨0, rfl, fun _ => ⟨fun j hj hij => by omega, by omega, by omega⟩⟩
  | succ d ih =>
    intro i k hd hi hk
    obtain ⟨k, rfl⟩ : ∃ m, k = m + 1 := ⟨k - 1, by omega⟩
    have hlt : i < rs.length := by omega
    simp only [rule_Check.l2]
    rw [if_pos (by omega), if_pos (by omega), if_pos (by omega), next_is i rs.length hlt (by omega), rd_at43 rs i hlt]
    obtain ⟨v, hv, hp⟩ := piece_printed k (by omega) b a q p e rs c rs[i]
    rw [hv]
    simp only [Option.bind_some]
    by_cases h1 : v = 0
    · rw [if_pos h1]
      obtain ⟨v', hv', hp'⟩ := ih (i + 1) k (by omega) (by omega) (by omega)
      refine ⟨v', hv', fun h0 => ?_⟩
      obtain ⟨h2, h3⟩ := hp' h0
      refine ⟨fun j hj hij => ?_, h3⟩
      rcases Nat.lt_or_ge i j with h4 | h4
      · exact h2 j hj h4
      · obtain rfl : i = j := by omega
        exact hp h1
    · rw [if_neg h1]; exact ⟨v, rfl, fun h => absurd h h1⟩
def SetsP (l : List (List Rg)) : Prop := ∀ s ∈ l, validB s = true ∧ s ≠ []
theorem check_l01 (b : Bool) (a q p : List (List Rg)) (e : Bool) (rs : List S43) (c : Int) (hrs : rs.length ≤ 16) (ls : List (List (List Rg))) (hls : ls.length ≤ 3) (hl8 : ∀ l ∈ ls, l.length ≤ 8) : ∀ (d i k : Nat), ls.length - i = d → i ≤ ls.length → d * 10 + 600 ≤ k →
    ∃ v, rule_Check.l0 k ls (ls.length : Int) (i : Int) b a q p e rs c = some v ∧ (v = 0 → (∀ j, (hj : j < ls.length) → i ≤ j → SetsP ls[j]) ∧ (∀ x ∈ rs, PieceP q x) ∧ 0 ≤ c ∧ c ≤ (rs.length : Int)) := by
  intro d
  induction d with
  | zero =>
    intro i k hd hi hk
    obtain ⟨k, rfl⟩ : ∃ m, k = m + 1 := ⟨k - 1, by omega⟩
    simp only [rule_Check.l0]
    rw [if_neg (by omega)]
    obtain ⟨v, hv, hp⟩ := check_l2 b a q p e rs c hrs rs.length 0 k (by omega) (by omega) (by omega)
    refine ⟨v, hv, fun h0 => ?_⟩
    obtain ⟨h1, h2⟩ := hp h0
    refine ⟨fun j hj hij => by omega, fun x hx => ?_, h2⟩
    obtain ⟨j, hj, rfl⟩ := List.getElem_of_mem hx
    exact h1 j hj (Nat.zero_le _)
  | succ d ih =>
    intro i k hd hi hk
    obtain ⟨k, rfl⟩ : ∃ m, k = m + 1 := ⟨k - 1, by omega⟩
    have hlt : i < ls.length := by omega
    have hrd : rd_L4 ls (i : Int) = ls[i] := by unfold rd_L4; simp [List.getD_eq_getElem?_getD, List.getElem?_eq_getElem hlt]
    simp only [rule_Check.l0]
    rw [if_pos (by omega), if_pos (by omega), if_pos (by omega), hrd]
    have hq8 := hl8 ls[i] (List.getElem_mem hlt)
    have hin : ∀ (m t k : Nat), ls[i].length - t = m → t ≤ ls[i].length → m + 1 + d * 10 + 600 ≤ k →
        ∃ v, rule_Check.l1 k ls (ls.length : Int) (i : Int) ls[i] (ls[i].length : Int) (t : Int) b a q p e rs c = some v ∧ (v = 0 → (∀ j, (hj : j < ls[i].length) → t ≤ j → validB ls[i][j] = true ∧ ls[i][j] ≠ []) ∧ (∀ j, (hj : j < ls.length) → i + 1 ≤ j → SetsP ls[j]) ∧ (∀ x ∈ rs, PieceP q x) ∧ 0 ≤ c ∧ c ≤ (rs.length : Int)) := by
      intro m
      induction m with
      | zero =>
        intro t k hm ht hk
        obtain ⟨k, rfl⟩ : ∃ m, k = m + 1 := ⟨k - 1, by omega⟩
        simp only [rule_Check.l1]
        rw [if_neg (by omega), next_is i ls.length hlt (by omega)]
        obtain ⟨v, hv, hp⟩ := ih (i + 1) k (by omega) (by omega) (by omega)
        exact ⟨v, hv, fun h0 => ⟨fun j hj hij => by omega, hp h0⟩⟩
      | succ m ihm =>
        intro t k hm ht hk
        obtain ⟨k, rfl⟩ : ∃ m, k = m + 1 := ⟨k - 1, by omega⟩
        have htl : t < ls[i].length := by omega
        simp only [rule_Check.l1]
        rw [if_pos (by omega), if_pos (by omega), if_pos (by omega), rd_atL2 _ t htl, valid_at _ _ (by omega), next_is t ls[i].length htl (by omega)]
        simp only [Option.bind_some]
        by_cases h1 : validB ls[i][t] = true
        · rw [if_pos h1]
          by_cases h2 : (ls[i][t].length : Int) = 0
          · rw [if_pos h2]; exact ⟨71, rfl, fun h => by omega⟩
          · rw [if_neg h2]
            obtain ⟨v, hv, hp⟩ := ihm (t + 1) k (by omega) (by omega) (by omega)
            refine ⟨v, hv, fun h0 => ?_⟩
            obtain ⟨h3, h4⟩ := hp h0
            refine ⟨fun j hj hij => ?_, h4⟩
            rcases Nat.lt_or_ge t j with h5 | h5
            · exact h3 j hj h5
            · obtain rfl : t = j := by omega
              exact ⟨h1, fun he => h2 (by rw [he]; rfl)⟩
        · rw [if_neg h1]; exact ⟨71, rfl, fun h => by omega⟩
    obtain ⟨v, hv, hp⟩ := hin ls[i].length 0 k (by omega) (by omega) (by omega)
    refine ⟨v, hv, fun h0 => ?_⟩
    obtain ⟨h1, h2, h3⟩ := hp h0
    refine ⟨fun j hj hij => ?_, h3⟩
    rcases Nat.lt_or_ge i j with h4 | h4
    · exact h2 j hj h4
    · obtain rfl : i = j := by omega
      intro s hs
      obtain ⟨t, ht, rfl⟩ := List.getElem_of_mem hs
      exact h1 t ht (Nat.zero_le _)
structure RuleP (a q p : List (List Rg)) (rs : List S43) (c : Int) : Prop where
  key1 : 1 ≤ q.length
  key8 : q.length ≤ 8
  ante8 : a.length ≤ 8
  post8 : p.length ≤ 8
  res16 : rs.length ≤ 16
  ante : SetsP a
  key : SetsP q
  post : SetsP p
  pieces : ∀ x ∈ rs, PieceP q x
  cur0 : 0 ≤ c
  cur1 : c ≤ (rs.length : Int)
theorem check_printed (b : Bool) (a q p : List (List Rg)) (e : Bool) (rs : List S43) (c : Int) (k : Nat) (hk : 700 ≤ k) :
    ∃ v, rule_Check.f k b a q p e rs c = some v ∧ (v = 0 → RuleP a q p rs c) := by
  obtain ⟨k, rfl⟩ : ∃ m, k = m + 1 := ⟨k - 1, by omega⟩
  have hj : ∀ y : Bool, (y = false → 1 ≤ q.length ∧ q.length ≤ 8) → ∃ v, rule_Check.j0 (k + 1) y b a q p e rs c = some v ∧ (v = 0 → RuleP a q p rs c) := by
    intro y hy
    simp only [rule_Check.j0]
    by_cases h1 : y = true
    · rw [if_pos h1]; exact ⟨70, rfl, fun h => by omega⟩
    · rw [if_neg h1]
      have hq := hy (by simpa using h1)
      by_cases h2 : (a.length : Int) > 8
      · rw [if_pos h2]; exact ⟨72, rfl, fun h => by omega⟩
      · rw [if_neg h2]
        by_cases h3 : (p.length : Int) > 8
        · rw [if_pos h3]; exact ⟨72, rfl, fun h => by omega⟩
        · rw [if_neg h3]
          by_cases h4 : (rs.length : Int) > 16
          · rw [if_pos h4]; exact ⟨72, rfl, fun h => by omega⟩
          · rw [if_neg h4]
            simp only [Option.bind_some]
            obtain ⟨v, hv, hp⟩ := check_l01 b a q p e rs c (by omega) [a, q, p] (by simp) (by
              intro l hl
              simp only [List.mem_cons, List.not_mem_nil, or_false] at hl
              rcases hl with rfl | rfl | rfl <;> omega) 3 0 k (by simp) (by simp) (by omega)
            refine ⟨v, hv, fun h0 => ?_⟩
            obtain ⟨h5, h6, h7, h8⟩ := hp h0
            exact ⟨hq.1, hq.2, by omega, by omega, by omega, h5 0 (by simp) (by omega), h5 1 (by simp) (by omega), h5 2 (by simp) (by omega), h6, h7, h8⟩
  unfold rule_Check.f
  by_cases h1 : (q.length : Int) < 1
  · rw [if_pos h1]; exact hj true (fun h => by cases h)
  · rw [if_neg h1]; exact hj _ (fun h => by simp at h; omega)
def StandsP (l : List (List Rg)) (us : List Int) : Prop := l.length = us.length ∧ ∀ j, (h1 : j < l.length) → (h2 : j < us.length) → hasF l[j] us[j] = true
theorem stands_l0 (l : List (List Rg)) (us : List Int) (he : l.length = us.length) (hl : l.length ≤ 8) : ∀ (d i k : Nat), l.length - i = d → i ≤ l.length → d + 531 ≤ k →
    ∃ v, rule_stands.l0 k us l (l.length : Int) (i : Int) = some v ∧ (v = true ↔ ∀ j, (h1 : j < l.length) → (h2 : j < us.length) → i ≤ j → hasF l[j] us[j] = true) := by
  intro d
  induction d with
  | zero =>
    intro i k hd hi hk
    obtain ⟨k, rfl⟩ : ∃ m, k = m + 1 := ⟨k - 1, by omega⟩
    simp only [rule_stands.l0]
    rw [if_neg (by omega)]
    exact ⟨true, rfl, ⟨fun _ j h1 h2 h3 => by omega, fun _ => rfl⟩⟩
  | succ d ih =>
    intro i k hd hi hk
    obtain ⟨k, rfl⟩ : ∃ m, k = m + 1 := ⟨k - 1, by omega⟩
    have hlt : i < l.length := by omega
    have hlu : i < us.length := by omega
    simp only [rule_stands.l0]
    rw [if_pos (by omega), if_pos (by omega), if_pos (by omega), if_pos (by omega), rd_atL2 l i hlt, rd_atI us i hlu, has_printed k (by omega), next_is i l.length hlt (by omega)]
    simp only [Option.bind_some]
    by_cases h1 : hasF l[i] us[i] = true
    · rw [if_pos h1]
      obtain ⟨v, hv, hp⟩ := ih (i + 1) k (by omega) (by omega) (by omega)
      refine ⟨v, hv, hp.trans ⟨fun h j a1 a2 a3 => ?_, fun h j a1 a2 a3 => h j a1 a2 (by omega)⟩⟩
      rcases Nat.lt_or_ge i j with h5 | h5
      · exact h j a1 a2 h5
      · obtain rfl : i = j := by omega
        exact h1
    · rw [if_neg h1]; exact ⟨false, rfl, ⟨(fun h => by cases h), fun h => absurd (h i hlt hlu (Nat.le_refl _)) h1⟩⟩
theorem stands_printed (l : List (List Rg)) (us : List Int) (hl : l.length ≤ 8) (k : Nat) (hk : 600 ≤ k) : ∃ v, rule_stands.f k l us = some v ∧ (v = true ↔ StandsP l us) := by
  unfold rule_stands.f
  by_cases h1 : (l.length : Int) = (us.length : Int)
  · rw [if_pos h1]
    obtain ⟨v, hv, hp⟩ := stands_l0 l us (by omega) hl l.length 0 k (by omega) (by omega) (by omega)
    exact ⟨v, hv, hp.trans ⟨fun h => ⟨by omega, fun j a1 a2 => h j a1 a2 (Nat.zero_le _)⟩, fun h j a1 a2 _ => h.2 j a1 a2⟩⟩
  · rw [if_neg h1]; exact ⟨false, rfl, ⟨(fun h => by cases h), fun h => absurd (by rw [h.1] : (l.length : Int) = (us.length : Int)) h1⟩⟩
def layF (q : List (List Rg)) (us : List Int) (x : S43) : Int :=
  if x.f0 = 2 then rd us x.f2 else if x.f0 = 3 then (nthF x.f3 (placeF (rd_L2 q x.f2) (rd us x.f2))).1 else x.f1
theorem lays_l0 (b : Bool) (a q p : List (List Rg)) (e : Bool) (rs : List S43) (c : Int) (us : List Int) (hr : RuleP a q p rs c) (hs : StandsP q us) : ∀ (d i k : Nat), rs.length - i = d → i ≤ rs.length → d + 531 ≤ k →
    rule_Lays.l0 k us ((rs.take i).map (layF q us)) rs (rs.length : Int) (i : Int) b a q p e rs c = some ((rs.map (layF q us)).take c.toNat, (rs.map (layF q us)).drop c.toNat) := by
  have h16 := hr.res16
  have hc0 := hr.cur0
  have hc1 := hr.cur1
  intro d
  induction d with
  | zero =>
    intro i k hd hi hk
    obtain ⟨k, rfl⟩ : ∃ m, k = m + 1 := ⟨k - 1, by omega⟩
    simp only [rule_Lays.l0]
    obtain rfl : i = rs.length := by omega
    rw [if_neg (by omega), List.take_length]
    simp only [List.length_map]
    have e1 : wrap64 ((rs.length : Int) - c) = (rs.length : Int) - c := by unfold wrap64; omega
    rw [e1, if_pos hc0, if_pos (by omega), if_pos (by omega), if_pos (by omega), if_pos hc1]
  | succ d ih =>
    intro i k hd hi hk
    obtain ⟨k, rfl⟩ : ∃ m, k = m + 1 := ⟨k - 1, by omega⟩
    have hlt : i < rs.length := by omega
    have hq := hs.1
    have hpc := hr.pieces rs[i] (List.getElem_mem hlt)
    have hnext : ((rs.take i).map (layF q us)) ++ [layF q us rs[i]] = (rs.take (i + 1)).map (layF q us) := by
      rw [List.take_succ_eq_append_getElem hlt, List.map_append]; rfl
    have hlen : ((rs.take i).map (layF q us)).length < 17592186044416 := by rw [List.length_map, List.length_take]; omega
    have hih := ih (i + 1) k (by omega) (by omega) (by omega)
    rw [← hnext] at hih
    simp only [rule_Lays.l0]
    rw [if_pos (by omega), if_pos (by omega), if_pos (by omega), rd_at43 rs i hlt, next_is i rs.length hlt (by omega)]
    unfold layF at hih ⊢
    rcases hpc with ⟨h1, _⟩ | ⟨h1, h2, h3⟩ | ⟨h1, h2, h3, h4, h5⟩
    · rw [if_neg (by omega), if_neg (by omega)] at hih
      rw [if_neg (by omega), if_neg (by omega)]
      unfold layF at hlen
      rw [if_pos hlen]
      exact hih
    · rw [if_pos h1] at hih
      rw [if_pos h1, if_pos h2, if_pos (by omega)]
      unfold layF at hlen
      rw [if_pos hlen]
      exact hih
    · rw [if_neg (by omega), if_pos h1] at hih
      rw [if_neg (by omega), if_pos h1, if_pos h2, if_pos h3, if_pos (by omega)]
      obtain ⟨j, hj⟩ : ∃ j : Nat, rs[i].f2 = (j : Int) := ⟨rs[i].f2.toNat, by omega⟩
      have hjq : j < q.length := by omega
      have hju : j < us.length := by omega
      have hh := hs.2 j hjq hju
      rw [hj] at hih ⊢
      rw [rd_atL2 q j hjq, rd_atI us j hju] at hih ⊢
      rw [place_printed k (by omega) _ _ hh]
      simp only [Option.bind_some, set_Nth.f]
      unfold layF at hlen
      rw [if_pos hlen]
      exact hih
theorem lays_printed (b : Bool) (a q p : List (List Rg)) (e : Bool) (rs : List S43) (c : Int) (us : List Int) (k : Nat) (hk : 701 ≤ k) :
    ∃ v, rule_Check.f k b a q p e rs c = some v ∧ (v = 0 → RuleP a q p rs c) ∧
      ((v = 0 ∧ StandsP q us → rule_Lays.f k b a q p e rs c us = some ((rs.map (layF q us)).take c.toNat, (rs.map (layF q us)).drop c.toNat)) ∧
       (¬ (v = 0 ∧ StandsP q us) → rule_Lays.f k b a q p e rs c us = some ([], []))) := by
  obtain ⟨v, hv, hp⟩ := check_printed b a q p e rs c k (by omega)
  obtain ⟨k, rfl⟩ : ∃ m, k = m + 1 := ⟨k - 1, by omega⟩
  refine ⟨v, hv, hp, fun h => ?_, fun h => ?_⟩
  · obtain ⟨h0, hs⟩ := h
    have hr := hp h0
    obtain ⟨t, ht, hti⟩ := stands_printed q us hr.key8 (k + 1) (by omega)
    unfold rule_Lays.f
    rw [hv]
    simp only [Option.bind_some]
    rw [if_pos h0, ht]
    simp only [Option.bind_some, hti.2 hs, rule_Lays.j0]
    rw [if_neg (by simp)]
    have := lays_l0 b a q p e rs c us hr hs rs.length 0 k (by omega) (by omega) (by have := hr.res16; omega)
    simpa using this
  · unfold rule_Lays.f
    rw [hv]
    simp only [Option.bind_some]
    by_cases h0 : v = 0
    · have hr := hp h0
      obtain ⟨t, ht, hti⟩ := stands_printed q us hr.key8 (k + 1) (by omega)
      have htf : t = false := by
        cases t with
        | false => rfl
        | true => exact absurd ⟨h0, hti.1 rfl⟩ h
      rw [if_pos h0, ht]
      simp only [Option.bind_some, htf, rule_Lays.j0]
      rw [if_pos (by simp)]
    · rw [if_neg h0]
      simp only [rule_Lays.j0]
      rw [if_pos trivial]
end Go.Proofs.Ytonljejhlphgpaa

