-- Slimmed by slim.py from the text of this name without 'Ke'.
import Derived.Test.YtalbchgiijoeaaaDoorKeP10
import Derived.Test.YtalbchgiijoeaaaDoorKeG43
namespace Go.Proofs.YtalbchgiijoeaaaDoor
open Go.RowKit Go.Lib Go.Proofs.YtalbchgiijoeaaaDoor.G
open Go.Proofs.YtalbchgiijoeaaaDoorW.PrintWords
set_option linter.unusedVariables false
set_option linter.unusedSimpArgs false
theorem bord_mid (s : ByteArray) (A : Nat) (h0 : 0 < A) (h1 : A < s.size) : Bord s A ↔ ∀ f, A ≤ f + 3 → f < A → f + dW s f ≤ A := by
  rw [← border_iff s A h0 h1]
  unfold Bord
  rw [Int.toNat_natCast]
  exact ⟨fun h => by rcases h with h | h | h; omega; omega; exact h.2.2, fun h => .inr (.inr ⟨by omega, by omega, h⟩)⟩
theorem near1 (s t : ByteArray) (A B m r : Nat) (hs : s.size = A + B) (ht : t.size = m + r) (hm : m ≤ A) (hr : r ≤ B) (hm3 : m = A ∨ m = 3) (hr3 : r = B ∨ r = 3)
    (hb : ∀ j, j < m + r → bN t j = bN s (A - m + j)) (h0 : 0 < m) (h1 : 0 < r) : (∀ f, A ≤ f + 3 → f < A → f + dW s f ≤ A) ↔ ∀ f, m ≤ f + 3 → f < m → f + dW t f ≤ m := by
  constructor
  · intro h f h2 h3
    by_cases c : f + dW t f ≤ m
    · exact c
    · exfalso
      have he : ¬ Err t f := fun he => by have := (err_of (by omega) he).2.2; omega
      have h4 := enc_of_not_err (by omega) he
      have h5 := h4.le
      have h6 := h4.move (t := s) (j := A - m + f) (by omega) (fun k hk => by rw [Nat.add_assoc]; exact (hb _ (by omega)).symm)
      have h7 := h (A - m + f) (by omega) (by omega)
      have h8 := dec_of h6
      unfold dW at h7 c
      rw [h8] at h7
      simp only at h7
      omega
  · intro h f h2 h3
    by_cases c : f + dW s f ≤ A
    · exact c
    · exfalso
      have he : ¬ Err s f := fun he => by have := (err_of (by omega) he).2.2; omega
      have h4 := enc_of_not_err (by omega) he
      have h5 := h4.le
      have h6 := h4.move (t := t) (j := f - (A - m)) (by omega) (fun k hk => by rw [hb _ (by omega)]; congr 1; omega)
      have h7 := h (f - (A - m)) (by omega) (by omega)
      have h8 := dec_of h6
      unfold dW at h7 c
      rw [h8] at h7
      simp only at h7
      omega
theorem near (s t : ByteArray) (A B m r : Nat) (hs : s.size = A + B) (ht : t.size = m + r) (hm : m ≤ A) (hr : r ≤ B) (hm3 : m = A ∨ m = 3) (hr3 : r = B ∨ r = 3)
    (hb : ∀ j, j < m + r → bN t j = bN s (A - m + j)) : Bord s A ↔ Bord t m := by
  by_cases c : A = 0
  · exact ⟨fun _ => .inr (.inl (by omega)), fun _ => .inr (.inl (by omega))⟩
  by_cases d : B = 0
  · exact ⟨fun _ => .inl (by omega), fun _ => .inl (by omega)⟩
  rw [bord_mid s A (by omega) (by omega), bord_mid t m (by omega) (by omega)]
  exact near1 s t A B m r hs ht hm hr hm3 hr3 hb (by omega) (by omega)
theorem head_size (b : ByteArray) (h : 3 ≤ b.size) : (b.extract 0 3).size = 3 := by rw [ByteArray.size_extract]; omega
theorem bN_head (b : ByteArray) (j : Nat) (h : j < 3) : bN (b.extract 0 3) j = bN b j := by
  rw [bN_list, bN_list, extract_data, List.getD_eq_getElem?_getD, List.getD_eq_getElem?_getD, List.drop_zero, List.getElem?_take_of_lt (by omega)]
theorem near2 (a b x y : ByteArray) (hx : (x = a) ∨ (3 < a.size ∧ x = a.extract (a.size - 3) a.size)) (hy : y = b ∨ (3 < b.size ∧ y = b.extract 0 3)) : Bord (a ++ b) a.size ↔ Bord (x ++ y) x.size := by
  have sx : x.size ≤ a.size ∧ (x.size = a.size ∨ x.size = 3) ∧ ∀ j, j < x.size → bN x j = bN a (a.size - x.size + j) := by
    rcases hx with rfl | ⟨h, rfl⟩
    · exact ⟨Nat.le_refl _, .inl rfl, fun j _ => by rw [Nat.sub_self, Nat.zero_add]⟩
    · have e : (a.extract (a.size - 3) a.size).size = 3 := by rw [tail_size]; omega
      exact ⟨by omega, .inr e, fun j hj => by rw [e, bN_tail]⟩
  have sy : y.size ≤ b.size ∧ (y.size = b.size ∨ y.size = 3) ∧ ∀ j, j < y.size → bN y j = bN b j := by
    rcases hy with rfl | ⟨h, rfl⟩
    · exact ⟨Nat.le_refl _, .inl rfl, fun j _ => rfl⟩
    · have e := head_size b (by omega)
      exact ⟨by omega, .inr e, fun j hj => bN_head b j (by omega)⟩
  refine near (a ++ b) (x ++ y) a.size b.size x.size y.size (app_size _ _) (app_size _ _) sx.1 sy.1 sx.2.1 sy.2.1 fun j hj => ?_
  by_cases c : j < x.size
  · rw [bN_left x y j c, sx.2.2 j c, bN_left a b _ (by omega)]
  · obtain ⟨i, rfl⟩ : ∃ i, j = x.size + i := ⟨j - x.size, by omega⟩
    have hxa := sx.1
    rw [bN_right, sy.2.2 i (by omega), show a.size - x.size + (x.size + i) = a.size + i by omega, bN_right]
theorem utfPieces_pure (a b : ByteArray) (ha : a.size ≤ 1048576) (hb : b.size ≤ 1048576) (_zz : a.size + b.size ≤ 1048576) : ∃ k, respelllaw01_UtfPieces.f k a b = some true := by
  refine ⟨100000010, ?_⟩
  have hc1 := cut_len a
  have hc2 := cut_len b
  have hsz := app_size a b
  obtain ⟨t, ht, h1⟩ := utf_border 100000000 (a ++ b) (a.size : Int) (by omega)
  have hd : decide (cutF a ++ cutF b = cutF (a ++ b)) = t := by
    rw [Bool.eq_iff_iff, h1, decide_eq_true_iff]
    exact pieces_iff a b
  unfold respelllaw01_UtfPieces.f respelllaw01_shown.f
  rw [Option.bind_some, if_pos rfl, if_pos (by omega), ht, Option.bind_some, cut_is a (by omega), Option.bind_some, cut_is b (by omega), Option.bind_some, Option.bind_some, if_pos (by simp; omega), Option.bind_some, if_pos (by simp; omega),
    cut_is (a ++ b) (by omega), Option.bind_some, List.nil_append, same_is _ _ _ (by rw [List.length_append]; omega) (by rw [List.length_append]; omega), Option.bind_some, hd]
  have fin : ∀ x y : ByteArray, ((x = a) ∨ (3 < a.size ∧ x = a.extract (a.size - 3) a.size)) → (y = b ∨ (3 < b.size ∧ y = b.extract 0 3)) → x.size + y.size ≤ 2097152 →
      (utf_Border.f (100000000 + 10) (x ++ y) (x.size : Int)).bind (fun t301 => some (t == t301)) = some true := by
    intro x y hx hy hz
    obtain ⟨u, hu, h2⟩ := utf_border 100000000 (x ++ y) (x.size : Int) (by rw [app_size]; omega)
    rw [hu, Option.bind_some]
    have : t = u := by rw [Bool.eq_iff_iff, h1, h2]; exact near2 a b x y hx hy
    rw [this]; simp
  have hw : (a.size : Int) > 3 → wrap64 ((a.size : Int) - 3) = ((a.size - 3 : Nat) : Int) := by
    intro h; rw [wrap64_id _ (by omega) (by omega)]; omega
  have hts : (a.extract (a.size - 3) a.size).size = a.size - (a.size - 3) := tail_size _ _
  have ht2 : (t == t) = true := by simp
  by_cases ca : (a.size : Int) > 3
  · rw [if_pos ca, hw ca, if_pos (by omega), if_pos (by omega)]
    rw [Int.toNat_natCast]
    by_cases cb : (b.size : Int) > 3
    · have hh := head_size b (by omega)
      rw [if_pos cb, if_pos (by decide), if_pos (by omega), if_pos ht2, if_pos (by omega)]
      exact fin _ _ (.inr ⟨by omega, rfl⟩) (.inr ⟨by omega, rfl⟩) (by omega)
    · rw [if_neg cb, if_pos ht2, if_pos (by omega)]
      exact fin _ _ (.inr ⟨by omega, rfl⟩) (.inl rfl) (by omega)
  · rw [if_neg ca]
    by_cases cb : (b.size : Int) > 3
    · have hh := head_size b (by omega)
      rw [if_pos cb, if_pos (by decide), if_pos (by omega), if_pos ht2, if_pos (by omega)]
      exact fin _ _ (.inl rfl) (.inr ⟨by omega, rfl⟩) (by omega)
    · rw [if_neg cb, if_pos ht2, Option.bind_some, ht2]
end Go.Proofs.YtalbchgiijoeaaaDoor

