-- Slimmed by slim.py from the text of this name without 'Kc'.
import Derived.Test.YtalbchgiijoeaaaDoorKcP6
import Derived.Test.YtalbchgiijoeaaaDoorKcG7
import Derived.Test.YtalbchgiijoeaaaDoorKcG22
import Derived.Test.YtalbchgiijoeaaaDoorKcG23
import Derived.Test.YtalbchgiijoeaaaDoorKcG24
namespace Go.Proofs.YtalbchgiijoeaaaDoor
open Go.RowKit Go.Lib Go.Proofs.YtalbchgiijoeaaaDoor.G
open Go.Proofs.YtalbchgiijoeaaaDoorW.PrintWords
set_option linter.unusedVariables false
set_option linter.unusedSimpArgs false
def c41 (x : Nat × Nat) : S41 := ⟨(x.1 : Int), (x.2 : Int)⟩
theorem units_from (s : ByteArray) (hs : s.size ≤ 4398046511104) : ∀ f i (acc : List S41) k, s.size - i ≤ f → acc.length + s.size ≤ i + 4398046511104 → f + 50 ≤ k →
    respellref01_Units.l0 k s acc i = some (acc ++ (uF s f i).map c41) := by
  intro f
  induction f with
  | zero =>
    intro i acc k h1 h2 h3
    obtain ⟨k, rfl⟩ : ∃ m, k = m + 1 := ⟨k - 1, by omega⟩
    rw [respellref01_Units.l0, if_neg (by omega)]
    simp [uF]
  | succ f ih =>
    intro i acc k h1 h2 h3
    obtain ⟨k, rfl⟩ : ∃ m, k = m + 1 := ⟨k - 1, by omega⟩
    by_cases c : i < s.size
    · have hw := dW_le c
      have hb := bN_lt s i
      have hlen := wid_dU c
      obtain ⟨m, rfl⟩ : ∃ m, k = m + 40 := ⟨k - 40, by omega⟩
      rw [respellref01_Units.l0, if_pos (by omega), begins_at m s i (by omega) c]
      rw [Option.bind_some]
      have hstep := ih (i + dW s i) (acc ++ [c41 (i, dU s i)]) (m + 40) (by omega) (by simp; omega) (by omega)
      have hres : acc ++ [c41 (i, dU s i)] ++ (uF s f (i + dW s i)).map c41 = acc ++ (uF s (f + 1) i).map c41 := by
        rw [List.append_assoc]; congr 1; simp only [uF]; rw [if_pos c]; rfl
      rw [hres] at hstep
      have hnext : wrap64 ((i : Int) + (dW s i : Int)) = ((i + dW s i : Nat) : Int) := by rw [wrap64_id _ (by omega) (by omega)]; omega
      by_cases he : Err s i
      · obtain ⟨e1, e2, e3⟩ := err_of c he
        have hu : wrap64 (1114112 + wrap64 (bt s (i : Int))) = ((dU s i : Nat) : Int) := by rw [bt_bN c, wrap64_id ((bN s i : Nat) : Int) (by omega) (by omega), wrap64_id _ (by omega) (by omega)]; omega
        rw [if_pos he, if_pos (by decide), if_pos (by omega), if_pos (by omega), hu, ref_width (m + 37), Option.bind_some, hlen, hnext]
        exact hstep
      · have hU : ((Utf8.decode s i).1 : Int) = ((dU s i : Nat) : Int) := by unfold dU; rw [if_neg he]
        rw [if_neg he, if_neg (by omega), if_pos (by omega), hU, ref_width (m + 37), Option.bind_some, hlen, hnext]
        exact hstep
    · rw [respellref01_Units.l0, if_neg (by omega)]
      simp only [uF]
      rw [if_neg c]
      simp
theorem ref_units (k : Nat) (s : ByteArray) (hs : s.size ≤ 4398046511104) (hk : s.size + 50 ≤ k) : respellref01_Units.f k s = some ((units s).map c41) := by
  unfold respellref01_Units.f
  exact units_from s hs s.size 0 [] k (by omega) (by simp; omega) hk
theorem border_l0 (a : Int) (l : List S41) (hl : l.length ≤ 4398046511104) : ∀ d j k, l.length - j = d → d < k → respellref01_Border.l0 k a l j = some ((l.drop j).any (fun x => x.f0 == a) || a == 0) := by
  intro d
  induction d with
  | zero =>
    intro j k h1 h2
    obtain ⟨k, rfl⟩ : ∃ m, k = m + 1 := ⟨k - 1, by omega⟩
    rw [respellref01_Border.l0, if_neg (by omega), List.drop_of_length_le (by omega)]
    rfl
  | succ d ih =>
    intro j k h1 h2
    obtain ⟨k, rfl⟩ : ∃ m, k = m + 1 := ⟨k - 1, by omega⟩
    have hj : j < l.length := by omega
    have hx : rd_T41 l (j : Int) = l[j] := by unfold rd_T41; rw [Int.toNat_natCast, List.getD_eq_getElem?_getD, List.getElem?_eq_getElem hj]; rfl
    rw [respellref01_Border.l0, if_pos (by omega), if_pos (by omega), hx, List.drop_eq_getElem_cons hj, List.any_cons]
    by_cases c : l[j].f0 = a
    · rw [if_pos c, c]; simp
    · rw [if_neg c, wrap64_id _ (by omega) (by omega), show ((j : Int) + 1) = ((j + 1 : Nat) : Int) by omega, ih (j + 1) k (by omega) (by omega)]
      rw [show (l[j].f0 == a) = false by simpa using c, Bool.false_or]
def Bord (s : ByteArray) (a : Int) : Prop := a = s.size ∨ a = 0 ∨ (0 < a ∧ a < s.size ∧ Reach s 0 a.toNat)
theorem ref_border (k : Nat) (s : ByteArray) (a : Int) (hs : s.size ≤ 4398046511104) (hk : s.size + 50 ≤ k) : ∃ b, respellref01_Border.f k s a = some b ∧ (b = true ↔ Bord s a) := by
  unfold respellref01_Border.f
  by_cases c : a = (s.size : Int)
  · rw [if_pos c]; exact ⟨true, rfl, fun _ => .inl c, fun _ => rfl⟩
  · have hlen := uF_len s s.size 0
    rw [if_neg c, ref_units k s hs hk, Option.bind_some, show (0 : Int) = ((0 : Nat) : Int) from rfl, border_l0 a _ (by rw [List.length_map]; unfold units; omega) _ 0 k rfl (by rw [List.length_map]; unfold units; omega)]
    refine ⟨_, rfl, ?_⟩
    rw [List.drop_zero, Bool.or_eq_true, List.any_eq_true]
    constructor
    · rintro (⟨x, hx, he⟩ | h)
      · obtain ⟨⟨p, u⟩, hy, rfl⟩ := List.mem_map.1 hx
        obtain ⟨r, h1, h2⟩ := (uF_mem s p u s.size 0 (by omega)).1 hy
        have he' : (p : Int) = a := by simpa [c41] using he
        subst he'
        by_cases h0 : p = 0
        · exact .inr (.inl (by omega))
        · exact .inr (.inr ⟨by omega, by omega, by rw [Int.toNat_natCast]; exact r⟩)
      · exact .inr (.inl (by simpa using h))
    · rintro (h | h | ⟨h1, h2, h3⟩)
      · exact absurd h c
      · exact .inr (by simpa using h)
      · refine .inl ⟨c41 (a.toNat, dU s a.toNat), List.mem_map.2 ⟨_, (uF_mem s _ _ s.size 0 (by omega)).2 ⟨h3, by omega, rfl⟩, rfl⟩, ?_⟩
        simp only [c41, beq_iff_eq]; omega
theorem b_loop (s : ByteArray) (a : Nat) (ha : a < s.size) (hs : s.size ≤ 4398046511104) : ∀ d f k, a - f = d → d < k → f ≤ a →
    ∃ b, utf_Border.l0 k s a f = some b ∧ (b = true ↔ ∀ g, f ≤ g → g < a → g + dW s g ≤ a) := by
  intro d
  induction d with
  | zero =>
    intro f k h1 h2 h3
    obtain ⟨k, rfl⟩ : ∃ m, k = m + 1 := ⟨k - 1, by omega⟩
    rw [utf_Border.l0, if_neg (by omega)]
    exact ⟨true, rfl, fun _ g h4 h5 => by omega, fun _ => rfl⟩
  | succ d ih =>
    intro f k h1 h2 h3
    obtain ⟨k, rfl⟩ : ∃ m, k = m + 1 := ⟨k - 1, by omega⟩
    have hdec : utf8_DecodeRuneInString.f (s.extract f s.size) = some (((Utf8.decode s f).1 : Int), ((Utf8.decode s f).2 : Int)) := by
      unfold utf8_DecodeRuneInString.f Lib.decodeGo
      rw [if_neg (by rw [tail_size]; omega), dec_tail]; rfl
    rw [utf_Border.l0, if_pos (by omega), if_pos (by omega), if_pos (by omega), Int.toNat_natCast, hdec, Option.bind_some, wrap64_id _ (by omega) (by omega)]
    by_cases c : ((Utf8.decode s f).2 : Int) > (a : Int) - (f : Int)
    · rw [if_pos c]
      refine ⟨false, rfl, fun h => (by cases h), fun h => ?_⟩
      have := h f (Nat.le_refl _) (by omega)
      unfold dW at this
      omega
    · rw [if_neg c, wrap64_id _ (by omega) (by omega), show ((f : Int) + 1) = ((f + 1 : Nat) : Int) by omega]
      obtain ⟨b, hb, hiff⟩ := ih (f + 1) k (by omega) (by omega) (by omega)
      refine ⟨b, hb, hiff.trans ⟨fun h g h4 h5 => ?_, fun h g h4 h5 => h g (by omega) h5⟩⟩
      by_cases e : g = f
      · subst e; unfold dW; omega
      · exact h g (by omega) h5
theorem utf_border (k : Nat) (s : ByteArray) (a : Int) (hs : s.size ≤ 4398046511104) : ∃ b, utf_Border.f (k + 10) s a = some b ∧ (b = true ↔ Bord s a) := by
  unfold utf_Border.f
  by_cases c0 : a = 0
  · rw [if_pos c0, utf_Border.j0, if_pos rfl]; exact ⟨true, rfl, fun _ => .inr (.inl c0), fun _ => rfl⟩
  rw [if_neg c0, utf_Border.j0]
  by_cases c1 : a = (s.size : Int)
  · rw [if_pos (by simpa using c1)]; exact ⟨true, rfl, fun _ => .inl c1, fun _ => rfl⟩
  rw [if_neg (by simpa using c1)]
  have out : (a < 0 ∨ a > (s.size : Int)) → ¬ Bord s a := by
    rintro h (h' | h' | h') <;> omega
  by_cases c2 : a < 0
  · rw [if_pos c2, utf_Border.j1, if_pos rfl]; exact ⟨false, rfl, fun h => (by cases h), fun h => absurd h (out (.inl c2))⟩
  rw [if_neg c2, utf_Border.j1]
  by_cases c3 : a > (s.size : Int)
  · rw [if_pos (by simpa using c3)]; exact ⟨false, rfl, fun h => (by cases h), fun h => absurd h (out (.inr c3))⟩
  rw [if_neg (by simpa using c3)]
  obtain ⟨n, rfl⟩ := Int.eq_ofNat_of_zero_le (show 0 ≤ a by omega)
  have hm : mx 0 (wrap64 ((n : Int) - 3)) = ((n - 3 : Nat) : Int) := by
    have : wrap64 ((n : Int) - 3) = (n : Int) - 3 := by unfold wrap64; omega
    rw [this]; unfold mx; split <;> omega
  rw [hm]
  obtain ⟨b, hb, hiff⟩ := b_loop s n (by omega) hs _ (n - 3) (k + 8) rfl (by omega) (by omega)
  refine ⟨b, hb, hiff.trans ?_⟩
  have hb2 := border_iff s n (by omega) (by omega)
  constructor
  · intro h
    exact .inr (.inr ⟨by omega, by omega, by rw [Int.toNat_natCast]; exact hb2.2 fun f h1 h2 => h f (by omega) h2⟩)
  · rintro (h | h | ⟨_, _, h⟩)
    · exact absurd h c1
    · exact absurd h c0
    · rw [Int.toNat_natCast] at h
      intro f h1 h2
      exact hb2.1 h f (by omega) h2
theorem utfBorders_pure (s : ByteArray) (a : Int) (hs : s.size ≤ 1048576) (_w : (Lit.int .i64 a).wf = true) (_z : s.size ≤ 1048576) : ∃ k, respelllaw01_UtfBorders.f k s a = some true := by
  refine ⟨s.size + 50, ?_⟩
  unfold respelllaw01_UtfBorders.f respelllaw01_shown.f
  obtain ⟨b, hb, h1⟩ := utf_border (s.size + 40) s a (by omega)
  obtain ⟨c, hc, h2⟩ := ref_border (s.size + 50) s a (by omega) (Nat.le_refl _)
  rw [Option.bind_some, if_pos rfl, hb, Option.bind_some, hc, Option.bind_some]
  have : b = c := by rw [Bool.eq_iff_iff]; exact h1.trans h2.symm
  rw [this]; simp
end Go.Proofs.YtalbchgiijoeaaaDoor

