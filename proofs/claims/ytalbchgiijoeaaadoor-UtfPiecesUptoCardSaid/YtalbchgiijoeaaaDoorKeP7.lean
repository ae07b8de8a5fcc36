-- Slimmed by slim.py from the text of this name without 'Ke'.
import Derived.Test.YtalbchgiijoeaaaDoorKeP6
import Derived.Test.YtalbchgiijoeaaaDoorKeG7
import Derived.Test.YtalbchgiijoeaaaDoorKeG0
import Derived.Test.YtalbchgiijoeaaaDoorKeG15
namespace Go.Proofs.YtalbchgiijoeaaaDoor
open Go.RowKit Go.Lib Go.Proofs.YtalbchgiijoeaaaDoor.G
open Go.Proofs.YtalbchgiijoeaaaDoorW.PrintWords
set_option linter.unusedVariables false
set_option linter.unusedSimpArgs false
def Bord (s : ByteArray) (a : Int) : Prop := a = s.size ∨ a = 0 ∨ (0 < a ∧ a < s.size ∧ Reach s 0 a.toNat)
theorem b_loop (s : ByteArray) (a : Nat) (ha : a < s.size) (hs : s.size ≤ 4398046511104) : ∀ d f k, a - f = d → d < k → f ≤ a →
    ∃ b, utf_Border.l0 k s a f = some b ∧ (b = true ↔ ∀ g, f ≤ g → g < a → g + dW s g ≤ a) := by
  intro d
  induction d with
  | zero =>
    intro f k h1 h2 h3
    obtain ⟨k, rfl⟩ : ∃ m, k = m + 1 := ⟨k - 1, by omega⟩
    rw [utf_Border.l0, if_neg (by omega)]
    exact ⟨true, rfl, fun _ g h4 h5 => by omega, fun _ => rfl⟩
  | succ d ih =>
    intro f k h1 h2 h3
    obtain ⟨k, rfl⟩ : ∃ m, k = m + 1 := ⟨k - 1, by omega⟩
    have hdec : utf8_DecodeRuneInString.f (s.extract f s.size) = some (((Utf8.decode s f).1 : Int), ((Utf8.decode s f).2 : Int)) := by
      unfold utf8_DecodeRuneInString.f Lib.decodeGo
      rw [if_neg (by rw [tail_size]; omega), dec_tail]; rfl
    rw [utf_Border.l0, if_pos (by omega), if_pos (by omega), if_pos (by omega), Int.toNat_natCast, hdec, Option.bind_some, wrap64_id _ (by omega) (by omega)]
    by_cases c : ((Utf8.decode s f).2 : Int) > (a : Int) - (f : Int)
    · rw [if_pos c]
      refine ⟨false, rfl, fun h => (by cases h), fun h => ?_⟩
      have := h f (Nat.le_refl _) (by omega)
      unfold dW at this
      omega
    · rw [if_neg c, wrap64_id _ (by omega) (by omega), show ((f : Int) + 1) = ((f + 1 : Nat) : Int) by omega]
      obtain ⟨b, hb, hiff⟩ := ih (f + 1) k (by omega) (by omega) (by omega)
      refine ⟨b, hb, hiff.trans ⟨fun h g h4 h5 => ?_, fun h g h4 h5 => h g (by omega) h5⟩⟩
      by_cases e : g = f
      · subst e; unfold dW; omega
      · exact h g (by omega) h5
theorem utf_border (k : Nat) (s : ByteArray) (a : Int) (hs : s.size ≤ 4398046511104) : ∃ b, utf_Border.f (k + 10) s a = some b ∧ (b = true ↔ Bord s a) := by
  unfold utf_Border.f
  by_cases c0 : a = 0
  · rw [if_pos c0, utf_Border.j0, if_pos rfl]; exact ⟨true, rfl, fun _ => .inr (.inl c0), fun _ => rfl⟩
  rw [if_neg c0, utf_Border.j0]
  by_cases c1 : a = (s.size : Int)
  · rw [if_pos (by simpa using c1)]; exact ⟨true, rfl, fun _ => .inl c1, fun _ => rfl⟩
  rw [if_neg (by simpa using c1)]
  have out : (a < 0 ∨ a > (s.size : Int)) → ¬ Bord s a := by
    rintro h (h' | h' | h') <;> omega
  by_cases c2 : a < 0
  · rw [if_pos c2, utf_Border.j1, if_pos rfl]; exact ⟨false, rfl, fun h => (by cases h), fun h => absurd h (out (.inl c2))⟩
  rw [if_neg c2, utf_Border.j1]
  by_cases c3 : a > (s.size : Int)
  · rw [if_pos (by simpa using c3)]; exact ⟨false, rfl, fun h => (by cases h), fun h => absurd h (out (.inr c3))⟩
  rw [if_neg (by simpa using c3)]
  obtain ⟨n, rfl⟩ := Int.eq_ofNat_of_zero_le (show 0 ≤ a by omega)
  have hm : mx 0 (wrap64 ((n : Int) - 3)) = ((n - 3 : Nat) : Int) := by
    have : wrap64 ((n : Int) - 3) = (n : Int) - 3 := by unfold wrap64; omega
    rw [this]; unfold mx; split <;> omega
  rw [hm]
  obtain ⟨b, hb, hiff⟩ := b_loop s n (by omega) hs _ (n - 3) (k + 8) rfl (by omega) (by omega)
  refine ⟨b, hb, hiff.trans ?_⟩
  have hb2 := border_iff s n (by omega) (by omega)
  constructor
  · intro h
    exact .inr (.inr ⟨by omega, by omega, by rw [Int.toNat_natCast]; exact hb2.2 fun f h1 h2 => h f (by omega) h2⟩)
  · rintro (h | h | ⟨_, _, h⟩)
    · exact absurd h c1
    · exact absurd h c0
    · rw [Int.toNat_natCast] at h
      intro f h1 h2
      exact hb2.1 h f (by omega) h2
end Go.Proofs.YtalbchgiijoeaaaDoor

