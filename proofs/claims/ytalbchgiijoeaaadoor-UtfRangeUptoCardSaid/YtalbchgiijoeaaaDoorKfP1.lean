-- Slimmed by slim.py from the text of this name without 'Kf'.
import Derived.Lib.DecodeN
import Derived.Lib.TrimU
namespace Go.Proofs.YtalbchgiijoeaaaDoor
open Go.Lib
set_option linter.unusedVariables false
def bN (s : ByteArray) (i : Nat) : Nat := (s.get! i).toNat
theorem bN_lt (s : ByteArray) (i : Nat) : bN s i < 256 := (s.get! i).toNat_lt
def Enc (s : ByteArray) (i u n : Nat) : Prop :=
  (n = 1 ∧ u < 128 ∧ i < s.size ∧ bN s i = u) ∨
  (n = 2 ∧ 128 ≤ u ∧ u ≤ 2047 ∧ i + 1 < s.size ∧ bN s i = 192 + u / 64 ∧ bN s (i + 1) = 128 + u % 64) ∨
  (n = 3 ∧ 2048 ≤ u ∧ u ≤ 65535 ∧ (u < 55296 ∨ 57344 ≤ u) ∧ i + 2 < s.size ∧ bN s i = 224 + u / 4096 ∧ bN s (i + 1) = 128 + u / 64 % 64 ∧ bN s (i + 2) = 128 + u % 64) ∨
  (n = 4 ∧ 65536 ≤ u ∧ u ≤ 1114111 ∧ i + 3 < s.size ∧ bN s i = 240 + u / 262144 ∧ bN s (i + 1) = 128 + u / 4096 % 64 ∧ bN s (i + 2) = 128 + u / 64 % 64 ∧ bN s (i + 3) = 128 + u % 64)
theorem dec_at (s : ByteArray) (i : Nat) : Utf8.decode s i = decodeN (s.size - i) (bN s i) (bN s (i + 1)) (bN s (i + 2)) (bN s (i + 3)) := decode_at s i
theorem dec_of {s : ByteArray} {i u n : Nat} (h : Enc s i u n) : Utf8.decode s i = (u, n) := by
  rw [dec_at]
  rcases h with ⟨rfl, h1, h2, h3⟩ | ⟨rfl, h1, h2, h3, h4, h5⟩ | ⟨rfl, h1, h2, h3, h4, h5, h6, h7⟩ | ⟨rfl, h1, h2, h3, h4, h5, h6, h7⟩
  · rw [h3]; unfold decodeN; rw [if_pos h1]
  · rw [h4, h5]
    unfold decodeN
    rw [if_neg (by omega), if_pos ⟨by omega, by omega, by omega⟩, if_pos (by omega)]
    apply Prod.ext <;> simp only <;> omega
  · rw [h5, h6, h7]
    unfold decodeN
    rw [if_neg (by omega), if_neg (by omega), if_pos ⟨by omega, ⟨by omega, by omega⟩, by omega, by omega⟩, if_pos (by omega)]
    apply Prod.ext <;> simp only <;> omega
  · rw [h4, h5, h6, h7]
    unfold decodeN
    rw [if_neg (by omega), if_neg (by omega), if_neg (by omega), if_pos ⟨by omega, ⟨by omega, by omega⟩, ⟨by omega, by omega⟩, by omega, by omega⟩, if_pos (by omega)]
    apply Prod.ext <;> simp only <;> omega
theorem dec_cases {s : ByteArray} {i : Nat} (h : i < s.size) : Enc s i (Utf8.decode s i).1 (Utf8.decode s i).2 ∨ (Utf8.decode s i = (65533, 1) ∧ 128 ≤ bN s i) := by
  rw [dec_at]
  have h0 := bN_lt s i; have h1 := bN_lt s (i + 1); have h2 := bN_lt s (i + 2); have h3 := bN_lt s (i + 3)
  unfold Enc
  generalize bN s i = b0 at *; generalize bN s (i + 1) = b1 at *; generalize bN s (i + 2) = b2 at *; generalize bN s (i + 3) = b3 at *
  unfold decodeN
  by_cases c1 : b0 < 128
  · rw [if_pos c1]; exact .inl (.inl ⟨rfl, c1, h, rfl⟩)
  rw [if_neg c1]
  by_cases c2 : b0 / 32 = 6 ∧ (1 < s.size - i ∧ b1 / 64 = 2)
  · rw [if_pos c2]
    by_cases d : b0 % 32 * 64 + b1 % 64 ≥ 128
    · rw [if_pos d]; refine .inl (.inr (.inl ⟨rfl, d, ?_, ?_, ?_, ?_⟩)) <;> omega
    · rw [if_neg d]; exact .inr ⟨rfl, by omega⟩
  rw [if_neg c2]
  by_cases c3 : b0 / 16 = 14 ∧ (1 < s.size - i ∧ b1 / 64 = 2) ∧ (2 < s.size - i ∧ b2 / 64 = 2)
  · rw [if_pos c3]
    by_cases d : b0 % 16 * 4096 + b1 % 64 * 64 + b2 % 64 ≥ 2048 ∧ (b0 % 16 * 4096 + b1 % 64 * 64 + b2 % 64 < 55296 ∨ (57344 ≤ b0 % 16 * 4096 + b1 % 64 * 64 + b2 % 64 ∧ b0 % 16 * 4096 + b1 % 64 * 64 + b2 % 64 ≤ 1114111))
    · rw [if_pos d]; refine .inl (.inr (.inr (.inl ⟨rfl, d.1, ?_, ?_, ?_, ?_, ?_, ?_⟩))) <;> omega
    · rw [if_neg d]; exact .inr ⟨rfl, by omega⟩
  rw [if_neg c3]
  by_cases c4 : b0 / 8 = 30 ∧ (1 < s.size - i ∧ b1 / 64 = 2) ∧ (2 < s.size - i ∧ b2 / 64 = 2) ∧ (3 < s.size - i ∧ b3 / 64 = 2)
  · rw [if_pos c4]
    by_cases d : b0 % 8 * 262144 + b1 % 64 * 4096 + b2 % 64 * 64 + b3 % 64 ≥ 65536 ∧ (b0 % 8 * 262144 + b1 % 64 * 4096 + b2 % 64 * 64 + b3 % 64 < 55296 ∨ (57344 ≤ b0 % 8 * 262144 + b1 % 64 * 4096 + b2 % 64 * 64 + b3 % 64 ∧ b0 % 8 * 262144 + b1 % 64 * 4096 + b2 % 64 * 64 + b3 % 64 ≤ 1114111))
    · rw [if_pos d]; refine .inl (.inr (.inr (.inr ⟨rfl, d.1, ?_, ?_, ?_, ?_, ?_, ?_⟩))) <;> omega
    · rw [if_neg d]; exact .inr ⟨rfl, by omega⟩
  rw [if_neg c4]
  exact .inr ⟨rfl, by omega⟩
def Err (s : ByteArray) (i : Nat) : Prop := Utf8.decode s i = (65533, 1)
instance (s : ByteArray) (i : Nat) : Decidable (Err s i) := inferInstanceAs (Decidable (_ = _))
theorem Enc.not_err {s : ByteArray} {i u n : Nat} (h : Enc s i u n) : ¬ Err s i := by
  intro e
  have h1 := dec_of h
  unfold Err at e
  rw [h1] at e
  cases e
  rcases h with ⟨_, h, _⟩ | ⟨h, _⟩ | ⟨h, _⟩ | ⟨h, _⟩ <;> omega
theorem enc_of_not_err {s : ByteArray} {i : Nat} (h : i < s.size) (he : ¬ Err s i) : Enc s i (Utf8.decode s i).1 (Utf8.decode s i).2 := (dec_cases h).resolve_right fun x => he x.1
def dU (s : ByteArray) (i : Nat) : Nat := if Err s i then 1114112 + bN s i else (Utf8.decode s i).1
def dW (s : ByteArray) (i : Nat) : Nat := (Utf8.decode s i).2
def wid (u : Int) : Int :=
  if (0 ≤ u ∧ u ≤ 127) ∨ (1114240 ≤ u ∧ u ≤ 1114367) then 1
  else if 128 ≤ u ∧ u ≤ 2047 then 2
  else if 2048 ≤ u ∧ u ≤ 65535 ∧ (u < 55296 ∨ 57343 < u) then 3
  else if 65536 ≤ u ∧ u ≤ 1114111 then 4 else 0
def byts (u : Int) : List Int :=
  if 1114240 ≤ u ∧ u ≤ 1114367 then [u - 1114112]
  else if 0 ≤ u ∧ u ≤ 127 then [u]
  else if 128 ≤ u ∧ u ≤ 2047 then [192 + u / 64, 128 + u % 64]
  else if 2048 ≤ u ∧ u ≤ 65535 ∧ (u < 55296 ∨ 57343 < u) then [224 + u / 4096, 128 + u / 64 % 64, 128 + u % 64]
  else if 65536 ≤ u ∧ u ≤ 1114111 then [240 + u / 262144, 128 + u / 4096 % 64, 128 + u / 64 % 64, 128 + u % 64] else []
theorem byts_len (u : Int) : ((byts u).length : Int) = wid u := by
  unfold byts wid
  repeat' split
  all_goals first | rfl | (exfalso; omega)
theorem Enc.wid {s : ByteArray} {i u n : Nat} (h : Enc s i u n) : Go.Proofs.YtalbchgiijoeaaaDoor.wid (u : Int) = n := by
  unfold Go.Proofs.YtalbchgiijoeaaaDoor.wid
  rcases h with ⟨rfl, h⟩ | ⟨rfl, h⟩ | ⟨rfl, h⟩ | ⟨rfl, h⟩ <;> (repeat' split) <;> first | rfl | (exfalso; omega)
theorem Enc.le {s : ByteArray} {i u n : Nat} (h : Enc s i u n) : 1 ≤ n ∧ n ≤ 4 ∧ i + n ≤ s.size ∧ u ≤ 1114111 := by
  rcases h with ⟨rfl, h⟩ | ⟨rfl, h⟩ | ⟨rfl, h⟩ | ⟨rfl, h⟩ <;> omega
theorem err_of {s : ByteArray} {i : Nat} (h : i < s.size) (he : Err s i) : 128 ≤ bN s i ∧ dU s i = 1114112 + bN s i ∧ dW s i = 1 := by
  refine ⟨?_, by unfold dU; rw [if_pos he], by unfold dW; rw [he]⟩
  rcases dec_cases h with h1 | h1
  · exact absurd he h1.not_err
  · exact h1.2
theorem dW_le {s : ByteArray} {i : Nat} (h : i < s.size) : 1 ≤ dW s i ∧ dW s i ≤ 4 ∧ i + dW s i ≤ s.size := by
  by_cases he : Err s i
  · have := (err_of h he).2.2; omega
  · have := (enc_of_not_err h he).le; unfold dW; omega
end Go.Proofs.YtalbchgiijoeaaaDoor

