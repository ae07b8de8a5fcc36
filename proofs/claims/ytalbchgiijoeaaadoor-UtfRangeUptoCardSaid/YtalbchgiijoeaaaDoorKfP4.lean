-- Slimmed by slim.py from the text of this name without 'Kf'.
import Derived.Test.YtalbchgiijoeaaaDoorKfP3
namespace Go.Proofs.YtalbchgiijoeaaaDoor
open Go.RowKit Go.Lib Go.Proofs.YtalbchgiijoeaaaDoor.G
open Go.Proofs.YtalbchgiijoeaaaDoorW.PrintWords
set_option linter.unusedVariables false
set_option linter.unusedSimpArgs false
def val (s : ByteArray) (i n : Nat) : Nat :=
  if n = 1 then bN s i else if n = 2 then bN s i % 32 * 64 + bN s (i + 1) % 64
  else if n = 3 then (bN s i % 16 * 64 + bN s (i + 1) % 64) * 64 + bN s (i + 2) % 64
  else ((bN s i % 8 * 64 + bN s (i + 1) % 64) * 64 + bN s (i + 2) % 64) * 64 + bN s (i + 3) % 64
instance (s : ByteArray) (i u n : Nat) : Decidable (Enc s i u n) := by unfold Enc; infer_instance
theorem unit_at (k : Nat) (s : ByteArray) (i : Nat) (hi : i < s.size) : utf_unit.f (k + 1) (s.extract i s.size) ((Utf8.decode s i).1 : Int) = some ((dU s i : Int), (dW s i : Int)) := by
  have hb := bN_lt s i
  have hsz : (s.extract i s.size).size = s.size - i := tail_size s i
  have hdec : utf8_DecodeRuneInString.f (s.extract i s.size) = some (((Utf8.decode s i).1 : Int), ((Utf8.decode s i).2 : Int)) := by
    unfold utf8_DecodeRuneInString.f Lib.decodeGo
    rw [if_neg (by omega), dec_tail]; rfl
  have hlen : ¬ Err s i → utf8_RuneLen.f (k + 1) ((Utf8.decode s i).1 : Int) = some ((dW s i : Nat) : Int) := by
    intro he
    have h1 := enc_of_not_err hi he
    have h2 := h1.wid
    have h3 := h1.le
    rw [rune_len k _ (by omega) (by omega), h2]; rfl
    rcases wid_cases ((Utf8.decode s i).1 : Int) with ⟨h, _⟩ | ⟨h1', h2', h⟩ | ⟨h1', h2', h⟩ | ⟨h1', h2', h⟩ | ⟨h1', h2', h3', h⟩ | ⟨h1', h2', h⟩ <;> omega
  unfold utf_unit.f
  by_cases he : Err s i
  · obtain ⟨h1, h2, h3⟩ := err_of hi he
    have e := he
    unfold Err at e
    rw [hdec, e]
    simp only [Option.bind_some]
    rw [if_pos (by decide), if_pos (by decide), if_pos (by omega), show (0 : Int) = ((0 : Nat) : Int) from rfl, bt_bN (by omega), bN_tail, Nat.add_zero, wrap64_id ((bN s i : Nat) : Int) (by omega) (by omega), wrap64_id _ (by omega) (by omega), h2, h3]
    congr 1
  · have h1 := enc_of_not_err hi he
    have h2 := h1.le
    have hU : dU s i = (Utf8.decode s i).1 := by unfold dU; rw [if_neg he]
    rw [hdec, hlen he]
    simp only [Option.bind_some]
    rw [wrap64_id ((Utf8.decode s i).1 : Int) (by omega) (by omega), hU]
    by_cases c : ((Utf8.decode s i).1 : Int) = 65533
    · rw [if_pos c, if_neg (fun h => he (by unfold Err; apply Prod.ext <;> simp only <;> omega))]
    · rw [if_neg c]
end Go.Proofs.YtalbchgiijoeaaaDoor

