-- Slimmed by slim.py from the text of this name without 'Kb'.
import Derived.Test.YtalbchgiijoeaaaDoorKbP3
namespace Go.Proofs.YtalbchgiijoeaaaDoor
open Go.RowKit Go.Lib Go.Proofs.YtalbchgiijoeaaaDoor.G
open Go.Proofs.YtalbchgiijoeaaaDoorW.PrintWords
set_option linter.unusedVariables false
set_option linter.unusedSimpArgs false
theorem tmod_pos {a b : Int} (h : 0 ≤ a) (hb : 0 ≤ b) : Int.tmod a b = a % b := Int.tmod_eq_emod_of_nonneg h
theorem tdiv_pos {a b : Int} (h : 0 ≤ a) : Int.tdiv a b = a / b := Int.tdiv_eq_ediv_of_nonneg h
theorem bytes_step (k : Nat) (u n : Int) (l : List Int) (i : Int) (hl : l.length < 10) (hu : 0 ≤ u) (hu2 : u ≤ 1114111) (hi : i < n) (h0 : 0 ≤ i) (h4 : n ≤ 4) :
    respellref01_bytes.l0 (k + 1) u n l i = respellref01_bytes.l0 k (u / 64) n ((128 + u % 64) :: l) (i + 1) := by
  simp only [respellref01_bytes.l0]
  rw [if_pos hi]
  simp only [Option.bind_some]
  rw [if_pos (by simp; omega), tmod_pos hu (by decide), tdiv_pos hu, wrap64_id _ (by omega) (by omega), wrap64_id _ (by omega) (by omega), wrap64_id _ (by omega) (by omega), Int.emod_eq_of_lt (by omega) (by omega)]
  rfl
theorem bytes_end (k : Nat) (u n : Int) (l : List Int) (i : Int) (hi : i = n) (hl : l.length < 10) (hu : 0 ≤ u) (f : Int) (hf : rd [0, 0, 192, 224, 240] n = f) (hf0 : 0 ≤ f) (hfu : f + u ≤ 255) (h0 : 0 ≤ n) (h4 : n ≤ 4) :
    respellref01_bytes.l0 (k + 1) u n l i = some ((f + u) :: l) := by
  subst hi
  simp only [respellref01_bytes.l0]
  rw [if_neg (by omega)]
  simp only [Option.bind_some]
  rw [if_pos h0, if_pos (by simp; omega), hf, if_pos (by simp; omega), wrap64_id _ (by omega) (by omega), Int.emod_eq_of_lt (by omega) (by omega)]
  rfl
theorem ref_bytes (k : Nat) (u : Int) : respellref01_bytes.f (k + 5) u = some (byts u) := by
  unfold respellref01_bytes.f
  rw [ref_width]
  simp only [Option.bind_some]
  rcases wid_cases u with ⟨h, hb⟩ | ⟨h1, h2, h⟩ | ⟨h1, h2, h⟩ | ⟨h1, h2, h⟩ | ⟨h1, h2, h3, h⟩ | ⟨h1, h2, h⟩
  · rw [h, if_pos rfl, hb]
  · rw [h, if_neg (by decide), if_pos (by omega), wrap64_id _ (by omega) (by omega), Int.emod_eq_of_lt (by omega) (by omega)]
    unfold byts; rw [if_pos (by omega)]
  · rw [h, if_neg (by decide), if_neg (by omega), if_pos rfl, Int.emod_eq_of_lt (by omega) (by omega)]
    unfold byts; rw [if_neg (by omega), if_pos (by omega)]
  · rw [h, if_neg (by decide), if_neg (by omega), if_neg (by decide)]
    rw [bytes_step _ _ _ _ _ (by decide) (by omega) (by omega) (by omega) (by omega) (by omega), bytes_end _ _ _ _ _ (by omega) (by simp) (by omega) 192 rfl (by omega) (by omega) (by omega) (by omega)]
    unfold byts; rw [if_neg (by omega), if_neg (by omega), if_pos (by omega)]
  · rw [h, if_neg (by decide), if_neg (by omega), if_neg (by decide)]
    rw [bytes_step _ _ _ _ _ (by decide) (by omega) (by omega) (by omega) (by omega) (by omega), bytes_step _ _ _ _ _ (by simp) (by omega) (by omega) (by omega) (by omega) (by omega), bytes_end _ _ _ _ _ (by omega) (by simp) (by omega) 224 rfl (by omega) (by omega) (by omega) (by omega)]
    unfold byts; rw [if_neg (by omega), if_neg (by omega), if_neg (by omega), if_pos (by omega), show u / 64 / 64 = u / 4096 by omega]
  · rw [h, if_neg (by decide), if_neg (by omega), if_neg (by decide)]
    rw [bytes_step _ _ _ _ _ (by decide) (by omega) (by omega) (by omega) (by omega) (by omega), bytes_step _ _ _ _ _ (by simp) (by omega) (by omega) (by omega) (by omega) (by omega), bytes_step _ _ _ _ _ (by simp) (by omega) (by omega) (by omega) (by omega) (by omega), bytes_end _ _ _ _ _ (by omega) (by simp) (by omega) 240 rfl (by omega) (by omega) (by omega) (by omega)]
    unfold byts; rw [if_neg (by omega), if_neg (by omega), if_neg (by omega), if_neg (by omega), if_pos (by omega), show u / 64 / 64 / 64 = u / 262144 by omega, show u / 64 / 64 % 64 = u / 4096 % 64 by omega]
theorem ref_put (k : Nat) (u : Int) : respellref01_Put.f (k + 5) u = some (strOfNums (byts u)) := by
  unfold respellref01_Put.f; rw [ref_bytes]; rfl
def val (s : ByteArray) (i n : Nat) : Nat :=
  if n = 1 then bN s i else if n = 2 then bN s i % 32 * 64 + bN s (i + 1) % 64
  else if n = 3 then (bN s i % 16 * 64 + bN s (i + 1) % 64) * 64 + bN s (i + 2) % 64
  else ((bN s i % 8 * 64 + bN s (i + 1) % 64) * 64 + bN s (i + 2) % 64) * 64 + bN s (i + 3) % 64
instance (s : ByteArray) (i u n : Nat) : Decidable (Enc s i u n) := by unfold Enc; infer_instance
theorem unit_at (k : Nat) (s : ByteArray) (i : Nat) (hi : i < s.size) : utf_unit.f (k + 1) (s.extract i s.size) ((Utf8.decode s i).1 : Int) = some ((dU s i : Int), (dW s i : Int)) := by
  have hb := bN_lt s i
  have hsz : (s.extract i s.size).size = s.size - i := tail_size s i
  have hdec : utf8_DecodeRuneInString.f (s.extract i s.size) = some (((Utf8.decode s i).1 : Int), ((Utf8.decode s i).2 : Int)) := by
    unfold utf8_DecodeRuneInString.f Lib.decodeGo
    rw [if_neg (by omega), dec_tail]; rfl
  have hlen : ¬ Err s i → utf8_RuneLen.f (k + 1) ((Utf8.decode s i).1 : Int) = some ((dW s i : Nat) : Int) := by
    intro he
    have h1 := enc_of_not_err hi he
    have h2 := h1.wid
    have h3 := h1.le
    rw [rune_len k _ (by omega) (by omega), h2]; rfl
    rcases wid_cases ((Utf8.decode s i).1 : Int) with ⟨h, _⟩ | ⟨h1', h2', h⟩ | ⟨h1', h2', h⟩ | ⟨h1', h2', h⟩ | ⟨h1', h2', h3', h⟩ | ⟨h1', h2', h⟩ <;> omega
  unfold utf_unit.f
  by_cases he : Err s i
  · obtain ⟨h1, h2, h3⟩ := err_of hi he
    have e := he
    unfold Err at e
    rw [hdec, e]
    simp only [Option.bind_some]
    rw [if_pos (by decide), if_pos (by decide), if_pos (by omega), show (0 : Int) = ((0 : Nat) : Int) from rfl, bt_bN (by omega), bN_tail, Nat.add_zero, wrap64_id ((bN s i : Nat) : Int) (by omega) (by omega), wrap64_id _ (by omega) (by omega), h2, h3]
    congr 1
  · have h1 := enc_of_not_err hi he
    have h2 := h1.le
    have hU : dU s i = (Utf8.decode s i).1 := by unfold dU; rw [if_neg he]
    rw [hdec, hlen he]
    simp only [Option.bind_some]
    rw [wrap64_id ((Utf8.decode s i).1 : Int) (by omega) (by omega), hU]
    by_cases c : ((Utf8.decode s i).1 : Int) = 65533
    · rw [if_pos c, if_neg (fun h => he (by unfold Err; apply Prod.ext <;> simp only <;> omega))]
    · rw [if_neg c]
theorem first_at (k : Nat) (s : ByteArray) : utf_First.f (k + 1) s = some (if s.size = 0 then (0, 0) else ((dU s 0 : Int), (dW s 0 : Int))) := by
  unfold utf_First.f
  by_cases h : s.size = 0
  · rw [if_pos h, if_pos h]
  · rw [if_neg h, if_neg h]
    have := unit_at k s 0 (by omega)
    rw [show s.extract 0 s.size = s from by simp] at this
    exact this
end Go.Proofs.YtalbchgiijoeaaaDoor

