import Derived.Lib.DecodeN
import Derived.Lib.TrimU
import Derived.Lib.RuneCountTail
import Derived.Laws.BytesArg
import Derived.Test.YtalbchgiijoeaaaDoorKhWWords
import Derived.Test.YtalbchgiijoeaaaDoorKhG2
import Derived.Test.YtalbchgiijoeaaaDoorKhG3
import Derived.Test.YtalbchgiijoeaaaDoorKhG5
import Derived.Test.YtalbchgiijoeaaaDoorKhG6
import Derived.Test.YtalbchgiijoeaaaDoorKhG17
import Derived.Test.YtalbchgiijoeaaaDoorKhG18
import Derived.Test.YtalbchgiijoeaaaDoorKhG19
import Derived.Test.YtalbchgiijoeaaaDoorKhG21
import Derived.Test.YtalbchgiijoeaaaDoorKhG0
import Derived.Test.YtalbchgiijoeaaaDoorKhG15
-- Slimmed by slim.py from the text of this name without 'Kh'.
namespace Go.Proofs.YtalbchgiijoeaaaDoor
open Go.Lib
set_option linter.unusedVariables false
def bN (s : ByteArray) (i : Nat) : Nat := (s.get! i).toNat
theorem bN_lt (s : ByteArray) (i : Nat) : bN s i < 256 := (s.get! i).toNat_lt
def Enc (s : ByteArray) (i u n : Nat) : Prop :=
  (n = 1 ∧ u < 128 ∧ i < s.size ∧ bN s i = u) ∨
  (n = 2 ∧ 128 ≤ u ∧ u ≤ 2047 ∧ i + 1 < s.size ∧ bN s i = 192 + u / 64 ∧ bN s (i + 1) = 128 + u % 64) ∨
  (n = 3 ∧ 2048 ≤ u ∧ u ≤ 65535 ∧ (u < 55296 ∨ 57344 ≤ u) ∧ i + 2 < s.size ∧ bN s i = 224 + u / 4096 ∧ bN s (i + 1) = 128 + u / 64 % 64 ∧ bN s (i + 2) = 128 + u % 64) ∨
  (n = 4 ∧ 65536 ≤ u ∧ u ≤ 1114111 ∧ i + 3 < s.size ∧ bN s i = 240 + u / 262144 ∧ bN s (i + 1) = 128 + u / 4096 % 64 ∧ bN s (i + 2) = 128 + u / 64 % 64 ∧ bN s (i + 3) = 128 + u % 64)
theorem dec_at (s : ByteArray) (i : Nat) : Utf8.decode s i = decodeN (s.size - i) (bN s i) (bN s (i + 1)) (bN s (i + 2)) (bN s (i + 3)) := decode_at s i
theorem dec_of {s : ByteArray} {i u n : Nat} (h : Enc s i u n) : Utf8.decode s i = (u, n) := by
  rw [dec_at]
  rcases h with ⟨rfl, h1, h2, h3⟩ | ⟨rfl, h1, h2, h3, h4, h5⟩ | ⟨rfl, h1, h2, h3, h4, h5, h6, h7⟩ | ⟨rfl, h1, h2, h3, h4, h5, h6, h7⟩
  · rw [h3]; unfold decodeN; rw [if_pos h1]
  · rw [h4, h5]
    unfold decodeN
    rw [if_neg (by omega), if_pos ⟨by omega, by omega, by omega⟩, if_pos (by omega)]
    apply Prod.ext <;> simp only <;> omega
  · rw [h5, h6, h7]
    unfold decodeN
    rw [if_neg (by omega), if_neg (by omega), if_pos ⟨by omega, ⟨by omega, by omega⟩, by omega, by omega⟩, if_pos (by omega)]
    apply Prod.ext <;> simp only <;> omega
  · rw [h4, h5, h6, h7]
    unfold decodeN
    rw [if_neg (by omega), if_neg (by omega), if_neg (by omega), if_pos ⟨by omega, ⟨by omega, by omega⟩, ⟨by omega, by omega⟩, by omega, by omega⟩, if_pos (by omega)]
    apply Prod.ext <;> simp only <;> omega
theorem dec_cases {s : ByteArray} {i : Nat} (h : i < s.size) : Enc s i (Utf8.decode s i).1 (Utf8.decode s i).2 ∨ (Utf8.decode s i = (65533, 1) ∧ 128 ≤ bN s i) := by
  rw [dec_at]
  have h0 := bN_lt s i; have h1 := bN_lt s (i + 1); have h2 := bN_lt s (i + 2); have h3 := bN_lt s (i + 3)
  unfold Enc
  generalize bN s i = b0 at *; generalize bN s (i + 1) = b1 at *; generalize bN s (i + 2) = b2 at *; generalize bN s (i + 3) = b3 at *
  unfold decodeN
  by_cases c1 : b0 < 128
  · rw [if_pos c1]; exact .inl (.inl ⟨rfl, c1, h, rfl⟩)
  rw [if_neg c1]
  by_cases c2 : b0 / 32 = 6 ∧ (1 < s.size - i ∧ b1 / 64 = 2)
  · rw [if_pos c2]
    by_cases d : b0 % 32 * 64 + b1 % 64 ≥ 128
    · rw [if_pos d]; refine .inl (.inr (.inl ⟨rfl, d, ?_, ?_, ?_, ?_⟩)) <;> omega
    · rw [if_neg d]; exact .inr ⟨rfl, by omega⟩
  rw [if_neg c2]
  by_cases c3 : b0 / 16 = 14 ∧ (1 < s.size - i ∧ b1 / 64 = 2) ∧ (2 < s.size - i ∧ b2 / 64 = 2)
  · rw [if_pos c3]
    by_cases d : b0 % 16 * 4096 + b1 % 64 * 64 + b2 % 64 ≥ 2048 ∧ (b0 % 16 * 4096 + b1 % 64 * 64 + b2 % 64 < 55296 ∨ (57344 ≤ b0 % 16 * 4096 + b1 % 64 * 64 + b2 % 64 ∧ b0 % 16 * 4096 + b1 % 64 * 64 + b2 % 64 ≤ 1114111))
    · rw [if_pos d]; refine .inl (.inr (.inr (.inl ⟨rfl, d.1, ?_, ?_, ?_, ?_, ?_, ?_⟩))) <;> omega
    · rw [if_neg d]; exact .inr ⟨rfl, by omega⟩
  rw [if_neg c3]
  by_cases c4 : b0 / 8 = 30 ∧ (1 < s.size - i ∧ b1 / 64 = 2) ∧ (2 < s.size - i ∧ b2 / 64 = 2) ∧ (3 < s.size - i ∧ b3 / 64 = 2)
  · rw [if_pos c4]
    by_cases d : b0 % 8 * 262144 + b1 % 64 * 4096 + b2 % 64 * 64 + b3 % 64 ≥ 65536 ∧ (b0 % 8 * 262144 + b1 % 64 * 4096 + b2 % 64 * 64 + b3 % 64 < 55296 ∨ (57344 ≤ b0 % 8 * 262144 + b1 % 64 * 4096 + b2 % 64 * 64 + b3 % 64 ∧ b0 % 8 * 262144 + b1 % 64 * 4096 + b2 % 64 * 64 + b3 % 64 ≤ 1114111))
    · rw [if_pos d]; refine .inl (.inr (.inr (.inr ⟨rfl, d.1, ?_, ?_, ?_, ?_, ?_, ?_⟩))) <;> omega
    · rw [if_neg d]; exact .inr ⟨rfl, by omega⟩
  rw [if_neg c4]
  exact .inr ⟨rfl, by omega⟩
def Err (s : ByteArray) (i : Nat) : Prop := Utf8.decode s i = (65533, 1)
instance (s : ByteArray) (i : Nat) : Decidable (Err s i) := inferInstanceAs (Decidable (_ = _))
theorem Enc.not_err {s : ByteArray} {i u n : Nat} (h : Enc s i u n) : ¬ Err s i := by
  intro e
  have h1 := dec_of h
  unfold Err at e
  rw [h1] at e
  cases e
  rcases h with ⟨_, h, _⟩ | ⟨h, _⟩ | ⟨h, _⟩ | ⟨h, _⟩ <;> omega
theorem enc_of_not_err {s : ByteArray} {i : Nat} (h : i < s.size) (he : ¬ Err s i) : Enc s i (Utf8.decode s i).1 (Utf8.decode s i).2 := (dec_cases h).resolve_right fun x => he x.1
def dU (s : ByteArray) (i : Nat) : Nat := if Err s i then 1114112 + bN s i else (Utf8.decode s i).1
def dW (s : ByteArray) (i : Nat) : Nat := (Utf8.decode s i).2
def wid (u : Int) : Int :=
  if (0 ≤ u ∧ u ≤ 127) ∨ (1114240 ≤ u ∧ u ≤ 1114367) then 1
  else if 128 ≤ u ∧ u ≤ 2047 then 2
  else if 2048 ≤ u ∧ u ≤ 65535 ∧ (u < 55296 ∨ 57343 < u) then 3
  else if 65536 ≤ u ∧ u ≤ 1114111 then 4 else 0
def byts (u : Int) : List Int :=
  if 1114240 ≤ u ∧ u ≤ 1114367 then [u - 1114112]
  else if 0 ≤ u ∧ u ≤ 127 then [u]
  else if 128 ≤ u ∧ u ≤ 2047 then [192 + u / 64, 128 + u % 64]
  else if 2048 ≤ u ∧ u ≤ 65535 ∧ (u < 55296 ∨ 57343 < u) then [224 + u / 4096, 128 + u / 64 % 64, 128 + u % 64]
  else if 65536 ≤ u ∧ u ≤ 1114111 then [240 + u / 262144, 128 + u / 4096 % 64, 128 + u / 64 % 64, 128 + u % 64] else []
theorem byts_len (u : Int) : ((byts u).length : Int) = wid u := by
  unfold byts wid
  repeat' split
  all_goals first | rfl | (exfalso; omega)
theorem Enc.wid {s : ByteArray} {i u n : Nat} (h : Enc s i u n) : Go.Proofs.YtalbchgiijoeaaaDoor.wid (u : Int) = n := by
  unfold Go.Proofs.YtalbchgiijoeaaaDoor.wid
  rcases h with ⟨rfl, h⟩ | ⟨rfl, h⟩ | ⟨rfl, h⟩ | ⟨rfl, h⟩ <;> (repeat' split) <;> first | rfl | (exfalso; omega)
theorem Enc.le {s : ByteArray} {i u n : Nat} (h : Enc s i u n) : 1 ≤ n ∧ n ≤ 4 ∧ i + n ≤ s.size ∧ u ≤ 1114111 := by
  rcases h with ⟨rfl, h⟩ | ⟨rfl, h⟩ | ⟨rfl, h⟩ | ⟨rfl, h⟩ <;> omega
theorem err_of {s : ByteArray} {i : Nat} (h : i < s.size) (he : Err s i) : 128 ≤ bN s i ∧ dU s i = 1114112 + bN s i ∧ dW s i = 1 := by
  refine ⟨?_, by unfold dU; rw [if_pos he], by unfold dW; rw [he]⟩
  rcases dec_cases h with h1 | h1
  · exact absurd he h1.not_err
  · exact h1.2
theorem dW_le {s : ByteArray} {i : Nat} (h : i < s.size) : 1 ≤ dW s i ∧ dW s i ≤ 4 ∧ i + dW s i ≤ s.size := by
  by_cases he : Err s i
  · have := (err_of h he).2.2; omega
  · have := (enc_of_not_err h he).le; unfold dW; omega
theorem wid_dU {s : ByteArray} {i : Nat} (h : i < s.size) : wid (dU s i) = dW s i := by
  by_cases he : Err s i
  · obtain ⟨h1, h2, h3⟩ := err_of h he
    have := bN_lt s i
    rw [h2, h3]; unfold wid
    rw [if_pos (by omega)]; rfl
  · have := (enc_of_not_err h he).wid
    unfold dU dW; rw [if_neg he]; exact this
end Go.Proofs.YtalbchgiijoeaaaDoor


-- Slimmed by slim.py from the text of this name without 'Kh'.
namespace Go.Proofs.YtalbchgiijoeaaaDoor
open Go.Lib
open Go.Proofs.YtalbchgiijoeaaaDoorW.PrintWords
set_option linter.unusedVariables false
theorem size_list (s : ByteArray) : s.data.toList.length = s.size := (size_eq s).symm
theorem piece (s : ByteArray) (i n : Nat) (h : i + n ≤ s.size) : (s.extract i (i + n)).toList = (List.range n).map fun j => s.get! (i + j) := by
  rw [ByteArray.toList_eq, extract_data, Nat.add_sub_cancel_left]
  apply List.ext_getElem?
  intro j
  by_cases hj : j < n
  · rw [List.getElem?_take_of_lt hj, List.getElem?_drop, List.getElem?_map, List.getElem?_range hj, Option.map_some, ← getD_get!']
    rw [List.getD_eq_getElem?_getD, List.getElem?_eq_getElem (by rw [size_list]; omega), Option.getD_some]
  · rw [List.getElem?_eq_none (by rw [List.length_take]; omega), List.getElem?_eq_none (by simp; omega)]
theorem nums_list (l : List Int) : (strOfNums l).toList = l.map fun n => UInt8.ofNat n.toNat := by rw [ByteArray.toList_eq]; rfl
theorem u8_eq (n : Nat) (x : UInt8) (h : n < 256) : UInt8.ofNat n = x ↔ x.toNat = n := by
  constructor
  · intro e; rw [← e]; simp; omega
  · intro e; rw [← e]; simp
theorem match_iff {s : ByteArray} {i n u : Nat} (hi : i + n ≤ s.size) (hw : wid (u : Int) = (n : Int)) (hn : 1 ≤ n) (hu : u < 1114112) :
    (strOfNums (byts (u : Int))).toList = (s.extract i (i + n)).toList ↔ Enc s i u n := by
  rw [nums_list, piece s i n hi]
  unfold wid at hw
  unfold Enc bN
  by_cases c1 : u ≤ 127
  · rw [if_pos (by omega)] at hw
    obtain rfl : n = 1 := by omega
    have e : byts (u : Int) = [(u : Int)] := by unfold byts; rw [if_neg (by omega), if_pos (by omega)]
    rw [e]
    simp only [List.map_cons, List.map_nil, List.range_succ, List.range_zero, List.nil_append, Int.toNat_natCast, Nat.add_zero, List.cons.injEq, and_true, u8_eq u _ (by omega : u < 256)]
    constructor
    · intro h; exact .inl ⟨trivial, by omega, by omega, h⟩
    · rintro (⟨_, _, _, h⟩ | ⟨h, _⟩ | ⟨h, _⟩ | ⟨h, _⟩)
      · exact h
      all_goals omega
  rw [if_neg (by omega)] at hw
  by_cases c2 : u ≤ 2047
  · rw [if_pos (by omega)] at hw
    obtain rfl : n = 2 := by omega
    have e : byts (u : Int) = [((192 + u / 64 : Nat) : Int), ((128 + u % 64 : Nat) : Int)] := by unfold byts; rw [if_neg (by omega), if_neg (by omega), if_pos (by omega)]; simp
    rw [e]
    simp only [List.map_cons, List.map_nil, List.range_succ, List.range_zero, List.nil_append, List.cons_append, Int.toNat_natCast, Nat.add_zero, List.cons.injEq, and_true, u8_eq (192 + u / 64) _ (by omega), u8_eq (128 + u % 64) _ (by omega)]
    constructor
    · intro h; exact .inr (.inl ⟨trivial, by omega, by omega, by omega, h.1, h.2⟩)
    · rintro (⟨h, _⟩ | ⟨_, _, _, _, h, h'⟩ | ⟨h, _⟩ | ⟨h, _⟩)
      · omega
      · exact ⟨h, h'⟩
      all_goals omega
  rw [if_neg (by omega)] at hw
  by_cases c3 : u ≤ 65535
  · by_cases c4 : u < 55296 ∨ 57343 < u
    · rw [if_pos (by omega)] at hw
      obtain rfl : n = 3 := by omega
      have e : byts (u : Int) = [((224 + u / 4096 : Nat) : Int), ((128 + u / 64 % 64 : Nat) : Int), ((128 + u % 64 : Nat) : Int)] := by unfold byts; rw [if_neg (by omega), if_neg (by omega), if_neg (by omega), if_pos (by omega)]; simp
      rw [e]
      simp only [List.map_cons, List.map_nil, List.range_succ, List.range_zero, List.nil_append, List.cons_append, Int.toNat_natCast, Nat.add_zero, List.cons.injEq, and_true, u8_eq (224 + u / 4096) _ (by omega), u8_eq (128 + u / 64 % 64) _ (by omega), u8_eq (128 + u % 64) _ (by omega)]
      constructor
      · intro h; exact .inr (.inr (.inl ⟨trivial, by omega, by omega, by omega, by omega, h.1, h.2.1, h.2.2⟩))
      · rintro (⟨h, _⟩ | ⟨h, _⟩ | ⟨_, _, _, _, _, h⟩ | ⟨h, _⟩)
        · omega
        · omega
        · exact h
        · omega
    · rw [if_neg (by omega), if_neg (by omega)] at hw; omega
  rw [if_neg (by omega), if_pos (by omega)] at hw
  obtain rfl : n = 4 := by omega
  have e : byts (u : Int) = [((240 + u / 262144 : Nat) : Int), ((128 + u / 4096 % 64 : Nat) : Int), ((128 + u / 64 % 64 : Nat) : Int), ((128 + u % 64 : Nat) : Int)] := by unfold byts; rw [if_neg (by omega), if_neg (by omega), if_neg (by omega), if_neg (by omega), if_pos (by omega)]; simp
  rw [e]
  simp only [List.map_cons, List.map_nil, List.range_succ, List.range_zero, List.nil_append, List.cons_append, Int.toNat_natCast, Nat.add_zero, List.cons.injEq, and_true, u8_eq (240 + u / 262144) _ (by omega), u8_eq (128 + u / 4096 % 64) _ (by omega), u8_eq (128 + u / 64 % 64) _ (by omega), u8_eq (128 + u % 64) _ (by omega)]
  constructor
  · intro h; exact .inr (.inr (.inr ⟨trivial, by omega, by omega, by omega, h.1, h.2.1, h.2.2.1, h.2.2.2⟩))
  · rintro (⟨h, _⟩ | ⟨h, _⟩ | ⟨h, _⟩ | ⟨_, _, _, _, h⟩)
    · omega
    · omega
    · omega
    · exact h
theorem bt_bN {s : ByteArray} {i : Nat} (h : i < s.size) : bt s (i : Int) = bN s i := by
  unfold bt bN
  rw [dif_pos (by simpa using h)]
  rw [← getD_get!', List.getD_eq_getElem?_getD, List.getElem?_eq_getElem (by rw [size_list]; exact h)]
  rfl
theorem bN_tail (s : ByteArray) (n j : Nat) : bN (s.extract n s.size) j = bN s (n + j) := by unfold bN; rw [tail_get!]
theorem dec_tail (s : ByteArray) (n j : Nat) : Utf8.decode (s.extract n s.size) j = Utf8.decode s (n + j) := tail_decode s n j
end Go.Proofs.YtalbchgiijoeaaaDoor


-- Slimmed by slim.py from the text of this name without 'Kh'.
namespace Go.Proofs.YtalbchgiijoeaaaDoor
open Go.RowKit Go.Lib Go.Proofs.YtalbchgiijoeaaaDoor.G
open Go.Proofs.YtalbchgiijoeaaaDoorW.PrintWords
set_option linter.unusedVariables false
set_option linter.unusedSimpArgs false
theorem ref_width (k : Nat) (u : Int) : respellref01_Width.f (k + 3) u = some (wid u) := by
  unfold respellref01_Width.f wid
  simp only [respellref01_Width.j0, respellref01_Width.j1, respellref01_Width.j2, decide_eq_true_eq, Bool.false_eq_true, if_false, if_true]
  rcases (by omega : u < 0 ∨ (0 ≤ u ∧ u ≤ 127) ∨ (128 ≤ u ∧ u ≤ 2047) ∨ (2048 ≤ u ∧ u ≤ 55295) ∨ (55296 ≤ u ∧ u ≤ 57343) ∨ (57344 ≤ u ∧ u ≤ 65535) ∨ (65536 ≤ u ∧ u ≤ 1114111) ∨ (1114112 ≤ u ∧ u ≤ 1114239) ∨ (1114240 ≤ u ∧ u ≤ 1114367) ∨ 1114368 ≤ u) with h | h | h | h | h | h | h | h | h | h
  all_goals (repeat (first | rfl | rw [if_pos (by omega)] | rw [if_neg (by omega)]))
theorem rune_len (k : Nat) (u : Int) (h0 : 0 ≤ u) (h : u ≤ 1114111) (hs : u < 55296 ∨ 57343 < u) : utf8_RuneLen.f (k + 1) u = some (wid u) := by
  unfold utf8_RuneLen.f wid
  simp only [utf8_RuneLen.j0, decide_eq_true_eq, Bool.false_eq_true, if_false, if_true]
  repeat' split
  all_goals first | rfl | (exfalso; omega)
theorem wrap32_id (u : Int) (h0 : 0 ≤ u) (h : u ≤ 2147483647) : wrap32 u = u := by unfold wrap32; omega
theorem wrap64_id (u : Int) (h0 : 0 ≤ u) (h : u ≤ 9223372036854775807) : wrap64 u = u := by unfold wrap64; omega
theorem utf_width (k : Nat) (u : Int) : utf_Width.f (k + 2) u = some (wid u) := by
  unfold utf_Width.f
  simp only [utf_Width.j0]
  by_cases c1 : u ≥ 1114240 ∧ u ≤ 1114367
  · rw [if_pos c1.1, if_pos (by simp; exact c1.2)]; unfold wid; rw [if_pos (.inr ⟨by omega, by omega⟩)]
  have e : ∀ z : Bool, z = false → (if z = true then (some 1 : Option Int) else (if u < 0 then (some 0) else (if u > 1114111 then (some 0) else (if u ≥ 55296 then (if u ≤ 57343 then (some 0) else ((utf8_RuneLen.f (k + 1) (wrap32 (u))).bind fun t101 => (some t101))) else ((utf8_RuneLen.f (k + 1) (wrap32 (u))).bind fun t102 => (some t102)))))) = some (wid u) := by
    rintro z rfl
    rw [if_neg (by decide)]
    by_cases c2 : u < 0
    · rw [if_pos c2]; unfold wid; rw [if_neg (by omega), if_neg (by omega), if_neg (by omega), if_neg (by omega)]
    rw [if_neg c2]
    by_cases c3 : u > 1114111
    · rw [if_pos c3]; unfold wid; rw [if_neg (by omega), if_neg (by omega), if_neg (by omega), if_neg (by omega)]
    rw [if_neg c3, wrap32_id u (by omega) (by omega)]
    by_cases c4 : u ≥ 55296
    · rw [if_pos c4]
      by_cases c5 : u ≤ 57343
      · rw [if_pos c5]; unfold wid; rw [if_neg (by omega), if_neg (by omega), if_neg (by omega), if_neg (by omega)]
      · rw [if_neg c5, rune_len k u (by omega) (by omega) (by omega)]; rfl
    · rw [if_neg c4, rune_len k u (by omega) (by omega) (by omega)]; rfl
  by_cases c6 : u ≥ 1114240
  · rw [if_pos c6, e _ (by simp; omega)]
  · rw [if_neg c6, e _ rfl]
theorem wid_cases (u : Int) : (wid u = 0 ∧ byts u = []) ∨ (1114240 ≤ u ∧ u ≤ 1114367 ∧ wid u = 1) ∨ (0 ≤ u ∧ u ≤ 127 ∧ wid u = 1) ∨ (128 ≤ u ∧ u ≤ 2047 ∧ wid u = 2) ∨ (2048 ≤ u ∧ u ≤ 65535 ∧ (u < 55296 ∨ 57343 < u) ∧ wid u = 3) ∨ (65536 ≤ u ∧ u ≤ 1114111 ∧ wid u = 4) := by
  have h := byts_len u
  by_cases c : wid u = 0
  · refine .inl ⟨c, List.eq_nil_of_length_eq_zero (by omega)⟩
  · unfold wid at *
    by_cases c1 : (0 ≤ u ∧ u ≤ 127) ∨ (1114240 ≤ u ∧ u ≤ 1114367)
    · rw [if_pos c1]; rcases c1 with c1 | c1 <;> omega
    rw [if_neg c1] at c ⊢
    by_cases c2 : 128 ≤ u ∧ u ≤ 2047
    · rw [if_pos c2]; omega
    rw [if_neg c2] at c ⊢
    by_cases c3 : 2048 ≤ u ∧ u ≤ 65535 ∧ (u < 55296 ∨ 57343 < u)
    · rw [if_pos c3]; omega
    rw [if_neg c3] at c ⊢
    by_cases c4 : 65536 ≤ u ∧ u ≤ 1114111
    · rw [if_pos c4]; omega
    · rw [if_neg c4] at c; exact absurd rfl c
theorem utf_put (k : Nat) (u : Int) : utf_Put.f (k + 2) u = some (strOfNums (byts u)) := by
  unfold utf_Put.f
  rw [utf_width]
  simp only [Option.bind_some]
  rcases wid_cases u with ⟨h, hb⟩ | ⟨h1, h2, h⟩ | ⟨h1, h2, h⟩ | ⟨h1, h2, h⟩ | ⟨h1, h2, h3, h⟩ | ⟨h1, h2, h⟩
  · rw [h, if_pos rfl, hb]; rfl
  · rw [h, if_neg (by decide), if_pos (by omega), wrap64_id _ (by omega) (by omega)]
    unfold byts; rw [if_pos (by omega)]
    rw [Int.emod_eq_of_lt (by omega) (by omega)]
  all_goals rw [h, if_neg (by decide), if_neg (by omega), wrap32_id u (by omega) (by omega)]
  all_goals (
    obtain ⟨n, rfl⟩ := Int.eq_ofNat_of_zero_le (show 0 ≤ u by omega)
    have hv : Utf8.valid (n : Int) = true := by unfold Utf8.valid; simp; omega
    rw [Option.some_inj]
    unfold Utf8.encode strOfNums
    rw [hv]
    simp only [if_true, Int.toNat_natCast])
  · rw [if_pos (by omega)]; unfold byts; rw [if_neg (by omega), if_pos (by omega)]; simp only [List.map_cons, List.map_nil, Int.toNat_natCast]
  · rw [if_neg (by omega), if_pos (by omega)]; unfold byts; rw [if_neg (by omega), if_neg (by omega), if_pos (by omega)]
    simp only [List.map_cons, List.map_nil, show (192 + (n : Int) / 64).toNat = 192 + n / 64 by omega, show (128 + (n : Int) % 64).toNat = 128 + n % 64 by omega]
  · rw [if_neg (by omega), if_neg (by omega), if_pos (by omega)]; unfold byts; rw [if_neg (by omega), if_neg (by omega), if_neg (by omega), if_pos (by omega)]
    simp only [List.map_cons, List.map_nil, show (224 + (n : Int) / 4096).toNat = 224 + n / 4096 by omega, show (128 + (n : Int) / 64 % 64).toNat = 128 + n / 64 % 64 by omega, show (128 + (n : Int) % 64).toNat = 128 + n % 64 by omega]
  · rw [if_neg (by omega), if_neg (by omega), if_neg (by omega)]; unfold byts; rw [if_neg (by omega), if_neg (by omega), if_neg (by omega), if_neg (by omega), if_pos (by omega)]
    simp only [List.map_cons, List.map_nil, show (240 + (n : Int) / 262144).toNat = 240 + n / 262144 by omega, show (128 + (n : Int) / 4096 % 64).toNat = 128 + n / 4096 % 64 by omega, show (128 + (n : Int) / 64 % 64).toNat = 128 + n / 64 % 64 by omega, show (128 + (n : Int) % 64).toNat = 128 + n % 64 by omega]
end Go.Proofs.YtalbchgiijoeaaaDoor


-- Slimmed by slim.py from the text of this name without 'Kh'.
namespace Go.Proofs.YtalbchgiijoeaaaDoor
open Go.RowKit Go.Lib Go.Proofs.YtalbchgiijoeaaaDoor.G
open Go.Proofs.YtalbchgiijoeaaaDoorW.PrintWords
set_option linter.unusedVariables false
set_option linter.unusedSimpArgs false
theorem tmod_pos {a b : Int} (h : 0 ≤ a) (hb : 0 ≤ b) : Int.tmod a b = a % b := Int.tmod_eq_emod_of_nonneg h
theorem tdiv_pos {a b : Int} (h : 0 ≤ a) : Int.tdiv a b = a / b := Int.tdiv_eq_ediv_of_nonneg h
theorem bytes_step (k : Nat) (u n : Int) (l : List Int) (i : Int) (hl : l.length < 10) (hu : 0 ≤ u) (hu2 : u ≤ 1114111) (hi : i < n) (h0 : 0 ≤ i) (h4 : n ≤ 4) :
    respellref01_bytes.l0 (k + 1) u n l i = respellref01_bytes.l0 k (u / 64) n ((128 + u % 64) :: l) (i + 1) := by
  simp only [respellref01_bytes.l0]
  rw [if_pos hi]
  simp only [Option.bind_some]
  rw [if_pos (by simp; omega), tmod_pos hu (by decide), tdiv_pos hu, wrap64_id _ (by omega) (by omega), wrap64_id _ (by omega) (by omega), wrap64_id _ (by omega) (by omega), Int.emod_eq_of_lt (by omega) (by omega)]
  rfl
theorem bytes_end (k : Nat) (u n : Int) (l : List Int) (i : Int) (hi : i = n) (hl : l.length < 10) (hu : 0 ≤ u) (f : Int) (hf : rd [0, 0, 192, 224, 240] n = f) (hf0 : 0 ≤ f) (hfu : f + u ≤ 255) (h0 : 0 ≤ n) (h4 : n ≤ 4) :
    respellref01_bytes.l0 (k + 1) u n l i = some ((f + u) :: l) := by
  subst hi
  simp only [respellref01_bytes.l0]
  rw [if_neg (by omega)]
  simp only [Option.bind_some]
  rw [if_pos h0, if_pos (by simp; omega), hf, if_pos (by simp; omega), wrap64_id _ (by omega) (by omega), Int.emod_eq_of_lt (by omega) (by omega)]
  rfl
theorem ref_bytes (k : Nat) (u : Int) : respellref01_bytes.f (k + 5) u = some (byts u) := by
  unfold respellref01_bytes.f
  rw [ref_width]
  simp only [Option.bind_some]
  rcases wid_cases u with ⟨h, hb⟩ | ⟨h1, h2, h⟩ | ⟨h1, h2, h⟩ | ⟨h1, h2, h⟩ | ⟨h1, h2, h3, h⟩ | ⟨h1, h2, h⟩
  · rw [h, if_pos rfl, hb]
  · rw [h, if_neg (by decide), if_pos (by omega), wrap64_id _ (by omega) (by omega), Int.emod_eq_of_lt (by omega) (by omega)]
    unfold byts; rw [if_pos (by omega)]
  · rw [h, if_neg (by decide), if_neg (by omega), if_pos rfl, Int.emod_eq_of_lt (by omega) (by omega)]
    unfold byts; rw [if_neg (by omega), if_pos (by omega)]
  · rw [h, if_neg (by decide), if_neg (by omega), if_neg (by decide)]
    rw [bytes_step _ _ _ _ _ (by decide) (by omega) (by omega) (by omega) (by omega) (by omega), bytes_end _ _ _ _ _ (by omega) (by simp) (by omega) 192 rfl (by omega) (by omega) (by omega) (by omega)]
    unfold byts; rw [if_neg (by omega), if_neg (by omega), if_pos (by omega)]
  · rw [h, if_neg (by decide), if_neg (by omega), if_neg (by decide)]
    rw [bytes_step _ _ _ _ _ (by decide) (by omega) (by omega) (by omega) (by omega) (by omega), bytes_step _ _ _ _ _ (by simp) (by omega) (by omega) (by omega) (by omega) (by omega), bytes_end _ _ _ _ _ (by omega) (by simp) (by omega) 224 rfl (by omega) (by omega) (by omega) (by omega)]
    unfold byts; rw [if_neg (by omega), if_neg (by omega), if_neg (by omega), if_pos (by omega), show u / 64 / 64 = u / 4096 by omega]
  · rw [h, if_neg (by decide), if_neg (by omega), if_neg (by decide)]
    rw [bytes_step _ _ _ _ _ (by decide) (by omega) (by omega) (by omega) (by omega) (by omega), bytes_step _ _ _ _ _ (by simp) (by omega) (by omega) (by omega) (by omega) (by omega), bytes_step _ _ _ _ _ (by simp) (by omega) (by omega) (by omega) (by omega) (by omega), bytes_end _ _ _ _ _ (by omega) (by simp) (by omega) 240 rfl (by omega) (by omega) (by omega) (by omega)]
    unfold byts; rw [if_neg (by omega), if_neg (by omega), if_neg (by omega), if_neg (by omega), if_pos (by omega), show u / 64 / 64 / 64 = u / 262144 by omega, show u / 64 / 64 % 64 = u / 4096 % 64 by omega]
theorem ref_put (k : Nat) (u : Int) : respellref01_Put.f (k + 5) u = some (strOfNums (byts u)) := by
  unfold respellref01_Put.f; rw [ref_bytes]; rfl
def val (s : ByteArray) (i n : Nat) : Nat :=
  if n = 1 then bN s i else if n = 2 then bN s i % 32 * 64 + bN s (i + 1) % 64
  else if n = 3 then (bN s i % 16 * 64 + bN s (i + 1) % 64) * 64 + bN s (i + 2) % 64
  else ((bN s i % 8 * 64 + bN s (i + 1) % 64) * 64 + bN s (i + 2) % 64) * 64 + bN s (i + 3) % 64
theorem Enc.val_eq {s : ByteArray} {i u n : Nat} (h : Enc s i u n) : val s i n = u := by
  unfold val
  rcases h with ⟨rfl, h1, h2, h3⟩ | ⟨rfl, h1, h2, h3, h4, h5⟩ | ⟨rfl, h1, h2, h3, h4, h5, h6, h7⟩ | ⟨rfl, h1, h2, h3, h4, h5, h6, h7⟩
  · rw [if_pos rfl, h3]
  · rw [if_neg (by decide), if_pos rfl]; omega
  · rw [if_neg (by decide), if_neg (by decide), if_pos rfl]; omega
  · rw [if_neg (by decide), if_neg (by decide), if_neg (by decide)]; omega
theorem b_l1 (k : Nat) (s : ByteArray) (i n j : Nat) (u : Nat) (hs : s.size ≤ 140737488351232) (hj : j < n) (hn : n ≤ 4) (hi : i + n ≤ s.size) (hu : u ≤ 100000000) :
    respellref01_begins.l1 (k + 1) s i n u j = respellref01_begins.l1 k s i n ((u * 64 + bN s (i + j) % 64 : Nat) : Int) ((j + 1 : Nat) : Int) := by
  simp only [respellref01_begins.l1]
  have hb := bN_lt s (i + j)
  have e1 : wrap64 ((i : Int) + (j : Int)) = ((i + j : Nat) : Int) := by rw [wrap64_id _ (by omega) (by omega)]; omega
  rw [if_pos (by omega), e1, if_pos (by omega), if_pos (by omega), bt_bN (by omega), wrap64_id ((bN s (i + j) : Nat) : Int) (by omega) (by omega), tmod_pos (by omega) (by decide), wrap64_id ((u : Int) * 64) (by omega) (by omega), wrap64_id _ (by omega) (by omega), wrap64_id _ (by omega) (by omega)]
  congr 1
instance (s : ByteArray) (i u n : Nat) : Decidable (Enc s i u n) := by unfold Enc; infer_instance
theorem b_end0 (k : Nat) (s : ByteArray) (i n : Nat) (u : Int) :
    respellref01_begins.l1 (k + 1) s i n u n = ((respellref01_Width.f k u).bind fun t162 => (if t162 = (n : Int) then ((respellref01_Put.f k u).bind fun t163 => (if 0 ≤ (i : Int) then (if (i : Int) ≤ (wrap64 ((i : Int) + n)) then (if (wrap64 ((i : Int) + n)) ≤ (s.size : Int) then (if t163.toList = (s.extract (i : Int).toNat ((wrap64 ((i : Int) + n)) : Int).toNat).toList then (some (u : Int)) else (respellref01_begins.l0 k s i (wrap64 ((n : Int) + 1)))) else (none)) else (none)) else (none))) else (respellref01_begins.l0 k s i (wrap64 ((n : Int) + 1))))) := by
  rw [respellref01_begins.l1]
  exact if_neg (Int.lt_irrefl _)
theorem b_end1 (k : Nat) (s : ByteArray) (i n : Nat) (u : Int) (hs : s.size ≤ 140737488351232) (hn : n ≤ 4) (h1 : 1 ≤ n) (hi : i + n ≤ s.size) (K : Option Int) (hK : respellref01_begins.l0 k s i ((n + 1 : Nat) : Int) = K) (W : Int) (hW : respellref01_Width.f k u = some W) (B : ByteArray) (hB : respellref01_Put.f k u = some B) :
    respellref01_begins.l1 (k + 1) s i n u n = if W = (n : Int) then (if B.toList = (s.extract i (i + n)).toList then some u else K) else K := by
  rw [b_end0, hW, hB]
  have e1 : wrap64 ((i : Int) + n) = ((i + n : Nat) : Int) := by rw [wrap64_id _ (by omega) (by omega)]; omega
  have e2 : wrap64 ((n : Int) + 1) = ((n + 1 : Nat) : Int) := by rw [wrap64_id _ (by omega) (by omega)]; omega
  rw [e1, e2, hK]
  simp only [Option.bind_some]
  rw [if_pos (Int.natCast_nonneg i), if_pos (by omega : (i : Int) ≤ ((i + n : Nat) : Int)), if_pos (by omega : ((i + n : Nat) : Int) ≤ (s.size : Int)), Int.toNat_natCast, Int.toNat_natCast]
theorem b_end (k : Nat) (s : ByteArray) (i n : Nat) (u : Nat) (hs : s.size ≤ 140737488351232) (hn : n ≤ 4) (h1 : 1 ≤ n) (hi : i + n ≤ s.size) (h1u : n = 1 → u < 256) :
    respellref01_begins.l1 (k + 6) s i n u n = if Enc s i u n then some (u : Int) else respellref01_begins.l0 (k + 5) s i ((n + 1 : Nat) : Int) := by
  rw [b_end1 (k + 5) s i n u hs hn h1 hi _ rfl _ (ref_width (k + 2) u) _ (ref_put k u)]
  by_cases hw : wid u = (n : Int)
  · rw [if_pos hw]
    have hr : u < 1114112 := by
      rcases wid_cases u with ⟨h, _⟩ | ⟨h1', h2, h⟩ | ⟨h1', h2, h⟩ | ⟨h1', h2, h⟩ | ⟨h1', h2, h3, h⟩ | ⟨h1', h2, h⟩ <;> first | omega | (have := h1u (by omega); omega)
    by_cases he : Enc s i u n
    · rw [if_pos he, if_pos ((match_iff hi hw h1 hr).2 he)]
    · rw [if_neg he, if_neg (fun h => he ((match_iff hi hw h1 hr).1 h))]
  · rw [if_neg hw, if_neg (fun h => hw (Enc.wid h))]
def hdv (s : ByteArray) (i n : Nat) : Nat := if n = 1 then bN s i else if n = 2 then bN s i % 32 else if n = 3 then bN s i % 16 else bN s i % 8
theorem b_j1 (k : Nat) (s : ByteArray) (i n : Nat) (hs : s.size ≤ 140737488351232) (hn : n ≤ 4) (h1 : 1 ≤ n) (hi : i + n ≤ s.size) :
    respellref01_begins.j1 (k + 1) s i n true = respellref01_begins.j2 k s i n (hdv s i n : Nat) := by
  have hb := bN_lt s i
  have e0 : wrap64 (bt s i) = ((bN s i : Nat) : Int) := by rw [bt_bN (by omega), wrap64_id _ (by omega) (by omega)]
  rw [respellref01_begins.j1]
  rw [if_pos rfl, if_pos (Int.natCast_nonneg i), if_pos (by omega : (i : Int) < (s.size : Int)), e0]
  rcases (by omega : n = 1 ∨ n = 2 ∨ n = 3 ∨ n = 4) with rfl | rfl | rfl | rfl
  · rw [if_neg (by decide)]; rfl
  · rw [if_pos (by decide)]; simp only [Option.bind_some]; rw [if_pos (by decide), if_pos (by decide), if_neg (by decide)]
    rw [show rd [0, 0, 32, 16, 8] ((2 : Nat) : Int) = 32 from rfl, tmod_pos (by omega) (by decide)]; rfl
  · rw [if_pos (by decide)]; simp only [Option.bind_some]; rw [if_pos (by decide), if_pos (by decide), if_neg (by decide)]
    rw [show rd [0, 0, 32, 16, 8] ((3 : Nat) : Int) = 16 from rfl, tmod_pos (by omega) (by decide)]; rfl
  · rw [if_pos (by decide)]; simp only [Option.bind_some]; rw [if_pos (by decide), if_pos (by decide), if_neg (by decide)]
    rw [show rd [0, 0, 32, 16, 8] ((4 : Nat) : Int) = 8 from rfl, tmod_pos (by omega) (by decide)]; rfl
theorem b_head (k : Nat) (s : ByteArray) (i n : Nat) (hs : s.size ≤ 140737488351232) (hn : n ≤ 4) (h1 : 1 ≤ n) (hi : i + n ≤ s.size) :
    respellref01_begins.l0 (k + 3) s i n = respellref01_begins.l1 k s i n (hdv s i n : Nat) ((1 : Nat) : Int) := by
  rw [respellref01_begins.l0, if_pos (by omega : (n : Int) ≤ 4)]
  have e1 : wrap64 ((i : Int) + n) = ((i + n : Nat) : Int) := by rw [wrap64_id _ (by omega) (by omega)]; omega
  rw [e1, decide_eq_true (by omega : ((i + n : Nat) : Int) ≤ (s.size : Int)), b_j1 (k + 1) s i n hs hn h1 hi, respellref01_begins.j2]
  rfl
theorem b_out (k : Nat) (s : ByteArray) (i n : Nat) (hs : s.size ≤ 140737488351232) (hn : n ≤ 5) (hi0 : i < s.size) (hi : 5 ≤ n ∨ s.size < i + n) : respellref01_begins.l0 (k + 2) s i n = some (-1) := by
  rw [respellref01_begins.l0]
  by_cases h5 : (n : Int) ≤ 4
  · have e1 : wrap64 ((i : Int) + n) = ((i + n : Nat) : Int) := by rw [wrap64_id _ (by omega) (by omega)]; omega
    rw [if_pos h5, e1, decide_eq_false (by omega : ¬ ((i + n : Nat) : Int) ≤ (s.size : Int)), respellref01_begins.j1, if_neg (by decide)]
  · rw [if_neg h5, respellref01_begins.j1, if_neg (by decide)]
theorem b_l0 (k : Nat) (s : ByteArray) (i n : Nat) (hs : s.size ≤ 140737488351232) (hn : n ≤ 4) (h1 : 1 ≤ n) (hi : i + n ≤ s.size) :
    respellref01_begins.l0 (k + 8 + n) s i n = if Enc s i (val s i n) n then some ((val s i n : Nat) : Int) else respellref01_begins.l0 (k + 5) s i ((n + 1 : Nat) : Int) := by
  have b0 := bN_lt s i; have b1 := bN_lt s (i + 1); have b2 := bN_lt s (i + 2); have b3 := bN_lt s (i + 3)
  rcases (by omega : n = 1 ∨ n = 2 ∨ n = 3 ∨ n = 4) with rfl | rfl | rfl | rfl
  · rw [b_head (k + 6) s i 1 hs hn h1 hi, b_end k s i 1 _ hs hn h1 hi (fun _ => by unfold hdv; rw [if_pos rfl]; exact b0)]
    rfl
  · rw [b_head (k + 7) s i 2 hs hn h1 hi, b_l1 (k + 6) s i 2 1 _ hs (by decide) hn hi (by unfold hdv; rw [if_neg (by decide), if_pos rfl]; omega), b_end k s i 2 _ hs hn h1 hi (fun h => absurd h (by decide))]
    rfl
  · rw [b_head (k + 8) s i 3 hs hn h1 hi, b_l1 (k + 7) s i 3 1 _ hs (by decide) hn hi (by unfold hdv; rw [if_neg (by decide), if_neg (by decide), if_pos rfl]; omega), b_l1 (k + 6) s i 3 2 _ hs (by decide) hn hi (by unfold hdv; rw [if_neg (by decide), if_neg (by decide), if_pos rfl]; omega), b_end k s i 3 _ hs hn h1 hi (fun h => absurd h (by decide))]
    rfl
  · rw [b_head (k + 9) s i 4 hs hn h1 hi, b_l1 (k + 8) s i 4 1 _ hs (by decide) hn hi (by unfold hdv; rw [if_neg (by decide), if_neg (by decide), if_neg (by decide)]; omega), b_l1 (k + 7) s i 4 2 _ hs (by decide) hn hi (by unfold hdv; rw [if_neg (by decide), if_neg (by decide), if_neg (by decide)]; omega), b_l1 (k + 6) s i 4 3 _ hs (by decide) hn hi (by unfold hdv; rw [if_neg (by decide), if_neg (by decide), if_neg (by decide)]; omega), b_end k s i 4 _ hs hn h1 hi (fun h => absurd h (by decide))]
    rfl
theorem begins_at (k : Nat) (s : ByteArray) (i : Nat) (hs : s.size ≤ 140737488351232) (hi : i < s.size) :
    respellref01_begins.f (k + 40) s i = some (if Err s i then -1 else ((Utf8.decode s i).1 : Int)) := by
  unfold respellref01_begins.f
  have found : ∀ n, Enc s i (val s i n) n → (some ((val s i n : Nat) : Int)) = some (if Err s i then -1 else ((Utf8.decode s i).1 : Int)) := by
    intro n h
    rw [if_neg h.not_err, dec_of h]
  have none : (∀ n, 1 ≤ n → n ≤ 4 → i + n ≤ s.size → ¬ Enc s i (val s i n) n) → (some (-1 : Int)) = some (if Err s i then -1 else ((Utf8.decode s i).1 : Int)) := by
    intro h
    by_cases he : Err s i
    · rw [if_pos he]
    · have h1 := enc_of_not_err hi he
      have h2 := h1.le
      exact absurd (by rw [h1.val_eq]; exact h1) (h _ h2.1 h2.2.1 h2.2.2.1)
  rw [show k + 40 = (k + 31) + 8 + 1 by omega, show (1 : Int) = ((1 : Nat) : Int) from rfl, b_l0 (k + 31) s i 1 hs (by decide) (by decide) (by omega)]
  by_cases c1 : Enc s i (val s i 1) 1
  · rw [if_pos c1]; exact found 1 c1
  rw [if_neg c1]
  by_cases r2 : i + 2 ≤ s.size
  case neg =>
    rw [show k + 31 + 5 = (k + 34) + 2 by omega, b_out _ s i _ hs (by decide) hi (by omega)]
    exact none fun n h1 h4 hr => by obtain rfl : n = 1 := by omega
                                    exact c1
  rw [show k + 31 + 5 = (k + 26) + 8 + 2 by omega, show 1 + 1 = 2 from rfl, b_l0 (k + 26) s i 2 hs (by decide) (by decide) r2]
  by_cases c2 : Enc s i (val s i 2) 2
  · rw [if_pos c2]; exact found 2 c2
  rw [if_neg c2]
  by_cases r3 : i + 3 ≤ s.size
  case neg =>
    rw [show k + 26 + 5 = (k + 29) + 2 by omega, b_out _ s i _ hs (by decide) hi (by omega)]
    exact none fun n h1 h4 hr => by
      rcases (by omega : n = 1 ∨ n = 2) with rfl | rfl
      · exact c1
      · exact c2
  rw [show k + 26 + 5 = (k + 20) + 8 + 3 by omega, show 2 + 1 = 3 from rfl, b_l0 (k + 20) s i 3 hs (by decide) (by decide) r3]
  by_cases c3 : Enc s i (val s i 3) 3
  · rw [if_pos c3]; exact found 3 c3
  rw [if_neg c3]
  by_cases r4 : i + 4 ≤ s.size
  case neg =>
    rw [show k + 20 + 5 = (k + 23) + 2 by omega, b_out _ s i _ hs (by decide) hi (by omega)]
    exact none fun n h1 h4 hr => by
      rcases (by omega : n = 1 ∨ n = 2 ∨ n = 3) with rfl | rfl | rfl
      · exact c1
      · exact c2
      · exact c3
  rw [show k + 20 + 5 = (k + 13) + 8 + 4 by omega, show 3 + 1 = 4 from rfl, b_l0 (k + 13) s i 4 hs (by decide) (by decide) r4]
  by_cases c4 : Enc s i (val s i 4) 4
  · rw [if_pos c4]; exact found 4 c4
  rw [if_neg c4, show k + 13 + 5 = (k + 16) + 2 by omega, show 4 + 1 = 5 from rfl, b_out _ s i _ hs (by decide) hi (by omega)]
  exact none fun n h1 h4 hr => by
    rcases (by omega : n = 1 ∨ n = 2 ∨ n = 3 ∨ n = 4) with rfl | rfl | rfl | rfl
    · exact c1
    · exact c2
    · exact c3
    · exact c4
theorem unit_at (k : Nat) (s : ByteArray) (i : Nat) (hi : i < s.size) : utf_unit.f (k + 1) (s.extract i s.size) ((Utf8.decode s i).1 : Int) = some ((dU s i : Int), (dW s i : Int)) := by
  have hb := bN_lt s i
  have hsz : (s.extract i s.size).size = s.size - i := tail_size s i
  have hdec : utf8_DecodeRuneInString.f (s.extract i s.size) = some (((Utf8.decode s i).1 : Int), ((Utf8.decode s i).2 : Int)) := by
    unfold utf8_DecodeRuneInString.f Lib.decodeGo
    rw [if_neg (by omega), dec_tail]; rfl
  have hlen : ¬ Err s i → utf8_RuneLen.f (k + 1) ((Utf8.decode s i).1 : Int) = some ((dW s i : Nat) : Int) := by
    intro he
    have h1 := enc_of_not_err hi he
    have h2 := h1.wid
    have h3 := h1.le
    rw [rune_len k _ (by omega) (by omega), h2]; rfl
    rcases wid_cases ((Utf8.decode s i).1 : Int) with ⟨h, _⟩ | ⟨h1', h2', h⟩ | ⟨h1', h2', h⟩ | ⟨h1', h2', h⟩ | ⟨h1', h2', h3', h⟩ | ⟨h1', h2', h⟩ <;> omega
  unfold utf_unit.f
  by_cases he : Err s i
  · obtain ⟨h1, h2, h3⟩ := err_of hi he
    have e := he
    unfold Err at e
    rw [hdec, e]
    simp only [Option.bind_some]
    rw [if_pos (by decide), if_pos (by decide), if_pos (by omega), show (0 : Int) = ((0 : Nat) : Int) from rfl, bt_bN (by omega), bN_tail, Nat.add_zero, wrap64_id ((bN s i : Nat) : Int) (by omega) (by omega), wrap64_id _ (by omega) (by omega), h2, h3]
    congr 1
  · have h1 := enc_of_not_err hi he
    have h2 := h1.le
    have hU : dU s i = (Utf8.decode s i).1 := by unfold dU; rw [if_neg he]
    rw [hdec, hlen he]
    simp only [Option.bind_some]
    rw [wrap64_id ((Utf8.decode s i).1 : Int) (by omega) (by omega), hU]
    by_cases c : ((Utf8.decode s i).1 : Int) = 65533
    · rw [if_pos c, if_neg (fun h => he (by unfold Err; apply Prod.ext <;> simp only <;> omega))]
    · rw [if_neg c]
end Go.Proofs.YtalbchgiijoeaaaDoor


-- Slimmed by slim.py from the text of this name without 'Kh'.
namespace Go.Proofs.YtalbchgiijoeaaaDoor
open Go.RowKit Go.Lib Go.Proofs.YtalbchgiijoeaaaDoor.G
open Go.Proofs.YtalbchgiijoeaaaDoorW.PrintWords
set_option linter.unusedVariables false
set_option linter.unusedSimpArgs false
theorem nums_size (l : List Int) : (strOfNums l).size = l.length := by rw [size_eq]; simp [strOfNums]
end Go.Proofs.YtalbchgiijoeaaaDoor


-- Slimmed by slim.py from the text of this name without 'Kh'.
namespace Go.Proofs.YtalbchgiijoeaaaDoor
open Go.RowKit Go.Lib
set_option linter.unusedVariables false
set_option linter.unusedSimpArgs false
def uF (s : ByteArray) : Nat → Nat → List (Nat × Nat)
  | 0, _ => []
  | f + 1, i => if i < s.size then (i, dU s i) :: uF s f (i + dW s i) else []
def units (s : ByteArray) : List (Nat × Nat) := uF s s.size 0
theorem uF_len (s : ByteArray) : ∀ f i, (uF s f i).length ≤ s.size - i := by
  intro f
  induction f with
  | zero => intro i; simp [uF]
  | succ f ih =>
    intro i
    simp only [uF]
    by_cases c : i < s.size
    · have hw := dW_le c
      rw [if_pos c, List.length_cons]
      have := ih (i + dW s i)
      omega
    · rw [if_neg c]; simp
theorem uF_more (s : ByteArray) : ∀ f g i, s.size - i ≤ f → s.size - i ≤ g → uF s f i = uF s g i := by
  intro f
  induction f with
  | zero =>
    intro g i h1 h2
    cases g with
    | zero => rfl
    | succ g => simp only [uF]; rw [if_neg (by omega)]
  | succ f ih =>
    intro g i h1 h2
    simp only [uF]
    by_cases c : i < s.size
    · have hw := dW_le c
      rw [if_pos c]
      cases g with
      | zero => omega
      | succ g => simp only [uF]; rw [if_pos c, ih g _ (by omega) (by omega)]
    · rw [if_neg c]
      cases g with
      | zero => rfl
      | succ g => simp only [uF]; rw [if_neg c]
theorem uF_cons (s : ByteArray) (f i : Nat) (h : i < s.size) (hf : s.size - i ≤ f) : uF s f i = (i, dU s i) :: uF s f (i + dW s i) := by
  have hw := dW_le h
  cases f with
  | zero => omega
  | succ f =>
    conv => lhs; unfold uF
    rw [if_pos h, uF_more s f (f + 1) _ (by omega) (by omega)]
theorem uF_nil (s : ByteArray) (f i : Nat) (h : s.size ≤ i) : uF s f i = [] := by
  cases f with
  | zero => rfl
  | succ f => unfold uF; rw [if_neg (by omega)]
end Go.Proofs.YtalbchgiijoeaaaDoor


