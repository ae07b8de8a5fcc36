-- Slimmed by slim.py from the text of this name without 'Kf'.
import Derived.Test.YtalbchgiijoeaaaDoorKfP1
import Derived.Lib.RuneCountTail
import Derived.Laws.BytesArg
import Derived.Test.YtalbchgiijoeaaaDoorKfWWords
namespace Go.Proofs.YtalbchgiijoeaaaDoor
open Go.Lib
open Go.Proofs.YtalbchgiijoeaaaDoorW.PrintWords
set_option linter.unusedVariables false
theorem size_list (s : ByteArray) : s.data.toList.length = s.size := (size_eq s).symm
theorem piece (s : ByteArray) (i n : Nat) (h : i + n ≤ s.size) : (s.extract i (i + n)).toList = (List.range n).map fun j => s.get! (i + j) := by
  rw [ByteArray.toList_eq, extract_data, Nat.add_sub_cancel_left]
  apply List.ext_getElem?
  intro j
  by_cases hj : j < n
  · rw [List.getElem?_take_of_lt hj, List.getElem?_drop, List.getElem?_map, List.getElem?_range hj, Option.map_some, ← getD_get!']
    rw [List.getD_eq_getElem?_getD, List.getElem?_eq_getElem (by rw [size_list]; omega), Option.getD_some]
  · rw [List.getElem?_eq_none (by rw [List.length_take]; omega), List.getElem?_eq_none (by simp; omega)]
theorem nums_list (l : List Int) : (strOfNums l).toList = l.map fun n => UInt8.ofNat n.toNat := by rw [ByteArray.toList_eq]; rfl
theorem u8_eq (n : Nat) (x : UInt8) (h : n < 256) : UInt8.ofNat n = x ↔ x.toNat = n := by
  constructor
  · intro e; rw [← e]; simp; omega
  · intro e; rw [← e]; simp
theorem match_iff {s : ByteArray} {i n u : Nat} (hi : i + n ≤ s.size) (hw : wid (u : Int) = (n : Int)) (hn : 1 ≤ n) (hu : u < 1114112) :
    (strOfNums (byts (u : Int))).toList = (s.extract i (i + n)).toList ↔ Enc s i u n := by
  rw [nums_list, piece s i n hi]
  unfold wid at hw
  unfold Enc bN
  by_cases c1 : u ≤ 127
  · rw [if_pos (by omega)] at hw
    obtain rfl : n = 1 := by omega
    have e : byts (u : Int) = [(u : Int)] := by unfold byts; rw [if_neg (by omega), if_pos (by omega)]
    rw [e]
    simp only [List.map_cons, List.map_nil, List.range_succ, List.range_zero, List.nil_append, Int.toNat_natCast, Nat.add_zero, List.cons.injEq, and_true, u8_eq u _ (by omega : u < 256)]
    constructor
    · intro h; exact .inl ⟨trivial, by omega, by omega, h⟩
    · rintro (⟨_, _, _, h⟩ | ⟨h, _⟩ | ⟨h, _⟩ | ⟨h, _⟩)
      · exact h
      all_goals omega
  rw [if_neg (by omega)] at hw
  by_cases c2 : u ≤ 2047
  · rw [if_pos (by omega)] at hw
    obtain rfl : n = 2 := by omega
    have e : byts (u : Int) = [((192 + u / 64 : Nat) : Int), ((128 + u % 64 : Nat) : Int)] := by unfold byts; rw [if_neg (by omega), if_neg (by omega), if_pos (by omega)]; simp
    rw [e]
    simp only [List.map_cons, List.map_nil, List.range_succ, List.range_zero, List.nil_append, List.cons_append, Int.toNat_natCast, Nat.add_zero, List.cons.injEq, and_true, u8_eq (192 + u / 64) _ (by omega), u8_eq (128 + u % 64) _ (by omega)]
    constructor
    · intro h; exact .inr (.inl ⟨trivial, by omega, by omega, by omega, h.1, h.2⟩)
    · rintro (⟨h, _⟩ | ⟨_, _, _, _, h, h'⟩ | ⟨h, _⟩ | ⟨h, _⟩)
      · omega
      · exact ⟨h, h'⟩
      all_goals omega
  rw [if_neg (by omega)] at hw
  by_cases c3 : u ≤ 65535
  · by_cases c4 : u < 55296 ∨ 57343 < u
    · rw [if_pos (by omega)] at hw
      obtain rfl : n = 3 := by omega
      have e : byts (u : Int) = [((224 + u / 4096 : Nat) : Int), ((128 + u / 64 % 64 : Nat) : Int), ((128 + u % 64 : Nat) : Int)] := by unfold byts; rw [if_neg (by omega), if_neg (by omega), if_neg (by omega), if_pos (by omega)]; simp
      rw [e]
      simp only [List.map_cons, List.map_nil, List.range_succ, List.range_zero, List.nil_append, List.cons_append, Int.toNat_natCast, Nat.add_zero, List.cons.injEq, and_true, u8_eq (224 + u / 4096) _ (by omega), u8_eq (128 + u / 64 % 64) _ (by omega), u8_eq (128 + u % 64) _ (by omega)]
      constructor
      · intro h; exact .inr (.inr (.inl ⟨trivial, by omega, by omega, by omega, by omega, h.1, h.2.1, h.2.2⟩))
      · rintro (⟨h, _⟩ | ⟨h, _⟩ | ⟨_, _, _, _, _, h⟩ | ⟨h, _⟩)
        · omega
        · omega
        · exact h
        · omega
    · rw [if_neg (by omega), if_neg (by omega)] at hw; omega
  rw [if_neg (by omega), if_pos (by omega)] at hw
  obtain rfl : n = 4 := by omega
  have e : byts (u : Int) = [((240 + u / 262144 : Nat) : Int), ((128 + u / 4096 % 64 : Nat) : Int), ((128 + u / 64 % 64 : Nat) : Int), ((128 + u % 64 : Nat) : Int)] := by unfold byts; rw [if_neg (by omega), if_neg (by omega), if_neg (by omega), if_neg (by omega), if_pos (by omega)]; simp
  rw [e]
  simp only [List.map_cons, List.map_nil, List.range_succ, List.range_zero, List.nil_append, List.cons_append, Int.toNat_natCast, Nat.add_zero, List.cons.injEq, and_true, u8_eq (240 + u / 262144) _ (by omega), u8_eq (128 + u / 4096 % 64) _ (by omega), u8_eq (128 + u / 64 % 64) _ (by omega), u8_eq (128 + u % 64) _ (by omega)]
  constructor
  · intro h; exact .inr (.inr (.inr ⟨trivial, by omega, by omega, by omega, h.1, h.2.1, h.2.2.1, h.2.2.2⟩))
  · rintro (⟨h, _⟩ | ⟨h, _⟩ | ⟨h, _⟩ | ⟨_, _, _, _, h⟩)
    · omega
    · omega
    · omega
    · exact h
theorem bt_bN {s : ByteArray} {i : Nat} (h : i < s.size) : bt s (i : Int) = bN s i := by
  unfold bt bN
  rw [dif_pos (by simpa using h)]
  rw [← getD_get!', List.getD_eq_getElem?_getD, List.getElem?_eq_getElem (by rw [size_list]; exact h)]
  rfl
theorem bN_tail (s : ByteArray) (n j : Nat) : bN (s.extract n s.size) j = bN s (n + j) := by unfold bN; rw [tail_get!]
theorem dec_tail (s : ByteArray) (n j : Nat) : Utf8.decode (s.extract n s.size) j = Utf8.decode s (n + j) := tail_decode s n j
end Go.Proofs.YtalbchgiijoeaaaDoor

