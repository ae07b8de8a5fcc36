-- Slimmed by slim.py from the text of this name without 'Kh'.
import Derived.Test.YtalbchgiijoeaaaDoorKhP6
import Derived.Test.YtalbchgiijoeaaaDoorKhR2
import Derived.Test.YtalbchgiijoeaaaDoorKhG13
import Derived.Test.YtalbchgiijoeaaaDoorKhG25
import Derived.Test.YtalbchgiijoeaaaDoorKhG26
import Derived.Test.YtalbchgiijoeaaaDoorKhG27
import Derived.Test.YtalbchgiijoeaaaDoorKhG28
namespace Go.Proofs.YtalbchgiijoeaaaDoor
open Go.RowKit Go.Lib Go.Proofs.YtalbchgiijoeaaaDoor.G
open Go.Proofs.YtalbchgiijoeaaaDoorW.PrintWords
set_option linter.unusedVariables false
set_option linter.unusedSimpArgs false
theorem byts_byte (u x : Int) (h : x ∈ byts u) : 0 ≤ x ∧ x ≤ 255 := by
  unfold byts at h
  by_cases c1 : 1114240 ≤ u ∧ u ≤ 1114367
  · rw [if_pos c1] at h; simp only [List.mem_cons, List.not_mem_nil, or_false] at h; omega
  rw [if_neg c1] at h
  by_cases c2 : 0 ≤ u ∧ u ≤ 127
  · rw [if_pos c2] at h; simp only [List.mem_cons, List.not_mem_nil, or_false] at h; omega
  rw [if_neg c2] at h
  by_cases c3 : 128 ≤ u ∧ u ≤ 2047
  · rw [if_pos c3] at h; simp only [List.mem_cons, List.not_mem_nil, or_false] at h; omega
  rw [if_neg c3] at h
  by_cases c4 : 2048 ≤ u ∧ u ≤ 65535 ∧ (u < 55296 ∨ 57343 < u)
  · rw [if_pos c4] at h; simp only [List.mem_cons, List.not_mem_nil, or_false] at h; omega
  rw [if_neg c4] at h
  by_cases c5 : 65536 ≤ u ∧ u ≤ 1114111
  · rw [if_pos c5] at h; simp only [List.mem_cons, List.not_mem_nil, or_false] at h; omega
  rw [if_neg c5] at h
  cases h
theorem bytesOf_nums (l : List Int) (h : ∀ x ∈ l, 0 ≤ x ∧ x ≤ 255) : bytesOf (strOfNums l) = l := by
  unfold bytesOf
  have e : (strOfNums l).data.toList = l.map fun n => UInt8.ofNat n.toNat := by rw [← nums_list, ByteArray.toList_eq]
  rw [e, List.map_map]
  conv => rhs; rw [← List.map_id l]
  apply List.map_congr_left
  intro x hx
  have := h x hx
  simp
  omega
theorem wid_le (u : Int) : 0 ≤ wid u ∧ wid u ≤ 4 := by rcases wid_cases u with ⟨h, _⟩ | ⟨h1, h2, h⟩ | ⟨h1, h2, h⟩ | ⟨h1, h2, h⟩ | ⟨h1, h2, h3, h⟩ | ⟨h1, h2, h⟩ <;> omega
def joinL (l : List Int) : Option (List Int) := if l.all (fun u => wid u != 0) then some (l.flatMap byts) else none
def joinR (l : List Int) : ByteArray × Int := match joinL l with | some b => (strOfNums b, 0) | none => (⟨#[]⟩, 11)
theorem flat_len (l : List Int) : (l.flatMap byts).length ≤ 4 * l.length := by
  induction l with
  | nil => simp
  | cons u l ih =>
    have h1 := byts_len u
    have h2 := wid_le u
    rw [List.flatMap_cons, List.length_append, List.length_cons]
    omega
theorem rd_at (l : List Int) (j : Nat) (h : j < l.length) : rd l (j : Int) = l[j] := by unfold rd; rw [Int.toNat_natCast, List.getD_eq_getElem?_getD, List.getElem?_eq_getElem h]; rfl
theorem join_from (l : List Int) (hl : l.length ≤ 4398046511104) : ∀ d j k acc, l.length - j = d → acc.length ≤ 4 * j → j ≤ l.length → d + 20 < k →
    utf_Join.l0 k acc l (l.length : Int) j = some (if (l.drop j).all (fun u => wid u != 0) then (strOfNums (acc ++ (l.drop j).flatMap byts), 0) else (⟨#[]⟩, 11)) := by
  intro d
  induction d with
  | zero =>
    intro j k acc h1 h2 h3 h4
    obtain ⟨k, rfl⟩ : ∃ m, k = m + 1 := ⟨k - 1, by omega⟩
    rw [utf_Join.l0, if_neg (by omega), List.drop_of_length_le (by omega)]
    simp
  | succ d ih =>
    intro j k acc h1 h2 h3 h4
    obtain ⟨k, rfl⟩ : ∃ m, k = m + 3 := ⟨k - 3, by omega⟩
    have hj : j < l.length := by omega
    have hb := byts_len l[j]
    have hw := wid_le l[j]
    rw [utf_Join.l0, if_pos (by omega), if_pos (by omega), if_pos (by omega), rd_at l j hj, utf_width k, Option.bind_some, List.drop_eq_getElem_cons hj, List.all_cons, List.flatMap_cons]
    by_cases c : wid l[j] = 0
    · rw [if_pos c, show (wid l[j] != 0) = false by rw [c]; rfl]; simp
    · rw [if_neg c, utf_put k, Option.bind_some, if_pos (by rw [nums_size]; omega), bytesOf_nums _ (byts_byte _), wrap64_id _ (by omega) (by omega), show ((j : Int) + 1) = ((j + 1 : Nat) : Int) by omega]
      rw [ih (j + 1) (k + 2) _ (by omega) (by rw [List.length_append]; omega) (by omega) (by omega), show (wid l[j] != 0) = true by simpa using c, Bool.true_and, List.append_assoc]
theorem join_is (k : Nat) (l : List Int) (hl : l.length ≤ 4398046511104) (hk : l.length + 20 < k) : utf_Join.f k l = some (joinR l) := by
  unfold utf_Join.f joinR joinL
  have := join_from l hl l.length 0 k [] (by omega) (by simp) (by omega) hk
  rw [show ((0 : Nat) : Int) = 0 from rfl] at this
  rw [this, List.drop_zero, List.nil_append]
  by_cases c : l.all (fun u => wid u != 0) = true
  · rw [if_pos c, if_pos c]
  · rw [if_neg c, if_neg c]
theorem same_from (a b : List Int) (hl : a.length = b.length) (hb : a.length ≤ 4398046511104) : ∀ d j k, a.length - j = d → j ≤ a.length → d < k → respelllaw01_same.l0 k a b j = some (decide (a.drop j = b.drop j)) := by
  intro d
  induction d with
  | zero =>
    intro j k h1 h2 h3
    obtain ⟨k, rfl⟩ : ∃ m, k = m + 1 := ⟨k - 1, by omega⟩
    rw [respelllaw01_same.l0, if_neg (by omega), List.drop_of_length_le (by omega), List.drop_of_length_le (by omega)]
    rfl
  | succ d ih =>
    intro j k h1 h2 h3
    obtain ⟨k, rfl⟩ : ∃ m, k = m + 1 := ⟨k - 1, by omega⟩
    have hj : j < a.length := by omega
    have hj' : j < b.length := by omega
    rw [respelllaw01_same.l0, if_pos (by omega), if_pos (by omega), if_pos (by omega), rd_at a j hj, rd_at b j hj', List.drop_eq_getElem_cons hj, List.drop_eq_getElem_cons hj']
    by_cases c : a[j] = b[j]
    · rw [if_pos c, wrap64_id _ (by omega) (by omega), show ((j : Int) + 1) = ((j + 1 : Nat) : Int) by omega, ih (j + 1) k (by omega) (by omega) (by omega), c]
      simp only [List.cons.injEq, true_and]
    · rw [if_neg c, decide_eq_false (fun h => c (List.cons.inj h).1)]
theorem same_is (k : Nat) (a b : List Int) (hb : a.length ≤ 4398046511104) (hk : a.length < k) : respelllaw01_same.f k a b = some (decide (a = b)) := by
  unfold respelllaw01_same.f
  by_cases c : a.length = b.length
  · have := same_from a b c hb a.length 0 k (by omega) (by omega) hk
    rw [List.drop_zero, List.drop_zero] at this
    rw [if_pos (by omega)]; exact this
  · rw [if_neg (by omega), decide_eq_false (fun h => c (by rw [h]))]
theorem eq_from (a b : List Int) (hl : a.length = b.length) (hb : a.length ≤ 4398046511104) : ∀ d j k, a.length - j = d → j ≤ a.length → d < k → slices_Equal_int_int.l0 k a b (a.length : Int) j = some (decide (a.drop j = b.drop j)) := by
  intro d
  induction d with
  | zero =>
    intro j k h1 h2 h3
    obtain ⟨k, rfl⟩ : ∃ m, k = m + 1 := ⟨k - 1, by omega⟩
    rw [slices_Equal_int_int.l0, if_neg (by omega), List.drop_of_length_le (by omega), List.drop_of_length_le (by omega)]
    rfl
  | succ d ih =>
    intro j k h1 h2 h3
    obtain ⟨k, rfl⟩ : ∃ m, k = m + 1 := ⟨k - 1, by omega⟩
    have hj : j < a.length := by omega
    have hj' : j < b.length := by omega
    rw [slices_Equal_int_int.l0, if_pos (by omega), if_pos (by omega), if_pos (by omega), if_pos (by omega), rd_at a j hj, rd_at b j hj', List.drop_eq_getElem_cons hj, List.drop_eq_getElem_cons hj']
    by_cases c : a[j] = b[j]
    · rw [if_pos c, wrap64_id _ (by omega) (by omega), show ((j : Int) + 1) = ((j + 1 : Nat) : Int) by omega, ih (j + 1) k (by omega) (by omega) (by omega), c]
      simp only [List.cons.injEq, true_and]
    · rw [if_neg c, decide_eq_false (fun h => c (List.cons.inj h).1)]
theorem eq_is (k : Nat) (a b : List Int) (hb : a.length ≤ 4398046511104) (hk : a.length < k) : slices_Equal_int_int.f k a b = some (decide (a = b)) := by
  unfold slices_Equal_int_int.f
  by_cases c : a.length = b.length
  · have := eq_from a b c hb a.length 0 k (by omega) (by omega) hk
    rw [List.drop_zero, List.drop_zero] at this
    rw [if_pos (by omega)]; exact this
  · rw [if_neg (by omega), decide_eq_false (fun h => c (by rw [h]))]
theorem cut_len (s : ByteArray) : (cutF s).length ≤ s.size := by unfold cutF units; rw [List.length_map]; exact uF_len s s.size 0
theorem cut_is (s : ByteArray) (hs : s.size ≤ 4398046511104) : utf_Cut.f s = some (cutF s) := by unfold utf_Cut.f; rw [if_pos (by omega)]
theorem join_size (l : List Int) : (joinR l).1.size ≤ 4 * l.length := by
  unfold joinR joinL
  split
  · rename_i b hb
    split at hb
    · cases hb; rw [nums_size]; exact flat_len l
    · cases hb
  · show (⟨#[]⟩ : ByteArray).size ≤ _; simp [ByteArray.size]
theorem proper_is (k : Nat) (l : List Int) (hl : l.length ≤ 1073741824) (hk : 4 * l.length + 20 < k) : utf_Proper.f k l = some (decide ((joinR l).2 = 0 ∧ cutF (joinR l).1 = l)) := by
  have hz := join_size l
  have hc := cut_len (joinR l).1
  unfold utf_Proper.f
  rw [join_is k l (by omega) (by omega), Option.bind_some]
  by_cases c : (joinR l).2 = 0
  · rw [if_pos c, cut_is _ (by omega), Option.bind_some, eq_is k _ _ (by omega) (by omega), Option.bind_some]
    simp [c]
  · rw [if_neg c]; simp [c]
end Go.Proofs.YtalbchgiijoeaaaDoor

