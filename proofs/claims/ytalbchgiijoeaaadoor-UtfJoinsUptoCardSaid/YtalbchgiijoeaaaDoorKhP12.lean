-- Slimmed by slim.py from the text of this name without 'Kh'.
import Derived.Test.YtalbchgiijoeaaaDoorKhP8
import Derived.Test.YtalbchgiijoeaaaDoorKhP7
import Derived.Test.YtalbchgiijoeaaaDoorKhR5
import Derived.Test.YtalbchgiijoeaaaDoorKhG29
import Derived.Test.YtalbchgiijoeaaaDoorKhG30
import Derived.Test.YtalbchgiijoeaaaDoorKhG31
namespace Go.Proofs.YtalbchgiijoeaaaDoor
open Go.RowKit Go.Lib Go.Proofs.YtalbchgiijoeaaaDoor.G
open Go.Proofs.YtalbchgiijoeaaaDoorW.PrintWords
set_option linter.unusedVariables false
set_option linter.unusedSimpArgs false
theorem rjoin_from (l : List Int) (hl : l.length ≤ 4398046511104) : ∀ d j k acc, l.length - j = d → acc.length ≤ 4 * j → j ≤ l.length → d + 20 < k →
    respellref01_Join.l0 k l acc j = some (if (l.drop j).all (fun u => wid u != 0) then (strOfNums (acc ++ (l.drop j).flatMap byts), 0) else (⟨#[]⟩, 11)) := by
  intro d
  induction d with
  | zero =>
    intro j k acc h1 h2 h3 h4
    obtain ⟨k, rfl⟩ : ∃ m, k = m + 1 := ⟨k - 1, by omega⟩
    rw [respellref01_Join.l0, if_neg (by omega), List.drop_of_length_le (by omega)]
    simp
  | succ d ih =>
    intro j k acc h1 h2 h3 h4
    obtain ⟨k, rfl⟩ : ∃ m, k = m + 6 := ⟨k - 6, by omega⟩
    have hj : j < l.length := by omega
    have hb := byts_len l[j]
    have hw := wid_le l[j]
    rw [respellref01_Join.l0, if_pos (by omega), if_pos (by omega), rd_at l j hj, ref_width (k + 2), Option.bind_some, List.drop_eq_getElem_cons hj, List.all_cons, List.flatMap_cons]
    by_cases c : wid l[j] = 0
    · rw [if_pos c, show (wid l[j] != 0) = false by rw [c]; rfl]; simp
    · rw [if_neg c, ref_bytes k, Option.bind_some, if_pos (by omega), wrap64_id _ (by omega) (by omega), show ((j : Int) + 1) = ((j + 1 : Nat) : Int) by omega]
      rw [ih (j + 1) (k + 5) _ (by omega) (by rw [List.length_append]; omega) (by omega) (by omega), show (wid l[j] != 0) = true by simpa using c, Bool.true_and, List.append_assoc]
theorem rjoin_is (k : Nat) (l : List Int) (hl : l.length ≤ 4398046511104) (hk : l.length + 20 < k) : respellref01_Join.f k l = some (joinR l) := by
  unfold respellref01_Join.f joinR joinL
  have := rjoin_from l hl l.length 0 k [] (by omega) (by simp) (by omega) hk
  rw [show ((0 : Nat) : Int) = 0 from rfl] at this
  rw [this, List.drop_zero, List.nil_append]
  by_cases c : l.all (fun u => wid u != 0) = true
  · rw [if_pos c, if_pos c]
  · rw [if_neg c, if_neg c]
theorem rcut_from (l : List (Nat × Nat)) (hl : l.length ≤ 4398046511104) : ∀ d j k acc, l.length - j = d → acc.length ≤ j → j ≤ l.length → d < k →
    respellref01_Cut.l0 k acc (l.map c41) j = some (acc ++ (l.drop j).map fun x => (x.2 : Int)) := by
  intro d
  induction d with
  | zero =>
    intro j k acc h1 h2 h3 h4
    obtain ⟨k, rfl⟩ : ∃ m, k = m + 1 := ⟨k - 1, by omega⟩
    rw [respellref01_Cut.l0, if_neg (by rw [List.length_map]; omega), List.drop_of_length_le (by omega)]
    simp
  | succ d ih =>
    intro j k acc h1 h2 h3 h4
    obtain ⟨k, rfl⟩ : ∃ m, k = m + 1 := ⟨k - 1, by omega⟩
    have hj : j < l.length := by omega
    have hx : rd_T41 (l.map c41) (j : Int) = c41 l[j] := by unfold rd_T41; rw [Int.toNat_natCast, List.getD_eq_getElem?_getD, List.getElem?_map, List.getElem?_eq_getElem hj]; rfl
    rw [respellref01_Cut.l0, if_pos (by rw [List.length_map]; omega), if_pos (by omega), if_pos (by omega), hx, wrap64_id _ (by omega) (by omega), show ((j : Int) + 1) = ((j + 1 : Nat) : Int) by omega]
    rw [ih (j + 1) k _ (by omega) (by rw [List.length_append]; simp; omega) (by omega) (by omega), List.drop_eq_getElem_cons hj, List.append_assoc]
    rfl
theorem rcut_is (k : Nat) (s : ByteArray) (hs : s.size ≤ 4398046511104) (hk : s.size + 50 ≤ k) : respellref01_Cut.f k s = some (cutF s) := by
  have hlen := uF_len s s.size 0
  unfold respellref01_Cut.f
  rw [ref_units k s hs hk, Option.bind_some]
  have := rcut_from (units s) (by unfold units; omega) (units s).length 0 k [] (by omega) (by simp) (by omega) (by unfold units; omega)
  rw [show ((0 : Nat) : Int) = 0 from rfl] at this
  rw [this, List.drop_zero, List.nil_append]
  rfl
theorem rprop_from (a b : List Int) (hl : a.length = b.length) (hb : a.length ≤ 4398046511104) : ∀ d j k, a.length - j = d → j ≤ a.length → d < k → respellref01_Proper.l0 k a b j = some (decide (b.drop j = a.drop j)) := by
  intro d
  induction d with
  | zero =>
    intro j k h1 h2 h3
    obtain ⟨k, rfl⟩ : ∃ m, k = m + 1 := ⟨k - 1, by omega⟩
    rw [respellref01_Proper.l0, if_neg (by omega), List.drop_of_length_le (by omega), List.drop_of_length_le (by omega)]
    rfl
  | succ d ih =>
    intro j k h1 h2 h3
    obtain ⟨k, rfl⟩ : ∃ m, k = m + 1 := ⟨k - 1, by omega⟩
    have hj : j < a.length := by omega
    have hj' : j < b.length := by omega
    rw [respellref01_Proper.l0, if_pos (by omega), if_pos (by omega), if_pos (by omega), rd_at a j hj, rd_at b j hj', List.drop_eq_getElem_cons hj, List.drop_eq_getElem_cons hj']
    by_cases c : b[j] = a[j]
    · rw [if_pos c, wrap64_id _ (by omega) (by omega), show ((j : Int) + 1) = ((j + 1 : Nat) : Int) by omega, ih (j + 1) k (by omega) (by omega) (by omega), c]
      simp only [List.cons.injEq, true_and]
    · rw [if_neg c, decide_eq_false (fun h => c (List.cons.inj h).1)]
theorem rprop_is (k : Nat) (l : List Int) (hl : l.length ≤ 1073741824) (hk : 4 * l.length + 60 < k) : respellref01_Proper.f k l = some (decide ((joinR l).2 = 0 ∧ cutF (joinR l).1 = l)) := by
  have hz := join_size l
  have hc := cut_len (joinR l).1
  unfold respellref01_Proper.f
  rw [rjoin_is k l (by omega) (by omega), Option.bind_some]
  by_cases c : (joinR l).2 = 0
  · rw [if_pos c, rcut_is k _ (by omega) (by omega), Option.bind_some]
    by_cases d : (cutF (joinR l).1).length = l.length
    · have := rprop_from l _ d.symm (by omega) l.length 0 k (by omega) (by omega) (by omega)
      rw [show ((0 : Nat) : Int) = 0 from rfl, List.drop_zero, List.drop_zero] at this
      rw [if_pos (by omega), this]; simp [c]
    · rw [if_neg (by omega), decide_eq_false (fun h => d (by rw [h.2]))]
  · rw [if_neg c]; simp [c]
theorem utfJoins_pure (l : List Int) (hl : l.length ≤ 1048576) (_hw : ∀ n ∈ l, (Lit.int .i64 n).wf = true) (_zz : l.length ≤ 1048576) : ∃ _k : Nat, l.length ≤ 1048576 := ⟨0, hl⟩
theorem respelllaw01_UtfJoins.calls (_k : Nat) (A0 : Option Addr) (c0 : Nat) (l0 : List Int) (_r : Bool) (w : World) (HT : Aside0 (Tabs w)) (hr0 : Kd.C (Kd.int .i64) w A0 l0.length l0) (hc0 : l0.length ≤ c0) (h : l0.length ≤ 1048576) :
    Calls Tryd.prog 10 #[.slice A0 l0.length c0] w fun e w' => e = .returned (.bool true) ∧ Below w.heap.size w w' :=
  joins_true l0 A0 c0 w HT hr0 hc0 h 100000000 (joinR l0).1 (joinR l0).2 _ (join_is _ l0 (by omega) (by omega)) (proper_is _ l0 (by omega) (by omega)) (rjoin_is _ l0 (by omega) (by omega)) ((same_is _ l0 l0 (by omega) (by omega)).trans (by simp)) (rprop_is _ l0 (by omega) (by omega))
end Go.Proofs.YtalbchgiijoeaaaDoor

