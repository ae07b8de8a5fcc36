-- Slimmed by slim.py from the text of this name without 'Kb'.
import Derived.Test.YtalbchgiijoeaaaDoorKbP4
import Derived.Test.YtalbchgiijoeaaaDoorKbG20
namespace Go.Proofs.YtalbchgiijoeaaaDoor
open Go.RowKit Go.Lib Go.Proofs.YtalbchgiijoeaaaDoor.G
open Go.Proofs.YtalbchgiijoeaaaDoorW.PrintWords
set_option linter.unusedVariables false
set_option linter.unusedSimpArgs false
theorem nums_size (l : List Int) : (strOfNums l).size = l.length := by rw [size_eq]; simp [strOfNums]
theorem bN_nums (l : List Int) (j : Nat) (x : Int) (hj : l[j]? = some x) (h0 : 0 ≤ x) (h1 : x ≤ 255) : bN (strOfNums l) j = x.toNat := by
  unfold bN
  rw [← getD_get!', List.getD_eq_getElem?_getD]
  have e : (strOfNums l).data.toList = l.map fun n => UInt8.ofNat n.toNat := by rw [← nums_list, ByteArray.toList_eq]
  rw [e, List.getElem?_map, hj]
  simp
  omega
theorem put_dec (u : Int) (h : wid u ≠ 0) : 0 ≤ u ∧ (dU (strOfNums (byts u)) 0 : Int) = u ∧ (dW (strOfNums (byts u)) 0 : Int) = wid u := by
  have hsz := nums_size (byts u)
  have hl := byts_len u
  have hext : (strOfNums (byts u)).extract 0 (0 + (strOfNums (byts u)).size) = strOfNums (byts u) := by simp
  by_cases hs : u < 1114112
  · have hn : 1 ≤ wid u ∧ 0 ≤ u := by rcases wid_cases u with ⟨h, _⟩ | ⟨h1, h2, h⟩ | ⟨h1, h2, h⟩ | ⟨h1, h2, h⟩ | ⟨h1, h2, h3, h⟩ | ⟨h1, h2, h⟩ <;> omega
    obtain ⟨n, rfl⟩ := Int.eq_ofNat_of_zero_le hn.2
    have he : Enc (strOfNums (byts (n : Int))) 0 n (strOfNums (byts (n : Int))).size := (match_iff (by omega) (by omega) (by omega) (by omega)).1 (by rw [hext])
    have hd := dec_of he
    refine ⟨by omega, ?_, ?_⟩
    · unfold dU; rw [if_neg he.not_err, hd]
    · unfold dW; rw [hd]; simp only; omega
  · have hw : 1114240 ≤ u ∧ u ≤ 1114367 ∧ wid u = 1 := by rcases wid_cases u with ⟨h, _⟩ | ⟨h1, h2, h⟩ | ⟨h1, h2, h⟩ | ⟨h1, h2, h⟩ | ⟨h1, h2, h3, h⟩ | ⟨h1, h2, h⟩ <;> omega
    have hb : byts u = [u - 1114112] := by unfold byts; rw [if_pos ⟨hw.1, hw.2.1⟩]
    have h0 : bN (strOfNums (byts u)) 0 = (u - 1114112).toNat := by rw [hb]; exact bN_nums _ 0 _ rfl (by omega) (by omega)
    have he : Err (strOfNums (byts u)) 0 := by
      by_cases he : Err (strOfNums (byts u)) 0
      · exact he
      · exfalso
        rcases enc_of_not_err (by omega) he with ⟨_, h⟩ | ⟨_, h⟩ | ⟨_, h⟩ | ⟨_, h⟩ <;> omega
    obtain ⟨h1, h2, h3⟩ := err_of (by omega) he
    refine ⟨by omega, by omega, by omega⟩
theorem utfUnits_pure (u : Int) : ∃ k, respelllaw01_UtfUnits.f k u = some true := by
  refine ⟨50, ?_⟩
  have hsz := nums_size (byts u)
  have hl := byts_len u
  unfold respelllaw01_UtfUnits.f respelllaw01_shown.f
  rw [Option.bind_some, if_pos rfl, utf_put 48, utf_width 48, ref_width 47, ref_put 45]
  simp only [Option.bind_some, if_true]
  rw [show (((strOfNums (byts u)).size : Int) != wid u) = false by rw [hsz, hl]; simp, respelllaw01_UtfUnits.j0]
  have hF := first_at 48 (strOfNums (byts u))
  rw [if_neg (by decide)]
  by_cases h : wid u = 0
  · rw [if_pos (by omega)] at hF
    rw [hF, Option.bind_some, if_neg (by omega), if_pos rfl, if_pos rfl]; rfl
  · obtain ⟨h0, h1, h2⟩ := put_dec u h
    have hp : wid u > 0 := by omega
    rw [if_neg (by omega), h1, h2] at hF
    rw [hF, Option.bind_some, if_pos hp, if_pos rfl, if_pos rfl, if_pos rfl]
end Go.Proofs.YtalbchgiijoeaaaDoor

