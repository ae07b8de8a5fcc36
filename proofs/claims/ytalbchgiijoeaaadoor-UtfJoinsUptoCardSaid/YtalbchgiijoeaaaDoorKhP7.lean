-- Slimmed by slim.py from the text of this name without 'Kh'.
import Derived.Test.YtalbchgiijoeaaaDoorKhP6
import Derived.Test.YtalbchgiijoeaaaDoorKhG7
import Derived.Test.YtalbchgiijoeaaaDoorKhG22
import Derived.Test.YtalbchgiijoeaaaDoorKhG0
import Derived.Test.YtalbchgiijoeaaaDoorKhG15
namespace Go.Proofs.YtalbchgiijoeaaaDoor
open Go.RowKit Go.Lib Go.Proofs.YtalbchgiijoeaaaDoor.G
open Go.Proofs.YtalbchgiijoeaaaDoorW.PrintWords
set_option linter.unusedVariables false
set_option linter.unusedSimpArgs false
def c41 (x : Nat × Nat) : S41 := ⟨(x.1 : Int), (x.2 : Int)⟩
theorem units_from (s : ByteArray) (hs : s.size ≤ 4398046511104) : ∀ f i (acc : List S41) k, s.size - i ≤ f → acc.length + s.size ≤ i + 4398046511104 → f + 50 ≤ k →
    respellref01_Units.l0 k s acc i = some (acc ++ (uF s f i).map c41) := by
  intro f
  induction f with
  | zero =>
    intro i acc k h1 h2 h3
    obtain ⟨k, rfl⟩ : ∃ m, k = m + 1 := ⟨k - 1, by omega⟩
    rw [respellref01_Units.l0, if_neg (by omega)]
    simp [uF]
  | succ f ih =>
    intro i acc k h1 h2 h3
    obtain ⟨k, rfl⟩ : ∃ m, k = m + 1 := ⟨k - 1, by omega⟩
    by_cases c : i < s.size
    · have hw := dW_le c
      have hb := bN_lt s i
      have hlen := wid_dU c
      obtain ⟨m, rfl⟩ : ∃ m, k = m + 40 := ⟨k - 40, by omega⟩
      rw [respellref01_Units.l0, if_pos (by omega), begins_at m s i (by omega) c]
      rw [Option.bind_some]
      have hstep := ih (i + dW s i) (acc ++ [c41 (i, dU s i)]) (m + 40) (by omega) (by simp; omega) (by omega)
      have hres : acc ++ [c41 (i, dU s i)] ++ (uF s f (i + dW s i)).map c41 = acc ++ (uF s (f + 1) i).map c41 := by
        rw [List.append_assoc]; congr 1; simp only [uF]; rw [if_pos c]; rfl
      rw [hres] at hstep
      have hnext : wrap64 ((i : Int) + (dW s i : Int)) = ((i + dW s i : Nat) : Int) := by rw [wrap64_id _ (by omega) (by omega)]; omega
      by_cases he : Err s i
      · obtain ⟨e1, e2, e3⟩ := err_of c he
        have hu : wrap64 (1114112 + wrap64 (bt s (i : Int))) = ((dU s i : Nat) : Int) := by rw [bt_bN c, wrap64_id ((bN s i : Nat) : Int) (by omega) (by omega), wrap64_id _ (by omega) (by omega)]; omega
        rw [if_pos he, if_pos (by decide), if_pos (by omega), if_pos (by omega), hu, ref_width (m + 37), Option.bind_some, hlen, hnext]
        exact hstep
      · have hU : ((Utf8.decode s i).1 : Int) = ((dU s i : Nat) : Int) := by unfold dU; rw [if_neg he]
        rw [if_neg he, if_neg (by omega), if_pos (by omega), hU, ref_width (m + 37), Option.bind_some, hlen, hnext]
        exact hstep
    · rw [respellref01_Units.l0, if_neg (by omega)]
      simp only [uF]
      rw [if_neg c]
      simp
theorem ref_units (k : Nat) (s : ByteArray) (hs : s.size ≤ 4398046511104) (hk : s.size + 50 ≤ k) : respellref01_Units.f k s = some ((units s).map c41) := by
  unfold respellref01_Units.f
  exact units_from s hs s.size 0 [] k (by omega) (by simp; omega) hk
end Go.Proofs.YtalbchgiijoeaaaDoor

