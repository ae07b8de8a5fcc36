-- Slimmed by slim.py from the text of this name without 'Ke'.
import Derived.Test.YtalbchgiijoeaaaDoorKeP8
import Derived.Test.YtalbchgiijoeaaaDoorKeP7
namespace Go.Proofs.YtalbchgiijoeaaaDoor
open Go.RowKit Go.Lib Go.Proofs.YtalbchgiijoeaaaDoor.G
open Go.Proofs.YtalbchgiijoeaaaDoorW.PrintWords
set_option linter.unusedVariables false
set_option linter.unusedSimpArgs false
theorem bN_list (s : ByteArray) (i : Nat) : bN s i = (s.data.toList.getD i 0).toNat := by unfold bN; rw [← getD_get!']
theorem app_list (a b : ByteArray) : (a ++ b).data.toList = a.data.toList ++ b.data.toList := by simp
theorem app_size (a b : ByteArray) : (a ++ b).size = a.size + b.size := by simp
theorem bN_left (a b : ByteArray) (i : Nat) (h : i < a.size) : bN (a ++ b) i = bN a i := by
  rw [bN_list, bN_list, app_list, List.getD_eq_getElem?_getD, List.getD_eq_getElem?_getD, List.getElem?_append_left (by rw [size_list]; exact h)]
theorem bN_right (a b : ByteArray) (i : Nat) : bN (a ++ b) (a.size + i) = bN b i := by
  rw [bN_list, bN_list, app_list, List.getD_eq_getElem?_getD, List.getD_eq_getElem?_getD, List.getElem?_append_right (by rw [size_list]; omega), size_list, Nat.add_sub_cancel_left]
theorem Enc.move {s t : ByteArray} {i j u n : Nat} (h : Enc s i u n) (hj : j + n ≤ t.size) (hb : ∀ k, k < n → bN t (j + k) = bN s (i + k)) : Enc t j u n := by
  rcases h with ⟨rfl, h1, h2, h3⟩ | ⟨rfl, h1, h2, h3, h4, h5⟩ | ⟨rfl, h1, h2, h3, h4, h5, h6, h7⟩ | ⟨rfl, h1, h2, h3, h4, h5, h6, h7⟩
  · exact .inl ⟨rfl, h1, by omega, by have := hb 0 (by omega); simp only [Nat.add_zero] at this; omega⟩
  · refine .inr (.inl ⟨rfl, h1, h2, by omega, ?_, ?_⟩)
    · have := hb 0 (by omega); simp only [Nat.add_zero] at this; omega
    · have := hb 1 (by omega); omega
  · refine .inr (.inr (.inl ⟨rfl, h1, h2, h3, by omega, ?_, ?_, ?_⟩))
    · have := hb 0 (by omega); simp only [Nat.add_zero] at this; omega
    · have := hb 1 (by omega); omega
    · have := hb 2 (by omega); omega
  · refine .inr (.inr (.inr ⟨rfl, h1, h2, by omega, ?_, ?_, ?_, ?_⟩))
    · have := hb 0 (by omega); simp only [Nat.add_zero] at this; omega
    · have := hb 1 (by omega); omega
    · have := hb 2 (by omega); omega
    · have := hb 3 (by omega); omega
theorem dec_left (a b : ByteArray) (i : Nat) (hi : i < a.size) (h : i + dW (a ++ b) i ≤ a.size) : Utf8.decode (a ++ b) i = Utf8.decode a i := by
  by_cases he : Err (a ++ b) i
  · by_cases hf : Err a i
    · exact (show Utf8.decode (a ++ b) i = _ from he).trans (show Utf8.decode a i = _ from hf).symm
    · have h1 := enc_of_not_err hi hf
      have h2 := h1.le
      have := h1.move (t := a ++ b) (j := i) (by rw [app_size]; omega) (fun k hk => bN_left a b _ (by omega))
      exact absurd he this.not_err
  · have h1 := enc_of_not_err (by rw [app_size]; omega) he
    unfold dW at h
    have := h1.move (t := a) (j := i) h (fun k hk => (bN_left a b _ (by omega)).symm)
    exact (dec_of this).symm
theorem err_cross (a b : ByteArray) (i : Nat) (hi : i < a.size) (h : a.size < i + dW (a ++ b) i) : Err a i ∧ ¬ Err (a ++ b) i := by
  have hx : ¬ Err (a ++ b) i := fun he => by have := (err_of (by rw [app_size]; omega) he).2.2; omega
  refine ⟨?_, hx⟩
  by_cases hf : Err a i
  · exact hf
  · have h1 := enc_of_not_err hi hf
    have h2 := h1.le
    have h3 := h1.move (t := a ++ b) (j := i) (by rw [app_size]; omega) (fun k hk => bN_left a b _ (by omega))
    have := dec_of h3
    unfold dW at h
    rw [this] at h
    simp only at h
    omega
theorem dec_right (a b : ByteArray) (j : Nat) : Utf8.decode (a ++ b) (a.size + j) = Utf8.decode b j := by
  have := dec_tail (a ++ b) a.size j
  rw [← this]
  congr 1
  apply ByteArray.ext
  apply Array.ext'
  rw [extract_to_end, app_list]
  simp [size_list]
theorem dU_congr {s t : ByteArray} {i j : Nat} (h : Utf8.decode s i = Utf8.decode t j) (hb : bN s i = bN t j) : dU s i = dU t j ∧ dW s i = dW t j := by
  have he : Err s i ↔ Err t j := by unfold Err; rw [h]
  refine ⟨?_, by unfold dW; rw [h]⟩
  unfold dU
  by_cases c : Err t j
  · rw [if_pos c, if_pos (he.2 c), hb]
  · rw [if_neg c, if_neg (fun x => c (he.1 x)), h]
theorem u_left (a b : ByteArray) (i : Nat) (hi : i < a.size) (h : i + dW (a ++ b) i ≤ a.size) : dU (a ++ b) i = dU a i ∧ dW (a ++ b) i = dW a i := by
  exact dU_congr (dec_left a b i hi h) (bN_left a b i hi)
theorem u_right (a b : ByteArray) (j : Nat) : dU (a ++ b) (a.size + j) = dU b j ∧ dW (a ++ b) (a.size + j) = dW b j := by
  exact dU_congr (dec_right a b j) (bN_right a b j)
def us (l : List (Nat × Nat)) : List Nat := l.map (·.2)
theorem right_units (a b : ByteArray) : ∀ f j, us (uF (a ++ b) f (a.size + j)) = us (uF b f j) := by
  intro f
  induction f with
  | zero => intro j; rfl
  | succ f ih =>
    intro j
    obtain ⟨h1, h2⟩ := u_right a b j
    simp only [uF, app_size]
    by_cases c : j < b.size
    · rw [if_pos (by omega), if_pos c, h2, Nat.add_assoc]
      simp only [us, List.map_cons, h1]
      rw [show (uF (a ++ b) f (a.size + (j + dW b j))).map (·.2) = (uF b f (j + dW b j)).map (·.2) from ih _]
    · rw [if_neg (by omega), if_neg c]
theorem seam (a b : ByteArray) : ∀ f i, a.size - i ≤ f → i ≤ a.size →
    (us (uF (a ++ b) (f + b.size) i) = us (uF a f i) ++ us (uF b b.size 0) ↔ Reach (a ++ b) i a.size) := by
  intro f
  induction f with
  | zero =>
    intro i h1 h2
    obtain rfl : i = a.size := by omega
    have h := right_units a b b.size 0
    rw [show a.size + 0 = a.size from rfl] at h
    rw [Nat.zero_add, h]
    exact ⟨fun _ => .refl _, fun _ => by simp [uF, us]⟩
  | succ f ih =>
    intro i h1 h2
    by_cases c : i < a.size
    · have hw := dW_le (s := a ++ b) (i := i) (by rw [app_size]; omega)
      by_cases d : i + dW (a ++ b) i ≤ a.size
      · obtain ⟨e1, e2⟩ := u_left a b i c d
        have hi := ih (i + dW (a ++ b) i) (by omega) d
        rw [show f + 1 + b.size = (f + b.size) + 1 by omega]
        simp only [uF, app_size]
        rw [if_pos (by omega), if_pos c]
        simp only [us, List.map_cons, List.cons_append, e1, List.cons.injEq, true_and]
        rw [← e2]
        refine hi.trans ⟨fun r => .step (by rw [app_size]; omega) r, fun r => ?_⟩
        cases r with
        | refl => omega
        | step h r => exact r
      · obtain ⟨g1, g2⟩ := err_cross a b i c (by omega)
        rw [show f + 1 + b.size = (f + b.size) + 1 by omega]
        simp only [uF, app_size]
        rw [if_pos (by omega), if_pos c]
        simp only [us, List.map_cons, List.cons_append, List.cons.injEq]
        constructor
        · rintro ⟨h, _⟩
          have h3 := (dU_rune (s := a ++ b) (i := i) (by rw [app_size]; omega)).2 g2
          have h4 := (err_of c g1).2.1
          omega
        · intro r
          cases r with
          | refl => omega
          | step h r => have := r.le; omega
    · obtain rfl : i = a.size := by omega
      have h := right_units a b (f + 1 + b.size) 0
      rw [show a.size + 0 = a.size from rfl] at h
      rw [h, uF_nil a _ _ (Nat.le_refl _), uF_more b (f + 1 + b.size) b.size 0 (by omega) (by omega)]
      exact ⟨fun _ => .refl _, fun _ => by simp [us]⟩
theorem cut_us (s : ByteArray) : cutF s = (us (uF s s.size 0)).map fun n : Nat => (n : Int) := by unfold cutF units us; rw [List.map_map]; rfl
theorem map_cast_inj (a b : List Nat) (h : a.map (fun n : Nat => (n : Int)) = b.map fun n : Nat => (n : Int)) : a = b := by
  have := congrArg (List.map Int.toNat) h
  rw [List.map_map, List.map_map] at this
  have e : (Int.toNat ∘ fun n : Nat => (n : Int)) = id := by funext n; simp
  rw [e, List.map_id, List.map_id] at this
  exact this
theorem pieces_iff (a b : ByteArray) : cutF a ++ cutF b = cutF (a ++ b) ↔ Bord (a ++ b) a.size := by
  have h := seam a b a.size 0 (by omega) (by omega)
  have hr : Bord (a ++ b) a.size ↔ Reach (a ++ b) 0 a.size := by
    unfold Bord
    rw [app_size, Int.toNat_natCast]
    constructor
    · rintro (h | h | ⟨_, _, h⟩)
      · have hb : b.size = 0 := by omega
        have := (seam a b a.size 0 (by omega) (by omega)).1
        by_cases c : a.size = 0
        · rw [c]; exact .refl _
        · obtain ⟨p, r, h1, h2⟩ := cover (a ++ b) (a.size - 1) (by rw [app_size]; omega) (a ++ b).size 0 (by omega) (by omega)
          have hw := dW_le (s := a ++ b) (i := p) (by rw [app_size]; omega)
          rw [app_size] at hw
          have := r.snoc (by rw [app_size]; omega)
          rw [show p + dW (a ++ b) p = a.size by omega] at this
          exact this
      · rw [show a.size = 0 by omega]; exact .refl _
      · exact h
    · intro h
      by_cases c : a.size = 0
      · exact .inr (.inl (by omega))
      · by_cases d : b.size = 0
        · exact .inl (by omega)
        · exact .inr (.inr ⟨by omega, by omega, h⟩)
  rw [hr, ← h, cut_us, cut_us, cut_us, ← List.map_append, app_size]
  exact ⟨fun e => (map_cast_inj _ _ e).symm, fun e => by rw [e]⟩
end Go.Proofs.YtalbchgiijoeaaaDoor

