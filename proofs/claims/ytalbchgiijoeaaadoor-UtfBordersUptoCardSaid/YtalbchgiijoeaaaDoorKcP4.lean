-- Slimmed by slim.py from the text of this name without 'Kc'.
import Derived.Test.YtalbchgiijoeaaaDoorKcP3
namespace Go.Proofs.YtalbchgiijoeaaaDoor
open Go.RowKit Go.Lib Go.Proofs.YtalbchgiijoeaaaDoor.G
open Go.Proofs.YtalbchgiijoeaaaDoorW.PrintWords
set_option linter.unusedVariables false
set_option linter.unusedSimpArgs false
theorem tmod_pos {a b : Int} (h : 0 ≤ a) (hb : 0 ≤ b) : Int.tmod a b = a % b := Int.tmod_eq_emod_of_nonneg h
theorem tdiv_pos {a b : Int} (h : 0 ≤ a) : Int.tdiv a b = a / b := Int.tdiv_eq_ediv_of_nonneg h
theorem bytes_step (k : Nat) (u n : Int) (l : List Int) (i : Int) (hl : l.length < 10) (hu : 0 ≤ u) (hu2 : u ≤ 1114111) (hi : i < n) (h0 : 0 ≤ i) (h4 : n ≤ 4) :
    respellref01_bytes.l0 (k + 1) u n l i = respellref01_bytes.l0 k (u / 64) n ((128 + u % 64) :: l) (i + 1) := by
  simp only [respellref01_bytes.l0]
  rw [if_pos hi]
  simp only [Option.bind_some]
  rw [if_pos (by simp; omega), tmod_pos hu (by decide), tdiv_pos hu, wrap64_id _ (by omega) (by omega), wrap64_id _ (by omega) (by omega), wrap64_id _ (by omega) (by omega), Int.emod_eq_of_lt (by omega) (by omega)]
  rfl
theorem bytes_end (k : Nat) (u n : Int) (l : List Int) (i : Int) (hi : i = n) (hl : l.length < 10) (hu : 0 ≤ u) (f : Int) (hf : rd [0, 0, 192, 224, 240] n = f) (hf0 : 0 ≤ f) (hfu : f + u ≤ 255) (h0 : 0 ≤ n) (h4 : n ≤ 4) :
    respellref01_bytes.l0 (k + 1) u n l i = some ((f + u) :: l) := by
  subst hi
  simp only [respellref01_bytes.l0]
  rw [if_neg (by omega)]
  simp only [Option.bind_some]
  rw [if_pos h0, if_pos (by simp; omega), hf, if_pos (by simp; omega), wrap64_id _ (by omega) (by omega), Int.emod_eq_of_lt (by omega) (by omega)]
  rfl
theorem ref_bytes (k : Nat) (u : Int) : respellref01_bytes.f (k + 5) u = some (byts u) := by
  unfold respellref01_bytes.f
  rw [ref_width]
  simp only [Option.bind_some]
  rcases wid_cases u with ⟨h, hb⟩ | ⟨h1, h2, h⟩ | ⟨h1, h2, h⟩ | ⟨h1, h2, h⟩ | ⟨h1, h2, h3, h⟩ | ⟨h1, h2, h⟩
  · rw [h, if_pos rfl, hb]
  · rw [h, if_neg (by decide), if_pos (by omega), wrap64_id _ (by omega) (by omega), Int.emod_eq_of_lt (by omega) (by omega)]
    unfold byts; rw [if_pos (by omega)]
  · rw [h, if_neg (by decide), if_neg (by omega), if_pos rfl, Int.emod_eq_of_lt (by omega) (by omega)]
    unfold byts; rw [if_neg (by omega), if_pos (by omega)]
  · rw [h, if_neg (by decide), if_neg (by omega), if_neg (by decide)]
    rw [bytes_step _ _ _ _ _ (by decide) (by omega) (by omega) (by omega) (by omega) (by omega), bytes_end _ _ _ _ _ (by omega) (by simp) (by omega) 192 rfl (by omega) (by omega) (by omega) (by omega)]
    unfold byts; rw [if_neg (by omega), if_neg (by omega), if_pos (by omega)]
  · rw [h, if_neg (by decide), if_neg (by omega), if_neg (by decide)]
    rw [bytes_step _ _ _ _ _ (by decide) (by omega) (by omega) (by omega) (by omega) (by omega), bytes_step _ _ _ _ _ (by simp) (by omega) (by omega) (by omega) (by omega) (by omega), bytes_end _ _ _ _ _ (by omega) (by simp) (by omega) 224 rfl (by omega) (by omega) (by omega) (by omega)]
    unfold byts; rw [if_neg (by omega), if_neg (by omega), if_neg (by omega), if_pos (by omega), show u / 64 / 64 = u / 4096 by omega]
  · rw [h, if_neg (by decide), if_neg (by omega), if_neg (by decide)]
    rw [bytes_step _ _ _ _ _ (by decide) (by omega) (by omega) (by omega) (by omega) (by omega), bytes_step _ _ _ _ _ (by simp) (by omega) (by omega) (by omega) (by omega) (by omega), bytes_step _ _ _ _ _ (by simp) (by omega) (by omega) (by omega) (by omega) (by omega), bytes_end _ _ _ _ _ (by omega) (by simp) (by omega) 240 rfl (by omega) (by omega) (by omega) (by omega)]
    unfold byts; rw [if_neg (by omega), if_neg (by omega), if_neg (by omega), if_neg (by omega), if_pos (by omega), show u / 64 / 64 / 64 = u / 262144 by omega, show u / 64 / 64 % 64 = u / 4096 % 64 by omega]
theorem ref_put (k : Nat) (u : Int) : respellref01_Put.f (k + 5) u = some (strOfNums (byts u)) := by
  unfold respellref01_Put.f; rw [ref_bytes]; rfl
def val (s : ByteArray) (i n : Nat) : Nat :=
  if n = 1 then bN s i else if n = 2 then bN s i % 32 * 64 + bN s (i + 1) % 64
  else if n = 3 then (bN s i % 16 * 64 + bN s (i + 1) % 64) * 64 + bN s (i + 2) % 64
  else ((bN s i % 8 * 64 + bN s (i + 1) % 64) * 64 + bN s (i + 2) % 64) * 64 + bN s (i + 3) % 64
theorem Enc.val_eq {s : ByteArray} {i u n : Nat} (h : Enc s i u n) : val s i n = u := by
  unfold val
  rcases h with ⟨rfl, h1, h2, h3⟩ | ⟨rfl, h1, h2, h3, h4, h5⟩ | ⟨rfl, h1, h2, h3, h4, h5, h6, h7⟩ | ⟨rfl, h1, h2, h3, h4, h5, h6, h7⟩
  · rw [if_pos rfl, h3]
  · rw [if_neg (by decide), if_pos rfl]; omega
  · rw [if_neg (by decide), if_neg (by decide), if_pos rfl]; omega
  · rw [if_neg (by decide), if_neg (by decide), if_neg (by decide)]; omega
theorem b_l1 (k : Nat) (s : ByteArray) (i n j : Nat) (u : Nat) (hs : s.size ≤ 140737488351232) (hj : j < n) (hn : n ≤ 4) (hi : i + n ≤ s.size) (hu : u ≤ 100000000) :
    respellref01_begins.l1 (k + 1) s i n u j = respellref01_begins.l1 k s i n ((u * 64 + bN s (i + j) % 64 : Nat) : Int) ((j + 1 : Nat) : Int) := by
  simp only [respellref01_begins.l1]
  have hb := bN_lt s (i + j)
  have e1 : wrap64 ((i : Int) + (j : Int)) = ((i + j : Nat) : Int) := by rw [wrap64_id _ (by omega) (by omega)]; omega
  rw [if_pos (by omega), e1, if_pos (by omega), if_pos (by omega), bt_bN (by omega), wrap64_id ((bN s (i + j) : Nat) : Int) (by omega) (by omega), tmod_pos (by omega) (by decide), wrap64_id ((u : Int) * 64) (by omega) (by omega), wrap64_id _ (by omega) (by omega), wrap64_id _ (by omega) (by omega)]
  congr 1
instance (s : ByteArray) (i u n : Nat) : Decidable (Enc s i u n) := by unfold Enc; infer_instance
theorem b_end0 (k : Nat) (s : ByteArray) (i n : Nat) (u : Int) :
    respellref01_begins.l1 (k + 1) s i n u n = ((respellref01_Width.f k u).bind fun t162 => (if t162 = (n : Int) then ((respellref01_Put.f k u).bind fun t163 => (if 0 ≤ (i : Int) then (if (i : Int) ≤ (wrap64 ((i : Int) + n)) then (if (wrap64 ((i : Int) + n)) ≤ (s.size : Int) then (if t163.toList = (s.extract (i : Int).toNat ((wrap64 ((i : Int) + n)) : Int).toNat).toList then (some (u : Int)) else (respellref01_begins.l0 k s i (wrap64 ((n : Int) + 1)))) else (none)) else (none)) else (none))) else (respellref01_begins.l0 k s i (wrap64 ((n : Int) + 1))))) := by
  rw [respellref01_begins.l1]
  exact if_neg (Int.lt_irrefl _)
theorem b_end1 (k : Nat) (s : ByteArray) (i n : Nat) (u : Int) (hs : s.size ≤ 140737488351232) (hn : n ≤ 4) (h1 : 1 ≤ n) (hi : i + n ≤ s.size) (K : Option Int) (hK : respellref01_begins.l0 k s i ((n + 1 : Nat) : Int) = K) (W : Int) (hW : respellref01_Width.f k u = some W) (B : ByteArray) (hB : respellref01_Put.f k u = some B) :
    respellref01_begins.l1 (k + 1) s i n u n = if W = (n : Int) then (if B.toList = (s.extract i (i + n)).toList then some u else K) else K := by
  rw [b_end0, hW, hB]
  have e1 : wrap64 ((i : Int) + n) = ((i + n : Nat) : Int) := by rw [wrap64_id _ (by omega) (by omega)]; omega
  have e2 : wrap64 ((n : Int) + 1) = ((n + 1 : Nat) : Int) := by rw [wrap64_id _ (by omega) (by omega)]; omega
  rw [e1, e2, hK]
  simp only [Option.bind_some]
  rw [if_pos (Int.natCast_nonneg i), if_pos (by omega : (i : Int) ≤ ((i + n : Nat) : Int)), if_pos (by omega : ((i + n : Nat) : Int) ≤ (s.size : Int)), Int.toNat_natCast, Int.toNat_natCast]
theorem b_end (k : Nat) (s : ByteArray) (i n : Nat) (u : Nat) (hs : s.size ≤ 140737488351232) (hn : n ≤ 4) (h1 : 1 ≤ n) (hi : i + n ≤ s.size) (h1u : n = 1 → u < 256) :
    respellref01_begins.l1 (k + 6) s i n u n = if Enc s i u n then some (u : Int) else respellref01_begins.l0 (k + 5) s i ((n + 1 : Nat) : Int) := by
  rw [b_end1 (k + 5) s i n u hs hn h1 hi _ rfl _ (ref_width (k + 2) u) _ (ref_put k u)]
  by_cases hw : wid u = (n : Int)
  · rw [if_pos hw]
    have hr : u < 1114112 := by
      rcases wid_cases u with ⟨h, _⟩ | ⟨h1', h2, h⟩ | ⟨h1', h2, h⟩ | ⟨h1', h2, h⟩ | ⟨h1', h2, h3, h⟩ | ⟨h1', h2, h⟩ <;> first | omega | (have := h1u (by omega); omega)
    by_cases he : Enc s i u n
    · rw [if_pos he, if_pos ((match_iff hi hw h1 hr).2 he)]
    · rw [if_neg he, if_neg (fun h => he ((match_iff hi hw h1 hr).1 h))]
  · rw [if_neg hw, if_neg (fun h => hw (Enc.wid h))]
def hdv (s : ByteArray) (i n : Nat) : Nat := if n = 1 then bN s i else if n = 2 then bN s i % 32 else if n = 3 then bN s i % 16 else bN s i % 8
theorem b_j1 (k : Nat) (s : ByteArray) (i n : Nat) (hs : s.size ≤ 140737488351232) (hn : n ≤ 4) (h1 : 1 ≤ n) (hi : i + n ≤ s.size) :
    respellref01_begins.j1 (k + 1) s i n true = respellref01_begins.j2 k s i n (hdv s i n : Nat) := by
  have hb := bN_lt s i
  have e0 : wrap64 (bt s i) = ((bN s i : Nat) : Int) := by rw [bt_bN (by omega), wrap64_id _ (by omega) (by omega)]
  rw [respellref01_begins.j1]
  rw [if_pos rfl, if_pos (Int.natCast_nonneg i), if_pos (by omega : (i : Int) < (s.size : Int)), e0]
  rcases (by omega : n = 1 ∨ n = 2 ∨ n = 3 ∨ n = 4) with rfl | rfl | rfl | rfl
  · rw [if_neg (by decide)]; rfl
  · rw [if_pos (by decide)]; simp only [Option.bind_some]; rw [if_pos (by decide), if_pos (by decide), if_neg (by decide)]
    rw [show rd [0, 0, 32, 16, 8] ((2 : Nat) : Int) = 32 from rfl, tmod_pos (by omega) (by decide)]; rfl
  · rw [if_pos (by decide)]; simp only [Option.bind_some]; rw [if_pos (by decide), if_pos (by decide), if_neg (by decide)]
    rw [show rd [0, 0, 32, 16, 8] ((3 : Nat) : Int) = 16 from rfl, tmod_pos (by omega) (by decide)]; rfl
  · rw [if_pos (by decide)]; simp only [Option.bind_some]; rw [if_pos (by decide), if_pos (by decide), if_neg (by decide)]
    rw [show rd [0, 0, 32, 16, 8] ((4 : Nat) : Int) = 8 from rfl, tmod_pos (by omega) (by decide)]; rfl
theorem b_head (k : Nat) (s : ByteArray) (i n : Nat) (hs : s.size ≤ 140737488351232) (hn : n ≤ 4) (h1 : 1 ≤ n) (hi : i + n ≤ s.size) :
    respellref01_begins.l0 (k + 3) s i n = respellref01_begins.l1 k s i n (hdv s i n : Nat) ((1 : Nat) : Int) := by
  rw [respellref01_begins.l0, if_pos (by omega : (n : Int) ≤ 4)]
  have e1 : wrap64 ((i : Int) + n) = ((i + n : Nat) : Int) := by rw [wrap64_id _ (by omega) (by omega)]; omega
  rw [e1, decide_eq_true (by omega : ((i + n : Nat) : Int) ≤ (s.size : Int)), b_j1 (k + 1) s i n hs hn h1 hi, respellref01_begins.j2]
  rfl
theorem b_out (k : Nat) (s : ByteArray) (i n : Nat) (hs : s.size ≤ 140737488351232) (hn : n ≤ 5) (hi0 : i < s.size) (hi : 5 ≤ n ∨ s.size < i + n) : respellref01_begins.l0 (k + 2) s i n = some (-1) := by
  rw [respellref01_begins.l0]
  by_cases h5 : (n : Int) ≤ 4
  · have e1 : wrap64 ((i : Int) + n) = ((i + n : Nat) : Int) := by rw [wrap64_id _ (by omega) (by omega)]; omega
    rw [if_pos h5, e1, decide_eq_false (by omega : ¬ ((i + n : Nat) : Int) ≤ (s.size : Int)), respellref01_begins.j1, if_neg (by decide)]
  · rw [if_neg h5, respellref01_begins.j1, if_neg (by decide)]
theorem b_l0 (k : Nat) (s : ByteArray) (i n : Nat) (hs : s.size ≤ 140737488351232) (hn : n ≤ 4) (h1 : 1 ≤ n) (hi : i + n ≤ s.size) :
    respellref01_begins.l0 (k + 8 + n) s i n = if Enc s i (val s i n) n then some ((val s i n : Nat) : Int) else respellref01_begins.l0 (k + 5) s i ((n + 1 : Nat) : Int) := by
  have b0 := bN_lt s i; have b1 := bN_lt s (i + 1); have b2 := bN_lt s (i + 2); have b3 := bN_lt s (i + 3)
  rcases (by omega : n = 1 ∨ n = 2 ∨ n = 3 ∨ n = 4) with rfl | rfl | rfl | rfl
  · rw [b_head (k + 6) s i 1 hs hn h1 hi, b_end k s i 1 _ hs hn h1 hi (fun _ => by unfold hdv; rw [if_pos rfl]; exact b0)]
    rfl
  · rw [b_head (k + 7) s i 2 hs hn h1 hi, b_l1 (k + 6) s i 2 1 _ hs (by decide) hn hi (by unfold hdv; rw [if_neg (by decide), if_pos rfl]; omega), b_end k s i 2 _ hs hn h1 hi (fun h => absurd h (by decide))]
    rfl
  · rw [b_head (k + 8) s i 3 hs hn h1 hi, b_l1 (k + 7) s i 3 1 _ hs (by decide) hn hi (by unfold hdv; rw [if_neg (by decide), if_neg (by decide), if_pos rfl]; omega), b_l1 (k + 6) s i 3 2 _ hs (by decide) hn hi (by unfold hdv; rw [if_neg (by decide), if_neg (by decide), if_pos rfl]; omega), b_end k s i 3 _ hs hn h1 hi (fun h => absurd h (by decide))]
    rfl
  · rw [b_head (k + 9) s i 4 hs hn h1 hi, b_l1 (k + 8) s i 4 1 _ hs (by decide) hn hi (by unfold hdv; rw [if_neg (by decide), if_neg (by decide), if_neg (by decide)]; omega), b_l1 (k + 7) s i 4 2 _ hs (by decide) hn hi (by unfold hdv; rw [if_neg (by decide), if_neg (by decide), if_neg (by decide)]; omega), b_l1 (k + 6) s i 4 3 _ hs (by decide) hn hi (by unfold hdv; rw [if_neg (by decide), if_neg (by decide), if_neg (by decide)]; omega), b_end k s i 4 _ hs hn h1 hi (fun h => absurd h (by decide))]
    rfl
theorem begins_at (k : Nat) (s : ByteArray) (i : Nat) (hs : s.size ≤ 140737488351232) (hi : i < s.size) :
    respellref01_begins.f (k + 40) s i = some (if Err s i then -1 else ((Utf8.decode s i).1 : Int)) := by
  unfold respellref01_begins.f
  have found : ∀ n, Enc s i (val s i n) n → (some ((val s i n : Nat) : Int)) = some (if Err s i then -1 else ((Utf8.decode s i).1 : Int)) := by
    intro n h
    rw [if_neg h.not_err, dec_of h]
  have none : (∀ n, 1 ≤ n → n ≤ 4 → i + n ≤ s.size → ¬ Enc s i (val s i n) n) → (some (-1 : Int)) = some (if Err s i then -1 else ((Utf8.decode s i).1 : Int)) := by
    intro h
    by_cases he : Err s i
    · rw [if_pos he]
    · have h1 := enc_of_not_err hi he
      have h2 := h1.le
      exact absurd (by rw [h1.val_eq]; exact h1) (h _ h2.1 h2.2.1 h2.2.2.1)
  rw [show k + 40 = (k + 31) + 8 + 1 by omega, show (1 : Int) = ((1 : Nat) : Int) from rfl, b_l0 (k + 31) s i 1 hs (by decide) (by decide) (by omega)]
  by_cases c1 : Enc s i (val s i 1) 1
  · rw [if_pos c1]; exact found 1 c1
  rw [if_neg c1]
  by_cases r2 : i + 2 ≤ s.size
  case neg =>
    rw [show k + 31 + 5 = (k + 34) + 2 by omega, b_out _ s i _ hs (by decide) hi (by omega)]
    exact none fun n h1 h4 hr => by obtain rfl : n = 1 := by omega
                                    exact c1
  rw [show k + 31 + 5 = (k + 26) + 8 + 2 by omega, show 1 + 1 = 2 from rfl, b_l0 (k + 26) s i 2 hs (by decide) (by decide) r2]
  by_cases c2 : Enc s i (val s i 2) 2
  · rw [if_pos c2]; exact found 2 c2
  rw [if_neg c2]
  by_cases r3 : i + 3 ≤ s.size
  case neg =>
    rw [show k + 26 + 5 = (k + 29) + 2 by omega, b_out _ s i _ hs (by decide) hi (by omega)]
    exact none fun n h1 h4 hr => by
      rcases (by omega : n = 1 ∨ n = 2) with rfl | rfl
      · exact c1
      · exact c2
  rw [show k + 26 + 5 = (k + 20) + 8 + 3 by omega, show 2 + 1 = 3 from rfl, b_l0 (k + 20) s i 3 hs (by decide) (by decide) r3]
  by_cases c3 : Enc s i (val s i 3) 3
  · rw [if_pos c3]; exact found 3 c3
  rw [if_neg c3]
  by_cases r4 : i + 4 ≤ s.size
  case neg =>
    rw [show k + 20 + 5 = (k + 23) + 2 by omega, b_out _ s i _ hs (by decide) hi (by omega)]
    exact none fun n h1 h4 hr => by
      rcases (by omega : n = 1 ∨ n = 2 ∨ n = 3) with rfl | rfl | rfl
      · exact c1
      · exact c2
      · exact c3
  rw [show k + 20 + 5 = (k + 13) + 8 + 4 by omega, show 3 + 1 = 4 from rfl, b_l0 (k + 13) s i 4 hs (by decide) (by decide) r4]
  by_cases c4 : Enc s i (val s i 4) 4
  · rw [if_pos c4]; exact found 4 c4
  rw [if_neg c4, show k + 13 + 5 = (k + 16) + 2 by omega, show 4 + 1 = 5 from rfl, b_out _ s i _ hs (by decide) hi (by omega)]
  exact none fun n h1 h4 hr => by
    rcases (by omega : n = 1 ∨ n = 2 ∨ n = 3 ∨ n = 4) with rfl | rfl | rfl | rfl
    · exact c1
    · exact c2
    · exact c3
    · exact c4
end Go.Proofs.YtalbchgiijoeaaaDoor

