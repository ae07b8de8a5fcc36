-- Slimmed by slim.py from the text of this name without 'Kf'.
import Derived.Test.YtalbchgiijoeaaaDoorKfR3
import Derived.Test.YtalbchgiijoeaaaDoorKfG15
set_option linter.unusedVariables false
set_option linter.unusedSimpArgs false
namespace Go.Proofs.YtalbchgiijoeaaaDoor
open Go.RowKit Go.Proofs.YtalbchgiijoeaaaDoor.G Go.Proofs.YtalbchgiijoeaaaDoorW.PrintWords
theorem pairs_at : ∀ (l : List (Nat × Nat)) (k : Nat) (x : Nat × Nat), l[k]? = some x → (pairsL l)[2 * k]? = some (x.1 : Int) ∧ (pairsL l)[2 * k + 1]? = some (x.2 : Int) := by
  intro l
  induction l with
  | nil => intro k x h; cases h
  | cons y l ih =>
    intro k x h
    have e : pairsL (y :: l) = (y.1 : Int) :: (y.2 : Int) :: pairsL l := by unfold pairsL; rw [List.flatMap_cons]; rfl
    rw [e]
    cases k with
    | zero => cases h; exact ⟨rfl, rfl⟩
    | succ k =>
      have := ih k x (by simpa using h)
      rw [show 2 * (k + 1) = 2 * k + 1 + 1 by omega]
      simpa using this
theorem rd_some {l : List Int} {i : Nat} {x : Int} (h : l[i]? = some x) : rd l (i : Int) = x := by unfold rd; rw [Int.toNat_natCast, List.getD_eq_getElem?_getD, h]; rfl
set_option maxRecDepth 100000 in
set_option maxHeartbeats 8000000 in
theorem range_true (s : ByteArray) (hs : s.size ≤ 1048576) (w : World) (HT : Aside0 (Tabs w)) : Calls Tryd.prog 5 #[.string s] w fun e w' => e = .returned (.bool true) ∧ Below w.heap.size w w' := by
  have hs1 : (s.size : Int) ≤ 1048576 := by omega
  go_enter Tryd.func5, Tryd.ntmps5
  go_wp2_with fail
  refine (respelllaw01_shown.calls true w HT rfl).mono ?_
  rintro e w1 ⟨rfl, hb1⟩
  have HB1 := Aside0.mk hb1
  have HT1 : Aside0 (Tabs w1) := ⟨HT.out.below hb1⟩
  clear hb1
  go_wp2_with fail
  refine (forth_calls0 s (by omega) ((s.size : Int) + 1) (by omega) w1 HT1.out).mono ?_
  rintro e w2 ⟨v, rfl, hr, hb2⟩
  have HB2 := Aside0.mk (below_step HB1.out hb2)
  obtain ⟨A, c, rfl⟩ := Kd.R_slice hr
  have hC := (Kd.R_reads' hr).2.2
  have hF : forthF s ((s.size : Int) + 1) = pairsL (units s) := by
    unfold forthF
    rw [List.take_of_length_le]
    have := uF_len s s.size 0
    unfold units
    omega
  rw [hF] at hC ⊢
  have HC := Aside0.mk hC
  have HN := Aside0.mk (pairsL_len (units s))
  have hlen : (pairsL (units s)).length ≤ 2097152 := by have := uF_len s s.size 0; rw [pairsL_len]; unfold units; omega
  clear hC hF hr hb2
  obtain ⟨L, hL⟩ : ∃ L, L = pairsL (units s) := ⟨_, rfl⟩
  rw [← hL] at HC HN hlen ⊢
  have HL := Aside0.mk hL
  clear hL
  go_wp2
  go_loopw [5] (fun v5 wr => ∃ (i : Int) (k p : Nat), v5 = .int .i64 i ∧ wr = w2.iter s p ∧ Aside0 (i = 2 * k ∧ (units s).drop k = uF s s.size p ∧ k ≤ (units s).length ∧ p ≤ s.size)) (fun _ wr => s.size - wr.iterPos w2.heap.size)
  case atStart => exact ⟨0, 0, 0, rfl, rfl, ⟨by simp, rfl, Nat.zero_le _, Nat.zero_le _⟩⟩
  case round =>
    obtain ⟨i, k, p, rfl, rfl, hI⟩ := hrel
    by_cases hlt : p < s.size
    · have hd := uF_cons s s.size p hlt (Nat.sub_le _ _)
      have hw := dW_le hlt
      have hk : (units s)[k]? = some (p, dU s p) := by
        have := congrArg (fun l => l[0]?) (hI.out.2.1.trans hd)
        simpa using this
      have hkl : k < (units s).length := (List.getElem?_eq_some_iff.1 hk).1
      have hk1 : (units s).drop (k + 1) = uF s s.size (p + dW s p) := by
        have := congrArg List.tail (hI.out.2.1.trans hd)
        simpa using this
      obtain ⟨q1, q2⟩ := pairs_at _ _ _ hk
      rw [← HL.out] at q1 q2
      have r1 := rd_some q1
      have r2 := rd_some q2
      have i0 : 0 ≤ i := by have := hI.out.1; omega
      have i1 : i + 1 < (L.length : Int) := by have := hI.out.1; have := HN.out; omega
      have i1b : i < (L.length : Int) := by omega
      have i2 : i ≤ 4194304 := by omega
      rw [show ((2 * k : Nat) : Int) = i by have := hI.out.1; omega] at r1
      rw [show ((2 * k + 1 : Nat) : Int) = i + 1 by have := hI.out.1; omega] at r2
      have HC2 := Kd.C_below HC.out (iter_below w2 s (p + (Utf8.decode s p).2))
      obtain ⟨ad, e, x0⟩ := Kd.at_int HC2 i i0 (by omega)
      cases e
      obtain ⟨ad', e', x1⟩ := Kd.at_int HC2 (i + 1) (by omega) (by omega)
      cases e'
      rw [r1] at x0
      rw [r2] at x1
      have hge : decide ((L.length : Int) ≤ i + 1) = false := decide_eq_false (by omega)
      have t1 := eq_true i0
      have t2 := eq_true i1
      have t3 := eq_true i1b
      have t4 := eq_true (show (0 : Int) ≤ i + 1 by omega)
      have hb := bN_lt s p
      have hbx : ∀ h : p < s.size, ((s[p]'h).toNat : Int) = ((bN s p : Nat) : Int) := fun h => by
        have := bt_at s (p : Int) (by simpa using h)
        rw [bt_bN h] at this
        simpa using this
      obtain ⟨b, hbb⟩ : ∃ b : Int, b = ((bN s p : Nat) : Int) := ⟨_, rfl⟩
      rw [← hbb] at hbx
      have hnx := fun ty => run_next_any (P := Tryd.prog) w2 s p ty hlt
      have hp1 : (p : Int) < (s.size : Int) := by omega
      have hp2 : (p : Int) ≤ 1048576 := by omega
      obtain ⟨u, hu⟩ : ∃ u : Int, u = ((dU s p : Nat) : Int) := ⟨_, rfl⟩
      rw [← hu] at x1
      obtain ⟨rn, hrn⟩ : ∃ rn : Int, rn = ((Utf8.decode s p).1 : Int) := ⟨_, rfl⟩
      rw [← hrn] at hnx
      have hge' := Aside0.mk (And.intro hI.out.1 (And.intro hk1 (And.intro hkl hw)))
      have t5 := eq_true hlt
      have t6 := eq_true hp1
      have b0 : 0 ≤ b := by omega
      have g1 : wrap64 (i + 1) = i + 1 := wrap64_id _ (by omega) (by omega)
      have g2 : wrap64 (i + 2) = i + 2 := wrap64_id _ (by omega) (by omega)
      have g3 : wrap64 b = b := wrap64_id _ (by omega) (by omega)
      have g4 : wrap64 (1114112 + b) = 1114112 + b := wrap64_id _ (by omega) (by omega)
      have g5 : wrap64 ((p : Int) + 3) = (p : Int) + 3 := wrap64_id _ (by omega) (by omega)
      have b1 : b ≤ 255 := by omega
      clear hd hk hk1 q1 q2 r1 r2 i0 i1 i1b HC2 hI hlen hkl hw hb
      by_cases he : Err s p
      · obtain ⟨h1, h2, h3⟩ := err_of hlt he
        have hu' : u = 1114112 + b := by omega
        have hrn' : rn = 65533 := by rw [hrn]; unfold Err at he; rw [he]; rfl
        clear hu hrn
        subst hu' hrn'
        have e3 : decide (128 ≤ b) = true := decide_eq_true (by omega)
        have e4 : ((1114112 + b : Int) == 65533) = false := by rw [beq_eq_false_iff_ne]; omega
        have e5 : ((1114112 + b : Int) != 65533) = true := by rw [bne_iff_ne]; omega
        clear h1 h2 h3 he hbb hlt
        go_wp2
        go_roundw
        case rel => exact ⟨i + 2, k + 1, p + (Utf8.decode s p).2, congrArg (Value.int .i64) (by have := hge'.out.1; unfold wrap64; omega), rfl, ⟨by have := hge'.out.1; omega, hge'.out.2.1, by have := hge'.out.2.2.1; omega, hge'.out.2.2.2.2.2⟩⟩
        case measure => rw [World.iterPos_iter, World.iterPos_iter]; have := hge'.out.2.2.2; unfold dW at this; omega
      · have hE := enc_of_not_err hlt he
        have hle := hE.le
        have hur : u = rn := by rw [hu, hrn]; unfold dU; rw [if_neg he]
        have hrn' : 65533 = (Utf8.decode s p).1 ∨ True := .inr trivial
        subst hur
        have g6 : wrap64 u = u := wrap64_id _ (by omega) (by omega)
        have e1 : (u == 1114112 + b) = false := by rw [beq_eq_false_iff_ne]; omega
        clear hrn'
        by_cases h5 : u = 65533
        · subst h5
          have hrn' : 65533 = (Utf8.decode s p).1 := by omega
          have hn : (Utf8.decode s p).2 = 3 := by
            rw [← hrn'] at hE
            rcases hE with ⟨_, h, _⟩ | ⟨_, _, h, _⟩ | ⟨h, _⟩ | ⟨_, h, _⟩
            · omega
            · omega
            · exact h
            · omega
          have hE3 : Enc s p 65533 3 := by rw [← hrn', hn] at hE; exact hE
          have hx : (s.extract p (p + 3)).toList = [239, 191, 189] := by
            rw [← (match_iff (by omega) (by decide) (by decide) (by decide)).2 hE3, nums_list]; rfl
          have q3 : (p : Int) + 3 ≤ (s.size : Int) := by omega
          have q4 : decide ((s.size : Int) < (p : Int) + 3) = false := decide_eq_false (by omega)
          have q5 := eq_true q3
          have hsl : ∀ W, (Instr.slice 9 (.string s) (some (.int .i64 (p : Int))) (some (.int .i64 ((p : Int) + 3))) none).run Tryd.prog W = .ok (.string (s.extract p (p + 3))) W := fun W => by
            have := run_slice_string (P := Tryd.prog) W 9 s .i64 .i64 (p : Int) ((p : Int) + 3) Tryd.underlying9 (by omega) (by omega) q3
            rw [show ((p : Int) + 3).toNat = p + 3 by omega, Int.toNat_natCast] at this
            exact this
          clear hE hle he hu hrn hrn' hbb hlt hn hE3 q3
          go_wp2
          go_roundw
          case rel => exact ⟨i + 2, k + 1, p + (Utf8.decode s p).2, congrArg (Value.int .i64) (by have := hge'.out.1; unfold wrap64; omega), rfl, ⟨by have := hge'.out.1; omega, hge'.out.2.1, by have := hge'.out.2.2.1; omega, hge'.out.2.2.2.2.2⟩⟩
          case measure => rw [World.iterPos_iter, World.iterPos_iter]; have := hge'.out.2.2.2; unfold dW at this; omega
        · have e4 : (u == 65533) = false := by rw [beq_eq_false_iff_ne]; exact h5
          clear hE hle he hu hrn hbb hlt h5
          go_wp2
          go_roundw
          case rel => exact ⟨i + 2, k + 1, p + (Utf8.decode s p).2, congrArg (Value.int .i64) (by have := hge'.out.1; unfold wrap64; omega), rfl, ⟨by have := hge'.out.1; omega, hge'.out.2.1, by have := hge'.out.2.2.1; omega, hge'.out.2.2.2.2.2⟩⟩
          case measure => rw [World.iterPos_iter, World.iterPos_iter]; have := hge'.out.2.2.2; unfold dW at this; omega
    · have hnx := fun ty => run_next_end (P := Tryd.prog) w2 s p ty hlt
      have hnil := uF_nil s s.size p (by omega)
      have hk : k = (units s).length := by
        have h1 := hI.out.2.1.trans hnil
        have h2 := congrArg List.length h1
        rw [List.length_drop] at h2
        have := hI.out.2.2.1
        simp at h2
        omega
      have e1 : (i == (L.length : Int)) = true := by rw [beq_iff_eq]; have := hI.out.1; have := HN.out; omega
      clear hnil hk hlt
      go_wp2
      go_ret
      exact ⟨rfl, below_step HB2.out (iter_below _ _ _)⟩
theorem utfRange_pure (s : ByteArray) (hs : s.size ≤ 1048576) (_zz : s.size ≤ 1048576) : ∃ _k : Nat, s.size ≤ 1048576 := ⟨0, hs⟩
theorem respelllaw01_UtfRange.calls (_k : Nat) (a0 : ByteArray) (_r : Bool) (w : World) (HT : Aside0 (Tabs w)) (h : a0.size ≤ 1048576) : Calls Tryd.prog 5 #[.string a0] w fun e w' => e = .returned (.bool true) ∧ Below w.heap.size w w' := range_true a0 h w HT
end Go.Proofs.YtalbchgiijoeaaaDoor

