-- Slimmed by slim.py from the text of this name without 'Kh'.
import Derived.Test.YtalbchgiijoeaaaDoorKhWMore
import Derived.Laws.CopyOwn
set_option linter.unusedVariables false
set_option linter.unusedSimpArgs false
namespace Go.Proofs.YtalbchgiijoeaaaDoor
open Go.RowKit Go.Proofs.YtalbchgiijoeaaaDoorW.PrintWords
theorem encs_len {α : Type} (enc : α → Value) (xs : List α) : (encs enc xs).length = xs.length := by simp [encs]
theorem grownBy_setRow (w : World) (g : Nat) (cs : Array Value) : w.grownBy (w.setRow g cs) (some g) :=
  ⟨rfl, rfl, rfl, by simp [World.setRow], fun k _ hk => setRow_other w g k cs (fun e => hk (by rw [e]))⟩
theorem copy_R {P : Program} {w0 w : World} {ops : Array Oper} {rest : List Oper} {o : Oper} {a : Act} {Q : Exit → Act → World → Prop} (kd : IntKind) (base : Nat) (hgd : o.guard = none) (d s : Operand) (t e : TypeId)
    (ho : o.op = .call { callee := .builtin .copy, args := #[d, s], argTypes := #[t, t] }) (hu : P.underlying t = some (.slice e)) (hsz : (P.info? e).map (·.size) = some 1)
    (v : Value) (ys xs : List Int) (A : Option Addr) (c : Nat) (ok : Nat → Prop) (hd : a.eval d = v) (hs : a.eval s = .slice A xs.length c)
    (HO : Kd.R (Kd.int kd) e w base ok v ys) (HC : Kd.C (Kd.int kd) w A xs.length xs) (HB : Below base w0 w)
    (h : ∀ w1, Kd.R (Kd.int kd) e w1 base ok v (xs.take ys.length ++ ys.drop xs.length) → Below base w0 w1 → w.grownBy w1 v.ownBlock → wpList P ops Q rest (a.put o.dst (goInt (Nat.min xs.length ys.length))) w1) :
    wpList P ops Q (o :: rest) a w := by
  have hown := Kd.own_of_R HO
  obtain ⟨hl, hcase⟩ := hown
  by_cases h0 : Nat.min xs.length ys.length = 0
  · obtain ⟨A0, c0, hv⟩ := Kd.R_slice HO
    refine wpList_copy_nothing hgd d s t t ho e hu hsz A0 A ys.length c0 xs.length c (hd.trans hv) hs h0 ?_
    have e1 : xs.take ys.length ++ ys.drop xs.length = ys := by
      rcases (show xs.length = 0 ∨ ys.length = 0 by
        rcases Nat.eq_zero_or_pos xs.length with h | h
        · exact .inl h
        · rcases Nat.eq_zero_or_pos ys.length with h' | h'
          · exact .inr h'
          · have : 0 < Nat.min xs.length ys.length := by show 0 < min xs.length ys.length; omega
            omega) with hx | hy
      · rw [List.eq_nil_of_length_eq_zero hx]; simp
      · rw [List.eq_nil_of_length_eq_zero hy]; simp
    have := h w (by rw [e1]; exact HO) HB ⟨rfl, rfl, rfl, Nat.le_refl _, fun _ _ _ => rfl⟩
    rwa [h0] at this
  · rcases hcase with ⟨rfl, hy⟩ | ⟨g, cap, cur, rfl, hbg, hg, hnc, hcm, hcs, htk⟩
    · exfalso; apply h0; show min xs.length ys.length = 0; omega
    · have hx0 : 0 < xs.length := by
        rcases Nat.eq_zero_or_pos xs.length with h | h
        · exfalso; apply h0; show min xs.length ys.length = 0; omega
        · exact h
      obtain ⟨ad, rfl, hcell⟩ := HC.2.2 hx0
      have hm : Nat.min xs.length ys.length = min xs.length ys.length := rfl
      have hlen : (encs (Value.int kd) (xs.take ys.length)).length = Nat.min xs.length ys.length := by rw [encs_len, List.length_take, hm]; omega
      refine wpList_copy_own hgd d s t t ho e hu hsz g 0 ys.length cap ad xs.length c hd hs cur e hg (encs (Value.int kd) (xs.take ys.length)) hlen ?_ (by rw [hlen, hm]; omega) ?_ ?_
      · intro j u hj
        obtain ⟨hjl, hju⟩ := List.getElem?_eq_some_iff.1 hj
        rw [encs_len, List.length_take] at hjl
        have hjx : j < xs.length := by omega
        obtain ⟨cs, hcl, hp, hcc⟩ := hcell j xs[j] (List.getElem?_eq_getElem hjx)
        have e2 : u = .int kd xs[j] := by rw [← hju]; simp [encs]
        have hp' : cs = [.int kd xs[j]] := hp
        have := hcc 0 (.int kd xs[j]) (by rw [hp']; rfl)
        rw [e2]
        simpa [show (Kd.int kd).sz = 1 from rfl] using this
      · intro u hu'
        simp only [encs, List.mem_map] at hu'
        obtain ⟨z, _, rfl⟩ := hu'
        rfl
      · have := h (w.setRow g (cur.toList.take 0 ++ (encs (Value.int kd) (xs.take ys.length) ++ cur.toList.drop (0 + (encs (Value.int kd) (xs.take ys.length)).length))).toArray) ?_ (below_setRow HB hbg _) (grownBy_setRow w g _)
        · rw [hlen] at this ⊢; exact this
        · refine Kd.R_of_own ?_ (fun k hk => HO.1 k hk)
          have hl2 : (xs.take ys.length ++ ys.drop xs.length).length = ys.length := by rw [List.length_append, List.length_take, List.length_drop]; omega
          refine ⟨by rw [encs_len]; omega, .inr ⟨g, cap, _, by rw [hl2], hbg, setRow_heap w g cur _ e _ hg, by omega, hcm, ?_, ?_⟩⟩
          · simp only [List.take_zero, List.nil_append, Nat.zero_add, List.size_toArray, List.length_append, List.length_drop, Array.length_toList]
            rw [hlen, hm]
            omega
          · simp only [List.take_zero, List.nil_append, Nat.zero_add, Nat.mul_one]
            rw [hl2, hlen, hm]
            have hc2 : cur.toList.take ys.length = encs (Value.int kd) ys := by simpa using htk
            apply List.ext_getElem?
            intro j
            rw [List.getElem?_take]
            by_cases hj : j < ys.length
            · rw [if_pos hj]
              by_cases hjx : j < xs.length
              · rw [List.getElem?_append_left (by rw [encs_len, List.length_take]; omega)]
                simp only [encs, List.getElem?_map]
                rw [List.getElem?_append_left (by rw [List.length_take]; omega)]
              · rw [List.getElem?_append_right (by rw [encs_len, List.length_take]; omega), encs_len, List.length_take, List.getElem?_drop]
                simp only [encs, List.getElem?_map]
                rw [List.getElem?_append_right (by rw [List.length_take]; omega), List.length_take, List.getElem?_drop]
                have e3 : min xs.length ys.length + (j - min ys.length xs.length) = j := by omega
                have e4 : xs.length + (j - min ys.length xs.length) = j := by omega
                rw [e3, e4]
                have := congrArg (fun l => l[j]?) hc2
                simp only [List.getElem?_take, if_pos hj, encs, List.getElem?_map] at this
                exact this
            · rw [if_neg hj]
              simp only [encs, List.getElem?_map]
              rw [List.getElem?_eq_none (by omega)]
              rfl
end Go.Proofs.YtalbchgiijoeaaaDoor

