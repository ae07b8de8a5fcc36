-- Slimmed by slim.py from the text of this name without 'Kh'.
import Derived.Test.YtalbchgiijoeaaaDoorKhCopy
import Derived.RangeFuncBox
import Derived.Test.YtalbchgiijoeaaaDoorKhG13
import Derived.Test.YtalbchgiijoeaaaDoorKhG15
import Derived.Test.YtalbchgiijoeaaaDoorKhG25
import Derived.Test.YtalbchgiijoeaaaDoorKhG28
import Derived.Test.YtalbchgiijoeaaaDoorKhG29
import Derived.Test.YtalbchgiijoeaaaDoorKhG31
set_option linter.unusedVariables false
set_option linter.unusedSimpArgs false
namespace Go.Proofs.YtalbchgiijoeaaaDoor
open Go.RowKit Go.Proofs.YtalbchgiijoeaaaDoor.G Go.Proofs.YtalbchgiijoeaaaDoorW.PrintWords
set_option maxRecDepth 100000 in
set_option maxHeartbeats 8000000 in
theorem joins_true (l : List Int) (A : Option Addr) (c : Nat) (w : World) (HT : Aside0 (Tabs w)) (hC : Kd.C (Kd.int .i64) w A l.length l) (hc : l.length ≤ c) (hl : l.length ≤ 1048576) (K : Nat) (j : ByteArray) (e0 : Int) (pr : Bool)
    (h1 : utf_Join.f K l = some (j, e0)) (h2 : utf_Proper.f K l = some pr) (h3 : respellref01_Join.f K l = some (j, e0)) (h4 : respelllaw01_same.f K l l = some true) (h5 : respellref01_Proper.f K l = some pr) :
    Calls Tryd.prog 10 #[.slice A l.length c] w fun e w' => e = .returned (.bool true) ∧ Below w.heap.size w w' := by
  have HC := Aside0.mk hC
  have HCC := Aside0.mk hc
  have H1 := Aside0.mk h1
  have H2 := Aside0.mk h2
  have H3 := Aside0.mk h3
  have H4 := Aside0.mk h4
  have H5 := Aside0.mk h5
  clear hC h1 h2 h3 h4 h5 hc
  obtain ⟨n, hn⟩ : ∃ n : Int, n = (l.length : Int) + 1 := ⟨_, rfl⟩
  have g1 : wrap64 ((l.length : Int) + 1) = (l.length : Int) + 1 := by unfold wrap64; omega
  go_enter Tryd.func10, Tryd.ntmps10
  go_wp2_with fail
  refine (respelllaw01_shown.calls true w HT rfl).mono ?_
  rintro e w1 ⟨rfl, hb1⟩
  have HB1 := Aside0.mk hb1
  have HT1 : Aside0 (Tabs w1) := ⟨HT.out.below hb1⟩
  have HC1 := Aside0.mk (Kd.C_below HC.out hb1)
  clear hb1
  have hz : ((l.length : Int) + 1).toNat = l.length + 1 := by omega
  have HZ := Aside0.mk hz
  clear hz hn
  go_wp2_with (first | ((with_reducible refine gate_dst (N := 19) rfl ?_); refine Kd.R_make (Kd.int .i64) w1.heap.size 3 rfl (N := 19) rfl 29 _ _ rfl ((l.length : Int) + 1) rfl rfl Tryd.underlying29 (.int .i64 0) 8 info3 rfl (by decide) (by omega) 0 (ok := fun _ => True) (okp := fun _ => True) rfl (fun _ hk => hk) trivial (by omega) (by omega) (Below.refl _ _) (Nat.le_refl _) ?_; intro v1 w2 hr2 hb2 hg2 _; rw [HZ.out] at hr2; obtain ⟨g, cap, rfl⟩ := ownsRow_succ (k := l.length) (by have h_ := Kd.own_of_R hr2; rwa [List.length_replicate] at h_); have HR2 := Aside0.mk hr2; have hcap : l.length ≤ cap := (by have h_ := (Kd.R_reads' hr2).2.1; omega); have HB2 := Aside0.mk hb2; clear hr2 hb2 hg2) | ((with_reducible refine gate_dst (N := 22) rfl ?_); refine copy_R .i64 w1.heap.size rfl (.tmp 20) (.tmp 21) 29 3 rfl Tryd.underlying29 (by kernel_rfl) (.slice (some ⟨g, 0, none⟩) (l.length + 1) cap) (List.replicate (l.length + 1) 0) l A c (fun _ => True) rfl rfl HR2.out (Kd.C_below HC1.out HB2.out) HB2.out ?_; intro w3 hr3 hb3 hg3; rw [List.length_replicate, List.take_of_length_le (Nat.le_succ _), List.drop_replicate, Nat.add_sub_cancel_left] at hr3; have HR3 := Aside0.mk hr3; have HB3 := Aside0.mk hb3; have HC3 := Aside0.mk (Kd.C_below HC1.out hb3); have ho3 := Kd.own_of_R hr3; rw [List.length_append, List.length_replicate] at ho3; have hc3 := ho3.cellAt l.length (by omega); have hf3 := ho3.frozenAt l.length; have hc3' : w3.cell? ⟨g, l.length, none⟩ = some (.int .i64 0) := (by rw [hc3]; simp [encs]); clear hr3 hb3 hg3 ho3 hc3))
  obtain ⟨W4, hW⟩ : ∃ W, w3.setCell ⟨g, l.length, none⟩ (.int .i64 77) = W := ⟨_, rfl⟩
  have hr4 := Kd.R_putg HR3.out (l.length : Int) (77 : Int)
  have hset : (l ++ List.replicate 1 (0 : Int)).set (l.length : Int).toNat 77 = l ++ [77] := by simp
  rw [hset, Int.toNat_natCast, hW] at hr4
  have HR4 := Aside0.mk hr4.1
  have hgb : w1.heap.size ≤ g := (Kd.own_of_R HR2.out).lt g rfl |>.1
  have HB4 : Aside0 (Below w1.heap.size w1 W4) := ⟨by rw [← hW]; exact HB3.out.setCell (p := ⟨g, l.length, none⟩) hgb _⟩
  have HC4 := Aside0.mk (Kd.C_below HC1.out HB4.out)
  have hrd := (Kd.R_reads' hr4.1)
  have hrl : Kd.C (Kd.int .i64) W4 (some ⟨g, 0, none⟩) l.length l := by
    have h_ := Kd.C_take (m := l.length) hrd.2.2 (by simp)
    rw [show (l ++ [(77 : Int)]).take l.length = l by simp] at h_
    exact h_
  have HL4 := Aside0.mk hrl
  have hcell : W4.cell? ⟨g, l.length, none⟩ = some (.int .i64 77) := by
    have ho := Kd.own_of_R hr4.1
    rw [List.length_append] at ho
    have := ho.cellAt l.length (by simp)
    rw [this]; simp [encs]
  have HX4 := Aside0.mk hcell
  have HCAP := Aside0.mk hcap
  rw [hW]
  clear hr4 hset hW hrd hrl hc3' hf3 hcap hcell
  refine (utf_Join.calls K _ _ _ _ _ _ HL4.out HCAP.out H1.out).mono ?_
  rintro e w5 ⟨rfl, hb5⟩
  have HB5 := Aside0.mk (below_step HB4.out hb5)
  have HL5 := Aside0.mk (Kd.C_below HL4.out hb5)
  have HX5 := Aside0.mk (pw_cell_below hb5 HX4.out)
  have hcap := HCAP.out
  clear hb5
  go_wp2_with fail
  refine (utf_Proper.calls K _ _ _ _ _ ⟨HT1.out.below HB5.out⟩ HL5.out HCAP.out H2.out).mono ?_
  rintro e w6 ⟨rfl, hb6⟩
  have HB6 := Aside0.mk (below_step HB5.out hb6)
  have HL6 := Aside0.mk (Kd.C_below HL5.out hb6)
  have HX6 := Aside0.mk (pw_cell_below hb6 HX5.out)
  clear hb6
  go_wp2_with fail
  refine (respellref01_Join.calls K _ _ _ _ _ _ (Kd.C_below HC1.out HB6.out) HCC.out H3.out).mono ?_
  rintro e w7 ⟨rfl, hb7⟩
  have HB7 := Aside0.mk (below_step HB6.out hb7)
  have HL7 := Aside0.mk (Kd.C_below HL6.out hb7)
  have HX7 := Aside0.mk (pw_cell_below hb7 HX6.out)
  clear hb7
  go_wp2_with fail
  refine (respelllaw01_same.calls K _ _ _ _ _ _ _ _ HL7.out HCAP.out (Kd.C_below HC1.out HB7.out) HCC.out H4.out).mono ?_
  rintro e w8 ⟨rfl, hb8⟩
  have HB8 := Aside0.mk (below_step HB7.out hb8.below)
  have hx8 := pw_cell_below hb8.below HX7.out
  have hpp : (pr == pr) = true := by simp
  have hjj : (j.toList == j.toList) = true := by simp
  clear hb8
  go_wp2_with fail
  refine (respellref01_Proper.calls K _ _ _ _ _ (Kd.C_below HC1.out HB8.out) HCC.out H5.out).mono ?_
  rintro e w9 ⟨rfl, hb9⟩
  have HB9 := Aside0.mk (below_step HB8.out hb9)
  clear hb9 hx8
  go_wp2
  go_ret
  exact ⟨by simp, below_step HB1.out HB9.out⟩
end Go.Proofs.YtalbchgiijoeaaaDoor

