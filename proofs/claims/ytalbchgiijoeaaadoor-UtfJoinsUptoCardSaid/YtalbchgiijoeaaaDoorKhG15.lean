-- Slimmed by slim.py from the text of this name without 'Kh'.
import Derived.Test.YtalbchgiijoeaaaDoorKhTabs
import Derived.Test.YtalbchgiijoeaaaDoorKhG0
import Derived.Test.YtalbchgiijoeaaaDoorKhG2
import Derived.Test.YtalbchgiijoeaaaDoorKhG3
import Derived.Test.YtalbchgiijoeaaaDoorKhG6
import Derived.Test.YtalbchgiijoeaaaDoorKhG7
import Derived.Test.YtalbchgiijoeaaaDoorKhG9
import Derived.Test.YtalbchgiijoeaaaDoorKhG12
import Derived.Test.YtalbchgiijoeaaaDoorKhG13
namespace Go.Proofs.YtalbchgiijoeaaaDoor.G
open Go.RowKit Go.Proofs.YtalbchgiijoeaaaDoorW.PrintWords Go.Proofs.YtalbchgiijoeaaaDoorW.PrintLast Go.Proofs.YtalbchgiijoeaaaDoorW.PrintMore
attribute [local go_sem] max2_int min2_int max_two min_two max_three min_three max_four min_four
set_option linter.unusedVariables false
set_option linter.unusedSimpArgs false
def respelllaw01_shown.f : Option Bool := some true
theorem respelllaw01_shown.all_mk (s : ByteArray) (w : World) : Calls Tryd.prog 22 #[.string s] w fun e w' => e = .returned (.func (.func 43) #[] #[.pointer (some ⟨w.heap.size, 0, none⟩)]) ∧ w' = w.alloc (.cells #[.string s] 9) := by
  go_enter Tryd.func22, Tryd.ntmps22
  go_wp2
  go_ret
  exact ⟨rfl, rfl⟩
theorem respelllaw01_shown.back_mk (s : ByteArray) (w : World) : Calls Tryd.prog 37 #[.string s] w fun e w' => e = .returned (.func (.func 48) #[] #[.pointer (some ⟨w.heap.size, 0, none⟩)]) ∧ w' = w.alloc (.cells #[.string s] 9) := by
  go_enter Tryd.func37, Tryd.ntmps37
  go_wp2
  go_ret
  exact ⟨rfl, rfl⟩
theorem respelllaw01_shown.c_first : utf_First.f 20 ⟨#[195, 169, 97]⟩ = some (233, 2) := by kernel_rfl
theorem respelllaw01_shown.c_last : utf_Last.f 20 ⟨#[130, 172]⟩ = some (1114284, 1) := by kernel_rfl
theorem respelllaw01_shown.c_join : utf_Join.f 20 [55296] = some (⟨#[]⟩, 11) := by kernel_rfl
theorem respelllaw01_shown.c_open : utf_Open.f 20 ⟨#[97, 226, 130]⟩ = some (2, 8320, 8383) := by kernel_rfl
theorem respelllaw01_shown.c_w1 : utf_Width.f 20 65535 = some 3 := by kernel_rfl
theorem respelllaw01_shown.c_w2 : utf_Width.f 20 55296 = some 0 := by kernel_rfl
theorem respelllaw01_shown.c_put : utf_Put.f 20 8364 = some ⟨#[226, 130, 172]⟩ := by kernel_rfl
theorem respelllaw01_shown.c_b1 : utf_Border.f 20 ⟨#[195, 169]⟩ 1 = some false := by kernel_rfl
theorem respelllaw01_shown.c_b2 : utf_Border.f 20 ⟨#[169, 195]⟩ 1 = some true := by kernel_rfl
theorem respelllaw01_shown.one_int (w : World) (x : Int) : Kd.C (Kd.int .i64) (w.alloc (.cells #[.int .i64 x] 3)) (some ⟨w.heap.size, 0, none⟩) [x].length [x] := by
  refine ⟨rfl, by simp, fun _ => ⟨_, rfl, fun j p hj => ?_⟩⟩
  have hj0 : j = 0 := by
    have := List.getElem?_eq_some_iff.1 hj
    obtain ⟨h, _⟩ := this
    simp at h
    exact h
  subst hj0
  obtain rfl : x = p := Option.some.inj hj
  refine ⟨[.int .i64 x], rfl, rfl, fun i u hi => ?_⟩
  have hi0 : i = 0 := by
    obtain ⟨h, _⟩ := List.getElem?_eq_some_iff.1 hi
    simp at h
    exact h
  subst hi0
  obtain rfl : Value.int .i64 x = u := Option.some.inj hi
  exact (World.cell?_alloc_mark w #[Value.int .i64 x] 3 (0, 0) 0).trans rfl
set_option maxHeartbeats 4000000 in
set_option maxRecDepth 100000 in
theorem respelllaw01_shown.holds (w : World) (HT : Aside0 (Tabs w)) : Calls Tryd.prog 12 #[] w fun e w' => e = .returned (.bool true) ∧ Below w.heap.size w w' := by
  have q43 : ∀ (a : Option Addr) w, (binOp .eql 35 (.func (.func 43) #[] #[.pointer a]) .nilFunc).run Tryd.prog w = .ok (.bool false) w := fun _ _ => by kernel_rfl
  have q48 : ∀ (a : Option Addr) w, (binOp .eql 35 (.func (.func 48) #[] #[.pointer a]) .nilFunc).run Tryd.prog w = .ok (.bool false) w := fun _ _ => by kernel_rfl
  go_enter Tryd.func12, Tryd.ntmps12
  go_wp2_with fail
  refine (respelllaw01_shown.all_mk _ _).mono ?_
  rintro e w1 ⟨rfl, rfl⟩
  go_wp2_with fail
  refine (respelllaw01_shown.back_mk _ _).mono ?_
  rintro e w1 ⟨rfl, rfl⟩
  go_wp2_with fail
  have B0 : Below w.heap.size w ((w.alloc (.cells #[.string ⟨#[97]⟩] 9)).alloc (.cells #[.string ⟨#[97]⟩] 9)) := ((Below.refl _ _).alloc (Nat.le_refl _) _).alloc (by simp) _
  refine (utf_First.calls 20 _ 233 2 _ ⟨HT.out.below B0⟩ respelllaw01_shown.c_first).mono ?_
  rintro e w1 ⟨rfl, hb1⟩
  have B1 := below_step B0 hb1
  clear B0 hb1
  go_wp2_with fail
  refine (utf_Last.calls 20 _ 1114284 1 _ ⟨HT.out.below B1⟩ respelllaw01_shown.c_last).mono ?_
  rintro e w2 ⟨rfl, hb2⟩
  have B2 := below_step B1 hb2
  clear B1 hb2
  go_wp2_with fail
  have hrow : Kd.C (Kd.int .i64) (w2.alloc (.cells #[.int .i64 55296] 3)) (some ⟨w2.heap.size, 0, none⟩) [(55296 : Int)].length [55296] := respelllaw01_shown.one_int w2 55296
  have B3 := below_alloc B2 (.cells #[.int .i64 55296] 3)
  clear B2
  refine (utf_Join.calls 20 _ 1 [55296] _ _ _ hrow (Nat.le_refl _) respelllaw01_shown.c_join).mono ?_
  rintro e w3 ⟨rfl, hb3⟩
  have B4 := below_step B3 hb3
  clear B3 hb3 hrow
  go_wp2_with fail
  refine (utf_Open.calls 20 _ 2 8320 8383 _ respelllaw01_shown.c_open).mono ?_
  rintro e w4 ⟨rfl, hb4⟩
  have B5 := below_step B4 hb4
  clear B4 hb4
  go_wp2_with fail
  refine (utf_Width.calls 20 _ 3 _ respelllaw01_shown.c_w1).mono ?_
  rintro e w5 ⟨rfl, hb5⟩
  have B6 := below_step B5 hb5.below
  clear B5 hb5
  go_wp2_with fail
  refine (utf_Width.calls 20 _ 0 _ respelllaw01_shown.c_w2).mono ?_
  rintro e w6 ⟨rfl, hb6⟩
  have B7 := below_step B6 hb6.below
  clear B6 hb6
  go_wp2_with fail
  refine (utf_Put.calls 20 _ _ _ respelllaw01_shown.c_put).mono ?_
  rintro e w7 ⟨rfl, hb7⟩
  have B8 := below_step B7 hb7
  clear B7 hb7
  go_wp2_with fail
  refine (utf_Border.calls 20 _ _ _ _ ⟨HT.out.below B8⟩ respelllaw01_shown.c_b1).mono ?_
  rintro e w8 ⟨rfl, hb8⟩
  have B9 := below_step B8 hb8
  clear B8 hb8
  go_wp2_with fail
  refine (utf_Border.calls 20 _ _ _ _ ⟨HT.out.below B9⟩ respelllaw01_shown.c_b2).mono ?_
  rintro e w9 ⟨rfl, hb9⟩
  have B10 := below_step B9 hb9
  clear B9 hb9
  go_wp2
  go_ret
  exact ⟨rfl, B10⟩
theorem respelllaw01_shown.calls (r : Bool) (w : World) (HT : Aside0 (Tabs w)) (h : respelllaw01_shown.f = some r) :
    Calls Tryd.prog 12 #[] w fun e w' => e = .returned (.bool r) ∧ Below w.heap.size w w' := by
  obtain rfl : true = r := Option.some.inj h
  exact respelllaw01_shown.holds w HT
end Go.Proofs.YtalbchgiijoeaaaDoor.G

