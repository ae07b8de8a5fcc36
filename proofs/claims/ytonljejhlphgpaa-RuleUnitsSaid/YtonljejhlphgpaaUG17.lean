-- Slimmed by slim.py from the text of this name without 'U'.
import Derived.Test.YtonljejhlphgpaaUG0
import Derived.Test.YtonljejhlphgpaaUG6
import Derived.Test.YtonljejhlphgpaaUG9
import Derived.Test.YtonljejhlphgpaaUG11
import Derived.Test.YtonljejhlphgpaaUG15
import Derived.Test.YtonljejhlphgpaaUG16
namespace Go.Proofs.Ytonljejhlphgpaa.G
open Go.RowKit Go.Proofs.YtonljejhlphgpaaW.PrintWords Go.Proofs.YtonljejhlphgpaaW.PrintLast Go.Proofs.YtonljejhlphgpaaW.PrintMore
set_option linter.unusedVariables false
set_option linter.unusedSimpArgs false
mutual
def respelllaw07_RuleUnits.j0 : Nat → List Int → List Int → List Int → Bool → Bool → List (List (S68)) → List (List (S68)) → List (List (S68)) → Bool → List (S43) → Int → Option (Bool)
  | 0, _, _, _, _, _, _, _, _, _, _, _ => none
  | k + 1, x1, x5, x6, x7, x208000, x208001, x208002, x208003, x208004, x208005, x208006 => respelllaw07_RuleUnits.l0 k x1 x5 x6 x7 0 x208000 x208001 x208002 x208003 x208004 x208005 x208006
def respelllaw07_RuleUnits.j2 : Nat → List Int → List Int → List Int → Bool → Bool → List (List (S68)) → List (List (S68)) → List (List (S68)) → Bool → List (S43) → Int → Option (Bool)
  | 0, _, _, _, _, _, _, _, _, _, _, _ => none
  | k + 1, x1, x5, x6, x7, x208000, x208001, x208002, x208003, x208004, x208005, x208006 => if x7 = true then (if (x5.length : Int) = x208006 then (respelllaw07_RuleUnits.j3 k x1 x5 x6 ((wrap64 ((x5.length : Int) + (x6.length : Int))) != (x208005.length : Int)) x208000 x208001 x208002 x208003 x208004 x208005 x208006) else (respelllaw07_RuleUnits.j3 k x1 x5 x6 true x208000 x208001 x208002 x208003 x208004 x208005 x208006)) else (if (x5.length : Int) = 0 then (some ((x6.length : Int) == 0)) else (some false))
def respelllaw07_RuleUnits.j3 : Nat → List Int → List Int → List Int → Bool → Bool → List (List (S68)) → List (List (S68)) → List (List (S68)) → Bool → List (S43) → Int → Option (Bool)
  | 0, _, _, _, _, _, _, _, _, _, _, _ => none
  | k + 1, x1, x5, x6, x75, x208000, x208001, x208002, x208003, x208004, x208005, x208006 => if x75 = true then (some false) else (respelllaw07_RuleUnits.l1 k x1 x5 x6 x208005 (x208005.length : Int) 0 x208000 x208001 x208002 x208003 x208004 x208005 x208006)
def respelllaw07_RuleUnits.l1 : Nat → List Int → List Int → List Int → List (S43) → Int → Int → Bool → List (List (S68)) → List (List (S68)) → List (List (S68)) → Bool → List (S43) → Int → Option (Bool)
  | 0, _, _, _, _, _, _, _, _, _, _, _, _, _ => none
  | k + 1, x1, x5, x6, x77, x78, x79, x208000, x208001, x208002, x208003, x208004, x208005, x208006 => if x79 < x78 then (if 0 ≤ x79 then (if x79 < (x77.length : Int) then (if x79 < x208006 then (if x79 < (x5.length : Int) then (respelllaw07_RuleUnits.j5 k x1 x5 x6 (rd x5 x79) x77 x78 x79 x208000 x208001 x208002 x208003 x208004 x208005 x208006 ((rd_T43 x77 x79).f0) ((rd_T43 x77 x79).f1) ((rd_T43 x77 x79).f2) ((rd_T43 x77 x79).f3)) else (none)) else (if 0 ≤ (wrap64 (x79 - x208006)) then (if (wrap64 (x79 - x208006)) < (x6.length : Int) then (respelllaw07_RuleUnits.j5 k x1 x5 x6 (rd x6 (wrap64 (x79 - x208006))) x77 x78 x79 x208000 x208001 x208002 x208003 x208004 x208005 x208006 ((rd_T43 x77 x79).f0) ((rd_T43 x77 x79).f1) ((rd_T43 x77 x79).f2) ((rd_T43 x77 x79).f3)) else (none)) else (none))) else (none)) else (none)) else (some true)
def respelllaw07_RuleUnits.j5 : Nat → List Int → List Int → List Int → Int → List (S43) → Int → Int → Bool → List (List (S68)) → List (List (S68)) → List (List (S68)) → Bool → List (S43) → Int → Int → Int → Int → List (S68) → Option (Bool)
  | 0, _, _, _, _, _, _, _, _, _, _, _, _, _, _, _, _, _, _ => none
  | k + 1, x1, x5, x6, x11, x77, x78, x79, x208000, x208001, x208002, x208003, x208004, x208005, x208006, x221000, x221001, x221002, x221003 => (utf_Width.f k x11).bind fun t223 => (if t223 = 0 then (some false) else (if x221000 = 1 then (if x11 = x221001 then (if x221000 = 2 then (if 0 ≤ x221002 then (if x221002 < (x1.length : Int) then (if x11 = (rd x1 x221002) then (if x221000 = 3 then ((set_Has.f k x221003 x11).bind fun t225 => (if t225 = true then (respelllaw07_RuleUnits.l1 k x1 x5 x6 x77 x78 (wrap64 (x79 + 1)) x208000 x208001 x208002 x208003 x208004 x208005 x208006) else (some false))) else (respelllaw07_RuleUnits.l1 k x1 x5 x6 x77 x78 (wrap64 (x79 + 1)) x208000 x208001 x208002 x208003 x208004 x208005 x208006)) else (some false)) else (none)) else (none)) else (if x221000 = 3 then ((set_Has.f k x221003 x11).bind fun t226 => (if t226 = true then (respelllaw07_RuleUnits.l1 k x1 x5 x6 x77 x78 (wrap64 (x79 + 1)) x208000 x208001 x208002 x208003 x208004 x208005 x208006) else (some false))) else (respelllaw07_RuleUnits.l1 k x1 x5 x6 x77 x78 (wrap64 (x79 + 1)) x208000 x208001 x208002 x208003 x208004 x208005 x208006))) else (some false)) else (if x221000 = 2 then (if 0 ≤ x221002 then (if x221002 < (x1.length : Int) then (if x11 = (rd x1 x221002) then (if x221000 = 3 then ((set_Has.f k x221003 x11).bind fun t228 => (if t228 = true then (respelllaw07_RuleUnits.l1 k x1 x5 x6 x77 x78 (wrap64 (x79 + 1)) x208000 x208001 x208002 x208003 x208004 x208005 x208006) else (some false))) else (respelllaw07_RuleUnits.l1 k x1 x5 x6 x77 x78 (wrap64 (x79 + 1)) x208000 x208001 x208002 x208003 x208004 x208005 x208006)) else (some false)) else (none)) else (none)) else (if x221000 = 3 then ((set_Has.f k x221003 x11).bind fun t229 => (if t229 = true then (respelllaw07_RuleUnits.l1 k x1 x5 x6 x77 x78 (wrap64 (x79 + 1)) x208000 x208001 x208002 x208003 x208004 x208005 x208006) else (some false))) else (respelllaw07_RuleUnits.l1 k x1 x5 x6 x77 x78 (wrap64 (x79 + 1)) x208000 x208001 x208002 x208003 x208004 x208005 x208006)))))
def respelllaw07_RuleUnits.l0 : Nat → List Int → List Int → List Int → Bool → Int → Bool → List (List (S68)) → List (List (S68)) → List (List (S68)) → Bool → List (S43) → Int → Option (Bool)
  | 0, _, _, _, _, _, _, _, _, _, _, _, _ => none
  | k + 1, x1, x5, x6, x7, x8, x208000, x208001, x208002, x208003, x208004, x208005, x208006 => if x8 < (x1.length : Int) then (if x7 = true then (if 0 ≤ x8 then (if x8 < (x208002.length : Int) then ((set_Has.f k (rd_L2 x208002 x8) (rd x1 x8)).bind fun t218 => (respelllaw07_RuleUnits.l0 k x1 x5 x6 t218 (wrap64 (x8 + 1)) x208000 x208001 x208002 x208003 x208004 x208005 x208006)) else (none)) else (none)) else (respelllaw07_RuleUnits.j2 k x1 x5 x6 x7 x208000 x208001 x208002 x208003 x208004 x208005 x208006)) else (respelllaw07_RuleUnits.j2 k x1 x5 x6 x7 x208000 x208001 x208002 x208003 x208004 x208005 x208006)
end
def respelllaw07_RuleUnits.f (k : Nat) (a0_0 : Bool) (l0_1 : List (List (S68))) (l0_2 : List (List (S68))) (l0_3 : List (List (S68))) (a0_4 : Bool) (l0_5 : List (S43)) (a0_6 : Int) (l1 : List Int) : Option (Bool) := (respelllaw07_shown.f k).bind fun t208 => (if t208 = true then ((rule_Lays.f k a0_0 l0_1 l0_2 l0_3 a0_4 l0_5 a0_6 l1).bind fun bt209 => ((rule_Check.f k a0_0 l0_1 l0_2 l0_3 a0_4 l0_5 a0_6).bind fun t215 => (if t215 = 0 then (respelllaw07_RuleUnits.j0 k l1 bt209.1 bt209.2 ((l1.length : Int) == (l0_2.length : Int)) a0_0 l0_1 l0_2 l0_3 a0_4 l0_5 a0_6) else (respelllaw07_RuleUnits.j0 k l1 bt209.1 bt209.2 false a0_0 l0_1 l0_2 l0_3 a0_4 l0_5 a0_6)))) else (some false))
theorem respelllaw07_RuleUnits.mono_l : ∀ k, (∀ y0 y1 y2 y3 y4 y5 y6 y7 y8 y9 y10, LeO (respelllaw07_RuleUnits.j0 k y0 y1 y2 y3 y4 y5 y6 y7 y8 y9 y10) (respelllaw07_RuleUnits.j0 (k + 1) y0 y1 y2 y3 y4 y5 y6 y7 y8 y9 y10)) ∧ (∀ y0 y1 y2 y3 y4 y5 y6 y7 y8 y9 y10, LeO (respelllaw07_RuleUnits.j2 k y0 y1 y2 y3 y4 y5 y6 y7 y8 y9 y10) (respelllaw07_RuleUnits.j2 (k + 1) y0 y1 y2 y3 y4 y5 y6 y7 y8 y9 y10)) ∧ (∀ y0 y1 y2 y3 y4 y5 y6 y7 y8 y9 y10, LeO (respelllaw07_RuleUnits.j3 k y0 y1 y2 y3 y4 y5 y6 y7 y8 y9 y10) (respelllaw07_RuleUnits.j3 (k + 1) y0 y1 y2 y3 y4 y5 y6 y7 y8 y9 y10)) ∧ (∀ y0 y1 y2 y3 y4 y5 y6 y7 y8 y9 y10 y11 y12, LeO (respelllaw07_RuleUnits.l1 k y0 y1 y2 y3 y4 y5 y6 y7 y8 y9 y10 y11 y12) (respelllaw07_RuleUnits.l1 (k + 1) y0 y1 y2 y3 y4 y5 y6 y7 y8 y9 y10 y11 y12)) ∧ (∀ y0 y1 y2 y3 y4 y5 y6 y7 y8 y9 y10 y11 y12 y13 y14 y15 y16 y17, LeO (respelllaw07_RuleUnits.j5 k y0 y1 y2 y3 y4 y5 y6 y7 y8 y9 y10 y11 y12 y13 y14 y15 y16 y17) (respelllaw07_RuleUnits.j5 (k + 1) y0 y1 y2 y3 y4 y5 y6 y7 y8 y9 y10 y11 y12 y13 y14 y15 y16 y17)) ∧ (∀ y0 y1 y2 y3 y4 y5 y6 y7 y8 y9 y10 y11, LeO (respelllaw07_RuleUnits.l0 k y0 y1 y2 y3 y4 y5 y6 y7 y8 y9 y10 y11) (respelllaw07_RuleUnits.l0 (k + 1) y0 y1 y2 y3 y4 y5 y6 y7 y8 y9 y10 y11))
  | 0 => ⟨fun _ _ _ _ _ _ _ _ _ _ _ r h => by simp [respelllaw07_RuleUnits.j0] at h, fun _ _ _ _ _ _ _ _ _ _ _ r h => by simp [respelllaw07_RuleUnits.j2] at h, fun _ _ _ _ _ _ _ _ _ _ _ r h => by simp [respelllaw07_RuleUnits.j3] at h, fun _ _ _ _ _ _ _ _ _ _ _ _ _ r h => by simp [respelllaw07_RuleUnits.l1] at h, fun _ _ _ _ _ _ _ _ _ _ _ _ _ _ _ _ _ _ r h => by simp [respelllaw07_RuleUnits.j5] at h, fun _ _ _ _ _ _ _ _ _ _ _ _ r h => by simp [respelllaw07_RuleUnits.l0] at h⟩
  | k + 1 => by
    obtain ⟨ih0, ih1, ih2, ih3, ih4, ih5⟩ := respelllaw07_RuleUnits.mono_l k
    refine ⟨?_, ?_, ?_, ?_, ?_, ?_⟩
    · intro y0 y1 y2 y3 y4 y5 y6 y7 y8 y9 y10
      unfold respelllaw07_RuleUnits.j0
      repeat' first
      | (with_reducible exact ih0 _ _ _ _ _ _ _ _ _ _ _)
      | (with_reducible exact ih1 _ _ _ _ _ _ _ _ _ _ _)
      | (with_reducible exact ih2 _ _ _ _ _ _ _ _ _ _ _)
      | (with_reducible exact ih3 _ _ _ _ _ _ _ _ _ _ _ _ _)
      | (with_reducible exact ih4 _ _ _ _ _ _ _ _ _ _ _ _ _ _ _ _ _ _)
      | (with_reducible exact ih5 _ _ _ _ _ _ _ _ _ _ _ _)
      | (with_reducible exact respelllaw07_shown.mono _)
      | (with_reducible exact rule_Check.mono _ _ _ _ _ _ _ _)
      | (with_reducible exact rule_Lays.mono _ _ _ _ _ _ _ _ _)
      | (with_reducible exact set_Has.mono _ _ _)
      | (with_reducible exact utf_Width.mono _ _)
      | (with_reducible exact LeO.refl _)
      | (with_reducible exact LeO.none _)
      | (with_reducible refine LeO.ite ?_ ?_)
      | (with_reducible refine LeO.bind ?_ (fun _ => ?_))
      | exact ih0 _ _ _ _ _ _ _ _ _ _ _
      | exact ih1 _ _ _ _ _ _ _ _ _ _ _
      | exact ih2 _ _ _ _ _ _ _ _ _ _ _
      | exact ih3 _ _ _ _ _ _ _ _ _ _ _ _ _
      | exact ih4 _ _ _ _ _ _ _ _ _ _ _ _ _ _ _ _ _ _
      | exact ih5 _ _ _ _ _ _ _ _ _ _ _ _
      | exact respelllaw07_shown.mono _
      | exact rule_Check.mono _ _ _ _ _ _ _ _
      | exact rule_Lays.mono _ _ _ _ _ _ _ _ _
      | exact set_Has.mono _ _ _
      | exact utf_Width.mono _ _
      | exact LeO.none _
      | refine LeO.ite ?_ ?_
      | refine LeO.bind ?_ (fun _ => ?_)
    · intro y0 y1 y2 y3 y4 y5 y6 y7 y8 y9 y10
      unfold respelllaw07_RuleUnits.j2
      repeat' first
      | (with_reducible exact ih0 _ _ _ _ _ _ _ _ _ _ _)
      | (with_reducible exact ih1 _ _ _ _ _ _ _ _ _ _ _)
      | (with_reducible exact ih2 _ _ _ _ _ _ _ _ _ _ _)
      | (with_reducible exact ih3 _ _ _ _ _ _ _ _ _ _ _ _ _)
      | (with_reducible exact ih4 _ _ _ _ _ _ _ _ _ _ _ _ _ _ _ _ _ _)
      | (with_reducible exact ih5 _ _ _ _ _ _ _ _ _ _ _ _)
      | (with_reducible exact respelllaw07_shown.mono _)
      | (with_reducible exact rule_Check.mono _ _ _ _ _ _ _ _)
      | (with_reducible exact rule_Lays.mono _ _ _ _ _ _ _ _ _)
      | (with_reducible exact set_Has.mono _ _ _)
      | (with_reducible exact utf_Width.mono _ _)
      | (with_reducible exact LeO.refl _)
      | (with_reducible exact LeO.none _)
      | (with_reducible refine LeO.ite ?_ ?_)
      | (with_reducible refine LeO.bind ?_ (fun _ => ?_))
      | exact ih0 _ _ _ _ _ _ _ _ _ _ _
      | exact ih1 _ _ _ _ _ _ _ _ _ _ _
      | exact ih2 _ _ _ _ _ _ _ _ _ _ _
      | exact ih3 _ _ _ _ _ _ _ _ _ _ _ _ _
      | exact ih4 _ _ _ _ _ _ _ _ _ _ _ _ _ _ _ _ _ _
      | exact ih5 _ _ _ _ _ _ _ _ _ _ _ _
      | exact respelllaw07_shown.mono _
      | exact rule_Check.mono _ _ _ _ _ _ _ _
      | exact rule_Lays.mono _ _ _ _ _ _ _ _ _
      | exact set_Has.mono _ _ _
      | exact utf_Width.mono _ _
      | exact LeO.none _
      | refine LeO.ite ?_ ?_
      | refine LeO.bind ?_ (fun _ => ?_)
    · intro y0 y1 y2 y3 y4 y5 y6 y7 y8 y9 y10
      unfold respelllaw07_RuleUnits.j3
      repeat' first
      | (with_reducible exact ih0 _ _ _ _ _ _ _ _ _ _ _)
      | (with_reducible exact ih1 _ _ _ _ _ _ _ _ _ _ _)
      | (with_reducible exact ih2 _ _ _ _ _ _ _ _ _ _ _)
      | (with_reducible exact ih3 _ _ _ _ _ _ _ _ _ _ _ _ _)
      | (with_reducible exact ih4 _ _ _ _ _ _ _ _ _ _ _ _ _ _ _ _ _ _)
      | (with_reducible exact ih5 _ _ _ _ _ _ _ _ _ _ _ _)
      | (with_reducible exact respelllaw07_shown.mono _)
      | (with_reducible exact rule_Check.mono _ _ _ _ _ _ _ _)
      | (with_reducible exact rule_Lays.mono _ _ _ _ _ _ _ _ _)
      | (with_reducible exact set_Has.mono _ _ _)
      | (with_reducible exact utf_Width.mono _ _)
      | (with_reducible exact LeO.refl _)
      | (with_reducible exact LeO.none _)
      | (with_reducible refine LeO.ite ?_ ?_)
      | (with_reducible refine LeO.bind ?_ (fun _ => ?_))
      | exact ih0 _ _ _ _ _ _ _ _ _ _ _
      | exact ih1 _ _ _ _ _ _ _ _ _ _ _
      | exact ih2 _ _ _ _ _ _ _ _ _ _ _
      | exact ih3 _ _ _ _ _ _ _ _ _ _ _ _ _
      | exact ih4 _ _ _ _ _ _ _ _ _ _ _ _ _ _ _ _ _ _
      | exact ih5 _ _ _ _ _ _ _ _ _ _ _ _
      | exact respelllaw07_shown.mono _
      | exact rule_Check.mono _ _ _ _ _ _ _ _
      | exact rule_Lays.mono _ _ _ _ _ _ _ _ _
      | exact set_Has.mono _ _ _
      | exact utf_Width.mono _ _
      | exact LeO.none _
      | refine LeO.ite ?_ ?_
      | refine LeO.bind ?_ (fun _ => ?_)
    · intro y0 y1 y2 y3 y4 y5 y6 y7 y8 y9 y10 y11 y12
      unfold respelllaw07_RuleUnits.l1
      repeat' first
      | (with_reducible exact ih0 _ _ _ _ _ _ _ _ _ _ _)
      | (with_reducible exact ih1 _ _ _ _ _ _ _ _ _ _ _)
      | (with_reducible exact ih2 _ _ _ _ _ _ _ _ _ _ _)
      | (with_reducible exact ih3 _ _ _ _ _ _ _ _ _ _ _ _ _)
      | (with_reducible exact ih4 _ _ _ _ _ _ _ _ _ _ _ _ _ _ _ _ _ _)
      | (with_reducible exact ih5 _ _ _ _ _ _ _ _ _ _ _ _)
      | (with_reducible exact respelllaw07_shown.mono _)
      | (with_reducible exact rule_Check.mono _ _ _ _ _ _ _ _)
      | (with_reducible exact rule_Lays.mono _ _ _ _ _ _ _ _ _)
      | (with_reducible exact set_Has.mono _ _ _)
      | (with_reducible exact utf_Width.mono _ _)
      | (with_reducible exact LeO.refl _)
      | (with_reducible exact LeO.none _)
      | (with_reducible refine LeO.ite ?_ ?_)
      | (with_reducible refine LeO.bind ?_ (fun _ => ?_))
      | exact ih0 _ _ _ _ _ _ _ _ _ _ _
      | exact ih1 _ _ _ _ _ _ _ _ _ _ _
      | exact ih2 _ _ _ _ _ _ _ _ _ _ _
      | exact ih3 _ _ _ _ _ _ _ _ _ _ _ _ _
      | exact ih4 _ _ _ _ _ _ _ _ _ _ _ _ _ _ _ _ _ _
      | exact ih5 _ _ _ _ _ _ _ _ _ _ _ _
      | exact respelllaw07_shown.mono _
      | exact rule_Check.mono _ _ _ _ _ _ _ _
      | exact rule_Lays.mono _ _ _ _ _ _ _ _ _
      | exact set_Has.mono _ _ _
      | exact utf_Width.mono _ _
      | exact LeO.none _
      | refine LeO.ite ?_ ?_
      | refine LeO.bind ?_ (fun _ => ?_)
    · intro y0 y1 y2 y3 y4 y5 y6 y7 y8 y9 y10 y11 y12 y13 y14 y15 y16 y17
      unfold respelllaw07_RuleUnits.j5
      repeat' first
      | (with_reducible exact ih0 _ _ _ _ _ _ _ _ _ _ _)
      | (with_reducible exact ih1 _ _ _ _ _ _ _ _ _ _ _)
      | (with_reducible exact ih2 _ _ _ _ _ _ _ _ _ _ _)
      | (with_reducible exact ih3 _ _ _ _ _ _ _ _ _ _ _ _ _)
      | (with_reducible exact ih4 _ _ _ _ _ _ _ _ _ _ _ _ _ _ _ _ _ _)
      | (with_reducible exact ih5 _ _ _ _ _ _ _ _ _ _ _ _)
      | (with_reducible exact respelllaw07_shown.mono _)
      | (with_reducible exact rule_Check.mono _ _ _ _ _ _ _ _)
      | (with_reducible exact rule_Lays.mono _ _ _ _ _ _ _ _ _)
      | (with_reducible exact set_Has.mono _ _ _)
      | (with_reducible exact utf_Width.mono _ _)
      | (with_reducible exact LeO.refl _)
      | (with_reducible exact LeO.none _)
      | (with_reducible refine LeO.ite ?_ ?_)
      | (with_reducible refine LeO.bind ?_ (fun _ => ?_))
      | exact ih0 _ _ _ _ _ _ _ _ _ _ _
      | exact ih1 _ _ _ _ _ _ _ _ _ _ _
      | exact ih2 _ _ _ _ _ _ _ _ _ _ _
      | exact ih3 _ _ _ _ _ _ _ _ _ _ _ _ _
      | exact ih4 _ _ _ _ _ _ _ _ _ _ _ _ _ _ _ _ _ _
      | exact ih5 _ _ _ _ _ _ _ _ _ _ _ _
      | exact respelllaw07_shown.mono _
      | exact rule_Check.mono _ _ _ _ _ _ _ _
      | exact rule_Lays.mono _ _ _ _ _ _ _ _ _
      | exact set_Has.mono _ _ _
      | exact utf_Width.mono _ _
      | exact LeO.none _
      | refine LeO.ite ?_ ?_
      | refine LeO.bind ?_ (fun _ => ?_)
    · intro y0 y1 y2 y3 y4 y5 y6 y7 y8 y9 y10 y11
      unfold respelllaw07_RuleUnits.l0
      repeat' first
      | (with_reducible exact ih0 _ _ _ _ _ _ _ _ _ _ _)
      | (with_reducible exact ih1 _ _ _ _ _ _ _ _ _ _ _)
      | (with_reducible exact ih2 _ _ _ _ _ _ _ _ _ _ _)
      | (with_reducible exact ih3 _ _ _ _ _ _ _ _ _ _ _ _ _)
      | (with_reducible exact ih4 _ _ _ _ _ _ _ _ _ _ _ _ _ _ _ _ _ _)
      | (with_reducible exact ih5 _ _ _ _ _ _ _ _ _ _ _ _)
      | (with_reducible exact respelllaw07_shown.mono _)
      | (with_reducible exact rule_Check.mono _ _ _ _ _ _ _ _)
      | (with_reducible exact rule_Lays.mono _ _ _ _ _ _ _ _ _)
      | (with_reducible exact set_Has.mono _ _ _)
      | (with_reducible exact utf_Width.mono _ _)
      | (with_reducible exact LeO.refl _)
      | (with_reducible exact LeO.none _)
      | (with_reducible refine LeO.ite ?_ ?_)
      | (with_reducible refine LeO.bind ?_ (fun _ => ?_))
      | exact ih0 _ _ _ _ _ _ _ _ _ _ _
      | exact ih1 _ _ _ _ _ _ _ _ _ _ _
      | exact ih2 _ _ _ _ _ _ _ _ _ _ _
      | exact ih3 _ _ _ _ _ _ _ _ _ _ _ _ _
      | exact ih4 _ _ _ _ _ _ _ _ _ _ _ _ _ _ _ _ _ _
      | exact ih5 _ _ _ _ _ _ _ _ _ _ _ _
      | exact respelllaw07_shown.mono _
      | exact rule_Check.mono _ _ _ _ _ _ _ _
      | exact rule_Lays.mono _ _ _ _ _ _ _ _ _
      | exact set_Has.mono _ _ _
      | exact utf_Width.mono _ _
      | exact LeO.none _
      | refine LeO.ite ?_ ?_
      | refine LeO.bind ?_ (fun _ => ?_)
theorem respelllaw07_RuleUnits.mono : ∀ a0 a1 a2 a3 a4 a5 a6 a7 k, LeO (respelllaw07_RuleUnits.f k a0 a1 a2 a3 a4 a5 a6 a7) (respelllaw07_RuleUnits.f (k + 1) a0 a1 a2 a3 a4 a5 a6 a7) := by
  intro a0 a1 a2 a3 a4 a5 a6 a7 k
  obtain ⟨ih0, ih1, ih2, ih3, ih4, ih5⟩ := respelllaw07_RuleUnits.mono_l k
  unfold respelllaw07_RuleUnits.f
  repeat' first
      | (with_reducible exact ih0 _ _ _ _ _ _ _ _ _ _ _)
      | (with_reducible exact ih1 _ _ _ _ _ _ _ _ _ _ _)
      | (with_reducible exact ih2 _ _ _ _ _ _ _ _ _ _ _)
      | (with_reducible exact ih3 _ _ _ _ _ _ _ _ _ _ _ _ _)
      | (with_reducible exact ih4 _ _ _ _ _ _ _ _ _ _ _ _ _ _ _ _ _ _)
      | (with_reducible exact ih5 _ _ _ _ _ _ _ _ _ _ _ _)
      | (with_reducible exact respelllaw07_shown.mono _)
      | (with_reducible exact rule_Check.mono _ _ _ _ _ _ _ _)
      | (with_reducible exact rule_Lays.mono _ _ _ _ _ _ _ _ _)
      | (with_reducible exact set_Has.mono _ _ _)
      | (with_reducible exact utf_Width.mono _ _)
      | (with_reducible exact LeO.refl _)
      | (with_reducible exact LeO.none _)
      | (with_reducible refine LeO.ite ?_ ?_)
      | (with_reducible refine LeO.bind ?_ (fun _ => ?_))
      | exact ih0 _ _ _ _ _ _ _ _ _ _ _
      | exact ih1 _ _ _ _ _ _ _ _ _ _ _
      | exact ih2 _ _ _ _ _ _ _ _ _ _ _
      | exact ih3 _ _ _ _ _ _ _ _ _ _ _ _ _
      | exact ih4 _ _ _ _ _ _ _ _ _ _ _ _ _ _ _ _ _ _
      | exact ih5 _ _ _ _ _ _ _ _ _ _ _ _
      | exact respelllaw07_shown.mono _
      | exact rule_Check.mono _ _ _ _ _ _ _ _
      | exact rule_Lays.mono _ _ _ _ _ _ _ _ _
      | exact set_Has.mono _ _ _
      | exact utf_Width.mono _ _
      | exact LeO.none _
      | refine LeO.ite ?_ ?_
      | refine LeO.bind ?_ (fun _ => ?_)
def respelllaw07_RuleUnits.T8 : Bool × List (List Nat × List Nat) := (true, [([], []), ([0], [0]), ([], []), ([1, 2], [1, 2]), ([3], [3]), ([], []), ([], []), ([5, 6], [5, 6]), ([7], [7]), ([4, 8], [4, 8]), ([9, 9, 0, 1, 2, 3, 4, 5, 6, 7, 8, 9], [9])])
def respelllaw07_RuleUnits.B8 : List Nat := [0, 1, 0, 7, 15, 0, 0, 96, 224, 511, 1023]
theorem respelllaw07_RuleUnits.tab8 : rtab .any (opsOf Try.f4 8) = respelllaw07_RuleUnits.T8 := by kernel_rfl
theorem respelllaw07_RuleUnits.bits8 : waitsOk respelllaw07_RuleUnits.T8.2 respelllaw07_RuleUnits.B8 = true := by kernel_rfl
set_option maxHeartbeats 8000000 in
set_option maxRecDepth 100000 in
theorem respelllaw07_RuleUnits.calls (k : Nat) (a0_0 : Bool) (A0_1 : Option Addr) (c0_1 : Nat) (l0_1 : List (List (S68))) (A0_2 : Option Addr) (c0_2 : Nat) (l0_2 : List (List (S68))) (A0_3 : Option Addr) (c0_3 : Nat) (l0_3 : List (List (S68))) (a0_4 : Bool) (A0_5 : Option Addr) (c0_5 : Nat) (l0_5 : List (S43)) (a0_6 : Int) (A1 : Option Addr) (c1 : Nat) (l1 : List Int) (r : Bool) (w : World) (hr0_1 : Kd.C (Kd.slice 68 k68) w A0_1 l0_1.length l0_1) (hc0_1 : l0_1.length ≤ c0_1) (hr0_2 : Kd.C (Kd.slice 68 k68) w A0_2 l0_2.length l0_2) (hc0_2 : l0_2.length ≤ c0_2) (hr0_3 : Kd.C (Kd.slice 68 k68) w A0_3 l0_3.length l0_3) (hc0_3 : l0_3.length ≤ c0_3) (hr0_5 : Kd.C k43 w A0_5 l0_5.length l0_5) (hc0_5 : l0_5.length ≤ c0_5) (hr1 : Kd.C (Kd.int .i64) w A1 l1.length l1) (hc1 : l1.length ≤ c1) (h : respelllaw07_RuleUnits.f k a0_0 l0_1 l0_2 l0_3 a0_4 l0_5 a0_6 l1 = some r) :
    Calls Try.prog 4 #[.agg #[.bool a0_0, .slice A0_1 l0_1.length c0_1, .slice A0_2 l0_2.length c0_2, .slice A0_3 l0_3.length c0_3, .bool a0_4, .slice A0_5 l0_5.length c0_5, .int .i64 a0_6], .slice A1 l1.length c1] w fun e w' => e = .returned (.bool r) ∧ Below w.heap.size w w' := by
  have hu25 := Try.underlying25
  have hu43 := Try.underlying43
  have HR0_1 := Aside0.mk hr0_1
  have HC0_1 := Aside0.mk hc0_1
  clear hr0_1 hc0_1
  have HR0_2 := Aside0.mk hr0_2
  have HC0_2 := Aside0.mk hc0_2
  clear hr0_2 hc0_2
  have HR0_3 := Aside0.mk hr0_3
  have HC0_3 := Aside0.mk hc0_3
  clear hr0_3 hc0_3
  have HR0_5 := Aside0.mk hr0_5
  have HC0_5 := Aside0.mk hc0_5
  clear hr0_5 hc0_5
  have HR1 := Aside0.mk hr1
  have HC1 := Aside0.mk hc1
  clear hr1 hc1
  have HB := Aside0.mk (Below.refl w.heap.size w)
  have H : ((respelllaw07_shown.f k).bind fun t208 => (if t208 = true then ((rule_Lays.f k a0_0 l0_1 l0_2 l0_3 a0_4 l0_5 a0_6 l1).bind fun bt209 => ((rule_Check.f k a0_0 l0_1 l0_2 l0_3 a0_4 l0_5 a0_6).bind fun t215 => (if t215 = 0 then (respelllaw07_RuleUnits.j0 k l1 bt209.1 bt209.2 ((l1.length : Int) == (l0_2.length : Int)) a0_0 l0_1 l0_2 l0_3 a0_4 l0_5 a0_6) else (respelllaw07_RuleUnits.j0 k l1 bt209.1 bt209.2 false a0_0 l0_1 l0_2 l0_3 a0_4 l0_5 a0_6)))) else (some false))) = some r := h
  clear h
  replace H := Option.bind_eq_some_iff.mp H
  obtain ⟨t208, A30, H⟩ := H
  replace H : (if t208 = true then ((rule_Lays.f k a0_0 l0_1 l0_2 l0_3 a0_4 l0_5 a0_6 l1).bind fun bt209 => ((rule_Check.f k a0_0 l0_1 l0_2 l0_3 a0_4 l0_5 a0_6).bind fun t215 => (if t215 = 0 then (respelllaw07_RuleUnits.j0 k l1 bt209.1 bt209.2 ((l1.length : Int) == (l0_2.length : Int)) a0_0 l0_1 l0_2 l0_3 a0_4 l0_5 a0_6) else (respelllaw07_RuleUnits.j0 k l1 bt209.1 bt209.2 false a0_0 l0_1 l0_2 l0_3 a0_4 l0_5 a0_6)))) else (some false)) = some r := H
  have A3 := Aside0.mk A30
  clear A30
  by_cases c4 : t208 = true
  · subst c4
    have H1 : ((rule_Lays.f k a0_0 l0_1 l0_2 l0_3 a0_4 l0_5 a0_6 l1).bind fun bt209 => ((rule_Check.f k a0_0 l0_1 l0_2 l0_3 a0_4 l0_5 a0_6).bind fun t215 => (if t215 = 0 then (respelllaw07_RuleUnits.j0 k l1 bt209.1 bt209.2 ((l1.length : Int) == (l0_2.length : Int)) a0_0 l0_1 l0_2 l0_3 a0_4 l0_5 a0_6) else (respelllaw07_RuleUnits.j0 k l1 bt209.1 bt209.2 false a0_0 l0_1 l0_2 l0_3 a0_4 l0_5 a0_6)))) = some r := by rw [if_pos rfl] at H; exact H
    clear H
    have H := H1
    clear H1
    replace H := Option.bind_eq_some_iff.mp H
    obtain ⟨⟨t209, t212⟩, A50, H⟩ := H
    replace H : ((rule_Check.f k a0_0 l0_1 l0_2 l0_3 a0_4 l0_5 a0_6).bind fun t215 => (if t215 = 0 then (respelllaw07_RuleUnits.j0 k l1 t209 t212 ((l1.length : Int) == (l0_2.length : Int)) a0_0 l0_1 l0_2 l0_3 a0_4 l0_5 a0_6) else (respelllaw07_RuleUnits.j0 k l1 t209 t212 false a0_0 l0_1 l0_2 l0_3 a0_4 l0_5 a0_6))) = some r := H
    have A5 := Aside0.mk A50
    clear A50
    have HC6 := Aside0.mk H
    clear H
    go_enter Try.func4, Try.ntmps4
    go_upto_region 4 with (first | ((with_reducible refine gate_dst (N := 2) rfl ?_); (try (refine gate_guard (by rfl) ?_; dsimp only)); refine box_event ?hg (N := 2) ?hd (cs := #[.bool a0_0, .slice A0_1 l0_1.length c0_1, .slice A0_2 l0_2.length c0_2, .slice A0_3 l0_3.length c0_3, .bool a0_4, .slice A0_5 l0_5.length c0_5, .int .i64 a0_6]) (t := 25) ?hr ?_; (case hd => rfl); (case hg => rfl); (case hr => first | (go_simp; done) | (go_simp; rfl)); intro gb207 hg w7 hbox hb; have n0_ := Aside0.mk (below_step (by repeat (first | (with_reducible first | exact HB.out | apply below_alloc | apply pw_below_drewN | apply below_drew1) | exact HB.out)) hb); have n1_ := Aside0.mk (hbox); have n2_ := Aside0.mk ((by rw [hg]; exact (below_size (by repeat (first | (with_reducible first | exact HB.out | apply below_alloc | apply pw_below_drewN | apply below_drew1) | exact HB.out))) : w.heap.size ≤ gb207)); have n3_ := Aside0.mk ((by rw [hg]; exact (below_size (by repeat (first | (with_reducible first | exact HB.out | apply below_alloc | apply pw_below_drewN | apply below_drew1) | exact HB.out))) : w.heap.size ≤ gb207)); clear HB; have HB := n0_; have BK207 := n1_; have GW207 := n2_; have GE207 := n3_; clear n0_ n1_ n2_ n3_; clear hb hbox hg) | ((with_reducible refine gate_callee (f := 13) rfl ?_); refine goesL_ (some 12) rfl rfl Try.func13 (by kernel_rfl) rfl #[] rfl (by (try simp only [List.map_toArray, List.map_cons, List.map_nil]); first | done | rfl | (simp only [List.length_drop, List.length_take]; rfl)) ?_; (with_reducible refine (respelllaw07_shown.calls k  true _ A3.out).mono ?_); rintro e w8 ⟨rfl, hb⟩; refine ⟨_, rfl, ?_⟩; have n0_ := Aside0.mk (blk_below (g := gb207) (o := .cells #[.bool a0_0, .slice A0_1 l0_1.length c0_1, .slice A0_2 l0_2.length c0_2, .slice A0_3 l0_3.length c0_3, .bool a0_4, .slice A0_5 l0_5.length c0_5, .int .i64 a0_6] 25 (0, 0)) (by (with_reducible repeat (first | refine blk_drewN ?_ _ | refine blk_drew ?_ | refine blk_alloc ?_ _)); exact BK207.out) hb); have n1_ := Aside0.mk (below_step (by repeat (first | (with_reducible first | exact HB.out | apply below_alloc | apply pw_below_drewN | apply below_drew1 | refine below_set ?_ GE207.out) | exact HB.out)) hb); clear BK207; clear HB; have BK207 := n0_; have HB := n1_; clear n0_ n1_; (try clear hb); (try clear hb2); (try clear hk); (try clear hi); have hcz9_0 : w8.cell? ⟨gb207, 0, none⟩ = some (.bool a0_0) := (blk_cell BK207.out 0).trans rfl; have hcz9_1 : w8.cell? ⟨gb207, 1, none⟩ = some (.slice A0_1 l0_1.length c0_1) := (blk_cell BK207.out 1).trans rfl; have hcz9_2 : w8.cell? ⟨gb207, 2, none⟩ = some (.slice A0_2 l0_2.length c0_2) := (blk_cell BK207.out 2).trans rfl; have hcz9_3 : w8.cell? ⟨gb207, 3, none⟩ = some (.slice A0_3 l0_3.length c0_3) := (blk_cell BK207.out 3).trans rfl; have hcz9_4 : w8.cell? ⟨gb207, 4, none⟩ = some (.bool a0_4) := (blk_cell BK207.out 4).trans rfl; have hcz9_5 : w8.cell? ⟨gb207, 5, none⟩ = some (.slice A0_5 l0_5.length c0_5) := (blk_cell BK207.out 5).trans rfl; have hcz9_6 : w8.cell? ⟨gb207, 6, none⟩ = some (.int .i64 a0_6) := (blk_cell BK207.out 6).trans rfl; have hfz9_0 := blk_frozen BK207.out 0; have hfz9_1 := blk_frozen BK207.out 1; have hfz9_2 := blk_frozen BK207.out 2; have hfz9_3 := blk_frozen BK207.out 3; have hfz9_4 := blk_frozen BK207.out 4; have hfz9_5 := blk_frozen BK207.out 5; have hfz9_6 := blk_frozen BK207.out 6) | ((with_reducible refine gate_callee (f := 17) rfl ?_); refine goesL_ (some 17) rfl rfl Try.func17 (by kernel_rfl) rfl #[.agg #[.bool a0_0, .slice A0_1 l0_1.length c0_1, .slice A0_2 l0_2.length c0_2, .slice A0_3 l0_3.length c0_3, .bool a0_4, .slice A0_5 l0_5.length c0_5, .int .i64 a0_6], .slice A1 l1.length c1] rfl (by (try simp only [List.map_toArray, List.map_cons, List.map_nil]); first | done | rfl | (simp only [List.length_drop, List.length_take]; rfl)) ?_; (with_reducible refine (rule_Lays.calls k a0_0 _ _ l0_1 _ _ l0_2 _ _ l0_3 a0_4 _ _ l0_5 a0_6 _ _ l1 t209 t212 _ ?side1 ?side2 ?side3 ?side4 ?side5 ?side6 ?side7 ?side8 ?side9 ?side10 A5.out).mono ?_); (case side1 => repeat (first | exact (Kd.C_below HR0_1.out HB.out) | exact HR0_1.out | (with_reducible refine Kd.C_alloc ?_ _) | (with_reducible refine Kd.C_drewN ?_ _) | (with_reducible refine Kd.C_drew ?_))); (case side2 => exact HC0_1.out); (case side3 => repeat (first | exact (Kd.C_below HR0_2.out HB.out) | exact HR0_2.out | (with_reducible refine Kd.C_alloc ?_ _) | (with_reducible refine Kd.C_drewN ?_ _) | (with_reducible refine Kd.C_drew ?_))); (case side4 => exact HC0_2.out); (case side5 => repeat (first | exact (Kd.C_below HR0_3.out HB.out) | exact HR0_3.out | (with_reducible refine Kd.C_alloc ?_ _) | (with_reducible refine Kd.C_drewN ?_ _) | (with_reducible refine Kd.C_drew ?_))); (case side6 => exact HC0_3.out); (case side7 => repeat (first | exact (Kd.C_below HR0_5.out HB.out) | exact HR0_5.out | (with_reducible refine Kd.C_alloc ?_ _) | (with_reducible refine Kd.C_drewN ?_ _) | (with_reducible refine Kd.C_drew ?_))); (case side8 => exact HC0_5.out); (case side9 => repeat (first | exact (Kd.C_below HR1.out HB.out) | exact HR1.out | (with_reducible refine Kd.C_alloc ?_ _) | (with_reducible refine Kd.C_drewN ?_ _) | (with_reducible refine Kd.C_drew ?_))); (case side10 => exact HC1.out); rintro e w10 ⟨v210, v213, rfl, ho0, ho1, hb⟩; refine ⟨_, rfl, ?_⟩; have n0_ := Aside0.mk (Kd.R_lower ho0 (below_size (by repeat (first | (with_reducible first | exact HB.out | apply below_alloc | apply pw_below_drewN | apply below_drew1 | refine below_set ?_ GE207.out) | exact HB.out)))); have n1_ := Aside0.mk (Kd.R_lower ho1 (below_size (by repeat (first | (with_reducible first | exact HB.out | apply below_alloc | apply pw_below_drewN | apply below_drew1 | refine below_set ?_ GE207.out) | exact HB.out)))); have n2_ := Aside0.mk (blk_below (g := gb207) (o := .cells #[.bool a0_0, .slice A0_1 l0_1.length c0_1, .slice A0_2 l0_2.length c0_2, .slice A0_3 l0_3.length c0_3, .bool a0_4, .slice A0_5 l0_5.length c0_5, .int .i64 a0_6] 25 (0, 0)) (by (with_reducible repeat (first | refine blk_drewN ?_ _ | refine blk_drew ?_ | refine blk_alloc ?_ _)); exact BK207.out) hb); have n3_ := Aside0.mk (below_step (by repeat (first | (with_reducible first | exact HB.out | apply below_alloc | apply pw_below_drewN | apply below_drew1 | refine below_set ?_ GE207.out) | exact HB.out)) hb); clear BK207; clear HB; have HO211 := n0_; have HO214 := n1_; have BK207 := n2_; have HB := n3_; clear n0_ n1_ n2_ n3_; (try clear hb); (try clear hb2); (try clear hk); (try clear hi); (try clear ho0); (try clear ho1)))
    (try simp only [Act.put, List.setIfInBounds_toArray, List.set_cons_zero, List.set_cons_succ])
    go_cut [7] (fun v7 wc => ∃ (kq : Nat) (x7_5 : Bool), v7 = .bool x7_5 ∧ Aside0 (respelllaw07_RuleUnits.j0 kq l1 t209 t212 x7_5 a0_0 l0_1 l0_2 l0_3 a0_4 l0_5 a0_6 = some r) ∧ Aside0 (kq ≤ k) ∧ Aside0 (Kd.R (Kd.int .i64) 3 wc w.heap.size (fun k_ => some k_ ≠ (v213 : Value).ownBlock) v210 t209) ∧ Aside0 (Kd.R (Kd.int .i64) 3 wc w.heap.size (fun k_ => some k_ ≠ (v210 : Value).ownBlock) v213 t212) ∧ Aside0 (wc.heap[gb207]? = some (.cells #[.bool a0_0, (.slice A0_1 l0_1.length c0_1), (.slice A0_2 l0_2.length c0_2), (.slice A0_3 l0_3.length c0_3), .bool a0_4, (.slice A0_5 l0_5.length c0_5), .int .i64 a0_6] 25 (0, 0))) ∧ Aside0 (Below w.heap.size w wc))
    case first =>
      have H := HC6.out
      clear HC6
      replace H := Option.bind_eq_some_iff.mp H
      obtain ⟨t215, A110, H⟩ := H
      replace H : (if t215 = 0 then (respelllaw07_RuleUnits.j0 k l1 t209 t212 ((l1.length : Int) == (l0_2.length : Int)) a0_0 l0_1 l0_2 l0_3 a0_4 l0_5 a0_6) else (respelllaw07_RuleUnits.j0 k l1 t209 t212 false a0_0 l0_1 l0_2 l0_3 a0_4 l0_5 a0_6)) = some r := H
      have A11 := Aside0.mk A110
      clear A110
      by_cases c12 : t215 = 0
      · rw [if_pos c12] at H
        have c12b0 : (t215 == 0) = true := beq_iff_eq.mpr c12
        have c12b1 : (t215 != 0) = false := bne_eq_false_iff_eq.mpr c12
        clear c12
        (first | rw [c12b0] | (simp only [i64_w, i32_w]; rw [c12b0]) | skip)
        have H' := Aside0.mk H
        clear H
        have hcz13_0 : w10.cell? ⟨gb207, 0, none⟩ = some (.bool a0_0) := (blk_cell BK207.out 0).trans rfl
        have hcz13_1 : w10.cell? ⟨gb207, 1, none⟩ = some (.slice A0_1 l0_1.length c0_1) := (blk_cell BK207.out 1).trans rfl
        have hcz13_2 : w10.cell? ⟨gb207, 2, none⟩ = some (.slice A0_2 l0_2.length c0_2) := (blk_cell BK207.out 2).trans rfl
        have hcz13_3 : w10.cell? ⟨gb207, 3, none⟩ = some (.slice A0_3 l0_3.length c0_3) := (blk_cell BK207.out 3).trans rfl
        have hcz13_4 : w10.cell? ⟨gb207, 4, none⟩ = some (.bool a0_4) := (blk_cell BK207.out 4).trans rfl
        have hcz13_5 : w10.cell? ⟨gb207, 5, none⟩ = some (.slice A0_5 l0_5.length c0_5) := (blk_cell BK207.out 5).trans rfl
        have hcz13_6 : w10.cell? ⟨gb207, 6, none⟩ = some (.int .i64 a0_6) := (blk_cell BK207.out 6).trans rfl
        have hfz13_0 := blk_frozen BK207.out 0
        have hfz13_1 := blk_frozen BK207.out 1
        have hfz13_2 := blk_frozen BK207.out 2
        have hfz13_3 := blk_frozen BK207.out 3
        have hfz13_4 := blk_frozen BK207.out 4
        have hfz13_5 := blk_frozen BK207.out 5
        have hfz13_6 := blk_frozen BK207.out 6
        go_wp2_with (first | ((with_reducible refine gate_callee (f := 18) rfl ?_); refine goesL_ (some 21) rfl rfl Try.func18 (by kernel_rfl) rfl #[.agg #[.bool a0_0, .slice A0_1 l0_1.length c0_1, .slice A0_2 l0_2.length c0_2, .slice A0_3 l0_3.length c0_3, .bool a0_4, .slice A0_5 l0_5.length c0_5, .int .i64 a0_6]] rfl (by (try simp only [List.map_toArray, List.map_cons, List.map_nil]); first | done | rfl | (simp only [List.length_drop, List.length_take]; rfl)) ?_; (with_reducible refine (rule_Check.calls k a0_0 (fun k_ => k_ < w.heap.size) _ _ l0_1 (fun k_ => k_ < w.heap.size) _ _ l0_2 (fun k_ => k_ < w.heap.size) _ _ l0_3 a0_4 _ _ l0_5 a0_6 t215 _ ?side1 ?side2 ?side3 ?side4 ?side5 A11.out).mono ?_); (case side1 => exact Kd.V_mk HC0_1.out (Kd.F_below (Kd.C_F (Kd.heap_slice 68 k68_heap) HR0_1.out) (by repeat (first | (with_reducible first | exact HB.out | apply below_alloc | apply pw_below_drewN | apply below_drew1 | refine below_set ?_ GE207.out) | exact HB.out)))); (case side2 => exact Kd.V_mk HC0_2.out (Kd.F_below (Kd.C_F (Kd.heap_slice 68 k68_heap) HR0_2.out) (by repeat (first | (with_reducible first | exact HB.out | apply below_alloc | apply pw_below_drewN | apply below_drew1 | refine below_set ?_ GE207.out) | exact HB.out)))); (case side3 => exact Kd.V_mk HC0_3.out (Kd.F_below (Kd.C_F (Kd.heap_slice 68 k68_heap) HR0_3.out) (by repeat (first | (with_reducible first | exact HB.out | apply below_alloc | apply pw_below_drewN | apply below_drew1 | refine below_set ?_ GE207.out) | exact HB.out)))); (case side4 => repeat (first | exact (Kd.C_below HR0_5.out HB.out) | exact HR0_5.out | (with_reducible refine Kd.C_alloc ?_ _) | (with_reducible refine Kd.C_drewN ?_ _) | (with_reducible refine Kd.C_drew ?_))); (case side5 => exact HC0_5.out); rintro e w14 ⟨rfl, hb⟩; refine ⟨_, rfl, ?_⟩; have n0_ := Aside0.mk (Kd.R_below (by (with_reducible repeat (first | apply Kd.R_alloc | apply Kd.R_drewN | apply Kd.R_drew)); exact HO211.out) hb); have n1_ := Aside0.mk (Kd.R_below (by (with_reducible repeat (first | apply Kd.R_alloc | apply Kd.R_drewN | apply Kd.R_drew)); exact HO214.out) hb); have n2_ := Aside0.mk (blk_below (g := gb207) (o := .cells #[.bool a0_0, .slice A0_1 l0_1.length c0_1, .slice A0_2 l0_2.length c0_2, .slice A0_3 l0_3.length c0_3, .bool a0_4, .slice A0_5 l0_5.length c0_5, .int .i64 a0_6] 25 (0, 0)) (by (with_reducible repeat (first | refine blk_drewN ?_ _ | refine blk_drew ?_ | refine blk_alloc ?_ _)); exact BK207.out) hb); have n3_ := Aside0.mk (below_step (by repeat (first | (with_reducible first | exact HB.out | apply below_alloc | apply pw_below_drewN | apply below_drew1 | refine below_set ?_ GE207.out) | exact HB.out)) hb); clear HO211; clear HO214; clear BK207; clear HB; have HO211 := n0_; have HO214 := n1_; have BK207 := n2_; have HB := n3_; clear n0_ n1_ n2_ n3_; (try clear hb); (try clear hb2); (try clear hk); (try clear hi); have hcz15_0 : w14.cell? ⟨gb207, 0, none⟩ = some (.bool a0_0) := (blk_cell BK207.out 0).trans rfl; have hcz15_1 : w14.cell? ⟨gb207, 1, none⟩ = some (.slice A0_1 l0_1.length c0_1) := (blk_cell BK207.out 1).trans rfl; have hcz15_2 : w14.cell? ⟨gb207, 2, none⟩ = some (.slice A0_2 l0_2.length c0_2) := (blk_cell BK207.out 2).trans rfl; have hcz15_3 : w14.cell? ⟨gb207, 3, none⟩ = some (.slice A0_3 l0_3.length c0_3) := (blk_cell BK207.out 3).trans rfl; have hcz15_4 : w14.cell? ⟨gb207, 4, none⟩ = some (.bool a0_4) := (blk_cell BK207.out 4).trans rfl; have hcz15_5 : w14.cell? ⟨gb207, 5, none⟩ = some (.slice A0_5 l0_5.length c0_5) := (blk_cell BK207.out 5).trans rfl; have hcz15_6 : w14.cell? ⟨gb207, 6, none⟩ = some (.int .i64 a0_6) := (blk_cell BK207.out 6).trans rfl; have hfz15_0 := blk_frozen BK207.out 0; have hfz15_1 := blk_frozen BK207.out 1; have hfz15_2 := blk_frozen BK207.out 2; have hfz15_3 := blk_frozen BK207.out 3; have hfz15_4 := blk_frozen BK207.out 4; have hfz15_5 := blk_frozen BK207.out 5; have hfz15_6 := blk_frozen BK207.out 6))
        go_meet
        case rel => exact ⟨_, (((l1.length : Int) == (l0_2.length : Int))), (by first | rfl | (simp; done) | (simp [*]; done)), H', ⟨by first | omega | exact Nat.le_refl _⟩, ⟨by (with_reducible repeat (first | apply Kd.R_alloc | apply Kd.R_drewN | apply Kd.R_drew)); exact HO211.out⟩, ⟨by (with_reducible repeat (first | apply Kd.R_alloc | apply Kd.R_drewN | apply Kd.R_drew)); exact HO214.out⟩, ⟨by (with_reducible repeat (first | refine blk_drewN ?_ _ | refine blk_drew ?_ | refine blk_alloc ?_ _)); exact BK207.out⟩, ⟨by repeat (first | (with_reducible first | exact HB.out | apply below_alloc | apply pw_below_drewN | apply below_drew1 | refine below_set ?_ GE207.out) | exact HB.out)⟩⟩
      · rw [if_neg c12] at H
        have c12b0 : (t215 == 0) = false := beq_eq_false_iff_ne.mpr c12
        have c12b1 : (t215 != 0) = true := bne_iff_ne.mpr c12
        (first | rw [c12b0] | (simp only [i64_w, i32_w]; rw [c12b0]) | skip)
        have H' := Aside0.mk H
        clear H
        have hcz16_0 : w10.cell? ⟨gb207, 0, none⟩ = some (.bool a0_0) := (blk_cell BK207.out 0).trans rfl
        have hcz16_1 : w10.cell? ⟨gb207, 1, none⟩ = some (.slice A0_1 l0_1.length c0_1) := (blk_cell BK207.out 1).trans rfl
        have hcz16_2 : w10.cell? ⟨gb207, 2, none⟩ = some (.slice A0_2 l0_2.length c0_2) := (blk_cell BK207.out 2).trans rfl
        have hcz16_3 : w10.cell? ⟨gb207, 3, none⟩ = some (.slice A0_3 l0_3.length c0_3) := (blk_cell BK207.out 3).trans rfl
        have hcz16_4 : w10.cell? ⟨gb207, 4, none⟩ = some (.bool a0_4) := (blk_cell BK207.out 4).trans rfl
        have hcz16_5 : w10.cell? ⟨gb207, 5, none⟩ = some (.slice A0_5 l0_5.length c0_5) := (blk_cell BK207.out 5).trans rfl
        have hcz16_6 : w10.cell? ⟨gb207, 6, none⟩ = some (.int .i64 a0_6) := (blk_cell BK207.out 6).trans rfl
        have hfz16_0 := blk_frozen BK207.out 0
        have hfz16_1 := blk_frozen BK207.out 1
        have hfz16_2 := blk_frozen BK207.out 2
        have hfz16_3 := blk_frozen BK207.out 3
        have hfz16_4 := blk_frozen BK207.out 4
        have hfz16_5 := blk_frozen BK207.out 5
        have hfz16_6 := blk_frozen BK207.out 6
        go_wp2_with (first | ((with_reducible refine gate_callee (f := 18) rfl ?_); refine goesL_ (some 21) rfl rfl Try.func18 (by kernel_rfl) rfl #[.agg #[.bool a0_0, .slice A0_1 l0_1.length c0_1, .slice A0_2 l0_2.length c0_2, .slice A0_3 l0_3.length c0_3, .bool a0_4, .slice A0_5 l0_5.length c0_5, .int .i64 a0_6]] rfl (by (try simp only [List.map_toArray, List.map_cons, List.map_nil]); first | done | rfl | (simp only [List.length_drop, List.length_take]; rfl)) ?_; (with_reducible refine (rule_Check.calls k a0_0 (fun k_ => k_ < w.heap.size) _ _ l0_1 (fun k_ => k_ < w.heap.size) _ _ l0_2 (fun k_ => k_ < w.heap.size) _ _ l0_3 a0_4 _ _ l0_5 a0_6 t215 _ ?side1 ?side2 ?side3 ?side4 ?side5 A11.out).mono ?_); (case side1 => exact Kd.V_mk HC0_1.out (Kd.F_below (Kd.C_F (Kd.heap_slice 68 k68_heap) HR0_1.out) (by repeat (first | (with_reducible first | exact HB.out | apply below_alloc | apply pw_below_drewN | apply below_drew1 | refine below_set ?_ GE207.out) | exact HB.out)))); (case side2 => exact Kd.V_mk HC0_2.out (Kd.F_below (Kd.C_F (Kd.heap_slice 68 k68_heap) HR0_2.out) (by repeat (first | (with_reducible first | exact HB.out | apply below_alloc | apply pw_below_drewN | apply below_drew1 | refine below_set ?_ GE207.out) | exact HB.out)))); (case side3 => exact Kd.V_mk HC0_3.out (Kd.F_below (Kd.C_F (Kd.heap_slice 68 k68_heap) HR0_3.out) (by repeat (first | (with_reducible first | exact HB.out | apply below_alloc | apply pw_below_drewN | apply below_drew1 | refine below_set ?_ GE207.out) | exact HB.out)))); (case side4 => repeat (first | exact (Kd.C_below HR0_5.out HB.out) | exact HR0_5.out | (with_reducible refine Kd.C_alloc ?_ _) | (with_reducible refine Kd.C_drewN ?_ _) | (with_reducible refine Kd.C_drew ?_))); (case side5 => exact HC0_5.out); rintro e w17 ⟨rfl, hb⟩; refine ⟨_, rfl, ?_⟩; have n0_ := Aside0.mk (Kd.R_below (by (with_reducible repeat (first | apply Kd.R_alloc | apply Kd.R_drewN | apply Kd.R_drew)); exact HO211.out) hb); have n1_ := Aside0.mk (Kd.R_below (by (with_reducible repeat (first | apply Kd.R_alloc | apply Kd.R_drewN | apply Kd.R_drew)); exact HO214.out) hb); have n2_ := Aside0.mk (blk_below (g := gb207) (o := .cells #[.bool a0_0, .slice A0_1 l0_1.length c0_1, .slice A0_2 l0_2.length c0_2, .slice A0_3 l0_3.length c0_3, .bool a0_4, .slice A0_5 l0_5.length c0_5, .int .i64 a0_6] 25 (0, 0)) (by (with_reducible repeat (first | refine blk_drewN ?_ _ | refine blk_drew ?_ | refine blk_alloc ?_ _)); exact BK207.out) hb); have n3_ := Aside0.mk (below_step (by repeat (first | (with_reducible first | exact HB.out | apply below_alloc | apply pw_below_drewN | apply below_drew1 | refine below_set ?_ GE207.out) | exact HB.out)) hb); clear HO211; clear HO214; clear BK207; clear HB; have HO211 := n0_; have HO214 := n1_; have BK207 := n2_; have HB := n3_; clear n0_ n1_ n2_ n3_; (try clear hb); (try clear hb2); (try clear hk); (try clear hi)))
        go_meet
        case rel => exact ⟨_, (false), (by first | rfl | (simp; done) | (simp [*]; done)), H', ⟨by first | omega | exact Nat.le_refl _⟩, ⟨by (with_reducible repeat (first | apply Kd.R_alloc | apply Kd.R_drewN | apply Kd.R_drew)); exact HO211.out⟩, ⟨by (with_reducible repeat (first | apply Kd.R_alloc | apply Kd.R_drewN | apply Kd.R_drew)); exact HO214.out⟩, ⟨by (with_reducible repeat (first | refine blk_drewN ?_ _ | refine blk_drew ?_ | refine blk_alloc ?_ _)); exact BK207.out⟩, ⟨by repeat (first | (with_reducible first | exact HB.out | apply below_alloc | apply pw_below_drewN | apply below_drew1 | refine below_set ?_ GE207.out) | exact HB.out)⟩⟩
    case rest =>
      clear HC6
      try clear c1
      try clear p2
      try clear c4
      try clear c12
      try clear c12b0
      try clear c12b1
      try clear c13
      try clear c17
      try clear hcz13_0
      try clear hcz13_1
      try clear hcz13_2
      try clear hcz13_3
      try clear hcz13_4
      try clear hcz13_5
      try clear hcz13_6
      try clear hcz15_0
      try clear hcz15_1
      try clear hcz15_2
      try clear hcz15_3
      try clear hcz15_4
      try clear hcz15_5
      try clear hcz15_6
      try clear hcz16_0
      try clear hcz16_1
      try clear hcz16_2
      try clear hcz16_3
      try clear hcz16_4
      try clear hcz16_5
      try clear hcz16_6
      try clear hcz9_0
      try clear hcz9_1
      try clear hcz9_2
      try clear hcz9_3
      try clear hcz9_4
      try clear hcz9_5
      try clear hcz9_6
      try clear hfz13_0
      try clear hfz13_1
      try clear hfz13_2
      try clear hfz13_3
      try clear hfz13_4
      try clear hfz13_5
      try clear hfz13_6
      try clear hfz15_0
      try clear hfz15_1
      try clear hfz15_2
      try clear hfz15_3
      try clear hfz15_4
      try clear hfz15_5
      try clear hfz15_6
      try clear hfz16_0
      try clear hfz16_1
      try clear hfz16_2
      try clear hfz16_3
      try clear hfz16_4
      try clear hfz16_5
      try clear hfz16_6
      try clear hfz9_0
      try clear hfz9_1
      try clear hfz9_2
      try clear hfz9_3
      try clear hfz9_4
      try clear hfz9_5
      try clear hfz9_6
      obtain ⟨kq, x7_5, rfl, HA, HJ5, HO_5, HO_6, BK207, HB⟩ := hcut
      cases kq with
      | zero => exact absurd HA.out (by simp [respelllaw07_RuleUnits.j0])
      | succ kj5 =>
        have H := HA.out
        clear HA
        simp only [respelllaw07_RuleUnits.j0] at H
        have HC18 := Aside0.mk H
        clear H
        go_upto_block 0 with (fail)
        go_cut [7] (fun v7 wc => ∃ (kq : Nat) (x7_17 : Bool), v7 = .bool x7_17 ∧ Aside0 (respelllaw07_RuleUnits.j2 kq l1 t209 t212 x7_17 a0_0 l0_1 l0_2 l0_3 a0_4 l0_5 a0_6 = some r) ∧ Aside0 (kq ≤ kj5) ∧ Aside0 (Kd.R (Kd.int .i64) 3 wc w.heap.size (fun k_ => some k_ ≠ (v213 : Value).ownBlock) v210 t209) ∧ Aside0 (Kd.R (Kd.int .i64) 3 wc w.heap.size (fun k_ => some k_ ≠ (v210 : Value).ownBlock) v213 t212) ∧ Aside0 (wc.heap[gb207]? = some (.cells #[.bool a0_0, (.slice A0_1 l0_1.length c0_1), (.slice A0_2 l0_2.length c0_2), (.slice A0_3 l0_3.length c0_3), .bool a0_4, (.slice A0_5 l0_5.length c0_5), .int .i64 a0_6] 25 (0, 0))) ∧ Aside0 (Below w.heap.size w wc))
        case first =>
          have H := HC18.out
          clear HC18
          have H' := Aside0.mk H
          clear H
          go_wp2
          go_loopg [7, 8] kj5 (fun kq v7 v8 w' => ∃ (x7_2 : Bool) (x8_2 : Int), v7 = .bool x7_2 ∧ v8 = .int .i64 x8_2 ∧ Aside0 (respelllaw07_RuleUnits.l0 kq l1 t209 t212 x7_2 x8_2 a0_0 l0_1 l0_2 l0_3 a0_4 l0_5 a0_6 = some r) ∧ Aside0 (kq ≤ kj5) ∧ Aside0 (Kd.R (Kd.int .i64) 3 w' w.heap.size (fun k_ => some k_ ≠ (v213 : Value).ownBlock) v210 t209) ∧ Aside0 (Kd.R (Kd.int .i64) 3 w' w.heap.size (fun k_ => some k_ ≠ (v210 : Value).ownBlock) v213 t212) ∧ Aside0 (w'.heap[gb207]? = some (.cells #[.bool a0_0, (.slice A0_1 l0_1.length c0_1), (.slice A0_2 l0_2.length c0_2), (.slice A0_3 l0_3.length c0_3), .bool a0_4, (.slice A0_5 l0_5.length c0_5), .int .i64 a0_6] 25 (0, 0))) ∧ Aside0 (Below w.heap.size w w'))
          case atStart => exact ⟨(x7_5), (0), (by first | rfl | (simp; done) | (simp [*]; done)), (by first | rfl | (simp; done) | (simp [*]; done)), H', ⟨Nat.le_refl _⟩, ⟨by (with_reducible repeat (first | apply Kd.R_alloc | apply Kd.R_drewN | apply Kd.R_drew)); exact HO_5.out⟩, ⟨by (with_reducible repeat (first | apply Kd.R_alloc | apply Kd.R_drewN | apply Kd.R_drew)); exact HO_6.out⟩, ⟨by (with_reducible repeat (first | refine blk_drewN ?_ _ | refine blk_drew ?_ | refine blk_alloc ?_ _)); exact BK207.out⟩, ⟨by repeat (first | (with_reducible first | exact HB.out | apply below_alloc | apply pw_below_drewN | apply below_drew1 | refine below_set ?_ GE207.out) | exact HB.out)⟩⟩
          case round =>
            clear H'
            try clear c1
            try clear p2
            try clear c4
            try clear c12
            try clear c12b0
            try clear c12b1
            try clear c13
            try clear c17
            try clear c18
            try clear hcz13_0
            try clear hcz13_1
            try clear hcz13_2
            try clear hcz13_3
            try clear hcz13_4
            try clear hcz13_5
            try clear hcz13_6
            try clear hcz15_0
            try clear hcz15_1
            try clear hcz15_2
            try clear hcz15_3
            try clear hcz15_4
            try clear hcz15_5
            try clear hcz15_6
            try clear hcz16_0
            try clear hcz16_1
            try clear hcz16_2
            try clear hcz16_3
            try clear hcz16_4
            try clear hcz16_5
            try clear hcz16_6
            try clear hcz9_0
            try clear hcz9_1
            try clear hcz9_2
            try clear hcz9_3
            try clear hcz9_4
            try clear hcz9_5
            try clear hcz9_6
            try clear hfz13_0
            try clear hfz13_1
            try clear hfz13_2
            try clear hfz13_3
            try clear hfz13_4
            try clear hfz13_5
            try clear hfz13_6
            try clear hfz15_0
            try clear hfz15_1
            try clear hfz15_2
            try clear hfz15_3
            try clear hfz15_4
            try clear hfz15_5
            try clear hfz15_6
            try clear hfz16_0
            try clear hfz16_1
            try clear hfz16_2
            try clear hfz16_3
            try clear hfz16_4
            try clear hfz16_5
            try clear hfz16_6
            try clear hfz9_0
            try clear hfz9_1
            try clear hfz9_2
            try clear hfz9_3
            try clear hfz9_4
            try clear hfz9_5
            try clear hfz9_6
            try clear p2
            obtain ⟨x7_2, x8_2, rfl, rfl, HA, HK2, HO_5, HO_6, BK207, HB⟩ := hrel
            cases gk with
            | zero => exact absurd HA.out (by simp [respelllaw07_RuleUnits.l0])
            | succ k2 =>
              have H := HA.out
              clear HA
              simp only [respelllaw07_RuleUnits.l0] at H
              by_cases c19 : x8_2 < (l1.length : Int)
              · rw [if_pos c19] at H
                have c19b0 : decide (x8_2 < (l1.length : Int)) = true := decide_eq_true c19
                clear c19
                (first | rw [c19b0] | (simp only [i64_w, i32_w]; rw [c19b0]) | skip)
                by_cases c20 : x7_2 = true
                · subst c20
                  have H1 : (if 0 ≤ x8_2 then (if x8_2 < (l0_2.length : Int) then ((set_Has.f k2 (rd_L2 l0_2 x8_2) (rd l1 x8_2)).bind fun t218 => (respelllaw07_RuleUnits.l0 k2 l1 t209 t212 t218 (wrap64 (x8_2 + 1)) a0_0 l0_1 l0_2 l0_3 a0_4 l0_5 a0_6)) else (none)) else (none)) = some r := by rw [if_pos rfl] at H; exact H
                  clear H
                  have H := H1
                  clear H1
                  by_cases c21 : 0 ≤ x8_2
                  · rw [if_pos c21] at H
                    have c21b0 : decide (0 ≤ x8_2) = true := decide_eq_true c21
                    clear c21
                    by_cases c22 : x8_2 < (l0_2.length : Int)
                    · rw [if_pos c22] at H
                      have c22b0 : decide (x8_2 < (l0_2.length : Int)) = true := decide_eq_true c22
                      clear c22
                      replace H := Option.bind_eq_some_iff.mp H
                      obtain ⟨t218, A230, H⟩ := H
                      replace H : (respelllaw07_RuleUnits.l0 k2 l1 t209 t212 t218 (wrap64 (x8_2 + 1)) a0_0 l0_1 l0_2 l0_3 a0_4 l0_5 a0_6) = some r := H
                      have A23 := Aside0.mk A230
                      clear A230
                      have H' := Aside0.mk H
                      clear H
                      try go_wp2
                      have n0_ := Aside0.mk (Kd.R_drew HO_5.out)
                      have n1_ := Aside0.mk (Kd.R_drew HO_6.out)
                      have n2_ := Aside0.mk (blk_drew BK207.out)
                      have n3_ := Aside0.mk (below_drew1 HB.out)
                      clear HO_5
                      clear HO_6
                      clear BK207
                      clear HB
                      have HO_5 := n0_
                      have HO_6 := n1_
                      have BK207 := n2_
                      have HB := n3_
                      clear n0_ n1_ n2_ n3_
                      have p216 : 0 ≤ (x8_2 : Int) := of_decide_eq_true (by first | (with_reducible assumption) | assumption)
                      have q216 : x8_2 < (l0_2.length : Int) := of_decide_eq_true (by first | (with_reducible assumption) | assumption)
                      obtain ⟨ad216, A216_0, c216_0, e216, hx216_0, hl216_0, hi216_0⟩ := at_L2 HR0_2.out x8_2 p216 q216
                      have hw216_0 := hx216_0
                      cases e216
                      try replace hx216_0 := (HB.out.cell (World.block_lt_of_cell? w _ hx216_0)).trans hx216_0
                      have HR216_0 := Aside0.mk hi216_0
                      have HC216_0 := Aside0.mk hl216_0
                      clear hi216_0 hl216_0
                      replace p216 := eq_true p216
                      replace q216 := eq_true q216
                      have p217 : 0 ≤ (x8_2 : Int) := of_decide_eq_true (by first | (with_reducible assumption) | assumption)
                      have q217 : x8_2 < (l1.length : Int) := of_decide_eq_true (by first | (with_reducible assumption) | assumption)
                      obtain ⟨ad217, e217, hx217_0⟩ := Kd.at_int HR1.out x8_2 p217 q217
                      have hw217_0 := hx217_0
                      cases e217
                      try replace hx217_0 := (HB.out.cell (World.block_lt_of_cell? w _ hx217_0)).trans hx217_0
                      replace p217 := eq_true p217
                      replace q217 := eq_true q217
                      refine start_ (n := 11) (S := fun w' => w'.cell? ⟨gb207, 0, none⟩ = some (.bool a0_0) ∧ w'.cell? ⟨gb207, 1, none⟩ = some (.slice A0_1 l0_1.length c0_1) ∧ w'.cell? ⟨gb207, 2, none⟩ = some (.slice (some ad216) l0_2.length c0_2) ∧ w'.cell? ⟨gb207, 3, none⟩ = some (.slice A0_3 l0_3.length c0_3) ∧ w'.cell? ⟨gb207, 4, none⟩ = some (.bool a0_4) ∧ w'.cell? ⟨gb207, 5, none⟩ = some (.slice A0_5 l0_5.length c0_5) ∧ w'.cell? ⟨gb207, 6, none⟩ = some (.int .i64 a0_6) ∧ w'.cell? (ad216.add (x8_2).toNat) = some (.slice A216_0 (rd_L2 l0_2 x8_2).length c216_0) ∧ w'.cell? (ad217.add (x8_2).toNat) = some (.int .i64 (rd l1 x8_2))) (ds := []) #[false, false, false, false, false, false, false, false, false, false, false] (by kernel_rfl) rfl rfl ⟨(blk_cell BK207.out 0).trans rfl, (blk_cell BK207.out 1).trans rfl, (blk_cell BK207.out 2).trans rfl, (blk_cell BK207.out 3).trans rfl, (blk_cell BK207.out 4).trans rfl, (blk_cell BK207.out 5).trans rfl, (blk_cell BK207.out 6).trans rfl, ((HB.out.cell (World.block_lt_of_cell? w _ hw216_0)).trans hw216_0), ((HB.out.cell (World.block_lt_of_cell? w _ hw217_0)).trans hw217_0)⟩ (fun hHeld => ?_); refine with_tabW respelllaw07_RuleUnits.tab8 respelllaw07_RuleUnits.bits8 (fun HT_ HW_ => ?_)
                      generalize wr.drew = w24 at HO_5 HO_6 BK207 HB HR216_0 hx216_0 hx217_0 hHeld ⊢
                      refine pure_ (i := 0) (N := some 40) (v := ?_) (a' := ?_) #[true, false, false, false, false, false, false, false, false, false, false] rfl rfl (any_of HT_.out (by kernel_rfl)) (fun _ _ _ h => h) (Or.inl ⟨by rfl, ?_⟩) ?_ ?_
                      rotate_left
                      · intro w'
                        go_simp
                        with_reducible rfl
                      rotate_left
                      · simp only [Act.put, List.setIfInBounds_toArray, List.set_cons_zero, List.set_cons_succ, i64_w, i32_w]
                        rfl
                      refine pure_ (i := 2) (N := some 42) (v := ?_) (a' := ?_) #[true, false, true, false, false, false, false, false, false, false, false] rfl rfl (any_of HT_.out (by kernel_rfl)) (fun _ _ _ h => h) (Or.inl ⟨by rfl, ?_⟩) ?_ ?_
                      rotate_left
                      · intro w'
                        go_simp
                        with_reducible rfl
                      rotate_left
                      · simp only [Act.put, List.setIfInBounds_toArray, List.set_cons_zero, List.set_cons_succ, i64_w, i32_w]
                        rfl
                      refine pure_ (i := 5) (N := some 45) (v := ?_) (a' := ?_) #[true, false, true, false, false, true, false, false, false, false, false] rfl rfl (any_of HT_.out (by kernel_rfl)) (fun _ _ _ h => h) (Or.inl ⟨by rfl, ?_⟩) ?_ ?_
                      rotate_left
                      · intro w'
                        go_simp
                        with_reducible rfl
                      rotate_left
                      · simp only [Act.put, List.setIfInBounds_toArray, List.set_cons_zero, List.set_cons_succ, i64_w, i32_w]
                        rfl
                      refine pure_ (i := 6) (N := some 46) (v := ?_) (a' := ?_) #[true, false, true, false, false, true, true, false, false, false, false] rfl rfl (any_of HT_.out (by kernel_rfl)) (fun _ _ _ h => h) (Or.inl ⟨by rfl, ?_⟩) ?_ ?_
                      rotate_left
                      · intro w'
                        go_simp
                        with_reducible rfl
                      rotate_left
                      · simp only [Act.put, List.setIfInBounds_toArray, List.set_cons_zero, List.set_cons_succ, i64_w, i32_w]
                        rfl
                      refine pure_ (i := 7) (N := some 47) (v := ?_) (a' := ?_) #[true, false, true, false, false, true, true, true, false, false, false] rfl rfl (any_of HT_.out (by kernel_rfl)) (fun _ _ _ h => h) (Or.inl ⟨by rfl, ?_⟩) ?_ ?_
                      rotate_left
                      · intro w'
                        go_simp
                        with_reducible rfl
                      rotate_left
                      · simp only [Act.put, List.setIfInBounds_toArray, List.set_cons_zero, List.set_cons_succ, i64_w, i32_w]
                        rfl
                      refine take_ (i := 1) (N := some 41) (v := ?_) (a' := ?_) #[true, true, true, false, false, true, true, true, false, false, false] rfl rfl (take_ofW HT_.out HW_.out (by kernel_rfl)) (fun _ _ _ h => h) (Or.inl ⟨by rfl, ?_⟩) hHeld ?_ ?_
                      rotate_left
                      · rintro w' ⟨s0, s1, s2, s3, s4, s5, s6, s7, s8⟩
                        go_simp
                        with_reducible rfl
                      rotate_left
                      · simp only [Act.put, List.setIfInBounds_toArray, List.set_cons_zero, List.set_cons_succ, i64_w, i32_w]
                        rfl
                      refine pure_ (i := 3) (N := some 43) (v := ?_) (a' := ?_) #[true, true, true, true, false, true, true, true, false, false, false] rfl rfl (any_of HT_.out (by kernel_rfl)) (fun _ _ _ h => h) (Or.inl ⟨by rfl, ?_⟩) ?_ ?_
                      rotate_left
                      · intro w'
                        go_simp
                        with_reducible rfl
                      rotate_left
                      · simp only [Act.put, List.setIfInBounds_toArray, List.set_cons_zero, List.set_cons_succ, i64_w, i32_w]
                        rfl
                      refine take_ (i := 4) (N := some 44) (v := ?_) (a' := ?_) #[true, true, true, true, true, true, true, true, false, false, false] rfl rfl (take_ofW HT_.out HW_.out (by kernel_rfl)) (fun _ _ _ h => h) (Or.inl ⟨by rfl, ?_⟩) hHeld ?_ ?_
                      rotate_left
                      · rintro w' ⟨s0, s1, s2, s3, s4, s5, s6, s7, s8⟩
                        go_simp
                        with_reducible rfl
                      rotate_left
                      · simp only [Act.put, List.setIfInBounds_toArray, List.set_cons_zero, List.set_cons_succ, i64_w, i32_w]
                        rfl
                      refine take_ (i := 8) (N := some 48) (v := ?_) (a' := ?_) #[true, true, true, true, true, true, true, true, true, false, false] rfl rfl (take_ofW HT_.out HW_.out (by kernel_rfl)) (fun _ _ _ h => h) (Or.inl ⟨by rfl, ?_⟩) hHeld ?_ ?_
                      rotate_left
                      · rintro w' ⟨s0, s1, s2, s3, s4, s5, s6, s7, s8⟩
                        go_simp
                        with_reducible rfl
                      rotate_left
                      · simp only [Act.put, List.setIfInBounds_toArray, List.set_cons_zero, List.set_cons_succ, i64_w, i32_w]
                        rfl
                      refine one_ (i := 9) (N := some 49) #[true, true, true, true, true, true, true, true, true, true, false] rfl rfl (one_of HT_.out (by kernel_rfl)) (by decide) (fun K hK => ?_)
                      refine goes_ Try.func19 (by kernel_rfl) rfl #[.slice A216_0 (rd_L2 l0_2 x8_2).length c216_0, .int .i64 (rd l1 x8_2)] (by rfl) rfl rfl (by (try simp only [List.map_toArray, List.map_cons, List.map_nil]); first | done | rfl | (simp only [List.length_drop, List.length_take]; rfl)) ?_
                      with_reducible refine (set_Has.calls k2 _ _ (rd_L2 l0_2 x8_2) (rd l1 x8_2) t218 _ ?side1 ?side2 A23.out).mono ?_
                      (case side1 => repeat (first | exact (Kd.C_below HR216_0.out HB.out) | exact HR216_0.out | (with_reducible refine Kd.C_alloc ?_ _) | (with_reducible refine Kd.C_drewN ?_ _) | (with_reducible refine Kd.C_drew ?_)))
                      (case side2 => exact HC216_0.out)
                      rintro e w25 ⟨rfl, hb⟩
                      refine ⟨_, rfl, ?_⟩
                      have n0_ := Aside0.mk (Kd.R_below (by (with_reducible repeat (first | apply Kd.R_alloc | apply Kd.R_drewN | apply Kd.R_drew)); exact HO_5.out) hb)
                      have n1_ := Aside0.mk (Kd.R_below (by (with_reducible repeat (first | apply Kd.R_alloc | apply Kd.R_drewN | apply Kd.R_drew)); exact HO_6.out) hb)
                      have n2_ := Aside0.mk (blk_below (g := gb207) (o := .cells #[.bool a0_0, .slice A0_1 l0_1.length c0_1, .slice (some ad216) l0_2.length c0_2, .slice A0_3 l0_3.length c0_3, .bool a0_4, .slice A0_5 l0_5.length c0_5, .int .i64 a0_6] 25 (0, 0)) (by (with_reducible repeat (first | refine blk_drewN ?_ _ | refine blk_drew ?_ | refine blk_alloc ?_ _)); exact BK207.out) hb)
                      have n3_ := Aside0.mk (below_step (by repeat (first | (with_reducible first | exact HB.out | apply below_alloc | apply pw_below_drewN | apply below_drew1 | refine below_set ?_ GE207.out) | exact HB.out)) hb)
                      clear HO_5
                      clear HO_6
                      clear BK207
                      clear HB
                      have HO_5 := n0_
                      have HO_6 := n1_
                      have BK207 := n2_
                      have HB := n3_
                      clear n0_ n1_ n2_ n3_
                      (try clear hb)
                      (try clear hb2)
                      (try clear hk)
                      (try clear hi)
                      refine hK.out _ _ ⟨(blk_cell BK207.out 0).trans rfl, (blk_cell BK207.out 1).trans rfl, (blk_cell BK207.out 2).trans rfl, (blk_cell BK207.out 3).trans rfl, (blk_cell BK207.out 4).trans rfl, (blk_cell BK207.out 5).trans rfl, (blk_cell BK207.out 6).trans rfl, ((HB.out.cell (World.block_lt_of_cell? w _ hw216_0)).trans hw216_0), ((HB.out.cell (World.block_lt_of_cell? w _ hw217_0)).trans hw217_0)⟩ (fun hHeld => ?_)
                      clear hK K
                      refine norm_ (a' := ?_) ?_ ?_
                      rotate_left
                      · show Act.put _ (some 49) _ = _
                        simp only [Act.put, List.setIfInBounds_toArray, List.set_cons_zero, List.set_cons_succ, i64_w, i32_w]
                        rfl
                      refine pure_ (i := 10) (N := some 7) (v := ?_) (a' := ?_) #[true, true, true, true, true, true, true, true, true, true, true] rfl rfl (any_of HT_.out (by kernel_rfl)) (fun _ _ _ h => h) (Or.inl ⟨by rfl, ?_⟩) ?_ ?_
                      rotate_left
                      · intro w'
                        go_simp
                        with_reducible rfl
                      rotate_left
                      · simp only [Act.put, List.setIfInBounds_toArray, List.set_cons_zero, List.set_cons_succ, i64_w, i32_w]
                        rfl
                      refine done_ (done_of HT_.out (by kernel_rfl)) ?_
                      try go_wp2
                      go_roundg k2
                      case measure => have := HJ5.out; have := HK2.out; omega
                      case rel => exact ⟨(t218), (wrap64 (x8_2 + 1)), (by first | rfl | (simp; done) | (simp [*]; done)), (by first | rfl | (simp; done) | (simp [*]; done)), H', ⟨by have := HJ5.out; have := HK2.out; omega⟩, ⟨by (with_reducible repeat (first | apply Kd.R_alloc | apply Kd.R_drewN | apply Kd.R_drew)); exact HO_5.out⟩, ⟨by (with_reducible repeat (first | apply Kd.R_alloc | apply Kd.R_drewN | apply Kd.R_drew)); exact HO_6.out⟩, ⟨by (with_reducible repeat (first | refine blk_drewN ?_ _ | refine blk_drew ?_ | refine blk_alloc ?_ _)); exact BK207.out⟩, ⟨by repeat (first | (with_reducible first | exact HB.out | apply below_alloc | apply pw_below_drewN | apply below_drew1 | refine below_set ?_ GE207.out) | exact HB.out)⟩⟩
                    · rw [if_neg c22] at H
                      exact absurd H (by simp)
                  · rw [if_neg c21] at H
                    exact absurd H (by simp)
                · replace c20 := Bool.eq_false_iff.mpr c20
                  subst c20
                  have H1 : (respelllaw07_RuleUnits.j2 k2 l1 t209 t212 false a0_0 l0_1 l0_2 l0_3 a0_4 l0_5 a0_6) = some r := by rw [if_neg (show ¬ (false = true) by decide)] at H; exact H
                  clear H
                  have H := H1
                  clear H1
                  have H' := Aside0.mk H
                  clear H
                  go_wp2
                  go_meet
                  case rel => exact ⟨_, (false), (by first | rfl | (simp; done) | (simp [*]; done)), H', ⟨by have := HJ5.out; have := HK2.out; first | omega | exact Nat.le_refl _⟩, ⟨by (with_reducible repeat (first | apply Kd.R_alloc | apply Kd.R_drewN | apply Kd.R_drew)); exact HO_5.out⟩, ⟨by (with_reducible repeat (first | apply Kd.R_alloc | apply Kd.R_drewN | apply Kd.R_drew)); exact HO_6.out⟩, ⟨by (with_reducible repeat (first | refine blk_drewN ?_ _ | refine blk_drew ?_ | refine blk_alloc ?_ _)); exact BK207.out⟩, ⟨by repeat (first | (with_reducible first | exact HB.out | apply below_alloc | apply pw_below_drewN | apply below_drew1 | refine below_set ?_ GE207.out) | exact HB.out)⟩⟩
              · rw [if_neg c19] at H
                have c19b0 : decide (x8_2 < (l1.length : Int)) = false := decide_eq_false c19
                clear c19
                (first | rw [c19b0] | (simp only [i64_w, i32_w]; rw [c19b0]) | skip)
                have H' := Aside0.mk H
                clear H
                go_wp2
                go_meet
                case rel => exact ⟨_, (x7_2), (by first | rfl | (simp; done) | (simp [*]; done)), H', ⟨by have := HJ5.out; have := HK2.out; first | omega | exact Nat.le_refl _⟩, ⟨by (with_reducible repeat (first | apply Kd.R_alloc | apply Kd.R_drewN | apply Kd.R_drew)); exact HO_5.out⟩, ⟨by (with_reducible repeat (first | apply Kd.R_alloc | apply Kd.R_drewN | apply Kd.R_drew)); exact HO_6.out⟩, ⟨by (with_reducible repeat (first | refine blk_drewN ?_ _ | refine blk_drew ?_ | refine blk_alloc ?_ _)); exact BK207.out⟩, ⟨by repeat (first | (with_reducible first | exact HB.out | apply below_alloc | apply pw_below_drewN | apply below_drew1 | refine below_set ?_ GE207.out) | exact HB.out)⟩⟩
        case rest =>
          clear HC18
          try clear c1
          try clear c2
          try clear p2
          try clear q2
          try clear hx2
          try clear c4
          try clear p6
          try clear c12
          try clear c12b0
          try clear c12b1
          try clear c13
          try clear c17
          try clear c18
          try clear c19
          try clear c19b0
          try clear c20
          try clear c21
          try clear c21b0
          try clear p21
          try clear q21
          try clear hx21
          try clear c22
          try clear c22b0
          try clear hcz13_0
          try clear hcz13_1
          try clear hcz13_2
          try clear hcz13_3
          try clear hcz13_4
          try clear hcz13_5
          try clear hcz13_6
          try clear hcz15_0
          try clear hcz15_1
          try clear hcz15_2
          try clear hcz15_3
          try clear hcz15_4
          try clear hcz15_5
          try clear hcz15_6
          try clear hcz16_0
          try clear hcz16_1
          try clear hcz16_2
          try clear hcz16_3
          try clear hcz16_4
          try clear hcz16_5
          try clear hcz16_6
          try clear hcz9_0
          try clear hcz9_1
          try clear hcz9_2
          try clear hcz9_3
          try clear hcz9_4
          try clear hcz9_5
          try clear hcz9_6
          try clear hfz13_0
          try clear hfz13_1
          try clear hfz13_2
          try clear hfz13_3
          try clear hfz13_4
          try clear hfz13_5
          try clear hfz13_6
          try clear hfz15_0
          try clear hfz15_1
          try clear hfz15_2
          try clear hfz15_3
          try clear hfz15_4
          try clear hfz15_5
          try clear hfz15_6
          try clear hfz16_0
          try clear hfz16_1
          try clear hfz16_2
          try clear hfz16_3
          try clear hfz16_4
          try clear hfz16_5
          try clear hfz16_6
          try clear hfz9_0
          try clear hfz9_1
          try clear hfz9_2
          try clear hfz9_3
          try clear hfz9_4
          try clear hfz9_5
          try clear hfz9_6
          try clear hx216_0
          try clear hx217_0
          try clear p2
          try clear p216
          try clear p217
          try clear q216
          try clear q217
          obtain ⟨kq, x7_17, rfl, HA, HJ17, HO_5, HO_6, BK207, HB⟩ := hcut
          cases kq with
          | zero => exact absurd HA.out (by simp [respelllaw07_RuleUnits.j2])
          | succ kj17 =>
            have H := HA.out
            clear HA
            simp only [respelllaw07_RuleUnits.j2] at H
            by_cases c26 : x7_17 = true
            · subst c26
              have H1 : (if (t209.length : Int) = a0_6 then (respelllaw07_RuleUnits.j3 kj17 l1 t209 t212 ((wrap64 ((t209.length : Int) + (t212.length : Int))) != (l0_5.length : Int)) a0_0 l0_1 l0_2 l0_3 a0_4 l0_5 a0_6) else (respelllaw07_RuleUnits.j3 kj17 l1 t209 t212 true a0_0 l0_1 l0_2 l0_3 a0_4 l0_5 a0_6)) = some r := by rw [if_pos rfl] at H; exact H
              clear H
              have H := H1
              clear H1
              have HC27 := Aside0.mk H
              clear H
              go_upto_region 11 with (fail)
              go_cut [75] (fun v75 wc => ∃ (kq : Nat) (x75_26 : Bool), v75 = .bool x75_26 ∧ Aside0 (respelllaw07_RuleUnits.j3 kq l1 t209 t212 x75_26 a0_0 l0_1 l0_2 l0_3 a0_4 l0_5 a0_6 = some r) ∧ Aside0 (kq ≤ kj17) ∧ Aside0 (Kd.R (Kd.int .i64) 3 wc w.heap.size (fun k_ => some k_ ≠ (v213 : Value).ownBlock) v210 t209) ∧ Aside0 (Kd.R (Kd.int .i64) 3 wc w.heap.size (fun k_ => some k_ ≠ (v210 : Value).ownBlock) v213 t212) ∧ Aside0 (wc.heap[gb207]? = some (.cells #[.bool a0_0, (.slice A0_1 l0_1.length c0_1), (.slice A0_2 l0_2.length c0_2), (.slice A0_3 l0_3.length c0_3), .bool a0_4, (.slice A0_5 l0_5.length c0_5), .int .i64 a0_6] 25 (0, 0))) ∧ Aside0 (Below w.heap.size w wc))
              case first =>
                have H := HC27.out
                clear HC27
                by_cases c28 : (t209.length : Int) = a0_6
                · rw [if_pos c28] at H
                  have c28b0 : ((t209.length : Int) == a0_6) = true := beq_iff_eq.mpr c28
                  have c28b1 : ((t209.length : Int) != a0_6) = false := bne_eq_false_iff_eq.mpr c28
                  clear c28
                  (first | rw [c28b0] | (simp only [i64_w, i32_w]; rw [c28b0]) | skip)
                  have H' := Aside0.mk H
                  clear H
                  obtain ⟨Ao29, co29, eo29⟩ := Kd.R_slice HO_5.out
                  subst eo29
                  have hcz30_0 : wc.cell? ⟨gb207, 0, none⟩ = some (.bool a0_0) := (blk_cell BK207.out 0).trans rfl
                  have hcz30_1 : wc.cell? ⟨gb207, 1, none⟩ = some (.slice A0_1 l0_1.length c0_1) := (blk_cell BK207.out 1).trans rfl
                  have hcz30_2 : wc.cell? ⟨gb207, 2, none⟩ = some (.slice A0_2 l0_2.length c0_2) := (blk_cell BK207.out 2).trans rfl
                  have hcz30_3 : wc.cell? ⟨gb207, 3, none⟩ = some (.slice A0_3 l0_3.length c0_3) := (blk_cell BK207.out 3).trans rfl
                  have hcz30_4 : wc.cell? ⟨gb207, 4, none⟩ = some (.bool a0_4) := (blk_cell BK207.out 4).trans rfl
                  have hcz30_5 : wc.cell? ⟨gb207, 5, none⟩ = some (.slice A0_5 l0_5.length c0_5) := (blk_cell BK207.out 5).trans rfl
                  have hcz30_6 : wc.cell? ⟨gb207, 6, none⟩ = some (.int .i64 a0_6) := (blk_cell BK207.out 6).trans rfl
                  have hfz30_0 := blk_frozen BK207.out 0
                  have hfz30_1 := blk_frozen BK207.out 1
                  have hfz30_2 := blk_frozen BK207.out 2
                  have hfz30_3 := blk_frozen BK207.out 3
                  have hfz30_4 := blk_frozen BK207.out 4
                  have hfz30_5 := blk_frozen BK207.out 5
                  have hfz30_6 := blk_frozen BK207.out 6
                  obtain ⟨Ao31, co31, eo31⟩ := Kd.R_slice HO_6.out
                  subst eo31
                  go_wp2
                  go_meet
                  case rel => exact ⟨_, (((wrap64 ((t209.length : Int) + (t212.length : Int))) != (l0_5.length : Int))), (by first | rfl | (simp; done) | (simp [*]; done)), H', ⟨by have := HJ5.out; have := HJ17.out; first | omega | exact Nat.le_refl _⟩, ⟨by (with_reducible repeat (first | apply Kd.R_alloc | apply Kd.R_drewN | apply Kd.R_drew)); exact HO_5.out⟩, ⟨by (with_reducible repeat (first | apply Kd.R_alloc | apply Kd.R_drewN | apply Kd.R_drew)); exact HO_6.out⟩, ⟨by (with_reducible repeat (first | refine blk_drewN ?_ _ | refine blk_drew ?_ | refine blk_alloc ?_ _)); exact BK207.out⟩, ⟨by repeat (first | (with_reducible first | exact HB.out | apply below_alloc | apply pw_below_drewN | apply below_drew1 | refine below_set ?_ GE207.out) | exact HB.out)⟩⟩
                · rw [if_neg c28] at H
                  have c28b0 : ((t209.length : Int) == a0_6) = false := beq_eq_false_iff_ne.mpr c28
                  have c28b1 : ((t209.length : Int) != a0_6) = true := bne_iff_ne.mpr c28
                  (first | rw [c28b0] | (simp only [i64_w, i32_w]; rw [c28b0]) | skip)
                  have H' := Aside0.mk H
                  clear H
                  obtain ⟨Ao32, co32, eo32⟩ := Kd.R_slice HO_5.out
                  subst eo32
                  have hcz33_0 : wc.cell? ⟨gb207, 0, none⟩ = some (.bool a0_0) := (blk_cell BK207.out 0).trans rfl
                  have hcz33_1 : wc.cell? ⟨gb207, 1, none⟩ = some (.slice A0_1 l0_1.length c0_1) := (blk_cell BK207.out 1).trans rfl
                  have hcz33_2 : wc.cell? ⟨gb207, 2, none⟩ = some (.slice A0_2 l0_2.length c0_2) := (blk_cell BK207.out 2).trans rfl
                  have hcz33_3 : wc.cell? ⟨gb207, 3, none⟩ = some (.slice A0_3 l0_3.length c0_3) := (blk_cell BK207.out 3).trans rfl
                  have hcz33_4 : wc.cell? ⟨gb207, 4, none⟩ = some (.bool a0_4) := (blk_cell BK207.out 4).trans rfl
                  have hcz33_5 : wc.cell? ⟨gb207, 5, none⟩ = some (.slice A0_5 l0_5.length c0_5) := (blk_cell BK207.out 5).trans rfl
                  have hcz33_6 : wc.cell? ⟨gb207, 6, none⟩ = some (.int .i64 a0_6) := (blk_cell BK207.out 6).trans rfl
                  have hfz33_0 := blk_frozen BK207.out 0
                  have hfz33_1 := blk_frozen BK207.out 1
                  have hfz33_2 := blk_frozen BK207.out 2
                  have hfz33_3 := blk_frozen BK207.out 3
                  have hfz33_4 := blk_frozen BK207.out 4
                  have hfz33_5 := blk_frozen BK207.out 5
                  have hfz33_6 := blk_frozen BK207.out 6
                  go_wp2
                  go_meet
                  case rel => exact ⟨_, (true), (by first | rfl | (simp; done) | (simp [*]; done)), H', ⟨by have := HJ5.out; have := HJ17.out; first | omega | exact Nat.le_refl _⟩, ⟨by (with_reducible repeat (first | apply Kd.R_alloc | apply Kd.R_drewN | apply Kd.R_drew)); exact HO_5.out⟩, ⟨by (with_reducible repeat (first | apply Kd.R_alloc | apply Kd.R_drewN | apply Kd.R_drew)); exact HO_6.out⟩, ⟨by (with_reducible repeat (first | refine blk_drewN ?_ _ | refine blk_drew ?_ | refine blk_alloc ?_ _)); exact BK207.out⟩, ⟨by repeat (first | (with_reducible first | exact HB.out | apply below_alloc | apply pw_below_drewN | apply below_drew1 | refine below_set ?_ GE207.out) | exact HB.out)⟩⟩
              case rest =>
                clear HC27
                try clear c1
                try clear c2
                try clear p2
                try clear q2
                try clear hx2
                try clear c4
                try clear p6
                try clear c12
                try clear c12b0
                try clear c12b1
                try clear c13
                try clear c17
                try clear c18
                try clear c19
                try clear c19b0
                try clear c20
                try clear c21
                try clear c21b0
                try clear p21
                try clear q21
                try clear hx21
                try clear c22
                try clear c22b0
                try clear c26
                try clear c28
                try clear c28b0
                try clear c28b1
                try clear hcz13_0
                try clear hcz13_1
                try clear hcz13_2
                try clear hcz13_3
                try clear hcz13_4
                try clear hcz13_5
                try clear hcz13_6
                try clear hcz15_0
                try clear hcz15_1
                try clear hcz15_2
                try clear hcz15_3
                try clear hcz15_4
                try clear hcz15_5
                try clear hcz15_6
                try clear hcz16_0
                try clear hcz16_1
                try clear hcz16_2
                try clear hcz16_3
                try clear hcz16_4
                try clear hcz16_5
                try clear hcz16_6
                try clear hcz30_0
                try clear hcz30_1
                try clear hcz30_2
                try clear hcz30_3
                try clear hcz30_4
                try clear hcz30_5
                try clear hcz30_6
                try clear hcz33_0
                try clear hcz33_1
                try clear hcz33_2
                try clear hcz33_3
                try clear hcz33_4
                try clear hcz33_5
                try clear hcz33_6
                try clear hcz9_0
                try clear hcz9_1
                try clear hcz9_2
                try clear hcz9_3
                try clear hcz9_4
                try clear hcz9_5
                try clear hcz9_6
                try clear hfz13_0
                try clear hfz13_1
                try clear hfz13_2
                try clear hfz13_3
                try clear hfz13_4
                try clear hfz13_5
                try clear hfz13_6
                try clear hfz15_0
                try clear hfz15_1
                try clear hfz15_2
                try clear hfz15_3
                try clear hfz15_4
                try clear hfz15_5
                try clear hfz15_6
                try clear hfz16_0
                try clear hfz16_1
                try clear hfz16_2
                try clear hfz16_3
                try clear hfz16_4
                try clear hfz16_5
                try clear hfz16_6
                try clear hfz30_0
                try clear hfz30_1
                try clear hfz30_2
                try clear hfz30_3
                try clear hfz30_4
                try clear hfz30_5
                try clear hfz30_6
                try clear hfz33_0
                try clear hfz33_1
                try clear hfz33_2
                try clear hfz33_3
                try clear hfz33_4
                try clear hfz33_5
                try clear hfz33_6
                try clear hfz9_0
                try clear hfz9_1
                try clear hfz9_2
                try clear hfz9_3
                try clear hfz9_4
                try clear hfz9_5
                try clear hfz9_6
                try clear hx216_0
                try clear hx217_0
                try clear p2
                try clear p21
                try clear p216
                try clear p217
                try clear p6
                try clear q2
                try clear q21
                try clear q216
                try clear q217
                obtain ⟨kq, x75_26, rfl, HA, HJ26, HO_5, HO_6, BK207, HB⟩ := hcut
                cases kq with
                | zero => exact absurd HA.out (by simp [respelllaw07_RuleUnits.j3])
                | succ kj26 =>
                  have H := HA.out
                  clear HA
                  simp only [respelllaw07_RuleUnits.j3] at H
                  by_cases c34 : x75_26 = true
                  · subst c34
                    have H1 : (some false) = some r := by rw [if_pos rfl] at H; exact H
                    clear H
                    have H := H1
                    clear H1
                    obtain rfl := Option.some.inj H
                    go_wp2
                    go_ret
                    exact ⟨by first | rfl | (simp [errW_none, errW_some] <;> rfl) | (simp [*, errW_none, errW_some] <;> rfl), by repeat (first | (with_reducible first | exact HB.out | apply below_alloc | apply pw_below_drewN | apply below_drew1 | refine below_set ?_ GE207.out) | exact HB.out)⟩
                  · replace c34 := Bool.eq_false_iff.mpr c34
                    subst c34
                    have H1 : (respelllaw07_RuleUnits.l1 kj26 l1 t209 t212 l0_5 (l0_5.length : Int) 0 a0_0 l0_1 l0_2 l0_3 a0_4 l0_5 a0_6) = some r := by rw [if_neg (show ¬ (false = true) by decide)] at H; exact H
                    clear H
                    have H := H1
                    clear H1
                    have H' := Aside0.mk H
                    clear H
                    have hcz35_0 : wc.cell? ⟨gb207, 0, none⟩ = some (.bool a0_0) := (blk_cell BK207.out 0).trans rfl
                    have hcz35_1 : wc.cell? ⟨gb207, 1, none⟩ = some (.slice A0_1 l0_1.length c0_1) := (blk_cell BK207.out 1).trans rfl
                    have hcz35_2 : wc.cell? ⟨gb207, 2, none⟩ = some (.slice A0_2 l0_2.length c0_2) := (blk_cell BK207.out 2).trans rfl
                    have hcz35_3 : wc.cell? ⟨gb207, 3, none⟩ = some (.slice A0_3 l0_3.length c0_3) := (blk_cell BK207.out 3).trans rfl
                    have hcz35_4 : wc.cell? ⟨gb207, 4, none⟩ = some (.bool a0_4) := (blk_cell BK207.out 4).trans rfl
                    have hcz35_5 : wc.cell? ⟨gb207, 5, none⟩ = some (.slice A0_5 l0_5.length c0_5) := (blk_cell BK207.out 5).trans rfl
                    have hcz35_6 : wc.cell? ⟨gb207, 6, none⟩ = some (.int .i64 a0_6) := (blk_cell BK207.out 6).trans rfl
                    have hfz35_0 := blk_frozen BK207.out 0
                    have hfz35_1 := blk_frozen BK207.out 1
                    have hfz35_2 := blk_frozen BK207.out 2
                    have hfz35_3 := blk_frozen BK207.out 3
                    have hfz35_4 := blk_frozen BK207.out 4
                    have hfz35_5 := blk_frozen BK207.out 5
                    have hfz35_6 := blk_frozen BK207.out 6
                    go_wp2
                    go_loopg [79] kj26 (fun kq v79 w' => ∃ (x79_4 : Int), v79 = .int .i64 x79_4 ∧ Aside0 (respelllaw07_RuleUnits.l1 kq l1 t209 t212 l0_5 (l0_5.length : Int) x79_4 a0_0 l0_1 l0_2 l0_3 a0_4 l0_5 a0_6 = some r) ∧ Aside0 (kq ≤ kj26) ∧ Aside0 (Kd.R (Kd.int .i64) 3 w' w.heap.size (fun k_ => some k_ ≠ (v213 : Value).ownBlock) v210 t209) ∧ Aside0 (Kd.R (Kd.int .i64) 3 w' w.heap.size (fun k_ => some k_ ≠ (v210 : Value).ownBlock) v213 t212) ∧ Aside0 (w'.heap[gb207]? = some (.cells #[.bool a0_0, (.slice A0_1 l0_1.length c0_1), (.slice A0_2 l0_2.length c0_2), (.slice A0_3 l0_3.length c0_3), .bool a0_4, (.slice A0_5 l0_5.length c0_5), .int .i64 a0_6] 25 (0, 0))) ∧ Aside0 (Below w.heap.size w w'))
                    case atStart => exact ⟨(0), (by first | rfl | (simp; done) | (simp [*]; done)), H', ⟨Nat.le_refl _⟩, ⟨by (with_reducible repeat (first | apply Kd.R_alloc | apply Kd.R_drewN | apply Kd.R_drew)); exact HO_5.out⟩, ⟨by (with_reducible repeat (first | apply Kd.R_alloc | apply Kd.R_drewN | apply Kd.R_drew)); exact HO_6.out⟩, ⟨by (with_reducible repeat (first | refine blk_drewN ?_ _ | refine blk_drew ?_ | refine blk_alloc ?_ _)); exact BK207.out⟩, ⟨by repeat (first | (with_reducible first | exact HB.out | apply below_alloc | apply pw_below_drewN | apply below_drew1 | refine below_set ?_ GE207.out) | exact HB.out)⟩⟩
                    case round =>
                      clear H'
                      try clear c1
                      try clear c2
                      try clear p2
                      try clear q2
                      try clear hx2
                      try clear c3
                      try clear c4
                      try clear p6
                      try clear c12
                      try clear c12b0
                      try clear c12b1
                      try clear c13
                      try clear c17
                      try clear c18
                      try clear c19
                      try clear c19b0
                      try clear c20
                      try clear c21
                      try clear c21b0
                      try clear p21
                      try clear q21
                      try clear hx21
                      try clear c22
                      try clear c22b0
                      try clear c26
                      try clear c28
                      try clear c28b0
                      try clear c28b1
                      try clear c34
                      try clear hcz13_0
                      try clear hcz13_1
                      try clear hcz13_2
                      try clear hcz13_3
                      try clear hcz13_4
                      try clear hcz13_5
                      try clear hcz13_6
                      try clear hcz15_0
                      try clear hcz15_1
                      try clear hcz15_2
                      try clear hcz15_3
                      try clear hcz15_4
                      try clear hcz15_5
                      try clear hcz15_6
                      try clear hcz16_0
                      try clear hcz16_1
                      try clear hcz16_2
                      try clear hcz16_3
                      try clear hcz16_4
                      try clear hcz16_5
                      try clear hcz16_6
                      try clear hcz30_0
                      try clear hcz30_1
                      try clear hcz30_2
                      try clear hcz30_3
                      try clear hcz30_4
                      try clear hcz30_5
                      try clear hcz30_6
                      try clear hcz33_0
                      try clear hcz33_1
                      try clear hcz33_2
                      try clear hcz33_3
                      try clear hcz33_4
                      try clear hcz33_5
                      try clear hcz33_6
                      try clear hcz35_0
                      try clear hcz35_1
                      try clear hcz35_2
                      try clear hcz35_3
                      try clear hcz35_4
                      try clear hcz35_5
                      try clear hcz35_6
                      try clear hcz9_0
                      try clear hcz9_1
                      try clear hcz9_2
                      try clear hcz9_3
                      try clear hcz9_4
                      try clear hcz9_5
                      try clear hcz9_6
                      try clear hfz13_0
                      try clear hfz13_1
                      try clear hfz13_2
                      try clear hfz13_3
                      try clear hfz13_4
                      try clear hfz13_5
                      try clear hfz13_6
                      try clear hfz15_0
                      try clear hfz15_1
                      try clear hfz15_2
                      try clear hfz15_3
                      try clear hfz15_4
                      try clear hfz15_5
                      try clear hfz15_6
                      try clear hfz16_0
                      try clear hfz16_1
                      try clear hfz16_2
                      try clear hfz16_3
                      try clear hfz16_4
                      try clear hfz16_5
                      try clear hfz16_6
                      try clear hfz30_0
                      try clear hfz30_1
                      try clear hfz30_2
                      try clear hfz30_3
                      try clear hfz30_4
                      try clear hfz30_5
                      try clear hfz30_6
                      try clear hfz33_0
                      try clear hfz33_1
                      try clear hfz33_2
                      try clear hfz33_3
                      try clear hfz33_4
                      try clear hfz33_5
                      try clear hfz33_6
                      try clear hfz35_0
                      try clear hfz35_1
                      try clear hfz35_2
                      try clear hfz35_3
                      try clear hfz35_4
                      try clear hfz35_5
                      try clear hfz35_6
                      try clear hfz9_0
                      try clear hfz9_1
                      try clear hfz9_2
                      try clear hfz9_3
                      try clear hfz9_4
                      try clear hfz9_5
                      try clear hfz9_6
                      try clear hx216_0
                      try clear hx217_0
                      try clear p2
                      try clear p21
                      try clear p216
                      try clear p217
                      try clear p6
                      try clear q2
                      try clear q21
                      try clear q216
                      try clear q217
                      obtain ⟨x79_4, rfl, HA, HK4, HO_5, HO_6, BK207, HB⟩ := hrel
                      cases gk with
                      | zero => exact absurd HA.out (by simp [respelllaw07_RuleUnits.l1])
                      | succ k4 =>
                        have H := HA.out
                        clear HA
                        simp only [respelllaw07_RuleUnits.l1] at H
                        by_cases c36 : x79_4 < (l0_5.length : Int)
                        · rw [if_pos c36] at H
                          have c36b0 : decide (x79_4 < (l0_5.length : Int)) = true := decide_eq_true c36
                          clear c36
                          by_cases c37 : 0 ≤ x79_4
                          · rw [if_pos c37] at H
                            have c37b0 : decide (0 ≤ x79_4) = true := decide_eq_true c37
                            clear c37
                            by_cases c38 : x79_4 < (l0_5.length : Int)
                            · rw [if_pos c38] at H
                              have c38b0 : decide (x79_4 < (l0_5.length : Int)) = true := decide_eq_true c38
                              clear c38
                              have HC39 := Aside0.mk H
                              clear H
                              have p219 : 0 ≤ (x79_4 : Int) := of_decide_eq_true (by first | (with_reducible assumption) | assumption)
                              have q219 : x79_4 < (l0_5.length : Int) := of_decide_eq_true (by first | (with_reducible assumption) | assumption)
                              obtain ⟨ad219, A219_3, c219_3, e219, hx219_0, hx219_1, hx219_2, hx219_3, hl219_3, hi219_3⟩ := at_T43 HR0_5.out x79_4 p219 q219
                              cases e219
                              try replace hx219_0 := (HB.out.cell (World.block_lt_of_cell? w _ hx219_0)).trans hx219_0
                              try replace hx219_1 := (HB.out.cell (World.block_lt_of_cell? w _ hx219_1)).trans hx219_1
                              try replace hx219_2 := (HB.out.cell (World.block_lt_of_cell? w _ hx219_2)).trans hx219_2
                              try replace hx219_3 := (HB.out.cell (World.block_lt_of_cell? w _ hx219_3)).trans hx219_3
                              have HR219_3 := Aside0.mk hi219_3
                              have HC219_3 := Aside0.mk hl219_3
                              clear hi219_3 hl219_3
                              replace p219 := eq_true p219
                              replace q219 := eq_true q219
                              go_upto_if 87 with (first | ((with_reducible refine gate_dst (N := 10) rfl ?_); (try (refine gate_guard (by rfl) ?_; dsimp only)); refine box_event ?hg (N := 10) ?hd (cs := #[.int .i64 0, .int .i64 0, .int .i64 0, .slice none 0 0]) (t := 43) ?hr ?_; (case hd => rfl); (case hg => rfl); (case hr => first | (go_simp; done) | (go_simp; rfl)); intro gb220 hg w40 hbox hb; have n0_ := Aside0.mk (Kd.R_below (by (with_reducible repeat (first | apply Kd.R_alloc | apply Kd.R_drewN | apply Kd.R_drew)); exact HO_5.out) hb); have n1_ := Aside0.mk (Kd.R_below (by (with_reducible repeat (first | apply Kd.R_alloc | apply Kd.R_drewN | apply Kd.R_drew)); exact HO_6.out) hb); have n2_ := Aside0.mk (blk_below (g := gb207) (o := .cells #[.bool a0_0, .slice A0_1 l0_1.length c0_1, .slice A0_2 l0_2.length c0_2, .slice A0_3 l0_3.length c0_3, .bool a0_4, .slice (some ad219) l0_5.length c0_5, .int .i64 a0_6] 25 (0, 0)) (by (with_reducible repeat (first | refine blk_drewN ?_ _ | refine blk_drew ?_ | refine blk_alloc ?_ _)); exact BK207.out) hb); have n3_ := Aside0.mk (below_step (by repeat (first | (with_reducible first | exact HB.out | apply below_alloc | apply pw_below_drewN | apply below_drew1 | refine below_set ?_ GE207.out) | exact HB.out)) hb); have n4_ := Aside0.mk (hbox); have n5_ := Aside0.mk ((by rw [hg]; exact (below_size (by repeat (first | (with_reducible first | exact HB.out | apply below_alloc | apply pw_below_drewN | apply below_drew1 | refine below_set ?_ GE207.out) | exact HB.out))) : w.heap.size ≤ gb220)); have n6_ := Aside0.mk ((by rw [hg]; exact (below_size (by repeat (first | (with_reducible first | exact HB.out | apply below_alloc | apply pw_below_drewN | apply below_drew1 | refine below_set ?_ GE207.out) | exact HB.out))) : w.heap.size ≤ gb220)); have n7_ := Aside0.mk ((by rw [hg]; exact Nat.ne_of_lt (blk_lt (g := gb207) (o := .cells #[.bool a0_0, .slice A0_1 l0_1.length c0_1, .slice A0_2 l0_2.length c0_2, .slice A0_3 l0_3.length c0_3, .bool a0_4, .slice (some ad219) l0_5.length c0_5, .int .i64 a0_6] 25 (0, 0)) (by (with_reducible repeat (first | refine blk_drewN ?_ _ | refine blk_drew ?_ | refine blk_alloc ?_ _)); exact BK207.out)) : gb207 ≠ gb220)); have n8_ := Aside0.mk ((by rw [hg]; exact Nat.ne_of_gt (blk_lt (g := gb207) (o := .cells #[.bool a0_0, .slice A0_1 l0_1.length c0_1, .slice A0_2 l0_2.length c0_2, .slice A0_3 l0_3.length c0_3, .bool a0_4, .slice (some ad219) l0_5.length c0_5, .int .i64 a0_6] 25 (0, 0)) (by (with_reducible repeat (first | refine blk_drewN ?_ _ | refine blk_drew ?_ | refine blk_alloc ?_ _)); exact BK207.out)) : gb220 ≠ gb207)); clear HO_5; clear HO_6; clear BK207; clear HB; have HO_5 := n0_; have HO_6 := n1_; have BK207 := n2_; have HB := n3_; have BK220 := n4_; have GW220 := n5_; have GE220 := n6_; have NB207_220 := n7_; have NB220_207 := n8_; clear n0_ n1_ n2_ n3_ n4_ n5_ n6_ n7_ n8_; clear hb hbox hg; have hnb41 := NB220_207.out; have hnc41 := NB207_220.out; have hcz42_0 : w40.cell? ⟨gb220, 0, none⟩ = some (.int .i64 0) := (blk_cell BK220.out 0).trans rfl; have hcz42_1 : w40.cell? ⟨gb220, 1, none⟩ = some (.int .i64 0) := (blk_cell BK220.out 1).trans rfl; have hcz42_2 : w40.cell? ⟨gb220, 2, none⟩ = some (.int .i64 0) := (blk_cell BK220.out 2).trans rfl; have hcz42_3 : w40.cell? ⟨gb220, 3, none⟩ = some (.slice none 0 0) := (blk_cell BK220.out 3).trans rfl; have hfz42_0 := blk_frozen BK220.out 0; have hfz42_1 := blk_frozen BK220.out 1; have hfz42_2 := blk_frozen BK220.out 2; have hfz42_3 := blk_frozen BK220.out 3; have hcz43_0 : w40.cell? ⟨gb207, 0, none⟩ = some (.bool a0_0) := (blk_cell BK207.out 0).trans rfl; have hcz43_1 : w40.cell? ⟨gb207, 1, none⟩ = some (.slice A0_1 l0_1.length c0_1) := (blk_cell BK207.out 1).trans rfl; have hcz43_2 : w40.cell? ⟨gb207, 2, none⟩ = some (.slice A0_2 l0_2.length c0_2) := (blk_cell BK207.out 2).trans rfl; have hcz43_3 : w40.cell? ⟨gb207, 3, none⟩ = some (.slice A0_3 l0_3.length c0_3) := (blk_cell BK207.out 3).trans rfl; have hcz43_4 : w40.cell? ⟨gb207, 4, none⟩ = some (.bool a0_4) := (blk_cell BK207.out 4).trans rfl; have hcz43_5 : w40.cell? ⟨gb207, 5, none⟩ = some (.slice (some ad219) l0_5.length c0_5) := (blk_cell BK207.out 5).trans rfl; have hcz43_6 : w40.cell? ⟨gb207, 6, none⟩ = some (.int .i64 a0_6) := (blk_cell BK207.out 6).trans rfl; have hfz43_0 := blk_frozen BK207.out 0; have hfz43_1 := blk_frozen BK207.out 1; have hfz43_2 := blk_frozen BK207.out 2; have hfz43_3 := blk_frozen BK207.out 3; have hfz43_4 := blk_frozen BK207.out 4; have hfz43_5 := blk_frozen BK207.out 5; have hfz43_6 := blk_frozen BK207.out 6))
                              (try simp only [Act.put, List.setIfInBounds_toArray, List.set_cons_zero, List.set_cons_succ])
                              go_cut [11] (fun v11 wc => ∃ (kq : Nat) (x11_38 : Int), v11 = .int .i64 x11_38 ∧ Aside0 (respelllaw07_RuleUnits.j5 kq l1 t209 t212 x11_38 l0_5 (l0_5.length : Int) x79_4 a0_0 l0_1 l0_2 l0_3 a0_4 l0_5 a0_6 ((rd_T43 l0_5 x79_4).f0) ((rd_T43 l0_5 x79_4).f1) ((rd_T43 l0_5 x79_4).f2) ((rd_T43 l0_5 x79_4).f3) = some r) ∧ Aside0 (kq ≤ k4) ∧ Aside0 (Kd.R (Kd.int .i64) 3 wc w.heap.size (fun k_ => some k_ ≠ (v213 : Value).ownBlock) v210 t209) ∧ Aside0 (Kd.R (Kd.int .i64) 3 wc w.heap.size (fun k_ => some k_ ≠ (v210 : Value).ownBlock) v213 t212) ∧ Aside0 (wc.heap[gb207]? = some (.cells #[.bool a0_0, (.slice A0_1 l0_1.length c0_1), (.slice A0_2 l0_2.length c0_2), (.slice A0_3 l0_3.length c0_3), .bool a0_4, (.slice (some ad219) l0_5.length c0_5), .int .i64 a0_6] 25 (0, 0))) ∧ Aside0 (wc.heap[gb220]? = some (.cells #[.int .i64 ((rd_T43 l0_5 x79_4).f0), .int .i64 ((rd_T43 l0_5 x79_4).f1), .int .i64 ((rd_T43 l0_5 x79_4).f2), (.slice A219_3 ((rd_T43 l0_5 x79_4).f3).length c219_3)] 43 (0, 0))) ∧ Aside0 (Below w.heap.size w wc))
                              case first =>
                                have H := HC39.out
                                clear HC39
                                by_cases c44 : x79_4 < a0_6
                                · rw [if_pos c44] at H
                                  have c44b0 : decide (x79_4 < a0_6) = true := decide_eq_true c44
                                  clear c44
                                  (first | rw [c44b0] | (simp only [i64_w, i32_w]; rw [c44b0]) | skip)
                                  by_cases c45 : x79_4 < (t209.length : Int)
                                  · rw [if_pos c45] at H
                                    have c45b0 : decide (x79_4 < (t209.length : Int)) = true := decide_eq_true c45
                                    clear c45
                                    have H' := Aside0.mk H
                                    clear H
                                    obtain ⟨Ao46, co46, eo46⟩ := Kd.R_slice HO_5.out
                                    subst eo46
                                    have p221 : 0 ≤ (x79_4 : Int) := of_decide_eq_true (by first | (with_reducible assumption) | assumption)
                                    have q221 : x79_4 < (t209.length : Int) := of_decide_eq_true (by first | (with_reducible assumption) | assumption)
                                    obtain ⟨ad221, e221, hx221_0⟩ := Kd.at_int (Kd.R_reads' HO_5.out).2.2 x79_4 p221 q221
                                    cases e221
                                    have hn221_0 : ad221.block ≠ gb220 := Kd.own_blk (Kd.R_ne HO_5.out BK220.out (by decide))
                                    have hn221_1 : ad221.block ≠ gb220 := Kd.own_blk (Kd.R_ne HO_5.out BK220.out (by decide))
                                    have hn221_2 : ad221.block ≠ gb220 := Kd.own_blk (Kd.R_ne HO_5.out BK220.out (by decide))
                                    have hn221_3 : ad221.block ≠ gb220 := Kd.own_blk (Kd.R_ne HO_5.out BK220.out (by decide))
                                    replace hx221_0 := (cell_far (p := ⟨gb220, 0, none⟩) (by first | (rw [add_block]; exact hn221_0) | (show (Addr.add _ _).block ≠ _; rw [add_block]; exact hn221_0) | exact hn221_0) (.int .i64 ((rd_T43 l0_5 x79_4).f0))).trans hx221_0
                                    replace hx221_0 := (cell_far (p := ⟨gb220, 1, none⟩) (by first | (rw [add_block]; exact hn221_1) | (show (Addr.add _ _).block ≠ _; rw [add_block]; exact hn221_1) | exact hn221_1) (.int .i64 ((rd_T43 l0_5 x79_4).f1))).trans hx221_0
                                    replace hx221_0 := (cell_far (p := ⟨gb220, 2, none⟩) (by first | (rw [add_block]; exact hn221_2) | (show (Addr.add _ _).block ≠ _; rw [add_block]; exact hn221_2) | exact hn221_2) (.int .i64 ((rd_T43 l0_5 x79_4).f2))).trans hx221_0
                                    replace hx221_0 := (cell_far (p := ⟨gb220, 3, none⟩) (by first | (rw [add_block]; exact hn221_3) | (show (Addr.add _ _).block ≠ _; rw [add_block]; exact hn221_3) | exact hn221_3) (.slice A219_3 ((rd_T43 l0_5 x79_4).f3).length c219_3)).trans hx221_0
                                    clear hn221_0
                                    clear hn221_1
                                    clear hn221_2
                                    clear hn221_3
                                    replace p221 := eq_true p221
                                    replace q221 := eq_true q221
                                    go_wp2
                                    go_meet
                                    case rel => exact ⟨_, (rd t209 x79_4), (by first | rfl | (simp; done) | (simp [*]; done)), H', ⟨by have := HJ5.out; have := HJ17.out; have := HJ26.out; have := HK4.out; first | omega | exact Nat.le_refl _⟩, ⟨by (with_reducible repeat (first | apply Kd.R_alloc | apply Kd.R_drewN | apply Kd.R_drew)); exact Kd.R_mono (Kd.R_far (p := ⟨gb220, 3, none⟩) (Kd.R_far (p := ⟨gb220, 2, none⟩) (Kd.R_far (p := ⟨gb220, 1, none⟩) (Kd.R_far (p := ⟨gb220, 0, none⟩) (Kd.R_types HO_5.out BK220.out (by decide)) (fun _ hk => hk.2) (.int .i64 ((rd_T43 l0_5 x79_4).f0))) (fun _ hk => hk.2) (.int .i64 ((rd_T43 l0_5 x79_4).f1))) (fun _ hk => hk.2) (.int .i64 ((rd_T43 l0_5 x79_4).f2))) (fun _ hk => hk.2) (.slice A219_3 ((rd_T43 l0_5 x79_4).f3).length c219_3)) (fun _ hk => hk.1)⟩, ⟨by (with_reducible repeat (first | apply Kd.R_alloc | apply Kd.R_drewN | apply Kd.R_drew)); exact Kd.R_mono (Kd.R_far (p := ⟨gb220, 3, none⟩) (Kd.R_far (p := ⟨gb220, 2, none⟩) (Kd.R_far (p := ⟨gb220, 1, none⟩) (Kd.R_far (p := ⟨gb220, 0, none⟩) (Kd.R_types HO_6.out BK220.out (by decide)) (fun _ hk => hk.2) (.int .i64 ((rd_T43 l0_5 x79_4).f0))) (fun _ hk => hk.2) (.int .i64 ((rd_T43 l0_5 x79_4).f1))) (fun _ hk => hk.2) (.int .i64 ((rd_T43 l0_5 x79_4).f2))) (fun _ hk => hk.2) (.slice A219_3 ((rd_T43 l0_5 x79_4).f3).length c219_3)) (fun _ hk => hk.1)⟩, ⟨by (with_reducible repeat (first | refine blk_drewN ?_ _ | refine blk_drew ?_ | refine blk_alloc ?_ _)); refine blk_far ?_ NB207_220.out _; (with_reducible repeat (first | refine blk_drewN ?_ _ | refine blk_drew ?_ | refine blk_alloc ?_ _)); refine blk_far ?_ NB207_220.out _; (with_reducible repeat (first | refine blk_drewN ?_ _ | refine blk_drew ?_ | refine blk_alloc ?_ _)); refine blk_far ?_ NB207_220.out _; (with_reducible repeat (first | refine blk_drewN ?_ _ | refine blk_drew ?_ | refine blk_alloc ?_ _)); refine blk_far ?_ NB207_220.out _; (with_reducible repeat (first | refine blk_drewN ?_ _ | refine blk_drew ?_ | refine blk_alloc ?_ _)); exact BK207.out⟩, ⟨by (with_reducible repeat (first | refine blk_drewN ?_ _ | refine blk_drew ?_ | refine blk_alloc ?_ _)); refine blk_put (cs := #[.int .i64 ((rd_T43 l0_5 x79_4).f0), .int .i64 ((rd_T43 l0_5 x79_4).f1), .int .i64 ((rd_T43 l0_5 x79_4).f2), .slice none 0 0]) ?_ 3 _ rfl; (with_reducible repeat (first | refine blk_drewN ?_ _ | refine blk_drew ?_ | refine blk_alloc ?_ _)); refine blk_put (cs := #[.int .i64 ((rd_T43 l0_5 x79_4).f0), .int .i64 ((rd_T43 l0_5 x79_4).f1), .int .i64 0, .slice none 0 0]) ?_ 2 _ rfl; (with_reducible repeat (first | refine blk_drewN ?_ _ | refine blk_drew ?_ | refine blk_alloc ?_ _)); refine blk_put (cs := #[.int .i64 ((rd_T43 l0_5 x79_4).f0), .int .i64 0, .int .i64 0, .slice none 0 0]) ?_ 1 _ rfl; (with_reducible repeat (first | refine blk_drewN ?_ _ | refine blk_drew ?_ | refine blk_alloc ?_ _)); refine blk_put (cs := #[.int .i64 0, .int .i64 0, .int .i64 0, .slice none 0 0]) ?_ 0 _ rfl; (with_reducible repeat (first | refine blk_drewN ?_ _ | refine blk_drew ?_ | refine blk_alloc ?_ _)); exact BK220.out⟩, ⟨by repeat (first | (with_reducible first | exact HB.out | apply below_alloc | apply pw_below_drewN | apply below_drew1 | refine below_set ?_ GE207.out | refine below_set ?_ GE220.out) | exact HB.out)⟩⟩
                                  · rw [if_neg c45] at H
                                    exact absurd H (by simp)
                                · rw [if_neg c44] at H
                                  have c44b0 : decide (x79_4 < a0_6) = false := decide_eq_false c44
                                  clear c44
                                  (first | rw [c44b0] | (simp only [i64_w, i32_w]; rw [c44b0]) | skip)
                                  obtain ⟨ji47, hji47⟩ : ∃ j_ : Int, (wrap64 (x79_4 - a0_6)) = j_ := ⟨_, rfl⟩
                                  replace H : (if 0 ≤ (ji47) then (if (ji47) < (t212.length : Int) then (respelllaw07_RuleUnits.j5 k4 l1 t209 t212 (rd t212 (ji47)) l0_5 (l0_5.length : Int) x79_4 a0_0 l0_1 l0_2 l0_3 a0_4 l0_5 a0_6 ((rd_T43 l0_5 x79_4).f0) ((rd_T43 l0_5 x79_4).f1) ((rd_T43 l0_5 x79_4).f2) ((rd_T43 l0_5 x79_4).f3)) else (none)) else (none)) = some r := by first | (rw [hji47] at H; exact H) | (simp only [hji47] at H ⊢; exact H)
                                  have hji47w : (IntKind.i64.wrap (x79_4 - a0_6)) = ji47 := (i64_w _).trans hji47
                                  by_cases c48 : 0 ≤ (ji47)
                                  · rw [if_pos c48] at H
                                    have c48b0 : decide (0 ≤ (ji47)) = true := decide_eq_true c48
                                    clear c48
                                    by_cases c49 : (ji47) < (t212.length : Int)
                                    · rw [if_pos c49] at H
                                      have c49b0 : decide ((ji47) < (t212.length : Int)) = true := decide_eq_true c49
                                      clear c49
                                      have H' := Aside0.mk H
                                      clear H
                                      have hnb50 := NB207_220.out
                                      have hnc50 := NB220_207.out
                                      have hcz51_0 : w40.cell? ⟨gb207, 0, none⟩ = some (.bool a0_0) := (blk_cell BK207.out 0).trans rfl
                                      have hcz51_1 : w40.cell? ⟨gb207, 1, none⟩ = some (.slice A0_1 l0_1.length c0_1) := (blk_cell BK207.out 1).trans rfl
                                      have hcz51_2 : w40.cell? ⟨gb207, 2, none⟩ = some (.slice A0_2 l0_2.length c0_2) := (blk_cell BK207.out 2).trans rfl
                                      have hcz51_3 : w40.cell? ⟨gb207, 3, none⟩ = some (.slice A0_3 l0_3.length c0_3) := (blk_cell BK207.out 3).trans rfl
                                      have hcz51_4 : w40.cell? ⟨gb207, 4, none⟩ = some (.bool a0_4) := (blk_cell BK207.out 4).trans rfl
                                      have hcz51_5 : w40.cell? ⟨gb207, 5, none⟩ = some (.slice (some ad219) l0_5.length c0_5) := (blk_cell BK207.out 5).trans rfl
                                      have hcz51_6 : w40.cell? ⟨gb207, 6, none⟩ = some (.int .i64 a0_6) := (blk_cell BK207.out 6).trans rfl
                                      have hfz51_0 := blk_frozen BK207.out 0
                                      have hfz51_1 := blk_frozen BK207.out 1
                                      have hfz51_2 := blk_frozen BK207.out 2
                                      have hfz51_3 := blk_frozen BK207.out 3
                                      have hfz51_4 := blk_frozen BK207.out 4
                                      have hfz51_5 := blk_frozen BK207.out 5
                                      have hfz51_6 := blk_frozen BK207.out 6
                                      obtain ⟨Ao52, co52, eo52⟩ := Kd.R_slice HO_6.out
                                      subst eo52
                                      have p222 : 0 ≤ ((ji47) : Int) := of_decide_eq_true (by first | (with_reducible assumption) | assumption)
                                      have q222 : (ji47) < (t212.length : Int) := of_decide_eq_true (by first | (with_reducible assumption) | assumption)
                                      obtain ⟨ad222, e222, hx222_0⟩ := Kd.at_int (Kd.R_reads' HO_6.out).2.2 (ji47) p222 q222
                                      cases e222
                                      have hn222_0 : ad222.block ≠ gb220 := Kd.own_blk (Kd.R_ne HO_6.out BK220.out (by decide))
                                      have hn222_1 : ad222.block ≠ gb220 := Kd.own_blk (Kd.R_ne HO_6.out BK220.out (by decide))
                                      have hn222_2 : ad222.block ≠ gb220 := Kd.own_blk (Kd.R_ne HO_6.out BK220.out (by decide))
                                      have hn222_3 : ad222.block ≠ gb220 := Kd.own_blk (Kd.R_ne HO_6.out BK220.out (by decide))
                                      replace hx222_0 := (cell_far (p := ⟨gb220, 0, none⟩) (by first | (rw [add_block]; exact hn222_0) | (show (Addr.add _ _).block ≠ _; rw [add_block]; exact hn222_0) | exact hn222_0) (.int .i64 ((rd_T43 l0_5 x79_4).f0))).trans hx222_0
                                      replace hx222_0 := (cell_far (p := ⟨gb220, 1, none⟩) (by first | (rw [add_block]; exact hn222_1) | (show (Addr.add _ _).block ≠ _; rw [add_block]; exact hn222_1) | exact hn222_1) (.int .i64 ((rd_T43 l0_5 x79_4).f1))).trans hx222_0
                                      replace hx222_0 := (cell_far (p := ⟨gb220, 2, none⟩) (by first | (rw [add_block]; exact hn222_2) | (show (Addr.add _ _).block ≠ _; rw [add_block]; exact hn222_2) | exact hn222_2) (.int .i64 ((rd_T43 l0_5 x79_4).f2))).trans hx222_0
                                      replace hx222_0 := (cell_far (p := ⟨gb220, 3, none⟩) (by first | (rw [add_block]; exact hn222_3) | (show (Addr.add _ _).block ≠ _; rw [add_block]; exact hn222_3) | exact hn222_3) (.slice A219_3 ((rd_T43 l0_5 x79_4).f3).length c219_3)).trans hx222_0
                                      clear hn222_0
                                      clear hn222_1
                                      clear hn222_2
                                      clear hn222_3
                                      replace p222 := eq_true p222
                                      replace q222 := eq_true q222
                                      go_wp2
                                      go_meet
                                      case rel => exact ⟨_, (rd t212 (ji47)), (by first | rfl | (simp; done) | (simp only [← hji47] <;> (first | rfl | simp)) | (simp [*]; done)), H', ⟨by have := HJ5.out; have := HJ17.out; have := HJ26.out; have := HK4.out; first | omega | exact Nat.le_refl _⟩, ⟨by (with_reducible repeat (first | apply Kd.R_alloc | apply Kd.R_drewN | apply Kd.R_drew)); exact Kd.R_mono (Kd.R_far (p := ⟨gb220, 3, none⟩) (Kd.R_far (p := ⟨gb220, 2, none⟩) (Kd.R_far (p := ⟨gb220, 1, none⟩) (Kd.R_far (p := ⟨gb220, 0, none⟩) (Kd.R_types HO_5.out BK220.out (by decide)) (fun _ hk => hk.2) (.int .i64 ((rd_T43 l0_5 x79_4).f0))) (fun _ hk => hk.2) (.int .i64 ((rd_T43 l0_5 x79_4).f1))) (fun _ hk => hk.2) (.int .i64 ((rd_T43 l0_5 x79_4).f2))) (fun _ hk => hk.2) (.slice A219_3 ((rd_T43 l0_5 x79_4).f3).length c219_3)) (fun _ hk => hk.1)⟩, ⟨by (with_reducible repeat (first | apply Kd.R_alloc | apply Kd.R_drewN | apply Kd.R_drew)); exact Kd.R_mono (Kd.R_far (p := ⟨gb220, 3, none⟩) (Kd.R_far (p := ⟨gb220, 2, none⟩) (Kd.R_far (p := ⟨gb220, 1, none⟩) (Kd.R_far (p := ⟨gb220, 0, none⟩) (Kd.R_types HO_6.out BK220.out (by decide)) (fun _ hk => hk.2) (.int .i64 ((rd_T43 l0_5 x79_4).f0))) (fun _ hk => hk.2) (.int .i64 ((rd_T43 l0_5 x79_4).f1))) (fun _ hk => hk.2) (.int .i64 ((rd_T43 l0_5 x79_4).f2))) (fun _ hk => hk.2) (.slice A219_3 ((rd_T43 l0_5 x79_4).f3).length c219_3)) (fun _ hk => hk.1)⟩, ⟨by (with_reducible repeat (first | refine blk_drewN ?_ _ | refine blk_drew ?_ | refine blk_alloc ?_ _)); refine blk_far ?_ NB207_220.out _; (with_reducible repeat (first | refine blk_drewN ?_ _ | refine blk_drew ?_ | refine blk_alloc ?_ _)); refine blk_far ?_ NB207_220.out _; (with_reducible repeat (first | refine blk_drewN ?_ _ | refine blk_drew ?_ | refine blk_alloc ?_ _)); refine blk_far ?_ NB207_220.out _; (with_reducible repeat (first | refine blk_drewN ?_ _ | refine blk_drew ?_ | refine blk_alloc ?_ _)); refine blk_far ?_ NB207_220.out _; (with_reducible repeat (first | refine blk_drewN ?_ _ | refine blk_drew ?_ | refine blk_alloc ?_ _)); exact BK207.out⟩, ⟨by (with_reducible repeat (first | refine blk_drewN ?_ _ | refine blk_drew ?_ | refine blk_alloc ?_ _)); refine blk_put (cs := #[.int .i64 ((rd_T43 l0_5 x79_4).f0), .int .i64 ((rd_T43 l0_5 x79_4).f1), .int .i64 ((rd_T43 l0_5 x79_4).f2), .slice none 0 0]) ?_ 3 _ rfl; (with_reducible repeat (first | refine blk_drewN ?_ _ | refine blk_drew ?_ | refine blk_alloc ?_ _)); refine blk_put (cs := #[.int .i64 ((rd_T43 l0_5 x79_4).f0), .int .i64 ((rd_T43 l0_5 x79_4).f1), .int .i64 0, .slice none 0 0]) ?_ 2 _ rfl; (with_reducible repeat (first | refine blk_drewN ?_ _ | refine blk_drew ?_ | refine blk_alloc ?_ _)); refine blk_put (cs := #[.int .i64 ((rd_T43 l0_5 x79_4).f0), .int .i64 0, .int .i64 0, .slice none 0 0]) ?_ 1 _ rfl; (with_reducible repeat (first | refine blk_drewN ?_ _ | refine blk_drew ?_ | refine blk_alloc ?_ _)); refine blk_put (cs := #[.int .i64 0, .int .i64 0, .int .i64 0, .slice none 0 0]) ?_ 0 _ rfl; (with_reducible repeat (first | refine blk_drewN ?_ _ | refine blk_drew ?_ | refine blk_alloc ?_ _)); exact BK220.out⟩, ⟨by repeat (first | (with_reducible first | exact HB.out | apply below_alloc | apply pw_below_drewN | apply below_drew1 | refine below_set ?_ GE207.out | refine below_set ?_ GE220.out) | exact HB.out)⟩⟩
                                    · rw [if_neg c49] at H
                                      exact absurd H (by simp)
                                  · rw [if_neg c48] at H
                                    exact absurd H (by simp)
                              case rest =>
                                clear HC39
                                try clear c1
                                try clear c2
                                try clear p2
                                try clear q2
                                try clear hx2
                                try clear c3
                                try clear c4
                                try clear c5
                                try clear p6
                                try clear c12
                                try clear c12b0
                                try clear c12b1
                                try clear c13
                                try clear c17
                                try clear c18
                                try clear c19
                                try clear c19b0
                                try clear c20
                                try clear c21
                                try clear c21b0
                                try clear p21
                                try clear q21
                                try clear hx21
                                try clear c22
                                try clear c22b0
                                try clear p22
                                try clear q22
                                try clear hx22
                                try clear c26
                                try clear c28
                                try clear c28b0
                                try clear c28b1
                                try clear c34
                                try clear c36
                                try clear c36b0
                                try clear c37
                                try clear c37b0
                                try clear c38
                                try clear c38b0
                                try clear c41
                                try clear c44
                                try clear c44b0
                                try clear c45
                                try clear c45b0
                                try clear c48
                                try clear c48b0
                                try clear c49
                                try clear c49b0
                                try clear c50
                                try clear hcz13_0
                                try clear hcz13_1
                                try clear hcz13_2
                                try clear hcz13_3
                                try clear hcz13_4
                                try clear hcz13_5
                                try clear hcz13_6
                                try clear hcz15_0
                                try clear hcz15_1
                                try clear hcz15_2
                                try clear hcz15_3
                                try clear hcz15_4
                                try clear hcz15_5
                                try clear hcz15_6
                                try clear hcz16_0
                                try clear hcz16_1
                                try clear hcz16_2
                                try clear hcz16_3
                                try clear hcz16_4
                                try clear hcz16_5
                                try clear hcz16_6
                                try clear hcz30_0
                                try clear hcz30_1
                                try clear hcz30_2
                                try clear hcz30_3
                                try clear hcz30_4
                                try clear hcz30_5
                                try clear hcz30_6
                                try clear hcz33_0
                                try clear hcz33_1
                                try clear hcz33_2
                                try clear hcz33_3
                                try clear hcz33_4
                                try clear hcz33_5
                                try clear hcz33_6
                                try clear hcz35_0
                                try clear hcz35_1
                                try clear hcz35_2
                                try clear hcz35_3
                                try clear hcz35_4
                                try clear hcz35_5
                                try clear hcz35_6
                                try clear hcz42_0
                                try clear hcz42_1
                                try clear hcz42_2
                                try clear hcz42_3
                                try clear hcz43_0
                                try clear hcz43_1
                                try clear hcz43_2
                                try clear hcz43_3
                                try clear hcz43_4
                                try clear hcz43_5
                                try clear hcz43_6
                                try clear hcz51_0
                                try clear hcz51_1
                                try clear hcz51_2
                                try clear hcz51_3
                                try clear hcz51_4
                                try clear hcz51_5
                                try clear hcz51_6
                                try clear hcz9_0
                                try clear hcz9_1
                                try clear hcz9_2
                                try clear hcz9_3
                                try clear hcz9_4
                                try clear hcz9_5
                                try clear hcz9_6
                                try clear hfz13_0
                                try clear hfz13_1
                                try clear hfz13_2
                                try clear hfz13_3
                                try clear hfz13_4
                                try clear hfz13_5
                                try clear hfz13_6
                                try clear hfz15_0
                                try clear hfz15_1
                                try clear hfz15_2
                                try clear hfz15_3
                                try clear hfz15_4
                                try clear hfz15_5
                                try clear hfz15_6
                                try clear hfz16_0
                                try clear hfz16_1
                                try clear hfz16_2
                                try clear hfz16_3
                                try clear hfz16_4
                                try clear hfz16_5
                                try clear hfz16_6
                                try clear hfz30_0
                                try clear hfz30_1
                                try clear hfz30_2
                                try clear hfz30_3
                                try clear hfz30_4
                                try clear hfz30_5
                                try clear hfz30_6
                                try clear hfz33_0
                                try clear hfz33_1
                                try clear hfz33_2
                                try clear hfz33_3
                                try clear hfz33_4
                                try clear hfz33_5
                                try clear hfz33_6
                                try clear hfz35_0
                                try clear hfz35_1
                                try clear hfz35_2
                                try clear hfz35_3
                                try clear hfz35_4
                                try clear hfz35_5
                                try clear hfz35_6
                                try clear hfz42_0
                                try clear hfz42_1
                                try clear hfz42_2
                                try clear hfz42_3
                                try clear hfz43_0
                                try clear hfz43_1
                                try clear hfz43_2
                                try clear hfz43_3
                                try clear hfz43_4
                                try clear hfz43_5
                                try clear hfz43_6
                                try clear hfz51_0
                                try clear hfz51_1
                                try clear hfz51_2
                                try clear hfz51_3
                                try clear hfz51_4
                                try clear hfz51_5
                                try clear hfz51_6
                                try clear hfz9_0
                                try clear hfz9_1
                                try clear hfz9_2
                                try clear hfz9_3
                                try clear hfz9_4
                                try clear hfz9_5
                                try clear hfz9_6
                                try clear hx216_0
                                try clear hx217_0
                                try clear hx219_0
                                try clear hx219_1
                                try clear hx219_2
                                try clear hx219_3
                                try clear hx221_0
                                try clear hx222_0
                                try clear p2
                                try clear p21
                                try clear p216
                                try clear p217
                                try clear p219
                                try clear p221
                                try clear p222
                                try clear p6
                                try clear q2
                                try clear q21
                                try clear q216
                                try clear q217
                                try clear q219
                                try clear q221
                                try clear q222
                                obtain ⟨kq, x11_38, rfl, HA, HJ38, HO_5, HO_6, BK207, BK220, HB⟩ := hcut
                                cases kq with
                                | zero => exact absurd HA.out (by simp [respelllaw07_RuleUnits.j5])
                                | succ kj38 =>
                                  have H := HA.out
                                  clear HA
                                  simp only [respelllaw07_RuleUnits.j5] at H
                                  replace H := Option.bind_eq_some_iff.mp H
                                  obtain ⟨t223, A530, H⟩ := H
                                  replace H : (if t223 = 0 then (some false) else (if ((rd_T43 l0_5 x79_4).f0) = 1 then (if x11_38 = ((rd_T43 l0_5 x79_4).f1) then (if ((rd_T43 l0_5 x79_4).f0) = 2 then (if 0 ≤ ((rd_T43 l0_5 x79_4).f2) then (if ((rd_T43 l0_5 x79_4).f2) < (l1.length : Int) then (if x11_38 = (rd l1 ((rd_T43 l0_5 x79_4).f2)) then (if ((rd_T43 l0_5 x79_4).f0) = 3 then ((set_Has.f kj38 ((rd_T43 l0_5 x79_4).f3) x11_38).bind fun t225 => (if t225 = true then (respelllaw07_RuleUnits.l1 kj38 l1 t209 t212 l0_5 (l0_5.length : Int) (wrap64 (x79_4 + 1)) a0_0 l0_1 l0_2 l0_3 a0_4 l0_5 a0_6) else (some false))) else (respelllaw07_RuleUnits.l1 kj38 l1 t209 t212 l0_5 (l0_5.length : Int) (wrap64 (x79_4 + 1)) a0_0 l0_1 l0_2 l0_3 a0_4 l0_5 a0_6)) else (some false)) else (none)) else (none)) else (if ((rd_T43 l0_5 x79_4).f0) = 3 then ((set_Has.f kj38 ((rd_T43 l0_5 x79_4).f3) x11_38).bind fun t226 => (if t226 = true then (respelllaw07_RuleUnits.l1 kj38 l1 t209 t212 l0_5 (l0_5.length : Int) (wrap64 (x79_4 + 1)) a0_0 l0_1 l0_2 l0_3 a0_4 l0_5 a0_6) else (some false))) else (respelllaw07_RuleUnits.l1 kj38 l1 t209 t212 l0_5 (l0_5.length : Int) (wrap64 (x79_4 + 1)) a0_0 l0_1 l0_2 l0_3 a0_4 l0_5 a0_6))) else (some false)) else (if ((rd_T43 l0_5 x79_4).f0) = 2 then (if 0 ≤ ((rd_T43 l0_5 x79_4).f2) then (if ((rd_T43 l0_5 x79_4).f2) < (l1.length : Int) then (if x11_38 = (rd l1 ((rd_T43 l0_5 x79_4).f2)) then (if ((rd_T43 l0_5 x79_4).f0) = 3 then ((set_Has.f kj38 ((rd_T43 l0_5 x79_4).f3) x11_38).bind fun t228 => (if t228 = true then (respelllaw07_RuleUnits.l1 kj38 l1 t209 t212 l0_5 (l0_5.length : Int) (wrap64 (x79_4 + 1)) a0_0 l0_1 l0_2 l0_3 a0_4 l0_5 a0_6) else (some false))) else (respelllaw07_RuleUnits.l1 kj38 l1 t209 t212 l0_5 (l0_5.length : Int) (wrap64 (x79_4 + 1)) a0_0 l0_1 l0_2 l0_3 a0_4 l0_5 a0_6)) else (some false)) else (none)) else (none)) else (if ((rd_T43 l0_5 x79_4).f0) = 3 then ((set_Has.f kj38 ((rd_T43 l0_5 x79_4).f3) x11_38).bind fun t229 => (if t229 = true then (respelllaw07_RuleUnits.l1 kj38 l1 t209 t212 l0_5 (l0_5.length : Int) (wrap64 (x79_4 + 1)) a0_0 l0_1 l0_2 l0_3 a0_4 l0_5 a0_6) else (some false))) else (respelllaw07_RuleUnits.l1 kj38 l1 t209 t212 l0_5 (l0_5.length : Int) (wrap64 (x79_4 + 1)) a0_0 l0_1 l0_2 l0_3 a0_4 l0_5 a0_6))))) = some r := H
                                  have A53 := Aside0.mk A530
                                  clear A530
                                  by_cases c54 : t223 = 0
                                  · rw [if_pos c54] at H
                                    have c54b0 : (t223 == 0) = true := beq_iff_eq.mpr c54
                                    have c54b1 : (t223 != 0) = false := bne_eq_false_iff_eq.mpr c54
                                    clear c54
                                    obtain rfl := Option.some.inj H
                                    go_wp2_with (first | ((with_reducible refine gate_callee (f := 20) rfl ?_); refine goesL_ (some 100) rfl rfl Try.func20 (by kernel_rfl) rfl #[.int .i64 x11_38] rfl (by (try simp only [List.map_toArray, List.map_cons, List.map_nil]); first | done | rfl | (simp only [List.length_drop, List.length_take]; rfl)) ?_; (with_reducible refine (utf_Width.calls kj38 x11_38 t223 _ A53.out).mono ?_); rintro e w' ⟨rfl, ⟨nd, rfl⟩⟩; refine ⟨_, rfl, ?_⟩))
                                    go_ret
                                    exact ⟨by first | rfl | (simp [errW_none, errW_some] <;> rfl) | (simp [*, errW_none, errW_some] <;> rfl), by repeat (first | (with_reducible first | exact HB.out | apply below_alloc | apply pw_below_drewN | apply below_drew1 | refine below_set ?_ GE207.out | refine below_set ?_ GE220.out) | exact HB.out)⟩
                                  · rw [if_neg c54] at H
                                    have c54b0 : (t223 == 0) = false := beq_eq_false_iff_ne.mpr c54
                                    have c54b1 : (t223 != 0) = true := bne_iff_ne.mpr c54
                                    by_cases c55 : ((rd_T43 l0_5 x79_4).f0) = 1
                                    · rw [if_pos c55] at H
                                      have c55b0 : (((rd_T43 l0_5 x79_4).f0) == 1) = true := beq_iff_eq.mpr c55
                                      have c55b1 : (((rd_T43 l0_5 x79_4).f0) != 1) = false := bne_eq_false_iff_eq.mpr c55
                                      clear c55
                                      by_cases c56 : x11_38 = ((rd_T43 l0_5 x79_4).f1)
                                      · rw [if_pos c56] at H
                                        have c56b0 : (x11_38 == ((rd_T43 l0_5 x79_4).f1)) = true := beq_iff_eq.mpr c56
                                        have c56b1 : (x11_38 != ((rd_T43 l0_5 x79_4).f1)) = false := bne_eq_false_iff_eq.mpr c56
                                        clear c56
                                        by_cases c57 : ((rd_T43 l0_5 x79_4).f0) = 2
                                        · rw [if_pos c57] at H
                                          have c57b0 : (((rd_T43 l0_5 x79_4).f0) == 2) = true := beq_iff_eq.mpr c57
                                          have c57b1 : (((rd_T43 l0_5 x79_4).f0) != 2) = false := bne_eq_false_iff_eq.mpr c57
                                          clear c57
                                          by_cases c58 : 0 ≤ ((rd_T43 l0_5 x79_4).f2)
                                          · rw [if_pos c58] at H
                                            have c58b0 : decide (0 ≤ ((rd_T43 l0_5 x79_4).f2)) = true := decide_eq_true c58
                                            clear c58
                                            by_cases c59 : ((rd_T43 l0_5 x79_4).f2) < (l1.length : Int)
                                            · rw [if_pos c59] at H
                                              have c59b0 : decide (((rd_T43 l0_5 x79_4).f2) < (l1.length : Int)) = true := decide_eq_true c59
                                              clear c59
                                              by_cases c60 : x11_38 = (rd l1 ((rd_T43 l0_5 x79_4).f2))
                                              · rw [if_pos c60] at H
                                                have c60b0 : (x11_38 == (rd l1 ((rd_T43 l0_5 x79_4).f2))) = true := beq_iff_eq.mpr c60
                                                have c60b1 : (x11_38 != (rd l1 ((rd_T43 l0_5 x79_4).f2))) = false := bne_eq_false_iff_eq.mpr c60
                                                clear c60
                                                by_cases c61 : ((rd_T43 l0_5 x79_4).f0) = 3
                                                · rw [if_pos c61] at H
                                                  have c61b0 : (((rd_T43 l0_5 x79_4).f0) == 3) = true := beq_iff_eq.mpr c61
                                                  have c61b1 : (((rd_T43 l0_5 x79_4).f0) != 3) = false := bne_eq_false_iff_eq.mpr c61
                                                  clear c61
                                                  replace H := Option.bind_eq_some_iff.mp H
                                                  obtain ⟨t225, A620, H⟩ := H
                                                  replace H : (if t225 = true then (respelllaw07_RuleUnits.l1 kj38 l1 t209 t212 l0_5 (l0_5.length : Int) (wrap64 (x79_4 + 1)) a0_0 l0_1 l0_2 l0_3 a0_4 l0_5 a0_6) else (some false)) = some r := H
                                                  have A62 := Aside0.mk A620
                                                  clear A620
                                                  by_cases c63 : t225 = true
                                                  · subst c63
                                                    have H1 : (respelllaw07_RuleUnits.l1 kj38 l1 t209 t212 l0_5 (l0_5.length : Int) (wrap64 (x79_4 + 1)) a0_0 l0_1 l0_2 l0_3 a0_4 l0_5 a0_6) = some r := by rw [if_pos rfl] at H; exact H
                                                    clear H
                                                    have H := H1
                                                    clear H1
                                                    have H' := Aside0.mk H
                                                    clear H
                                                    go_wp2_with (first | ((with_reducible refine gate_callee (f := 20) rfl ?_); refine goesL_ (some 100) rfl rfl Try.func20 (by kernel_rfl) rfl #[.int .i64 x11_38] rfl (by (try simp only [List.map_toArray, List.map_cons, List.map_nil]); first | done | rfl | (simp only [List.length_drop, List.length_take]; rfl)) ?_; (with_reducible refine (utf_Width.calls kj38 x11_38 t223 _ A53.out).mono ?_); rintro e w' ⟨rfl, ⟨nd, rfl⟩⟩; refine ⟨_, rfl, ?_⟩; have hnb64 := NB220_207.out; have hnc64 := NB207_220.out; have hcz65_0 : wc.cell? ⟨gb220, 0, none⟩ = some (.int .i64 ((rd_T43 l0_5 x79_4).f0)) := (blk_cell BK220.out 0).trans rfl; have hcz65_1 : wc.cell? ⟨gb220, 1, none⟩ = some (.int .i64 ((rd_T43 l0_5 x79_4).f1)) := (blk_cell BK220.out 1).trans rfl; have hcz65_2 : wc.cell? ⟨gb220, 2, none⟩ = some (.int .i64 ((rd_T43 l0_5 x79_4).f2)) := (blk_cell BK220.out 2).trans rfl; have hcz65_3 : wc.cell? ⟨gb220, 3, none⟩ = some (.slice A219_3 ((rd_T43 l0_5 x79_4).f3).length c219_3) := (blk_cell BK220.out 3).trans rfl; have hfz65_0 := blk_frozen BK220.out 0; have hfz65_1 := blk_frozen BK220.out 1; have hfz65_2 := blk_frozen BK220.out 2; have hfz65_3 := blk_frozen BK220.out 3; have p224 : 0 ≤ (((rd_T43 l0_5 x79_4).f2) : Int) := of_decide_eq_true (by first | (with_reducible assumption) | assumption); have q224 : ((rd_T43 l0_5 x79_4).f2) < (l1.length : Int) := of_decide_eq_true (by first | (with_reducible assumption) | assumption); obtain ⟨ad224, e224, hx224_0⟩ := Kd.at_int HR1.out ((rd_T43 l0_5 x79_4).f2) p224 q224; cases e224; replace hx224_0 := (HB.out.cell (World.block_lt_of_cell? w _ hx224_0)).trans hx224_0; replace p224 := eq_true p224; replace q224 := eq_true q224) | (go_at_call 19; (with_reducible refine (set_Has.calls kj38 _ _ ((rd_T43 l0_5 x79_4).f3) x11_38 true _ ?side1 ?side2 A62.out).mono ?_); (case side1 => repeat (first | exact (Kd.C_below HR219_3.out (by repeat (first | (with_reducible first | exact HB.out | apply below_alloc | apply pw_below_drewN | apply below_drew1 | refine below_set ?_ GE207.out | refine below_set ?_ GE220.out) | exact HB.out))) | (with_reducible refine Kd.C_alloc ?_ _) | (with_reducible refine Kd.C_drewN ?_ _) | (with_reducible refine Kd.C_drew ?_))); (case side2 => exact HC219_3.out); rintro e w66 ⟨rfl, hb⟩; have n0_ := Aside0.mk (Kd.R_below (by (with_reducible repeat (first | apply Kd.R_alloc | apply Kd.R_drewN | apply Kd.R_drew)); exact HO_5.out) hb); have n1_ := Aside0.mk (Kd.R_below (by (with_reducible repeat (first | apply Kd.R_alloc | apply Kd.R_drewN | apply Kd.R_drew)); exact HO_6.out) hb); have n2_ := Aside0.mk (blk_below (g := gb207) (o := .cells #[.bool a0_0, .slice A0_1 l0_1.length c0_1, .slice A0_2 l0_2.length c0_2, .slice A0_3 l0_3.length c0_3, .bool a0_4, .slice (some ad219) l0_5.length c0_5, .int .i64 a0_6] 25 (0, 0)) (by (with_reducible repeat (first | refine blk_drewN ?_ _ | refine blk_drew ?_ | refine blk_alloc ?_ _)); exact BK207.out) hb); have n3_ := Aside0.mk (blk_below (g := gb220) (o := .cells #[.int .i64 ((rd_T43 l0_5 x79_4).f0), .int .i64 ((rd_T43 l0_5 x79_4).f1), .int .i64 ((rd_T43 l0_5 x79_4).f2), .slice A219_3 ((rd_T43 l0_5 x79_4).f3).length c219_3] 43 (0, 0)) (by (with_reducible repeat (first | refine blk_drewN ?_ _ | refine blk_drew ?_ | refine blk_alloc ?_ _)); exact BK220.out) hb); have n4_ := Aside0.mk (below_step (by repeat (first | (with_reducible first | exact HB.out | apply below_alloc | apply pw_below_drewN | apply below_drew1 | refine below_set ?_ GE207.out | refine below_set ?_ GE220.out) | exact HB.out)) hb); clear HO_5; clear HO_6; clear BK207; clear BK220; clear HB; have HO_5 := n0_; have HO_6 := n1_; have BK207 := n2_; have BK220 := n3_; have HB := n4_; clear n0_ n1_ n2_ n3_ n4_; (try clear hb); (try clear hb2); (try clear hk); (try clear hi)))
                                                    go_roundg kj38
                                                    case measure => have := HJ5.out; have := HJ17.out; have := HJ26.out; have := HK4.out; have := HJ38.out; omega
                                                    case rel => exact ⟨(wrap64 (x79_4 + 1)), (by first | rfl | (simp; done) | (simp [*]; done)), H', ⟨by have := HJ5.out; have := HJ17.out; have := HJ26.out; have := HK4.out; have := HJ38.out; omega⟩, ⟨by (with_reducible repeat (first | apply Kd.R_alloc | apply Kd.R_drewN | apply Kd.R_drew)); exact HO_5.out⟩, ⟨by (with_reducible repeat (first | apply Kd.R_alloc | apply Kd.R_drewN | apply Kd.R_drew)); exact HO_6.out⟩, ⟨by (with_reducible repeat (first | refine blk_drewN ?_ _ | refine blk_drew ?_ | refine blk_alloc ?_ _)); exact BK207.out⟩, ⟨by repeat (first | (with_reducible first | exact HB.out | apply below_alloc | apply pw_below_drewN | apply below_drew1 | refine below_set ?_ GE207.out | refine below_set ?_ GE220.out) | exact HB.out)⟩⟩
                                                  · replace c63 := Bool.eq_false_iff.mpr c63
                                                    subst c63
                                                    have H1 : (some false) = some r := by rw [if_neg (show ¬ (false = true) by decide)] at H; exact H
                                                    clear H
                                                    have H := H1
                                                    clear H1
                                                    obtain rfl := Option.some.inj H
                                                    go_wp2_with (first | ((with_reducible refine gate_callee (f := 20) rfl ?_); refine goesL_ (some 100) rfl rfl Try.func20 (by kernel_rfl) rfl #[.int .i64 x11_38] rfl (by (try simp only [List.map_toArray, List.map_cons, List.map_nil]); first | done | rfl | (simp only [List.length_drop, List.length_take]; rfl)) ?_; (with_reducible refine (utf_Width.calls kj38 x11_38 t223 _ A53.out).mono ?_); rintro e w' ⟨rfl, ⟨nd, rfl⟩⟩; refine ⟨_, rfl, ?_⟩; have hnb67 := NB220_207.out; have hnc67 := NB207_220.out; have hcz68_0 : wc.cell? ⟨gb220, 0, none⟩ = some (.int .i64 ((rd_T43 l0_5 x79_4).f0)) := (blk_cell BK220.out 0).trans rfl; have hcz68_1 : wc.cell? ⟨gb220, 1, none⟩ = some (.int .i64 ((rd_T43 l0_5 x79_4).f1)) := (blk_cell BK220.out 1).trans rfl; have hcz68_2 : wc.cell? ⟨gb220, 2, none⟩ = some (.int .i64 ((rd_T43 l0_5 x79_4).f2)) := (blk_cell BK220.out 2).trans rfl; have hcz68_3 : wc.cell? ⟨gb220, 3, none⟩ = some (.slice A219_3 ((rd_T43 l0_5 x79_4).f3).length c219_3) := (blk_cell BK220.out 3).trans rfl; have hfz68_0 := blk_frozen BK220.out 0; have hfz68_1 := blk_frozen BK220.out 1; have hfz68_2 := blk_frozen BK220.out 2; have hfz68_3 := blk_frozen BK220.out 3; have p224 : 0 ≤ (((rd_T43 l0_5 x79_4).f2) : Int) := of_decide_eq_true (by first | (with_reducible assumption) | assumption); have q224 : ((rd_T43 l0_5 x79_4).f2) < (l1.length : Int) := of_decide_eq_true (by first | (with_reducible assumption) | assumption); obtain ⟨ad224, e224, hx224_0⟩ := Kd.at_int HR1.out ((rd_T43 l0_5 x79_4).f2) p224 q224; cases e224; replace hx224_0 := (HB.out.cell (World.block_lt_of_cell? w _ hx224_0)).trans hx224_0; replace p224 := eq_true p224; replace q224 := eq_true q224) | (go_at_call 19; (with_reducible refine (set_Has.calls kj38 _ _ ((rd_T43 l0_5 x79_4).f3) x11_38 false _ ?side1 ?side2 A62.out).mono ?_); (case side1 => repeat (first | exact (Kd.C_below HR219_3.out (by repeat (first | (with_reducible first | exact HB.out | apply below_alloc | apply pw_below_drewN | apply below_drew1 | refine below_set ?_ GE207.out | refine below_set ?_ GE220.out) | exact HB.out))) | (with_reducible refine Kd.C_alloc ?_ _) | (with_reducible refine Kd.C_drewN ?_ _) | (with_reducible refine Kd.C_drew ?_))); (case side2 => exact HC219_3.out); rintro e w69 ⟨rfl, hb⟩; have n0_ := Aside0.mk (Kd.R_below (by (with_reducible repeat (first | apply Kd.R_alloc | apply Kd.R_drewN | apply Kd.R_drew)); exact HO_5.out) hb); have n1_ := Aside0.mk (Kd.R_below (by (with_reducible repeat (first | apply Kd.R_alloc | apply Kd.R_drewN | apply Kd.R_drew)); exact HO_6.out) hb); have n2_ := Aside0.mk (blk_below (g := gb207) (o := .cells #[.bool a0_0, .slice A0_1 l0_1.length c0_1, .slice A0_2 l0_2.length c0_2, .slice A0_3 l0_3.length c0_3, .bool a0_4, .slice (some ad219) l0_5.length c0_5, .int .i64 a0_6] 25 (0, 0)) (by (with_reducible repeat (first | refine blk_drewN ?_ _ | refine blk_drew ?_ | refine blk_alloc ?_ _)); exact BK207.out) hb); have n3_ := Aside0.mk (blk_below (g := gb220) (o := .cells #[.int .i64 ((rd_T43 l0_5 x79_4).f0), .int .i64 ((rd_T43 l0_5 x79_4).f1), .int .i64 ((rd_T43 l0_5 x79_4).f2), .slice A219_3 ((rd_T43 l0_5 x79_4).f3).length c219_3] 43 (0, 0)) (by (with_reducible repeat (first | refine blk_drewN ?_ _ | refine blk_drew ?_ | refine blk_alloc ?_ _)); exact BK220.out) hb); have n4_ := Aside0.mk (below_step (by repeat (first | (with_reducible first | exact HB.out | apply below_alloc | apply pw_below_drewN | apply below_drew1 | refine below_set ?_ GE207.out | refine below_set ?_ GE220.out) | exact HB.out)) hb); clear HO_5; clear HO_6; clear BK207; clear BK220; clear HB; have HO_5 := n0_; have HO_6 := n1_; have BK207 := n2_; have BK220 := n3_; have HB := n4_; clear n0_ n1_ n2_ n3_ n4_; (try clear hb); (try clear hb2); (try clear hk); (try clear hi)))
                                                    go_ret
                                                    exact ⟨by first | rfl | (simp [errW_none, errW_some] <;> rfl) | (simp [*, errW_none, errW_some] <;> rfl), by repeat (first | (with_reducible first | exact HB.out | apply below_alloc | apply pw_below_drewN | apply below_drew1 | refine below_set ?_ GE207.out | refine below_set ?_ GE220.out) | exact HB.out)⟩
                                                · rw [if_neg c61] at H
                                                  have c61b0 : (((rd_T43 l0_5 x79_4).f0) == 3) = false := beq_eq_false_iff_ne.mpr c61
                                                  have c61b1 : (((rd_T43 l0_5 x79_4).f0) != 3) = true := bne_iff_ne.mpr c61
                                                  have H' := Aside0.mk H
                                                  clear H
                                                  go_wp2_with (first | ((with_reducible refine gate_callee (f := 20) rfl ?_); refine goesL_ (some 100) rfl rfl Try.func20 (by kernel_rfl) rfl #[.int .i64 x11_38] rfl (by (try simp only [List.map_toArray, List.map_cons, List.map_nil]); first | done | rfl | (simp only [List.length_drop, List.length_take]; rfl)) ?_; (with_reducible refine (utf_Width.calls kj38 x11_38 t223 _ A53.out).mono ?_); rintro e w' ⟨rfl, ⟨nd, rfl⟩⟩; refine ⟨_, rfl, ?_⟩; have hnb70 := NB220_207.out; have hnc70 := NB207_220.out; have hcz71_0 : wc.cell? ⟨gb220, 0, none⟩ = some (.int .i64 ((rd_T43 l0_5 x79_4).f0)) := (blk_cell BK220.out 0).trans rfl; have hcz71_1 : wc.cell? ⟨gb220, 1, none⟩ = some (.int .i64 ((rd_T43 l0_5 x79_4).f1)) := (blk_cell BK220.out 1).trans rfl; have hcz71_2 : wc.cell? ⟨gb220, 2, none⟩ = some (.int .i64 ((rd_T43 l0_5 x79_4).f2)) := (blk_cell BK220.out 2).trans rfl; have hcz71_3 : wc.cell? ⟨gb220, 3, none⟩ = some (.slice A219_3 ((rd_T43 l0_5 x79_4).f3).length c219_3) := (blk_cell BK220.out 3).trans rfl; have hfz71_0 := blk_frozen BK220.out 0; have hfz71_1 := blk_frozen BK220.out 1; have hfz71_2 := blk_frozen BK220.out 2; have hfz71_3 := blk_frozen BK220.out 3; have p224 : 0 ≤ (((rd_T43 l0_5 x79_4).f2) : Int) := of_decide_eq_true (by first | (with_reducible assumption) | assumption); have q224 : ((rd_T43 l0_5 x79_4).f2) < (l1.length : Int) := of_decide_eq_true (by first | (with_reducible assumption) | assumption); obtain ⟨ad224, e224, hx224_0⟩ := Kd.at_int HR1.out ((rd_T43 l0_5 x79_4).f2) p224 q224; cases e224; replace hx224_0 := (HB.out.cell (World.block_lt_of_cell? w _ hx224_0)).trans hx224_0; replace p224 := eq_true p224; replace q224 := eq_true q224))
                                                  go_roundg kj38
                                                  case measure => have := HJ5.out; have := HJ17.out; have := HJ26.out; have := HK4.out; have := HJ38.out; omega
                                                  case rel => exact ⟨(wrap64 (x79_4 + 1)), (by first | rfl | (simp; done) | (simp [*]; done)), H', ⟨by have := HJ5.out; have := HJ17.out; have := HJ26.out; have := HK4.out; have := HJ38.out; omega⟩, ⟨by (with_reducible repeat (first | apply Kd.R_alloc | apply Kd.R_drewN | apply Kd.R_drew)); exact HO_5.out⟩, ⟨by (with_reducible repeat (first | apply Kd.R_alloc | apply Kd.R_drewN | apply Kd.R_drew)); exact HO_6.out⟩, ⟨by (with_reducible repeat (first | refine blk_drewN ?_ _ | refine blk_drew ?_ | refine blk_alloc ?_ _)); exact BK207.out⟩, ⟨by repeat (first | (with_reducible first | exact HB.out | apply below_alloc | apply pw_below_drewN | apply below_drew1 | refine below_set ?_ GE207.out | refine below_set ?_ GE220.out) | exact HB.out)⟩⟩
                                              · rw [if_neg c60] at H
                                                have c60b0 : (x11_38 == (rd l1 ((rd_T43 l0_5 x79_4).f2))) = false := beq_eq_false_iff_ne.mpr c60
                                                have c60b1 : (x11_38 != (rd l1 ((rd_T43 l0_5 x79_4).f2))) = true := bne_iff_ne.mpr c60
                                                obtain rfl := Option.some.inj H
                                                go_wp2_with (first | ((with_reducible refine gate_callee (f := 20) rfl ?_); refine goesL_ (some 100) rfl rfl Try.func20 (by kernel_rfl) rfl #[.int .i64 x11_38] rfl (by (try simp only [List.map_toArray, List.map_cons, List.map_nil]); first | done | rfl | (simp only [List.length_drop, List.length_take]; rfl)) ?_; (with_reducible refine (utf_Width.calls kj38 x11_38 t223 _ A53.out).mono ?_); rintro e w' ⟨rfl, ⟨nd, rfl⟩⟩; refine ⟨_, rfl, ?_⟩; have hnb72 := NB220_207.out; have hnc72 := NB207_220.out; have hcz73_0 : wc.cell? ⟨gb220, 0, none⟩ = some (.int .i64 ((rd_T43 l0_5 x79_4).f0)) := (blk_cell BK220.out 0).trans rfl; have hcz73_1 : wc.cell? ⟨gb220, 1, none⟩ = some (.int .i64 ((rd_T43 l0_5 x79_4).f1)) := (blk_cell BK220.out 1).trans rfl; have hcz73_2 : wc.cell? ⟨gb220, 2, none⟩ = some (.int .i64 ((rd_T43 l0_5 x79_4).f2)) := (blk_cell BK220.out 2).trans rfl; have hcz73_3 : wc.cell? ⟨gb220, 3, none⟩ = some (.slice A219_3 ((rd_T43 l0_5 x79_4).f3).length c219_3) := (blk_cell BK220.out 3).trans rfl; have hfz73_0 := blk_frozen BK220.out 0; have hfz73_1 := blk_frozen BK220.out 1; have hfz73_2 := blk_frozen BK220.out 2; have hfz73_3 := blk_frozen BK220.out 3; have p224 : 0 ≤ (((rd_T43 l0_5 x79_4).f2) : Int) := of_decide_eq_true (by first | (with_reducible assumption) | assumption); have q224 : ((rd_T43 l0_5 x79_4).f2) < (l1.length : Int) := of_decide_eq_true (by first | (with_reducible assumption) | assumption); obtain ⟨ad224, e224, hx224_0⟩ := Kd.at_int HR1.out ((rd_T43 l0_5 x79_4).f2) p224 q224; cases e224; replace hx224_0 := (HB.out.cell (World.block_lt_of_cell? w _ hx224_0)).trans hx224_0; replace p224 := eq_true p224; replace q224 := eq_true q224))
                                                go_ret
                                                exact ⟨by first | rfl | (simp [errW_none, errW_some] <;> rfl) | (simp [*, errW_none, errW_some] <;> rfl), by repeat (first | (with_reducible first | exact HB.out | apply below_alloc | apply pw_below_drewN | apply below_drew1 | refine below_set ?_ GE207.out | refine below_set ?_ GE220.out) | exact HB.out)⟩
                                            · rw [if_neg c59] at H
                                              exact absurd H (by simp)
                                          · rw [if_neg c58] at H
                                            exact absurd H (by simp)
                                        · rw [if_neg c57] at H
                                          have c57b0 : (((rd_T43 l0_5 x79_4).f0) == 2) = false := beq_eq_false_iff_ne.mpr c57
                                          have c57b1 : (((rd_T43 l0_5 x79_4).f0) != 2) = true := bne_iff_ne.mpr c57
                                          by_cases c74 : ((rd_T43 l0_5 x79_4).f0) = 3
                                          · rw [if_pos c74] at H
                                            have c74b0 : (((rd_T43 l0_5 x79_4).f0) == 3) = true := beq_iff_eq.mpr c74
                                            have c74b1 : (((rd_T43 l0_5 x79_4).f0) != 3) = false := bne_eq_false_iff_eq.mpr c74
                                            clear c74
                                            replace H := Option.bind_eq_some_iff.mp H
                                            obtain ⟨t226, A750, H⟩ := H
                                            replace H : (if t226 = true then (respelllaw07_RuleUnits.l1 kj38 l1 t209 t212 l0_5 (l0_5.length : Int) (wrap64 (x79_4 + 1)) a0_0 l0_1 l0_2 l0_3 a0_4 l0_5 a0_6) else (some false)) = some r := H
                                            have A75 := Aside0.mk A750
                                            clear A750
                                            by_cases c76 : t226 = true
                                            · subst c76
                                              have H1 : (respelllaw07_RuleUnits.l1 kj38 l1 t209 t212 l0_5 (l0_5.length : Int) (wrap64 (x79_4 + 1)) a0_0 l0_1 l0_2 l0_3 a0_4 l0_5 a0_6) = some r := by rw [if_pos rfl] at H; exact H
                                              clear H
                                              have H := H1
                                              clear H1
                                              have H' := Aside0.mk H
                                              clear H
                                              go_wp2_with (first | ((with_reducible refine gate_callee (f := 20) rfl ?_); refine goesL_ (some 100) rfl rfl Try.func20 (by kernel_rfl) rfl #[.int .i64 x11_38] rfl (by (try simp only [List.map_toArray, List.map_cons, List.map_nil]); first | done | rfl | (simp only [List.length_drop, List.length_take]; rfl)) ?_; (with_reducible refine (utf_Width.calls kj38 x11_38 t223 _ A53.out).mono ?_); rintro e w' ⟨rfl, ⟨nd, rfl⟩⟩; refine ⟨_, rfl, ?_⟩; have hnb77 := NB220_207.out; have hnc77 := NB207_220.out; have hcz78_0 : wc.cell? ⟨gb220, 0, none⟩ = some (.int .i64 ((rd_T43 l0_5 x79_4).f0)) := (blk_cell BK220.out 0).trans rfl; have hcz78_1 : wc.cell? ⟨gb220, 1, none⟩ = some (.int .i64 ((rd_T43 l0_5 x79_4).f1)) := (blk_cell BK220.out 1).trans rfl; have hcz78_2 : wc.cell? ⟨gb220, 2, none⟩ = some (.int .i64 ((rd_T43 l0_5 x79_4).f2)) := (blk_cell BK220.out 2).trans rfl; have hcz78_3 : wc.cell? ⟨gb220, 3, none⟩ = some (.slice A219_3 ((rd_T43 l0_5 x79_4).f3).length c219_3) := (blk_cell BK220.out 3).trans rfl; have hfz78_0 := blk_frozen BK220.out 0; have hfz78_1 := blk_frozen BK220.out 1; have hfz78_2 := blk_frozen BK220.out 2; have hfz78_3 := blk_frozen BK220.out 3) | (go_at_call 19; (with_reducible refine (set_Has.calls kj38 _ _ ((rd_T43 l0_5 x79_4).f3) x11_38 true _ ?side1 ?side2 A75.out).mono ?_); (case side1 => repeat (first | exact (Kd.C_below HR219_3.out (by repeat (first | (with_reducible first | exact HB.out | apply below_alloc | apply pw_below_drewN | apply below_drew1 | refine below_set ?_ GE207.out | refine below_set ?_ GE220.out) | exact HB.out))) | (with_reducible refine Kd.C_alloc ?_ _) | (with_reducible refine Kd.C_drewN ?_ _) | (with_reducible refine Kd.C_drew ?_))); (case side2 => exact HC219_3.out); rintro e w79 ⟨rfl, hb⟩; have n0_ := Aside0.mk (Kd.R_below (by (with_reducible repeat (first | apply Kd.R_alloc | apply Kd.R_drewN | apply Kd.R_drew)); exact HO_5.out) hb); have n1_ := Aside0.mk (Kd.R_below (by (with_reducible repeat (first | apply Kd.R_alloc | apply Kd.R_drewN | apply Kd.R_drew)); exact HO_6.out) hb); have n2_ := Aside0.mk (blk_below (g := gb207) (o := .cells #[.bool a0_0, .slice A0_1 l0_1.length c0_1, .slice A0_2 l0_2.length c0_2, .slice A0_3 l0_3.length c0_3, .bool a0_4, .slice (some ad219) l0_5.length c0_5, .int .i64 a0_6] 25 (0, 0)) (by (with_reducible repeat (first | refine blk_drewN ?_ _ | refine blk_drew ?_ | refine blk_alloc ?_ _)); exact BK207.out) hb); have n3_ := Aside0.mk (blk_below (g := gb220) (o := .cells #[.int .i64 ((rd_T43 l0_5 x79_4).f0), .int .i64 ((rd_T43 l0_5 x79_4).f1), .int .i64 ((rd_T43 l0_5 x79_4).f2), .slice A219_3 ((rd_T43 l0_5 x79_4).f3).length c219_3] 43 (0, 0)) (by (with_reducible repeat (first | refine blk_drewN ?_ _ | refine blk_drew ?_ | refine blk_alloc ?_ _)); exact BK220.out) hb); have n4_ := Aside0.mk (below_step (by repeat (first | (with_reducible first | exact HB.out | apply below_alloc | apply pw_below_drewN | apply below_drew1 | refine below_set ?_ GE207.out | refine below_set ?_ GE220.out) | exact HB.out)) hb); clear HO_5; clear HO_6; clear BK207; clear BK220; clear HB; have HO_5 := n0_; have HO_6 := n1_; have BK207 := n2_; have BK220 := n3_; have HB := n4_; clear n0_ n1_ n2_ n3_ n4_; (try clear hb); (try clear hb2); (try clear hk); (try clear hi)))
                                              go_roundg kj38
                                              case measure => have := HJ5.out; have := HJ17.out; have := HJ26.out; have := HK4.out; have := HJ38.out; omega
                                              case rel => exact ⟨(wrap64 (x79_4 + 1)), (by first | rfl | (simp; done) | (simp [*]; done)), H', ⟨by have := HJ5.out; have := HJ17.out; have := HJ26.out; have := HK4.out; have := HJ38.out; omega⟩, ⟨by (with_reducible repeat (first | apply Kd.R_alloc | apply Kd.R_drewN | apply Kd.R_drew)); exact HO_5.out⟩, ⟨by (with_reducible repeat (first | apply Kd.R_alloc | apply Kd.R_drewN | apply Kd.R_drew)); exact HO_6.out⟩, ⟨by (with_reducible repeat (first | refine blk_drewN ?_ _ | refine blk_drew ?_ | refine blk_alloc ?_ _)); exact BK207.out⟩, ⟨by repeat (first | (with_reducible first | exact HB.out | apply below_alloc | apply pw_below_drewN | apply below_drew1 | refine below_set ?_ GE207.out | refine below_set ?_ GE220.out) | exact HB.out)⟩⟩
                                            · replace c76 := Bool.eq_false_iff.mpr c76
                                              subst c76
                                              have H1 : (some false) = some r := by rw [if_neg (show ¬ (false = true) by decide)] at H; exact H
                                              clear H
                                              have H := H1
                                              clear H1
                                              obtain rfl := Option.some.inj H
                                              go_wp2_with (first | ((with_reducible refine gate_callee (f := 20) rfl ?_); refine goesL_ (some 100) rfl rfl Try.func20 (by kernel_rfl) rfl #[.int .i64 x11_38] rfl (by (try simp only [List.map_toArray, List.map_cons, List.map_nil]); first | done | rfl | (simp only [List.length_drop, List.length_take]; rfl)) ?_; (with_reducible refine (utf_Width.calls kj38 x11_38 t223 _ A53.out).mono ?_); rintro e w' ⟨rfl, ⟨nd, rfl⟩⟩; refine ⟨_, rfl, ?_⟩; have hnb80 := NB220_207.out; have hnc80 := NB207_220.out; have hcz81_0 : wc.cell? ⟨gb220, 0, none⟩ = some (.int .i64 ((rd_T43 l0_5 x79_4).f0)) := (blk_cell BK220.out 0).trans rfl; have hcz81_1 : wc.cell? ⟨gb220, 1, none⟩ = some (.int .i64 ((rd_T43 l0_5 x79_4).f1)) := (blk_cell BK220.out 1).trans rfl; have hcz81_2 : wc.cell? ⟨gb220, 2, none⟩ = some (.int .i64 ((rd_T43 l0_5 x79_4).f2)) := (blk_cell BK220.out 2).trans rfl; have hcz81_3 : wc.cell? ⟨gb220, 3, none⟩ = some (.slice A219_3 ((rd_T43 l0_5 x79_4).f3).length c219_3) := (blk_cell BK220.out 3).trans rfl; have hfz81_0 := blk_frozen BK220.out 0; have hfz81_1 := blk_frozen BK220.out 1; have hfz81_2 := blk_frozen BK220.out 2; have hfz81_3 := blk_frozen BK220.out 3) | (go_at_call 19; (with_reducible refine (set_Has.calls kj38 _ _ ((rd_T43 l0_5 x79_4).f3) x11_38 false _ ?side1 ?side2 A75.out).mono ?_); (case side1 => repeat (first | exact (Kd.C_below HR219_3.out (by repeat (first | (with_reducible first | exact HB.out | apply below_alloc | apply pw_below_drewN | apply below_drew1 | refine below_set ?_ GE207.out | refine below_set ?_ GE220.out) | exact HB.out))) | (with_reducible refine Kd.C_alloc ?_ _) | (with_reducible refine Kd.C_drewN ?_ _) | (with_reducible refine Kd.C_drew ?_))); (case side2 => exact HC219_3.out); rintro e w82 ⟨rfl, hb⟩; have n0_ := Aside0.mk (Kd.R_below (by (with_reducible repeat (first | apply Kd.R_alloc | apply Kd.R_drewN | apply Kd.R_drew)); exact HO_5.out) hb); have n1_ := Aside0.mk (Kd.R_below (by (with_reducible repeat (first | apply Kd.R_alloc | apply Kd.R_drewN | apply Kd.R_drew)); exact HO_6.out) hb); have n2_ := Aside0.mk (blk_below (g := gb207) (o := .cells #[.bool a0_0, .slice A0_1 l0_1.length c0_1, .slice A0_2 l0_2.length c0_2, .slice A0_3 l0_3.length c0_3, .bool a0_4, .slice (some ad219) l0_5.length c0_5, .int .i64 a0_6] 25 (0, 0)) (by (with_reducible repeat (first | refine blk_drewN ?_ _ | refine blk_drew ?_ | refine blk_alloc ?_ _)); exact BK207.out) hb); have n3_ := Aside0.mk (blk_below (g := gb220) (o := .cells #[.int .i64 ((rd_T43 l0_5 x79_4).f0), .int .i64 ((rd_T43 l0_5 x79_4).f1), .int .i64 ((rd_T43 l0_5 x79_4).f2), .slice A219_3 ((rd_T43 l0_5 x79_4).f3).length c219_3] 43 (0, 0)) (by (with_reducible repeat (first | refine blk_drewN ?_ _ | refine blk_drew ?_ | refine blk_alloc ?_ _)); exact BK220.out) hb); have n4_ := Aside0.mk (below_step (by repeat (first | (with_reducible first | exact HB.out | apply below_alloc | apply pw_below_drewN | apply below_drew1 | refine below_set ?_ GE207.out | refine below_set ?_ GE220.out) | exact HB.out)) hb); clear HO_5; clear HO_6; clear BK207; clear BK220; clear HB; have HO_5 := n0_; have HO_6 := n1_; have BK207 := n2_; have BK220 := n3_; have HB := n4_; clear n0_ n1_ n2_ n3_ n4_; (try clear hb); (try clear hb2); (try clear hk); (try clear hi)))
                                              go_ret
                                              exact ⟨by first | rfl | (simp [errW_none, errW_some] <;> rfl) | (simp [*, errW_none, errW_some] <;> rfl), by repeat (first | (with_reducible first | exact HB.out | apply below_alloc | apply pw_below_drewN | apply below_drew1 | refine below_set ?_ GE207.out | refine below_set ?_ GE220.out) | exact HB.out)⟩
                                          · rw [if_neg c74] at H
                                            have c74b0 : (((rd_T43 l0_5 x79_4).f0) == 3) = false := beq_eq_false_iff_ne.mpr c74
                                            have c74b1 : (((rd_T43 l0_5 x79_4).f0) != 3) = true := bne_iff_ne.mpr c74
                                            have H' := Aside0.mk H
                                            clear H
                                            go_wp2_with (first | ((with_reducible refine gate_callee (f := 20) rfl ?_); refine goesL_ (some 100) rfl rfl Try.func20 (by kernel_rfl) rfl #[.int .i64 x11_38] rfl (by (try simp only [List.map_toArray, List.map_cons, List.map_nil]); first | done | rfl | (simp only [List.length_drop, List.length_take]; rfl)) ?_; (with_reducible refine (utf_Width.calls kj38 x11_38 t223 _ A53.out).mono ?_); rintro e w' ⟨rfl, ⟨nd, rfl⟩⟩; refine ⟨_, rfl, ?_⟩; have hnb83 := NB220_207.out; have hnc83 := NB207_220.out; have hcz84_0 : wc.cell? ⟨gb220, 0, none⟩ = some (.int .i64 ((rd_T43 l0_5 x79_4).f0)) := (blk_cell BK220.out 0).trans rfl; have hcz84_1 : wc.cell? ⟨gb220, 1, none⟩ = some (.int .i64 ((rd_T43 l0_5 x79_4).f1)) := (blk_cell BK220.out 1).trans rfl; have hcz84_2 : wc.cell? ⟨gb220, 2, none⟩ = some (.int .i64 ((rd_T43 l0_5 x79_4).f2)) := (blk_cell BK220.out 2).trans rfl; have hcz84_3 : wc.cell? ⟨gb220, 3, none⟩ = some (.slice A219_3 ((rd_T43 l0_5 x79_4).f3).length c219_3) := (blk_cell BK220.out 3).trans rfl; have hfz84_0 := blk_frozen BK220.out 0; have hfz84_1 := blk_frozen BK220.out 1; have hfz84_2 := blk_frozen BK220.out 2; have hfz84_3 := blk_frozen BK220.out 3))
                                            go_roundg kj38
                                            case measure => have := HJ5.out; have := HJ17.out; have := HJ26.out; have := HK4.out; have := HJ38.out; omega
                                            case rel => exact ⟨(wrap64 (x79_4 + 1)), (by first | rfl | (simp; done) | (simp [*]; done)), H', ⟨by have := HJ5.out; have := HJ17.out; have := HJ26.out; have := HK4.out; have := HJ38.out; omega⟩, ⟨by (with_reducible repeat (first | apply Kd.R_alloc | apply Kd.R_drewN | apply Kd.R_drew)); exact HO_5.out⟩, ⟨by (with_reducible repeat (first | apply Kd.R_alloc | apply Kd.R_drewN | apply Kd.R_drew)); exact HO_6.out⟩, ⟨by (with_reducible repeat (first | refine blk_drewN ?_ _ | refine blk_drew ?_ | refine blk_alloc ?_ _)); exact BK207.out⟩, ⟨by repeat (first | (with_reducible first | exact HB.out | apply below_alloc | apply pw_below_drewN | apply below_drew1 | refine below_set ?_ GE207.out | refine below_set ?_ GE220.out) | exact HB.out)⟩⟩
                                      · rw [if_neg c56] at H
                                        have c56b0 : (x11_38 == ((rd_T43 l0_5 x79_4).f1)) = false := beq_eq_false_iff_ne.mpr c56
                                        have c56b1 : (x11_38 != ((rd_T43 l0_5 x79_4).f1)) = true := bne_iff_ne.mpr c56
                                        obtain rfl := Option.some.inj H
                                        go_wp2_with (first | ((with_reducible refine gate_callee (f := 20) rfl ?_); refine goesL_ (some 100) rfl rfl Try.func20 (by kernel_rfl) rfl #[.int .i64 x11_38] rfl (by (try simp only [List.map_toArray, List.map_cons, List.map_nil]); first | done | rfl | (simp only [List.length_drop, List.length_take]; rfl)) ?_; (with_reducible refine (utf_Width.calls kj38 x11_38 t223 _ A53.out).mono ?_); rintro e w' ⟨rfl, ⟨nd, rfl⟩⟩; refine ⟨_, rfl, ?_⟩; have hnb85 := NB220_207.out; have hnc85 := NB207_220.out; have hcz86_0 : wc.cell? ⟨gb220, 0, none⟩ = some (.int .i64 ((rd_T43 l0_5 x79_4).f0)) := (blk_cell BK220.out 0).trans rfl; have hcz86_1 : wc.cell? ⟨gb220, 1, none⟩ = some (.int .i64 ((rd_T43 l0_5 x79_4).f1)) := (blk_cell BK220.out 1).trans rfl; have hcz86_2 : wc.cell? ⟨gb220, 2, none⟩ = some (.int .i64 ((rd_T43 l0_5 x79_4).f2)) := (blk_cell BK220.out 2).trans rfl; have hcz86_3 : wc.cell? ⟨gb220, 3, none⟩ = some (.slice A219_3 ((rd_T43 l0_5 x79_4).f3).length c219_3) := (blk_cell BK220.out 3).trans rfl; have hfz86_0 := blk_frozen BK220.out 0; have hfz86_1 := blk_frozen BK220.out 1; have hfz86_2 := blk_frozen BK220.out 2; have hfz86_3 := blk_frozen BK220.out 3))
                                        go_ret
                                        exact ⟨by first | rfl | (simp [errW_none, errW_some] <;> rfl) | (simp [*, errW_none, errW_some] <;> rfl), by repeat (first | (with_reducible first | exact HB.out | apply below_alloc | apply pw_below_drewN | apply below_drew1 | refine below_set ?_ GE207.out | refine below_set ?_ GE220.out) | exact HB.out)⟩
                                    · rw [if_neg c55] at H
                                      have c55b0 : (((rd_T43 l0_5 x79_4).f0) == 1) = false := beq_eq_false_iff_ne.mpr c55
                                      have c55b1 : (((rd_T43 l0_5 x79_4).f0) != 1) = true := bne_iff_ne.mpr c55
                                      by_cases c87 : ((rd_T43 l0_5 x79_4).f0) = 2
                                      · rw [if_pos c87] at H
                                        have c87b0 : (((rd_T43 l0_5 x79_4).f0) == 2) = true := beq_iff_eq.mpr c87
                                        have c87b1 : (((rd_T43 l0_5 x79_4).f0) != 2) = false := bne_eq_false_iff_eq.mpr c87
                                        clear c87
                                        by_cases c88 : 0 ≤ ((rd_T43 l0_5 x79_4).f2)
                                        · rw [if_pos c88] at H
                                          have c88b0 : decide (0 ≤ ((rd_T43 l0_5 x79_4).f2)) = true := decide_eq_true c88
                                          clear c88
                                          by_cases c89 : ((rd_T43 l0_5 x79_4).f2) < (l1.length : Int)
                                          · rw [if_pos c89] at H
                                            have c89b0 : decide (((rd_T43 l0_5 x79_4).f2) < (l1.length : Int)) = true := decide_eq_true c89
                                            clear c89
                                            by_cases c90 : x11_38 = (rd l1 ((rd_T43 l0_5 x79_4).f2))
                                            · rw [if_pos c90] at H
                                              have c90b0 : (x11_38 == (rd l1 ((rd_T43 l0_5 x79_4).f2))) = true := beq_iff_eq.mpr c90
                                              have c90b1 : (x11_38 != (rd l1 ((rd_T43 l0_5 x79_4).f2))) = false := bne_eq_false_iff_eq.mpr c90
                                              clear c90
                                              by_cases c91 : ((rd_T43 l0_5 x79_4).f0) = 3
                                              · rw [if_pos c91] at H
                                                have c91b0 : (((rd_T43 l0_5 x79_4).f0) == 3) = true := beq_iff_eq.mpr c91
                                                have c91b1 : (((rd_T43 l0_5 x79_4).f0) != 3) = false := bne_eq_false_iff_eq.mpr c91
                                                clear c91
                                                replace H := Option.bind_eq_some_iff.mp H
                                                obtain ⟨t228, A920, H⟩ := H
                                                replace H : (if t228 = true then (respelllaw07_RuleUnits.l1 kj38 l1 t209 t212 l0_5 (l0_5.length : Int) (wrap64 (x79_4 + 1)) a0_0 l0_1 l0_2 l0_3 a0_4 l0_5 a0_6) else (some false)) = some r := H
                                                have A92 := Aside0.mk A920
                                                clear A920
                                                by_cases c93 : t228 = true
                                                · subst c93
                                                  have H1 : (respelllaw07_RuleUnits.l1 kj38 l1 t209 t212 l0_5 (l0_5.length : Int) (wrap64 (x79_4 + 1)) a0_0 l0_1 l0_2 l0_3 a0_4 l0_5 a0_6) = some r := by rw [if_pos rfl] at H; exact H
                                                  clear H
                                                  have H := H1
                                                  clear H1
                                                  have H' := Aside0.mk H
                                                  clear H
                                                  go_wp2_with (first | ((with_reducible refine gate_callee (f := 20) rfl ?_); refine goesL_ (some 100) rfl rfl Try.func20 (by kernel_rfl) rfl #[.int .i64 x11_38] rfl (by (try simp only [List.map_toArray, List.map_cons, List.map_nil]); first | done | rfl | (simp only [List.length_drop, List.length_take]; rfl)) ?_; (with_reducible refine (utf_Width.calls kj38 x11_38 t223 _ A53.out).mono ?_); rintro e w' ⟨rfl, ⟨nd, rfl⟩⟩; refine ⟨_, rfl, ?_⟩; have hnb94 := NB220_207.out; have hnc94 := NB207_220.out; have hcz95_0 : wc.cell? ⟨gb220, 0, none⟩ = some (.int .i64 ((rd_T43 l0_5 x79_4).f0)) := (blk_cell BK220.out 0).trans rfl; have hcz95_1 : wc.cell? ⟨gb220, 1, none⟩ = some (.int .i64 ((rd_T43 l0_5 x79_4).f1)) := (blk_cell BK220.out 1).trans rfl; have hcz95_2 : wc.cell? ⟨gb220, 2, none⟩ = some (.int .i64 ((rd_T43 l0_5 x79_4).f2)) := (blk_cell BK220.out 2).trans rfl; have hcz95_3 : wc.cell? ⟨gb220, 3, none⟩ = some (.slice A219_3 ((rd_T43 l0_5 x79_4).f3).length c219_3) := (blk_cell BK220.out 3).trans rfl; have hfz95_0 := blk_frozen BK220.out 0; have hfz95_1 := blk_frozen BK220.out 1; have hfz95_2 := blk_frozen BK220.out 2; have hfz95_3 := blk_frozen BK220.out 3; have p227 : 0 ≤ (((rd_T43 l0_5 x79_4).f2) : Int) := of_decide_eq_true (by first | (with_reducible assumption) | assumption); have q227 : ((rd_T43 l0_5 x79_4).f2) < (l1.length : Int) := of_decide_eq_true (by first | (with_reducible assumption) | assumption); obtain ⟨ad227, e227, hx227_0⟩ := Kd.at_int HR1.out ((rd_T43 l0_5 x79_4).f2) p227 q227; cases e227; replace hx227_0 := (HB.out.cell (World.block_lt_of_cell? w _ hx227_0)).trans hx227_0; replace p227 := eq_true p227; replace q227 := eq_true q227) | (go_at_call 19; (with_reducible refine (set_Has.calls kj38 _ _ ((rd_T43 l0_5 x79_4).f3) x11_38 true _ ?side1 ?side2 A92.out).mono ?_); (case side1 => repeat (first | exact (Kd.C_below HR219_3.out (by repeat (first | (with_reducible first | exact HB.out | apply below_alloc | apply pw_below_drewN | apply below_drew1 | refine below_set ?_ GE207.out | refine below_set ?_ GE220.out) | exact HB.out))) | (with_reducible refine Kd.C_alloc ?_ _) | (with_reducible refine Kd.C_drewN ?_ _) | (with_reducible refine Kd.C_drew ?_))); (case side2 => exact HC219_3.out); rintro e w96 ⟨rfl, hb⟩; have n0_ := Aside0.mk (Kd.R_below (by (with_reducible repeat (first | apply Kd.R_alloc | apply Kd.R_drewN | apply Kd.R_drew)); exact HO_5.out) hb); have n1_ := Aside0.mk (Kd.R_below (by (with_reducible repeat (first | apply Kd.R_alloc | apply Kd.R_drewN | apply Kd.R_drew)); exact HO_6.out) hb); have n2_ := Aside0.mk (blk_below (g := gb207) (o := .cells #[.bool a0_0, .slice A0_1 l0_1.length c0_1, .slice A0_2 l0_2.length c0_2, .slice A0_3 l0_3.length c0_3, .bool a0_4, .slice (some ad219) l0_5.length c0_5, .int .i64 a0_6] 25 (0, 0)) (by (with_reducible repeat (first | refine blk_drewN ?_ _ | refine blk_drew ?_ | refine blk_alloc ?_ _)); exact BK207.out) hb); have n3_ := Aside0.mk (blk_below (g := gb220) (o := .cells #[.int .i64 ((rd_T43 l0_5 x79_4).f0), .int .i64 ((rd_T43 l0_5 x79_4).f1), .int .i64 ((rd_T43 l0_5 x79_4).f2), .slice A219_3 ((rd_T43 l0_5 x79_4).f3).length c219_3] 43 (0, 0)) (by (with_reducible repeat (first | refine blk_drewN ?_ _ | refine blk_drew ?_ | refine blk_alloc ?_ _)); exact BK220.out) hb); have n4_ := Aside0.mk (below_step (by repeat (first | (with_reducible first | exact HB.out | apply below_alloc | apply pw_below_drewN | apply below_drew1 | refine below_set ?_ GE207.out | refine below_set ?_ GE220.out) | exact HB.out)) hb); clear HO_5; clear HO_6; clear BK207; clear BK220; clear HB; have HO_5 := n0_; have HO_6 := n1_; have BK207 := n2_; have BK220 := n3_; have HB := n4_; clear n0_ n1_ n2_ n3_ n4_; (try clear hb); (try clear hb2); (try clear hk); (try clear hi)))
                                                  go_roundg kj38
                                                  case measure => have := HJ5.out; have := HJ17.out; have := HJ26.out; have := HK4.out; have := HJ38.out; omega
                                                  case rel => exact ⟨(wrap64 (x79_4 + 1)), (by first | rfl | (simp; done) | (simp [*]; done)), H', ⟨by have := HJ5.out; have := HJ17.out; have := HJ26.out; have := HK4.out; have := HJ38.out; omega⟩, ⟨by (with_reducible repeat (first | apply Kd.R_alloc | apply Kd.R_drewN | apply Kd.R_drew)); exact HO_5.out⟩, ⟨by (with_reducible repeat (first | apply Kd.R_alloc | apply Kd.R_drewN | apply Kd.R_drew)); exact HO_6.out⟩, ⟨by (with_reducible repeat (first | refine blk_drewN ?_ _ | refine blk_drew ?_ | refine blk_alloc ?_ _)); exact BK207.out⟩, ⟨by repeat (first | (with_reducible first | exact HB.out | apply below_alloc | apply pw_below_drewN | apply below_drew1 | refine below_set ?_ GE207.out | refine below_set ?_ GE220.out) | exact HB.out)⟩⟩
                                                · replace c93 := Bool.eq_false_iff.mpr c93
                                                  subst c93
                                                  have H1 : (some false) = some r := by rw [if_neg (show ¬ (false = true) by decide)] at H; exact H
                                                  clear H
                                                  have H := H1
                                                  clear H1
                                                  obtain rfl := Option.some.inj H
                                                  go_wp2_with (first | ((with_reducible refine gate_callee (f := 20) rfl ?_); refine goesL_ (some 100) rfl rfl Try.func20 (by kernel_rfl) rfl #[.int .i64 x11_38] rfl (by (try simp only [List.map_toArray, List.map_cons, List.map_nil]); first | done | rfl | (simp only [List.length_drop, List.length_take]; rfl)) ?_; (with_reducible refine (utf_Width.calls kj38 x11_38 t223 _ A53.out).mono ?_); rintro e w' ⟨rfl, ⟨nd, rfl⟩⟩; refine ⟨_, rfl, ?_⟩; have hnb97 := NB220_207.out; have hnc97 := NB207_220.out; have hcz98_0 : wc.cell? ⟨gb220, 0, none⟩ = some (.int .i64 ((rd_T43 l0_5 x79_4).f0)) := (blk_cell BK220.out 0).trans rfl; have hcz98_1 : wc.cell? ⟨gb220, 1, none⟩ = some (.int .i64 ((rd_T43 l0_5 x79_4).f1)) := (blk_cell BK220.out 1).trans rfl; have hcz98_2 : wc.cell? ⟨gb220, 2, none⟩ = some (.int .i64 ((rd_T43 l0_5 x79_4).f2)) := (blk_cell BK220.out 2).trans rfl; have hcz98_3 : wc.cell? ⟨gb220, 3, none⟩ = some (.slice A219_3 ((rd_T43 l0_5 x79_4).f3).length c219_3) := (blk_cell BK220.out 3).trans rfl; have hfz98_0 := blk_frozen BK220.out 0; have hfz98_1 := blk_frozen BK220.out 1; have hfz98_2 := blk_frozen BK220.out 2; have hfz98_3 := blk_frozen BK220.out 3; have p227 : 0 ≤ (((rd_T43 l0_5 x79_4).f2) : Int) := of_decide_eq_true (by first | (with_reducible assumption) | assumption); have q227 : ((rd_T43 l0_5 x79_4).f2) < (l1.length : Int) := of_decide_eq_true (by first | (with_reducible assumption) | assumption); obtain ⟨ad227, e227, hx227_0⟩ := Kd.at_int HR1.out ((rd_T43 l0_5 x79_4).f2) p227 q227; cases e227; replace hx227_0 := (HB.out.cell (World.block_lt_of_cell? w _ hx227_0)).trans hx227_0; replace p227 := eq_true p227; replace q227 := eq_true q227) | (go_at_call 19; (with_reducible refine (set_Has.calls kj38 _ _ ((rd_T43 l0_5 x79_4).f3) x11_38 false _ ?side1 ?side2 A92.out).mono ?_); (case side1 => repeat (first | exact (Kd.C_below HR219_3.out (by repeat (first | (with_reducible first | exact HB.out | apply below_alloc | apply pw_below_drewN | apply below_drew1 | refine below_set ?_ GE207.out | refine below_set ?_ GE220.out) | exact HB.out))) | (with_reducible refine Kd.C_alloc ?_ _) | (with_reducible refine Kd.C_drewN ?_ _) | (with_reducible refine Kd.C_drew ?_))); (case side2 => exact HC219_3.out); rintro e w99 ⟨rfl, hb⟩; have n0_ := Aside0.mk (Kd.R_below (by (with_reducible repeat (first | apply Kd.R_alloc | apply Kd.R_drewN | apply Kd.R_drew)); exact HO_5.out) hb); have n1_ := Aside0.mk (Kd.R_below (by (with_reducible repeat (first | apply Kd.R_alloc | apply Kd.R_drewN | apply Kd.R_drew)); exact HO_6.out) hb); have n2_ := Aside0.mk (blk_below (g := gb207) (o := .cells #[.bool a0_0, .slice A0_1 l0_1.length c0_1, .slice A0_2 l0_2.length c0_2, .slice A0_3 l0_3.length c0_3, .bool a0_4, .slice (some ad219) l0_5.length c0_5, .int .i64 a0_6] 25 (0, 0)) (by (with_reducible repeat (first | refine blk_drewN ?_ _ | refine blk_drew ?_ | refine blk_alloc ?_ _)); exact BK207.out) hb); have n3_ := Aside0.mk (blk_below (g := gb220) (o := .cells #[.int .i64 ((rd_T43 l0_5 x79_4).f0), .int .i64 ((rd_T43 l0_5 x79_4).f1), .int .i64 ((rd_T43 l0_5 x79_4).f2), .slice A219_3 ((rd_T43 l0_5 x79_4).f3).length c219_3] 43 (0, 0)) (by (with_reducible repeat (first | refine blk_drewN ?_ _ | refine blk_drew ?_ | refine blk_alloc ?_ _)); exact BK220.out) hb); have n4_ := Aside0.mk (below_step (by repeat (first | (with_reducible first | exact HB.out | apply below_alloc | apply pw_below_drewN | apply below_drew1 | refine below_set ?_ GE207.out | refine below_set ?_ GE220.out) | exact HB.out)) hb); clear HO_5; clear HO_6; clear BK207; clear BK220; clear HB; have HO_5 := n0_; have HO_6 := n1_; have BK207 := n2_; have BK220 := n3_; have HB := n4_; clear n0_ n1_ n2_ n3_ n4_; (try clear hb); (try clear hb2); (try clear hk); (try clear hi)))
                                                  go_ret
                                                  exact ⟨by first | rfl | (simp [errW_none, errW_some] <;> rfl) | (simp [*, errW_none, errW_some] <;> rfl), by repeat (first | (with_reducible first | exact HB.out | apply below_alloc | apply pw_below_drewN | apply below_drew1 | refine below_set ?_ GE207.out | refine below_set ?_ GE220.out) | exact HB.out)⟩
                                              · rw [if_neg c91] at H
                                                have c91b0 : (((rd_T43 l0_5 x79_4).f0) == 3) = false := beq_eq_false_iff_ne.mpr c91
                                                have c91b1 : (((rd_T43 l0_5 x79_4).f0) != 3) = true := bne_iff_ne.mpr c91
                                                have H' := Aside0.mk H
                                                clear H
                                                go_wp2_with (first | ((with_reducible refine gate_callee (f := 20) rfl ?_); refine goesL_ (some 100) rfl rfl Try.func20 (by kernel_rfl) rfl #[.int .i64 x11_38] rfl (by (try simp only [List.map_toArray, List.map_cons, List.map_nil]); first | done | rfl | (simp only [List.length_drop, List.length_take]; rfl)) ?_; (with_reducible refine (utf_Width.calls kj38 x11_38 t223 _ A53.out).mono ?_); rintro e w' ⟨rfl, ⟨nd, rfl⟩⟩; refine ⟨_, rfl, ?_⟩; have hnb100 := NB220_207.out; have hnc100 := NB207_220.out; have hcz101_0 : wc.cell? ⟨gb220, 0, none⟩ = some (.int .i64 ((rd_T43 l0_5 x79_4).f0)) := (blk_cell BK220.out 0).trans rfl; have hcz101_1 : wc.cell? ⟨gb220, 1, none⟩ = some (.int .i64 ((rd_T43 l0_5 x79_4).f1)) := (blk_cell BK220.out 1).trans rfl; have hcz101_2 : wc.cell? ⟨gb220, 2, none⟩ = some (.int .i64 ((rd_T43 l0_5 x79_4).f2)) := (blk_cell BK220.out 2).trans rfl; have hcz101_3 : wc.cell? ⟨gb220, 3, none⟩ = some (.slice A219_3 ((rd_T43 l0_5 x79_4).f3).length c219_3) := (blk_cell BK220.out 3).trans rfl; have hfz101_0 := blk_frozen BK220.out 0; have hfz101_1 := blk_frozen BK220.out 1; have hfz101_2 := blk_frozen BK220.out 2; have hfz101_3 := blk_frozen BK220.out 3; have p227 : 0 ≤ (((rd_T43 l0_5 x79_4).f2) : Int) := of_decide_eq_true (by first | (with_reducible assumption) | assumption); have q227 : ((rd_T43 l0_5 x79_4).f2) < (l1.length : Int) := of_decide_eq_true (by first | (with_reducible assumption) | assumption); obtain ⟨ad227, e227, hx227_0⟩ := Kd.at_int HR1.out ((rd_T43 l0_5 x79_4).f2) p227 q227; cases e227; replace hx227_0 := (HB.out.cell (World.block_lt_of_cell? w _ hx227_0)).trans hx227_0; replace p227 := eq_true p227; replace q227 := eq_true q227))
                                                go_roundg kj38
                                                case measure => have := HJ5.out; have := HJ17.out; have := HJ26.out; have := HK4.out; have := HJ38.out; omega
                                                case rel => exact ⟨(wrap64 (x79_4 + 1)), (by first | rfl | (simp; done) | (simp [*]; done)), H', ⟨by have := HJ5.out; have := HJ17.out; have := HJ26.out; have := HK4.out; have := HJ38.out; omega⟩, ⟨by (with_reducible repeat (first | apply Kd.R_alloc | apply Kd.R_drewN | apply Kd.R_drew)); exact HO_5.out⟩, ⟨by (with_reducible repeat (first | apply Kd.R_alloc | apply Kd.R_drewN | apply Kd.R_drew)); exact HO_6.out⟩, ⟨by (with_reducible repeat (first | refine blk_drewN ?_ _ | refine blk_drew ?_ | refine blk_alloc ?_ _)); exact BK207.out⟩, ⟨by repeat (first | (with_reducible first | exact HB.out | apply below_alloc | apply pw_below_drewN | apply below_drew1 | refine below_set ?_ GE207.out | refine below_set ?_ GE220.out) | exact HB.out)⟩⟩
                                            · rw [if_neg c90] at H
                                              have c90b0 : (x11_38 == (rd l1 ((rd_T43 l0_5 x79_4).f2))) = false := beq_eq_false_iff_ne.mpr c90
                                              have c90b1 : (x11_38 != (rd l1 ((rd_T43 l0_5 x79_4).f2))) = true := bne_iff_ne.mpr c90
                                              obtain rfl := Option.some.inj H
                                              go_wp2_with (first | ((with_reducible refine gate_callee (f := 20) rfl ?_); refine goesL_ (some 100) rfl rfl Try.func20 (by kernel_rfl) rfl #[.int .i64 x11_38] rfl (by (try simp only [List.map_toArray, List.map_cons, List.map_nil]); first | done | rfl | (simp only [List.length_drop, List.length_take]; rfl)) ?_; (with_reducible refine (utf_Width.calls kj38 x11_38 t223 _ A53.out).mono ?_); rintro e w' ⟨rfl, ⟨nd, rfl⟩⟩; refine ⟨_, rfl, ?_⟩; have hnb102 := NB220_207.out; have hnc102 := NB207_220.out; have hcz103_0 : wc.cell? ⟨gb220, 0, none⟩ = some (.int .i64 ((rd_T43 l0_5 x79_4).f0)) := (blk_cell BK220.out 0).trans rfl; have hcz103_1 : wc.cell? ⟨gb220, 1, none⟩ = some (.int .i64 ((rd_T43 l0_5 x79_4).f1)) := (blk_cell BK220.out 1).trans rfl; have hcz103_2 : wc.cell? ⟨gb220, 2, none⟩ = some (.int .i64 ((rd_T43 l0_5 x79_4).f2)) := (blk_cell BK220.out 2).trans rfl; have hcz103_3 : wc.cell? ⟨gb220, 3, none⟩ = some (.slice A219_3 ((rd_T43 l0_5 x79_4).f3).length c219_3) := (blk_cell BK220.out 3).trans rfl; have hfz103_0 := blk_frozen BK220.out 0; have hfz103_1 := blk_frozen BK220.out 1; have hfz103_2 := blk_frozen BK220.out 2; have hfz103_3 := blk_frozen BK220.out 3; have p227 : 0 ≤ (((rd_T43 l0_5 x79_4).f2) : Int) := of_decide_eq_true (by first | (with_reducible assumption) | assumption); have q227 : ((rd_T43 l0_5 x79_4).f2) < (l1.length : Int) := of_decide_eq_true (by first | (with_reducible assumption) | assumption); obtain ⟨ad227, e227, hx227_0⟩ := Kd.at_int HR1.out ((rd_T43 l0_5 x79_4).f2) p227 q227; cases e227; replace hx227_0 := (HB.out.cell (World.block_lt_of_cell? w _ hx227_0)).trans hx227_0; replace p227 := eq_true p227; replace q227 := eq_true q227))
                                              go_ret
                                              exact ⟨by first | rfl | (simp [errW_none, errW_some] <;> rfl) | (simp [*, errW_none, errW_some] <;> rfl), by repeat (first | (with_reducible first | exact HB.out | apply below_alloc | apply pw_below_drewN | apply below_drew1 | refine below_set ?_ GE207.out | refine below_set ?_ GE220.out) | exact HB.out)⟩
                                          · rw [if_neg c89] at H
                                            exact absurd H (by simp)
                                        · rw [if_neg c88] at H
                                          exact absurd H (by simp)
                                      · rw [if_neg c87] at H
                                        have c87b0 : (((rd_T43 l0_5 x79_4).f0) == 2) = false := beq_eq_false_iff_ne.mpr c87
                                        have c87b1 : (((rd_T43 l0_5 x79_4).f0) != 2) = true := bne_iff_ne.mpr c87
                                        by_cases c104 : ((rd_T43 l0_5 x79_4).f0) = 3
                                        · rw [if_pos c104] at H
                                          have c104b0 : (((rd_T43 l0_5 x79_4).f0) == 3) = true := beq_iff_eq.mpr c104
                                          have c104b1 : (((rd_T43 l0_5 x79_4).f0) != 3) = false := bne_eq_false_iff_eq.mpr c104
                                          clear c104
                                          replace H := Option.bind_eq_some_iff.mp H
                                          obtain ⟨t229, A1050, H⟩ := H
                                          replace H : (if t229 = true then (respelllaw07_RuleUnits.l1 kj38 l1 t209 t212 l0_5 (l0_5.length : Int) (wrap64 (x79_4 + 1)) a0_0 l0_1 l0_2 l0_3 a0_4 l0_5 a0_6) else (some false)) = some r := H
                                          have A105 := Aside0.mk A1050
                                          clear A1050
                                          by_cases c106 : t229 = true
                                          · subst c106
                                            have H1 : (respelllaw07_RuleUnits.l1 kj38 l1 t209 t212 l0_5 (l0_5.length : Int) (wrap64 (x79_4 + 1)) a0_0 l0_1 l0_2 l0_3 a0_4 l0_5 a0_6) = some r := by rw [if_pos rfl] at H; exact H
                                            clear H
                                            have H := H1
                                            clear H1
                                            have H' := Aside0.mk H
                                            clear H
                                            go_wp2_with (first | ((with_reducible refine gate_callee (f := 20) rfl ?_); refine goesL_ (some 100) rfl rfl Try.func20 (by kernel_rfl) rfl #[.int .i64 x11_38] rfl (by (try simp only [List.map_toArray, List.map_cons, List.map_nil]); first | done | rfl | (simp only [List.length_drop, List.length_take]; rfl)) ?_; (with_reducible refine (utf_Width.calls kj38 x11_38 t223 _ A53.out).mono ?_); rintro e w' ⟨rfl, ⟨nd, rfl⟩⟩; refine ⟨_, rfl, ?_⟩; have hnb107 := NB220_207.out; have hnc107 := NB207_220.out; have hcz108_0 : wc.cell? ⟨gb220, 0, none⟩ = some (.int .i64 ((rd_T43 l0_5 x79_4).f0)) := (blk_cell BK220.out 0).trans rfl; have hcz108_1 : wc.cell? ⟨gb220, 1, none⟩ = some (.int .i64 ((rd_T43 l0_5 x79_4).f1)) := (blk_cell BK220.out 1).trans rfl; have hcz108_2 : wc.cell? ⟨gb220, 2, none⟩ = some (.int .i64 ((rd_T43 l0_5 x79_4).f2)) := (blk_cell BK220.out 2).trans rfl; have hcz108_3 : wc.cell? ⟨gb220, 3, none⟩ = some (.slice A219_3 ((rd_T43 l0_5 x79_4).f3).length c219_3) := (blk_cell BK220.out 3).trans rfl; have hfz108_0 := blk_frozen BK220.out 0; have hfz108_1 := blk_frozen BK220.out 1; have hfz108_2 := blk_frozen BK220.out 2; have hfz108_3 := blk_frozen BK220.out 3) | (go_at_call 19; (with_reducible refine (set_Has.calls kj38 _ _ ((rd_T43 l0_5 x79_4).f3) x11_38 true _ ?side1 ?side2 A105.out).mono ?_); (case side1 => repeat (first | exact (Kd.C_below HR219_3.out (by repeat (first | (with_reducible first | exact HB.out | apply below_alloc | apply pw_below_drewN | apply below_drew1 | refine below_set ?_ GE207.out | refine below_set ?_ GE220.out) | exact HB.out))) | (with_reducible refine Kd.C_alloc ?_ _) | (with_reducible refine Kd.C_drewN ?_ _) | (with_reducible refine Kd.C_drew ?_))); (case side2 => exact HC219_3.out); rintro e w109 ⟨rfl, hb⟩; have n0_ := Aside0.mk (Kd.R_below (by (with_reducible repeat (first | apply Kd.R_alloc | apply Kd.R_drewN | apply Kd.R_drew)); exact HO_5.out) hb); have n1_ := Aside0.mk (Kd.R_below (by (with_reducible repeat (first | apply Kd.R_alloc | apply Kd.R_drewN | apply Kd.R_drew)); exact HO_6.out) hb); have n2_ := Aside0.mk (blk_below (g := gb207) (o := .cells #[.bool a0_0, .slice A0_1 l0_1.length c0_1, .slice A0_2 l0_2.length c0_2, .slice A0_3 l0_3.length c0_3, .bool a0_4, .slice (some ad219) l0_5.length c0_5, .int .i64 a0_6] 25 (0, 0)) (by (with_reducible repeat (first | refine blk_drewN ?_ _ | refine blk_drew ?_ | refine blk_alloc ?_ _)); exact BK207.out) hb); have n3_ := Aside0.mk (blk_below (g := gb220) (o := .cells #[.int .i64 ((rd_T43 l0_5 x79_4).f0), .int .i64 ((rd_T43 l0_5 x79_4).f1), .int .i64 ((rd_T43 l0_5 x79_4).f2), .slice A219_3 ((rd_T43 l0_5 x79_4).f3).length c219_3] 43 (0, 0)) (by (with_reducible repeat (first | refine blk_drewN ?_ _ | refine blk_drew ?_ | refine blk_alloc ?_ _)); exact BK220.out) hb); have n4_ := Aside0.mk (below_step (by repeat (first | (with_reducible first | exact HB.out | apply below_alloc | apply pw_below_drewN | apply below_drew1 | refine below_set ?_ GE207.out | refine below_set ?_ GE220.out) | exact HB.out)) hb); clear HO_5; clear HO_6; clear BK207; clear BK220; clear HB; have HO_5 := n0_; have HO_6 := n1_; have BK207 := n2_; have BK220 := n3_; have HB := n4_; clear n0_ n1_ n2_ n3_ n4_; (try clear hb); (try clear hb2); (try clear hk); (try clear hi)))
                                            go_roundg kj38
                                            case measure => have := HJ5.out; have := HJ17.out; have := HJ26.out; have := HK4.out; have := HJ38.out; omega
                                            case rel => exact ⟨(wrap64 (x79_4 + 1)), (by first | rfl | (simp; done) | (simp [*]; done)), H', ⟨by have := HJ5.out; have := HJ17.out; have := HJ26.out; have := HK4.out; have := HJ38.out; omega⟩, ⟨by (with_reducible repeat (first | apply Kd.R_alloc | apply Kd.R_drewN | apply Kd.R_drew)); exact HO_5.out⟩, ⟨by (with_reducible repeat (first | apply Kd.R_alloc | apply Kd.R_drewN | apply Kd.R_drew)); exact HO_6.out⟩, ⟨by (with_reducible repeat (first | refine blk_drewN ?_ _ | refine blk_drew ?_ | refine blk_alloc ?_ _)); exact BK207.out⟩, ⟨by repeat (first | (with_reducible first | exact HB.out | apply below_alloc | apply pw_below_drewN | apply below_drew1 | refine below_set ?_ GE207.out | refine below_set ?_ GE220.out) | exact HB.out)⟩⟩
                                          · replace c106 := Bool.eq_false_iff.mpr c106
                                            subst c106
                                            have H1 : (some false) = some r := by rw [if_neg (show ¬ (false = true) by decide)] at H; exact H
                                            clear H
                                            have H := H1
                                            clear H1
                                            obtain rfl := Option.some.inj H
                                            go_wp2_with (first | ((with_reducible refine gate_callee (f := 20) rfl ?_); refine goesL_ (some 100) rfl rfl Try.func20 (by kernel_rfl) rfl #[.int .i64 x11_38] rfl (by (try simp only [List.map_toArray, List.map_cons, List.map_nil]); first | done | rfl | (simp only [List.length_drop, List.length_take]; rfl)) ?_; (with_reducible refine (utf_Width.calls kj38 x11_38 t223 _ A53.out).mono ?_); rintro e w' ⟨rfl, ⟨nd, rfl⟩⟩; refine ⟨_, rfl, ?_⟩; have hnb110 := NB220_207.out; have hnc110 := NB207_220.out; have hcz111_0 : wc.cell? ⟨gb220, 0, none⟩ = some (.int .i64 ((rd_T43 l0_5 x79_4).f0)) := (blk_cell BK220.out 0).trans rfl; have hcz111_1 : wc.cell? ⟨gb220, 1, none⟩ = some (.int .i64 ((rd_T43 l0_5 x79_4).f1)) := (blk_cell BK220.out 1).trans rfl; have hcz111_2 : wc.cell? ⟨gb220, 2, none⟩ = some (.int .i64 ((rd_T43 l0_5 x79_4).f2)) := (blk_cell BK220.out 2).trans rfl; have hcz111_3 : wc.cell? ⟨gb220, 3, none⟩ = some (.slice A219_3 ((rd_T43 l0_5 x79_4).f3).length c219_3) := (blk_cell BK220.out 3).trans rfl; have hfz111_0 := blk_frozen BK220.out 0; have hfz111_1 := blk_frozen BK220.out 1; have hfz111_2 := blk_frozen BK220.out 2; have hfz111_3 := blk_frozen BK220.out 3) | (go_at_call 19; (with_reducible refine (set_Has.calls kj38 _ _ ((rd_T43 l0_5 x79_4).f3) x11_38 false _ ?side1 ?side2 A105.out).mono ?_); (case side1 => repeat (first | exact (Kd.C_below HR219_3.out (by repeat (first | (with_reducible first | exact HB.out | apply below_alloc | apply pw_below_drewN | apply below_drew1 | refine below_set ?_ GE207.out | refine below_set ?_ GE220.out) | exact HB.out))) | (with_reducible refine Kd.C_alloc ?_ _) | (with_reducible refine Kd.C_drewN ?_ _) | (with_reducible refine Kd.C_drew ?_))); (case side2 => exact HC219_3.out); rintro e w112 ⟨rfl, hb⟩; have n0_ := Aside0.mk (Kd.R_below (by (with_reducible repeat (first | apply Kd.R_alloc | apply Kd.R_drewN | apply Kd.R_drew)); exact HO_5.out) hb); have n1_ := Aside0.mk (Kd.R_below (by (with_reducible repeat (first | apply Kd.R_alloc | apply Kd.R_drewN | apply Kd.R_drew)); exact HO_6.out) hb); have n2_ := Aside0.mk (blk_below (g := gb207) (o := .cells #[.bool a0_0, .slice A0_1 l0_1.length c0_1, .slice A0_2 l0_2.length c0_2, .slice A0_3 l0_3.length c0_3, .bool a0_4, .slice (some ad219) l0_5.length c0_5, .int .i64 a0_6] 25 (0, 0)) (by (with_reducible repeat (first | refine blk_drewN ?_ _ | refine blk_drew ?_ | refine blk_alloc ?_ _)); exact BK207.out) hb); have n3_ := Aside0.mk (blk_below (g := gb220) (o := .cells #[.int .i64 ((rd_T43 l0_5 x79_4).f0), .int .i64 ((rd_T43 l0_5 x79_4).f1), .int .i64 ((rd_T43 l0_5 x79_4).f2), .slice A219_3 ((rd_T43 l0_5 x79_4).f3).length c219_3] 43 (0, 0)) (by (with_reducible repeat (first | refine blk_drewN ?_ _ | refine blk_drew ?_ | refine blk_alloc ?_ _)); exact BK220.out) hb); have n4_ := Aside0.mk (below_step (by repeat (first | (with_reducible first | exact HB.out | apply below_alloc | apply pw_below_drewN | apply below_drew1 | refine below_set ?_ GE207.out | refine below_set ?_ GE220.out) | exact HB.out)) hb); clear HO_5; clear HO_6; clear BK207; clear BK220; clear HB; have HO_5 := n0_; have HO_6 := n1_; have BK207 := n2_; have BK220 := n3_; have HB := n4_; clear n0_ n1_ n2_ n3_ n4_; (try clear hb); (try clear hb2); (try clear hk); (try clear hi)))
                                            go_ret
                                            exact ⟨by first | rfl | (simp [errW_none, errW_some] <;> rfl) | (simp [*, errW_none, errW_some] <;> rfl), by repeat (first | (with_reducible first | exact HB.out | apply below_alloc | apply pw_below_drewN | apply below_drew1 | refine below_set ?_ GE207.out | refine below_set ?_ GE220.out) | exact HB.out)⟩
                                        · rw [if_neg c104] at H
                                          have c104b0 : (((rd_T43 l0_5 x79_4).f0) == 3) = false := beq_eq_false_iff_ne.mpr c104
                                          have c104b1 : (((rd_T43 l0_5 x79_4).f0) != 3) = true := bne_iff_ne.mpr c104
                                          have H' := Aside0.mk H
                                          clear H
                                          go_wp2_with (first | ((with_reducible refine gate_callee (f := 20) rfl ?_); refine goesL_ (some 100) rfl rfl Try.func20 (by kernel_rfl) rfl #[.int .i64 x11_38] rfl (by (try simp only [List.map_toArray, List.map_cons, List.map_nil]); first | done | rfl | (simp only [List.length_drop, List.length_take]; rfl)) ?_; (with_reducible refine (utf_Width.calls kj38 x11_38 t223 _ A53.out).mono ?_); rintro e w' ⟨rfl, ⟨nd, rfl⟩⟩; refine ⟨_, rfl, ?_⟩; have hnb113 := NB220_207.out; have hnc113 := NB207_220.out; have hcz114_0 : wc.cell? ⟨gb220, 0, none⟩ = some (.int .i64 ((rd_T43 l0_5 x79_4).f0)) := (blk_cell BK220.out 0).trans rfl; have hcz114_1 : wc.cell? ⟨gb220, 1, none⟩ = some (.int .i64 ((rd_T43 l0_5 x79_4).f1)) := (blk_cell BK220.out 1).trans rfl; have hcz114_2 : wc.cell? ⟨gb220, 2, none⟩ = some (.int .i64 ((rd_T43 l0_5 x79_4).f2)) := (blk_cell BK220.out 2).trans rfl; have hcz114_3 : wc.cell? ⟨gb220, 3, none⟩ = some (.slice A219_3 ((rd_T43 l0_5 x79_4).f3).length c219_3) := (blk_cell BK220.out 3).trans rfl; have hfz114_0 := blk_frozen BK220.out 0; have hfz114_1 := blk_frozen BK220.out 1; have hfz114_2 := blk_frozen BK220.out 2; have hfz114_3 := blk_frozen BK220.out 3))
                                          go_roundg kj38
                                          case measure => have := HJ5.out; have := HJ17.out; have := HJ26.out; have := HK4.out; have := HJ38.out; omega
                                          case rel => exact ⟨(wrap64 (x79_4 + 1)), (by first | rfl | (simp; done) | (simp [*]; done)), H', ⟨by have := HJ5.out; have := HJ17.out; have := HJ26.out; have := HK4.out; have := HJ38.out; omega⟩, ⟨by (with_reducible repeat (first | apply Kd.R_alloc | apply Kd.R_drewN | apply Kd.R_drew)); exact HO_5.out⟩, ⟨by (with_reducible repeat (first | apply Kd.R_alloc | apply Kd.R_drewN | apply Kd.R_drew)); exact HO_6.out⟩, ⟨by (with_reducible repeat (first | refine blk_drewN ?_ _ | refine blk_drew ?_ | refine blk_alloc ?_ _)); exact BK207.out⟩, ⟨by repeat (first | (with_reducible first | exact HB.out | apply below_alloc | apply pw_below_drewN | apply below_drew1 | refine below_set ?_ GE207.out | refine below_set ?_ GE220.out) | exact HB.out)⟩⟩
                            · rw [if_neg c38] at H
                              exact absurd H (by simp)
                          · rw [if_neg c37] at H
                            exact absurd H (by simp)
                        · rw [if_neg c36] at H
                          have c36b0 : decide (x79_4 < (l0_5.length : Int)) = false := decide_eq_false c36
                          clear c36
                          obtain rfl := Option.some.inj H
                          go_wp2
                          go_ret
                          exact ⟨by first | rfl | (simp [errW_none, errW_some] <;> rfl) | (simp [*, errW_none, errW_some] <;> rfl), by repeat (first | (with_reducible first | exact HB.out | apply below_alloc | apply pw_below_drewN | apply below_drew1 | refine below_set ?_ GE207.out) | exact HB.out)⟩
            · replace c26 := Bool.eq_false_iff.mpr c26
              subst c26
              have H1 : (if (t209.length : Int) = 0 then (some ((t212.length : Int) == 0)) else (some false)) = some r := by rw [if_neg (show ¬ (false = true) by decide)] at H; exact H
              clear H
              have H := H1
              clear H1
              by_cases c115 : (t209.length : Int) = 0
              · rw [if_pos c115] at H
                have c115b0 : ((t209.length : Int) == 0) = true := beq_iff_eq.mpr c115
                have c115b1 : ((t209.length : Int) != 0) = false := bne_eq_false_iff_eq.mpr c115
                clear c115
                obtain rfl := Option.some.inj H
                obtain ⟨Ao116, co116, eo116⟩ := Kd.R_slice HO_5.out
                subst eo116
                obtain ⟨Ao117, co117, eo117⟩ := Kd.R_slice HO_6.out
                subst eo117
                go_wp2
                go_ret
                exact ⟨by first | rfl | (simp [errW_none, errW_some] <;> rfl) | (simp [*, errW_none, errW_some] <;> rfl), by repeat (first | (with_reducible first | exact HB.out | apply below_alloc | apply pw_below_drewN | apply below_drew1 | refine below_set ?_ GE207.out) | exact HB.out)⟩
              · rw [if_neg c115] at H
                have c115b0 : ((t209.length : Int) == 0) = false := beq_eq_false_iff_ne.mpr c115
                have c115b1 : ((t209.length : Int) != 0) = true := bne_iff_ne.mpr c115
                have c115b2 : ¬ (t209 = []) := fun h_ => c115 (by rw [h_]; rfl)
                obtain rfl := Option.some.inj H
                obtain ⟨Ao118, co118, eo118⟩ := Kd.R_slice HO_5.out
                subst eo118
                go_wp2
                go_ret
                exact ⟨by first | rfl | (simp [errW_none, errW_some] <;> rfl) | (simp [*, errW_none, errW_some] <;> rfl), by repeat (first | (with_reducible first | exact HB.out | apply below_alloc | apply pw_below_drewN | apply below_drew1 | refine below_set ?_ GE207.out) | exact HB.out)⟩
  · replace c4 := Bool.eq_false_iff.mpr c4
    subst c4
    have H1 : (some false) = some r := by rw [if_neg (show ¬ (false = true) by decide)] at H; exact H
    clear H
    have H := H1
    clear H1
    obtain rfl := Option.some.inj H
    go_enter Try.func4, Try.ntmps4
    go_wp2_with (first | ((with_reducible refine gate_dst (N := 2) rfl ?_); (try (refine gate_guard (by rfl) ?_; dsimp only)); refine box_event ?hg (N := 2) ?hd (cs := #[.bool a0_0, .slice A0_1 l0_1.length c0_1, .slice A0_2 l0_2.length c0_2, .slice A0_3 l0_3.length c0_3, .bool a0_4, .slice A0_5 l0_5.length c0_5, .int .i64 a0_6]) (t := 25) ?hr ?_; (case hd => rfl); (case hg => rfl); (case hr => first | (go_simp; done) | (go_simp; rfl)); intro gb207 hg w119 hbox hb; have n0_ := Aside0.mk (below_step (by repeat (first | (with_reducible first | exact HB.out | apply below_alloc | apply pw_below_drewN | apply below_drew1) | exact HB.out)) hb); have n1_ := Aside0.mk (hbox); have n2_ := Aside0.mk ((by rw [hg]; exact (below_size (by repeat (first | (with_reducible first | exact HB.out | apply below_alloc | apply pw_below_drewN | apply below_drew1) | exact HB.out))) : w.heap.size ≤ gb207)); have n3_ := Aside0.mk ((by rw [hg]; exact (below_size (by repeat (first | (with_reducible first | exact HB.out | apply below_alloc | apply pw_below_drewN | apply below_drew1) | exact HB.out))) : w.heap.size ≤ gb207)); clear HB; have HB := n0_; have BK207 := n1_; have GW207 := n2_; have GE207 := n3_; clear n0_ n1_ n2_ n3_; clear hb hbox hg) | ((with_reducible refine gate_callee (f := 13) rfl ?_); refine goesL_ (some 12) rfl rfl Try.func13 (by kernel_rfl) rfl #[] rfl (by (try simp only [List.map_toArray, List.map_cons, List.map_nil]); first | done | rfl | (simp only [List.length_drop, List.length_take]; rfl)) ?_; (with_reducible refine (respelllaw07_shown.calls k  false _ A3.out).mono ?_); rintro e w120 ⟨rfl, hb⟩; refine ⟨_, rfl, ?_⟩; have n0_ := Aside0.mk (blk_below (g := gb207) (o := .cells #[.bool a0_0, .slice A0_1 l0_1.length c0_1, .slice A0_2 l0_2.length c0_2, .slice A0_3 l0_3.length c0_3, .bool a0_4, .slice A0_5 l0_5.length c0_5, .int .i64 a0_6] 25 (0, 0)) (by (with_reducible repeat (first | refine blk_drewN ?_ _ | refine blk_drew ?_ | refine blk_alloc ?_ _)); exact BK207.out) hb); have n1_ := Aside0.mk (below_step (by repeat (first | (with_reducible first | exact HB.out | apply below_alloc | apply pw_below_drewN | apply below_drew1 | refine below_set ?_ GE207.out) | exact HB.out)) hb); clear BK207; clear HB; have BK207 := n0_; have HB := n1_; clear n0_ n1_; (try clear hb); (try clear hb2); (try clear hk); (try clear hi)))
    go_ret
    exact ⟨by first | rfl | (simp [errW_none, errW_some] <;> rfl) | (simp [*, errW_none, errW_some] <;> rfl), by repeat (first | (with_reducible first | exact HB.out | apply below_alloc | apply pw_below_drewN | apply below_drew1 | refine below_set ?_ GE207.out) | exact HB.out)⟩
end Go.Proofs.Ytonljejhlphgpaa.G

