/- The plain law of ClassPairs. -/
import Derived.Test.YtejjdokicecojaaDoorG17
namespace Go.Proofs.YtejjdokicecojaaDoor.PairsP
open Go.RowKit Go.Proofs.YtejjdokicecojaaDoor.G Go.Proofs.YtejjdokicecojaaDoorW.PrintWords
theorem wrap_next {i : Nat} (h : i < 1000) : wrap64 ((i : Int) + 1) = ((i + 1 : Nat) : Int) := by unfold wrap64; omega
theorem l0_any (xs : List S31) (u : Int) (hl : xs.length < 1000) (d : Nat) : ∀ (k i : Nat), xs.length - i = d → i ≤ xs.length → d < k →
    respellref02_Has.l0 k xs u (i : Int) = some ((xs.drop i).any fun r => decide (r.f0 ≤ u) && decide (u ≤ r.f1)) := by
  induction d with
  | zero =>
    intro k i hd hi hk
    obtain ⟨k, rfl⟩ : ∃ m, k = m + 1 := ⟨k - 1, by omega⟩
    simp only [respellref02_Has.l0]
    rw [if_neg (by omega), List.drop_of_length_le (by omega)]
    rfl
  | succ d ih =>
    intro k i hd hi hk
    obtain ⟨k, rfl⟩ : ∃ m, k = m + 1 := ⟨k - 1, by omega⟩
    have hlt : i < xs.length := by omega
    have hrd : rd_T31 xs (i : Int) = xs[i] := by unfold rd_T31; simp [List.getD_eq_getElem?_getD, List.getElem?_eq_getElem hlt]
    have hn := ih k (i + 1) (by omega) (by omega) (by omega)
    simp only [respellref02_Has.l0]
    rw [if_pos (by omega), if_pos (by omega), hrd, wrap_next (by omega), hn, List.drop_eq_getElem_cons hlt, List.any_cons]
    by_cases h1 : xs[i].f0 ≤ u
    · rw [if_pos h1]
      by_cases h2 : u ≤ xs[i].f1
      · rw [if_pos h2]; simp [h1, h2]
      · rw [if_neg h2]; simp [h1, h2]
    · rw [if_neg h1]; simp [h1]
theorem has_any (xs : List S31) (u : Int) (k : Nat) (hl : xs.length < 1000) (hk : xs.length < k) (hv : respellref02_Valid.f k xs = some true) :
    respellref02_Has.f k xs u = some (xs.any fun r => decide (r.f0 ≤ u) && decide (u ≤ r.f1)) := by
  unfold respellref02_Has.f
  rw [hv]
  have := l0_any xs u hl xs.length k 0 (by omega) (by omega) hk
  simpa using this
def Gr (u : Int) : Prop := (0x41 ≤ u ∧ u ≤ 0x5A) ∨ (0xC0 ≤ u ∧ u ≤ 0xD6) ∨ (0xD8 ≤ u ∧ u ≤ 0xDE) ∨ (0x391 ≤ u ∧ u ≤ 0x3A1) ∨ (0x3A3 ≤ u ∧ u ≤ 0x3A9) ∨ (0x400 ≤ u ∧ u ≤ 0x42F)
def Sm (u : Int) : Prop := (0x61 ≤ u ∧ u ≤ 0x7A) ∨ (0xDF ≤ u ∧ u ≤ 0xF6) ∨ (0xF8 ≤ u ∧ u ≤ 0xFF) ∨ (0x3B1 ≤ u ∧ u ≤ 0x3C9) ∨ (0x430 ≤ u ∧ u ≤ 0x45F)
instance (u : Int) : Decidable (Gr u) := by unfold Gr; infer_instance
instance (u : Int) : Decidable (Sm u) := by unfold Sm; infer_instance
def lows : List S31 := (ofL ⟨#[108, 111, 119, 101, 114]⟩).1
def ups : List S31 := (ofL ⟨#[117, 112, 112, 101, 114]⟩).1
theorem any_gr (u : Int) : (ups.any fun r => decide (r.f0 ≤ u) && decide (u ≤ r.f1)) = decide (Gr u) := by
  have e : ups = [⟨0x41, 0x5A⟩, ⟨0xC0, 0xD6⟩, ⟨0xD8, 0xDE⟩, ⟨0x391, 0x3A1⟩, ⟨0x3A3, 0x3A9⟩, ⟨0x400, 0x42F⟩] := by kernel_rfl
  rw [e]
  simp only [List.any_cons, List.any_nil, Bool.or_false, ← Bool.decide_and, ← Bool.decide_or]
  rfl
theorem any_sm (u : Int) : (lows.any fun r => decide (r.f0 ≤ u) && decide (u ≤ r.f1)) = decide (Sm u) := by
  have e : lows = [⟨0x61, 0x7A⟩, ⟨0xDF, 0xF6⟩, ⟨0xF8, 0xFF⟩, ⟨0x3B1, 0x3C9⟩, ⟨0x430, 0x45F⟩] := by kernel_rfl
  rw [e]
  simp only [List.any_cons, List.any_nil, Bool.or_false, ← Bool.decide_and, ← Bool.decide_or]
  rfl
theorem valid_ups (k : Nat) : respellref02_Valid.f (k + 40) ups = some true := by
  have h : respellref02_Valid.f 40 ups = some true := by kernel_rfl
  induction k with
  | zero => simpa using h
  | succ k ih => rw [show k + 1 + 40 = (k + 40) + 1 by omega]; exact respellref02_Valid.mono ups (k + 40) true ih
theorem valid_lows (k : Nat) : respellref02_Valid.f (k + 40) lows = some true := by
  have h : respellref02_Valid.f 40 lows = some true := by kernel_rfl
  induction k with
  | zero => simpa using h
  | succ k ih => rw [show k + 1 + 40 = (k + 40) + 1 by omega]; exact respellref02_Valid.mono lows (k + 40) true ih
theorem has_ups (u : Int) (k : Nat) : respellref02_Has.f (k + 40) ups u = some (decide (Gr u)) := by
  have e : ups.length = 6 := by kernel_rfl
  rw [has_any ups u (k + 40) (by omega) (by omega) (valid_ups k), any_gr]
theorem has_lows (u : Int) (k : Nat) : respellref02_Has.f (k + 40) lows u = some (decide (Sm u)) := by
  have e : lows.length = 5 := by kernel_rfl
  rw [has_any lows u (k + 40) (by omega) (by omega) (valid_lows k), any_sm]
def InA (u : Int) : Prop := (0x41 ≤ u ∧ u ≤ 0x5A) ∨ (0xC0 ≤ u ∧ u ≤ 0xD6) ∨ (0xD8 ≤ u ∧ u ≤ 0xDE) ∨ (0x391 ≤ u ∧ u ≤ 0x3A1) ∨ (0x3A3 ≤ u ∧ u ≤ 0x3A9) ∨ (0x410 ≤ u ∧ u ≤ 0x42F)
theorem low_spec (u : Int) : (lowF u = u + 0x20 ∧ InA u) ∨ (lowF u = u + 0x50 ∧ 0x400 ≤ u ∧ u ≤ 0x40F) ∨ (lowF u = u ∧ ¬ InA u ∧ ¬ (0x400 ≤ u ∧ u ≤ 0x40F)) := by
  unfold lowF InA
  (repeat' split) <;> omega
theorem up_spec (u : Int) : (upF u = u - 0x20 ∧ InA (u - 0x20)) ∨ (upF u = u - 0x50 ∧ 0x450 ≤ u ∧ u ≤ 0x45F) ∨ (upF u = u ∧ ¬ InA (u - 0x20) ∧ ¬ (0x450 ≤ u ∧ u ≤ 0x45F)) := by
  unfold upF InA
  (repeat' split) <;> omega
theorem low_cases (u : Int) : (lowF u = u ∧ ¬ Gr u) ∨ (Gr u ∧ ¬ Sm u ∧ upF (lowF u) = u ∧ Sm (lowF u) ∧ lowF u ≠ u ∧ upF u = u) := by
  have L := low_spec u
  have U := up_spec (lowF u)
  have V := up_spec u
  revert L U V
  generalize upF (lowF u) = a
  generalize upF u = c
  generalize lowF u = b
  unfold Gr Sm InA
  intro L U V
  rcases L with ⟨h, L⟩ | ⟨h, L⟩ | ⟨h, L⟩
  · right; refine ⟨?_, ?_, ?_, ?_, ?_, ?_⟩ <;> omega
  · right; refine ⟨?_, ?_, ?_, ?_, ?_, ?_⟩ <;> omega
  · left; omega
theorem up_cases (u : Int) : (upF u = u ∧ (Sm u → u = 0xDF ∨ u = 0xFF ∨ u = 0x3C2)) ∨ (Sm u ∧ lowF (upF u) = u ∧ Gr (upF u) ∧ upF u ≠ u ∧ lowF u = u) := by
  have L := up_spec u
  have U := low_spec (upF u)
  have V := low_spec u
  revert L U V
  generalize lowF (upF u) = a
  generalize lowF u = c
  generalize upF u = b
  unfold Gr Sm InA
  intro L U V
  rcases L with ⟨h, L⟩ | ⟨h, L⟩ | ⟨h, L⟩
  · right; refine ⟨?_, ?_, ?_, ?_, ?_⟩ <;> omega
  · right; refine ⟨?_, ?_, ?_, ?_, ?_⟩ <;> omega
  · left; refine ⟨h, ?_⟩; omega
theorem j2_true (u : Int) (k : Nat) (h1 : (decide (Gr u) == (lowF u != u)) = true) (h2 : ¬ (Gr u ∧ Sm u)) (h3 : Sm u → upF u = u → u = 0xDF ∨ u = 0xFF ∨ u = 0x3C2) :
    respelllaw03_ClassPairs.j2 (k + 41) u (lowF u) (upF u) lows ups false = some true := by
  simp only [respelllaw03_ClassPairs.j2]
  simp only [has_ups, has_lows, Option.bind_some]
  rw [if_neg (by decide), if_pos h1]
  by_cases g : Gr u
  · have s : ¬ Sm u := fun s => h2 ⟨g, s⟩
    simp [g, s]
  · by_cases s : Sm u
    · simp only [g, s, decide_true, decide_false]
      simp
      intro e a b
      rcases h3 s e with c | c | c
      · exact absurd c a
      · exact absurd c b
      · exact c
    · simp [g, s]
theorem pure_true (u : Int) : respelllaw03_ClassPairs.f 60 u = some true := by
  have hs : respelllaw03_shown.f 60 = some true := by kernel_rfl
  have o1 : class_Of.f ⟨#[108, 111, 119, 101, 114]⟩ = some (lows, 0) := by kernel_rfl
  have o2 : class_Of.f ⟨#[117, 112, 112, 101, 114]⟩ = some (ups, 0) := by kernel_rfl
  unfold respelllaw03_ClassPairs.f
  rw [hs, o1, o2]
  simp only [Option.bind_some, class_Lower.f, class_Upper.f, if_true]
  have L := low_cases u
  have U := up_cases u
  have hj2 : ∀ k, respelllaw03_ClassPairs.j2 (k + 41) u (lowF u) (upF u) lows ups false = some true := fun k => by
    refine j2_true u k ?_ ?_ ?_
    · rcases L with ⟨e, g⟩ | ⟨g, _, _, _, e, _⟩
      · simp [e, g]
      · simp [e, g]
    · rintro ⟨g, s⟩
      rcases L with ⟨e, g'⟩ | ⟨_, s', _⟩
      · exact g' g
      · exact s' s
    · intro s e
      rcases U with ⟨_, h⟩ | ⟨_, _, _, h, _⟩
      · exact h s
      · exact absurd e h
  have hj1 : ∀ k, respelllaw03_ClassPairs.j1 (k + 42) u (lowF u) (upF u) lows ups false = some true := fun k => by
    simp only [respelllaw03_ClassPairs.j1]
    rw [if_neg (by decide)]
    by_cases e : upF u = u
    · rw [if_pos e]; exact hj2 k
    · rw [if_neg e]
      rcases U with ⟨h, _⟩ | ⟨s, lu, g, _, _⟩
      · exact absurd h e
      · simp only [class_Lower.f, Option.bind_some]
        rw [if_pos lu, show k + 41 = (k + 1) + 40 by omega, has_lows, has_ups]
        simp only [Option.bind_some, s, g, decide_true, if_true, Bool.not_true]
        exact hj2 k
  have hj0 : ∀ k, respelllaw03_ClassPairs.j0 (k + 43) u (lowF u) (upF u) lows ups false = some true := fun k => by
    simp only [respelllaw03_ClassPairs.j0]
    rw [if_neg (by decide)]
    by_cases e : lowF u = u
    · rw [if_pos e]; exact hj1 k
    · rw [if_neg e]
      rcases L with ⟨h, _⟩ | ⟨g, _, ul, s, _, _⟩
      · exact absurd h e
      · simp only [class_Upper.f, Option.bind_some]
        rw [if_pos ul, show k + 42 = (k + 2) + 40 by omega, has_ups, has_lows]
        simp only [Option.bind_some, s, g, decide_true, if_true, Bool.not_true]
        exact hj1 k
  by_cases e : lowF u = u
  · rw [if_pos e]; exact hj0 17
  · rw [if_neg e]
    rcases L with ⟨h, _⟩ | ⟨_, _, _, _, _, h⟩
    · exact absurd h e
    · rw [show (upF u != u) = false by simp [h]]
      exact hj0 17
end Go.Proofs.YtejjdokicecojaaDoor.PairsP
