/- What the document's Right answers, as a law over five bytes; condition: fuel for a step each. -/
import Derived.Test.YtcjcaojgminjpabDoorPBx10
import Derived.Test.YtcjcaojgminjpabDoorDelim
namespace Go.Proofs.YtcjcaojgminjpabDoor
open Go Go.RowKit Go.Proofs.YtcjcaojgminjpabDoor.PB Go.Proofs.YtcjcaojgminjpabDoorW.PrintWords Go.Proofs.YtcjcaojgminjpabDoorW.PrintLast
theorem sign_spec (c : Int) : lamplighterref06_sign.f c = some (decide (OkS c)) := by
 have hO : OkS c ↔ (33 ≤ c ∧ c ≤ 126 ∧ ¬ (65 ≤ c ∧ c ≤ 90) ∧ ¬ (97 ≤ c ∧ c ≤ 122) ∧ ¬ (48 ≤ c ∧ c ≤ 57)) := Iff.rfl
 unfold lamplighterref06_sign.f
 by_cases h57 : c ≤ 57
 all_goals (simp only [h57, decide_true, decide_false, Bool.not_true, Bool.not_false])
 all_goals (repeat' split)
 all_goals first
  | exact congrArg some (decide_eq_false (fun h => by have := hO.1 h; omega)).symm
  | exact congrArg some (decide_eq_true (hO.2 (by omega))).symm
theorem ref_inner {l : List Int} (hb : l.length = 5) (i : Nat) (hi : i < 5) (D : Nat) (b : Bool) (H : ∀ k, D ≤ k → lamplighterref06_Right.l0 k l ((i + 1 : Nat) : Int) = some b) (d : Nat) :
  ∀ (k j : Nat), j ≤ i → i - j = d → D + d + 1 ≤ k → lamplighterref06_Right.l1 k l i j = some (decide (∀ m, m < i → j ≤ m → rd l m ≠ rd l i) && b) := by
 have hw1 : wrap64 ((i : Int) + 1) = ((i + 1 : Nat) : Int) := by unfold wrap64; omega
 induction d with
 | zero =>
  intro k j hj hd hk
  obtain ⟨k, rfl⟩ : ∃ m, k = m + 1 := ⟨k - 1, by omega⟩
  have q : ¬ ((j : Int) < (i : Int)) := by omega
  have q1 : ∀ m, m < i → j ≤ m → rd l m ≠ rd l i := fun m h1 h2 => by omega
  rw [lamplighterref06_Right.l1, if_neg q, hw1, H k (by omega), decide_eq_true q1]
  rfl
 | succ d ih =>
  intro k j hj hd hk
  obtain ⟨k, rfl⟩ : ∃ m, k = m + 1 := ⟨k - 1, by omega⟩
  have q : (j : Int) < (i : Int) := by omega
  have q0 : (0 : Int) ≤ (j : Int) := by omega
  have q1 : (j : Int) < (l.length : Int) := by rw [hb]; omega
  have q2 : (0 : Int) ≤ (i : Int) := by omega
  have q3 : (i : Int) < (l.length : Int) := by rw [hb]; omega
  have hw : wrap64 ((j : Int) + 1) = ((j + 1 : Nat) : Int) := by unfold wrap64; omega
  rw [lamplighterref06_Right.l1, if_pos q, if_pos q0, if_pos q1, if_pos q2, if_pos q3, hw, ih k (j + 1) (by omega) (by omega) (by omega)]
  by_cases e : rd l j = rd l i
  ·have q4 : ¬ ∀ m, m < i → j ≤ m → rd l m ≠ rd l i := fun h => h j (by omega) (Nat.le_refl _) e
   rw [if_pos e, decide_eq_false q4]
   rfl
  ·rw [if_neg e]
   congr 2
   rw [decide_eq_decide]
   constructor
   ·intro h m hm hj2
    by_cases e2 : m = j
    ·subst e2; exact e
    ·exact h m hm (by omega)
   ·intro h m hm hj2
    exact h m hm (by omega)
theorem ref_loop {l : List Int} (hb : l.length = 5) (d : Nat) : ∀ (k i : Nat), i ≤ 5 → 5 - i = d → 10 * d + 1 ≤ k → lamplighterref06_Right.l0 k l i = some (decide (FitFrom l i)) := by
 induction d with
 | zero =>
  intro k i hi hd hk
  obtain ⟨k, rfl⟩ : ∃ m, k = m + 1 := ⟨k - 1, by omega⟩
  have q : ¬ ((i : Int) < 5) := by omega
  have q1 : FitFrom l i := fun j hj hij => by omega
  rw [lamplighterref06_Right.l0, if_neg q, decide_eq_true q1]
 | succ d ih =>
  intro k i hi hd hk
  obtain ⟨k, rfl⟩ : ∃ m, k = m + 1 := ⟨k - 1, by omega⟩
  have hi5 : i < 5 := by omega
  have q : (i : Int) < 5 := by omega
  have q0 : (0 : Int) ≤ (i : Int) := by omega
  have q1 : (i : Int) < (l.length : Int) := by rw [hb]; omega
  have hfs := fit_step (l := l) hi5
  have hF : Fit l i ↔ OkS (rd l i) ∧ ∀ m, m < i → rd l m ≠ rd l i := Iff.rfl
  rw [lamplighterref06_Right.l0, if_pos q, if_pos q0, if_pos q1, sign_spec, Option.bind_some]
  by_cases ho : OkS (rd l i)
  ·have h0 : ((0 : Nat) : Int) = 0 := rfl
   have := ref_inner hb i hi5 (10 * d + 1) (decide (FitFrom l (i + 1))) (fun k hk => ih k (i + 1) (by omega) (by omega) hk) i k 0 (by omega) (by omega) (by omega)
   rw [h0] at this
   rw [if_pos (decide_eq_true ho), this, ← Bool.decide_and]
   congr 1
   rw [decide_eq_decide, hfs, hF]
   constructor
   ·intro h
    exact ⟨⟨ho, fun m hm => h.1 m hm (Nat.zero_le _)⟩, h.2⟩
   ·intro h
    exact ⟨fun m hm _ => h.1.2 m hm, h.2⟩
  ·rw [if_neg (fun h => ho (of_decide_eq_true h)), eq_comm]
   congr 1
   rw [decide_eq_false_iff_not, hfs, hF]
   intro h
   exact ho h.1.1
theorem refRight_spec (k : Nat) (hk : 51 ≤ k) (a b c d e : Int) : lamplighterref06_Right.f k a b c d e = some (decide (GoodS a b c d e)) := by
 unfold lamplighterref06_Right.f lamplighterref06_five.f
 rw [Option.bind_some]
 exact ref_loop rfl 5 k 0 (by omega) rfl (by omega)
end Go.Proofs.YtcjcaojgminjpabDoor
