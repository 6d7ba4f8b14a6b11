/- What a cut leaves of texts between a byte; no conditions. -/
import Derived.Test.YteaehlkpghpnkaaDoorCut
namespace Go.Proofs.YteaehlkpghpnkaaDoor.Pure
open Go
/-- What a cut leaves of texts: the first are whole, one is a beginning, the others are gone. -/
theorem cutL_take (c : UInt8) (l : List UInt8) : ∀ m : Nat, ∃ (j : Nat) (p q : List UInt8), j < (cutL c l).length ∧ cutL c (l.take m) = (cutL c l).take j ++ [p] ∧ (cutL c l).getD j [] = p ++ q := by
  induction l with
  | nil => intro m; exact ⟨0, [], [], by simp [cutL], by simp [cutL], by simp [cutL]⟩
  | cons x r ih =>
    intro m
    obtain ⟨h, t, e⟩ := cutL_form c r
    cases m with
    | zero =>
      refine ⟨0, [], (cutL c (x :: r)).getD 0 [], ?_, ?_, rfl⟩
      · exact cutL_length_pos c _
      · rfl
    | succ m =>
      obtain ⟨j, p, q, h1, h2, h3⟩ := ih m
      rw [List.take_succ_cons]
      by_cases hx : x = c
      · subst hx
        refine ⟨j + 1, p, q, ?_, ?_, ?_⟩
        · rw [cutL_hit, List.length_cons]; omega
        · rw [cutL_hit, cutL_hit, h2]; rfl
        · rw [cutL_hit, List.getD_cons_succ]; exact h3
      · rw [cutL_miss hx, cutL_miss hx, h2, e]
        rw [e] at h1 h3
        cases j with
        | zero =>
          refine ⟨0, x :: p, q, ?_, ?_, ?_⟩
          · simp
          · simp
          · simp only [List.getD_cons_zero, List.headD_cons] at h3 ⊢
            rw [h3]; rfl
        | succ j =>
          refine ⟨j + 1, p, q, ?_, ?_, ?_⟩
          · simpa using h1
          · simp
          · simpa using h3
end Go.Proofs.YteaehlkpghpnkaaDoor.Pure
