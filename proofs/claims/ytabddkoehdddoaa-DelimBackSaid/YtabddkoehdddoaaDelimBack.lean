/- What is read of the bytes that tell signs, with bytes behind; no conditions but that the signs may be. -/
import Derived.Test.YtabddkoehdddoaaDelimRead
namespace Go.Proofs.Ytabddkoehdddoaa.Pure
open Go Go.RowKit Go.Proofs.Ytabddkoehdddoaa.PE Go.Proofs.YtabddkoehdddoaaW.PrintWords Go.Proofs.YtabddkoehdddoaaW.PrintLast
theorem readS_full {c c1 c2 c3 c4 : Int} (hg : GoodS c c1 c2 c3 c4) (x : Int) (t : List Int) : readS (77 :: 83 :: 72 :: c :: c1 :: c2 :: c3 :: c4 :: x :: t) = if x = c ∨ x = 13 then (c, c1, c2, c3, c4, 0) else (0, 0, 0, 0, 0, 11) := by
  unfold readS
  rw [if_neg (by simp only [List.length_cons]; omega)]
  by_cases hx : x = c ∨ x = 13
  · rw [if_pos hx]
    exact if_pos ⟨rfl, hg, hx⟩
  · rw [if_neg hx]
    exact if_neg (fun h => hx h.2.2)
theorem readS_short (c c1 c2 c3 c4 : Int) : readS [77, 83, 72, c, c1, c2, c3, c4] = (0, 0, 0, 0, 0, 7) := rfl
end Go.Proofs.Ytabddkoehdddoaa.Pure
