/- The document's examples of layer 6 hold. -/
import Derived.Test.YtabddkoehdddoaaPEx3
import Derived.Test.YtabddkoehdddoaaPEx4
import Derived.Test.YtabddkoehdddoaaDelimRead
namespace Go.Proofs.Ytabddkoehdddoaa.Pure
open Go Go.RowKit Go.Proofs.Ytabddkoehdddoaa.PE Go.Proofs.YtabddkoehdddoaaW.PrintWords Go.Proofs.YtabddkoehdddoaaW.PrintLast

theorem alive_is (k : Nat) (hk : 6 ≤ k) : lamplighterlaw06_alive.f k = some true := by
  have b1 : ∀ x ∈ ([77, 83, 72, 124, 94, 126, 92, 38, 124] : List Int), IsByte x := by unfold IsByte; decide
  have b2 : ∀ x ∈ ([77, 83, 72, 124, 94, 94, 92, 38, 124] : List Int), IsByte x := by unfold IsByte; decide
  unfold lamplighterlaw06_alive.f cv_lit_77_83_72_124_94_126_92_38_124.f cv_lit_77_83_72_124_94_94_92_38_124.f
  rw [Option.bind_some, Read_spec k hk _ b1, Option.bind_some, Option.bind_some, Read_spec k hk _ b2, Option.bind_some]
  have e1 : readS [77, 83, 72, 124, 94, 126, 92, 38, 124] = (124, 94, 126, 92, 38, 0) := by decide
  have e2 : readS [77, 83, 72, 124, 94, 94, 92, 38, 124] = (0, 0, 0, 0, 0, 11) := by decide
  rw [e1, e2]
  rfl
end Go.Proofs.Ytabddkoehdddoaa.Pure
