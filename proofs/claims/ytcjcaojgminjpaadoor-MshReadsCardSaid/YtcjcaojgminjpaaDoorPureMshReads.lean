/- The law MshReads as a statement over bytes: the head that is read is the document's, or why there is none; conditions: the numbers are bytes. -/
import Derived.Test.YtcjcaojgminjpaaDoorPAx14
import Derived.Test.YtcjcaojgminjpaaDoorAlive09
import Derived.Test.YtcjcaojgminjpaaDoorRefRead9
namespace Go.Proofs.YtcjcaojgminjpaaDoor.Pure
open Go Go.RowKit Go.Proofs.YtcjcaojgminjpaaDoor.PA Go.Proofs.YtcjcaojgminjpaaDoorW.PrintWords Go.Proofs.YtcjcaojgminjpaaDoorW.PrintLast
theorem MshReads (l : List Int) (h : ∀ x ∈ l, IsByte x) : ∃ k, lamplighterlaw09_MshReads.f k l = some true := by
  refine ⟨4000, ?_⟩
  unfold lamplighterlaw09_MshReads.f
  by_cases h0 : (l.length : Int) > 3000
  · rw [if_pos h0, alive9_is 4000 (by decide), Option.bind_some]
  · have hl : l.length ≤ 3000 := by omega
    rw [if_neg h0, MRead_spec 4000 (by decide) l h (by omega), Option.bind_some, refMRead_spec 4000 l h (by omega) (by omega), Option.bind_some, alive9_is 4000 (by decide), Option.bind_some, if_pos rfl]
    simp only [beq_self_eq_true, Bool.and_self, if_true]
end Go.Proofs.YtcjcaojgminjpaaDoor.Pure
