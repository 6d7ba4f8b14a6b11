/- The law AckReads as a statement over bytes: what an answer tells is the document's, or why it is none; conditions: the numbers are bytes. -/
import Derived.Test.YtcjcaojgminjpabDoorPBx18
import Derived.Test.YtcjcaojgminjpabDoorAlive10
import Derived.Test.YtcjcaojgminjpabDoorRefAckRead
namespace Go.Proofs.YtcjcaojgminjpabDoor.Pure
open Go Go.RowKit Go.Proofs.YtcjcaojgminjpabDoor.PB Go.Proofs.YtcjcaojgminjpabDoorW.PrintWords Go.Proofs.YtcjcaojgminjpabDoorW.PrintLast
theorem AckReads (l : List Int) (h : ∀ x ∈ l, IsByte x) : ∃ k, lamplighterlaw10_AckReads.f k l = some true := by
 refine ⟨5000, ?_⟩
 unfold lamplighterlaw10_AckReads.f
 by_cases h0 : (l.length : Int) > 3000
 ·rw [if_pos h0, alive10_is 5000 (by decide), Option.bind_some]
 ·have hl : l.length ≤ 3000 := by omega
  rw [if_neg h0, ackRead_spec 5000 (by decide) l h (by omega), Option.bind_some, refAckRead_spec 5000 l (by omega) h (by omega), Option.bind_some, alive10_is 5000 (by decide), Option.bind_some, if_pos rfl]
  simp only [beq_self_eq_true, Bool.and_self, if_true]
end Go.Proofs.YtcjcaojgminjpabDoor.Pure
