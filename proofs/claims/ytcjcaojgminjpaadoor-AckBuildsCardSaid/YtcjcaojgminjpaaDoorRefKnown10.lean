/- Which codes the document knows; no conditions. -/
import Derived.Test.YtcjcaojgminjpaaDoorPDx14
import Derived.Test.YtcjcaojgminjpaaDoorAck
namespace Go.Proofs.YtcjcaojgminjpaaDoor.Pure
open Go Go.RowKit Go.Proofs.YtcjcaojgminjpaaDoor.PD Go.Proofs.YtcjcaojgminjpaaDoorW.PrintWords Go.Proofs.YtcjcaojgminjpaaDoorW.PrintLast
theorem refKnows_spec (a : ByteArray) : lamplighterref10_Known.f a=some (decide (a.data.toList ∈ codeB)):=by
  unfold lamplighterref10_Known.f
  rw [Lib.toList_data]
  by_cases h1 : a.data.toList=[65,65]
  · rw [if_pos h1,h1]; rfl
  · rw [if_neg h1]
    by_cases h2 : a.data.toList=[65,69]
    · rw [if_pos h2,h2]; rfl
    · rw [if_neg h2]
      congr 1
      rw [Bool.eq_iff_iff,beq_iff_eq,decide_eq_true_eq]
      simp [codeB,h1,h2]
end Go.Proofs.YtcjcaojgminjpaaDoor.Pure
