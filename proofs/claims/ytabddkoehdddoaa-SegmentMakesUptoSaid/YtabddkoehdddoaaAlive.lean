/- The document's examples that the laws of layer 8 ask first: they answer true; no condition. -/
import Derived.Test.YtabddkoehdddoaaPEx1
import Derived.Test.YtabddkoehdddoaaPEx2
import Derived.Test.YtabddkoehdddoaaSeg
import Derived.Test.YtabddkoehdddoaaSegPart
namespace Go.Proofs.Ytabddkoehdddoaa.Pure
open Go Go.RowKit Go.Proofs.Ytabddkoehdddoaa.PE Go.Proofs.YtabddkoehdddoaaW.PrintWords Go.Proofs.YtabddkoehdddoaaW.PrintLast

theorem plain_is : lamplighterlaw08_plain.f = some (124, 94, 126, 92, 38) := rfl
theorem alive_is : lamplighterlaw08_alive.f = some true := by
  unfold lamplighterlaw08_alive.f
  rw [plain_is]
  simp only [Option.bind_some]
  rw [Field_spec _ _ _ _ _ _ _ (by decide) (by decide) (by decide)]
  simp only [Option.bind_some]
  rw [Part_spec _ _ _ _ _ _ _ _ (by rw [strOf_size]; decide) (by decide) (by decide)]
  simp only [Option.bind_some]
  rw [Field_spec _ _ _ _ _ _ _ (by decide) (by decide) (by decide)]
  simp only [Option.bind_some, strOf_data, strOf_list]
  simp [fieldsOf, cutL, nthOf, MSH, strOf]
end Go.Proofs.Ytabddkoehdddoaa.Pure
