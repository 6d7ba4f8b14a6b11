/- The document's examples of layer 9 hold. -/
import Derived.Test.YteaehlkpghpnkaaDoorPHx7
import Derived.Test.YteaehlkpghpnkaaDoorMsh
namespace Go.Proofs.YteaehlkpghpnkaaDoor.Pure
open Go Go.RowKit Go.Proofs.YteaehlkpghpnkaaDoor.PH Go.Proofs.YteaehlkpghpnkaaDoorW.PrintWords Go.Proofs.YteaehlkpghpnkaaDoorW.PrintLast
def exHead : List Int := [77, 83, 72, 124, 94, 126, 92, 38, 124, 65, 124, 66, 124, 67, 124, 68, 124, 49, 124, 124, 65, 68, 84, 94, 65, 48, 49, 124, 55, 124, 80, 124, 50, 46, 53]
theorem exHead_is : readM exHead = (124, 94, 126, 92, 38, strOf [65], strOf [66], strOf [67], strOf [68], strOf [49], strOf [], strOf [65, 68, 84, 94, 65, 48, 49], strOf [55], strOf [80], strOf [50, 46, 53], 0) := by
  have hr : readS exHead = (124, 94, 126, 92, 38, 0) := by decide
  have hf : fieldsOf (UInt8.ofNat (124 : Int).toNat) ((segsOf (Lib.bytesOf exHead)).headD []) = [[124], [94, 126, 92, 38], [65], [66], [67], [68], [49], [], [65, 68, 84, 94, 65, 48, 49], [55], [80], [50, 46, 53]] := by decide
  unfold readM
  rw [hr]
  dsimp only
  rw [if_pos rfl, hf, if_pos (by decide)]
  rfl
theorem alive9_is (k : Nat) (hk : 10 < k) : lamplighterlaw09_alive.f k = some true := by
  have hb : ∀ x ∈ exHead, IsByte x := by unfold IsByte exHead; decide
  have h94 : IsByte 94 := by unfold IsByte; decide
  have h126 : IsByte 126 := by unfold IsByte; decide
  unfold lamplighterlaw09_alive.f
  rw [show msh_Read.f k [77, 83, 72, 124, 94, 126, 92, 38, 124, 65, 124, 66, 124, 67, 124, 68, 124, 49, 124, 124, 65, 68, 84, 94, 65, 48, 49, 124, 55, 124, 80, 124, 50, 46, 53] = some (readM exHead) from MRead_spec k (by omega) exHead hb (by decide), exHead_is, Option.bind_some]
  dsimp only
  rw [Check_spec k hk _ _ _ _ _ _ _ _ _ _ _ _ _ _ _ (by rw [strOf_size]; decide) (by rw [strOf_size]; decide) h94 h126, Option.bind_some,
    Check_spec k hk _ _ _ _ _ _ _ _ _ _ _ _ _ _ _ (by rw [strOf_size]; decide) (by rw [strOf_size]; decide) h94 h126, Option.bind_some,
    Check_spec k hk _ _ _ _ _ _ _ _ _ _ _ _ _ _ _ (by rw [strOf_size]; decide) (by decide) h94 h126, Option.bind_some]
  rw [if_pos ⟨rfl, rfl, rfl, by decide, by decide, by decide⟩]
end Go.Proofs.YteaehlkpghpnkaaDoor.Pure
