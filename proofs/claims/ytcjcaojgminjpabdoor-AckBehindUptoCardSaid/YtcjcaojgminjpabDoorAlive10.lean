/- The example of the laws of answers is answered 'true'; condition: fuel for a step each. -/
import Derived.Test.YtcjcaojgminjpabDoorPBx14
import Derived.Test.YtcjcaojgminjpabDoorAck
import Derived.Test.YtcjcaojgminjpabDoorRefRead9
namespace Go.Proofs.YtcjcaojgminjpabDoor.Pure
open Go Go.RowKit Go.Proofs.YtcjcaojgminjpabDoor.PB Go.Proofs.YtcjcaojgminjpabDoorW.PrintWords Go.Proofs.YtcjcaojgminjpabDoorW.PrintLast
def exAsk : List Int := [77, 83, 72, 124, 94, 126, 92, 38, 124, 65, 124, 66, 124, 67, 124, 68, 124, 49, 124, 124, 65, 68, 84, 124, 55, 124, 80, 124, 50, 46, 53]
theorem exAsk_is : readM exAsk = (124, 94, 126, 92, 38, strOf [65], strOf [66], strOf [67], strOf [68], strOf [49], strOf [], strOf [65, 68, 84], strOf [55], strOf [80], strOf [50, 46, 53], 0) := by
 have hr : readS exAsk = (124, 94, 126, 92, 38, 0) := by decide
 have hf : fieldsOf (UInt8.ofNat (124 : Int).toNat) ((segsOf (Lib.bytesOf exAsk)).headD []) = [[124], [94, 126, 92, 38], [65], [66], [67], [68], [49], [], [65, 68, 84], [55], [80], [50, 46, 53]] := by decide
 unfold readM
 rw [hr]
 dsimp only
 rw [if_pos rfl, hf, if_pos (by decide)]
 rfl
def exBack : List UInt8 := [77, 83, 72, 124, 94, 126, 92, 38, 124, 67, 124, 68, 124, 65, 124, 66, 124, 49, 124, 124, 65, 67, 75, 124, 55, 124, 80, 124, 50, 46, 53, 13, 77, 83, 65, 124, 65, 69, 124, 55, 13]
theorem exBuild_is : buildOf 124 94 126 92 38 (strOf [65]) (strOf [66]) (strOf [67]) (strOf [68]) (strOf [49]) (strOf [55]) (strOf [80]) (strOf [50, 46, 53]) (⟨#[65, 69]⟩ : ByteArray) = (exBack, 0) := by
 rw [build_nums (by decide) (by decide) ?_]
 ·rfl
 ·rintro ⟨y, hy, hm⟩
  simp only [List.mem_cons, List.not_mem_nil, or_false] at hy
  rcases hy with rfl | rfl | rfl | rfl | rfl | rfl | rfl | rfl | rfl | rfl <;> revert hm <;> decide
theorem alive10_is (k : Nat) (hk : 4000 < k) : lamplighterlaw10_alive.f k = some true := by
 have hb : ∀ x ∈ exAsk, IsByte x := by unfold IsByte exAsk; decide
 have b1 : IsByte 124 := by unfold IsByte; decide
 have b2 : IsByte 94 := by unfold IsByte; decide
 have b3 : IsByte 126 := by unfold IsByte; decide
 have b4 : IsByte 92 := by unfold IsByte; decide
 have b5 : IsByte 38 := by unfold IsByte; decide
 have e0 : cv_lit_77_83_72_124_94_126_92_38_124_65_124_66_124_67_124_68_124_49_124_124_65_68_84_124_55_124_80_124_50_46_53.f = some exAsk := rfl
 unfold lamplighterlaw10_alive.f
 rw [e0, Option.bind_some, refMRead_spec k exAsk hb (by decide) (by have : exAsk.length = 31 := rfl; omega), exAsk_is, Option.bind_some]
 dsimp only
 rw [Build_spec k (by omega) 124 94 126 92 38 _ _ _ _ _ _ _ _ _ _ _ (by simp only [strOf_size]; decide) (by decide) b1 b2 b3 b4 b5, exBuild_is, Option.bind_some]
 dsimp only
 rw [if_pos rfl, str_numsOf, strOf_list]
 rfl
end Go.Proofs.YtcjcaojgminjpabDoor.Pure
