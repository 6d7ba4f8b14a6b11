/- The conversion of a segment and a 13 to bytes, over lists of bytes; condition: at most 1000000 bytes. -/
import Derived.Test.YtcjcaojgminjpaaDoorPAx12
import Derived.Test.YtcjcaojgminjpaaDoorMshBack
namespace Go.Proofs.YtcjcaojgminjpaaDoor.Pure
open Go Go.RowKit Go.Proofs.YtcjcaojgminjpaaDoor.PA Go.Proofs.YtcjcaojgminjpaaDoorW.PrintWords Go.Proofs.YtcjcaojgminjpaaDoorW.PrintLast
theorem cv_text (s : List UInt8) (hs : s.length ≤ 1000000) : cv_str.f (strOf s ++ (⟨#[13]⟩ : ByteArray)) = some (numsOf s ++ [13]) := by
  have e : strOf s ++ (⟨#[13]⟩ : ByteArray) = strOf (s ++ [13]) := by rw [strOf_snoc]; rfl
  unfold cv_str.f
  rw [e, if_pos (by rw [strOf_size, List.length_append, List.length_singleton]; omega), numsOf_bytes, strOf_data, nums_append]
  rfl
end Go.Proofs.YtcjcaojgminjpaaDoor.Pure
