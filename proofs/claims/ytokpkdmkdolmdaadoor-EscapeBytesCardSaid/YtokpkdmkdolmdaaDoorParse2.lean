/- strconv.ParseUint of two digits to the base 16, as the program calls it: a walk. -/
import Derived.Test.YtokpkdmkdolmdaaDoorParse
namespace Go.Proofs.YtokpkdmkdolmdaaDoor
open Go Go.RowKit
set_option maxHeartbeats 4000000 in
set_option maxRecDepth 100000 in
theorem parse_two (t : ByteArray) (c0 c1 : UInt8) (ht : t.data.toList = [c0, c1]) (x y : Nat) (hx : hexV c0 = some x) (hy : hexV c1 = some y) (w : World) :
    Calls Tryd.prog 36 #[.string t, .int .i64 16, .int .i64 8] w fun e w' => e = .returned (.tuple #[.int .u64 ((16 * x + y : Nat) : Int), .nilIface]) ∧ Below w.heap.size w w' := by
  have hI := parse_inner t c0 c1 ht x y hx hy w
  have hB : Below w.heap.size w (Lib.bytesWorld w 5 t) := ⟨rfl, rfl, rfl, by rw [Lib.bytesWorld_size]; omega, fun k hk => Lib.bytesWorld_at_old w _ t k hk⟩
  generalize ((16 * x + y : Nat) : Int) = v at hI ⊢
  generalize Lib.bytesWorld w 5 t = W1 at hI hB
  go_enter Tryd.func36, Tryd.ntmps36
  go_wp2_with fail
  refine hI.mono ?_
  rintro e w2 ⟨rfl, rfl⟩
  go_wp2_with fail
  go_ret2
  exact ⟨rfl, hB⟩
end Go.Proofs.YtokpkdmkdolmdaaDoor
