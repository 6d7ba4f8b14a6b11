-- Written by a program of this work (the kit's print, with contracts of this work's own taken in) out of the translation. Not trusted: Lean checks it.
import Derived.Test.YtokpkdmkdolmdaaDoorPGx0
import Derived.Test.YtokpkdmkdolmdaaDoorIns
import Derived.Test.YtokpkdmkdolmdaaDoorEncW
namespace Go.Proofs.YtokpkdmkdolmdaaDoor.PG
open Go.RowKit Go.Proofs.YtokpkdmkdolmdaaDoorW.PrintWords Go.Proofs.YtokpkdmkdolmdaaDoorW.PrintLast Go.Proofs.YtokpkdmkdolmdaaDoorW.PrintMore
attribute [local go_sem] max2_int min2_int max_two min_two max_three min_three max_four min_four   -- for this text's walks alone
set_option linter.unusedVariables false
set_option linter.unusedSimpArgs false

/-! ### escape_Clean: function 12 -/
def escape_Clean.f (a0 : ByteArray) (a1_0 : Int) (a1_1 : Int) (a1_2 : Int) (a1_3 : Int) (a1_4 : Int) : Option (Bool) := if a0.size ≤ 1000000 ∧ B5 a1_0 a1_1 a1_2 a1_3 a1_4 then some (cleanL a1_0 a1_1 a1_2 a1_3 a1_4 a0.data.toList) else none
theorem escape_Clean.calls (a0 : ByteArray) (a1_0 : Int) (a1_1 : Int) (a1_2 : Int) (a1_3 : Int) (a1_4 : Int) (r : Bool) (w : World) (h : escape_Clean.f a0 a1_0 a1_1 a1_2 a1_3 a1_4 = some r) :
    Calls Tryd.prog 12 #[.string a0, .agg #[.int .u8 a1_0, .int .u8 a1_1, .int .u8 a1_2, .int .u8 a1_3, .int .u8 a1_4]] w fun e w' => e = .returned (.bool r) ∧ Below w.heap.size w w' := by
  unfold escape_Clean.f at h
  split at h
  · rename_i hb
    obtain rfl := Option.some.inj h
    exact clean_walk a0 a1_0 a1_1 a1_2 a1_3 a1_4 hb.2 hb.1 w
  · cases h


end Go.Proofs.YtokpkdmkdolmdaaDoor.PG
