-- Written by a program of this work (the kit's print, with contracts of this work's own taken in) out of the translation. Not trusted: Lean checks it.
import Derived.Test.YtokpkdmkdolmdaaDoorPGx0
import Derived.Test.YtokpkdmkdolmdaaDoorPGx3
import Derived.Test.YtokpkdmkdolmdaaDoorPGx4
import Derived.Test.YtokpkdmkdolmdaaDoorIns
import Derived.Test.YtokpkdmkdolmdaaDoorDecW
namespace Go.Proofs.YtokpkdmkdolmdaaDoor.PG
open Go.RowKit Go.Proofs.YtokpkdmkdolmdaaDoorW.PrintWords Go.Proofs.YtokpkdmkdolmdaaDoorW.PrintLast Go.Proofs.YtokpkdmkdolmdaaDoorW.PrintMore
attribute [local go_sem] max2_int min2_int max_two min_two max_three min_three max_four min_four   -- for this text's walks alone
set_option linter.unusedVariables false
set_option linter.unusedSimpArgs false

/-! ### escape_Decode: function 11 -/
theorem cut_calls (s : ByteArray) (c : Int) (hs : s.size ≤ 1000000) (W : World) : Calls Tryd.prog 23 #[.string s, .int .u8 c] W fun e w' => ∃ v : Value, e = .returned v ∧ Kd.R Kd.string 9 w' W.heap.size (fun _ => True) v ((cutL (xE c) s.data.toList).map strOf) ∧ Below W.heap.size W w' :=
  delim_Cut.calls s c _ W (by
    unfold delim_Cut.f strings_Split.f
    have h1 : (strOfNums ([c] : List Int)).size = 1 := rfl
    have h2 : (strOfNums ([c] : List Int)).data.toList.headD 0 = xE c := rfl
    rw [if_pos ⟨h1, by omega⟩, h2]
    rfl)
def escape_Decode.f (a0 : ByteArray) (a1_0 : Int) (a1_1 : Int) (a1_2 : Int) (a1_3 : Int) (a1_4 : Int) : Option (ByteArray × Int × Int) := if a0.size ≤ 1000000 ∧ B5 a1_0 a1_1 a1_2 a1_3 a1_4 then (if Sg a1_0 a1_1 a1_2 a1_3 a1_4 then some (strOf (decL a1_0 a1_1 a1_2 a1_3 a1_4 a0.data.toList).1, ((decL a1_0 a1_1 a1_2 a1_3 a1_4 a0.data.toList).2.1 : Int), (decL a1_0 a1_1 a1_2 a1_3 a1_4 a0.data.toList).2.2) else some (⟨#[]⟩, 0, 11)) else none
theorem escape_Decode.calls (a0 : ByteArray) (a1_0 : Int) (a1_1 : Int) (a1_2 : Int) (a1_3 : Int) (a1_4 : Int) (r1 : ByteArray) (r2 : Int) (r3 : Int) (w : World) (h : escape_Decode.f a0 a1_0 a1_1 a1_2 a1_3 a1_4 = some (r1, r2, r3)) :
    Calls Tryd.prog 11 #[.string a0, .agg #[.int .u8 a1_0, .int .u8 a1_1, .int .u8 a1_2, .int .u8 a1_3, .int .u8 a1_4]] w fun e w' => e = .returned (.tuple #[.string r1, .int .i64 r2, .int .i64 r3]) ∧ Below w.heap.size w w' := by
  unfold escape_Decode.f at h
  split at h
  · rename_i hb
    split at h
    · rename_i hg
      cases h
      exact decode_walk a0 a1_0 a1_1 a1_2 a1_3 a1_4 hg hb.1 (right_yes hb.2 hg) (cut_calls a0 a1_3 hb.1) w
    · rename_i hg
      cases h
      exact decode_bad a0 a1_0 a1_1 a1_2 a1_3 a1_4 (right_no hb.2 hg) w
  · cases h


end Go.Proofs.YtokpkdmkdolmdaaDoor.PG
