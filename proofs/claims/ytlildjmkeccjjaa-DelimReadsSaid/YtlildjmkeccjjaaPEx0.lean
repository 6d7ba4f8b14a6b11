-- Written by a program of this work (the kit's print, with contracts of this work's own taken in) out of the translation. Not trusted: Lean checks it.
import Derived.Test.YtlildjmkeccjjaaProg
import Derived.Below
import Derived.Deep.Draws
import Derived.Deep.AppendLies
import Derived.Maps.AppendAt
import Derived.OwnWalk
import Derived.Laws.BytesArg
import Derived.Laws.MakeOwn
import Derived.Laws.OwnMore
import Derived.Deep.OwnRows
import Derived.Tactics
import Derived.Lib.ConvBytes
import Derived.Laws.Slices
import Derived.WalkKit
import Derived.KernelRfl
import Derived.RowKit3
import Derived.Deep.LoopGhost
import Derived.Deep.QuietTactic
import Derived.BigQuiet
import Derived.WideLaws
import Derived.Deep.DeepCutAuto
import Derived.Deep.CutBlock
import Derived.Deep.RegionHeld3
import Derived.Laws.Rows
import Derived.Lib.AppendStr
import Derived.ArgAppend
import Derived.Laws.IdiomCopy
import Derived.OrdersHeld
import Derived.Laws.BitsLemmas
import Derived.RowKit
import Derived.Test.YtlildjmkeccjjaaRange
import Derived.Test.YtlildjmkeccjjaaWWords
import Derived.Test.YtlildjmkeccjjaaWLast
import Derived.Test.YtlildjmkeccjjaaWTab
import Derived.Test.YtlildjmkeccjjaaWFour
import Derived.Test.YtlildjmkeccjjaaWQPut
import Derived.Test.YtlildjmkeccjjaaWApart
import Derived.Test.YtlildjmkeccjjaaWArr
import Derived.Test.YtlildjmkeccjjaaWZeros
import Derived.Test.YtlildjmkeccjjaaWFoot
import Derived.Test.YtlildjmkeccjjaaWKept
import Derived.Test.YtlildjmkeccjjaaWShare
import Derived.Test.YtlildjmkeccjjaaWN
import Derived.Test.YtlildjmkeccjjaaWFootNe
import Derived.Test.YtlildjmkeccjjaaWAt
import Derived.Test.YtlildjmkeccjjaaWEqStruct
import Derived.Test.YtlildjmkeccjjaaWRepsOne
import Derived.Test.YtlildjmkeccjjaaWInv
import Derived.Test.YtlildjmkeccjjaaWInvWords
import Derived.Test.YtlildjmkeccjjaaWGuard
import Derived.Test.YtlildjmkeccjjaaWNEv
import Derived.Test.YtlildjmkeccjjaaWMore
namespace Go.Proofs.Ytlildjmkeccjjaa.PE
open Go.RowKit Go.Proofs.YtlildjmkeccjjaaW.PrintWords Go.Proofs.YtlildjmkeccjjaaW.PrintLast Go.Proofs.YtlildjmkeccjjaaW.PrintMore
attribute [local go_sem] max2_int min2_int max_two min_two max_three min_three max_four min_four   -- for this text's walks alone
set_option linter.unusedVariables false
set_option linter.unusedSimpArgs false



def errW : Option Int → Value
  | none => .nilIface
  | some c => .iface 0 (.int .i64 c)
theorem errW_none : errW none = .nilIface := rfl
theorem errW_some (c : Int) : errW (some c) = .iface 0 (.int .i64 c) := rfl

theorem info5 : (Try.prog.info? 5).map (fun i => (i.zero, i.size, i.bytes)) = some (some (.int .u8 0), 1, 1) := by kernel_rfl
-- the values' own types

end Go.Proofs.Ytlildjmkeccjjaa.PE
