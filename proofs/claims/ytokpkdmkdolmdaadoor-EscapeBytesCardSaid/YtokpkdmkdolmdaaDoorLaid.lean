/- A world for the witness of a row that lists package-level tables and errors: each listed table holds what the row lists, each listed error a new block of its own. No conditions. -/
import Derived.Test.YtokpkdmkdolmdaaDoorRows
import Derived.WalkKit
import Derived.ProofKit
import Derived.OpenShut
import Derived.Deep.DeepHandedRow
import Derived.Deep.DeepLaidRun
import Derived.Lib.LaidTab
namespace Go.Proofs.YtokpkdmkdolmdaaDoor.Laid
open Go Go.ChangeShapes Go.WideShapes Go.ChangeAt Go.RowKit
/-- The cells of a datum of numbers, texts and rows of them. -/
def cellsAt {H : Type} : Nat → DataW H → List Value
  | 0, _ => []
  | _ + 1, .lit (.int k n) => [.int k n]
  | _ + 1, .lit (.bool b) => [.bool b]
  | _ + 1, .lit (.string b) => [.string ⟨b.toArray⟩]
  | n + 1, .agg ps => ps.flatMap (cellsAt n)
  | _ + 1, _ => []
def layOne (P : Program) (h : Array Obj) (x : String × DataW Unit) : Array Obj :=
  match P.globalNamed x.1 with
  | some g => match x.2 with
    | .iface _ (.ptr d) => (h.push (.cells (cellsAt 5 d).toArray 106 (0, 0))).modify g fun
      | .cells _ t frozen => .cells #[.iface 104 (.pointer (some ⟨h.size, 0, none⟩))] t frozen
      | o => o
    | d => h.modify g fun
      | .cells _ t frozen => .cells (cellsAt 5 d).toArray t frozen
      | o => o
  | none => h
noncomputable def laidWorld (os : Os) : World :=
  { World.holding Tryd.prog os ⟨#[], #[], []⟩ with heap := Rows.escapeBackRow.laid.foldl (layOne Tryd.prog) (World.holding Tryd.prog os ⟨#[], #[], []⟩).heap }
set_option maxRecDepth 100000 in
theorem laid_met (os : Os) (args : Array Value) : laidMet Tryd.prog Rows.escapeBackRow.laid ((laidWorld os).forCall (fun _ _ => 0) ⟨#[], args, []⟩).memory :=
  laidMet_of_run3 8 (by kernel_rfl) (by kernel_rfl) (by kernel_rfl)
end Go.Proofs.YtokpkdmkdolmdaaDoor.Laid
