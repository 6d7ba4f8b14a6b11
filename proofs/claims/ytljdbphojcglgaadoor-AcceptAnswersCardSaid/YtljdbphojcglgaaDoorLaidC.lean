/- A world for the witness of a row that lists package-level tables: each listed table holds what the row lists. No conditions. -/
import Derived.Test.YtljdbphojcglgaaDoorRows
import Derived.WalkKit
import Derived.ProofKit
import Derived.OpenShut
import Derived.Deep.DeepHandedRow
import Derived.Lib.LaidTab
namespace Go.Proofs.YtljdbphojcglgaaDoor.LaidC
open Go Go.ChangeShapes Go.WideShapes Go.ChangeAt Go.RowKit
/-- The cells of a datum of numbers, texts and rows of them. -/
def cellsAt {H : Type} : Nat→DataW H→List Value
  | 0,_=>[]
  | _ + 1, .lit (.int k n)=>[.int k n]
  | _ + 1, .lit (.bool b)=>[.bool b]
  | _ + 1, .lit (.string b)=>[.string ⟨b.toArray⟩]
  | n + 1, .agg ps=>ps.flatMap (cellsAt n)
  | _ + 1,_=>[]
def layAll (P : Program) (laid : List (String × DataW Unit)) (h : Array Obj) : Array Obj :=
  laid.foldl (fun h x=>match P.globalNamed x.1 with
    | some g=>h.modify g fun
      | .cells _ t frozen => .cells (cellsAt 5 x.2).toArray t frozen
      | o=>o
    | none=>h) h
noncomputable def laidWorld (os : Os) : World :=
  { World.holding Tryd.prog os ⟨#[],#[],[]⟩ with heap:=layAll Tryd.prog Rows.acceptAnswersRow.laid (World.holding Tryd.prog os ⟨#[],#[],[]⟩).heap }
set_option maxRecDepth 100000 in
theorem laid_met (os : Os) (args : Array Value) : laidMet Tryd.prog Rows.acceptAnswersRow.laid ((laidWorld os).forCall (fun _ _=>0) ⟨#[],args,[]⟩).memory :=
  laidMet_of_run' 8 (by kernel_rfl) (by kernel_rfl)
end Go.Proofs.YtljdbphojcglgaaDoor.LaidC
