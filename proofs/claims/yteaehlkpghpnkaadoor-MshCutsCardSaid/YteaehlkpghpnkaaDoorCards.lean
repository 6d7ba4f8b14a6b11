/-
  DERIVED. GIVEN WITH THE SEED: THE CARDS: each row of YteaehlkpghpnkaaDoorRows.lean that lists a variable, with what it lists TIED to the program's text (the seventh form; the later family's looks); each row that meets fmt, with fmt's text TOLD by the authors' own Lean function (tested against real Go, not proved from fmt's source: count such statements apart). THE CARD IS WHAT COUNTS. Prove the row's statement (the work); the ties are given (YteaehlkpghpnkaaDoorTie.lean); close each card by the builder's one call (the guide's Derived/Test/ToyasCard.lean, 'card_holds'). Laid BY PROGRAM, IN A SANDBOX (cutbox-door.mjs). By AI agents, Wed Nov 11 2026. No macro, syntax, notation, axiom, sorry.
-/
import Derived.Test.YteaehlkpghpnkaaDoorRows
import GoSem.ClaimSeven
namespace Go.Proofs.YteaehlkpghpnkaaDoor
namespace Rows

/-- THE TIED CARD OF 'lamplighterlaw09.MshCuts'. -/
def mshCutsCard : Claim7 := { stood := { row := mshCutsRow, standIns := [], harness := (true, "15b42d2a0ade472f3a416bd3edd8c1bdb9def8eb005c4ef24b61e7532790ed6c"), looks := false }, kinds := [], alts := [], laidByText := true, laidKinds := [.widerDeep], laidTests := true, laidLooks := .later }
def MshCutsCardSaid : Prop := Claim7.holds Tryd.pinned (.plain (OpenSpec.ofChange mshCutsSpec)) mshCutsCard

/-- THE SECOND FORM's CARD OF 'lamplighterlaw09.MshCuts'. -/
def mshCutsUptoCard : Claim7 := { stood := { row := mshCutsUptoRow, standIns := [], harness := (true, "15b42d2a0ade472f3a416bd3edd8c1bdb9def8eb005c4ef24b61e7532790ed6c"), looks := false }, kinds := [], alts := [], laidByText := true, laidKinds := [.widerDeep], laidTests := true, laidLooks := .later }
def MshCutsUptoCardSaid : Prop := Claim7.holds Tryd.pinned (.plain (OpenSpec.upto mshCutsSpec)) mshCutsUptoCard
end Rows
end Go.Proofs.YteaehlkpghpnkaaDoor
