/-
  DERIVED. GIVEN WITH THE SEED: THE CARDS: each row of YtljdbphojcglgaaDoorRows.lean that lists a variable, with what it lists TIED to the program's text (the seventh form; the later family's looks); each row that meets fmt, with fmt's text TOLD by the authors' own Lean function (tested against real Go, not proved from fmt's source: count such statements apart). THE CARD IS WHAT COUNTS. Prove the row's statement (the work); the ties are given (YtljdbphojcglgaaDoorTie.lean); close each card by the builder's one call (the guide's Derived/Test/ToyasCard.lean, 'card_holds'). Laid BY PROGRAM, IN A SANDBOX (cutbox-door.mjs). By AI agents, Wed Nov 11 2026. No macro, syntax, notation, axiom, sorry.
-/
import Derived.Test.YtljdbphojcglgaaDoorRows
import GoSem.ClaimSeven
namespace Go.Proofs.YtljdbphojcglgaaDoor
namespace Rows

/-- THE TIED CARD OF 'lamplighterlaw11.AcceptAnswers'. -/
def acceptAnswersCard : Claim7 := { stood := { row := acceptAnswersRow, standIns := [], harness := (true, "aa214499cd649218ad2b5393397b9924f9ff5eed639a14010a73f63abbd136b8"), looks := false }, kinds := [], alts := [], laidByText := true, laidKinds := [.widerDeep, .widerDeep, .widerDeep], laidTests := true, laidLooks := .later }
def AcceptAnswersCardSaid : Prop := Claim7.holds Tryd.pinned (.plain (OpenSpec.ofChange acceptAnswersSpec)) acceptAnswersCard

/-- THE SECOND FORM's CARD OF 'lamplighterlaw11.AcceptAnswers'. -/
def acceptAnswersUptoCard : Claim7 := { stood := { row := acceptAnswersUptoRow, standIns := [], harness := (true, "aa214499cd649218ad2b5393397b9924f9ff5eed639a14010a73f63abbd136b8"), looks := false }, kinds := [], alts := [], laidByText := true, laidKinds := [.widerDeep, .widerDeep, .widerDeep], laidTests := true, laidLooks := .later }
def AcceptAnswersUptoCardSaid : Prop := Claim7.holds Tryd.pinned (.plain (OpenSpec.upto acceptAnswersSpec)) acceptAnswersUptoCard
end Rows
end Go.Proofs.YtljdbphojcglgaaDoor
