/-
  DERIVED. GIVEN WITH THE SEED: THE CARDS: each row of YtokpkdmkdolmdaaDoorRows.lean that lists a variable, with what it lists TIED to the program's text (the seventh form; the later family's looks); each row that meets fmt, with fmt's text TOLD by the authors' own Lean function (tested against real Go, not proved from fmt's source: count such statements apart). THE CARD IS WHAT COUNTS. Prove the row's statement (the work); the ties are given (YtokpkdmkdolmdaaDoorTie.lean); close each card by the builder's one call (the guide's Derived/Test/ToyasCard.lean, 'card_holds'). Laid BY PROGRAM, IN A SANDBOX (cutbox-door.mjs). By AI agents, Wed Nov 11 2026. No macro, syntax, notation, axiom, sorry.
-/
import Derived.Test.YtokpkdmkdolmdaaDoorRows
import GoSem.ClaimSeven
namespace Go.Proofs.YtokpkdmkdolmdaaDoor
namespace Rows

/-- THE TIED CARD OF 'lamplighterlaw07.EscapeBack'. -/
def escapeBackCard : Claim7 := { stood := { row := escapeBackRow, standIns := [], harness := (true, "86695cdb6a8e31eb63892beb2c30f667c2c42c54ab7f393826f5d1808d0adf70"), looks := true }, kinds := [], alts := [], laidByText := true, laidKinds := [.data, .data, .data, .data, .sentinel, .sentinel, .pinned], laidTests := true, laidLooks := .later }
def EscapeBackCardSaid : Prop := Claim7.holds Tryd.pinned (.plain (OpenSpec.ofChange escapeBackSpec)) escapeBackCard

/-- THE TIED CARD OF 'lamplighterlaw07.EscapeBytes'. -/
def escapeBytesCard : Claim7 := { stood := { row := escapeBytesRow, standIns := [], harness := (true, "86695cdb6a8e31eb63892beb2c30f667c2c42c54ab7f393826f5d1808d0adf70"), looks := true }, kinds := [], alts := [], laidByText := true, laidKinds := [.data, .data, .data, .data, .sentinel, .sentinel, .pinned], laidTests := true, laidLooks := .later }
def EscapeBytesCardSaid : Prop := Claim7.holds Tryd.pinned (.plain (OpenSpec.ofChange escapeBytesSpec)) escapeBytesCard

/-- THE TIED CARD OF 'lamplighterlaw07.EscapeDecodes'. -/
def escapeDecodesCard : Claim7 := { stood := { row := escapeDecodesRow, standIns := [], harness := (true, "86695cdb6a8e31eb63892beb2c30f667c2c42c54ab7f393826f5d1808d0adf70"), looks := true }, kinds := [], alts := [], laidByText := true, laidKinds := [.data, .data, .data, .data, .sentinel, .sentinel, .pinned], laidTests := true, laidLooks := .later }
def EscapeDecodesCardSaid : Prop := Claim7.holds Tryd.pinned (.plain (OpenSpec.ofChange escapeDecodesSpec)) escapeDecodesCard

/-- THE TIED CARD OF 'lamplighterlaw07.EscapeJoins'. -/
def escapeJoinsCard : Claim7 := { stood := { row := escapeJoinsRow, standIns := [], harness := (true, "86695cdb6a8e31eb63892beb2c30f667c2c42c54ab7f393826f5d1808d0adf70"), looks := true }, kinds := [], alts := [], laidByText := true, laidKinds := [.data, .data, .data, .data, .sentinel, .sentinel, .pinned], laidTests := true, laidLooks := .later }
def EscapeJoinsCardSaid : Prop := Claim7.holds Tryd.pinned (.plain (OpenSpec.ofChange escapeJoinsSpec)) escapeJoinsCard

/-- THE TIED CARD OF 'lamplighterlaw07.EscapeLonger'. -/
def escapeLongerCard : Claim7 := { stood := { row := escapeLongerRow, standIns := [], harness := (true, "86695cdb6a8e31eb63892beb2c30f667c2c42c54ab7f393826f5d1808d0adf70"), looks := true }, kinds := [], alts := [], laidByText := true, laidKinds := [.data, .data, .data, .data, .sentinel, .sentinel, .pinned], laidTests := true, laidLooks := .later }
def EscapeLongerCardSaid : Prop := Claim7.holds Tryd.pinned (.plain (OpenSpec.ofChange escapeLongerSpec)) escapeLongerCard

/-- THE TIED CARD OF 'lamplighterlaw07.EscapeEncodes'. -/
def escapeEncodesCard : Claim7 := { stood := { row := escapeEncodesRow, standIns := [], harness := (true, "86695cdb6a8e31eb63892beb2c30f667c2c42c54ab7f393826f5d1808d0adf70"), looks := true }, kinds := [], alts := [], laidByText := true, laidKinds := [.data, .data, .data, .data, .sentinel, .sentinel, .pinned], laidTests := true, laidLooks := .later }
def EscapeEncodesCardSaid : Prop := Claim7.holds Tryd.pinned (.plain (OpenSpec.ofChange escapeEncodesSpec)) escapeEncodesCard

/-- THE SECOND FORM's CARD OF 'lamplighterlaw07.EscapeBack'. -/
def escapeBackUptoCard : Claim7 := { stood := { row := escapeBackUptoRow, standIns := [], harness := (true, "86695cdb6a8e31eb63892beb2c30f667c2c42c54ab7f393826f5d1808d0adf70"), looks := true }, kinds := [], alts := [], laidByText := true, laidKinds := [.data, .data, .data, .data, .sentinel, .sentinel, .pinned], laidTests := true, laidLooks := .later }
def EscapeBackUptoCardSaid : Prop := Claim7.holds Tryd.pinned (.plain (OpenSpec.upto escapeBackSpec)) escapeBackUptoCard

/-- THE SECOND FORM's CARD OF 'lamplighterlaw07.EscapeBytes'. -/
def escapeBytesUptoCard : Claim7 := { stood := { row := escapeBytesUptoRow, standIns := [], harness := (true, "86695cdb6a8e31eb63892beb2c30f667c2c42c54ab7f393826f5d1808d0adf70"), looks := true }, kinds := [], alts := [], laidByText := true, laidKinds := [.data, .data, .data, .data, .sentinel, .sentinel, .pinned], laidTests := true, laidLooks := .later }
def EscapeBytesUptoCardSaid : Prop := Claim7.holds Tryd.pinned (.plain (OpenSpec.upto escapeBytesSpec)) escapeBytesUptoCard

/-- THE SECOND FORM's CARD OF 'lamplighterlaw07.EscapeDecodes'. -/
def escapeDecodesUptoCard : Claim7 := { stood := { row := escapeDecodesUptoRow, standIns := [], harness := (true, "86695cdb6a8e31eb63892beb2c30f667c2c42c54ab7f393826f5d1808d0adf70"), looks := true }, kinds := [], alts := [], laidByText := true, laidKinds := [.data, .data, .data, .data, .sentinel, .sentinel, .pinned], laidTests := true, laidLooks := .later }
def EscapeDecodesUptoCardSaid : Prop := Claim7.holds Tryd.pinned (.plain (OpenSpec.upto escapeDecodesSpec)) escapeDecodesUptoCard

/-- THE SECOND FORM's CARD OF 'lamplighterlaw07.EscapeJoins'. -/
def escapeJoinsUptoCard : Claim7 := { stood := { row := escapeJoinsUptoRow, standIns := [], harness := (true, "86695cdb6a8e31eb63892beb2c30f667c2c42c54ab7f393826f5d1808d0adf70"), looks := true }, kinds := [], alts := [], laidByText := true, laidKinds := [.data, .data, .data, .data, .sentinel, .sentinel, .pinned], laidTests := true, laidLooks := .later }
def EscapeJoinsUptoCardSaid : Prop := Claim7.holds Tryd.pinned (.plain (OpenSpec.upto escapeJoinsSpec)) escapeJoinsUptoCard

/-- THE SECOND FORM's CARD OF 'lamplighterlaw07.EscapeLonger'. -/
def escapeLongerUptoCard : Claim7 := { stood := { row := escapeLongerUptoRow, standIns := [], harness := (true, "86695cdb6a8e31eb63892beb2c30f667c2c42c54ab7f393826f5d1808d0adf70"), looks := true }, kinds := [], alts := [], laidByText := true, laidKinds := [.data, .data, .data, .data, .sentinel, .sentinel, .pinned], laidTests := true, laidLooks := .later }
def EscapeLongerUptoCardSaid : Prop := Claim7.holds Tryd.pinned (.plain (OpenSpec.upto escapeLongerSpec)) escapeLongerUptoCard

/-- THE SECOND FORM's CARD OF 'lamplighterlaw07.EscapeEncodes'. -/
def escapeEncodesUptoCard : Claim7 := { stood := { row := escapeEncodesUptoRow, standIns := [], harness := (true, "86695cdb6a8e31eb63892beb2c30f667c2c42c54ab7f393826f5d1808d0adf70"), looks := true }, kinds := [], alts := [], laidByText := true, laidKinds := [.data, .data, .data, .data, .sentinel, .sentinel, .pinned], laidTests := true, laidLooks := .later }
def EscapeEncodesUptoCardSaid : Prop := Claim7.holds Tryd.pinned (.plain (OpenSpec.upto escapeEncodesSpec)) escapeEncodesUptoCard
end Rows
end Go.Proofs.YtokpkdmkdolmdaaDoor
