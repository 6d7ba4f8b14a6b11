/-
  DERIVED. GIVEN WITH THE SEED: THE CARDS: each row of YtbkalgkjkcfplaaDoorRows.lean that lists a variable, with what it lists TIED to the program's text (the seventh form; the later family's looks); each row that meets fmt, with fmt's text TOLD by the authors' own Lean function (tested against real Go, not proved from fmt's source: count such statements apart). THE CARD IS WHAT COUNTS. Prove the row's statement (the work); the ties are given (YtbkalgkjkcfplaaDoorTie.lean); close each card by the builder's one call (the guide's Derived/Test/ToyasCard.lean, 'card_holds'). Laid BY PROGRAM, IN A SANDBOX (cutbox-door.mjs). By AI agents, Wed Nov 11 2026. No macro, syntax, notation, axiom, sorry.
-/
import Derived.Test.YtbkalgkjkcfplaaDoorRows
import GoSem.ClaimSeven
namespace Go.Proofs.YtbkalgkjkcfplaaDoor
namespace Rows

/-- THE TIED CARD OF 'lamplighterlaw09.MshReads'. -/
def mshReadsCard : Claim7 := { stood := { row := mshReadsRow, standIns := [], harness := (true, "227caa03f67ccde3bc15cce6a3b667a0ac23a38a4029fc3a07c055283e6fed8d"), looks := false }, kinds := [], alts := [], laidByText := true, laidKinds := [.widerDeep], laidTests := true, laidLooks := .later }
def MshReadsCardSaid : Prop := Claim7.holds Tryd.pinned (.plain (OpenSpec.ofChange mshReadsSpec)) mshReadsCard

/-- THE TIED CARD OF 'lamplighterlaw09.MshIds'. -/
def mshIdsCard : Claim7 := { stood := { row := mshIdsRow, standIns := [], harness := (true, "227caa03f67ccde3bc15cce6a3b667a0ac23a38a4029fc3a07c055283e6fed8d"), looks := false }, kinds := [], alts := [], laidByText := true, laidKinds := [.widerDeep], laidTests := true, laidLooks := .later }
def MshIdsCardSaid : Prop := Claim7.holds Tryd.pinned (.plain (OpenSpec.ofChange mshIdsSpec)) mshIdsCard

/-- THE TIED CARD OF 'lamplighterlaw09.MshKnown'. -/
def mshKnownCard : Claim7 := { stood := { row := mshKnownRow, standIns := [], harness := (true, "227caa03f67ccde3bc15cce6a3b667a0ac23a38a4029fc3a07c055283e6fed8d"), looks := false }, kinds := [], alts := [], laidByText := true, laidKinds := [.widerDeep], laidTests := true, laidLooks := .later }
def MshKnownCardSaid : Prop := Claim7.holds Tryd.pinned (.plain (OpenSpec.ofChange mshKnownSpec)) mshKnownCard

/-- THE TIED CARD OF 'lamplighterlaw09.MshBack'. -/
def mshBackCard : Claim7 := { stood := { row := mshBackRow, standIns := [], harness := (true, "227caa03f67ccde3bc15cce6a3b667a0ac23a38a4029fc3a07c055283e6fed8d"), looks := false }, kinds := [], alts := [], laidByText := true, laidKinds := [.widerDeep], laidTests := true, laidLooks := .later }
def MshBackCardSaid : Prop := Claim7.holds Tryd.pinned (.plain (OpenSpec.ofChange mshBackSpec)) mshBackCard

/-- THE TIED CARD OF 'lamplighterlaw09.MshOne'. -/
def mshOneCard : Claim7 := { stood := { row := mshOneRow, standIns := [], harness := (true, "227caa03f67ccde3bc15cce6a3b667a0ac23a38a4029fc3a07c055283e6fed8d"), looks := false }, kinds := [], alts := [], laidByText := true, laidKinds := [.widerDeep], laidTests := true, laidLooks := .later }
def MshOneCardSaid : Prop := Claim7.holds Tryd.pinned (.plain (OpenSpec.ofChange mshOneSpec)) mshOneCard

/-- THE TIED CARD OF 'lamplighterlaw09.MshCuts'. -/
def mshCutsCard : Claim7 := { stood := { row := mshCutsRow, standIns := [], harness := (true, "227caa03f67ccde3bc15cce6a3b667a0ac23a38a4029fc3a07c055283e6fed8d"), looks := false }, kinds := [], alts := [], laidByText := true, laidKinds := [.widerDeep], laidTests := true, laidLooks := .later }
def MshCutsCardSaid : Prop := Claim7.holds Tryd.pinned (.plain (OpenSpec.ofChange mshCutsSpec)) mshCutsCard

/-- THE TIED CARD OF 'lamplighterlaw09.MshChecks'. -/
def mshChecksCard : Claim7 := { stood := { row := mshChecksRow, standIns := [], harness := (true, "227caa03f67ccde3bc15cce6a3b667a0ac23a38a4029fc3a07c055283e6fed8d"), looks := false }, kinds := [], alts := [], laidByText := true, laidKinds := [.widerDeep], laidTests := true, laidLooks := .later }
def MshChecksCardSaid : Prop := Claim7.holds Tryd.pinned (.plain (OpenSpec.ofChange mshChecksSpec)) mshChecksCard

/-- THE SECOND FORM's CARD OF 'lamplighterlaw09.MshReads'. -/
def mshReadsUptoCard : Claim7 := { stood := { row := mshReadsUptoRow, standIns := [], harness := (true, "227caa03f67ccde3bc15cce6a3b667a0ac23a38a4029fc3a07c055283e6fed8d"), looks := false }, kinds := [], alts := [], laidByText := true, laidKinds := [.widerDeep], laidTests := true, laidLooks := .later }
def MshReadsUptoCardSaid : Prop := Claim7.holds Tryd.pinned (.plain (OpenSpec.upto mshReadsSpec)) mshReadsUptoCard

/-- THE SECOND FORM's CARD OF 'lamplighterlaw09.MshIds'. -/
def mshIdsUptoCard : Claim7 := { stood := { row := mshIdsUptoRow, standIns := [], harness := (true, "227caa03f67ccde3bc15cce6a3b667a0ac23a38a4029fc3a07c055283e6fed8d"), looks := false }, kinds := [], alts := [], laidByText := true, laidKinds := [.widerDeep], laidTests := true, laidLooks := .later }
def MshIdsUptoCardSaid : Prop := Claim7.holds Tryd.pinned (.plain (OpenSpec.upto mshIdsSpec)) mshIdsUptoCard

/-- THE SECOND FORM's CARD OF 'lamplighterlaw09.MshKnown'. -/
def mshKnownUptoCard : Claim7 := { stood := { row := mshKnownUptoRow, standIns := [], harness := (true, "227caa03f67ccde3bc15cce6a3b667a0ac23a38a4029fc3a07c055283e6fed8d"), looks := false }, kinds := [], alts := [], laidByText := true, laidKinds := [.widerDeep], laidTests := true, laidLooks := .later }
def MshKnownUptoCardSaid : Prop := Claim7.holds Tryd.pinned (.plain (OpenSpec.upto mshKnownSpec)) mshKnownUptoCard

/-- THE SECOND FORM's CARD OF 'lamplighterlaw09.MshBack'. -/
def mshBackUptoCard : Claim7 := { stood := { row := mshBackUptoRow, standIns := [], harness := (true, "227caa03f67ccde3bc15cce6a3b667a0ac23a38a4029fc3a07c055283e6fed8d"), looks := false }, kinds := [], alts := [], laidByText := true, laidKinds := [.widerDeep], laidTests := true, laidLooks := .later }
def MshBackUptoCardSaid : Prop := Claim7.holds Tryd.pinned (.plain (OpenSpec.upto mshBackSpec)) mshBackUptoCard

/-- THE SECOND FORM's CARD OF 'lamplighterlaw09.MshOne'. -/
def mshOneUptoCard : Claim7 := { stood := { row := mshOneUptoRow, standIns := [], harness := (true, "227caa03f67ccde3bc15cce6a3b667a0ac23a38a4029fc3a07c055283e6fed8d"), looks := false }, kinds := [], alts := [], laidByText := true, laidKinds := [.widerDeep], laidTests := true, laidLooks := .later }
def MshOneUptoCardSaid : Prop := Claim7.holds Tryd.pinned (.plain (OpenSpec.upto mshOneSpec)) mshOneUptoCard

/-- THE SECOND FORM's CARD OF 'lamplighterlaw09.MshCuts'. -/
def mshCutsUptoCard : Claim7 := { stood := { row := mshCutsUptoRow, standIns := [], harness := (true, "227caa03f67ccde3bc15cce6a3b667a0ac23a38a4029fc3a07c055283e6fed8d"), looks := false }, kinds := [], alts := [], laidByText := true, laidKinds := [.widerDeep], laidTests := true, laidLooks := .later }
def MshCutsUptoCardSaid : Prop := Claim7.holds Tryd.pinned (.plain (OpenSpec.upto mshCutsSpec)) mshCutsUptoCard

/-- THE SECOND FORM's CARD OF 'lamplighterlaw09.MshChecks'. -/
def mshChecksUptoCard : Claim7 := { stood := { row := mshChecksUptoRow, standIns := [], harness := (true, "227caa03f67ccde3bc15cce6a3b667a0ac23a38a4029fc3a07c055283e6fed8d"), looks := false }, kinds := [], alts := [], laidByText := true, laidKinds := [.widerDeep], laidTests := true, laidLooks := .later }
def MshChecksUptoCardSaid : Prop := Claim7.holds Tryd.pinned (.plain (OpenSpec.upto mshChecksSpec)) mshChecksUptoCard
end Rows
end Go.Proofs.YtbkalgkjkcfplaaDoor
