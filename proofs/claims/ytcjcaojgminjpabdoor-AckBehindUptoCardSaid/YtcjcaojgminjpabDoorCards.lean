/-
  DERIVED. GIVEN WITH THE SEED: THE CARDS: each row of YtcjcaojgminjpabDoorRows.lean that lists a variable, with what it lists TIED to the program's text (the seventh form; the later family's looks); each row that meets fmt, with fmt's text TOLD by the authors' own Lean function (tested against real Go, not proved from fmt's source: count such statements apart). THE CARD IS WHAT COUNTS. Prove the row's statement (the work); the ties are given (YtcjcaojgminjpabDoorTie.lean); close each card by the builder's one call (the guide's Derived/Test/ToyasCard.lean, 'card_holds'). Laid BY PROGRAM, IN A SANDBOX (cutbox-door.mjs). By AI agents, Wed Nov 11 2026. No macro, syntax, notation, axiom, sorry.
-/
import Derived.Test.YtcjcaojgminjpabDoorRows
import GoSem.ClaimSeven
namespace Go.Proofs.YtcjcaojgminjpabDoor
namespace Rows

/-- THE TIED CARD OF 'lamplighterlaw09.MshCuts'. -/
def mshCutsCard : Claim7 := { stood := { row := mshCutsRow, standIns := [], harness := (true, "8a0ae88bf391dc721afbb1c61d98d7a1b4ae2ef304e2d05b5044592f46260f17"), looks := false }, kinds := [], alts := [], laidByText := true, laidKinds := [.widerDeep], laidTests := true, laidLooks := .later }
def MshCutsCardSaid : Prop := Claim7.holds Tryd.pinned (.plain (OpenSpec.ofChange mshCutsSpec)) mshCutsCard

/-- THE TIED CARD OF 'lamplighterlaw09.MshChecks'. -/
def mshChecksCard : Claim7 := { stood := { row := mshChecksRow, standIns := [], harness := (true, "8a0ae88bf391dc721afbb1c61d98d7a1b4ae2ef304e2d05b5044592f46260f17"), looks := false }, kinds := [], alts := [], laidByText := true, laidKinds := [.widerDeep], laidTests := true, laidLooks := .later }
def MshChecksCardSaid : Prop := Claim7.holds Tryd.pinned (.plain (OpenSpec.ofChange mshChecksSpec)) mshChecksCard

/-- THE TIED CARD OF 'lamplighterlaw10.AckReads'. -/
def ackReadsCard : Claim7 := { stood := { row := ackReadsRow, standIns := [], harness := (true, "8a0ae88bf391dc721afbb1c61d98d7a1b4ae2ef304e2d05b5044592f46260f17"), looks := false }, kinds := [], alts := [], laidByText := true, laidKinds := [.widerDeep], laidTests := true, laidLooks := .later }
def AckReadsCardSaid : Prop := Claim7.holds Tryd.pinned (.plain (OpenSpec.ofChange ackReadsSpec)) ackReadsCard

/-- THE TIED CARD OF 'lamplighterlaw10.AckBehind'. -/
def ackBehindCard : Claim7 := { stood := { row := ackBehindRow, standIns := [], harness := (true, "8a0ae88bf391dc721afbb1c61d98d7a1b4ae2ef304e2d05b5044592f46260f17"), looks := false }, kinds := [], alts := [], laidByText := true, laidKinds := [.widerDeep], laidTests := true, laidLooks := .later }
def AckBehindCardSaid : Prop := Claim7.holds Tryd.pinned (.plain (OpenSpec.ofChange ackBehindSpec)) ackBehindCard

/-- THE TIED CARD OF 'lamplighterlaw10.AckForms'. -/
def ackFormsCard : Claim7 := { stood := { row := ackFormsRow, standIns := [], harness := (true, "8a0ae88bf391dc721afbb1c61d98d7a1b4ae2ef304e2d05b5044592f46260f17"), looks := false }, kinds := [], alts := [], laidByText := true, laidKinds := [.widerDeep], laidTests := true, laidLooks := .later }
def AckFormsCardSaid : Prop := Claim7.holds Tryd.pinned (.plain (OpenSpec.ofChange ackFormsSpec)) ackFormsCard

/-- THE TIED CARD OF 'lamplighterlaw10.AckBack'. -/
def ackBackCard : Claim7 := { stood := { row := ackBackRow, standIns := [], harness := (true, "8a0ae88bf391dc721afbb1c61d98d7a1b4ae2ef304e2d05b5044592f46260f17"), looks := false }, kinds := [], alts := [], laidByText := true, laidKinds := [.widerDeep], laidTests := true, laidLooks := .later }
def AckBackCardSaid : Prop := Claim7.holds Tryd.pinned (.plain (OpenSpec.ofChange ackBackSpec)) ackBackCard

/-- THE SECOND FORM's CARD OF 'lamplighterlaw09.MshCuts'. -/
def mshCutsUptoCard : Claim7 := { stood := { row := mshCutsUptoRow, standIns := [], harness := (true, "8a0ae88bf391dc721afbb1c61d98d7a1b4ae2ef304e2d05b5044592f46260f17"), looks := false }, kinds := [], alts := [], laidByText := true, laidKinds := [.widerDeep], laidTests := true, laidLooks := .later }
def MshCutsUptoCardSaid : Prop := Claim7.holds Tryd.pinned (.plain (OpenSpec.upto mshCutsSpec)) mshCutsUptoCard

/-- THE SECOND FORM's CARD OF 'lamplighterlaw09.MshChecks'. -/
def mshChecksUptoCard : Claim7 := { stood := { row := mshChecksUptoRow, standIns := [], harness := (true, "8a0ae88bf391dc721afbb1c61d98d7a1b4ae2ef304e2d05b5044592f46260f17"), looks := false }, kinds := [], alts := [], laidByText := true, laidKinds := [.widerDeep], laidTests := true, laidLooks := .later }
def MshChecksUptoCardSaid : Prop := Claim7.holds Tryd.pinned (.plain (OpenSpec.upto mshChecksSpec)) mshChecksUptoCard

/-- THE SECOND FORM's CARD OF 'lamplighterlaw10.AckReads'. -/
def ackReadsUptoCard : Claim7 := { stood := { row := ackReadsUptoRow, standIns := [], harness := (true, "8a0ae88bf391dc721afbb1c61d98d7a1b4ae2ef304e2d05b5044592f46260f17"), looks := false }, kinds := [], alts := [], laidByText := true, laidKinds := [.widerDeep], laidTests := true, laidLooks := .later }
def AckReadsUptoCardSaid : Prop := Claim7.holds Tryd.pinned (.plain (OpenSpec.upto ackReadsSpec)) ackReadsUptoCard

/-- THE SECOND FORM's CARD OF 'lamplighterlaw10.AckBehind'. -/
def ackBehindUptoCard : Claim7 := { stood := { row := ackBehindUptoRow, standIns := [], harness := (true, "8a0ae88bf391dc721afbb1c61d98d7a1b4ae2ef304e2d05b5044592f46260f17"), looks := false }, kinds := [], alts := [], laidByText := true, laidKinds := [.widerDeep], laidTests := true, laidLooks := .later }
def AckBehindUptoCardSaid : Prop := Claim7.holds Tryd.pinned (.plain (OpenSpec.upto ackBehindSpec)) ackBehindUptoCard

/-- THE SECOND FORM's CARD OF 'lamplighterlaw10.AckForms'. -/
def ackFormsUptoCard : Claim7 := { stood := { row := ackFormsUptoRow, standIns := [], harness := (true, "8a0ae88bf391dc721afbb1c61d98d7a1b4ae2ef304e2d05b5044592f46260f17"), looks := false }, kinds := [], alts := [], laidByText := true, laidKinds := [.widerDeep], laidTests := true, laidLooks := .later }
def AckFormsUptoCardSaid : Prop := Claim7.holds Tryd.pinned (.plain (OpenSpec.upto ackFormsSpec)) ackFormsUptoCard

/-- THE SECOND FORM's CARD OF 'lamplighterlaw10.AckBack'. -/
def ackBackUptoCard : Claim7 := { stood := { row := ackBackUptoRow, standIns := [], harness := (true, "8a0ae88bf391dc721afbb1c61d98d7a1b4ae2ef304e2d05b5044592f46260f17"), looks := false }, kinds := [], alts := [], laidByText := true, laidKinds := [.widerDeep], laidTests := true, laidLooks := .later }
def AckBackUptoCardSaid : Prop := Claim7.holds Tryd.pinned (.plain (OpenSpec.upto ackBackSpec)) ackBackUptoCard
end Rows
end Go.Proofs.YtcjcaojgminjpabDoor
