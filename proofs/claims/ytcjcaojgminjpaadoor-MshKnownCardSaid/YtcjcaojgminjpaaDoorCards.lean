/-
  DERIVED. GIVEN WITH THE SEED: THE CARDS: each row of YtcjcaojgminjpaaDoorRows.lean that lists a variable, with what it lists TIED to the program's text (the seventh form; the later family's looks); each row that meets fmt, with fmt's text TOLD by the authors' own Lean function (tested against real Go, not proved from fmt's source: count such statements apart). THE CARD IS WHAT COUNTS. Prove the row's statement (the work); the ties are given (YtcjcaojgminjpaaDoorTie.lean); close each card by the builder's one call (the guide's Derived/Test/ToyasCard.lean, 'card_holds'). Laid BY PROGRAM, IN A SANDBOX (cutbox-door.mjs). By AI agents, Wed Nov 11 2026. No macro, syntax, notation, axiom, sorry.
-/
import Derived.Test.YtcjcaojgminjpaaDoorRows
import GoSem.ClaimSeven
namespace Go.Proofs.YtcjcaojgminjpaaDoor
namespace Rows

/-- THE TIED CARD OF 'lamplighterlaw10.AckBuilds'. -/
def ackBuildsCard : Claim7 := { stood := { row := ackBuildsRow, standIns := [], harness := (true, "ccfaeaf7d46cf09e3ae2d6b6d83f2166019101dd7e094a3e5a3eecaf07620f64"), looks := false }, kinds := [], alts := [], laidByText := true, laidKinds := [.widerDeep], laidTests := true, laidLooks := .later }
def AckBuildsCardSaid : Prop := Claim7.holds Tryd.pinned (.plain (OpenSpec.ofChange ackBuildsSpec)) ackBuildsCard

/-- THE TIED CARD OF 'lamplighterlaw09.MshReads'. -/
def mshReadsCard : Claim7 := { stood := { row := mshReadsRow, standIns := [], harness := (true, "ccfaeaf7d46cf09e3ae2d6b6d83f2166019101dd7e094a3e5a3eecaf07620f64"), looks := false }, kinds := [], alts := [], laidByText := true, laidKinds := [.widerDeep], laidTests := true, laidLooks := .later }
def MshReadsCardSaid : Prop := Claim7.holds Tryd.pinned (.plain (OpenSpec.ofChange mshReadsSpec)) mshReadsCard

/-- THE TIED CARD OF 'lamplighterlaw09.MshIds'. -/
def mshIdsCard : Claim7 := { stood := { row := mshIdsRow, standIns := [], harness := (true, "ccfaeaf7d46cf09e3ae2d6b6d83f2166019101dd7e094a3e5a3eecaf07620f64"), looks := false }, kinds := [], alts := [], laidByText := true, laidKinds := [.widerDeep], laidTests := true, laidLooks := .later }
def MshIdsCardSaid : Prop := Claim7.holds Tryd.pinned (.plain (OpenSpec.ofChange mshIdsSpec)) mshIdsCard

/-- THE TIED CARD OF 'lamplighterlaw09.MshKnown'. -/
def mshKnownCard : Claim7 := { stood := { row := mshKnownRow, standIns := [], harness := (true, "ccfaeaf7d46cf09e3ae2d6b6d83f2166019101dd7e094a3e5a3eecaf07620f64"), looks := false }, kinds := [], alts := [], laidByText := true, laidKinds := [.widerDeep], laidTests := true, laidLooks := .later }
def MshKnownCardSaid : Prop := Claim7.holds Tryd.pinned (.plain (OpenSpec.ofChange mshKnownSpec)) mshKnownCard

/-- THE TIED CARD OF 'lamplighterlaw10.AckTwice'. -/
def ackTwiceCard : Claim7 := { stood := { row := ackTwiceRow, standIns := [], harness := (true, "ccfaeaf7d46cf09e3ae2d6b6d83f2166019101dd7e094a3e5a3eecaf07620f64"), looks := false }, kinds := [], alts := [], laidByText := true, laidKinds := [.widerDeep], laidTests := true, laidLooks := .later }
def AckTwiceCardSaid : Prop := Claim7.holds Tryd.pinned (.plain (OpenSpec.ofChange ackTwiceSpec)) ackTwiceCard

/-- THE TIED CARD OF 'lamplighterlaw09.MshBack'. -/
def mshBackCard : Claim7 := { stood := { row := mshBackRow, standIns := [], harness := (true, "ccfaeaf7d46cf09e3ae2d6b6d83f2166019101dd7e094a3e5a3eecaf07620f64"), looks := false }, kinds := [], alts := [], laidByText := true, laidKinds := [.widerDeep], laidTests := true, laidLooks := .later }
def MshBackCardSaid : Prop := Claim7.holds Tryd.pinned (.plain (OpenSpec.ofChange mshBackSpec)) mshBackCard

/-- THE TIED CARD OF 'lamplighterlaw09.MshOne'. -/
def mshOneCard : Claim7 := { stood := { row := mshOneRow, standIns := [], harness := (true, "ccfaeaf7d46cf09e3ae2d6b6d83f2166019101dd7e094a3e5a3eecaf07620f64"), looks := false }, kinds := [], alts := [], laidByText := true, laidKinds := [.widerDeep], laidTests := true, laidLooks := .later }
def MshOneCardSaid : Prop := Claim7.holds Tryd.pinned (.plain (OpenSpec.ofChange mshOneSpec)) mshOneCard

/-- THE SECOND FORM's CARD OF 'lamplighterlaw10.AckBuilds'. -/
def ackBuildsUptoCard : Claim7 := { stood := { row := ackBuildsUptoRow, standIns := [], harness := (true, "ccfaeaf7d46cf09e3ae2d6b6d83f2166019101dd7e094a3e5a3eecaf07620f64"), looks := false }, kinds := [], alts := [], laidByText := true, laidKinds := [.widerDeep], laidTests := true, laidLooks := .later }
def AckBuildsUptoCardSaid : Prop := Claim7.holds Tryd.pinned (.plain (OpenSpec.upto ackBuildsSpec)) ackBuildsUptoCard

/-- THE SECOND FORM's CARD OF 'lamplighterlaw09.MshReads'. -/
def mshReadsUptoCard : Claim7 := { stood := { row := mshReadsUptoRow, standIns := [], harness := (true, "ccfaeaf7d46cf09e3ae2d6b6d83f2166019101dd7e094a3e5a3eecaf07620f64"), looks := false }, kinds := [], alts := [], laidByText := true, laidKinds := [.widerDeep], laidTests := true, laidLooks := .later }
def MshReadsUptoCardSaid : Prop := Claim7.holds Tryd.pinned (.plain (OpenSpec.upto mshReadsSpec)) mshReadsUptoCard

/-- THE SECOND FORM's CARD OF 'lamplighterlaw09.MshIds'. -/
def mshIdsUptoCard : Claim7 := { stood := { row := mshIdsUptoRow, standIns := [], harness := (true, "ccfaeaf7d46cf09e3ae2d6b6d83f2166019101dd7e094a3e5a3eecaf07620f64"), looks := false }, kinds := [], alts := [], laidByText := true, laidKinds := [.widerDeep], laidTests := true, laidLooks := .later }
def MshIdsUptoCardSaid : Prop := Claim7.holds Tryd.pinned (.plain (OpenSpec.upto mshIdsSpec)) mshIdsUptoCard

/-- THE SECOND FORM's CARD OF 'lamplighterlaw09.MshKnown'. -/
def mshKnownUptoCard : Claim7 := { stood := { row := mshKnownUptoRow, standIns := [], harness := (true, "ccfaeaf7d46cf09e3ae2d6b6d83f2166019101dd7e094a3e5a3eecaf07620f64"), looks := false }, kinds := [], alts := [], laidByText := true, laidKinds := [.widerDeep], laidTests := true, laidLooks := .later }
def MshKnownUptoCardSaid : Prop := Claim7.holds Tryd.pinned (.plain (OpenSpec.upto mshKnownSpec)) mshKnownUptoCard

/-- THE SECOND FORM's CARD OF 'lamplighterlaw10.AckTwice'. -/
def ackTwiceUptoCard : Claim7 := { stood := { row := ackTwiceUptoRow, standIns := [], harness := (true, "ccfaeaf7d46cf09e3ae2d6b6d83f2166019101dd7e094a3e5a3eecaf07620f64"), looks := false }, kinds := [], alts := [], laidByText := true, laidKinds := [.widerDeep], laidTests := true, laidLooks := .later }
def AckTwiceUptoCardSaid : Prop := Claim7.holds Tryd.pinned (.plain (OpenSpec.upto ackTwiceSpec)) ackTwiceUptoCard

/-- THE SECOND FORM's CARD OF 'lamplighterlaw09.MshBack'. -/
def mshBackUptoCard : Claim7 := { stood := { row := mshBackUptoRow, standIns := [], harness := (true, "ccfaeaf7d46cf09e3ae2d6b6d83f2166019101dd7e094a3e5a3eecaf07620f64"), looks := false }, kinds := [], alts := [], laidByText := true, laidKinds := [.widerDeep], laidTests := true, laidLooks := .later }
def MshBackUptoCardSaid : Prop := Claim7.holds Tryd.pinned (.plain (OpenSpec.upto mshBackSpec)) mshBackUptoCard

/-- THE SECOND FORM's CARD OF 'lamplighterlaw09.MshOne'. -/
def mshOneUptoCard : Claim7 := { stood := { row := mshOneUptoRow, standIns := [], harness := (true, "ccfaeaf7d46cf09e3ae2d6b6d83f2166019101dd7e094a3e5a3eecaf07620f64"), looks := false }, kinds := [], alts := [], laidByText := true, laidKinds := [.widerDeep], laidTests := true, laidLooks := .later }
def MshOneUptoCardSaid : Prop := Claim7.holds Tryd.pinned (.plain (OpenSpec.upto mshOneSpec)) mshOneUptoCard
end Rows
end Go.Proofs.YtcjcaojgminjpaaDoor
