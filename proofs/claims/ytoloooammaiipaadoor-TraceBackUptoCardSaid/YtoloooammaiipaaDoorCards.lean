/-
  DERIVED. GIVEN WITH THE SEED: THE CARDS: each row of YtoloooammaiipaaDoorRows.lean that lists a variable, with what it lists TIED to the program's text (the seventh form; the later family's looks); each row that meets fmt, with fmt's text TOLD by the authors' own Lean function (tested against real Go, not proved from fmt's source: count such statements apart). THE CARD IS WHAT COUNTS. Prove the row's statement (the work); the ties are given (YtoloooammaiipaaDoorTie.lean); close each card by the builder's one call (the guide's Derived/Test/ToyasCard.lean, 'card_holds'). Laid BY PROGRAM, IN A SANDBOX (cutbox-door.mjs). By AI agents, Wed Nov 11 2026. No macro, syntax, notation, axiom, sorry.
-/
import Derived.Test.YtoloooammaiipaaDoorRows
import GoSem.ClaimSeven
namespace Go.Proofs.YtoloooammaiipaaDoor
namespace Rows

/-- THE TIED CARD OF 'lamplighterlaw19.TraceBytes'. -/
def traceBytesCard : Claim7 := { stood := { row := traceBytesRow, standIns := [], harness := (true, "b6b0afbdf311fd1e9babb73e206428a794ca5b5ec954ecb68a7d49e75a0f17e7"), looks := true }, kinds := [], alts := [], laidByText := true, laidKinds := [.data, .data, .data, .data, .sentinel, .sentinel, .data, .pinned], laidTests := true, laidLooks := .later }
def TraceBytesCardSaid : Prop := Claim7.holds Tryd.pinned (.plain (OpenSpec.ofChange traceBytesSpec)) traceBytesCard

/-- THE TIED CARD OF 'lamplighterlaw19.TraceEvents'. -/
def traceEventsCard : Claim7 := { stood := { row := traceEventsRow, standIns := [], harness := (true, "b6b0afbdf311fd1e9babb73e206428a794ca5b5ec954ecb68a7d49e75a0f17e7"), looks := true }, kinds := [], alts := [], laidByText := true, laidKinds := [.data, .data, .data, .data, .sentinel, .sentinel, .data, .pinned], laidTests := true, laidLooks := .later }
def TraceEventsCardSaid : Prop := Claim7.holds Tryd.pinned (.plain (OpenSpec.ofChange traceEventsSpec)) traceEventsCard

/-- THE TIED CARD OF 'lamplighterlaw19.TraceNumbers'. -/
def traceNumbersCard : Claim7 := { stood := { row := traceNumbersRow, standIns := [], harness := (true, "b6b0afbdf311fd1e9babb73e206428a794ca5b5ec954ecb68a7d49e75a0f17e7"), looks := true }, kinds := [], alts := [], laidByText := true, laidKinds := [.data, .data, .data, .data, .sentinel, .sentinel, .data, .pinned], laidTests := true, laidLooks := .later }
def TraceNumbersCardSaid : Prop := Claim7.holds Tryd.pinned (.plain (OpenSpec.ofChange traceNumbersSpec)) traceNumbersCard

/-- THE TIED CARD OF 'lamplighterlaw19.TraceTexts'. -/
def traceTextsCard : Claim7 := { stood := { row := traceTextsRow, standIns := [], harness := (true, "b6b0afbdf311fd1e9babb73e206428a794ca5b5ec954ecb68a7d49e75a0f17e7"), looks := true }, kinds := [], alts := [], laidByText := true, laidKinds := [.data, .data, .data, .data, .sentinel, .sentinel, .data, .pinned], laidTests := true, laidLooks := .later }
def TraceTextsCardSaid : Prop := Claim7.holds Tryd.pinned (.plain (OpenSpec.ofChange traceTextsSpec)) traceTextsCard

/-- THE TIED CARD OF 'lamplighterlaw19.TraceBack'. -/
def traceBackCard : Claim7 := { stood := { row := traceBackRow, standIns := [], harness := (true, "b6b0afbdf311fd1e9babb73e206428a794ca5b5ec954ecb68a7d49e75a0f17e7"), looks := true }, kinds := [], alts := [], laidByText := true, laidKinds := [.data, .data, .data, .data, .sentinel, .sentinel, .data, .pinned], laidTests := true, laidLooks := .later }
def TraceBackCardSaid : Prop := Claim7.holds Tryd.pinned (.plain (OpenSpec.ofChange traceBackSpec)) traceBackCard

/-- THE TIED CARD OF 'lamplighterlaw19.TraceJoins'. -/
def traceJoinsCard : Claim7 := { stood := { row := traceJoinsRow, standIns := [], harness := (true, "b6b0afbdf311fd1e9babb73e206428a794ca5b5ec954ecb68a7d49e75a0f17e7"), looks := true }, kinds := [], alts := [], laidByText := true, laidKinds := [.data, .data, .data, .data, .sentinel, .sentinel, .data, .pinned], laidTests := true, laidLooks := .later }
def TraceJoinsCardSaid : Prop := Claim7.holds Tryd.pinned (.plain (OpenSpec.ofChange traceJoinsSpec)) traceJoinsCard

/-- THE TIED CARD OF 'lamplighterlaw19.TraceLines'. -/
def traceLinesCard : Claim7 := { stood := { row := traceLinesRow, standIns := [], harness := (true, "b6b0afbdf311fd1e9babb73e206428a794ca5b5ec954ecb68a7d49e75a0f17e7"), looks := true }, kinds := [], alts := [], laidByText := true, laidKinds := [.data, .data, .data, .data, .sentinel, .sentinel, .data, .pinned], laidTests := true, laidLooks := .later }
def TraceLinesCardSaid : Prop := Claim7.holds Tryd.pinned (.plain (OpenSpec.ofChange traceLinesSpec)) traceLinesCard

/-- THE SECOND FORM's CARD OF 'lamplighterlaw19.TraceBytes'. -/
def traceBytesUptoCard : Claim7 := { stood := { row := traceBytesUptoRow, standIns := [], harness := (true, "b6b0afbdf311fd1e9babb73e206428a794ca5b5ec954ecb68a7d49e75a0f17e7"), looks := true }, kinds := [], alts := [], laidByText := true, laidKinds := [.data, .data, .data, .data, .sentinel, .sentinel, .data, .pinned], laidTests := true, laidLooks := .later }
def TraceBytesUptoCardSaid : Prop := Claim7.holds Tryd.pinned (.plain (OpenSpec.upto traceBytesSpec)) traceBytesUptoCard

/-- THE SECOND FORM's CARD OF 'lamplighterlaw19.TraceEvents'. -/
def traceEventsUptoCard : Claim7 := { stood := { row := traceEventsUptoRow, standIns := [], harness := (true, "b6b0afbdf311fd1e9babb73e206428a794ca5b5ec954ecb68a7d49e75a0f17e7"), looks := true }, kinds := [], alts := [], laidByText := true, laidKinds := [.data, .data, .data, .data, .sentinel, .sentinel, .data, .pinned], laidTests := true, laidLooks := .later }
def TraceEventsUptoCardSaid : Prop := Claim7.holds Tryd.pinned (.plain (OpenSpec.upto traceEventsSpec)) traceEventsUptoCard

/-- THE SECOND FORM's CARD OF 'lamplighterlaw19.TraceNumbers'. -/
def traceNumbersUptoCard : Claim7 := { stood := { row := traceNumbersUptoRow, standIns := [], harness := (true, "b6b0afbdf311fd1e9babb73e206428a794ca5b5ec954ecb68a7d49e75a0f17e7"), looks := true }, kinds := [], alts := [], laidByText := true, laidKinds := [.data, .data, .data, .data, .sentinel, .sentinel, .data, .pinned], laidTests := true, laidLooks := .later }
def TraceNumbersUptoCardSaid : Prop := Claim7.holds Tryd.pinned (.plain (OpenSpec.upto traceNumbersSpec)) traceNumbersUptoCard

/-- THE SECOND FORM's CARD OF 'lamplighterlaw19.TraceTexts'. -/
def traceTextsUptoCard : Claim7 := { stood := { row := traceTextsUptoRow, standIns := [], harness := (true, "b6b0afbdf311fd1e9babb73e206428a794ca5b5ec954ecb68a7d49e75a0f17e7"), looks := true }, kinds := [], alts := [], laidByText := true, laidKinds := [.data, .data, .data, .data, .sentinel, .sentinel, .data, .pinned], laidTests := true, laidLooks := .later }
def TraceTextsUptoCardSaid : Prop := Claim7.holds Tryd.pinned (.plain (OpenSpec.upto traceTextsSpec)) traceTextsUptoCard

/-- THE SECOND FORM's CARD OF 'lamplighterlaw19.TraceBack'. -/
def traceBackUptoCard : Claim7 := { stood := { row := traceBackUptoRow, standIns := [], harness := (true, "b6b0afbdf311fd1e9babb73e206428a794ca5b5ec954ecb68a7d49e75a0f17e7"), looks := true }, kinds := [], alts := [], laidByText := true, laidKinds := [.data, .data, .data, .data, .sentinel, .sentinel, .data, .pinned], laidTests := true, laidLooks := .later }
def TraceBackUptoCardSaid : Prop := Claim7.holds Tryd.pinned (.plain (OpenSpec.upto traceBackSpec)) traceBackUptoCard

/-- THE SECOND FORM's CARD OF 'lamplighterlaw19.TraceJoins'. -/
def traceJoinsUptoCard : Claim7 := { stood := { row := traceJoinsUptoRow, standIns := [], harness := (true, "b6b0afbdf311fd1e9babb73e206428a794ca5b5ec954ecb68a7d49e75a0f17e7"), looks := true }, kinds := [], alts := [], laidByText := true, laidKinds := [.data, .data, .data, .data, .sentinel, .sentinel, .data, .pinned], laidTests := true, laidLooks := .later }
def TraceJoinsUptoCardSaid : Prop := Claim7.holds Tryd.pinned (.plain (OpenSpec.upto traceJoinsSpec)) traceJoinsUptoCard

/-- THE SECOND FORM's CARD OF 'lamplighterlaw19.TraceLines'. -/
def traceLinesUptoCard : Claim7 := { stood := { row := traceLinesUptoRow, standIns := [], harness := (true, "b6b0afbdf311fd1e9babb73e206428a794ca5b5ec954ecb68a7d49e75a0f17e7"), looks := true }, kinds := [], alts := [], laidByText := true, laidKinds := [.data, .data, .data, .data, .sentinel, .sentinel, .data, .pinned], laidTests := true, laidLooks := .later }
def TraceLinesUptoCardSaid : Prop := Claim7.holds Tryd.pinned (.plain (OpenSpec.upto traceLinesSpec)) traceLinesUptoCard
end Rows
end Go.Proofs.YtoloooammaiipaaDoor
