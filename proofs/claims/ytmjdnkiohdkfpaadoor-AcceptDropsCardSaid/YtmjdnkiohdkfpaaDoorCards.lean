/-
  DERIVED. GIVEN WITH THE SEED: THE CARDS: each row of YtmjdnkiohdkfpaaDoorRows.lean that lists a variable, with what it lists TIED to the program's text (the seventh form; the later family's looks); each row that meets fmt, with fmt's text TOLD by the authors' own Lean function (tested against real Go, not proved from fmt's source: count such statements apart). THE CARD IS WHAT COUNTS. Prove the row's statement (the work); the ties are given (YtmjdnkiohdkfpaaDoorTie.lean); close each card by the builder's one call (the guide's Derived/Test/ToyasCard.lean, 'card_holds'). Laid BY PROGRAM, IN A SANDBOX (cutbox-door.mjs). By AI agents, Wed Nov 11 2026. No macro, syntax, notation, axiom, sorry.
-/
import Derived.Test.YtmjdnkiohdkfpaaDoorRows
import GoSem.ClaimSeven
namespace Go.Proofs.YtmjdnkiohdkfpaaDoor
namespace Rows

/-- THE TIED CARD OF 'lamplighterlaw11.AcceptHeads'. -/
def acceptHeadsCard : Claim7 := { stood := { row := acceptHeadsRow, standIns := [], harness := (true, "a9c778da79d7b23ce5d7a5ff39c455bea9f5c7d9d9a6193786e973ca256a531f"), looks := false }, kinds := [], alts := [], laidByText := true, laidKinds := [.widerDeep, .widerDeep, .widerDeep], laidTests := true, laidLooks := .later }
def AcceptHeadsCardSaid : Prop := Claim7.holds Tryd.pinned (.plain (OpenSpec.ofChange acceptHeadsSpec)) acceptHeadsCard

/-- THE TIED CARD OF 'lamplighterlaw11.AcceptPure'. -/
def acceptPureCard : Claim7 := { stood := { row := acceptPureRow, standIns := [], harness := (true, "a9c778da79d7b23ce5d7a5ff39c455bea9f5c7d9d9a6193786e973ca256a531f"), looks := false }, kinds := [], alts := [], laidByText := true, laidKinds := [.widerDeep, .widerDeep, .widerDeep], laidTests := true, laidLooks := .later }
def AcceptPureCardSaid : Prop := Claim7.holds Tryd.pinned (.plain (OpenSpec.ofChange acceptPureSpec)) acceptPureCard

/-- THE TIED CARD OF 'lamplighterlaw11.AcceptDrops'. -/
def acceptDropsCard : Claim7 := { stood := { row := acceptDropsRow, standIns := [], harness := (true, "a9c778da79d7b23ce5d7a5ff39c455bea9f5c7d9d9a6193786e973ca256a531f"), looks := false }, kinds := [], alts := [], laidByText := true, laidKinds := [.widerDeep, .widerDeep, .widerDeep], laidTests := true, laidLooks := .later }
def AcceptDropsCardSaid : Prop := Claim7.holds Tryd.pinned (.plain (OpenSpec.ofChange acceptDropsSpec)) acceptDropsCard

/-- THE TIED CARD OF 'lamplighterlaw11.AcceptCodes'. -/
def acceptCodesCard : Claim7 := { stood := { row := acceptCodesRow, standIns := [], harness := (true, "a9c778da79d7b23ce5d7a5ff39c455bea9f5c7d9d9a6193786e973ca256a531f"), looks := false }, kinds := [], alts := [], laidByText := true, laidKinds := [.widerDeep, .widerDeep, .widerDeep], laidTests := true, laidLooks := .later }
def AcceptCodesCardSaid : Prop := Claim7.holds Tryd.pinned (.plain (OpenSpec.ofChange acceptCodesSpec)) acceptCodesCard

/-- THE TIED CARD OF 'lamplighterlaw11.AcceptAnswers'. -/
def acceptAnswersCard : Claim7 := { stood := { row := acceptAnswersRow, standIns := [], harness := (true, "a9c778da79d7b23ce5d7a5ff39c455bea9f5c7d9d9a6193786e973ca256a531f"), looks := false }, kinds := [], alts := [], laidByText := true, laidKinds := [.widerDeep, .widerDeep, .widerDeep], laidTests := true, laidLooks := .later }
def AcceptAnswersCardSaid : Prop := Claim7.holds Tryd.pinned (.plain (OpenSpec.ofChange acceptAnswersSpec)) acceptAnswersCard

/-- THE SECOND FORM's CARD OF 'lamplighterlaw11.AcceptHeads'. -/
def acceptHeadsUptoCard : Claim7 := { stood := { row := acceptHeadsUptoRow, standIns := [], harness := (true, "a9c778da79d7b23ce5d7a5ff39c455bea9f5c7d9d9a6193786e973ca256a531f"), looks := false }, kinds := [], alts := [], laidByText := true, laidKinds := [.widerDeep, .widerDeep, .widerDeep], laidTests := true, laidLooks := .later }
def AcceptHeadsUptoCardSaid : Prop := Claim7.holds Tryd.pinned (.plain (OpenSpec.upto acceptHeadsSpec)) acceptHeadsUptoCard

/-- THE SECOND FORM's CARD OF 'lamplighterlaw11.AcceptPure'. -/
def acceptPureUptoCard : Claim7 := { stood := { row := acceptPureUptoRow, standIns := [], harness := (true, "a9c778da79d7b23ce5d7a5ff39c455bea9f5c7d9d9a6193786e973ca256a531f"), looks := false }, kinds := [], alts := [], laidByText := true, laidKinds := [.widerDeep, .widerDeep, .widerDeep], laidTests := true, laidLooks := .later }
def AcceptPureUptoCardSaid : Prop := Claim7.holds Tryd.pinned (.plain (OpenSpec.upto acceptPureSpec)) acceptPureUptoCard

/-- THE SECOND FORM's CARD OF 'lamplighterlaw11.AcceptDrops'. -/
def acceptDropsUptoCard : Claim7 := { stood := { row := acceptDropsUptoRow, standIns := [], harness := (true, "a9c778da79d7b23ce5d7a5ff39c455bea9f5c7d9d9a6193786e973ca256a531f"), looks := false }, kinds := [], alts := [], laidByText := true, laidKinds := [.widerDeep, .widerDeep, .widerDeep], laidTests := true, laidLooks := .later }
def AcceptDropsUptoCardSaid : Prop := Claim7.holds Tryd.pinned (.plain (OpenSpec.upto acceptDropsSpec)) acceptDropsUptoCard

/-- THE SECOND FORM's CARD OF 'lamplighterlaw11.AcceptCodes'. -/
def acceptCodesUptoCard : Claim7 := { stood := { row := acceptCodesUptoRow, standIns := [], harness := (true, "a9c778da79d7b23ce5d7a5ff39c455bea9f5c7d9d9a6193786e973ca256a531f"), looks := false }, kinds := [], alts := [], laidByText := true, laidKinds := [.widerDeep, .widerDeep, .widerDeep], laidTests := true, laidLooks := .later }
def AcceptCodesUptoCardSaid : Prop := Claim7.holds Tryd.pinned (.plain (OpenSpec.upto acceptCodesSpec)) acceptCodesUptoCard

/-- THE SECOND FORM's CARD OF 'lamplighterlaw11.AcceptAnswers'. -/
def acceptAnswersUptoCard : Claim7 := { stood := { row := acceptAnswersUptoRow, standIns := [], harness := (true, "a9c778da79d7b23ce5d7a5ff39c455bea9f5c7d9d9a6193786e973ca256a531f"), looks := false }, kinds := [], alts := [], laidByText := true, laidKinds := [.widerDeep, .widerDeep, .widerDeep], laidTests := true, laidLooks := .later }
def AcceptAnswersUptoCardSaid : Prop := Claim7.holds Tryd.pinned (.plain (OpenSpec.upto acceptAnswersSpec)) acceptAnswersUptoCard
end Rows
end Go.Proofs.YtmjdnkiohdkfpaaDoor
