/-
  NARROWER THAN 'FOR EVERY INPUT', by the rows' own cells (each row's printed sentence says how): AcceptAnswers: laid.
  DERIVED. THE GIVEN ROWS OF THIS SEAT. 1 by the template 'for every input the law returns true; each argument reads behind the call as it read before'; 0 by the template 'total and deterministic' (their statements: YtljdbphojcglgaaDoorTotals.lean).
  GIVEN WITH THE SEED: the statements are not yours to turn. If you find one false, say at which input.
  Laid BY PROGRAM, IN A SANDBOX (cutbox-rows.mjs): the forced cells as the released guide's own fill.sh prints them over the translation bda6c88b156d491b… (all of the seat's roots in one cut). By AI agents, Wed Nov 11 2026. No macro, syntax, notation, axiom, sorry.
-/
import Derived.Test.YtljdbphojcglgaaDoorChecked
import GoSem.Claim
import GoSem.ClaimJoined
import GoSem.ClaimMapViews
import Derived.JoinedTies
import Derived.KernelRfl
namespace Go.Proofs.YtljdbphojcglgaaDoor
/- THE CELL 'sum', in the pinned program and in every row, IS THE sha256 OF THE DUMP (.gsa) THAT YtljdbphojcglgaaDoorProg.lean LOADS. Nothing in Lean hashes anything: it is a label: what it is worth is what the hold of that sum in a sandbox is worth. -/
noncomputable def Tryd.pinned : Pinned := { name := "ytljdbphojcglgaadoor", sum := "bda6c88b156d491bb36d54d2468de4facc4c8ec7bf52699cf2eb50a531e2d4fc", checked := Tryd.checked }
namespace Rows
def none {H : Type} : Left H := { results := [], args := [] }

/- WHAT THE LISTED PACKAGE-LEVEL VARIABLES READ AS WHEN THE CALL BEGINS. Each datum BY PROGRAM (the guide's laid-datum.mjs) off the statement by which the dump's own 'gosem.cut.vars' lays the variable. In a bare row this is a premise. The card (YtljdbphojcglgaaDoorCards.lean) ties it to the program's text. -/
def laid_lamplighter_frame_ends {H : Type} : DataW H := .agg [.lit (.int .u8 28), .lit (.int .u8 13)]
def laid_lamplighter_msh_versions {H : Type} : DataW H := .agg [.lit (.string [50, 46, 49]), .lit (.string [50, 46, 50]), .lit (.string [50, 46, 51]), .lit (.string [50, 46, 51, 46, 49]), .lit (.string [50, 46, 52]), .lit (.string [50, 46, 53]), .lit (.string [50, 46, 53, 46, 49]), .lit (.string [50, 46, 54]), .lit (.string [50, 46, 55]), .lit (.string [50, 46, 56])]
def laid_lamplighter_ack_codes {H : Type} : DataW H := .agg [.lit (.string [65, 65]), .lit (.string [65, 69]), .lit (.string [65, 82])]

/-- 'lamplighterlaw11.AcceptAnswers': WHATEVER THE INPUT: true; the input reads as it did. -/
def acceptAnswersSpec : ChangeSpec := { name := "acceptAnswers", fn := fun _ => fun
  | [d1, d2] => { results := [.lit (.bool true)], args := [d1, d2] }
  | _ => none }
def acceptAnswersRow : OpenClaim := { program := "ytljdbphojcglgaadoor", sum := "bda6c88b156d491bb36d54d2468de4facc4c8ec7bf52699cf2eb50a531e2d4fc", func := "lamplighter/lamplighterlaw11.AcceptAnswers", spec := "acceptAnswers", inPlace := ["internal/bytealg.IndexByte", "internal/bytealg.IndexByteString", "internal/bytealg.IndexString", "internal/bytealg.Index", "internal/abi.NoEscape", "internal/bytealg.MakeNoZero"], unfollowed := true, recurses := true, named := ["internal/bytealg.MaxLen", "lamplighter/msh.versions", "lamplighter/frame.ends", "lamplighter/ack.codes"], apart := false, laid := [("lamplighter/frame.ends", laid_lamplighter_frame_ends), ("lamplighter/msh.versions", laid_lamplighter_msh_versions), ("lamplighter/ack.codes", laid_lamplighter_ack_codes)] }
def AcceptAnswersSaid : Prop := acceptAnswersRow.holds Tryd.pinned (OpenSpec.ofChange acceptAnswersSpec)

/-- ITS FALSE NEIGHBOUR: 'it returns false'. Refute it at one input. -/
def acceptAnswersWrong : ChangeSpec := { name := "acceptAnswers", fn := fun _ => fun
  | [d1, d2] => { results := [.lit (.bool false)], args := [d1, d2] }
  | _ => none }
def AcceptAnswersWrongFalsely : Prop := acceptAnswersRow.holds Tryd.pinned (OpenSpec.ofChange acceptAnswersWrong)

/- THE SECOND FORM. 'bulk': how many values and letters a reading holds, each counted each time it is reached (what is shared counts as often as it is met; a slice's spare places count too). A statement '..UptoSaid' is the law's where the arguments, and the package variables that the reading takes, are together of bulk at most 1048576: NARROWER than '..Said'. Prove '..Said' where nothing that the law and all that it calls make is longer than what came in: it says more and counts as full. Else prove '..UptoSaid'. A law counts once. -/
mutual
def uptoBulk {H : Type} : DataW H → Nat
  | .lit (.string bytes) => bytes.length + 1
  | .lit _ => 1
  | .nil => 1
  | .ptr d => uptoBulk d + 1
  | .slice elems spare => uptoBulkAll elems + uptoBulkAll spare + 1
  | .agg parts => uptoBulkAll parts + 1
  | .iface _ d => uptoBulk d + 1
  | .map entries => uptoBulkEntries entries + 1
  | .held _ => 1
def uptoBulkAll {H : Type} : List (DataW H) → Nat
  | [] => 0
  | d :: r => uptoBulk d + uptoBulkAll r
def uptoBulkEntries {H : Type} : List (Lit × DataW H) → Nat
  | [] => 0
  | x :: r => uptoBulkEntry x + uptoBulkEntries r
def uptoBulkEntry {H : Type} : Lit × DataW H → Nat
  | (.string bytes, d) => bytes.length + uptoBulk d + 1
  | (_, d) => uptoBulk d + 1
 end
def uptoSmall : (H : Type) → List (DataW H) → Bool := fun _ ds => decide (uptoBulkAll ds ≤ 1048576)
def OpenSpec.upto (s : _root_.Go.ChangeSpec) : _root_.Go.OpenSpec := { _root_.Go.OpenSpec.ofChange s with cond := some uptoSmall }

/-- 'lamplighterlaw11.AcceptAnswers', WHERE WHAT IT READS IS OF BULK AT MOST 1048576: true; the input reads as it did. -/
def acceptAnswersUptoRow : OpenClaim := { program := "ytljdbphojcglgaadoor", sum := "bda6c88b156d491bb36d54d2468de4facc4c8ec7bf52699cf2eb50a531e2d4fc", func := "lamplighter/lamplighterlaw11.AcceptAnswers", spec := "acceptAnswers", inPlace := ["internal/bytealg.IndexByte", "internal/bytealg.IndexByteString", "internal/bytealg.IndexString", "internal/bytealg.Index", "internal/abi.NoEscape", "internal/bytealg.MakeNoZero"], unfollowed := true, recurses := true, named := ["internal/bytealg.MaxLen", "lamplighter/msh.versions", "lamplighter/frame.ends", "lamplighter/ack.codes"], apart := false, laid := [("lamplighter/frame.ends", laid_lamplighter_frame_ends), ("lamplighter/msh.versions", laid_lamplighter_msh_versions), ("lamplighter/ack.codes", laid_lamplighter_ack_codes)], narrowed := true }
def AcceptAnswersUptoSaid : Prop := acceptAnswersUptoRow.holds Tryd.pinned (OpenSpec.upto acceptAnswersSpec)

end Rows
end Go.Proofs.YtljdbphojcglgaaDoor
