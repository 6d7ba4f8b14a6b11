/-
  NARROWER THAN 'FOR EVERY INPUT', by the rows' own cells (each row's printed sentence says how): MshCuts: laid · MshChecks: laid · AckReads: laid · AckBehind: laid · AckForms: laid · AckBack: laid.
  DERIVED. THE GIVEN ROWS OF THIS SEAT. 6 by the template 'for every input the law returns true; each argument reads behind the call as it read before'; 0 by the template 'total and deterministic' (their statements: YtcjcaojgminjpabDoorTotals.lean).
  GIVEN WITH THE SEED: the statements are not yours to turn. If you find one false, say at which input.
  Laid BY PROGRAM, IN A SANDBOX (cutbox-rows.mjs): the forced cells as the released guide's own fill.sh prints them over the translation 07a1ba58f8d23f26… (all of the seat's roots in one cut). By AI agents, Wed Nov 11 2026. No macro, syntax, notation, axiom, sorry.
-/
import Derived.Test.YtcjcaojgminjpabDoorChecked
import GoSem.Claim
import GoSem.ClaimJoined
import GoSem.ClaimMapViews
import Derived.JoinedTies
import Derived.KernelRfl
namespace Go.Proofs.YtcjcaojgminjpabDoor
/- THE CELL 'sum', in the pinned program and in every row, IS THE sha256 OF THE DUMP (.gsa) THAT YtcjcaojgminjpabDoorProg.lean LOADS. Nothing in Lean hashes anything: it is a label: what it is worth is what the hold of that sum in a sandbox is worth. -/
noncomputable def Tryd.pinned : Pinned := { name := "ytcjcaojgminjpabdoor", sum := "07a1ba58f8d23f26827ebe297dd29f763c76e9152b7fc3bc5377384afb62e1cd", checked := Tryd.checked }
namespace Rows
def none {H : Type} : Left H := { results := [], args := [] }

/- WHAT THE LISTED PACKAGE-LEVEL VARIABLES READ AS WHEN THE CALL BEGINS. Each datum BY PROGRAM (the guide's laid-datum.mjs) off the statement by which the dump's own 'gosem.cut.vars' lays the variable. In a bare row this is a premise. The card (YtcjcaojgminjpabDoorCards.lean) ties it to the program's text. -/
def laid_lamplighter_msh_versions {H : Type} : DataW H := .agg [.lit (.string [50, 46, 49]), .lit (.string [50, 46, 50]), .lit (.string [50, 46, 51]), .lit (.string [50, 46, 51, 46, 49]), .lit (.string [50, 46, 52]), .lit (.string [50, 46, 53]), .lit (.string [50, 46, 53, 46, 49]), .lit (.string [50, 46, 54]), .lit (.string [50, 46, 55]), .lit (.string [50, 46, 56])]
def laid_lamplighter_ack_codes {H : Type} : DataW H := .agg [.lit (.string [65, 65]), .lit (.string [65, 69]), .lit (.string [65, 82])]

/-- 'lamplighterlaw09.MshCuts': WHATEVER THE INPUT: true; the input reads as it did. -/
def mshCutsSpec : ChangeSpec := { name := "mshCuts", fn := fun _ => fun
  | [d1, d2] => { results := [.lit (.bool true)], args := [d1, d2] }
  | _ => none }
def mshCutsRow : OpenClaim := { program := "ytcjcaojgminjpabdoor", sum := "07a1ba58f8d23f26827ebe297dd29f763c76e9152b7fc3bc5377384afb62e1cd", func := "lamplighter/lamplighterlaw09.MshCuts", spec := "mshCuts", inPlace := ["internal/bytealg.IndexByte", "internal/bytealg.IndexByteString", "internal/bytealg.IndexString", "internal/abi.NoEscape", "internal/bytealg.MakeNoZero"], unfollowed := true, recurses := true, named := ["internal/bytealg.MaxLen", "lamplighter/msh.versions"], apart := false, laid := [("lamplighter/msh.versions", laid_lamplighter_msh_versions)] }
def MshCutsSaid : Prop := mshCutsRow.holds Tryd.pinned (OpenSpec.ofChange mshCutsSpec)

/-- ITS FALSE NEIGHBOUR: 'it returns false'. Refute it at one input. -/
def mshCutsWrong : ChangeSpec := { name := "mshCuts", fn := fun _ => fun
  | [d1, d2] => { results := [.lit (.bool false)], args := [d1, d2] }
  | _ => none }
def MshCutsWrongFalsely : Prop := mshCutsRow.holds Tryd.pinned (OpenSpec.ofChange mshCutsWrong)

/-- 'lamplighterlaw09.MshChecks': WHATEVER THE INPUT: true; the input reads as it did. -/
def mshChecksSpec : ChangeSpec := { name := "mshChecks", fn := fun _ => fun
  | [d] => { results := [.lit (.bool true)], args := [d] }
  | _ => none }
def mshChecksRow : OpenClaim := { program := "ytcjcaojgminjpabdoor", sum := "07a1ba58f8d23f26827ebe297dd29f763c76e9152b7fc3bc5377384afb62e1cd", func := "lamplighter/lamplighterlaw09.MshChecks", spec := "mshChecks", inPlace := ["internal/bytealg.IndexByte", "internal/bytealg.IndexByteString", "internal/bytealg.IndexString", "internal/abi.NoEscape", "internal/bytealg.MakeNoZero"], unfollowed := true, recurses := true, named := ["internal/bytealg.MaxLen", "lamplighter/msh.versions"], apart := false, laid := [("lamplighter/msh.versions", laid_lamplighter_msh_versions)] }
def MshChecksSaid : Prop := mshChecksRow.holds Tryd.pinned (OpenSpec.ofChange mshChecksSpec)

/-- ITS FALSE NEIGHBOUR: 'it returns false'. Refute it at one input. -/
def mshChecksWrong : ChangeSpec := { name := "mshChecks", fn := fun _ => fun
  | [d] => { results := [.lit (.bool false)], args := [d] }
  | _ => none }
def MshChecksWrongFalsely : Prop := mshChecksRow.holds Tryd.pinned (OpenSpec.ofChange mshChecksWrong)

/-- 'lamplighterlaw10.AckReads': WHATEVER THE INPUT: true; the input reads as it did. -/
def ackReadsSpec : ChangeSpec := { name := "ackReads", fn := fun _ => fun
  | [d] => { results := [.lit (.bool true)], args := [d] }
  | _ => none }
def ackReadsRow : OpenClaim := { program := "ytcjcaojgminjpabdoor", sum := "07a1ba58f8d23f26827ebe297dd29f763c76e9152b7fc3bc5377384afb62e1cd", func := "lamplighter/lamplighterlaw10.AckReads", spec := "ackReads", inPlace := ["internal/bytealg.IndexByte", "internal/bytealg.IndexByteString", "internal/bytealg.IndexString", "internal/abi.NoEscape", "internal/bytealg.MakeNoZero"], unfollowed := true, recurses := true, named := ["lamplighter/ack.codes", "internal/bytealg.MaxLen"], apart := false, laid := [("lamplighter/ack.codes", laid_lamplighter_ack_codes)] }
def AckReadsSaid : Prop := ackReadsRow.holds Tryd.pinned (OpenSpec.ofChange ackReadsSpec)

/-- ITS FALSE NEIGHBOUR: 'it returns false'. Refute it at one input. -/
def ackReadsWrong : ChangeSpec := { name := "ackReads", fn := fun _ => fun
  | [d] => { results := [.lit (.bool false)], args := [d] }
  | _ => none }
def AckReadsWrongFalsely : Prop := ackReadsRow.holds Tryd.pinned (OpenSpec.ofChange ackReadsWrong)

/-- 'lamplighterlaw10.AckBehind': WHATEVER THE INPUT: true; the input reads as it did. -/
def ackBehindSpec : ChangeSpec := { name := "ackBehind", fn := fun _ => fun
  | [d1, d2, d3] => { results := [.lit (.bool true)], args := [d1, d2, d3] }
  | _ => none }
def ackBehindRow : OpenClaim := { program := "ytcjcaojgminjpabdoor", sum := "07a1ba58f8d23f26827ebe297dd29f763c76e9152b7fc3bc5377384afb62e1cd", func := "lamplighter/lamplighterlaw10.AckBehind", spec := "ackBehind", inPlace := ["internal/bytealg.IndexByte", "internal/bytealg.IndexByteString", "internal/bytealg.IndexString", "internal/abi.NoEscape", "internal/bytealg.MakeNoZero"], unfollowed := true, recurses := true, named := ["lamplighter/ack.codes", "internal/bytealg.MaxLen"], apart := false, laid := [("lamplighter/ack.codes", laid_lamplighter_ack_codes)] }
def AckBehindSaid : Prop := ackBehindRow.holds Tryd.pinned (OpenSpec.ofChange ackBehindSpec)

/-- ITS FALSE NEIGHBOUR: 'it returns false'. Refute it at one input. -/
def ackBehindWrong : ChangeSpec := { name := "ackBehind", fn := fun _ => fun
  | [d1, d2, d3] => { results := [.lit (.bool false)], args := [d1, d2, d3] }
  | _ => none }
def AckBehindWrongFalsely : Prop := ackBehindRow.holds Tryd.pinned (OpenSpec.ofChange ackBehindWrong)

/-- 'lamplighterlaw10.AckForms': WHATEVER THE INPUT: true; the input reads as it did. -/
def ackFormsSpec : ChangeSpec := { name := "ackForms", fn := fun _ => fun
  | [d1, d2] => { results := [.lit (.bool true)], args := [d1, d2] }
  | _ => none }
def ackFormsRow : OpenClaim := { program := "ytcjcaojgminjpabdoor", sum := "07a1ba58f8d23f26827ebe297dd29f763c76e9152b7fc3bc5377384afb62e1cd", func := "lamplighter/lamplighterlaw10.AckForms", spec := "ackForms", inPlace := ["internal/bytealg.IndexByte", "internal/bytealg.IndexByteString", "internal/bytealg.IndexString", "internal/abi.NoEscape", "internal/bytealg.MakeNoZero"], unfollowed := true, recurses := true, named := ["internal/bytealg.MaxLen", "lamplighter/ack.codes"], apart := false, laid := [("lamplighter/ack.codes", laid_lamplighter_ack_codes)] }
def AckFormsSaid : Prop := ackFormsRow.holds Tryd.pinned (OpenSpec.ofChange ackFormsSpec)

/-- ITS FALSE NEIGHBOUR: 'it returns false'. Refute it at one input. -/
def ackFormsWrong : ChangeSpec := { name := "ackForms", fn := fun _ => fun
  | [d1, d2] => { results := [.lit (.bool false)], args := [d1, d2] }
  | _ => none }
def AckFormsWrongFalsely : Prop := ackFormsRow.holds Tryd.pinned (OpenSpec.ofChange ackFormsWrong)

/-- 'lamplighterlaw10.AckBack': WHATEVER THE INPUT: true; the input reads as it did. -/
def ackBackSpec : ChangeSpec := { name := "ackBack", fn := fun _ => fun
  | [d1, d2] => { results := [.lit (.bool true)], args := [d1, d2] }
  | _ => none }
def ackBackRow : OpenClaim := { program := "ytcjcaojgminjpabdoor", sum := "07a1ba58f8d23f26827ebe297dd29f763c76e9152b7fc3bc5377384afb62e1cd", func := "lamplighter/lamplighterlaw10.AckBack", spec := "ackBack", inPlace := ["internal/bytealg.IndexByte", "internal/bytealg.IndexByteString", "internal/bytealg.IndexString", "internal/abi.NoEscape", "internal/bytealg.MakeNoZero"], unfollowed := true, recurses := true, named := ["lamplighter/ack.codes", "internal/bytealg.MaxLen"], apart := false, laid := [("lamplighter/ack.codes", laid_lamplighter_ack_codes)] }
def AckBackSaid : Prop := ackBackRow.holds Tryd.pinned (OpenSpec.ofChange ackBackSpec)

/-- ITS FALSE NEIGHBOUR: 'it returns false'. Refute it at one input. -/
def ackBackWrong : ChangeSpec := { name := "ackBack", fn := fun _ => fun
  | [d1, d2] => { results := [.lit (.bool false)], args := [d1, d2] }
  | _ => none }
def AckBackWrongFalsely : Prop := ackBackRow.holds Tryd.pinned (OpenSpec.ofChange ackBackWrong)

/- THE SECOND FORM. 'bulk': how many values and letters a reading holds, each counted each time it is reached (what is shared counts as often as it is met; a slice's spare places count too). A statement '..UptoSaid' is the law's where the arguments, and the package variables that the reading takes, are together of bulk at most 1048576: NARROWER than '..Said'. Prove '..Said' where nothing that the law and all that it calls make is longer than what came in: it says more and counts as full. Else prove '..UptoSaid'. A law counts once. -/
mutual
def uptoBulk {H : Type} : DataW H → Nat
  | .lit (.string bytes) => bytes.length + 1
  | .lit _ => 1
  | .nil => 1
  | .ptr d => uptoBulk d + 1
  | .slice elems spare => uptoBulkAll elems + uptoBulkAll spare + 1
  | .agg parts => uptoBulkAll parts + 1
  | .iface _ d => uptoBulk d + 1
  | .map entries => uptoBulkEntries entries + 1
  | .held _ => 1
def uptoBulkAll {H : Type} : List (DataW H) → Nat
  | [] => 0
  | d :: r => uptoBulk d + uptoBulkAll r
def uptoBulkEntries {H : Type} : List (Lit × DataW H) → Nat
  | [] => 0
  | x :: r => uptoBulkEntry x + uptoBulkEntries r
def uptoBulkEntry {H : Type} : Lit × DataW H → Nat
  | (.string bytes, d) => bytes.length + uptoBulk d + 1
  | (_, d) => uptoBulk d + 1
 end
def uptoSmall : (H : Type) → List (DataW H) → Bool := fun _ ds => decide (uptoBulkAll ds ≤ 1048576)
def OpenSpec.upto (s : _root_.Go.ChangeSpec) : _root_.Go.OpenSpec := { _root_.Go.OpenSpec.ofChange s with cond := some uptoSmall }

/-- 'lamplighterlaw09.MshCuts', WHERE WHAT IT READS IS OF BULK AT MOST 1048576: true; the input reads as it did. -/
def mshCutsUptoRow : OpenClaim := { program := "ytcjcaojgminjpabdoor", sum := "07a1ba58f8d23f26827ebe297dd29f763c76e9152b7fc3bc5377384afb62e1cd", func := "lamplighter/lamplighterlaw09.MshCuts", spec := "mshCuts", inPlace := ["internal/bytealg.IndexByte", "internal/bytealg.IndexByteString", "internal/bytealg.IndexString", "internal/abi.NoEscape", "internal/bytealg.MakeNoZero"], unfollowed := true, recurses := true, named := ["internal/bytealg.MaxLen", "lamplighter/msh.versions"], apart := false, laid := [("lamplighter/msh.versions", laid_lamplighter_msh_versions)], narrowed := true }
def MshCutsUptoSaid : Prop := mshCutsUptoRow.holds Tryd.pinned (OpenSpec.upto mshCutsSpec)

/-- 'lamplighterlaw09.MshChecks', WHERE WHAT IT READS IS OF BULK AT MOST 1048576: true; the input reads as it did. -/
def mshChecksUptoRow : OpenClaim := { program := "ytcjcaojgminjpabdoor", sum := "07a1ba58f8d23f26827ebe297dd29f763c76e9152b7fc3bc5377384afb62e1cd", func := "lamplighter/lamplighterlaw09.MshChecks", spec := "mshChecks", inPlace := ["internal/bytealg.IndexByte", "internal/bytealg.IndexByteString", "internal/bytealg.IndexString", "internal/abi.NoEscape", "internal/bytealg.MakeNoZero"], unfollowed := true, recurses := true, named := ["internal/bytealg.MaxLen", "lamplighter/msh.versions"], apart := false, laid := [("lamplighter/msh.versions", laid_lamplighter_msh_versions)], narrowed := true }
def MshChecksUptoSaid : Prop := mshChecksUptoRow.holds Tryd.pinned (OpenSpec.upto mshChecksSpec)

/-- 'lamplighterlaw10.AckReads', WHERE WHAT IT READS IS OF BULK AT MOST 1048576: true; the input reads as it did. -/
def ackReadsUptoRow : OpenClaim := { program := "ytcjcaojgminjpabdoor", sum := "07a1ba58f8d23f26827ebe297dd29f763c76e9152b7fc3bc5377384afb62e1cd", func := "lamplighter/lamplighterlaw10.AckReads", spec := "ackReads", inPlace := ["internal/bytealg.IndexByte", "internal/bytealg.IndexByteString", "internal/bytealg.IndexString", "internal/abi.NoEscape", "internal/bytealg.MakeNoZero"], unfollowed := true, recurses := true, named := ["lamplighter/ack.codes", "internal/bytealg.MaxLen"], apart := false, laid := [("lamplighter/ack.codes", laid_lamplighter_ack_codes)], narrowed := true }
def AckReadsUptoSaid : Prop := ackReadsUptoRow.holds Tryd.pinned (OpenSpec.upto ackReadsSpec)

/-- 'lamplighterlaw10.AckBehind', WHERE WHAT IT READS IS OF BULK AT MOST 1048576: true; the input reads as it did. -/
def ackBehindUptoRow : OpenClaim := { program := "ytcjcaojgminjpabdoor", sum := "07a1ba58f8d23f26827ebe297dd29f763c76e9152b7fc3bc5377384afb62e1cd", func := "lamplighter/lamplighterlaw10.AckBehind", spec := "ackBehind", inPlace := ["internal/bytealg.IndexByte", "internal/bytealg.IndexByteString", "internal/bytealg.IndexString", "internal/abi.NoEscape", "internal/bytealg.MakeNoZero"], unfollowed := true, recurses := true, named := ["lamplighter/ack.codes", "internal/bytealg.MaxLen"], apart := false, laid := [("lamplighter/ack.codes", laid_lamplighter_ack_codes)], narrowed := true }
def AckBehindUptoSaid : Prop := ackBehindUptoRow.holds Tryd.pinned (OpenSpec.upto ackBehindSpec)

/-- 'lamplighterlaw10.AckForms', WHERE WHAT IT READS IS OF BULK AT MOST 1048576: true; the input reads as it did. -/
def ackFormsUptoRow : OpenClaim := { program := "ytcjcaojgminjpabdoor", sum := "07a1ba58f8d23f26827ebe297dd29f763c76e9152b7fc3bc5377384afb62e1cd", func := "lamplighter/lamplighterlaw10.AckForms", spec := "ackForms", inPlace := ["internal/bytealg.IndexByte", "internal/bytealg.IndexByteString", "internal/bytealg.IndexString", "internal/abi.NoEscape", "internal/bytealg.MakeNoZero"], unfollowed := true, recurses := true, named := ["internal/bytealg.MaxLen", "lamplighter/ack.codes"], apart := false, laid := [("lamplighter/ack.codes", laid_lamplighter_ack_codes)], narrowed := true }
def AckFormsUptoSaid : Prop := ackFormsUptoRow.holds Tryd.pinned (OpenSpec.upto ackFormsSpec)

/-- 'lamplighterlaw10.AckBack', WHERE WHAT IT READS IS OF BULK AT MOST 1048576: true; the input reads as it did. -/
def ackBackUptoRow : OpenClaim := { program := "ytcjcaojgminjpabdoor", sum := "07a1ba58f8d23f26827ebe297dd29f763c76e9152b7fc3bc5377384afb62e1cd", func := "lamplighter/lamplighterlaw10.AckBack", spec := "ackBack", inPlace := ["internal/bytealg.IndexByte", "internal/bytealg.IndexByteString", "internal/bytealg.IndexString", "internal/abi.NoEscape", "internal/bytealg.MakeNoZero"], unfollowed := true, recurses := true, named := ["lamplighter/ack.codes", "internal/bytealg.MaxLen"], apart := false, laid := [("lamplighter/ack.codes", laid_lamplighter_ack_codes)], narrowed := true }
def AckBackUptoSaid : Prop := ackBackUptoRow.holds Tryd.pinned (OpenSpec.upto ackBackSpec)

end Rows
end Go.Proofs.YtcjcaojgminjpabDoor
