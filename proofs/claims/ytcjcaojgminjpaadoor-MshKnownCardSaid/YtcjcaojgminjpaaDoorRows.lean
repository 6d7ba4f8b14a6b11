/-
  NARROWER THAN 'FOR EVERY INPUT', by the rows' own cells (each row's printed sentence says how): AckBuilds: laid · MshReads: laid · MshIds: laid · MshKnown: laid · AckTwice: laid · MshBack: laid · MshOne: laid.
  DERIVED. THE GIVEN ROWS OF THIS SEAT. 7 by the template 'for every input the law returns true; each argument reads behind the call as it read before'; 0 by the template 'total and deterministic' (their statements: YtcjcaojgminjpaaDoorTotals.lean).
  GIVEN WITH THE SEED: the statements are not yours to turn. If you find one false, say at which input.
  Laid BY PROGRAM, IN A SANDBOX (cutbox-rows.mjs): the forced cells as the released guide's own fill.sh prints them over the translation 545bb29d4d81e50d… (all of the seat's roots in one cut). By AI agents, Wed Nov 11 2026. No macro, syntax, notation, axiom, sorry.
-/
import Derived.Test.YtcjcaojgminjpaaDoorChecked
import GoSem.Claim
import GoSem.ClaimJoined
import GoSem.ClaimMapViews
import Derived.JoinedTies
import Derived.KernelRfl
namespace Go.Proofs.YtcjcaojgminjpaaDoor
/- THE CELL 'sum', in the pinned program and in every row, IS THE sha256 OF THE DUMP (.gsa) THAT YtcjcaojgminjpaaDoorProg.lean LOADS. Nothing in Lean hashes anything: it is a label: what it is worth is what the hold of that sum in a sandbox is worth. -/
noncomputable def Tryd.pinned : Pinned := { name := "ytcjcaojgminjpaadoor", sum := "545bb29d4d81e50d5f8b8541632f5995fa4de870d037033fca09ea1563eccdc6", checked := Tryd.checked }
namespace Rows
def none {H : Type} : Left H := { results := [], args := [] }

/- WHAT THE LISTED PACKAGE-LEVEL VARIABLES READ AS WHEN THE CALL BEGINS. Each datum BY PROGRAM (the guide's laid-datum.mjs) off the statement by which the dump's own 'gosem.cut.vars' lays the variable. In a bare row this is a premise. The card (YtcjcaojgminjpaaDoorCards.lean) ties it to the program's text. -/
def laid_lamplighter_ack_codes {H : Type} : DataW H := .agg [.lit (.string [65, 65]), .lit (.string [65, 69]), .lit (.string [65, 82])]
def laid_lamplighter_msh_versions {H : Type} : DataW H := .agg [.lit (.string [50, 46, 49]), .lit (.string [50, 46, 50]), .lit (.string [50, 46, 51]), .lit (.string [50, 46, 51, 46, 49]), .lit (.string [50, 46, 52]), .lit (.string [50, 46, 53]), .lit (.string [50, 46, 53, 46, 49]), .lit (.string [50, 46, 54]), .lit (.string [50, 46, 55]), .lit (.string [50, 46, 56])]

/-- 'lamplighterlaw10.AckBuilds': WHATEVER THE INPUT: true; the input reads as it did. -/
def ackBuildsSpec : ChangeSpec := { name := "ackBuilds", fn := fun _ => fun
  | [d1, d2] => { results := [.lit (.bool true)], args := [d1, d2] }
  | _ => none }
def ackBuildsRow : OpenClaim := { program := "ytcjcaojgminjpaadoor", sum := "545bb29d4d81e50d5f8b8541632f5995fa4de870d037033fca09ea1563eccdc6", func := "lamplighter/lamplighterlaw10.AckBuilds", spec := "ackBuilds", inPlace := ["internal/bytealg.IndexByte", "internal/bytealg.IndexByteString", "internal/bytealg.IndexString", "internal/abi.NoEscape", "internal/bytealg.MakeNoZero"], unfollowed := true, recurses := true, named := ["lamplighter/ack.codes", "internal/bytealg.MaxLen"], apart := false, laid := [("lamplighter/ack.codes", laid_lamplighter_ack_codes)] }
def AckBuildsSaid : Prop := ackBuildsRow.holds Tryd.pinned (OpenSpec.ofChange ackBuildsSpec)

/-- ITS FALSE NEIGHBOUR: 'it returns false'. Refute it at one input. -/
def ackBuildsWrong : ChangeSpec := { name := "ackBuilds", fn := fun _ => fun
  | [d1, d2] => { results := [.lit (.bool false)], args := [d1, d2] }
  | _ => none }
def AckBuildsWrongFalsely : Prop := ackBuildsRow.holds Tryd.pinned (OpenSpec.ofChange ackBuildsWrong)

/-- 'lamplighterlaw09.MshReads': WHATEVER THE INPUT: true; the input reads as it did. -/
def mshReadsSpec : ChangeSpec := { name := "mshReads", fn := fun _ => fun
  | [d] => { results := [.lit (.bool true)], args := [d] }
  | _ => none }
def mshReadsRow : OpenClaim := { program := "ytcjcaojgminjpaadoor", sum := "545bb29d4d81e50d5f8b8541632f5995fa4de870d037033fca09ea1563eccdc6", func := "lamplighter/lamplighterlaw09.MshReads", spec := "mshReads", inPlace := ["internal/bytealg.IndexByte", "internal/bytealg.IndexByteString", "internal/bytealg.IndexString"], unfollowed := true, recurses := true, named := ["internal/bytealg.MaxLen", "lamplighter/msh.versions"], apart := false, laid := [("lamplighter/msh.versions", laid_lamplighter_msh_versions)] }
def MshReadsSaid : Prop := mshReadsRow.holds Tryd.pinned (OpenSpec.ofChange mshReadsSpec)

/-- ITS FALSE NEIGHBOUR: 'it returns false'. Refute it at one input. -/
def mshReadsWrong : ChangeSpec := { name := "mshReads", fn := fun _ => fun
  | [d] => { results := [.lit (.bool false)], args := [d] }
  | _ => none }
def MshReadsWrongFalsely : Prop := mshReadsRow.holds Tryd.pinned (OpenSpec.ofChange mshReadsWrong)

/-- 'lamplighterlaw09.MshIds': WHATEVER THE INPUT: true; the input reads as it did. -/
def mshIdsSpec : ChangeSpec := { name := "mshIds", fn := fun _ => fun
  | [d1, d2] => { results := [.lit (.bool true)], args := [d1, d2] }
  | _ => none }
def mshIdsRow : OpenClaim := { program := "ytcjcaojgminjpaadoor", sum := "545bb29d4d81e50d5f8b8541632f5995fa4de870d037033fca09ea1563eccdc6", func := "lamplighter/lamplighterlaw09.MshIds", spec := "mshIds", inPlace := ["internal/bytealg.IndexByteString", "internal/bytealg.IndexString", "internal/bytealg.IndexByte"], unfollowed := true, recurses := true, named := ["lamplighter/msh.versions", "internal/bytealg.MaxLen"], apart := false, laid := [("lamplighter/msh.versions", laid_lamplighter_msh_versions)] }
def MshIdsSaid : Prop := mshIdsRow.holds Tryd.pinned (OpenSpec.ofChange mshIdsSpec)

/-- ITS FALSE NEIGHBOUR: 'it returns false'. Refute it at one input. -/
def mshIdsWrong : ChangeSpec := { name := "mshIds", fn := fun _ => fun
  | [d1, d2] => { results := [.lit (.bool false)], args := [d1, d2] }
  | _ => none }
def MshIdsWrongFalsely : Prop := mshIdsRow.holds Tryd.pinned (OpenSpec.ofChange mshIdsWrong)

/-- 'lamplighterlaw09.MshKnown': WHATEVER THE INPUT: true; the input reads as it did. -/
def mshKnownSpec : ChangeSpec := { name := "mshKnown", fn := fun _ => fun
  | [d1, d2, d3] => { results := [.lit (.bool true)], args := [d1, d2, d3] }
  | _ => none }
def mshKnownRow : OpenClaim := { program := "ytcjcaojgminjpaadoor", sum := "545bb29d4d81e50d5f8b8541632f5995fa4de870d037033fca09ea1563eccdc6", func := "lamplighter/lamplighterlaw09.MshKnown", spec := "mshKnown", inPlace := ["internal/bytealg.IndexByte", "internal/bytealg.IndexByteString", "internal/bytealg.IndexString"], unfollowed := true, recurses := true, named := ["lamplighter/msh.versions", "internal/bytealg.MaxLen"], apart := false, laid := [("lamplighter/msh.versions", laid_lamplighter_msh_versions)] }
def MshKnownSaid : Prop := mshKnownRow.holds Tryd.pinned (OpenSpec.ofChange mshKnownSpec)

/-- ITS FALSE NEIGHBOUR: 'it returns false'. Refute it at one input. -/
def mshKnownWrong : ChangeSpec := { name := "mshKnown", fn := fun _ => fun
  | [d1, d2, d3] => { results := [.lit (.bool false)], args := [d1, d2, d3] }
  | _ => none }
def MshKnownWrongFalsely : Prop := mshKnownRow.holds Tryd.pinned (OpenSpec.ofChange mshKnownWrong)

/-- 'lamplighterlaw10.AckTwice': WHATEVER THE INPUT: true; the input reads as it did. -/
def ackTwiceSpec : ChangeSpec := { name := "ackTwice", fn := fun _ => fun
  | [d] => { results := [.lit (.bool true)], args := [d] }
  | _ => none }
def ackTwiceRow : OpenClaim := { program := "ytcjcaojgminjpaadoor", sum := "545bb29d4d81e50d5f8b8541632f5995fa4de870d037033fca09ea1563eccdc6", func := "lamplighter/lamplighterlaw10.AckTwice", spec := "ackTwice", inPlace := ["internal/bytealg.IndexByte", "internal/bytealg.IndexByteString", "internal/bytealg.IndexString", "internal/abi.NoEscape", "internal/bytealg.MakeNoZero"], unfollowed := true, recurses := true, named := ["lamplighter/ack.codes", "internal/bytealg.MaxLen"], apart := false, laid := [("lamplighter/ack.codes", laid_lamplighter_ack_codes)] }
def AckTwiceSaid : Prop := ackTwiceRow.holds Tryd.pinned (OpenSpec.ofChange ackTwiceSpec)

/-- ITS FALSE NEIGHBOUR: 'it returns false'. Refute it at one input. -/
def ackTwiceWrong : ChangeSpec := { name := "ackTwice", fn := fun _ => fun
  | [d] => { results := [.lit (.bool false)], args := [d] }
  | _ => none }
def AckTwiceWrongFalsely : Prop := ackTwiceRow.holds Tryd.pinned (OpenSpec.ofChange ackTwiceWrong)

/-- 'lamplighterlaw09.MshBack': WHATEVER THE INPUT: true; the input reads as it did. -/
def mshBackSpec : ChangeSpec := { name := "mshBack", fn := fun _ => fun
  | [d1, d2] => { results := [.lit (.bool true)], args := [d1, d2] }
  | _ => none }
def mshBackRow : OpenClaim := { program := "ytcjcaojgminjpaadoor", sum := "545bb29d4d81e50d5f8b8541632f5995fa4de870d037033fca09ea1563eccdc6", func := "lamplighter/lamplighterlaw09.MshBack", spec := "mshBack", inPlace := ["internal/bytealg.IndexByte", "internal/bytealg.IndexByteString", "internal/bytealg.IndexString", "internal/abi.NoEscape", "internal/bytealg.MakeNoZero"], unfollowed := true, recurses := true, named := ["internal/bytealg.MaxLen", "lamplighter/msh.versions"], apart := false, laid := [("lamplighter/msh.versions", laid_lamplighter_msh_versions)] }
def MshBackSaid : Prop := mshBackRow.holds Tryd.pinned (OpenSpec.ofChange mshBackSpec)

/-- ITS FALSE NEIGHBOUR: 'it returns false'. Refute it at one input. -/
def mshBackWrong : ChangeSpec := { name := "mshBack", fn := fun _ => fun
  | [d1, d2] => { results := [.lit (.bool false)], args := [d1, d2] }
  | _ => none }
def MshBackWrongFalsely : Prop := mshBackRow.holds Tryd.pinned (OpenSpec.ofChange mshBackWrong)

/-- 'lamplighterlaw09.MshOne': WHATEVER THE INPUT: true; the input reads as it did. -/
def mshOneSpec : ChangeSpec := { name := "mshOne", fn := fun _ => fun
  | [d] => { results := [.lit (.bool true)], args := [d] }
  | _ => none }
def mshOneRow : OpenClaim := { program := "ytcjcaojgminjpaadoor", sum := "545bb29d4d81e50d5f8b8541632f5995fa4de870d037033fca09ea1563eccdc6", func := "lamplighter/lamplighterlaw09.MshOne", spec := "mshOne", inPlace := ["internal/bytealg.IndexByte", "internal/bytealg.IndexByteString", "internal/bytealg.IndexString", "internal/abi.NoEscape", "internal/bytealg.MakeNoZero"], unfollowed := true, recurses := true, named := ["internal/bytealg.MaxLen", "lamplighter/msh.versions"], apart := false, laid := [("lamplighter/msh.versions", laid_lamplighter_msh_versions)] }
def MshOneSaid : Prop := mshOneRow.holds Tryd.pinned (OpenSpec.ofChange mshOneSpec)

/-- ITS FALSE NEIGHBOUR: 'it returns false'. Refute it at one input. -/
def mshOneWrong : ChangeSpec := { name := "mshOne", fn := fun _ => fun
  | [d] => { results := [.lit (.bool false)], args := [d] }
  | _ => none }
def MshOneWrongFalsely : Prop := mshOneRow.holds Tryd.pinned (OpenSpec.ofChange mshOneWrong)

/- THE SECOND FORM. 'bulk': how many values and letters a reading holds, each counted each time it is reached (what is shared counts as often as it is met; a slice's spare places count too). A statement '..UptoSaid' is the law's where the arguments, and the package variables that the reading takes, are together of bulk at most 1048576: NARROWER than '..Said'. Prove '..Said' where nothing that the law and all that it calls make is longer than what came in: it says more and counts as full. Else prove '..UptoSaid'. A law counts once. -/
mutual
def uptoBulk {H : Type} : DataW H → Nat
  | .lit (.string bytes) => bytes.length + 1
  | .lit _ => 1
  | .nil => 1
  | .ptr d => uptoBulk d + 1
  | .slice elems spare => uptoBulkAll elems + uptoBulkAll spare + 1
  | .agg parts => uptoBulkAll parts + 1
  | .iface _ d => uptoBulk d + 1
  | .map entries => uptoBulkEntries entries + 1
  | .held _ => 1
def uptoBulkAll {H : Type} : List (DataW H) → Nat
  | [] => 0
  | d :: r => uptoBulk d + uptoBulkAll r
def uptoBulkEntries {H : Type} : List (Lit × DataW H) → Nat
  | [] => 0
  | x :: r => uptoBulkEntry x + uptoBulkEntries r
def uptoBulkEntry {H : Type} : Lit × DataW H → Nat
  | (.string bytes, d) => bytes.length + uptoBulk d + 1
  | (_, d) => uptoBulk d + 1
 end
def uptoSmall : (H : Type) → List (DataW H) → Bool := fun _ ds => decide (uptoBulkAll ds ≤ 1048576)
def OpenSpec.upto (s : _root_.Go.ChangeSpec) : _root_.Go.OpenSpec := { _root_.Go.OpenSpec.ofChange s with cond := some uptoSmall }

/-- 'lamplighterlaw10.AckBuilds', WHERE WHAT IT READS IS OF BULK AT MOST 1048576: true; the input reads as it did. -/
def ackBuildsUptoRow : OpenClaim := { program := "ytcjcaojgminjpaadoor", sum := "545bb29d4d81e50d5f8b8541632f5995fa4de870d037033fca09ea1563eccdc6", func := "lamplighter/lamplighterlaw10.AckBuilds", spec := "ackBuilds", inPlace := ["internal/bytealg.IndexByte", "internal/bytealg.IndexByteString", "internal/bytealg.IndexString", "internal/abi.NoEscape", "internal/bytealg.MakeNoZero"], unfollowed := true, recurses := true, named := ["lamplighter/ack.codes", "internal/bytealg.MaxLen"], apart := false, laid := [("lamplighter/ack.codes", laid_lamplighter_ack_codes)], narrowed := true }
def AckBuildsUptoSaid : Prop := ackBuildsUptoRow.holds Tryd.pinned (OpenSpec.upto ackBuildsSpec)

/-- 'lamplighterlaw09.MshReads', WHERE WHAT IT READS IS OF BULK AT MOST 1048576: true; the input reads as it did. -/
def mshReadsUptoRow : OpenClaim := { program := "ytcjcaojgminjpaadoor", sum := "545bb29d4d81e50d5f8b8541632f5995fa4de870d037033fca09ea1563eccdc6", func := "lamplighter/lamplighterlaw09.MshReads", spec := "mshReads", inPlace := ["internal/bytealg.IndexByte", "internal/bytealg.IndexByteString", "internal/bytealg.IndexString"], unfollowed := true, recurses := true, named := ["internal/bytealg.MaxLen", "lamplighter/msh.versions"], apart := false, laid := [("lamplighter/msh.versions", laid_lamplighter_msh_versions)], narrowed := true }
def MshReadsUptoSaid : Prop := mshReadsUptoRow.holds Tryd.pinned (OpenSpec.upto mshReadsSpec)

/-- 'lamplighterlaw09.MshIds', WHERE WHAT IT READS IS OF BULK AT MOST 1048576: true; the input reads as it did. -/
def mshIdsUptoRow : OpenClaim := { program := "ytcjcaojgminjpaadoor", sum := "545bb29d4d81e50d5f8b8541632f5995fa4de870d037033fca09ea1563eccdc6", func := "lamplighter/lamplighterlaw09.MshIds", spec := "mshIds", inPlace := ["internal/bytealg.IndexByteString", "internal/bytealg.IndexString", "internal/bytealg.IndexByte"], unfollowed := true, recurses := true, named := ["lamplighter/msh.versions", "internal/bytealg.MaxLen"], apart := false, laid := [("lamplighter/msh.versions", laid_lamplighter_msh_versions)], narrowed := true }
def MshIdsUptoSaid : Prop := mshIdsUptoRow.holds Tryd.pinned (OpenSpec.upto mshIdsSpec)

/-- 'lamplighterlaw09.MshKnown', WHERE WHAT IT READS IS OF BULK AT MOST 1048576: true; the input reads as it did. -/
def mshKnownUptoRow : OpenClaim := { program := "ytcjcaojgminjpaadoor", sum := "545bb29d4d81e50d5f8b8541632f5995fa4de870d037033fca09ea1563eccdc6", func := "lamplighter/lamplighterlaw09.MshKnown", spec := "mshKnown", inPlace := ["internal/bytealg.IndexByte", "internal/bytealg.IndexByteString", "internal/bytealg.IndexString"], unfollowed := true, recurses := true, named := ["lamplighter/msh.versions", "internal/bytealg.MaxLen"], apart := false, laid := [("lamplighter/msh.versions", laid_lamplighter_msh_versions)], narrowed := true }
def MshKnownUptoSaid : Prop := mshKnownUptoRow.holds Tryd.pinned (OpenSpec.upto mshKnownSpec)

/-- 'lamplighterlaw10.AckTwice', WHERE WHAT IT READS IS OF BULK AT MOST 1048576: true; the input reads as it did. -/
def ackTwiceUptoRow : OpenClaim := { program := "ytcjcaojgminjpaadoor", sum := "545bb29d4d81e50d5f8b8541632f5995fa4de870d037033fca09ea1563eccdc6", func := "lamplighter/lamplighterlaw10.AckTwice", spec := "ackTwice", inPlace := ["internal/bytealg.IndexByte", "internal/bytealg.IndexByteString", "internal/bytealg.IndexString", "internal/abi.NoEscape", "internal/bytealg.MakeNoZero"], unfollowed := true, recurses := true, named := ["lamplighter/ack.codes", "internal/bytealg.MaxLen"], apart := false, laid := [("lamplighter/ack.codes", laid_lamplighter_ack_codes)], narrowed := true }
def AckTwiceUptoSaid : Prop := ackTwiceUptoRow.holds Tryd.pinned (OpenSpec.upto ackTwiceSpec)

/-- 'lamplighterlaw09.MshBack', WHERE WHAT IT READS IS OF BULK AT MOST 1048576: true; the input reads as it did. -/
def mshBackUptoRow : OpenClaim := { program := "ytcjcaojgminjpaadoor", sum := "545bb29d4d81e50d5f8b8541632f5995fa4de870d037033fca09ea1563eccdc6", func := "lamplighter/lamplighterlaw09.MshBack", spec := "mshBack", inPlace := ["internal/bytealg.IndexByte", "internal/bytealg.IndexByteString", "internal/bytealg.IndexString", "internal/abi.NoEscape", "internal/bytealg.MakeNoZero"], unfollowed := true, recurses := true, named := ["internal/bytealg.MaxLen", "lamplighter/msh.versions"], apart := false, laid := [("lamplighter/msh.versions", laid_lamplighter_msh_versions)], narrowed := true }
def MshBackUptoSaid : Prop := mshBackUptoRow.holds Tryd.pinned (OpenSpec.upto mshBackSpec)

/-- 'lamplighterlaw09.MshOne', WHERE WHAT IT READS IS OF BULK AT MOST 1048576: true; the input reads as it did. -/
def mshOneUptoRow : OpenClaim := { program := "ytcjcaojgminjpaadoor", sum := "545bb29d4d81e50d5f8b8541632f5995fa4de870d037033fca09ea1563eccdc6", func := "lamplighter/lamplighterlaw09.MshOne", spec := "mshOne", inPlace := ["internal/bytealg.IndexByte", "internal/bytealg.IndexByteString", "internal/bytealg.IndexString", "internal/abi.NoEscape", "internal/bytealg.MakeNoZero"], unfollowed := true, recurses := true, named := ["internal/bytealg.MaxLen", "lamplighter/msh.versions"], apart := false, laid := [("lamplighter/msh.versions", laid_lamplighter_msh_versions)], narrowed := true }
def MshOneUptoSaid : Prop := mshOneUptoRow.holds Tryd.pinned (OpenSpec.upto mshOneSpec)

end Rows
end Go.Proofs.YtcjcaojgminjpaaDoor
