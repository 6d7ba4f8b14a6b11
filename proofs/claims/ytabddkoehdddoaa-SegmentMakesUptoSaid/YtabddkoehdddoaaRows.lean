/-
  No cell of these rows narrows 'for every input' (looked for: loops, veiled, ifaces, maps, wideKeys, modest, calm, conditions, laid).
  DERIVED. THE GIVEN ROWS OF THIS SEAT. 3 by the template 'for every input the law returns true; each argument reads behind the call as it read before'; 0 by the template 'total and deterministic' (their statements: YtabddkoehdddoaaTotals.lean).
  GIVEN WITH THE SEED: the statements are not yours to turn. If you find one false, say at which input.
  Laid BY PROGRAM, IN A SANDBOX (cutbox-rows.mjs): the forced cells as the released guide's own fill.sh prints them over the translation 67cbfed9c318b0a1… (all of the seat's roots in one cut). By AI agents, Wed Nov 11 2026. No macro, syntax, notation, axiom, sorry.
-/
import Derived.Test.YtabddkoehdddoaaChecked
import GoSem.Claim
import GoSem.ClaimJoined
import GoSem.ClaimMapViews
import Derived.JoinedTies
import Derived.KernelRfl
namespace Go.Proofs.Ytabddkoehdddoaa
/- THE CELL 'sum', in the pinned program and in every row, IS THE sha256 OF THE DUMP (.gsa) THAT YtabddkoehdddoaaProg.lean LOADS. Nothing in Lean hashes anything: it is a label: what it is worth is what the hold of that sum in a sandbox is worth. -/
noncomputable def Try.pinned : Pinned := { name := "ytabddkoehdddoaa", sum := "67cbfed9c318b0a105591b52726a841aba9506450dcc552b8624cc6a7c8a34a7", checked := Try.checked }
namespace Rows
def none {H : Type} : Left H := { results := [], args := [] }

/-- 'lamplighterlaw06.DelimBack': WHATEVER THE INPUT: true; the input reads as it did. -/
def delimBackSpec : ChangeSpec := { name := "delimBack", fn := fun _ => fun
  | [d1, d2, d3] => { results := [.lit (.bool true)], args := [d1, d2, d3] }
  | _ => none }
def delimBackRow : OpenClaim := { program := "ytabddkoehdddoaa", sum := "67cbfed9c318b0a105591b52726a841aba9506450dcc552b8624cc6a7c8a34a7", func := "lamplighter/lamplighterlaw06.DelimBack", spec := "delimBack", inPlace := ["internal/bytealg.IndexByte"], apart := false }
def DelimBackSaid : Prop := delimBackRow.holds Try.pinned (OpenSpec.ofChange delimBackSpec)

/-- ITS FALSE NEIGHBOUR: 'it returns false'. Refute it at one input. -/
def delimBackWrong : ChangeSpec := { name := "delimBack", fn := fun _ => fun
  | [d1, d2, d3] => { results := [.lit (.bool false)], args := [d1, d2, d3] }
  | _ => none }
def DelimBackWrongFalsely : Prop := delimBackRow.holds Try.pinned (OpenSpec.ofChange delimBackWrong)

/-- 'lamplighterlaw08.SegmentNested': WHATEVER THE INPUT: true; the input reads as it did. -/
def segmentNestedSpec : ChangeSpec := { name := "segmentNested", fn := fun _ => fun
  | [d] => { results := [.lit (.bool true)], args := [d] }
  | _ => none }
def segmentNestedRow : OpenClaim := { program := "ytabddkoehdddoaa", sum := "67cbfed9c318b0a105591b52726a841aba9506450dcc552b8624cc6a7c8a34a7", func := "lamplighter/lamplighterlaw08.SegmentNested", spec := "segmentNested", inPlace := ["internal/bytealg.IndexByteString", "internal/bytealg.IndexString"], unfollowed := true, recurses := true, named := ["internal/bytealg.MaxLen"], apart := false }
def SegmentNestedSaid : Prop := segmentNestedRow.holds Try.pinned (OpenSpec.ofChange segmentNestedSpec)

/-- ITS FALSE NEIGHBOUR: 'it returns false'. Refute it at one input. -/
def segmentNestedWrong : ChangeSpec := { name := "segmentNested", fn := fun _ => fun
  | [d] => { results := [.lit (.bool false)], args := [d] }
  | _ => none }
def SegmentNestedWrongFalsely : Prop := segmentNestedRow.holds Try.pinned (OpenSpec.ofChange segmentNestedWrong)

/-- 'lamplighterlaw08.SegmentMakes': WHATEVER THE INPUT: true; the input reads as it did. -/
def segmentMakesSpec : ChangeSpec := { name := "segmentMakes", fn := fun _ => fun
  | [d1, d2] => { results := [.lit (.bool true)], args := [d1, d2] }
  | _ => none }
def segmentMakesRow : OpenClaim := { program := "ytabddkoehdddoaa", sum := "67cbfed9c318b0a105591b52726a841aba9506450dcc552b8624cc6a7c8a34a7", func := "lamplighter/lamplighterlaw08.SegmentMakes", spec := "segmentMakes", inPlace := ["internal/bytealg.IndexByteString", "internal/bytealg.IndexString", "internal/abi.NoEscape", "internal/bytealg.MakeNoZero"], unfollowed := true, recurses := true, named := ["internal/bytealg.MaxLen"], apart := false }
def SegmentMakesSaid : Prop := segmentMakesRow.holds Try.pinned (OpenSpec.ofChange segmentMakesSpec)

/-- ITS FALSE NEIGHBOUR: 'it returns false'. Refute it at one input. -/
def segmentMakesWrong : ChangeSpec := { name := "segmentMakes", fn := fun _ => fun
  | [d1, d2] => { results := [.lit (.bool false)], args := [d1, d2] }
  | _ => none }
def SegmentMakesWrongFalsely : Prop := segmentMakesRow.holds Try.pinned (OpenSpec.ofChange segmentMakesWrong)

/- THE SECOND FORM. 'bulk': how many values and letters a reading holds, each counted each time it is reached (what is shared counts as often as it is met; a slice's spare places count too). A statement '..UptoSaid' is the law's where the arguments, and the package variables that the reading takes, are together of bulk at most 1048576: NARROWER than '..Said'. Prove '..Said' where nothing that the law and all that it calls make is longer than what came in: it says more and counts as full. Else prove '..UptoSaid'. A law counts once. -/
mutual
def uptoBulk {H : Type} : DataW H → Nat
  | .lit (.string bytes) => bytes.length + 1
  | .lit _ => 1
  | .nil => 1
  | .ptr d => uptoBulk d + 1
  | .slice elems spare => uptoBulkAll elems + uptoBulkAll spare + 1
  | .agg parts => uptoBulkAll parts + 1
  | .iface _ d => uptoBulk d + 1
  | .map entries => uptoBulkEntries entries + 1
  | .held _ => 1
def uptoBulkAll {H : Type} : List (DataW H) → Nat
  | [] => 0
  | d :: r => uptoBulk d + uptoBulkAll r
def uptoBulkEntries {H : Type} : List (Lit × DataW H) → Nat
  | [] => 0
  | x :: r => uptoBulkEntry x + uptoBulkEntries r
def uptoBulkEntry {H : Type} : Lit × DataW H → Nat
  | (.string bytes, d) => bytes.length + uptoBulk d + 1
  | (_, d) => uptoBulk d + 1
 end
def uptoSmall : (H : Type) → List (DataW H) → Bool := fun _ ds => decide (uptoBulkAll ds ≤ 1048576)
def OpenSpec.upto (s : _root_.Go.ChangeSpec) : _root_.Go.OpenSpec := { _root_.Go.OpenSpec.ofChange s with cond := some uptoSmall }

/-- 'lamplighterlaw06.DelimBack', WHERE WHAT IT READS IS OF BULK AT MOST 1048576: true; the input reads as it did. -/
def delimBackUptoRow : OpenClaim := { program := "ytabddkoehdddoaa", sum := "67cbfed9c318b0a105591b52726a841aba9506450dcc552b8624cc6a7c8a34a7", func := "lamplighter/lamplighterlaw06.DelimBack", spec := "delimBack", inPlace := ["internal/bytealg.IndexByte"], apart := false, narrowed := true }
def DelimBackUptoSaid : Prop := delimBackUptoRow.holds Try.pinned (OpenSpec.upto delimBackSpec)

/-- 'lamplighterlaw08.SegmentNested', WHERE WHAT IT READS IS OF BULK AT MOST 1048576: true; the input reads as it did. -/
def segmentNestedUptoRow : OpenClaim := { program := "ytabddkoehdddoaa", sum := "67cbfed9c318b0a105591b52726a841aba9506450dcc552b8624cc6a7c8a34a7", func := "lamplighter/lamplighterlaw08.SegmentNested", spec := "segmentNested", inPlace := ["internal/bytealg.IndexByteString", "internal/bytealg.IndexString"], unfollowed := true, recurses := true, named := ["internal/bytealg.MaxLen"], apart := false, narrowed := true }
def SegmentNestedUptoSaid : Prop := segmentNestedUptoRow.holds Try.pinned (OpenSpec.upto segmentNestedSpec)

/-- 'lamplighterlaw08.SegmentMakes', WHERE WHAT IT READS IS OF BULK AT MOST 1048576: true; the input reads as it did. -/
def segmentMakesUptoRow : OpenClaim := { program := "ytabddkoehdddoaa", sum := "67cbfed9c318b0a105591b52726a841aba9506450dcc552b8624cc6a7c8a34a7", func := "lamplighter/lamplighterlaw08.SegmentMakes", spec := "segmentMakes", inPlace := ["internal/bytealg.IndexByteString", "internal/bytealg.IndexString", "internal/abi.NoEscape", "internal/bytealg.MakeNoZero"], unfollowed := true, recurses := true, named := ["internal/bytealg.MaxLen"], apart := false, narrowed := true }
def SegmentMakesUptoSaid : Prop := segmentMakesUptoRow.holds Try.pinned (OpenSpec.upto segmentMakesSpec)

end Rows
end Go.Proofs.Ytabddkoehdddoaa
