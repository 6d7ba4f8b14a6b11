/- The law SegmentMakes over three bytes and texts: the walk's premises hold; condition: the texts are of at most 1048576 bytes together. -/
import Derived.Test.YtabddkoehdddoaaMakes8
namespace Go.Proofs.Ytabddkoehdddoaa.Pure
open Go Go.RowKit Go.Proofs.Ytabddkoehdddoaa.PE Go.Proofs.YtabddkoehdddoaaW.PrintWords Go.Proofs.YtabddkoehdddoaaW.PrintLast
theorem SegmentMakes (a0 a1 a2 : Int) (l : List ByteArray) (_ha0 : 0 ≤ a0 ∧ a0 ≤ 255) (_ha1 : 0 ≤ a1 ∧ a1 ≤ 255) (_ha2 : 0 ≤ a2 ∧ a2 ≤ 255) (hb : bulkOf l ≤ 1048576) (w : World) {A : Option Addr} {c : Nat} (hr : Kd.C Kd.string w A l.length l) (hc : l.length ≤ c) :
    Calls Try.prog 5 #[.agg #[.int .u8 a0, .int .u8 a1, .int .u8 a2], .slice A l.length c] w fun e w' => e = .returned (.bool true) ∧ Below w.heap.size w w' :=
  Makes.makes_walk (l.length + 1) a0 a1 a2 _ha0 _ha1 _ha2 A c l w hr hc hb (Makes.bytes_spec _ l hb (by omega)) alive_is plain_is Makes.makes_ok
end Go.Proofs.Ytabddkoehdddoaa.Pure
