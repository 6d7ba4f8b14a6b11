/- The law DelimRight at any signs and any byte: the walk's five questions answered by which signs may be; conditions: the numbers are bytes. -/
import Derived.Test.YtabcmcllcfapkaaWalkDelimRight
import Derived.Test.YtabcmcllcfapkaaPureDelimReads
import Derived.Test.YtabcmcllcfapkaaGood
namespace Go.Proofs.Ytabcmcllcfapkaa.Pure
open Go Go.RowKit Go.Proofs.Ytabcmcllcfapkaa.PE Go.Proofs.YtabcmcllcfapkaaW.PrintWords Go.Proofs.YtabcmcllcfapkaaW.PrintLast
theorem DelimRight (a0 a1 a2 a3 a4 c : Int) (h0 : IsByte a0) (h1 : IsByte a1) (h2 : IsByte a2) (h3 : IsByte a3) (h4 : IsByte a4) (hc : IsByte c) (w : World) :
    Calls Try.prog 3 #[.agg #[.int .u8 a0, .int .u8 a1, .int .u8 a2, .int .u8 a3, .int .u8 a4], .int .u8 c] w fun e w' => e = .returned (.bool true) ∧ Below w.heap.size w w' := by
  refine DelimRight_walk 6 a0 a1 a2 a3 a4 c (decide (GoodS a0 a1 a2 a3 a4)) (decide (GoodS a0 a1 c a3 a4)) w (Right_spec 6 (by decide) _ _ _ _ _ h0 h1 h2 h3 h4) (alive_is 6 (by decide)) ?_ ?_ (Right_spec 6 (by decide) _ _ _ _ _ h0 h1 hc h3 h4) ?_
  · rw [Right_spec 6 (by decide) _ _ _ _ _ h4 h3 h0 h1 h2]
    congr 1
    rw [decide_eq_decide]
    exact good_turned a0 a1 a2 a3 a4
  · rw [Right_spec 6 (by decide) _ _ _ _ _ h0 h0 h2 h3 h4, decide_eq_false (good_twice _ _ _ _)]
  · intro h
    exact decide_eq_false (good_plain h)
end Go.Proofs.Ytabcmcllcfapkaa.Pure
