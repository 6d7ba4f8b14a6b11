/- The counts of repetitions and components, as laws over bytes; condition: texts of at most 2^47 bytes. -/
import Derived.Test.YtabddkoehdddoaaPEx2
import Derived.Test.YtabddkoehdddoaaSegPart
namespace Go.Proofs.Ytabddkoehdddoaa
open Go Go.RowKit Go.Proofs.Ytabddkoehdddoaa.PE Go.Proofs.YtabddkoehdddoaaW.PrintWords Go.Proofs.YtabddkoehdddoaaW.PrintLast

theorem Agains_spec (s : ByteArray) (c c1 c2 c3 c4 : Int) (hs : s.size ≤ 140737488355328) (hc : 0 ≤ c2 ∧ c2 ≤ 255) :
    segment_Agains.f s c c1 c2 c3 c4 = some ((cutL (UInt8.ofNat c2.toNat) s.data.toList).length : Int) := by
  unfold segment_Agains.f
  rw [nth_spec s c2 1 hs hc]; rfl
theorem Parts_spec (s : ByteArray) (n c c1 c2 c3 c4 : Int) (hs : s.size ≤ 140737488355328) (hc : 0 ≤ c2 ∧ c2 ≤ 255) (hc1 : 0 ≤ c1 ∧ c1 ≤ 255) :
    segment_Parts.f s n c c1 c2 c3 c4 = some (if 1 ≤ n ∧ n ≤ ((cutL (UInt8.ofNat c2.toNat) s.data.toList).length : Int) then ((cutL (UInt8.ofNat c1.toNat) (nthOf (cutL (UInt8.ofNat c2.toNat) s.data.toList) n)).length : Int) else 0) := by
  unfold segment_Parts.f
  rw [again_spec _ _ _ _ _ _ _ hs hc, Option.bind_some]
  by_cases h : 1 ≤ n ∧ n ≤ ((cutL (UInt8.ofNat c2.toNat) s.data.toList).length : Int)
  · have hb : (strOf (nthOf (cutL (UInt8.ofNat c2.toNat) s.data.toList) n)).size ≤ 140737488355328 := by
      rw [strOf_size]
      have h1 := nthOf_le (UInt8.ofNat c2.toNat) s.data.toList n
      rw [len_size] at h1
      omega
    rw [if_pos (decide_eq_true h), nth_spec _ _ _ hb hc1, strOf_data, if_pos h]
    rfl
  · rw [if_neg (by rw [decide_eq_true_iff]; exact h), if_neg h]
end Go.Proofs.Ytabddkoehdddoaa
