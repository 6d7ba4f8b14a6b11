/- What repetitions and components of a field come to, over lists of bytes; sizes up to 2^47 bytes. -/
import Derived.Test.YtljdbphojcglgaaDoorPFx6
import Derived.Test.YtljdbphojcglgaaDoorSeg
namespace Go.Proofs.YtljdbphojcglgaaDoor
open Go Go.RowKit Go.Proofs.YtljdbphojcglgaaDoor.PF Go.Proofs.YtljdbphojcglgaaDoorW.PrintWords Go.Proofs.YtljdbphojcglgaaDoorW.PrintLast Go.Proofs.YtljdbphojcglgaaDoorW.PrintMore

theorem again_spec (s : ByteArray) (n c c1 c2 c3 c4 : Int) (hs : s.size≤140737488355328) (hc : 0≤c2∧c2≤255) :
    segment_again.f s n c c1 c2 c3 c4=some (strOf (nthOf (cutL (UInt8.ofNat c2.toNat) s.data.toList) n),decide (1≤n∧n≤((cutL (UInt8.ofNat c2.toNat) s.data.toList).length : Int))):=by
  unfold segment_again.f
  rw [nth_spec _ _ _ hs hc]
  simp only [Option.bind_some]
  by_cases h : n ≥ 1
  · rw [if_pos h]
    congr 2
    rw [decide_eq_decide]; omega
  · rw [if_neg h]
    congr 2
    rw [eq_comm,decide_eq_false_iff_not]; omega
theorem nthOf_le (c : UInt8) (l : List UInt8) (n : Int) : (nthOf (cutL c l) n).length≤l.length:=by
  unfold nthOf
  split
  · rw [List.getD_eq_getElem?_getD]
    cases h : (cutL c l)[(n - 1).toNat]? with
    | none=>simp
    | some x=>exact cutL_part_le c l x (List.mem_of_getElem? h)
  · simp
theorem Part_spec (s : ByteArray) (r n c c1 c2 c3 c4 : Int) (hs : s.size≤140737488355328) (hc : 0≤c2∧c2≤255) (hc1 : 0≤c1∧c1≤255) :
    segment_Part.f s r n c c1 c2 c3 c4=some (if 1≤r∧r≤((cutL (UInt8.ofNat c2.toNat) s.data.toList).length : Int) then
      (strOf (nthOf (cutL (UInt8.ofNat c1.toNat) (nthOf (cutL (UInt8.ofNat c2.toNat) s.data.toList) r)) n),decide (1≤n∧n≤((cutL (UInt8.ofNat c1.toNat) (nthOf (cutL (UInt8.ofNat c2.toNat) s.data.toList) r)).length : Int)))
      else (strOf [],false)):=by
  unfold segment_Part.f
  rw [again_spec _ _ _ _ _ _ _ hs hc]
  simp only [Option.bind_some]
  by_cases h : 1≤r∧r≤((cutL (UInt8.ofNat c2.toNat) s.data.toList).length : Int)
  · have hb : (strOf (nthOf (cutL (UInt8.ofNat c2.toNat) s.data.toList) r)).size≤140737488355328:=by
      rw [strOf_size]
      have h1:=nthOf_le (UInt8.ofNat c2.toNat) s.data.toList r
      rw [len_size] at h1
      omega
    rw [if_pos (decide_eq_true h),nth_spec _ _ _ hb hc1,strOf_data,if_pos h]
    simp only [Option.bind_some]
    by_cases h1 : n ≥ 1
    · rw [if_pos h1]
      congr 2
      rw [decide_eq_decide]; omega
    · rw [if_neg h1]
      congr 2
      rw [eq_comm,decide_eq_false_iff_not]; omega
  · rw [if_neg (by rw [decide_eq_true_iff]; exact h),if_neg h]; rfl
end Go.Proofs.YtljdbphojcglgaaDoor
