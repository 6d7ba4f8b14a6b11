/- A message of segments, the program's, over lists of bytes; conditions: texts that count at most 4000000 together, fuel for a step each. -/
import Derived.Test.YtljdbphojcglgaaDoorPFx12
import Derived.Test.YtljdbphojcglgaaDoorSeg
namespace Go.Proofs.YtljdbphojcglgaaDoor
open Go Go.RowKit Go.Proofs.YtljdbphojcglgaaDoor.PF Go.Proofs.YtljdbphojcglgaaDoorW.PrintWords Go.Proofs.YtljdbphojcglgaaDoorW.PrintLast
/-- The message of some segments. -/
def messOf (l : List ByteArray) : List UInt8:=l.flatMap (fun s=>s.data.toList ++ [13])
theorem messOf_length (l : List ByteArray) : (messOf l).length=bulkOf l:=by
  induction l with
  | nil=>rfl
  | cons x l ih =>
    show (x.data.toList ++ [13] ++ messOf l).length=_
    rw [bulk_cons,List.length_append,ih,List.length_append,len_size,List.length_singleton]
    omega
theorem join_loop (l : List ByteArray) (hl : bulkOf l≤4000000) (d : Nat) : ∀ (k i : Nat) (acc : List Int),l.length - i=d→d < k→acc.length + bulkOf (l.drop i)≤4000000 →
    segment_Join.l0 k acc l (l.length : Int) i=some (acc ++ numsOf (messOf (l.drop i))):=by
  have hn:=bulk_length l
  induction d with
  | zero =>
    intro k i acc hi hk ha
    obtain ⟨k,rfl⟩ : ∃ m,k=m + 1:=⟨k - 1,by omega⟩
    have q : ¬ ((i : Int) < (l.length : Int)):=by omega
    rw [segment_Join.l0,if_neg q,List.drop_eq_nil_of_le (by omega)]
    simp [messOf,numsOf]
  | succ d ih =>
    intro k i acc hi hk ha
    obtain ⟨k,rfl⟩ : ∃ m,k=m + 1:=⟨k - 1,by omega⟩
    have q : (i : Int) < (l.length : Int):=by omega
    have q0 : (0 : Int)≤(i : Int):=by omega
    rw [drop_cons l i (by omega),bulk_cons] at ha
    have w3:wrap64 ((i : Int) + 1)=((i + 1 : Nat) : Int):=by rw [wrap_fit (by omega) (by omega)]; rfl
    have q1:acc.length + (rdOf ByteArray.empty l (i : Int)).size < 140737488355328:=by omega
    have hlen : (acc ++ bytesOf (rdOf ByteArray.empty l (i : Int))).length=acc.length + (rdOf ByteArray.empty l (i : Int)).size:=by rw [List.length_append,bytesOf_length]
    have q2 : (acc ++ bytesOf (rdOf ByteArray.empty l (i : Int))).length < 140737488355328:=by omega
    rw [segment_Join.l0,if_pos q,if_pos q0,if_pos q,if_pos q1,Option.bind_some,if_pos q2,w3]
    rw [ih k (i + 1) _ (by omega) (by omega) (by rw [List.length_append,hlen,List.length_singleton]; omega),drop_cons l i (by omega)]
    congr 1
    simp [messOf,numsOf_bytes,numsOf]
theorem Join_spec (k : Nat) (l : List ByteArray) (hl : bulkOf l≤4000000) (hk : l.length < k) : segment_Join.f k l=some (numsOf (messOf l)):=by
  unfold segment_Join.f
  have:=join_loop l hl _ k 0 [] rfl (by omega) (by simpa using hl)
  simpa using this
end Go.Proofs.YtljdbphojcglgaaDoor
