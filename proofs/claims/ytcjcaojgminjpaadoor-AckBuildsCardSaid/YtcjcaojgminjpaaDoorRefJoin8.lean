/- A message of segments as the document has it, over lists of bytes; conditions: texts that count at most 1048576 together, fuel for a step each. -/
import Derived.Test.YtcjcaojgminjpaaDoorPDx16
import Derived.Test.YtcjcaojgminjpaaDoorSegJoin
namespace Go.Proofs.YtcjcaojgminjpaaDoor
open Go Go.RowKit Go.Proofs.YtcjcaojgminjpaaDoor.PD Go.Proofs.YtcjcaojgminjpaaDoorW.PrintWords Go.Proofs.YtcjcaojgminjpaaDoorW.PrintLast
theorem refJoin_loop (l : List ByteArray) (hl : bulkOf l≤1048576) (d : Nat) : ∀ (k i : Nat) (acc : List UInt8),l.length - i=d→d < k→acc.length + bulkOf (l.drop i)≤1048576 →
    lamplighterref08_Join.l0 k l (strOf acc) i=some (strOf (acc ++ messOf (l.drop i))):=by
  have hn:=bulk_length l
  induction d with
  | zero =>
    intro k i acc hi hk ha
    obtain ⟨k,rfl⟩ : ∃ m,k=m + 1:=⟨k - 1,by omega⟩
    have q : ¬ ((i : Int) < (l.length : Int)):=by omega
    rw [lamplighterref08_Join.l0,if_neg q,List.drop_eq_nil_of_le (by omega)]
    simp [messOf]
  | succ d ih =>
    intro k i acc hi hk ha
    obtain ⟨k,rfl⟩ : ∃ m,k=m + 1:=⟨k - 1,by omega⟩
    have q : (i : Int) < (l.length : Int):=by omega
    have q0 : (0 : Int)≤(i : Int):=by omega
    rw [drop_cons l i (by omega),bulk_cons] at ha
    have w3:wrap64 ((i : Int) + 1)=((i + 1 : Nat) : Int):=by rw [wrap_fit (by omega) (by omega)]; rfl
    have e1:strOf acc ++ rdOf ByteArray.empty l (i : Int)=strOf (acc ++ (rdOf ByteArray.empty l (i : Int)).data.toList):=by rw [strOf_snoc,strOf_of]
    have e2 : (⟨#[13]⟩ : ByteArray)=strOf [13]:=rfl
    have q1 : (strOf acc).size + (rdOf ByteArray.empty l (i : Int)).size≤9223372036854775807:=by rw [strOf_size]; omega
    have q2 : (strOf (acc ++ (rdOf ByteArray.empty l (i : Int)).data.toList)).size + 1≤9223372036854775807:=by rw [strOf_size,List.length_append,len_size]; omega
    rw [lamplighterref08_Join.l0,if_pos q,if_pos q0,if_pos q1,e1,if_pos q2,e2,← strOf_snoc,w3]
    rw [ih k (i + 1) _ (by omega) (by omega) (by rw [List.length_append,List.length_append,len_size,List.length_singleton]; omega),drop_cons l i (by omega)]
    congr 2
    simp [messOf]
theorem refJoin_spec (k : Nat) (l : List ByteArray) (hl : bulkOf l≤1048576) (hk : l.length < k) : lamplighterref08_Join.f k l=some (strOf (messOf l)):=by
  unfold lamplighterref08_Join.f
  have:=refJoin_loop l hl _ k 0 [] rfl (by omega) (by simpa using hl)
  rw [List.drop_zero,List.nil_append] at this
  exact this
end Go.Proofs.YtcjcaojgminjpaaDoor
