/- A segment made of a name and fields, as the document has it; conditions: at most 1048576 bytes and texts together, fuel for a step each. -/
import Derived.Test.YtcjcaojgminjpaaDoorPDx14
import Derived.Test.YtcjcaojgminjpaaDoorSegMake
namespace Go.Proofs.YtcjcaojgminjpaaDoor
open Go Go.RowKit Go.Proofs.YtcjcaojgminjpaaDoor.PD Go.Proofs.YtcjcaojgminjpaaDoorW.PrintWords Go.Proofs.YtcjcaojgminjpaaDoorW.PrintLast
theorem refMake_loop (c c1 c2 c3 c4 : Int) (name : List UInt8) (l : List ByteArray) (hn : name.length≤1000) (hl : bulkOf l≤1048576) (d : Nat) : ∀ (k i : Nat),i≤l.length→l.length - i=d→d < k →
    lamplighterref08_Make.l0 k (strOf name) l (strOf (makeOf (UInt8.ofNat c.toNat) name ((l.take i).map (·.data.toList)))) i c c1 c2 c3 c4=some (strOf (makeOf (UInt8.ofNat c.toNat) name (l.map (·.data.toList)))):=by
  have hlen:=bulk_length l
  induction d with
  | zero =>
    intro k i hi hd hk
    obtain ⟨k,rfl⟩ : ∃ m,k=m + 1:=⟨k - 1,by omega⟩
    have q : ¬ ((i : Int) < (l.length : Int)):=by omega
    rw [lamplighterref08_Make.l0,if_neg q,List.take_of_length_le (by omega)]
  | succ d ih =>
    intro k i hi hd hk
    obtain ⟨k,rfl⟩ : ∃ m,k=m + 1:=⟨k - 1,by omega⟩
    have hlt:i < l.length:=by omega
    have q : (i : Int) < (l.length : Int):=by omega
    have q0 : (0 : Int)≤(i : Int):=by omega
    have e:=ih k (i + 1) (by omega) (by omega) (by omega)
    have ht:l.take (i + 1)=l.take i ++ [rdOf ByteArray.empty l (i : Int)]:=by
      rw [List.take_succ_eq_append_getElem hlt]
      simp [rdOf,hlt]
    have hml:=makeOf_length (UInt8.ofNat c.toNat) name (l.take i)
    have hb:bulkOf (l.take i)≤bulkOf l∧(rdOf ByteArray.empty l (i : Int)).size≤bulkOf l:=by
      have h1:=congrArg bulkOf (List.take_append_drop i l)
      rw [bulk_append,drop_cons l i hlt,bulk_cons] at h1
      omega
    rw [ht,List.map_append,List.map_singleton,makeOf_snoc,List.length_map,List.length_take,Nat.min_eq_left (by omega)] at e
    have hi9:i≤1000000000:=by omega
    have hone : (strOfNums [c]).size=1:=by rw [byte_str,strOf_size]; rfl
    have q1 : (strOf (makeOf (UInt8.ofNat c.toNat) name ((l.take i).map (·.data.toList)))).size + (strOfNums [c]).size≤9223372036854775807:=by rw [hone,strOf_size]; omega
    have q2 : (strOf (makeOf (UInt8.ofNat c.toNat) name ((l.take i).map (·.data.toList))) ++ strOfNums [c]).size + (rdOf ByteArray.empty l (i : Int)).size≤9223372036854775807:=by
      rw [ByteArray.size_append,hone,strOf_size]; omega
    have q3 : (strOf (makeOf (UInt8.ofNat c.toNat) name ((l.take i).map (·.data.toList)))).size + (rdOf ByteArray.empty l (i : Int)).size≤9223372036854775807:=by rw [strOf_size]; omega
    have a1:strOf (makeOf (UInt8.ofNat c.toNat) name ((l.take i).map (·.data.toList))) ++ strOfNums [c] ++ rdOf ByteArray.empty l (i : Int) =
        strOf (makeOf (UInt8.ofNat c.toNat) name ((l.take i).map (·.data.toList)) ++ UInt8.ofNat c.toNat :: (rdOf ByteArray.empty l (i : Int)).data.toList):=by
      rw [byte_str,← strOf_of (rdOf ByteArray.empty l (i : Int)),← strOf_snoc,← strOf_snoc,strOf_data]
      simp
    have a2:strOf (makeOf (UInt8.ofNat c.toNat) name ((l.take i).map (·.data.toList))) ++ rdOf ByteArray.empty l (i : Int) =
        strOf (makeOf (UInt8.ofNat c.toNat) name ((l.take i).map (·.data.toList)) ++ (rdOf ByteArray.empty l (i : Int)).data.toList):=by
      rw [strOf_snoc,strOf_of]
    rw [lamplighterref08_Make.l0,if_pos q,strOf_list,wrap_succ i hi9]
    by_cases hm : name=MSH
    · rw [if_pos (show name=([77,83,72] : List UInt8) from hm)]
      by_cases h1 : (i : Int) > 1
      · have n1 : ¬ (name=MSH∧i≤1):=fun h=>by have:=h.2; omega
        rw [if_neg n1] at e
        rw [if_pos h1,Option.bind_some,if_pos q1,if_pos q0,if_pos q2,a1]
        exact e
      · have n1:i≤1:=by omega
        rw [if_pos ⟨hm,n1⟩] at e
        rw [if_neg h1,if_pos q0,if_pos q3,a2]
        exact e
    · rw [if_neg (fun h=>hm h.1)] at e
      rw [if_neg (show ¬ name=([77,83,72] : List UInt8) from hm),Option.bind_some,if_pos q1,if_pos q0,if_pos q2,a1]
      exact e
theorem refMake_spec (k : Nat) (c c1 c2 c3 c4 : Int) (name : List UInt8) (l : List ByteArray) (hn : name.length≤1000) (hl : bulkOf l≤1048576) (hk : l.length < k) :
    lamplighterref08_Make.f k c c1 c2 c3 c4 (strOf name) l=some (strOf (makeOf (UInt8.ofNat c.toNat) name (l.map (·.data.toList)))):=by
  unfold lamplighterref08_Make.f
  have:=refMake_loop c c1 c2 c3 c4 name l hn hl _ k 0 (by omega) rfl (by omega)
  rw [List.take_zero,List.map_nil,makeOf_nil] at this
  exact this
end Go.Proofs.YtcjcaojgminjpaaDoor
