/- A segment made of a name and fields, the program's; conditions: at most 2000000 bytes and texts together. -/
import Derived.Test.YtljdbphojcglgaaDoorPFx10
import Derived.Test.YtljdbphojcglgaaDoorSeg
namespace Go.Proofs.YtljdbphojcglgaaDoor
open Go Go.RowKit Go.Proofs.YtljdbphojcglgaaDoor.PF Go.Proofs.YtljdbphojcglgaaDoorW.PrintWords Go.Proofs.YtljdbphojcglgaaDoorW.PrintLast

/-! ### A segment of a name and fields -/
def makeOf (c : UInt8) (name : List UInt8) (l : List (List UInt8)) : List UInt8 :=
  if name=MSH then MSH ++ (l.take 2).flatten ++ ((l.drop 2).map (c :: ·)).flatten else name ++ (l.map (c :: ·)).flatten
theorem makeOf_nil (c : UInt8) (name : List UInt8) : makeOf c name []=name:=by
  unfold makeOf
  split
  · rename_i h; simp [h]
  · simp
theorem makeOf_snoc (c : UInt8) (name : List UInt8) (l : List (List UInt8)) (x : List UInt8) : makeOf c name (l ++ [x])=makeOf c name l ++ (if name=MSH∧l.length≤1 then x else c :: x):=by
  unfold makeOf
  by_cases h : name=MSH
  · rw [if_pos h,if_pos h]
    by_cases hl : l.length≤1
    · rw [if_pos ⟨h,hl⟩,List.take_of_length_le (by simp; omega),List.take_of_length_le (by omega),List.drop_eq_nil_of_le (by simp; omega),List.drop_eq_nil_of_le (by omega)]
      simp
    · rw [if_neg (fun e=>hl e.2),List.take_append_of_le_length (by omega),List.drop_append_of_le_length (by omega)]
      simp
  · rw [if_neg h,if_neg h,if_neg (fun e=>h e.1)]
    simp
theorem tail_length (sep : List UInt8) (hsep : sep.length≤1) (r : List ByteArray) : (Lib.joinTail sep (r.map (·.data.toList))).length≤bulkOf r:=by
  induction r with
  | nil=>simp [Lib.joinTail]
  | cons x r ih =>
    rw [bulk_cons]
    show (sep ++ x.data.toList ++ Lib.joinTail sep (r.map (·.data.toList))).length≤_
    rw [List.length_append,List.length_append,len_size]
    omega
theorem joins_spec (sep : List UInt8) (hsep : sep.length≤1) (x : ByteArray) (r : List ByteArray) (hx : x.size≤10000000) (hr : bulkOf r≤10000000) :
    strings_Join.f (x :: r) (strOf sep)=some (strOf (x.data.toList ++ Lib.joinTail sep (r.map (·.data.toList)))):=by
  have h1:=bulk_length r
  have h2:=tail_length sep hsep r
  unfold strings_Join.f
  rw [List.map_cons,Lib.join_cons,strOf_data,if_pos ⟨by rw [List.length_cons]; omega,by rw [List.length_append,len_size]; omega⟩]
  rfl
theorem joins_nil (sep : ByteArray) : strings_Join.f [] sep=some (strOf []):=by
  unfold strings_Join.f
  rw [List.map_nil,Lib.join_nil,if_pos ⟨by simp,by simp⟩]
  rfl
theorem tail_one (c : UInt8) (l : List (List UInt8)) : Lib.joinTail [c] l=(l.map (c :: ·)).flatten:=rfl
theorem tail_none (l : List (List UInt8)) : Lib.joinTail [] l=l.flatten:=by
  unfold Lib.joinTail
  congr 1
  conv=>rhs; rw [← List.map_id l]
  rfl
theorem take_joins (l : List ByteArray) (hl : bulkOf l≤2000000) (n : Nat) : strings_Join.f (l.take n) (⟨#[]⟩ : ByteArray)=some (strOf (((l.map (·.data.toList)).take n).flatten)):=by
  have e : (⟨#[]⟩ : ByteArray)=strOf []:=rfl
  have hb:bulkOf (l.take n)≤2000000:=by
    have:=congrArg bulkOf (List.take_append_drop n l)
    rw [bulk_append] at this
    omega
  rw [e,← List.map_take]
  cases ht : l.take n with
  | nil=>rw [joins_nil]; rfl
  | cons x r =>
    rw [ht,bulk_cons] at hb
    rw [joins_spec [] (by simp) x r (by omega) (by omega),tail_none]
    rfl
theorem Make_spec (c c1 c2 c3 c4 : Int) (name : List UInt8) (l : List ByteArray) (hn : name.length≤1000) (hl : bulkOf l≤2000000) :
    segment_Make.f c c1 c2 c3 c4 (strOf name) l=some (strOf (makeOf (UInt8.ofNat c.toNat) name (l.map (·.data.toList)))):=by
  have hlen:=bulk_length l
  have h1:mn (l.length : Int) 2=((min l.length 2 : Nat) : Int):=by unfold mn; split <;> omega
  have hd:=bulk_drop l (min l.length 2)
  have hdl:=bulk_length (l.drop (min l.length 2))
  have hfl : (((l.map (·.data.toList)).take (min l.length 2)).flatten).length≤2000000:=by
    have hb:bulkOf (l.take (min l.length 2))≤2000000:=by
      have:=congrArg bulkOf (List.take_append_drop (min l.length 2) l)
      rw [bulk_append] at this
      omega
    rw [← List.map_take]
    refine Nat.le_trans ?_ hb
    generalize l.take (min l.length 2)=t
    induction t with
    | nil=>simp
    | cons x t ih=>rw [List.map_cons,List.flatten_cons,List.length_append,len_size,bulk_cons]; omega
  unfold segment_Make.f delim_Join.f makeOf
  rw [strOf_list,h1,Int.toNat_natCast,byte_str]
  by_cases hm : name=MSH
  · have q1 : ((min l.length 2 : Nat) : Int)≤(l.length : Int):=by omega
    have q2 : (strOf name).size + (strOf (((l.map (·.data.toList)).take (min l.length 2)).flatten)).size≤9223372036854775807:=by rw [strOf_size,strOf_size]; omega
    rw [if_pos (show name=([77,83,72] : List UInt8) from hm),if_pos (by omega),if_pos q1,take_joins l hl,Option.bind_some,if_pos q2,Option.bind_some,if_pos (by simp only [List.length_singleton]; omega),← strOf_snoc,
      List.singleton_append,joins_spec [_] (by simp) _ _ (by rw [strOf_size,List.length_append]; omega) (by omega),Option.bind_some,Option.bind_some,strOf_data,tail_one,List.map_drop,if_pos hm,hm]
    have t1 : (l.map (·.data.toList)).take (min l.length 2)=(l.map (·.data.toList)).take 2:=by
      by_cases h2 : l.length≤2
      · rw [List.take_of_length_le (by rw [List.length_map]; omega),List.take_of_length_le (by rw [List.length_map]; omega)]
      · congr 1; omega
    have t2 : (l.map (·.data.toList)).drop (min l.length 2)=(l.map (·.data.toList)).drop 2:=by
      by_cases h2 : l.length≤2
      · rw [List.drop_eq_nil_of_le (by rw [List.length_map]; omega),List.drop_eq_nil_of_le (by rw [List.length_map]; omega)]
      · congr 1; omega
    rw [t1,t2]
  · rw [if_neg (show ¬ name=([77,83,72] : List UInt8) from hm),Option.bind_some,if_pos (by simp only [List.length_singleton]; omega),List.singleton_append,joins_spec [_] (by simp) _ _ (by rw [strOf_size]; omega) (by omega),Option.bind_some,Option.bind_some,
      strOf_data,tail_one,if_neg hm]
theorem makeOf_length (c : UInt8) (name : List UInt8) (l : List ByteArray) : (makeOf c name (l.map (·.data.toList))).length≤name.length + bulkOf l:=by
  have key : ∀ (t : List ByteArray),(makeOf c name (t.map (·.data.toList))).length≤name.length + bulkOf t:=by
    intro t
    generalize hn : t.length=n
    induction n generalizing t with
    | zero =>
      obtain rfl:=List.eq_nil_of_length_eq_zero hn
      rw [List.map_nil,makeOf_nil]; omega
    | succ n ih =>
      rcases List.eq_nil_or_concat t with rfl | ⟨t,x,rfl⟩
      · simp at hn
      · rw [List.concat_eq_append] at *
        have h1:=ih t (by simpa using hn)
        rw [List.map_append,List.map_singleton,makeOf_snoc,List.length_append,bulk_append,bulk_cons]
        have : (if name=MSH∧(t.map (·.data.toList)).length≤1 then x.data.toList else c :: x.data.toList).length≤1 + x.size:=by
          split
          · rw [len_size]; omega
          · rw [List.length_cons,len_size]; omega
        omega
  exact key l
end Go.Proofs.YtljdbphojcglgaaDoor
