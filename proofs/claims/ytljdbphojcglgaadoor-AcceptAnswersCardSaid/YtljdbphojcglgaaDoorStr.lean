/- Texts as lists of bytes, and how much texts count: plain laws; no conditions. -/
import Derived.Test.YtljdbphojcglgaaDoorHelp
namespace Go.Proofs.YtljdbphojcglgaaDoor
open Go Go.RowKit Go.Proofs.YtljdbphojcglgaaDoorW.PrintWords Go.Proofs.YtljdbphojcglgaaDoorW.PrintLast

theorem strOf_data (l : List UInt8) : (strOf l).data.toList=l:=by simp [strOf]
theorem strOf_list (l : List UInt8) : (strOf l).toList=l:=by rw [Lib.toList_data,strOf_data]
theorem strOf_of (s : ByteArray) : strOf s.data.toList=s:=by simp [strOf]
theorem len_size (s : ByteArray) : s.data.toList.length=s.size:=by rw [Array.length_toList]; rfl
theorem strOf_size (l : List UInt8) : (strOf l).size=l.length:=by rw [← len_size,strOf_data]
theorem bytes_eq {s t : ByteArray} (h : s.data.toList=t.data.toList) : s=t:=by rw [← strOf_of s,← strOf_of t,h]
theorem nil_str : (⟨#[]⟩ : ByteArray)=strOf []:=rfl

theorem byte_str (c : Int) : strOfNums [c]=strOf [UInt8.ofNat c.toNat]:=by simp [strOfNums,strOf]
theorem wrap_fit {x : Int} (h0 : -9223372036854775808≤x) (h1 : x≤9223372036854775807) : wrap64 x=x:=by unfold wrap64; omega
theorem bt_list (s : ByteArray) (i : Nat) (h : i < s.size) (c : Int) (hc : 0≤c∧c≤255) : bt s i=c ↔ (s.data.toList[i]'(by rw [len_size]; exact h)=UInt8.ofNat c.toNat):=by
  have e:bt s i=((s.data.toList[i]'(by rw [len_size]; exact h)).toNat : Int):=by
    unfold bt
    rw [dif_pos (by simpa using h)]
    rfl
  rw [e]
  constructor
  · intro h1
    rw [← h1,Int.toNat_natCast,UInt8.ofNat_toNat]
  · intro h1
    rw [h1,UInt8.toNat_ofNat']
    omega
theorem take_one (l : List UInt8) (i : Nat) (h : i < l.length) : l.take (i + 1)=l.take i ++ [l[i]]:=by rw [List.take_succ_eq_append_getElem h]
theorem strOf_snoc (a b : List UInt8) : strOf (a ++ b)=strOf a ++ strOf b:=by
  apply bytes_eq
  rw [strOf_data,ByteArray.data_append,Array.toList_append,strOf_data,strOf_data]
/-- How much some texts count. -/
def bulkOf (l : List ByteArray) : Nat:=(l.map (fun s=>1 + s.size)).sum
theorem bulk_cons (x : ByteArray) (l : List ByteArray) : bulkOf (x :: l)=1 + x.size + bulkOf l:=by simp [bulkOf]
theorem bulk_append (a b : List ByteArray) : bulkOf (a ++ b)=bulkOf a + bulkOf b:=by simp [bulkOf]
theorem bulk_length (l : List ByteArray) : l.length≤bulkOf l:=by
  induction l with
  | nil=>simp
  | cons x l ih=>rw [bulk_cons,List.length_cons]; omega
theorem bulk_drop (l : List ByteArray) (i : Nat) : bulkOf (l.drop i)≤bulkOf l:=by
  have:=congrArg bulkOf (List.take_append_drop i l)
  rw [bulk_append] at this
  omega
theorem drop_cons (l : List ByteArray) (i : Nat) (h : i < l.length) : l.drop i=rdOf ByteArray.empty l (i : Int) :: l.drop (i + 1):=by
  rw [List.drop_eq_getElem_cons h]
  simp [rdOf,h]
theorem bytesOf_len (b : List Int) : (Lib.bytesOf b).length=b.length:=by simp [Lib.bytesOf]
def numsOf (l : List UInt8) : List Int:=l.map (fun b=>(b.toNat : Int))
theorem numsOf_bytes (s : ByteArray) : bytesOf s=numsOf s.data.toList:=rfl
theorem str_numsOf (l : List UInt8) : strOfNums (numsOf l)=strOf l:=by
  apply bytes_eq
  rw [str_data,strOf_data]
  simp [Lib.bytesOf,numsOf,Function.comp_def]
theorem bytesOf_numsOf (l : List UInt8) : Lib.bytesOf (numsOf l)=l:=by
  rw [← str_data,str_numsOf,strOf_data]
theorem wrap_succ (i : Nat) (h : i≤1000000000) : wrap64 ((i : Int) + 1)=((i + 1 : Nat) : Int):=by rw [wrap_fit (by omega) (by omega)]; rfl
end Go.Proofs.YtljdbphojcglgaaDoor
