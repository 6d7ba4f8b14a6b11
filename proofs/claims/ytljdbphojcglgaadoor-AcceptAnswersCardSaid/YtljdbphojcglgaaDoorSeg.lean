/- What the printed functions of package segment come to, over lists of bytes: fields, counts, repetitions, components; sizes up to 2^47 bytes. -/
import Derived.Test.YtljdbphojcglgaaDoorPFx2
import Derived.Test.YtljdbphojcglgaaDoorPFx3
import Derived.Test.YtljdbphojcglgaaDoorCut
import Derived.Test.YtljdbphojcglgaaDoorStr
namespace Go.Proofs.YtljdbphojcglgaaDoor
open Go Go.RowKit Go.Proofs.YtljdbphojcglgaaDoor.PF Go.Proofs.YtljdbphojcglgaaDoorW.PrintWords Go.Proofs.YtljdbphojcglgaaDoorW.PrintLast Go.Proofs.YtljdbphojcglgaaDoorW.PrintMore

def MSH : List UInt8:=[77,83,72]
/-- All fields of a segment. -/
def fieldsOf (d : UInt8) (s : List UInt8) : List (List UInt8) :=
  if s.take 3=MSH then
    if (s.drop 3).take 1=[d] then [d] :: cutL d (s.drop 4) else []
  else (cutL d s).tail
/-- The n-th of some texts, from 1 on; empty, if there is none. -/
def nthOf (l : List (List UInt8)) (n : Int) : List UInt8:=if 1≤n then l.getD (n - 1).toNat [] else []
theorem nthOf_nil (n : Int) : nthOf [] n=[]:=by unfold nthOf; split <;> simp
theorem nthOf_big {l : List (List UInt8)} {n : Int} (h : (l.length : Int) < n) : nthOf l n=[]:=by
  unfold nthOf
  split
  · rw [List.getD_eq_getElem?_getD,List.getElem?_eq_none (by omega)]; rfl
  · rfl
theorem nthOf_small {l : List (List UInt8)} {n : Int} (h : n < 1) : nthOf l n=[]:=if_neg (by omega)

theorem nth_spec (s : ByteArray) (c : Int) (n : Int) (hs : s.size≤140737488355328) (hc : 0≤c∧c≤255) :
    segment_nth.f s c n=some (strOf (nthOf (cutL (UInt8.ofNat c.toNat) s.data.toList) n),((cutL (UInt8.ofNat c.toNat) s.data.toList).length : Int)):=by
  unfold segment_nth.f
  rw [if_pos hs,if_pos hc]
  rfl
theorem name_spec (s : ByteArray) : segment_Name.f s=some (strOf (s.data.toList.take 3)):=by
  unfold segment_Name.f
  have h1:mn (s.size : Int) 3=((min s.size 3 : Nat) : Int):=by unfold mn; split <;> omega
  rw [h1,if_pos (by omega),if_pos (by omega)]
  congr 1
  apply bytes_eq
  rw [Lib.extract_data,strOf_data,List.drop_zero,Int.toNat_natCast]
  have h2:=len_size s
  by_cases h : s.size≤3
  · rw [List.take_of_length_le (by omega),List.take_of_length_le (by omega)]
  · congr 1; omega
theorem cut_spec (s : ByteArray) (c : Int) (hs : s.size≤140737488355328) :
    ∃ x rest found,strings_Cut.f s (strOfNums [c])=some (x,rest,found)∧(found=true→cutL (UInt8.ofNat c.toNat) s.data.toList=x.data.toList :: cutL (UInt8.ofNat c.toNat) rest.data.toList∧rest.size < s.size)∧(found=false→cutL (UInt8.ofNat c.toNat) s.data.toList=[x.data.toList]):=by
  rw [byte_str]
  exact cut_contract s _ hs
theorem prefix_spec (s t : ByteArray) : strings_CutPrefix.f s t=some (if t.data.toList.isPrefixOf s.data.toList then (strOf (s.data.toList.drop t.size),true) else (s,false)):=by
  have h1:=len_size s
  have h2:=len_size t
  have hp:stringslite_HasPrefix.f s t=some (t.data.toList.isPrefixOf s.data.toList):=by
    unfold stringslite_HasPrefix.f
    by_cases hl : t.size≤s.size
    · rw [if_pos (by omega),if_pos (by omega),if_pos (by omega)]
      congr 1
      rw [Lib.toList_data,Lib.toList_data,Lib.extract_data,List.drop_zero,Int.toNat_natCast,Nat.sub_zero,Bool.eq_iff_iff,beq_iff_eq,List.isPrefixOf_iff_prefix,List.prefix_iff_eq_take,h2]
      exact ⟨fun h=>h.symm,fun h=>h.symm⟩
    · rw [if_neg (by omega)]
      congr 1
      symm
      rw [Bool.eq_false_iff]
      intro h
      have:=(List.isPrefixOf_iff_prefix.1 h).length_le
      omega
  unfold strings_CutPrefix.f stringslite_CutPrefix.f
  rw [hp]
  simp only [Option.bind_some]
  by_cases h : t.data.toList.isPrefixOf s.data.toList=true
  · have:=(List.isPrefixOf_iff_prefix.1 h).length_le
    rw [if_pos h,if_pos (by omega),if_pos (by omega),if_pos h]
    simp only [Option.bind_some]
    have e:s.extract ((t.size : Int) : Int).toNat s.size=strOf (s.data.toList.drop t.size):=by
      apply bytes_eq
      rw [Lib.extract_data,strOf_data,Int.toNat_natCast,List.take_of_length_le (by rw [List.length_drop]; omega)]
    rw [e]
  · rw [if_neg h,if_neg h]; rfl
theorem fields_msh {d : UInt8} {s : List UInt8} (h : s.take 3=MSH) (hp : (MSH ++ [d]).isPrefixOf s=true) : fieldsOf d s=[d] :: cutL d (s.drop 4):=by
  obtain ⟨t,rfl⟩:=List.isPrefixOf_iff_prefix.1 hp
  unfold fieldsOf
  rw [if_pos h,if_pos (by simp [MSH])]
theorem fields_none {d : UInt8} {s : List UInt8} (h : s.take 3=MSH) (hp : ¬ (MSH ++ [d]).isPrefixOf s=true) : fieldsOf d s=[]:=by
  unfold fieldsOf
  rw [if_pos h,if_neg]
  intro h1
  apply hp
  rw [List.isPrefixOf_iff_prefix,← h,← h1,← List.take_add]
  exact List.take_prefix _ _
theorem field_spec (s : ByteArray) (n c c1 c2 c3 c4 : Int) (hs : s.size≤140737488355328) (hc : 0≤c∧c≤255) (hn : -9223372036854775807≤n∧n≤9223372036854775807) :
    segment_field.f s n c c1 c2 c3 c4=some (strOf (nthOf (fieldsOf (UInt8.ofNat c.toNat) s.data.toList) n),((fieldsOf (UInt8.ofNat c.toNat) s.data.toList).length : Int)):=by
  unfold segment_field.f
  rw [name_spec]
  simp only [Option.bind_some,strOf_list]
  by_cases hm : s.data.toList.take 3=[77,83,72]
  · rw [if_pos hm]
    have e1:3 + (strOfNums [c]).size≤9223372036854775807:=by rw [byte_str,strOf_size]; simp
    have e2 : ((⟨#[77,83,72]⟩ : ByteArray) ++ strOfNums [c]).data.toList=MSH ++ [UInt8.ofNat c.toNat]:=by rw [byte_str]; simp [strOf,MSH,ByteArray.data_append]
    have e3 : ((⟨#[77,83,72]⟩ : ByteArray) ++ strOfNums [c]).size=4:=by rw [← len_size,e2]; rfl
    have e4:wrap64 (n - 1)=n - 1:=by unfold wrap64; omega
    rw [if_pos e1,prefix_spec,e2,e3,e4]
    simp only [Option.bind_some]
    by_cases hp : (MSH ++ [UInt8.ofNat c.toNat]).isPrefixOf s.data.toList=true
    · rw [if_pos hp,if_pos rfl,nth_spec _ _ _ (by rw [strOf_size,List.length_drop,len_size]; omega) hc,strOf_data,fields_msh hm hp]
      simp only [Option.bind_some]
      have hl : (cutL (UInt8.ofNat c.toNat) (s.data.toList.drop 4)).length≤s.size + 1:=by
        rw [cutL_length]
        have h3:=List.count_le_length (a:=UInt8.ofNat c.toNat) (l:=s.data.toList.drop 4)
        rw [List.length_drop,len_size] at h3
        omega
      have e5:wrap64 (((cutL (UInt8.ofNat c.toNat) (s.data.toList.drop 4)).length : Int) + 1)=((([UInt8.ofNat c.toNat] :: cutL (UInt8.ofNat c.toNat) (s.data.toList.drop 4)).length : Nat) : Int):=by
        rw [List.length_cons]; unfold wrap64; omega
      rw [e5]
      by_cases h1 : n=1
      · subst h1
        rw [if_pos rfl,byte_str]
        rfl
      · rw [if_neg h1]
        congr 2
        unfold nthOf
        by_cases h2 : 1≤n - 1
        · rw [if_pos h2,if_pos (by omega)]
          obtain ⟨k,rfl⟩ : ∃ k : Nat,n=(k : Int) + 2:=⟨(n - 2).toNat,by omega⟩
          have e6 : ((k : Int) + 2 - 1).toNat=k + 1:=by omega
          have e7 : ((k : Int) + 2 - 1 - 1).toNat=k:=by omega
          rw [e6,e7]
          simp
        · rw [if_neg h2,if_neg (by omega)]
    · rw [if_neg hp,if_neg (by simp),fields_none hm hp,nthOf_nil]
      rfl
  · rw [if_neg hm]
    obtain ⟨x,rest,found,hf,hy,hno⟩:=cut_spec s c hs
    rw [hf]
    simp only [Option.bind_some]
    have hfo:fieldsOf (UInt8.ofNat c.toNat) s.data.toList=(cutL (UInt8.ofNat c.toNat) s.data.toList).tail:=if_neg hm
    cases found with
    | true =>
      rw [if_pos rfl,nth_spec _ _ _ (by have:=(hy rfl).2; omega) hc,hfo,(hy rfl).1]
      rfl
    | false =>
      rw [if_neg (by decide),hfo,hno rfl,List.tail_cons,nthOf_nil]
      rfl
theorem Field_spec (s : ByteArray) (n c c1 c2 c3 c4 : Int) (hs : s.size≤140737488355328) (hc : 0≤c∧c≤255) (hn : -9223372036854775807≤n∧n≤9223372036854775807) :
    segment_Field.f s n c c1 c2 c3 c4=some (strOf (nthOf (fieldsOf (UInt8.ofNat c.toNat) s.data.toList) n),decide (1≤n∧n≤((fieldsOf (UInt8.ofNat c.toNat) s.data.toList).length : Int))):=by
  unfold segment_Field.f
  by_cases h : n < 1
  · rw [if_pos h,nthOf_small h,decide_eq_false (by omega)]; rfl
  · rw [if_neg h,field_spec s n c c1 c2 c3 c4 hs hc hn]
    simp only [Option.bind_some]
    congr 2
    rw [decide_eq_decide]; omega
end Go.Proofs.YtljdbphojcglgaaDoor
