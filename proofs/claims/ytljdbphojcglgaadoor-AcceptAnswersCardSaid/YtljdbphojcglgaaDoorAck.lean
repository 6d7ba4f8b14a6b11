/- What answers are: the program's building of one, over lists of bytes; conditions: texts of at most 10000 bytes together, fuel for a step each. -/
import Derived.Test.YtljdbphojcglgaaDoorPFx10
import Derived.Test.YtljdbphojcglgaaDoorPFx12
import Derived.Test.YtljdbphojcglgaaDoorSegJoin
import Derived.Test.YtljdbphojcglgaaDoorMshBack
import Derived.Test.YtljdbphojcglgaaDoorGlobC
import Derived.Test.YtljdbphojcglgaaDoorContains
namespace Go.Proofs.YtljdbphojcglgaaDoor.Pure
open Go Go.RowKit Go.Proofs.YtljdbphojcglgaaDoor.PF Go.Proofs.YtljdbphojcglgaaDoorW.PrintWords Go.Proofs.YtljdbphojcglgaaDoorW.PrintLast

def MSA : List UInt8:=[77,83,65]
def ACK : ByteArray:=⟨#[65,67,75]⟩
theorem knows_spec (k : Nat) (hk : 3 < k) (a : ByteArray) : ack_Known.f k a=some (decide (a.data.toList ∈ codeB)):=by
  unfold ack_Known.f
  rw [show (codesL : List ByteArray)=codeB.map strOf from rfl,contains_spec k (codeB.map strOf) a (by decide) (by show 3 < k; exact hk)]
  congr 1
  rw [decide_eq_decide]
  conv=>lhs; rw [← strOf_of a]
  exact mem_texts codeB _
/-- An answer's second segment. -/
def msaOf (c : Int) (code id : ByteArray) : List UInt8:=makeOf (UInt8.ofNat c.toNat) MSA ([code,id].map (·.data.toList))
open Classical in
/-- An answer's bytes, and why there are none. -/
noncomputable def buildOf (c c1 c2 c3 c4 : Int) (t5 t6 t7 t8 t9 t12 t13 t14 code : ByteArray) : List UInt8 × Int :=
  if code.data.toList ∈ codeB then
    if (writeOf c c1 c2 c3 c4 [t7,t8,t5,t6,t9,⟨#[]⟩,ACK,t12,t13,t14]).2=0 then
      (messOf [(writeOf c c1 c2 c3 c4 [t7,t8,t5,t6,t9,⟨#[]⟩,ACK,t12,t13,t14]).1,strOf (msaOf c code t12)],0)
    else ([],(writeOf c c1 c2 c3 c4 [t7,t8,t5,t6,t9,⟨#[]⟩,ACK,t12,t13,t14]).2)
  else ([],17)
theorem write_size (c c1 c2 c3 c4 : Int) (ys : List ByteArray) (_hb : bulkOf ys≤2000000) : (writeOf c c1 c2 c3 c4 ys).1.size≤8 + bulkOf ys:=by
  unfold writeOf
  split
  · split
    · exact Nat.zero_le _
    · rw [written,strOf_size]
      have h1:=seg_length c c1 c2 c3 c4 (trimB ys)
      have h2:=trim_bulk ys
      omega
  · exact Nat.zero_le _
theorem bulk10 {t5 t6 t7 t8 t9 t10 t11 t12 t13 t14 : ByteArray} {n : Nat} (h : t5.size + t6.size + t7.size + t8.size + t9.size + t10.size + t11.size + t12.size + t13.size + t14.size≤n) : bulkOf [t5,t6,t7,t8,t9,t10,t11,t12,t13,t14]≤n + 10:=by
  simp only [bulkOf,List.map_cons,List.map_nil,List.sum_cons,List.sum_nil]
  omega
theorem two_bulk (a b : ByteArray) : bulkOf [a,b]=2 + a.size + b.size:=by
  simp only [bulkOf,List.map_cons,List.map_nil,List.sum_cons,List.sum_nil]
  omega
theorem msa_length (c : Int) (code id : ByteArray) : (msaOf c code id).length≤5 + code.size + id.size:=by
  have h:=makeOf_length (UInt8.ofNat c.toNat) MSA [code,id]
  rw [two_bulk] at h
  have h3:MSA.length=3:=rfl
  unfold msaOf
  omega
theorem Build_spec (k : Nat) (hk : 10≤k) (c c1 c2 c3 c4 : Int) (t5 t6 t7 t8 t9 t10 t11 t12 t13 t14 code : ByteArray) (hb : t5.size + t6.size + t7.size + t8.size + t9.size + t12.size + t13.size + t14.size≤1048576) (hcode : code.size≤1000)
    (hc : IsByte c) (hc1 : IsByte c1) (hc2 : IsByte c2) (hc3 : IsByte c3) (hc4 : IsByte c4) :
    ack_Build.f k c c1 c2 c3 c4 t5 t6 t7 t8 t9 t10 t11 t12 t13 t14 code=some (numsOf (buildOf c c1 c2 c3 c4 t5 t6 t7 t8 t9 t12 t13 t14 code).1,(buildOf c c1 c2 c3 c4 t5 t6 t7 t8 t9 t12 t13 t14 code).2):=by
  have hA : (⟨#[65,67,75]⟩ : ByteArray)=ACK:=rfl
  have hAs:ACK.size=3:=rfl
  have h0s : (⟨#[]⟩ : ByteArray).size=0:=rfl
  have hbk:bulkOf [t7,t8,t5,t6,t9,⟨#[]⟩,ACK,t12,t13,t14]≤1048586 + 3:=bulk10 (n:=1048579) (by omega)
  have hws:=write_size c c1 c2 c3 c4 [t7,t8,t5,t6,t9,⟨#[]⟩,ACK,t12,t13,t14] (by omega)
  have hms:=msa_length c code t12
  unfold ack_Build.f
  rw [knows_spec k (by omega) code,Option.bind_some,hA,Write_spec k (by omega) c c1 c2 c3 c4 t7 t8 t5 t6 t9 ⟨#[]⟩ ACK t12 t13 t14 (by omega) hc hc1 hc2 hc3 hc4]
  unfold buildOf
  by_cases h1 : code.data.toList ∈ codeB
  · rw [if_pos (decide_eq_true h1),if_pos h1,Option.bind_some]
    by_cases h2 : (writeOf c c1 c2 c3 c4 [t7,t8,t5,t6,t9,⟨#[]⟩,ACK,t12,t13,t14]).2=0
    · rw [if_pos h2,if_pos h2,show (⟨#[77,83,65]⟩ : ByteArray)=strOf MSA from rfl,Make_spec c c1 c2 c3 c4 MSA [code,t12] (by decide) (by rw [two_bulk]; omega),Option.bind_some,
        Join_spec k _ (by rw [two_bulk,strOf_size]; unfold msaOf at hms; omega) (by show 2 < k; omega),Option.bind_some]
      rfl
    · rw [if_neg h2,if_neg h2]
      rfl
  · rw [if_neg (by rw [decide_eq_true_eq]; exact h1),if_neg h1]
    rfl
/-- An answer that is built: its head's segment, a 13, its second segment, a 13. -/
theorem build_nums {c c1 c2 c3 c4 : Int} {t5 t6 t7 t8 t9 t12 t13 t14 code : ByteArray} (hk : code.data.toList ∈ codeB) (hg : GoodS c c1 c2 c3 c4) (hf : ¬ Foul (UInt8.ofNat c.toNat) [t7,t8,t5,t6,t9,⟨#[]⟩,ACK,t12,t13,t14]) :
    buildOf c c1 c2 c3 c4 t5 t6 t7 t8 t9 t12 t13 t14 code=(segOf c c1 c2 c3 c4 ((trimB [t7,t8,t5,t6,t9,⟨#[]⟩,ACK,t12,t13,t14]).map (·.data.toList)) ++ 13 :: (msaOf c code t12 ++ [13]),0):=by
  unfold buildOf
  rw [if_pos hk,writeOf_ok hg hf,if_pos rfl]
  simp [messOf,strOf_data]
theorem build_zero {c c1 c2 c3 c4 : Int} {t5 t6 t7 t8 t9 t12 t13 t14 code : ByteArray} (h : (buildOf c c1 c2 c3 c4 t5 t6 t7 t8 t9 t12 t13 t14 code).2=0) :
    code.data.toList ∈ codeB∧GoodS c c1 c2 c3 c4∧¬ Foul (UInt8.ofNat c.toNat) [t7,t8,t5,t6,t9,⟨#[]⟩,ACK,t12,t13,t14]:=by
  unfold buildOf at h
  by_cases h1 : code.data.toList ∈ codeB
  · rw [if_pos h1] at h
    by_cases h2 : (writeOf c c1 c2 c3 c4 [t7,t8,t5,t6,t9,⟨#[]⟩,ACK,t12,t13,t14]).2=0
    · exact ⟨h1,writeOf_zero h2⟩
    · rw [if_neg h2] at h
      exact absurd h h2
  · rw [if_neg h1] at h
    exact absurd h (by decide)
end Go.Proofs.YtljdbphojcglgaaDoor.Pure
