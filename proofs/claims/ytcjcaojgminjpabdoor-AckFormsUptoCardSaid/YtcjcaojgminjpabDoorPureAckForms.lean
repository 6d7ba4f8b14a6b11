/- The law AckForms as a statement over five signs, ten texts and a code: an answer without its second segment, or with another code or name, is none; conditions: the signs are bytes, the texts count at most 1048576 bytes. -/
import Derived.Test.YtcjcaojgminjpabDoorPBx19
import Derived.Test.YtcjcaojgminjpabDoorPBx20
import Derived.Test.YtcjcaojgminjpabDoorAlive10
import Derived.Test.YtcjcaojgminjpabDoorAckRead
import Derived.Test.YtcjcaojgminjpabDoorGreat10
namespace Go.Proofs.YtcjcaojgminjpabDoor.Pure
open Go Go.RowKit Go.Proofs.YtcjcaojgminjpabDoor.PB Go.Proofs.YtcjcaojgminjpabDoorW.PrintWords Go.Proofs.YtcjcaojgminjpabDoorW.PrintLast
theorem cv_is (s : ByteArray) (h : s.size≤1000000000) : cv_str.f s=some (numsOf s.data.toList):=by
  unfold cv_str.f
  rw [if_pos (by omega),numsOf_bytes]
theorem msb_tells {d : UInt8} (s : List UInt8) : tellA d ([77,83,66] ++ s)=([],[],10):=by
  unfold tellA
  rw [if_neg]
  simp [MSA]
theorem forms_end (k : Nat) (hk : 5000≤k) (c0 c1 c2 c3 c4 : Int) (t5 t6 t7 t8 t9 t10 t11 t12 t13 t14 : ByteArray) (code : ByteArray) (hc0 : IsByte c0) (hc1 : IsByte c1) (hc2 : IsByte c2) (hc3 : IsByte c3) (hc4 : IsByte c4) (hs : t5.size + t6.size + t7.size + t8.size + t9.size + t10.size + t11.size + t12.size + t13.size + t14.size≤2000) (hcs : code.size≤100) (hg : GoodS c0 c1 c2 c3 c4) (hf : ¬ Foul (UInt8.ofNat c0.toNat) [t5,t6,t7,t8,t9,t10,t11,t12,t13,t14])
    (h13 : (13 : UInt8) ∉ code.data.toList) (hcc : UInt8.ofNat c0.toNat ∉ code.data.toList) :
    lamplighterlaw10_AckForms.l0 (k + 1) code (strOf (segOf c0 c1 c2 c3 c4 ((trimB [t5,t6,t7,t8,t9,t10,t11,t12,t13,t14]).map (·.data.toList)))) (code.size : Int) (code.size : Int) c0 c1 c2 c3 c4 t5 t6 t7 t8 t9 t10 t11 t12 t13 t14=some true:=by
  have hcl:=len_size code
  have hbk:bulkOf [t5,t6,t7,t8,t9,t10,t11,t12,t13,t14]≤2010:=bulk10 (n:=2000) hs
  have hsl:=seg_length c0 c1 c2 c3 c4 (trimB [t5,t6,t7,t8,t9,t10,t11,t12,t13,t14])
  have hbt:=trim_bulk [t5,t6,t7,t8,t9,t10,t11,t12,t13,t14]
  have hgn:=good_no13 hg
  have q : ¬ ((code.size : Int) < (code.size : Int)):=by omega
  generalize hW : segOf c0 c1 c2 c3 c4 ((trimB [t5,t6,t7,t8,t9,t10,t11,t12,t13,t14]).map (·.data.toList))=W at hsl
  have hA1:=readA_alone hc0 hc1 hc2 hc3 hc4 hg hf
  have hA2:=readA_second hc0 hc1 hc2 hc3 hc4 hg hf ([77,83,66] ++ (UInt8.ofNat c0.toNat :: [65,65] ++ UInt8.ofNat c0.toNat :: [49])) (by
    intro h
    simp only [List.cons_append,List.nil_append,List.mem_cons,List.not_mem_nil,or_false] at h
    rcases h with h | h | h | h | h | h | h | h
    · exact absurd h (by decide)
    · exact absurd h (by decide)
    · exact absurd h (by decide)
    · exact hgn.1 h.symm
    · exact absurd h (by decide)
    · exact absurd h (by decide)
    · exact hgn.1 h.symm
    · exact absurd h (by decide)) []
  have hM : (13 : UInt8) ∉ makeOf (UInt8.ofNat c0.toNat) MSA [code.data.toList,[49]]:=make_no13 hgn.1 (by decide) (by decide) _ (by
    intro x hx
    simp only [List.mem_cons,List.not_mem_nil,or_false] at hx
    rcases hx with rfl | rfl
    · exact h13
    · decide)
  have hA3:=readA_second hc0 hc1 hc2 hc3 hc4 hg hf _ hM []
  rw [hW] at hA1 hA2 hA3
  rw [msb_tells] at hA2
  have hone:UInt8.ofNat c0.toNat ∉ ([49] : List UInt8):=ok_notin (good_field hg) (by decide)
  have hmf:=made_fields (d:=UInt8.ofNat c0.toNat) (name:=MSA) (by decide) rfl (ok_notin (good_field hg) msa_letters) [code.data.toList,[49]] (by
    intro x hx
    simp only [List.mem_cons,List.not_mem_nil,or_false] at hx
    rcases hx with rfl | rfl
    · exact hcc
    · exact hone)
  have e1:cv_str.f (strOf W ++ (⟨#[13]⟩ : ByteArray))=some (numsOf W ++ [13]):=by
    rw [cv_is _ (by rw [ByteArray.size_append,strOf_size]; show W.length + 1≤_; omega),show (⟨#[13]⟩ : ByteArray)=strOf [13] from rfl,← strOf_snoc,strOf_data,nums_append]
    rfl
  have l2 : (((((strOf W ++ (⟨#[13,77,83,66]⟩ : ByteArray)) ++ strOfNums [c0]) ++ (⟨#[65,65]⟩ : ByteArray)) ++ strOfNums [c0]) ++ (⟨#[49,13]⟩ : ByteArray))=strOf (W ++ 13 :: (([77,83,66] ++ (UInt8.ofNat c0.toNat :: [65,65] ++ UInt8.ofNat c0.toNat :: [49])) ++ [13])):=by
    apply bytes_eq
    simp [ByteArray.data_append,strOf,strOfNums]
  have l3 : (((((strOf W ++ (⟨#[13,77,83,65]⟩ : ByteArray)) ++ strOfNums [c0]) ++ code) ++ strOfNums [c0]) ++ (⟨#[49,13]⟩ : ByteArray))=strOf (W ++ 13 :: (makeOf (UInt8.ofNat c0.toNat) MSA [code.data.toList,[49]] ++ [13])):=by
    apply bytes_eq
    simp [ByteArray.data_append,strOf,strOfNums,makeOf,MSA,MSH]
  have z1 : (strOfNums [c0]).size=1:=rfl
  have zW : (strOf W).size=W.length:=strOf_size W
  have zB : (⟨#[13,77,83,66]⟩ : ByteArray).size=4:=rfl
  have zC : (⟨#[13,77,83,65]⟩ : ByteArray).size=4:=rfl
  have zA : (⟨#[65,65]⟩ : ByteArray).size=2:=rfl
  have zE : (⟨#[49,13]⟩ : ByteArray).size=2:=rfl
  have g0 : (strOf W).size + 1≤9223372036854775807:=by omega
  have g1 : (strOf W).size + 4≤9223372036854775807:=by omega
  have g2 : (strOf W ++ (⟨#[13,77,83,66]⟩ : ByteArray)).size + (strOfNums [c0]).size≤9223372036854775807:=by simp only [ByteArray.size_append]; omega
  have g3 : ((strOf W ++ (⟨#[13,77,83,66]⟩ : ByteArray)) ++ strOfNums [c0]).size + 2≤9223372036854775807:=by simp only [ByteArray.size_append]; omega
  have g4 : (((strOf W ++ (⟨#[13,77,83,66]⟩ : ByteArray)) ++ strOfNums [c0]) ++ (⟨#[65,65]⟩ : ByteArray)).size + (strOfNums [c0]).size≤9223372036854775807:=by simp only [ByteArray.size_append]; omega
  have g5 : ((((strOf W ++ (⟨#[13,77,83,66]⟩ : ByteArray)) ++ strOfNums [c0]) ++ (⟨#[65,65]⟩ : ByteArray)) ++ strOfNums [c0]).size + 2≤9223372036854775807:=by simp only [ByteArray.size_append]; omega
  have g6 : (strOf W ++ (⟨#[13,77,83,65]⟩ : ByteArray)).size + (strOfNums [c0]).size≤9223372036854775807:=by simp only [ByteArray.size_append]; omega
  have g7 : ((strOf W ++ (⟨#[13,77,83,65]⟩ : ByteArray)) ++ strOfNums [c0]).size + code.size≤9223372036854775807:=by simp only [ByteArray.size_append]; omega
  have g8 : (((strOf W ++ (⟨#[13,77,83,65]⟩ : ByteArray)) ++ strOfNums [c0]) ++ code).size + (strOfNums [c0]).size≤9223372036854775807:=by simp only [ByteArray.size_append]; omega
  have g9 : ((((strOf W ++ (⟨#[13,77,83,65]⟩ : ByteArray)) ++ strOfNums [c0]) ++ code) ++ strOfNums [c0]).size + 2≤9223372036854775807:=by simp only [ByteArray.size_append]; omega
  have ln1 : (numsOf W ++ [13]).length≤1000000000:=by rw [List.length_append,nums_length,List.length_singleton]; omega
  have hall1 : ∀ x ∈ numsOf W ++ [13],IsByte x:=by
    have : numsOf W ++ [13]=numsOf (W ++ [13]):=by rw [nums_append]; rfl
    rw [this]
    exact nums_bytes _
  have sz2 : (strOf (W ++ 13 :: (([77,83,66] ++ (UInt8.ofNat c0.toNat :: [65,65] ++ UInt8.ofNat c0.toNat :: [49])) ++ [13]))).size≤1000000:=by rw [strOf_size]; simp; omega
  have sz3 : (strOf (W ++ 13 :: (makeOf (UInt8.ofNat c0.toNat) MSA [code.data.toList,[49]] ++ [13]))).size≤1000000:=by rw [strOf_size]; simp [makeOf,MSA,MSH]; omega
  have e2:=cv_is _ (show (strOf (W ++ 13 :: (([77,83,66] ++ (UInt8.ofNat c0.toNat :: [65,65] ++ UInt8.ofNat c0.toNat :: [49])) ++ [13]))).size≤1000000000 by omega)
  have e3:=cv_is _ (show (strOf (W ++ 13 :: (makeOf (UInt8.ofNat c0.toNat) MSA [code.data.toList,[49]] ++ [13]))).size≤1000000000 by omega)
  rw [strOf_data] at e2 e3
  rw [strOf_size] at sz2 sz3
  obtain ⟨k,rfl⟩ : ∃ m,k=m + 1:=⟨k - 1,by omega⟩
  have r1:=ackRead_spec (k + 1) (by omega) _ hall1 ln1
  have r2:=ackRead_spec (k + 1) (by omega) _ (nums_bytes (W ++ 13 :: (([77,83,66] ++ (UInt8.ofNat c0.toNat :: [65,65] ++ UInt8.ofNat c0.toNat :: [49])) ++ [13]))) (by rw [nums_length]; omega)
  have r3:=ackRead_spec (k + 1) (by omega) _ (nums_bytes (W ++ 13 :: (makeOf (UInt8.ofNat c0.toNat) MSA [code.data.toList,[49]] ++ [13]))) (by rw [nums_length]; omega)
  rw [hA1] at r1
  rw [hA2] at r2
  rw [hA3] at r3
  rw [lamplighterlaw10_AckForms.l0,if_neg q,Option.bind_some,if_pos g0,e1,Option.bind_some,r1,Option.bind_some,if_pos g1,if_pos g2,if_pos g3,if_pos g4,if_pos g5,l2,e2,Option.bind_some,r2,Option.bind_some,
    if_pos g6,if_pos g7,if_pos g8,if_pos g9,l3,e3,Option.bind_some,r3,Option.bind_some,alive10_is (k + 1) (by omega),Option.bind_some,if_pos rfl]
  dsimp only
  rw [if_pos rfl,lamplighterlaw10_AckForms.j2,if_neg (by decide),knows_spec k (by omega),Option.bind_some]
  by_cases hkn : code.data.toList ∈ codeB
  · have ht:=msa_tells hg hkn hone [] (by simp)
    rw [if_pos (decide_eq_true hkn),ht]
    dsimp only
    rw [if_pos rfl,strOf_list,strOf_list,Lib.toList_data]
    simp
  · have ht:tellA (UInt8.ofNat c0.toNat) (makeOf (UInt8.ofNat c0.toNat) MSA [code.data.toList,[49]])=([],[],17):=by
      have h1:nthOf [code.data.toList,[49]] 1=code.data.toList:=rfl
      unfold tellA
      rw [if_pos (msa_name _ _),hmf,h1,if_neg hkn]
    rw [if_neg (by rw [decide_eq_true_eq]; exact hkn),ht]
    dsimp only
    rw [if_pos rfl,strOf_list]
    rfl
theorem forms_loop (c0 c1 c2 c3 c4 : Int) (t5 t6 t7 t8 t9 t10 t11 t12 t13 t14 : ByteArray) (code : ByteArray) (hc0 : IsByte c0) (hc1 : IsByte c1) (hc2 : IsByte c2) (hc3 : IsByte c3) (hc4 : IsByte c4) (hs : t5.size + t6.size + t7.size + t8.size + t9.size + t10.size + t11.size + t12.size + t13.size + t14.size≤2000) (hcs : code.size≤100) (hg : GoodS c0 c1 c2 c3 c4) (hf : ¬ Foul (UInt8.ofNat c0.toNat) [t5,t6,t7,t8,t9,t10,t11,t12,t13,t14]) (d : Nat) :
    ∀ (k i : Nat),i≤code.size→code.size - i=d→d + 6000≤k→(13 : UInt8) ∉ code.data.toList.take i→UInt8.ofNat c0.toNat ∉ code.data.toList.take i →
    lamplighterlaw10_AckForms.l0 k code (strOf (segOf c0 c1 c2 c3 c4 ((trimB [t5,t6,t7,t8,t9,t10,t11,t12,t13,t14]).map (·.data.toList)))) (code.size : Int) (i : Int) c0 c1 c2 c3 c4 t5 t6 t7 t8 t9 t10 t11 t12 t13 t14=some true:=by
  have hcl:=len_size code
  induction d with
  | zero =>
    intro k i hi hd hk h1 h2
    obtain ⟨k,rfl⟩ : ∃ m,k=m + 1:=⟨k - 1,by omega⟩
    obtain rfl : i=code.size:=by omega
    rw [List.take_of_length_le (by omega)] at h1 h2
    exact forms_end k (by omega) c0 c1 c2 c3 c4 t5 t6 t7 t8 t9 t10 t11 t12 t13 t14 code hc0 hc1 hc2 hc3 hc4 hs hcs hg hf h1 h2
  | succ d ih =>
    intro k i hi hd hk h1 h2
    obtain ⟨k,rfl⟩ : ∃ m,k=m + 1:=⟨k - 1,by omega⟩
    have hlt:i < code.size:=by omega
    have q : (i : Int) < (code.size : Int):=by omega
    have q0 : (0 : Int)≤(i : Int):=by omega
    have b13:=bt_list code i hlt 13 (by decide)
    have h13:UInt8.ofNat (13 : Int).toNat=13:=rfl
    rw [h13] at b13
    have bcc:=bt_list code i hlt c0 hc0
    rw [lamplighterlaw10_AckForms.l0,if_pos q,if_pos q0,if_pos q]
    by_cases e1 : bt code (i : Int)=13
    · rw [if_pos e1,alive10_is k (by omega),Option.bind_some]
    · rw [if_neg e1]
      by_cases e2 : bt code (i : Int)=c0
      · rw [if_pos e2,alive10_is k (by omega),Option.bind_some]
      · rw [if_neg e2,wrap_succ i (by omega)]
        refine ih k (i + 1) (by omega) (by omega) (by omega) ?_ ?_
        · rw [take_one _ _ (by omega),List.mem_append,List.mem_singleton]
          rintro (h | h)
          · exact h1 h
          · exact e1 (b13.2 h.symm)
        · rw [take_one _ _ (by omega),List.mem_append,List.mem_singleton]
          rintro (h | h)
          · exact h2 h
          · exact e2 (bcc.2 h.symm)
theorem AckForms (c0 c1 c2 c3 c4 : Int) (t5 t6 t7 t8 t9 t10 t11 t12 t13 t14 : ByteArray) (code : ByteArray) (hc0 : IsByte c0) (hc1 : IsByte c1) (hc2 : IsByte c2) (hc3 : IsByte c3) (hc4 : IsByte c4) (ht5 : t5.size≤140737488351232) (ht6 : t6.size≤140737488351232) (ht7 : t7.size≤140737488351232) (ht8 : t8.size≤140737488351232) (ht9 : t9.size≤140737488351232) (ht10 : t10.size≤140737488351232) (ht11 : t11.size≤140737488351232) (ht12 : t12.size≤140737488351232) (ht13 : t13.size≤140737488351232) (ht14 : t14.size≤140737488351232) (hsum : t5.size + t6.size + t7.size + t8.size + t9.size + t10.size + t11.size + t12.size + t13.size + t14.size≤1048576) (_hcode : code.size≤1048576) : ∃ k,lamplighterlaw10_AckForms.f k c0 c1 c2 c3 c4 t5 t6 t7 t8 t9 t10 t11 t12 t13 t14 code=some true:=by
  refine ⟨60001,?_⟩
  have hbk:bulkOf [t5,t6,t7,t8,t9,t10,t11,t12,t13,t14]≤1048586:=bulk10 (n:=1048576) hsum
  unfold lamplighterlaw10_AckForms.f
  rw [Write_spec 60001 (by decide) c0 c1 c2 c3 c4 t5 t6 t7 t8 t9 t10 t11 t12 t13 t14 (by omega) hc0 hc1 hc2 hc3 hc4,Option.bind_some]
  by_cases h0 : (writeOf c0 c1 c2 c3 c4 [t5,t6,t7,t8,t9,t10,t11,t12,t13,t14]).2=0
  · obtain ⟨hg,hf⟩:=writeOf_zero h0
    rw [if_pos h0,great10_spec c0 c1 c2 c3 c4 t5 t6 t7 t8 t9 t10 t11 t12 t13 t14 ht5 ht6 ht7 ht8 ht9 ht10 ht11 ht12 ht13 ht14,Option.bind_some,writeOf_ok hg hf]
    dsimp only
    by_cases hgr : (t5.size : Int) + (t6.size : Int) + (t7.size : Int) + (t8.size : Int) + (t9.size : Int) + (t10.size : Int) + (t11.size : Int) + (t12.size : Int) + (t13.size : Int) + (t14.size : Int) > 2000
    · rw [if_pos (decide_eq_true hgr),lamplighterlaw10_AckForms.j0,if_pos rfl,alive10_is 60000 (by decide)]
      rfl
    · rw [if_neg (by rw [decide_eq_true_eq]; exact hgr),lamplighterlaw10_AckForms.j0]
      by_cases hcs : (code.size : Int) > 100
      · rw [if_pos (decide_eq_true hcs),alive10_is 60000 (by decide)]
        rfl
      · rw [if_neg (by rw [decide_eq_true_eq]; exact hcs)]
        exact forms_loop c0 c1 c2 c3 c4 t5 t6 t7 t8 t9 t10 t11 t12 t13 t14 code hc0 hc1 hc2 hc3 hc4 (by omega) (by omega) hg hf _ 60000 0 (by omega) rfl (by omega) (by simp) (by simp)
  · rw [if_neg h0,lamplighterlaw10_AckForms.j0,if_pos rfl,alive10_is 60000 (by decide)]
    rfl
end Go.Proofs.YtcjcaojgminjpabDoor.Pure
