/- An answer to a message that was read: it can be built, it may be in a frame, and it is read as its code and id; conditions: the message's bytes are bytes and may be in a frame, and its first segment has no 28. -/
import Derived.Test.YtljdbphojcglgaaDoorPFx14
import Derived.Test.YtljdbphojcglgaaDoorPFx18
import Derived.Test.YtljdbphojcglgaaDoorPFx7
import Derived.Test.YtljdbphojcglgaaDoorPFx9
import Derived.Test.YtljdbphojcglgaaDoorAccept
import Derived.Test.YtljdbphojcglgaaDoorAckRead
namespace Go.Proofs.YtljdbphojcglgaaDoor.Pure
open Go Go.RowKit Go.Proofs.YtljdbphojcglgaaDoor.PF Go.Proofs.YtljdbphojcglgaaDoorW.PrintWords Go.Proofs.YtljdbphojcglgaaDoorW.PrintLast
set_option linter.unusedVariables false
theorem bytes_take (l : List Int) (n : Nat) : Lib.bytesOf (l.take n)=(Lib.bytesOf l).take n:=by
  unfold Lib.bytesOf
  rw [List.map_take]
/-- What the first segment has stands ahead of the first 13. -/
theorem first_has {l : List Int} {u : UInt8} (h : u ∈ (segsOf (Lib.bytesOf l)).headD []) : u ∈ Lib.bytesOf (firstL l):=by
  by_cases h13 : (13 : UInt8) ∈ Lib.bytesOf l
  · obtain ⟨a,b,e,ha⟩:=first_hit h13
    have hs : (segsOf (Lib.bytesOf l)).headD []=a:=by
      unfold segsOf
      rw [e,cutL_append_hit ha]
      obtain ⟨x,t,ht⟩:=cutL_form 13 b
      rw [ht]
      split <;> rfl
    have hf:Lib.bytesOf (firstL l)=a:=by
      unfold firstL
      rw [e,indexByte_hit ha b,if_pos (by omega),Int.toNat_natCast,bytes_take,e,List.take_left]
    rw [hs] at h
    rw [hf]
    exact h
  · have hf:firstL l=l:=by
      unfold firstL
      rw [indexByte_miss h13]
      rfl
    rw [hf]
    unfold segsOf at h
    rw [cutL_clean h13] at h
    split at h
    · cases h
    · exact h
theorem first_in {l : List Int} {u : UInt8} (h : u ∈ Lib.bytesOf (firstL l)) : u ∈ Lib.bytesOf l:=by
  unfold firstL at h
  split at h
  · rw [bytes_take] at h
    exact List.mem_of_mem_take h
  · exact h
theorem good_11 {l : List Int} (h : goodB l=true) : (11 : UInt8) ∉ Lib.bytesOf l:=by
  intro hm
  obtain ⟨a,b,e,ha⟩:=first_hit hm
  unfold goodB at h
  rw [e,indexByte_hit ha b] at h
  simp only [Bool.and_eq_true,decide_eq_true_eq] at h
  omega
theorem not_28 {l : List Int} (h : ¬ 0≤Lib.indexByte (Lib.bytesOf (firstL l)) 28) : (28 : UInt8) ∉ Lib.bytesOf (firstL l):=by
  intro hm
  obtain ⟨a,b,e,ha⟩:=first_hit hm
  rw [e,indexByte_hit ha b] at h
  omega
theorem index_two {l : List UInt8} (h : (28 : UInt8) ∉ l) : Lib.index l [28,13] = -1:=by
  induction l with
  | nil=>rfl
  | cons x r ih =>
    have hx:x ≠ 28:=fun e=>h (by simp [e])
    have hr : (28 : UInt8) ∉ r:=fun e=>h (List.mem_cons_of_mem _ e)
    unfold Lib.index
    rw [ih hr]
    have hp:List.isPrefixOf [28,13] (x :: r)=false:=by
      simp only [List.isPrefixOf,Bool.and_eq_false_imp,beq_iff_eq]
      intro e
      exact absurd e.symm hx
    rw [hp]
    rfl
/-- Bytes without 11 and 28 may be in a frame. -/
theorem good_none {s : List UInt8} (h11 : (11 : UInt8) ∉ s) (h28 : (28 : UInt8) ∉ s) : goodB (numsOf s)=true:=by
  have hs:Lib.hasSuffix s [28]=false:=by
    rw [Bool.eq_false_iff]
    intro h
    unfold Lib.hasSuffix at h
    obtain ⟨t,rfl⟩:=List.isSuffixOf_iff_suffix.1 h
    exact h28 (by simp)
  unfold goodB Lib.contains
  rw [bytesOf_numsOf,indexByte_miss h11,index_two h28,hs]
  rfl
theorem sign_not {c : Int} (h : OkS c) {u : UInt8} (hu : u=11∨u=28) : u ≠ UInt8.ofNat c.toNat:=by
  rintro rfl
  unfold OkS at h
  have e : (UInt8.ofNat c.toNat).toNat=c.toNat:=by
    rw [UInt8.toNat_ofNat']
    omega
  rcases hu with hu | hu <;> · rw [hu] at e; simp at e; omega
/-- An answer's bytes have no 11 and no 28. -/
theorem answer_not {c c1 c2 c3 c4 : Int} (hg : GoodS c c1 c2 c3 c4) {ys : List ByteArray} {code id : ByteArray} {u : UInt8} (hu : u=11∨u=28) (hys : ∀ y ∈ ys,u ∉ y.data.toList) (hk : code.data.toList ∈ codeB) (hid : u ∉ id.data.toList) :
    u ∉ segOf c c1 c2 c3 c4 ((trimB ys).map (·.data.toList)) ++ 13 :: (msaOf c code id ++ [13]):=by
  obtain ⟨⟨g0,g1,g2,g3,g4⟩,_⟩:=(good_iff _ _ _ _ _).1 hg
  have hc:u ∉ code.data.toList:=by
    have key : ∀ s ∈ codeB,(11 : UInt8) ∉ s∧(28 : UInt8) ∉ s:=by decide
    have:=key _ hk
    rcases hu with rfl | rfl
    · exact this.1
    · exact this.2
  have h13:u ≠ 13:=by rcases hu with rfl | rfl <;> decide
  have hM:u ∉ MSH:=by rcases hu with rfl | rfl <;> decide
  have hA:u ∉ MSA:=by rcases hu with rfl | rfl <;> decide
  intro h
  rw [List.mem_append,List.mem_cons,List.mem_append,List.mem_singleton] at h
  rcases h with h | h | h | h
  · unfold segOf at h
    rw [List.mem_append,List.mem_cons] at h
    rcases h with h | h | h
    · exact hM h
    · exact sign_not g0 hu h
    · rcases mem_joinL h with h | ⟨y,hy,h⟩
      · exact sign_not g0 hu h
      · rcases List.mem_cons.1 hy with rfl | hy
        · have h4:u=UInt8.ofNat c1.toNat∨u=UInt8.ofNat c2.toNat∨u=UInt8.ofNat c3.toNat∨u=UInt8.ofNat c4.toNat:=by simpa [Lib.bytesOf] using h
          rcases h4 with h | h | h | h
          · exact sign_not g1 hu h
          · exact sign_not g2 hu h
          · exact sign_not g3 hu h
          · exact sign_not g4 hu h
        · obtain ⟨z,hz,rfl⟩:=List.mem_map.1 hy
          exact hys z (trim_mem hz) h
  · exact h13 h
  · have e:msaOf c code id=MSA ++ UInt8.ofNat c.toNat :: (code.data.toList ++ UInt8.ofNat c.toNat :: id.data.toList):=by
      unfold msaOf makeOf
      rw [if_neg (by decide)]
      simp
    rw [e,List.mem_append,List.mem_cons,List.mem_append,List.mem_cons] at h
    rcases h with h | h | h | h | h
    · exact hA h
    · exact sign_not g0 hu h
    · exact hc h
    · exact sign_not g0 hu h
    · exact hid h
  · exact h13 h
/-- What a head that was read bears stands in the first segment. -/
theorem read_has {l : List Int} {c c1 c2 c3 c4 : Int} {t5 t6 t7 t8 t9 t10 t11 t12 t13 t14 : ByteArray} (hr : readM l=(c,c1,c2,c3,c4,t5,t6,t7,t8,t9,t10,t11,t12,t13,t14,0)) :
    ∀ y ∈ [t5,t6,t7,t8,t9,t10,t11,t12,t13,t14],∀ u ∈ y.data.toList,u ∈ Lib.bytesOf (firstL l):=by
  unfold readM at hr
  by_cases he : (readS l).2.2.2.2.2=0
  · rw [if_pos he] at hr
    by_cases hq : nthOf (fieldsOf (UInt8.ofNat (readS l).1.toNat) ((segsOf (Lib.bytesOf l)).headD [])) 2=Lib.bytesOf [(readS l).2.1,(readS l).2.2.1,(readS l).2.2.2.1,(readS l).2.2.2.2.1]
    · have hr2:=(if_pos hq).symm.trans hr
      simp only [Prod.mk.injEq] at hr2
      obtain ⟨_,_,_,_,_,e5,e6,e7,e8,e9,e10,e11,e12,e13,e14,_⟩:=hr2
      have key : ∀ n : Int,2≤n→∀ u ∈ (strOf (nthOf (fieldsOf (UInt8.ofNat (readS l).1.toNat) ((segsOf (Lib.bytesOf l)).headD [])) n)).data.toList,u ∈ Lib.bytesOf (firstL l):=by
        intro n hn u hu
        rw [strOf_data] at hu
        exact first_has (field_has _ n hn hu)
      intro y hy
      simp only [List.mem_cons,List.not_mem_nil,or_false] at hy
      rcases hy with rfl | rfl | rfl | rfl | rfl | rfl | rfl | rfl | rfl | rfl
      · rw [← e5]; exact key _ (by decide)
      · rw [← e6]; exact key _ (by decide)
      · rw [← e7]; exact key _ (by decide)
      · rw [← e8]; exact key _ (by decide)
      · rw [← e9]; exact key _ (by decide)
      · rw [← e10]; exact key _ (by decide)
      · rw [← e11]; exact key _ (by decide)
      · rw [← e12]; exact key _ (by decide)
      · rw [← e13]; exact key _ (by decide)
      · rw [← e14]; exact key _ (by decide)
    · have hr2:=(if_neg hq).symm.trans hr
      simp only [Prod.mk.injEq] at hr2
      exact absurd hr2.2.2.2.2.2.2.2.2.2.2.2.2.2.2.2 (by decide)
  · rw [if_neg he] at hr
    simp only [Prod.mk.injEq] at hr
    exact absurd hr.2.2.2.2.2.2.2.2.2.2.2.2.2.2.2 he
/-- An answer that is built is read as its code and id. -/
theorem readA_made {c0 c1 c2 c3 c4 : Int} (hc : IsByte c0) (hc1 : IsByte c1) (hc2 : IsByte c2) (hc3 : IsByte c3) (hc4 : IsByte c4) {a5 a6 a7 a8 a9 a10 a11 a12 a13 a14 : ByteArray} (hg : GoodS c0 c1 c2 c3 c4) (hf : ¬ Foul (UInt8.ofNat c0.toNat) [a5,a6,a7,a8,a9,a10,a11,a12,a13,a14])
    (code id : ByteArray) (hk : code.data.toList ∈ codeB) (hid : UInt8.ofNat c0.toNat ∉ id.data.toList) (hid13 : (13 : UInt8) ∉ id.data.toList) (behind : List UInt8) :
    readA (numsOf (segOf c0 c1 c2 c3 c4 ((trimB [a5,a6,a7,a8,a9,a10,a11,a12,a13,a14]).map (·.data.toList)) ++ 13 :: (msaOf c0 code id ++ 13 :: behind)))=(code.data.toList,id.data.toList,0):=by
  have e13 : ∀ s : List UInt8,numsOf (13 :: s)=13 :: numsOf s:=fun _=>rfl
  have hm:=read_written hc hc1 hc2 hc3 hc4 hg hf (numsOf (msaOf c0 code id ++ 13 :: behind))
  obtain ⟨k1,k2⟩:=clean_texts hf
  have hM13 : (13 : UInt8) ∉ msaOf c0 code id:=make_no13 (good_no13 hg).1 (by decide) (by decide) _ (by
    intro x hx
    simp only [List.map_cons,List.map_nil,List.mem_cons,List.not_mem_nil,or_false] at hx
    rcases hx with rfl | rfl
    · exact code_no13 _ hk
    · exact hid13)
  obtain ⟨s1,s2⟩:=segs_two behind (seg_no13 hg k2) hM13
  unfold readA
  rw [nums_append,e13,hm]
  dsimp only
  rw [if_pos rfl,← e13,← nums_append,bytesOf_numsOf,if_neg (by omega),s2]
  exact msa_tells hg hk hid [] (by simp)
/-- An answer to a message that was read is built, may be in a frame, and tells its code and id. -/
theorem answer_ok {l : List Int} (hgl : goodB l=true) (h28 : ¬ 0≤Lib.indexByte (Lib.bytesOf (firstL l)) 28) {c c1 c2 c3 c4 : Int} {t5 t6 t7 t8 t9 t10 t11 t12 t13 t14 : ByteArray} (hr : readM l=(c,c1,c2,c3,c4,t5,t6,t7,t8,t9,t10,t11,t12,t13,t14,0))
    (hc : IsByte c) (hc1 : IsByte c1) (hc2 : IsByte c2) (hc3 : IsByte c3) (hc4 : IsByte c4) (hg : GoodS c c1 c2 c3 c4) (hf : ¬ Foul (UInt8.ofNat c.toNat) [t5,t6,t7,t8,t9,t10,t11,t12,t13,t14]) (code : ByteArray) (hk : code.data.toList ∈ codeB) :
    ∃ s : List UInt8,buildOf c c1 c2 c3 c4 t5 t6 t7 t8 t9 t12 t13 t14 code=(s,0)∧goodB (numsOf s)=true∧readA (numsOf s)=(code.data.toList,t12.data.toList,0):=by
  have hfoul : ¬ Foul (UInt8.ofNat c.toNat) [t7,t8,t5,t6,t9,⟨#[]⟩,ACK,t12,t13,t14]:=by
    rintro ⟨y,hy,hm⟩
    have key : ∀ z ∈ [t5,t6,t7,t8,t9,t10,t11,t12,t13,t14],¬ (UInt8.ofNat c.toNat ∈ z.data.toList∨(13 : UInt8) ∈ z.data.toList):=fun z hz h=>hf ⟨z,hz,h⟩
    simp only [List.mem_cons,List.not_mem_nil,or_false] at hy
    rcases hy with rfl | rfl | rfl | rfl | rfl | rfl | rfl | rfl | rfl | rfl
    · exact key _ (by simp) hm
    · exact key _ (by simp) hm
    · exact key _ (by simp) hm
    · exact key _ (by simp) hm
    · exact key _ (by simp) hm
    · rcases hm with hm | hm <;> cases hm
    · rcases hm with hm | hm
      · exact ok_notin (good_field hg) (by decide) hm
      · revert hm; decide
    · exact key _ (by simp) hm
    · exact key _ (by simp) hm
    · exact key _ (by simp) hm
  have hid : ¬ (UInt8.ofNat c.toNat ∈ t12.data.toList∨(13 : UInt8) ∈ t12.data.toList):=fun h=>hfoul ⟨t12,by simp,h⟩
  have hno : ∀ u : UInt8,u=11∨u=28→u ∉ Lib.bytesOf (firstL l):=by
    rintro u (rfl | rfl)
    · exact fun h=>good_11 hgl (first_in h)
    · exact not_28 h28
  have hhas:=read_has hr
  have hys : ∀ u : UInt8,u=11∨u=28→∀ y ∈ [t7,t8,t5,t6,t9,(⟨#[]⟩ : ByteArray),ACK,t12,t13,t14],u ∉ y.data.toList:=by
    intro u hu y hy hm
    have key : ∀ z ∈ [t5,t6,t7,t8,t9,t10,t11,t12,t13,t14],u ∉ z.data.toList:=fun z hz h=>hno u hu (hhas z hz u h)
    simp only [List.mem_cons,List.not_mem_nil,or_false] at hy
    rcases hy with rfl | rfl | rfl | rfl | rfl | rfl | rfl | rfl | rfl | rfl
    · exact key _ (by simp) hm
    · exact key _ (by simp) hm
    · exact key _ (by simp) hm
    · exact key _ (by simp) hm
    · exact key _ (by simp) hm
    · cases hm
    · rcases hu with rfl | rfl <;> · revert hm; decide
    · exact key _ (by simp) hm
    · exact key _ (by simp) hm
    · exact key _ (by simp) hm
  refine ⟨_,build_nums hk hg hfoul,?_,?_⟩
  · exact good_none (answer_not hg (.inl rfl) (hys _ (.inl rfl)) hk (hys _ (.inl rfl) t12 (by simp))) (answer_not hg (.inr rfl) (hys _ (.inr rfl)) hk (hys _ (.inr rfl) t12 (by simp)))
  · exact readA_made hc hc1 hc2 hc3 hc4 hg hfoul code t12 hk (fun h=>hid (.inl h)) (fun h=>hid (.inr h)) []
end Go.Proofs.YtljdbphojcglgaaDoor.Pure
