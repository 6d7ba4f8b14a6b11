/- What ack.Read tells of bytes, over lists of bytes, and what answers are read as; conditions: the numbers are bytes, fuel for a step each. -/
import Derived.Test.YtljdbphojcglgaaDoorPFx18
import Derived.Test.YtljdbphojcglgaaDoorPFx2
import Derived.Test.YtljdbphojcglgaaDoorPFx3
import Derived.Test.YtljdbphojcglgaaDoorAck
namespace Go.Proofs.YtljdbphojcglgaaDoor.Pure
open Go Go.RowKit Go.Proofs.YtljdbphojcglgaaDoor.PF Go.Proofs.YtljdbphojcglgaaDoorW.PrintWords Go.Proofs.YtljdbphojcglgaaDoorW.PrintLast
/-- What an answer's second segment tells: its code, whose id it answers, the error. -/
def tellA (d : UInt8) (s : List UInt8) : List UInt8 × List UInt8 × Int :=
  if s.take 3=MSA then
    if nthOf (fieldsOf d s) 1 ∈ codeB then (nthOf (fieldsOf d s) 1,nthOf (fieldsOf d s) 2,0) else ([],[],17)
  else ([],[],10)
/-- What is read of an answer's bytes. -/
def readA (l : List Int) : List UInt8 × List UInt8 × Int :=
  if (readM l).2.2.2.2.2.2.2.2.2.2.2.2.2.2.2=0 then
    if (segsOf (Lib.bytesOf l)).length < 2 then ([],[],10)
    else tellA (UInt8.ofNat (readM l).1.toNat) ((segsOf (Lib.bytesOf l)).getD 1 [])
  else ([],[],(readM l).2.2.2.2.2.2.2.2.2.2.2.2.2.2.2)
/-! ### Two segments and more -/
theorem segs_two {s t : List UInt8} (r : List UInt8) (hs : 13 ∉ s) (ht : 13 ∉ t) : 2≤(segsOf (s ++ 13 :: (t ++ 13 :: r))).length∧(segsOf (s ++ 13 :: (t ++ 13 :: r))).getD 1 []=t:=by
  obtain ⟨h,u,e⟩:=cutL_form 13 r
  unfold segsOf
  rw [cutL_append_hit hs,cutL_append_hit ht,e]
  split
  · exact ⟨by simp,rfl⟩
  · exact ⟨by simp,rfl⟩
theorem segs_one {s : List UInt8} (hs : 13 ∉ s) : (segsOf (s ++ [13])).length=1:=by
  unfold segsOf
  rw [cutL_append_hit hs,cutL_nil,if_pos (by rfl)]
  rfl
theorem msa_name (d : UInt8) (l : List (List UInt8)) : (makeOf d MSA l).take 3=MSA:=by
  unfold makeOf
  rw [if_neg (by decide)]
  rfl
/-- The fields of a segment that was made of a name that is no MSH. -/
theorem made_fields {d : UInt8} {name : List UInt8} (hn : name ≠ MSH) (hn3 : name.length=3) (hd : d ∉ name) (l : List (List UInt8)) (hl : ∀ x ∈ l,d ∉ x) : fieldsOf d (makeOf d name l)=l:=by
  have e:makeOf d name l=joinL d (name :: l):=by
    unfold makeOf
    rw [if_neg hn,flat_join]
  have ht : (makeOf d name l).take 3=name:=by
    unfold makeOf
    rw [if_neg hn,List.take_append_of_le_length (by omega),List.take_of_length_le (by omega)]
  unfold fieldsOf
  rw [ht,if_neg hn,e,cutL_joinL (List.cons_ne_nil _ _) (by
    intro x hx
    rcases List.mem_cons.1 hx with rfl | hx
    · exact hd
    · exact hl x hx)]
  rfl
theorem ok_noletter {c : Int} (h : OkS c) {u : UInt8} (hu : (65≤u.toNat∧u.toNat≤90)∨(48≤u.toNat∧u.toNat≤57)) : UInt8.ofNat c.toNat ≠ u:=by
  rintro rfl
  rw [UInt8.toNat_ofNat'] at hu
  unfold OkS at h
  omega
theorem ok_notin {c : Int} (h : OkS c) {l : List UInt8} (hl : ∀ u ∈ l,(65≤u.toNat∧u.toNat≤90)∨(48≤u.toNat∧u.toNat≤57)) : UInt8.ofNat c.toNat ∉ l:=fun hm=>ok_noletter h (hl _ hm) rfl
theorem good_field {c c1 c2 c3 c4 : Int} (hg : GoodS c c1 c2 c3 c4) : OkS c:=((good_iff _ _ _ _ _).1 hg).1.1
theorem code_letters : ∀ s ∈ codeB,∀ u ∈ s,(65≤u.toNat∧u.toNat≤90)∨(48≤u.toNat∧u.toNat≤57):=by decide
theorem msa_letters : ∀ u ∈ MSA,(65≤u.toNat∧u.toNat≤90)∨(48≤u.toNat∧u.toNat≤57):=by decide
theorem code_no13 : ∀ s ∈ codeB,(13 : UInt8) ∉ s:=by decide
theorem make_no13 {d : UInt8} (hd : d ≠ 13) {name : List UInt8} (hn : name ≠ MSH) (h13 : (13 : UInt8) ∉ name) (l : List (List UInt8)) (hl : ∀ x ∈ l,(13 : UInt8) ∉ x) : (13 : UInt8) ∉ makeOf d name l:=by
  unfold makeOf
  rw [if_neg hn,flat_join]
  intro h
  rcases mem_joinL h with h | ⟨y,hy,h2⟩
  · exact hd h.symm
  · rcases List.mem_cons.1 hy with e | hy
    · rw [e] at h2
      exact h13 h2
    · exact hl y hy h2
/-- The second segment of an answer tells its code and id. -/
theorem msa_tells {c c1 c2 c3 c4 : Int} (hg : GoodS c c1 c2 c3 c4) {code id : List UInt8} (hk : code ∈ codeB) (hid : UInt8.ofNat c.toNat ∉ id) (more : List (List UInt8)) (hm : ∀ x ∈ more,UInt8.ofNat c.toNat ∉ x) :
    tellA (UInt8.ofNat c.toNat) (makeOf (UInt8.ofNat c.toNat) MSA (code :: id :: more))=(code,id,0):=by
  have hf:=made_fields (d:=UInt8.ofNat c.toNat) (name:=MSA) (by decide) rfl (ok_notin (good_field hg) msa_letters) (code :: id :: more) (by
    intro x hx
    rcases List.mem_cons.1 hx with rfl | hx
    · exact ok_notin (good_field hg) (code_letters _ hk)
    · rcases List.mem_cons.1 hx with rfl | hx
      · exact hid
      · exact hm x hx)
  have h1:nthOf (code :: id :: more) 1=code:=rfl
  have h2:nthOf (code :: id :: more) 2=id:=rfl
  unfold tellA
  rw [if_pos (msa_name _ _),hf,h1,h2,if_pos hk]
theorem segs_at (b : List UInt8) (i : Nat) : ((segsOf b).getD i []).length≤b.length:=by
  rw [List.getD_eq_getElem?_getD]
  cases e : (segsOf b)[i]? with
  | none=>simp
  | some x =>
    have hx:=List.mem_of_getElem? e
    refine cutL_part_le 13 b x ?_
    unfold segsOf at hx
    split at hx
    · exact List.dropLast_subset _ hx
    · exact hx
theorem rd_segs (L : List (List UInt8)) : rdOf ByteArray.empty (L.map strOf) 1=strOf (L.getD 1 []):=by
  unfold rdOf
  rw [List.getD_eq_getElem?_getD,List.getD_eq_getElem?_getD,List.getElem?_map]
  show Option.getD (Option.map strOf (L[1]?)) _=strOf (Option.getD (L[1]?) [])
  cases L[1]? <;> rfl
theorem readM_byte {l : List Int} (h : ∀ x ∈ l,IsByte x) : IsByte (readM l).1:=by
  rcases readM_cases h with ⟨e,_,hr⟩ | ⟨c,c1,c2,c3,c4,t5,t6,t7,t8,t9,t10,t11,t12,t13,t14,hr,hc,_⟩
  · rw [hr]; exact ⟨Int.le_refl 0,by show (0 : Int)≤255; decide⟩
  · rw [hr]; exact hc
theorem bne_false {α : Type} [BEq α] [LawfulBEq α] {a b : α} (h : a=b) : (a != b)=false:=by simp [h]
theorem bne_true' {α : Type} [BEq α] [LawfulBEq α] {a b : α} (h : a ≠ b) : (a != b)=true:=by simp [h]
theorem ackRead_spec (k : Nat) (hk : 10 < k) (l : List Int) (h : ∀ x ∈ l,IsByte x) (hl : l.length≤1000000000) : ack_Read.f k l=some (strOf (readA l).1,strOf (readA l).2.1,(readA l).2.2):=by
  have hb:=readM_byte h
  have hsg:=segs_at (Lib.bytesOf l) 1
  rw [bytesOf_len] at hsg
  unfold ack_Read.f
  rw [MRead_spec k (by omega) l h hl,Option.bind_some]
  unfold readA
  generalize readM l=m at hb ⊢
  obtain ⟨c,c1,c2,c3,c4,t5,t6,t7,t8,t9,t10,t11,t12,t13,t14,e⟩:=m
  dsimp only at hb ⊢
  by_cases he : e=0
  · rw [if_pos he,if_pos he,MSplit_spec l (by omega),Option.bind_some]
    generalize segsOf (Lib.bytesOf l)=L at hsg ⊢
    have hlen : ((L.map strOf).length : Int)=(L.length : Int):=by rw [List.length_map]
    rw [hlen]
    obtain ⟨k,rfl⟩ : ∃ m,k=m + 1:=⟨k - 1,by omega⟩
    by_cases h2 : L.length < 2
    · have q : (L.length : Int) < 2:=by omega
      rw [if_pos q,if_pos h2,ack_Read.j0,if_pos rfl]
      rfl
    · have q : ¬ (L.length : Int) < 2:=by omega
      have q1 : (1 : Int) < (L.length : Int):=by omega
      have hr:=rd_segs L
      have hsz : (strOf (L.getD 1 [])).size≤140737488355328:=by rw [strOf_size]; omega
      rw [if_neg q,if_neg h2,if_pos q1,hr,name_spec,Option.bind_some,strOf_data,strOf_list,ack_Read.j0,hlen,if_pos q1,hr]
      generalize L.getD 1 []=s at hsz ⊢
      have F1:=Field_spec (strOf s) 1 c c1 c2 c3 c4 hsz hb (by decide)
      have F2:=Field_spec (strOf s) 2 c c1 c2 c3 c4 hsz hb (by decide)
      rw [strOf_data] at F1 F2
      unfold tellA
      by_cases hm : s.take 3=MSA
      · rw [bne_false (show s.take 3=([77,83,65] : List UInt8) from hm),if_neg (by decide),F1,Option.bind_some,F2,Option.bind_some,knows_spec k (by omega),Option.bind_some,strOf_data,if_pos hm]
        by_cases hkn : nthOf (fieldsOf (UInt8.ofNat c.toNat) s) 1 ∈ codeB
        · rw [if_pos (decide_eq_true hkn),if_pos hkn]
        · rw [if_neg (by rw [decide_eq_true_eq]; exact hkn),if_neg hkn]
          rfl
      · rw [bne_true' (show s.take 3 ≠ ([77,83,65] : List UInt8) from hm),if_pos rfl,if_neg hm]
        rfl
  · rw [if_neg he,if_neg he]
    rfl
/-- Of an answer's bytes the second segment tells all. -/
theorem readA_second {c0 c1 c2 c3 c4 : Int} (hc : IsByte c0) (hc1 : IsByte c1) (hc2 : IsByte c2) (hc3 : IsByte c3) (hc4 : IsByte c4) {a5 a6 a7 a8 a9 a10 a11 a12 a13 a14 : ByteArray} (hg : GoodS c0 c1 c2 c3 c4) (hf : ¬ Foul (UInt8.ofNat c0.toNat) [a5,a6,a7,a8,a9,a10,a11,a12,a13,a14])
    (M : List UInt8) (hM : (13 : UInt8) ∉ M) (behind : List UInt8) :
    readA (numsOf (segOf c0 c1 c2 c3 c4 ((trimB [a5,a6,a7,a8,a9,a10,a11,a12,a13,a14]).map (·.data.toList)) ++ 13 :: (M ++ 13 :: behind)))=tellA (UInt8.ofNat c0.toNat) M:=by
  have e13 : ∀ s : List UInt8,numsOf (13 :: s)=13 :: numsOf s:=fun _=>rfl
  have hm:=read_written hc hc1 hc2 hc3 hc4 hg hf (numsOf (M ++ 13 :: behind))
  obtain ⟨k1,k2⟩:=clean_texts hf
  obtain ⟨s1,s2⟩:=segs_two behind (seg_no13 hg k2) hM
  unfold readA
  rw [nums_append,e13,hm]
  dsimp only
  rw [if_pos rfl,← e13,← nums_append,bytesOf_numsOf,if_neg (by omega),s2]
/-- A head's segment alone is no answer. -/
theorem readA_alone {c0 c1 c2 c3 c4 : Int} (hc : IsByte c0) (hc1 : IsByte c1) (hc2 : IsByte c2) (hc3 : IsByte c3) (hc4 : IsByte c4) {a5 a6 a7 a8 a9 a10 a11 a12 a13 a14 : ByteArray} (hg : GoodS c0 c1 c2 c3 c4) (hf : ¬ Foul (UInt8.ofNat c0.toNat) [a5,a6,a7,a8,a9,a10,a11,a12,a13,a14]) :
    readA (numsOf (segOf c0 c1 c2 c3 c4 ((trimB [a5,a6,a7,a8,a9,a10,a11,a12,a13,a14]).map (·.data.toList))) ++ [13])=([],[],10):=by
  have hm:=read_written hc hc1 hc2 hc3 hc4 hg hf []
  obtain ⟨k1,k2⟩:=clean_texts hf
  have s1:=segs_one (seg_no13 hg k2)
  have e:Lib.bytesOf (numsOf (segOf c0 c1 c2 c3 c4 ((trimB [a5,a6,a7,a8,a9,a10,a11,a12,a13,a14]).map (·.data.toList))) ++ [13])=segOf c0 c1 c2 c3 c4 ((trimB [a5,a6,a7,a8,a9,a10,a11,a12,a13,a14]).map (·.data.toList)) ++ [13]:=by
    have e1:=bytesOf_numsOf (segOf c0 c1 c2 c3 c4 ((trimB [a5,a6,a7,a8,a9,a10,a11,a12,a13,a14]).map (·.data.toList)))
    unfold Lib.bytesOf at e1 ⊢
    rw [List.map_append,e1]
    rfl
  unfold readA
  rw [hm]
  dsimp only
  rw [if_pos rfl,e,if_pos (by omega)]
end Go.Proofs.YtljdbphojcglgaaDoor.Pure
