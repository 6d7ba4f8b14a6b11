/- The document's segment of a head, over lists of bytes; conditions: texts of at most 10000 bytes together, fuel for a step each. -/
import Derived.Test.YtcjcaojgminjpaaDoorPDx14
import Derived.Test.YtcjcaojgminjpaaDoorPDx15
import Derived.Test.YtcjcaojgminjpaaDoorPDx9
import Derived.Test.YtcjcaojgminjpaaDoorMshWrite
import Derived.Test.YtcjcaojgminjpaaDoorRefMake8
import Derived.Test.YtcjcaojgminjpaaDoorDelimRef
namespace Go.Proofs.YtcjcaojgminjpaaDoor.Pure
open Go Go.RowKit Go.Proofs.YtcjcaojgminjpaaDoor.PD Go.Proofs.YtcjcaojgminjpaaDoorW.PrintWords Go.Proofs.YtcjcaojgminjpaaDoorW.PrintLast
/-! ### The document's writing -/
theorem rd_mem (l : List ByteArray) (i : Nat) (h : i < l.length) : rdOf ByteArray.empty l (i : Int)=l[i]:=by
  unfold rdOf
  rw [Int.toNat_natCast,List.getD_eq_getElem?_getD,List.getElem?_eq_getElem h]
  rfl
theorem foul_drop (c : UInt8) (ys : List ByteArray) (i : Nat) (h : i < ys.length) : Foul c (ys.drop i) ↔ ((c ∈ (rdOf ByteArray.empty ys (i : Int)).data.toList∨13 ∈ (rdOf ByteArray.empty ys (i : Int)).data.toList)∨Foul c (ys.drop (i + 1))):=by
  rw [drop_cons ys i h]
  unfold Foul
  constructor
  · rintro ⟨y,hy,hf⟩
    rcases List.mem_cons.1 hy with rfl | hy
    · exact .inl hf
    · exact .inr ⟨y,hy,hf⟩
  · rintro (hf | ⟨y,hy,hf⟩)
    · exact ⟨_,List.mem_cons_self,hf⟩
    · exact ⟨y,List.mem_cons_of_mem _ hy,hf⟩
open Classical in
theorem ref_l1 (c c1 c2 c3 c4 : Int) (hc : IsByte c) (ys : List ByteArray) (hb : bulkOf ys≤10000) (i : Nat) (hi : i < ys.length) (D : Nat) (r : ByteArray × Int) (H : ∀ k,D≤k→lamplighterref09_Write.l0 k ys ((i + 1 : Nat) : Int) c c1 c2 c3 c4=some r) (y : ByteArray) (hy : rdOf ByteArray.empty ys (i : Int)=y) (hs : y.size≤10000) (d : Nat) :
    ∀ (k j : Nat),j≤y.size→y.size - j=d→D + d + 1≤k→lamplighterref09_Write.l1 k ys (i : Int) (j : Int) c c1 c2 c3 c4=some (if UInt8.ofNat c.toNat ∈ y.data.toList.drop j∨13 ∈ y.data.toList.drop j then (⟨#[]⟩,10) else r):=by
  have hlen:=bulk_length ys
  induction d with
  | zero =>
    intro k j hj hd hk
    obtain ⟨k,rfl⟩ : ∃ m,k=m + 1:=⟨k - 1,by omega⟩
    obtain rfl : j=y.size:=by omega
    have q0 : (0 : Int)≤(i : Int):=by omega
    have q1 : (i : Int) < (ys.length : Int):=by omega
    have q2 : ¬ ((y.size : Int) < (y.size : Int)):=by omega
    rw [lamplighterref09_Write.l1,if_pos q0,if_pos q1,hy,if_neg q2,wrap_succ i (by omega),H k (by omega),List.drop_eq_nil_of_le (by rw [len_size]; omega),if_neg (by simp)]
  | succ d ih =>
    intro k j hj hd hk
    obtain ⟨k,rfl⟩ : ∃ m,k=m + 1:=⟨k - 1,by omega⟩
    have q0 : (0 : Int)≤(i : Int):=by omega
    have q1 : (i : Int) < (ys.length : Int):=by omega
    have q2 : (j : Int) < (y.size : Int):=by omega
    have q3 : (0 : Int)≤(j : Int):=by omega
    have hjl:j < y.data.toList.length:=by rw [len_size]; omega
    have b1:=bt_list y j (by omega) c hc
    have b2:=bt_list y j (by omega) 13 ⟨by decide,by decide⟩
    have hdrop:y.data.toList.drop j=y.data.toList[j] :: y.data.toList.drop (j + 1):=List.drop_eq_getElem_cons hjl
    rw [lamplighterref09_Write.l1,if_pos q0,if_pos q1,hy,if_pos q2,if_pos q3,hdrop]
    by_cases h1 : bt y (j : Int)=c
    · rw [if_pos h1,if_pos (.inl (by rw [← b1.1 h1]; exact List.mem_cons_self))]
    · rw [if_neg h1]
      by_cases h2 : bt y (j : Int)=13
      · rw [if_pos h2,if_pos (.inr (by have e:y.data.toList[j]=13:=b2.1 h2; rw [e]; exact List.mem_cons_self))]
      · have e:=ih k (j + 1) (by omega) (by omega) (by omega)
        have n1:UInt8.ofNat c.toNat ≠ y.data.toList[j]:=fun e=>h1 (b1.2 e.symm)
        have n2 : (13 : UInt8) ≠ y.data.toList[j]:=fun e=>h2 (b2.2 e.symm)
        have m1 : (UInt8.ofNat c.toNat ∈ y.data.toList[j] :: y.data.toList.drop (j + 1)∨13 ∈ y.data.toList[j] :: y.data.toList.drop (j + 1)) ↔ (UInt8.ofNat c.toNat ∈ y.data.toList.drop (j + 1)∨13 ∈ y.data.toList.drop (j + 1)):=by
          rw [List.mem_cons,List.mem_cons]
          constructor
          · rintro ((h | h) | (h | h))
            · exact absurd h n1
            · exact .inl h
            · exact absurd h n2
            · exact .inr h
          · rintro (h | h)
            · exact .inl (.inr h)
            · exact .inr (.inr h)
        rw [if_neg h2,wrap_succ j (by omega),e]
        congr 1
        exact ite_iff m1.symm _ _
open Classical in
theorem ref_l0 (c c1 c2 c3 c4 : Int) (hc : IsByte c) (ys : List ByteArray) (hb : bulkOf ys≤10000) (E : Nat) (r : ByteArray × Int) (H : ∀ k,E≤k→lamplighterref09_Write.l2 k ys c c1 c2 c3 c4=some r) (d : Nat) :
    ∀ (k i : Nat),i≤ys.length→ys.length - i=d→2 * bulkOf (ys.drop i) + 1 + E≤k→lamplighterref09_Write.l0 k ys (i : Int) c c1 c2 c3 c4=some (if Foul (UInt8.ofNat c.toNat) (ys.drop i) then (⟨#[]⟩,10) else r):=by
  induction d with
  | zero =>
    intro k i hi hd hk
    obtain ⟨k,rfl⟩ : ∃ m,k=m + 1:=⟨k - 1,by omega⟩
    obtain rfl : i=ys.length:=by omega
    have q : ¬ ((ys.length : Int) < (ys.length : Int)):=by omega
    have hf : ¬ Foul (UInt8.ofNat c.toNat) (ys.drop ys.length):=by
      rw [List.drop_length]; rintro ⟨_,h,_⟩; cases h
    rw [lamplighterref09_Write.l0,if_neg q,H k (by omega),if_neg hf]
  | succ d ih =>
    intro k i hi hd hk
    obtain ⟨k,rfl⟩ : ∃ m,k=m + 1:=⟨k - 1,by omega⟩
    have hlt:i < ys.length:=by omega
    have q : (i : Int) < (ys.length : Int):=by omega
    have hbk:bulkOf (ys.drop i)=1 + (rdOf ByteArray.empty ys (i : Int)).size + bulkOf (ys.drop (i + 1)):=by rw [drop_cons ys i hlt,bulk_cons]
    have hbd:=bulk_drop ys i
    have e:=ref_l1 c c1 c2 c3 c4 hc ys hb i hlt (2 * bulkOf (ys.drop (i + 1)) + 1 + E) _ (fun k' hk'=>ih k' (i + 1) (by omega) (by omega) hk') _ rfl (by omega) _ k 0 (by omega) rfl (by omega)
    rw [lamplighterref09_Write.l0,if_pos q,show (0 : Int)=((0 : Nat) : Int) from rfl,e,List.drop_zero]
    congr 1
    by_cases h1 : UInt8.ofNat c.toNat ∈ (rdOf ByteArray.empty ys (i : Int)).data.toList∨13 ∈ (rdOf ByteArray.empty ys (i : Int)).data.toList
    · rw [if_pos h1,if_pos ((foul_drop _ ys i hlt).2 (.inl h1))]
    · rw [if_neg h1]
      refine ite_iff ?_ _ _
      rw [foul_drop _ ys i hlt]
      exact ⟨.inr,fun h=>h.resolve_left h1⟩
theorem ref_l2 (c c1 c2 c3 c4 : Int) (d : Nat) : ∀ (k : Nat) (ys : List ByteArray),ys.length=d→bulkOf ys≤10000→10100 + d≤k →
    lamplighterref09_Write.l2 k ys c c1 c2 c3 c4=some (strOf (makeOf (UInt8.ofNat c.toNat) MSH ([strOfNums [c],strOfNums [c1,c2,c3,c4]].map (·.data.toList) ++ (trimB ys).map (·.data.toList))),0):=by
  have fin : ∀ (k : Nat) (ys : List ByteArray),bulkOf ys≤10000→10050≤k →
      ((some (([strOfNums (([c] : List Int)),strOfNums (([c1,c2,c3,c4] : List Int))] : List ByteArray) : List ByteArray)).bind fun y417=>(if y417.length + ys.length < 8796093022208 then ((lamplighterref08_Make.f k c c1 c2 c3 c4 (⟨#[77,83,72]⟩ : ByteArray) (y417 ++ ys)).bind fun t423=>(some (t423,(0 : Int)))) else (none))) =
      some (strOf (makeOf (UInt8.ofNat c.toNat) MSH ([strOfNums [c],strOfNums [c1,c2,c3,c4]].map (·.data.toList) ++ ys.map (·.data.toList))),0):=by
    intro k ys hb hk
    have hlen:=bulk_length ys
    have q : ([strOfNums [c],strOfNums [c1,c2,c3,c4]] : List ByteArray).length + ys.length < 8796093022208:=by simp only [List.length_cons,List.length_nil]; omega
    rw [Option.bind_some,if_pos q,show (⟨#[77,83,72]⟩ : ByteArray)=strOf MSH from rfl,refMake_spec k c c1 c2 c3 c4 MSH _ (by decide) (by rw [head_bulk]; omega) (by simp only [List.length_append,List.length_cons,List.length_nil]; omega),Option.bind_some,List.map_append]
  induction d with
  | zero =>
    intro k ys hl hb hk
    obtain ⟨k,rfl⟩ : ∃ m,k=m + 1:=⟨k - 1,by omega⟩
    obtain rfl:=List.eq_nil_of_length_eq_zero hl
    rw [lamplighterref09_Write.l2,if_neg (by decide),fin k [] hb (by omega)]
    rfl
  | succ d ih =>
    intro k ys hl hb hk
    obtain ⟨k,rfl⟩ : ∃ m,k=m + 1:=⟨k - 1,by omega⟩
    have hlen:=bulk_length ys
    rcases List.eq_nil_or_concat ys with rfl | ⟨t,y,rfl⟩
    · simp at hl
    rw [List.concat_eq_append] at *
    have ht:t.length=d:=by simpa using hl
    have hL : (t ++ [y]).length=d + 1:=by simpa using ht
    have q0 : ((t ++ [y]).length : Int) > 0:=by omega
    have w1:wrap64 (((t ++ [y]).length : Int) - 1)=((d : Nat) : Int):=by rw [hL,wrap_fit (by omega) (by omega)]; omega
    have q1 : (0 : Int)≤((d : Nat) : Int):=by omega
    have q2 : ((d : Nat) : Int) < ((t ++ [y]).length : Int):=by omega
    have q3 : ((d : Nat) : Int)≤((t ++ [y]).length : Int):=by omega
    have hrd:rdOf ByteArray.empty (t ++ [y]) ((d : Nat) : Int)=y:=by
      rw [rd_mem _ d (by omega),List.getElem_append_right (by omega)]
      simp [ht]
    have htake : (t ++ [y]).take ((d : Nat) : Int).toNat=t:=by rw [Int.toNat_natCast,List.take_append_of_le_length (by omega),List.take_of_length_le (by omega)]
    rw [lamplighterref09_Write.l2,if_pos q0,w1,if_pos q1,if_pos q2,hrd,Lib.toList_data]
    by_cases hy : y.data.toList=[]
    · have hbt:bulkOf t≤10000:=by rw [bulk_append] at hb; omega
      rw [if_pos hy,if_pos q3,htake,ih k t ht hbt (by omega),trim_snoc_empty t y hy]
    · rw [if_neg hy,fin k (t ++ [y]) hb (by omega),trim_snoc_full t y hy]
theorem refWrite_spec (k : Nat) (hk : 40000≤k) (c c1 c2 c3 c4 : Int) (t5 t6 t7 t8 t9 t10 t11 t12 t13 t14 : ByteArray) (hb : bulkOf [t5,t6,t7,t8,t9,t10,t11,t12,t13,t14]≤10000) (hc : IsByte c) :
    lamplighterref09_Write.f k c c1 c2 c3 c4 t5 t6 t7 t8 t9 t10 t11 t12 t13 t14=some (writeOf c c1 c2 c3 c4 [t5,t6,t7,t8,t9,t10,t11,t12,t13,t14]):=by
  unfold lamplighterref09_Write.f lamplighterref09_texts.f writeOf
  rw [refRight_spec k (by omega) c c1 c2 c3 c4,Option.bind_some]
  by_cases hg : GoodS c c1 c2 c3 c4
  · rw [if_pos (decide_eq_true hg),if_pos hg,Option.bind_some]
    exact ref_l0 c c1 c2 c3 c4 hc _ hb 10110 _ (fun k' hk'=>ref_l2 c c1 c2 c3 c4 10 k' _ rfl hb (by omega)) 10 k 0 (by simp) rfl (by rw [List.drop_zero]; omega)
  · rw [if_neg (by rw [decide_eq_true_eq]; exact hg),if_neg hg]
end Go.Proofs.YtcjcaojgminjpaaDoor.Pure
