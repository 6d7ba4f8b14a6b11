/- A head's segment is read as that head, whole or cut, over lists of bytes; conditions: the signs may be, the texts have neither the sign between fields nor a 13. -/
import Derived.Test.YtljdbphojcglgaaDoorMshRead
import Derived.Test.YtljdbphojcglgaaDoorMshWrite
import Derived.Test.YtljdbphojcglgaaDoorGood
namespace Go.Proofs.YtljdbphojcglgaaDoor.Pure
open Go Go.RowKit Go.Proofs.YtljdbphojcglgaaDoor.PF Go.Proofs.YtljdbphojcglgaaDoorW.PrintWords Go.Proofs.YtljdbphojcglgaaDoorW.PrintLast

theorem flat_join (c : UInt8) (r : List (List UInt8)) : ∀ x : List UInt8,x ++ (r.map (c :: ·)).flatten=joinL c (x :: r):=by
  induction r with
  | nil=>intro x; simp [joinL]
  | cons y r ih =>
    intro x
    rw [joinL_cons c x (List.cons_ne_nil y r),← ih y]
    simp
/-- A head's segment, of its signs and its texts without the empty ones at the end. -/
def segOf (c c1 c2 c3 c4 : Int) (zs : List (List UInt8)) : List UInt8:=MSH ++ UInt8.ofNat c.toNat :: joinL (UInt8.ofNat c.toNat) (Lib.bytesOf [c1,c2,c3,c4] :: zs)
theorem written (c c1 c2 c3 c4 : Int) (zs : List (List UInt8)) :
    makeOf (UInt8.ofNat c.toNat) MSH ([strOfNums [c],strOfNums [c1,c2,c3,c4]].map (·.data.toList) ++ zs)=segOf c c1 c2 c3 c4 zs:=by
  unfold makeOf segOf
  rw [if_pos rfl,← flat_join]
  simp [strOfNums,Lib.bytesOf]
theorem fields_written {c : UInt8} {l : List (List UInt8)} (hne : l ≠ []) (h : ∀ x ∈ l,c ∉ x) : fieldsOf c (MSH ++ c :: joinL c l)=[c] :: l:=by
  unfold fieldsOf
  rw [if_pos (by simp [MSH]),if_pos (by simp [MSH])]
  show [c] :: cutL c (joinL c l)=_
  rw [cutL_joinL hne h]
theorem segs_head {s : List UInt8} (r : List UInt8) (hs : 13 ∉ s) : (segsOf (s ++ 13 :: r)).headD []=s:=by
  obtain ⟨h,t,e⟩:=cutL_form 13 r
  unfold segsOf
  rw [cutL_append_hit hs,e]
  split
  · rfl
  · rfl
theorem segs_whole {s : List UInt8} (hs : 13 ∉ s) (hne : s ≠ []) : (segsOf s).headD []=s:=by
  unfold segsOf
  rw [cutL_clean hs,if_neg (by simpa using hne)]
  rfl
theorem readS_written {c c1 c2 c3 c4 : Int} (hg : GoodS c c1 c2 c3 c4) (x : Int) (t : List Int) (hx : x=c∨x=13) : readS (77 :: 83 :: 72 :: c :: c1 :: c2 :: c3 :: c4 :: x :: t)=(c,c1,c2,c3,c4,0):=by
  unfold readS
  rw [if_neg (by simp only [List.length_cons]; omega),if_pos ⟨rfl,hg,hx⟩]
  rfl
theorem sign_u8 {c : Int} (hc : IsByte c) : ((UInt8.ofNat c.toNat).toNat : Int)=c:=by
  rw [UInt8.toNat_ofNat']
  unfold IsByte at hc
  omega
theorem readM_seg {c c1 c2 c3 c4 : Int} (hg : GoodS c c1 c2 c3 c4) (x : Int) (t : List Int) (hx : x=c∨x=13) (zs : List (List UInt8))
    (hs : UInt8.ofNat c.toNat ∉ Lib.bytesOf [c1,c2,c3,c4]) (hz : ∀ z ∈ zs,UInt8.ofNat c.toNat ∉ z)
    (hseg : (segsOf (Lib.bytesOf (77 :: 83 :: 72 :: c :: c1 :: c2 :: c3 :: c4 :: x :: t))).headD []=segOf c c1 c2 c3 c4 zs) :
    readM (77 :: 83 :: 72 :: c :: c1 :: c2 :: c3 :: c4 :: x :: t)=(c,c1,c2,c3,c4,strOf (zs.getD 0 []),strOf (zs.getD 1 []),strOf (zs.getD 2 []),strOf (zs.getD 3 []),strOf (zs.getD 4 []),strOf (zs.getD 5 []),strOf (zs.getD 6 []),strOf (zs.getD 7 []),strOf (zs.getD 8 []),strOf (zs.getD 9 []),0):=by
  unfold readM
  rw [readS_written hg x t hx]
  dsimp only
  rw [if_pos rfl,hseg]
  unfold segOf
  rw [fields_written (List.cons_ne_nil _ _) (by
    intro y hy
    rcases List.mem_cons.1 hy with rfl | hy
    · exact hs
    · exact hz y hy)]
  exact if_pos rfl
theorem good_sep {c c1 c2 c3 c4 : Int} (hg : GoodS c c1 c2 c3 c4) (hc : IsByte c) (hc1 : IsByte c1) (hc2 : IsByte c2) (hc3 : IsByte c3) (hc4 : IsByte c4) : UInt8.ofNat c.toNat ∉ Lib.bytesOf [c1,c2,c3,c4]:=by
  obtain ⟨_,⟨n1,n2,n3,n4⟩,_⟩:=(good_iff _ _ _ _ _).1 hg
  have key : ∀ d : Int,IsByte d→c ≠ d→UInt8.ofNat c.toNat ≠ UInt8.ofNat d.toNat:=by
    intro d hd hne e
    have:=congrArg (fun u : UInt8=>(u.toNat : Int)) e
    simp only [sign_u8 hc,sign_u8 hd] at this
    exact hne this
  have k1:=key c1 hc1 n1
  have k2:=key c2 hc2 n2
  have k3:=key c3 hc3 n3
  have k4:=key c4 hc4 n4
  simp only [Lib.bytesOf,List.map_cons,List.map_nil,List.mem_cons,List.not_mem_nil,or_false,not_or]
  exact ⟨k1,k2,k3,k4⟩
theorem ok_not13 {c : Int} (h : OkS c) : UInt8.ofNat c.toNat ≠ 13:=by
  intro e
  have:=congrArg UInt8.toNat e
  rw [UInt8.toNat_ofNat'] at this
  have h13 : (13 : UInt8).toNat=13:=rfl
  unfold OkS at h
  omega
theorem good_no13 {c c1 c2 c3 c4 : Int} (hg : GoodS c c1 c2 c3 c4) : UInt8.ofNat c.toNat ≠ 13∧13 ∉ Lib.bytesOf [c1,c2,c3,c4]:=by
  obtain ⟨⟨o0,o1,o2,o3,o4⟩,_⟩:=(good_iff _ _ _ _ _).1 hg
  have k1:=ok_not13 o1
  have k2:=ok_not13 o2
  have k3:=ok_not13 o3
  have k4:=ok_not13 o4
  refine ⟨ok_not13 o0,?_⟩
  simp only [Lib.bytesOf,List.map_cons,List.map_nil,List.mem_cons,List.not_mem_nil,or_false,not_or]
  exact ⟨k1.symm,k2.symm,k3.symm,k4.symm⟩
theorem mem_joinL {c x : UInt8} {l : List (List UInt8)} (h : x ∈ joinL c l) : x=c∨∃ y ∈ l,x ∈ y:=by
  induction l with
  | nil=>cases h
  | cons y r ih =>
    cases r with
    | nil=>exact .inr ⟨y,by simp,h⟩
    | cons z r =>
      rw [joinL_cons _ _ (List.cons_ne_nil _ _),List.mem_append,List.mem_cons] at h
      rcases h with h | rfl | h
      · exact .inr ⟨y,by simp,h⟩
      · exact .inl rfl
      · rcases ih h with h | ⟨y',h1,h2⟩
        · exact .inl h
        · exact .inr ⟨y',List.mem_cons_of_mem _ h1,h2⟩
theorem seg_no13 {c c1 c2 c3 c4 : Int} (hg : GoodS c c1 c2 c3 c4) {zs : List (List UInt8)} (hz : ∀ z ∈ zs,(13 : UInt8) ∉ z) : (13 : UInt8) ∉ segOf c c1 c2 c3 c4 zs:=by
  obtain ⟨g1,g2⟩:=good_no13 hg
  intro h
  unfold segOf at h
  rw [List.mem_append,List.mem_cons] at h
  rcases h with h | h | h
  · exact absurd h (by decide)
  · exact g1 h.symm
  · rcases mem_joinL h with h | ⟨y,h1,h2⟩
    · exact g1 h.symm
    · rcases List.mem_cons.1 h1 with rfl | h1
      · exact g2 h2
      · exact hz y h1 h2
theorem nums_append (a b : List UInt8) : numsOf (a ++ b)=numsOf a ++ numsOf b:=List.map_append
theorem nums_signs {c1 c2 c3 c4 : Int} (hc1 : IsByte c1) (hc2 : IsByte c2) (hc3 : IsByte c3) (hc4 : IsByte c4) : numsOf (Lib.bytesOf [c1,c2,c3,c4])=[c1,c2,c3,c4]:=by
  simp only [numsOf,Lib.bytesOf,List.map_cons,List.map_nil,sign_u8 hc1,sign_u8 hc2,sign_u8 hc3,sign_u8 hc4]
/-- A segment's numbers: its nine first ones, if a text, or a 13, is behind the signs. -/
theorem nums_seg {c c1 c2 c3 c4 : Int} (hc : IsByte c) (hc1 : IsByte c1) (hc2 : IsByte c2) (hc3 : IsByte c3) (hc4 : IsByte c4) (zs : List (List UInt8)) :
    numsOf (segOf c c1 c2 c3 c4 zs)=77 :: 83 :: 72 :: c :: c1 :: c2 :: c3 :: c4 :: (if zs=[] then [] else c :: numsOf (joinL (UInt8.ofNat c.toNat) zs)):=by
  unfold segOf
  have e3:numsOf MSH=[77,83,72]:=rfl
  have e4 : ∀ l,numsOf (UInt8.ofNat c.toNat :: l)=c :: numsOf l:=fun l=>by
    show ((UInt8.ofNat c.toNat).toNat : Int) :: numsOf l=_
    rw [sign_u8 hc]
  by_cases hz : zs=[]
  · subst hz
    rw [if_pos rfl,nums_append,e3,e4]
    show [77,83,72] ++ c :: numsOf (Lib.bytesOf [c1,c2,c3,c4])=_
    rw [nums_signs hc1 hc2 hc3 hc4]
    rfl
  · rw [if_neg hz,nums_append,e3,e4,joinL_cons _ _ hz,nums_append,nums_signs hc1 hc2 hc3 hc4,e4]
    rfl
/-- A head's segment, a 13 and anything behind, is read as that head. -/
theorem read_back {c c1 c2 c3 c4 : Int} (hc : IsByte c) (hc1 : IsByte c1) (hc2 : IsByte c2) (hc3 : IsByte c3) (hc4 : IsByte c4) (hg : GoodS c c1 c2 c3 c4) (zs : List (List UInt8)) (behind : List Int)
    (hz : ∀ z ∈ zs,UInt8.ofNat c.toNat ∉ z) (hz13 : ∀ z ∈ zs,(13 : UInt8) ∉ z) :
    readM (numsOf (segOf c c1 c2 c3 c4 zs) ++ 13 :: behind)=(c,c1,c2,c3,c4,strOf (zs.getD 0 []),strOf (zs.getD 1 []),strOf (zs.getD 2 []),strOf (zs.getD 3 []),strOf (zs.getD 4 []),strOf (zs.getD 5 []),strOf (zs.getD 6 []),strOf (zs.getD 7 []),strOf (zs.getD 8 []),strOf (zs.getD 9 []),0):=by
  have hseg : (segsOf (Lib.bytesOf (numsOf (segOf c c1 c2 c3 c4 zs) ++ 13 :: behind))).headD []=segOf c c1 c2 c3 c4 zs:=by
    have e:Lib.bytesOf (numsOf (segOf c c1 c2 c3 c4 zs) ++ 13 :: behind)=segOf c c1 c2 c3 c4 zs ++ 13 :: Lib.bytesOf behind:=by
      have e1:=bytesOf_numsOf (segOf c c1 c2 c3 c4 zs)
      unfold Lib.bytesOf at e1 ⊢
      rw [List.map_append,e1]
      rfl
    rw [e,segs_head _ (seg_no13 hg hz13)]
  rw [nums_seg hc hc1 hc2 hc3 hc4] at hseg ⊢
  by_cases he : zs=[]
  · rw [if_pos he] at hseg ⊢
    exact readM_seg hg 13 behind (.inr rfl) zs (good_sep hg hc hc1 hc2 hc3 hc4) hz hseg
  · rw [if_neg he] at hseg ⊢
    exact readM_seg hg c _ (.inl rfl) zs (good_sep hg hc hc1 hc2 hc3 hc4) hz hseg
/-- A head's segment alone, with a text, is read as that head. -/
theorem read_alone {c c1 c2 c3 c4 : Int} (hc : IsByte c) (hc1 : IsByte c1) (hc2 : IsByte c2) (hc3 : IsByte c3) (hc4 : IsByte c4) (hg : GoodS c c1 c2 c3 c4) (zs : List (List UInt8)) (he : zs ≠ [])
    (hz : ∀ z ∈ zs,UInt8.ofNat c.toNat ∉ z) (hz13 : ∀ z ∈ zs,(13 : UInt8) ∉ z) :
    readM (numsOf (segOf c c1 c2 c3 c4 zs))=(c,c1,c2,c3,c4,strOf (zs.getD 0 []),strOf (zs.getD 1 []),strOf (zs.getD 2 []),strOf (zs.getD 3 []),strOf (zs.getD 4 []),strOf (zs.getD 5 []),strOf (zs.getD 6 []),strOf (zs.getD 7 []),strOf (zs.getD 8 []),strOf (zs.getD 9 []),0):=by
  have hseg : (segsOf (Lib.bytesOf (numsOf (segOf c c1 c2 c3 c4 zs)))).headD []=segOf c c1 c2 c3 c4 zs:=by
    rw [bytesOf_numsOf,segs_whole (seg_no13 hg hz13) (by unfold segOf; simp)]
  rw [nums_seg hc hc1 hc2 hc3 hc4,if_neg he] at hseg ⊢
  exact readM_seg hg c _ (.inl rfl) zs (good_sep hg hc hc1 hc2 hc3 hc4) hz hseg
theorem trim_nil {l : List ByteArray} (h : trimB l=[]) : ∀ y ∈ l,y.data.toList=[]:=by
  induction l with
  | nil=>intro y hy; cases hy
  | cons x l ih =>
    unfold trimB at h
    split at h
    · rename_i h1
      intro y hy
      rcases List.mem_cons.1 hy with rfl | hy
      · exact h1.2
      · exact ih h1.1 y hy
    · cases h
theorem trim_get (l : List ByteArray) : ∀ i : Nat,((trimB l).map (·.data.toList)).getD i []=(l.map (·.data.toList)).getD i []:=by
  induction l with
  | nil=>intro i; rfl
  | cons x l ih =>
    intro i
    unfold trimB
    split
    · rename_i h
      have hn:=trim_nil h.1
      symm
      cases i with
      | zero=>simpa using h.2
      | succ i =>
        rw [List.map_cons,List.getD_cons_succ,List.getD_eq_getElem?_getD,List.getElem?_map]
        cases e : l[i]? with
        | none=>rfl
        | some y=>exact hn y (List.mem_of_getElem? e)
    · cases i with
      | zero=>rfl
      | succ i =>
        rw [List.map_cons,List.map_cons,List.getD_cons_succ,List.getD_cons_succ,ih i]
theorem trim_mem {l : List ByteArray} {y : ByteArray} (h : y ∈ trimB l) : y ∈ l:=by
  induction l with
  | nil=>exact h
  | cons x l ih =>
    unfold trimB at h
    split at h
    · cases h
    · rcases List.mem_cons.1 h with rfl | h
      · simp
      · exact List.mem_cons_of_mem _ (ih h)
theorem clean_texts {c : UInt8} {ys : List ByteArray} (h : ¬ Foul c ys) : (∀ z ∈ (trimB ys).map (·.data.toList),c ∉ z)∧∀ z ∈ (trimB ys).map (·.data.toList),(13 : UInt8) ∉ z:=by
  constructor <;>
  · intro z hz
    obtain ⟨y,hy,rfl⟩:=List.mem_map.1 hz
    intro hm
    exact h ⟨y,trim_mem hy,by first | exact .inl hm | exact .inr hm⟩
theorem writeOf_ok {c c1 c2 c3 c4 : Int} {ys : List ByteArray} (hg : GoodS c c1 c2 c3 c4) (hf : ¬ Foul (UInt8.ofNat c.toNat) ys) :
    writeOf c c1 c2 c3 c4 ys=(strOf (segOf c c1 c2 c3 c4 ((trimB ys).map (·.data.toList))),0):=by
  unfold writeOf
  rw [if_pos hg,if_neg hf,written]
theorem writeOf_zero {c c1 c2 c3 c4 : Int} {ys : List ByteArray} (h : (writeOf c c1 c2 c3 c4 ys).2=0) : GoodS c c1 c2 c3 c4∧¬ Foul (UInt8.ofNat c.toNat) ys:=by
  unfold writeOf at h
  by_cases hg : GoodS c c1 c2 c3 c4
  · rw [if_pos hg] at h
    by_cases hf : Foul (UInt8.ofNat c.toNat) ys
    · rw [if_pos hf] at h
      exact absurd h (by decide)
    · exact ⟨hg,hf⟩
  · rw [if_neg hg] at h
    exact absurd h (by decide)
theorem texts_get (ys : List ByteArray) (y : ByteArray) (i : Nat) (h : ys[i]?=some y) : strOf (((trimB ys).map (·.data.toList)).getD i [])=y:=by
  rw [trim_get,List.getD_eq_getElem?_getD,List.getElem?_map,h]
  exact strOf_of y
/-- What is written, a 13 and anything behind, is read as what was written. -/
theorem read_written {c c1 c2 c3 c4 : Int} (hc : IsByte c) (hc1 : IsByte c1) (hc2 : IsByte c2) (hc3 : IsByte c3) (hc4 : IsByte c4) {t5 t6 t7 t8 t9 t10 t11 t12 t13 t14 : ByteArray} (hg : GoodS c c1 c2 c3 c4)
    (hf : ¬ Foul (UInt8.ofNat c.toNat) [t5,t6,t7,t8,t9,t10,t11,t12,t13,t14]) (behind : List Int) :
    readM (numsOf (segOf c c1 c2 c3 c4 ((trimB [t5,t6,t7,t8,t9,t10,t11,t12,t13,t14]).map (·.data.toList))) ++ 13 :: behind)=(c,c1,c2,c3,c4,t5,t6,t7,t8,t9,t10,t11,t12,t13,t14,0):=by
  obtain ⟨k1,k2⟩:=clean_texts hf
  rw [read_back hc hc1 hc2 hc3 hc4 hg _ behind k1 k2,texts_get _ t5 0 rfl,texts_get _ t6 1 rfl,texts_get _ t7 2 rfl,texts_get _ t8 3 rfl,texts_get _ t9 4 rfl,texts_get _ t10 5 rfl,texts_get _ t11 6 rfl,texts_get _ t12 7 rfl,texts_get _ t13 8 rfl,texts_get _ t14 9 rfl]
theorem field_at {c : UInt8} {s : List UInt8} {n : Int} (hn : 2≤n) {P : List UInt8→Prop} (h0 : P []) (h : ∀ x,x ∈ (fieldsOf c s).drop 1→P x) : P (nthOf (fieldsOf c s) n):=by
  unfold nthOf
  rw [if_pos (by omega),List.getD_eq_getElem?_getD]
  cases e : (fieldsOf c s)[(n - 1).toNat]? with
  | none=>exact h0
  | some x =>
    refine h x ?_
    have : ((fieldsOf c s).drop 1)[(n - 1).toNat - 1]?=some x:=by
      rw [List.getElem?_drop,← e]
      congr 1
      omega
    exact List.mem_of_getElem? this
theorem field_clean (c : UInt8) (s : List UInt8) (n : Int) (hn : 2≤n) : c ∉ nthOf (fieldsOf c s) n:=by
  refine field_at hn (P:=fun y=>c ∉ y) (by simp) ?_
  intro x hx
  unfold fieldsOf at hx
  split at hx
  · split at hx
    · exact cutL_clean_parts c _ x hx
    · cases hx
  · exact cutL_clean_parts c s x (List.mem_of_mem_tail (List.mem_of_mem_drop hx))
theorem mem_cutL {c x : UInt8} (l : List UInt8) : ∀ y ∈ cutL c l,x ∈ y→x ∈ l:=by
  induction l with
  | nil=>intro y hy hx; simp [cutL] at hy; subst hy; cases hx
  | cons z r ih =>
    intro y hy hx
    obtain ⟨h,t,e⟩:=cutL_form c r
    rw [e] at ih
    by_cases hz : z=c
    · subst hz
      rw [cutL_hit,e] at hy
      rcases List.mem_cons.1 hy with rfl | hy
      · cases hx
      · exact List.mem_cons_of_mem _ (ih y hy hx)
    · rw [cutL_miss hz,e] at hy
      rcases List.mem_cons.1 hy with rfl | hy
      · simp only [List.headD_cons,List.mem_cons] at hx
        rcases hx with rfl | hx
        · simp
        · exact List.mem_cons_of_mem _ (ih h (by simp) hx)
      · exact List.mem_cons_of_mem _ (ih y (List.mem_cons_of_mem _ hy) hx)
theorem field_has {c x : UInt8} (s : List UInt8) (n : Int) (hn : 2≤n) (h : x ∈ nthOf (fieldsOf c s) n) : x ∈ s:=by
  refine field_at (c:=c) (s:=s) hn (P:=fun y=>x ∈ y→x ∈ s) (fun h=>by cases h) ?_ h
  intro y hy hx
  unfold fieldsOf at hy
  split at hy
  · split at hy
    · exact List.mem_of_mem_drop (mem_cutL _ y hy hx)
    · cases hy
  · exact mem_cutL s y (List.mem_of_mem_tail (List.mem_of_mem_drop hy)) hx
theorem field_size {c : UInt8} (s : List UInt8) (n : Int) (hn : 2≤n) : (nthOf (fieldsOf c s) n).length≤s.length:=by
  refine field_at (c:=c) (s:=s) hn (P:=fun y=>y.length≤s.length) (by simp) ?_
  intro y hy
  unfold fieldsOf at hy
  split at hy
  · split at hy
    · have:=cutL_part_le c _ y hy
      rw [List.length_drop] at this
      omega
    · cases hy
  · exact cutL_part_le c s y (List.mem_of_mem_tail (List.mem_of_mem_drop hy))
theorem seg_no13_read (b : List UInt8) : (13 : UInt8) ∉ (segsOf b).headD []:=by
  have key : ∀ x ∈ segsOf b,(13 : UInt8) ∉ x:=by
    intro x hx
    refine cutL_clean_parts 13 b x ?_
    unfold segsOf at hx
    split at hx
    · exact List.dropLast_subset _ hx
    · exact hx
  cases h : segsOf b with
  | nil=>simp
  | cons x t=>exact key x (by rw [h]; simp)
theorem readS_good {l : List Int} (h : (readS l).2.2.2.2.2=0) : GoodS (readS l).1 (readS l).2.1 (readS l).2.2.1 (readS l).2.2.2.1 (readS l).2.2.2.2.1:=by
  unfold readS at h ⊢
  split at h
  · simp at h
  · split at h
    · rename_i h1 h2
      rw [if_neg h1,if_pos h2]
      exact h2.2.1
    · simp at h
/-- What is read of bytes is a head that can be written, or no head. -/
theorem readM_cases {l : List Int} (h : ∀ x ∈ l,IsByte x) :
    (∃ e : Int,e ≠ 0∧readM l=(0,0,0,0,0,strOf [],strOf [],strOf [],strOf [],strOf [],strOf [],strOf [],strOf [],strOf [],strOf [],e)) ∨
    ∃ (c c1 c2 c3 c4 : Int) (t5 t6 t7 t8 t9 t10 t11 t12 t13 t14 : ByteArray),readM l=(c,c1,c2,c3,c4,t5,t6,t7,t8,t9,t10,t11,t12,t13,t14,0)∧IsByte c∧IsByte c1∧IsByte c2∧IsByte c3∧IsByte c4∧GoodS c c1 c2 c3 c4 ∧
      ¬ Foul (UInt8.ofNat c.toNat) [t5,t6,t7,t8,t9,t10,t11,t12,t13,t14]∧∀ y ∈ [t5,t6,t7,t8,t9,t10,t11,t12,t13,t14],y.size≤l.length:=by
  have hb:=reads_bytes h
  unfold readM
  by_cases he : (readS l).2.2.2.2.2=0
  · have hg:=readS_good he
    have h13:=seg_no13_read (Lib.bytesOf l)
    have hlen:=segs_part (Lib.bytesOf l)
    rw [bytesOf_len] at hlen
    rw [if_pos he]
    by_cases hq : nthOf (fieldsOf (UInt8.ofNat (readS l).1.toNat) ((segsOf (Lib.bytesOf l)).headD [])) 2=Lib.bytesOf [(readS l).2.1,(readS l).2.2.1,(readS l).2.2.2.1,(readS l).2.2.2.2.1]
    · refine .inr ⟨(readS l).1,(readS l).2.1,(readS l).2.2.1,(readS l).2.2.2.1,(readS l).2.2.2.2.1,_,_,_,_,_,_,_,_,_,_,if_pos hq,hb.1,hb.2.1,hb.2.2.1,hb.2.2.2.1,hb.2.2.2.2,hg,?_,?_⟩
      · rintro ⟨y,hy,hm⟩
        have key : ∀ n : Int,2≤n→¬ (UInt8.ofNat (readS l).1.toNat ∈ (strOf (nthOf (fieldsOf (UInt8.ofNat (readS l).1.toNat) ((segsOf (Lib.bytesOf l)).headD [])) n)).data.toList∨(13 : UInt8) ∈ (strOf (nthOf (fieldsOf (UInt8.ofNat (readS l).1.toNat) ((segsOf (Lib.bytesOf l)).headD [])) n)).data.toList):=by
          intro n hn hm
          rw [strOf_data] at hm
          rcases hm with hm | hm
          · exact field_clean _ _ n hn hm
          · exact h13 (field_has _ n hn hm)
        simp only [List.mem_cons,List.not_mem_nil,or_false] at hy
        rcases hy with rfl | rfl | rfl | rfl | rfl | rfl | rfl | rfl | rfl | rfl <;> exact key _ (by decide) hm
      · intro y hy
        have key : ∀ n : Int,2≤n→(strOf (nthOf (fieldsOf (UInt8.ofNat (readS l).1.toNat) ((segsOf (Lib.bytesOf l)).headD [])) n)).size≤l.length:=by
          intro n hn
          rw [strOf_size]
          exact Nat.le_trans (field_size _ n hn) hlen
        simp only [List.mem_cons,List.not_mem_nil,or_false] at hy
        rcases hy with rfl | rfl | rfl | rfl | rfl | rfl | rfl | rfl | rfl | rfl <;> exact key _ (by decide)
    · exact .inl ⟨11,by decide,if_neg hq⟩
  · rw [if_neg he]
    exact .inl ⟨_,he,rfl⟩
theorem bulk_ten {t5 t6 t7 t8 t9 t10 t11 t12 t13 t14 : ByteArray} {n : Nat} (h : ∀ y ∈ [t5,t6,t7,t8,t9,t10,t11,t12,t13,t14],y.size≤n) : bulkOf [t5,t6,t7,t8,t9,t10,t11,t12,t13,t14]≤10 * (n + 1):=by
  have key : ∀ l : List ByteArray,(∀ y ∈ l,y.size≤n)→bulkOf l≤l.length * (n + 1):=by
    intro l
    induction l with
    | nil=>intro _; simp [bulkOf]
    | cons x l ih =>
      intro hl
      have h1:=hl x (by simp)
      have h2:=ih (fun y hy=>hl y (by simp [hy]))
      rw [bulk_cons,List.length_cons,Nat.succ_mul]
      omega
  exact key _ h
theorem seg_length (c c1 c2 c3 c4 : Int) (ys : List ByteArray) : (segOf c c1 c2 c3 c4 (ys.map (·.data.toList))).length≤8 + bulkOf ys:=by
  unfold segOf
  rw [← flat_join,List.length_append,List.length_cons,List.length_append]
  have e : (List.map (UInt8.ofNat c.toNat :: ·) (ys.map (·.data.toList))).flatten.length=bulkOf ys:=by
    induction ys with
    | nil=>rfl
    | cons x l ih =>
      rw [List.map_cons,List.map_cons,List.flatten_cons,List.length_append,List.length_cons,ih,len_size,bulk_cons]
      omega
  rw [e]
  have h4 : (Lib.bytesOf [c1,c2,c3,c4]).length=4:=rfl
  have h3:MSH.length=3:=rfl
  omega
theorem nums_bytes (s : List UInt8) : ∀ x ∈ numsOf s,IsByte x:=by
  intro x hx
  obtain ⟨u,_,rfl⟩:=List.mem_map.1 hx
  have:=u.toNat_lt
  exact ⟨by omega,by omega⟩
theorem nums_length (s : List UInt8) : (numsOf s).length=s.length:=List.length_map ..
end Go.Proofs.YtljdbphojcglgaaDoor.Pure
