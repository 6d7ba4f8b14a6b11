/- A head's segment: what msh.Write answers, over lists of bytes; conditions: texts of at most 1900000 bytes together. -/
import Derived.Test.YtljdbphojcglgaaDoorPFx10
import Derived.Test.YtljdbphojcglgaaDoorPFx11
import Derived.Test.YtljdbphojcglgaaDoorMshRead
import Derived.Test.YtljdbphojcglgaaDoorSegMake
namespace Go.Proofs.YtljdbphojcglgaaDoor.Pure
open Go Go.RowKit Go.Proofs.YtljdbphojcglgaaDoor.PF Go.Proofs.YtljdbphojcglgaaDoorW.PrintWords Go.Proofs.YtljdbphojcglgaaDoorW.PrintLast
theorem ite_iff {α : Type} {p q : Prop} [Decidable p] [Decidable q] (h : p ↔ q) (x y : α) : (if p then x else y)=if q then x else y:=by
  by_cases hp : p
  · rw [if_pos hp,if_pos (h.1 hp)]
  · rw [if_neg hp,if_neg (fun hq=>hp (h.2 hq))]
theorem contains_one (s : ByteArray) (c : Int) (hc : IsByte c) : strings_Contains.f s (strOfNums [c])=some (decide (UInt8.ofNat c.toNat ∈ s.data.toList)):=by
  have e:stringslite_Index.f s (strOfNums [c])=some (Lib.indexByte s.data.toList (UInt8.ofNat c.toNat)):=by
    have hb:bt (strOf [UInt8.ofNat c.toNat]) 0=((UInt8.ofNat c.toNat).toNat : Int):=rfl
    have ht : ((UInt8.ofNat c.toNat).toNat : Int)=c:=by
      have:=hc.1; have:=hc.2
      simp; omega
    unfold stringslite_Index.f
    rw [byte_str,if_pos (by rw [strOf_size]; rfl),hb,ht]
    rfl
  unfold strings_Contains.f strings_Index.f
  rw [e,Option.bind_some,Option.bind_some]
  congr 1
  rw [decide_eq_decide]
  by_cases h : UInt8.ofNat c.toNat ∈ s.data.toList
  · obtain ⟨a,b,e2,ha⟩:=first_hit h
    rw [e2,indexByte_hit ha b]
    refine ⟨fun _=>?_,fun _=>by omega⟩
    simp
  · rw [indexByte_miss h]
    exact ⟨fun h2=>absurd h2 (by decide),fun h2=>absurd h2 h⟩
/-- The texts without the empty ones at their end. -/
def trimB : List ByteArray→List ByteArray
  | []=>[]
  | y :: r=>if trimB r=[]∧y.data.toList=[] then [] else y :: trimB r
theorem trim_snoc_empty (l : List ByteArray) (y : ByteArray) (h : y.data.toList=[]) : trimB (l ++ [y])=trimB l:=by
  induction l with
  | nil=>simp [trimB,h]
  | cons x l ih=>simp only [List.cons_append,trimB,ih]
theorem trim_snoc_full (l : List ByteArray) (y : ByteArray) (h : y.data.toList ≠ []) : trimB (l ++ [y])=l ++ [y]:=by
  induction l with
  | nil=>simp [trimB,h]
  | cons x l ih=>simp only [List.cons_append,trimB,ih]; simp
theorem trim_length (l : List ByteArray) : (trimB l).length≤l.length:=by
  induction l with
  | nil=>simp [trimB]
  | cons x l ih =>
    unfold trimB
    split
    · simp
    · simp only [List.length_cons]; omega
theorem trim_bulk (l : List ByteArray) : bulkOf (trimB l)≤bulkOf l:=by
  induction l with
  | nil=>simp [trimB]
  | cons x l ih =>
    unfold trimB
    split
    · simp [bulkOf]
    · rw [bulk_cons,bulk_cons]; omega
/-- Has a text a byte that may not stand in a field? -/
def Foul (c : UInt8) (ys : List ByteArray) : Prop := ∃ y ∈ ys,c ∈ y.data.toList∨13 ∈ y.data.toList
open Classical in
theorem wloop_spec (c : Int) (hc : IsByte c) (ys : List ByteArray) : ∀ (l : List ByteArray) (n : Nat),n≤l.length →
    (Foul (UInt8.ofNat c.toNat) ys→wloop (strOfNums [c]) ys l n=some none) ∧
    (¬ Foul (UInt8.ofNat c.toNat) ys→∃ m,wloop (strOfNums [c]) ys l n=some (some (l ++ ys,m))∧(l ++ ys).take m=if trimB ys=[] then l.take n else l ++ trimB ys):=by
  induction ys with
  | nil =>
    intro l n hn
    refine ⟨fun h=>?_,fun _=>⟨n,by simp [wloop],by simp [trimB]⟩⟩
    obtain ⟨y,hy,_⟩:=h
    cases hy
  | cons y r ih =>
    intro l n hn
    have h13:strings_Contains.f y (⟨#[13]⟩ : ByteArray)=some (decide ((13 : UInt8) ∈ y.data.toList)):=contains_one y 13 ⟨by decide,by decide⟩
    have he : (y.toList.isEmpty=true) ↔ y.data.toList=[]:=by rw [Lib.toList_data,List.isEmpty_iff]
    unfold wloop
    rw [contains_one y c hc,Option.bind_some,h13]
    by_cases h1 : UInt8.ofNat c.toNat ∈ y.data.toList
    · rw [if_pos (decide_eq_true h1)]
      exact ⟨fun _=>rfl,fun h=>absurd ⟨y,List.mem_cons_self, .inl h1⟩ h⟩
    rw [if_neg (by rw [decide_eq_true_eq]; exact h1),Option.bind_some]
    by_cases h2 : (13 : UInt8) ∈ y.data.toList
    · rw [if_pos (decide_eq_true h2)]
      exact ⟨fun _=>rfl,fun h=>absurd ⟨y,List.mem_cons_self, .inr h2⟩ h⟩
    rw [if_neg (by rw [decide_eq_true_eq]; exact h2)]
    have hf:Foul (UInt8.ofNat c.toNat) (y :: r) ↔ Foul (UInt8.ofNat c.toNat) r:=by
      constructor
      · rintro ⟨z,hz,h⟩
        rcases List.mem_cons.1 hz with rfl | hz
        · rcases h with h | h
          · exact absurd h h1
          · exact absurd h h2
        · exact ⟨z,hz,h⟩
      · rintro ⟨z,hz,h⟩
        exact ⟨z,List.mem_cons_of_mem _ hz,h⟩
    have hn1 : (if y.toList.isEmpty=true then n else l.length + 1)≤(l ++ [y]).length:=by
      rw [List.length_append,List.length_singleton]; split <;> omega
    obtain ⟨i1,i2⟩:=ih (l ++ [y]) _ hn1
    rw [hf]
    refine ⟨i1,fun h=>?_⟩
    obtain ⟨m,e1,e2⟩:=i2 h
    refine ⟨m,by rw [e1]; simp,?_⟩
    rw [show l ++ y :: r=l ++ [y] ++ r by simp,e2]
    by_cases ht : trimB r=[]
    · rw [if_pos ht]
      by_cases hy : y.data.toList=[]
      · have : trimB (y :: r)=[]:=by simp [trimB,ht,hy]
        rw [if_pos this,if_pos (he.2 hy),List.take_append_of_le_length hn]
      · have : trimB (y :: r)=[y]:=by simp [trimB,ht,hy]
        rw [this,if_neg (fun h=>hy (he.1 h)),if_neg (by simp),List.take_of_length_le (by simp)]
    · have : trimB (y :: r)=y :: trimB r:=by simp [trimB,ht]
      rw [if_neg ht,this,if_neg (by simp)]
      simp
open Classical in
/-- A head's segment, and why there is none. -/
noncomputable def writeOf (c c1 c2 c3 c4 : Int) (ys : List ByteArray) : ByteArray × Int :=
  if GoodS c c1 c2 c3 c4 then
    if Foul (UInt8.ofNat c.toNat) ys then (⟨#[]⟩,10)
    else (strOf (makeOf (UInt8.ofNat c.toNat) MSH ([strOfNums [c],strOfNums [c1,c2,c3,c4]].map (·.data.toList) ++ (trimB ys).map (·.data.toList))),0)
  else (⟨#[]⟩,11)
theorem head_bulk (c c1 c2 c3 c4 : Int) (ys : List ByteArray) : bulkOf ([strOfNums [c],strOfNums [c1,c2,c3,c4]] ++ ys)=7 + bulkOf ys:=by
  rw [bulk_append]
  simp [bulkOf,strOfNums]
  rfl
theorem Write_spec (k : Nat) (hk : 6≤k) (c c1 c2 c3 c4 : Int) (t5 t6 t7 t8 t9 t10 t11 t12 t13 t14 : ByteArray) (hb : bulkOf [t5,t6,t7,t8,t9,t10,t11,t12,t13,t14]≤1900000) (hc : IsByte c) (hc1 : IsByte c1) (hc2 : IsByte c2) (hc3 : IsByte c3) (hc4 : IsByte c4) :
    msh_Write.f k c c1 c2 c3 c4 t5 t6 t7 t8 t9 t10 t11 t12 t13 t14=some (writeOf c c1 c2 c3 c4 [t5,t6,t7,t8,t9,t10,t11,t12,t13,t14]):=by
  unfold msh_Write.f writeOf
  rw [Right_spec k hk c c1 c2 c3 c4 hc hc1 hc2 hc3 hc4,Option.bind_some]
  generalize [t5,t6,t7,t8,t9,t10,t11,t12,t13,t14]=ys at hb ⊢
  by_cases hg : GoodS c c1 c2 c3 c4
  · rw [if_pos (decide_eq_true hg),if_pos hg,show msh_others.f c c1 c2 c3 c4=some (strOfNums [c1,c2,c3,c4]) from rfl,Option.bind_some]
    obtain ⟨w1,w2⟩:=wloop_spec c hc ys [strOfNums [c],strOfNums [c1,c2,c3,c4]] 2 (Nat.le_refl 2)
    by_cases hf : Foul (UInt8.ofNat c.toNat) ys
    · rw [w1 hf,if_pos hf,Option.bind_some]
    · obtain ⟨m,e1,e2⟩:=w2 hf
      have e3 : ([strOfNums [c],strOfNums [c1,c2,c3,c4]] ++ ys).take m=[strOfNums [c],strOfNums [c1,c2,c3,c4]] ++ trimB ys:=by
        rw [e2]
        split
        · rename_i h; rw [h]; rfl
        · rfl
      have hbt:=trim_bulk ys
      rw [e1,if_neg hf,Option.bind_some]
      dsimp only
      rw [e3,show (⟨#[77,83,72]⟩ : ByteArray)=strOf MSH from rfl,Make_spec c c1 c2 c3 c4 MSH _ (by decide) (by rw [head_bulk]; omega),Option.bind_some,List.map_append]
  · rw [if_neg (by rw [decide_eq_true_eq]; exact hg),if_neg hg]
end Go.Proofs.YtljdbphojcglgaaDoor.Pure
