/- What msh.Read comes to, over lists of bytes; conditions: the numbers are bytes, texts of at most 2^47 bytes, fuel for a step each. -/
import Derived.Test.YtljdbphojcglgaaDoorPFx2
import Derived.Test.YtljdbphojcglgaaDoorPFx4
import Derived.Test.YtljdbphojcglgaaDoorPFx5
import Derived.Test.YtljdbphojcglgaaDoorSeg
import Derived.Test.YtljdbphojcglgaaDoorDelimRead
namespace Go.Proofs.YtljdbphojcglgaaDoor.Pure
open Go Go.RowKit Go.Proofs.YtljdbphojcglgaaDoor.PF Go.Proofs.YtljdbphojcglgaaDoorW.PrintWords Go.Proofs.YtljdbphojcglgaaDoorW.PrintLast

theorem MSplit_spec (b : List Int) (hb : b.length≤1000000000000) : segment_Split.f b=some ((segsOf (Lib.bytesOf b)).map strOf):=if_pos hb
/-- What is read of bytes: the signs, the texts, the error. -/
def readM (l : List Int) : Int × Int × Int × Int × Int × ByteArray × ByteArray × ByteArray × ByteArray × ByteArray × ByteArray × ByteArray × ByteArray × ByteArray × ByteArray × Int :=
  let d:=readS l
  if d.2.2.2.2.2=0 then
    let F:=fieldsOf (UInt8.ofNat d.1.toNat) ((segsOf (Lib.bytesOf l)).headD [])
    if nthOf F 2=Lib.bytesOf [d.2.1,d.2.2.1,d.2.2.2.1,d.2.2.2.2.1] then
      (d.1,d.2.1,d.2.2.1,d.2.2.2.1,d.2.2.2.2.1,strOf (nthOf F 3),strOf (nthOf F 4),strOf (nthOf F 5),strOf (nthOf F 6),strOf (nthOf F 7),strOf (nthOf F 8),strOf (nthOf F 9),strOf (nthOf F 10),strOf (nthOf F 11),strOf (nthOf F 12),0)
    else (0,0,0,0,0,strOf [],strOf [],strOf [],strOf [],strOf [],strOf [],strOf [],strOf [],strOf [],strOf [],11)
  else (0,0,0,0,0,strOf [],strOf [],strOf [],strOf [],strOf [],strOf [],strOf [],strOf [],strOf [],strOf [],d.2.2.2.2.2)
theorem segs_ne {b : List UInt8} (h : b.take 3=[77,83,72]) : segsOf b ≠ []:=by
  obtain ⟨t,rfl⟩ : ∃ t,b=77 :: 83 :: 72 :: t:=by
    match b,h with
    | x :: y :: z :: t,h=>simp at h; obtain ⟨rfl,rfl,rfl⟩:=h; exact ⟨t,rfl⟩
    | [],h=>simp at h
    | [_],h=>simp at h
    | [_,_],h=>simp at h
  obtain ⟨u,v,e⟩:=cutL_form 13 t
  have h2:cutL 13 (77 :: 83 :: 72 :: t)=(77 :: 83 :: 72 :: u) :: v:=by
    rw [cutL_miss (by decide),cutL_miss (by decide),cutL_miss (by decide),e]; rfl
  unfold segsOf
  rw [h2]
  split
  · rename_i h3
    intro h4
    cases v with
    | nil=>simp at h3
    | cons x v=>simp at h4
  · simp
theorem segs_part (b : List UInt8) : ((segsOf b).headD []).length≤b.length:=by
  have key : ∀ x ∈ segsOf b,x.length≤b.length:=by
    intro x hx
    refine cutL_part_le 13 b x ?_
    unfold segsOf at hx
    split at hx
    · exact List.dropLast_subset _ hx
    · exact hx
  cases h : segsOf b with
  | nil=>simp
  | cons x t=>exact key x (by rw [h]; simp)
theorem reads_msh {l : List Int} (h : (readS l).2.2.2.2.2=0) : Lib.bytesOf (l.take 3)=[77,83,72]:=by
  unfold readS at h
  split at h
  · simp at h
  · split at h
    · rename_i h2; exact h2.1
    · simp at h
theorem reads_bytes {l : List Int} (h : ∀ x ∈ l,IsByte x) : IsByte (readS l).1∧IsByte (readS l).2.1∧IsByte (readS l).2.2.1∧IsByte (readS l).2.2.2.1∧IsByte (readS l).2.2.2.2.1:=by
  have z:IsByte 0:=⟨by decide,by decide⟩
  unfold readS
  split
  · exact ⟨z,z,z,z,z⟩
  · split
    · exact ⟨rd_all h _,rd_all h _,rd_all h _,rd_all h _,rd_all h _⟩
    · exact ⟨z,z,z,z,z⟩
theorem bytesOf_take (l : List Int) (n : Nat) : Lib.bytesOf (l.take n)=(Lib.bytesOf l).take n:=by simp [Lib.bytesOf,List.map_take]
theorem MRead_spec (k : Nat) (hk : 6≤k) (l : List Int) (h : ∀ x ∈ l,IsByte x) (hl : l.length≤1000000000) : msh_Read.f k l=some (readM l):=by
  have hb:=reads_bytes h
  unfold msh_Read.f readM
  rw [Read_spec k hk l h,Option.bind_some]
  dsimp only
  by_cases he : (readS l).2.2.2.2.2=0
  · have hm:=reads_msh he
    rw [bytesOf_take] at hm
    have hne:=segs_ne hm
    obtain ⟨s,t,hst⟩ : ∃ s t,segsOf (Lib.bytesOf l)=s :: t:=by
      cases hs : segsOf (Lib.bytesOf l) with
      | nil=>exact absurd hs hne
      | cons s t=>exact ⟨s,t,rfl⟩
    have hsl:s.length≤1000000000:=by
      have:=segs_part (Lib.bytesOf l)
      rw [hst,bytesOf_len] at this
      exact Nat.le_trans this hl
    have hsz : (strOf s).size≤140737488355328:=by rw [strOf_size]; omega
    have hr:rdOf ByteArray.empty (strOf s :: t.map strOf) 0=strOf s:=rfl
    have F:=fun (n : Int) (hn : -9223372036854775807≤n∧n≤9223372036854775807)=>Field_spec (strOf s) n (readS l).1 (readS l).2.1 (readS l).2.2.1 (readS l).2.2.2.1 (readS l).2.2.2.2.1 hsz hb.1 hn
    simp only [strOf_data] at F
    rw [if_pos he,if_pos he,MSplit_spec l (by omega),Option.bind_some,hst,List.map_cons,if_pos (by simp),hr,F 2 (by decide),Option.bind_some]
    unfold msh_others.f
    rw [Option.bind_some,List.headD_cons]
    dsimp only
    rw [strOf_list,Lib.toList_data,str_data]
    by_cases hq : nthOf (fieldsOf (UInt8.ofNat (readS l).1.toNat) s) 2=Lib.bytesOf [(readS l).2.1,(readS l).2.2.1,(readS l).2.2.2.1,(readS l).2.2.2.2.1]
    · rw [if_pos hq,if_pos hq,F 3 (by decide),Option.bind_some,F 4 (by decide),Option.bind_some,F 5 (by decide),Option.bind_some,F 6 (by decide),Option.bind_some,F 7 (by decide),Option.bind_some,F 8 (by decide),Option.bind_some,
        F 9 (by decide),Option.bind_some,F 10 (by decide),Option.bind_some,F 11 (by decide),Option.bind_some,F 12 (by decide),Option.bind_some]
    · rw [if_neg hq,if_neg hq]
      rfl
  · rw [if_neg he,if_neg he]
    rfl
end Go.Proofs.YtljdbphojcglgaaDoor.Pure
