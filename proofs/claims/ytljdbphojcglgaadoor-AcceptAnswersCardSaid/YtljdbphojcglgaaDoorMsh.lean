/- What msh.Check comes to, over lists of bytes; conditions: the numbers are bytes, texts of at most 2^47 bytes, and fuel for a step each. -/
import Derived.Test.YtljdbphojcglgaaDoorPFx6
import Derived.Test.YtljdbphojcglgaaDoorMshRead
import Derived.Test.YtljdbphojcglgaaDoorSegPart
import Derived.Test.YtljdbphojcglgaaDoorContains
import Derived.Test.YtljdbphojcglgaaDoorGlob
namespace Go.Proofs.YtljdbphojcglgaaDoor.Pure
open Go Go.RowKit Go.Proofs.YtljdbphojcglgaaDoor.PF Go.Proofs.YtljdbphojcglgaaDoorW.PrintWords Go.Proofs.YtljdbphojcglgaaDoorW.PrintLast

/-- A field's first component. -/
def firstOf (c1 c2 : UInt8) (s : List UInt8) : List UInt8:=nthOf (cutL c1 (nthOf (cutL c2 s) 1)) 1
theorem first_spec (s : ByteArray) (c c1 c2 c3 c4 : Int) (hs : s.size≤140737488355328) (hc1 : IsByte c1) (hc2 : IsByte c2) :
    msh_first.f s c c1 c2 c3 c4=some (strOf (firstOf (UInt8.ofNat c1.toNat) (UInt8.ofNat c2.toNat) s.data.toList)):=by
  unfold msh_first.f
  rw [Part_spec s 1 1 c c1 c2 c3 c4 hs hc2 hc1,Option.bind_some]
  have h : (1 : Int)≤1∧(1 : Int)≤((cutL (UInt8.ofNat c2.toNat) s.data.toList).length : Int):=⟨by decide,by have:=cutL_length_pos (UInt8.ofNat c2.toNat) s.data.toList; omega⟩
  first
    | rfl
    | (rw [if_pos h]; rfl)
    | (simp only [h]; rfl)
def procB : List (List UInt8):=[[80],[68],[84]]
/-- What is wrong with a head. -/
def checkOf (c1 c2 : UInt8) (kind id proc ver : List UInt8) : Int :=
  if kind=[]∨id=[]∨50 < id.length then 14 else if firstOf c1 c2 ver ∉ verB then 12 else if firstOf c1 c2 proc ∉ procB then 13 else 0
open Classical in
theorem Check_spec (k : Nat) (hk : 10 < k) (c c1 c2 c3 c4 : Int) (t5 t6 t7 t8 t9 t10 kind id proc ver : ByteArray) (hp : proc.size≤140737488355328) (hv : ver.size≤140737488355328) (hc1 : IsByte c1) (hc2 : IsByte c2) :
    msh_Check.f k c c1 c2 c3 c4 t5 t6 t7 t8 t9 t10 kind id proc ver=some (checkOf (UInt8.ofNat c1.toNat) (UInt8.ofNat c2.toNat) kind.data.toList id.data.toList proc.data.toList ver.data.toList):=by
  have hl:=len_size id
  have e0 : ∀ s : ByteArray,(s.toList.isEmpty=true) ↔ s.data.toList=[]:=fun s=>by rw [Lib.toList_data,List.isEmpty_iff]
  unfold msh_Check.f checkOf
  by_cases h1 : kind.data.toList=[]
  · rw [if_pos ((e0 _).2 h1),if_pos (.inl h1)]
  rw [if_neg (fun h=>h1 ((e0 _).1 h))]
  by_cases h2 : id.data.toList=[]
  · rw [if_pos ((e0 _).2 h2),if_pos (.inr (.inl h2))]
  rw [if_neg (fun h=>h2 ((e0 _).1 h))]
  by_cases h3 : (50 : Int) < (id.size : Int)
  · rw [if_pos h3,if_pos (.inr (.inr (by omega)))]
  have hn : ¬ (kind.data.toList=[]∨id.data.toList=[]∨50 < id.data.toList.length):=by
    rintro (h | h | h)
    · exact h1 h
    · exact h2 h
    · omega
  rw [if_neg h3,if_neg hn,first_spec ver c c1 c2 c3 c4 hv hc1 hc2,Option.bind_some,show (versL : List ByteArray)=verB.map strOf from rfl,contains_spec k (verB.map strOf) _ (by decide) (by show 10 < k; exact hk),Option.bind_some]
  by_cases h4 : firstOf (UInt8.ofNat c1.toNat) (UInt8.ofNat c2.toNat) ver.data.toList ∈ verB
  · rw [if_pos (decide_eq_true ((mem_texts verB _).2 h4)),if_neg (fun h=>h h4),first_spec proc c c1 c2 c3 c4 hp hc1 hc2,Option.bind_some]
    have hpl : ([⟨#[80]⟩,⟨#[68]⟩,⟨#[84]⟩] : List ByteArray)=procB.map strOf:=rfl
    rw [hpl,contains_spec k (procB.map strOf) _ (by decide) (by show 3 < k; omega),Option.bind_some]
    by_cases h5 : firstOf (UInt8.ofNat c1.toNat) (UInt8.ofNat c2.toNat) proc.data.toList ∈ procB
    · rw [if_pos (decide_eq_true ((mem_texts procB _).2 h5)),if_neg (fun h=>h h5)]
    · rw [if_neg (by rw [decide_eq_true_eq,mem_texts]; exact h5),if_pos h5]
  · rw [if_neg (by rw [decide_eq_true_eq]; exact fun h=>h4 ((mem_texts verB _).1 h)),if_pos h4]
end Go.Proofs.YtljdbphojcglgaaDoor.Pure
