/- What delim.Read reads of any bytes; conditions: the numbers are bytes. -/
import Derived.Test.YtljdbphojcglgaaDoorPFx4
import Derived.Test.YtljdbphojcglgaaDoorDelim
namespace Go.Proofs.YtljdbphojcglgaaDoor.Pure
open Go Go.RowKit Go.Proofs.YtljdbphojcglgaaDoor.PF Go.Proofs.YtljdbphojcglgaaDoorW.PrintWords Go.Proofs.YtljdbphojcglgaaDoorW.PrintLast

def IsByte (a : Int) : Prop:=0≤a∧a≤255
theorem rd_all {l : List Int} (h : ∀ x ∈ l,IsByte x) (i : Int) : IsByte (rd l i):=by
  unfold rd
  rw [List.getD_eq_getElem?_getD]
  cases e : l[i.toNat]? with
  | none=>exact ⟨by decide,by decide⟩
  | some x=>exact h x (List.mem_of_getElem? e)
/-- What is read of bytes. -/
def readS (l : List Int) : Int × Int × Int × Int × Int × Int :=
  if (l.length : Int) < 9 then (0,0,0,0,0,7)
  else if Lib.bytesOf (l.take 3)=[77,83,72]∧GoodS (rd l 3) (rd l 4) (rd l 5) (rd l 6) (rd l 7)∧(rd l 8=rd l 3∨rd l 8=13) then (rd l 3,rd l 4,rd l 5,rd l 6,rd l 7,0)
  else (0,0,0,0,0,11)
theorem some_ite {α : Type} (p q : Prop) [Decidable p] [Decidable q] (g : Bool) (G : Prop) [Decidable G] (hg : g=decide G) (x y : α) :
    (if g=true then (if p then some x else if q then some x else some y) else some y)=some (if G∧(p∨q) then x else y):=by
  subst hg
  by_cases h1 : G
  · by_cases h2 : p
    · rw [if_pos (decide_eq_true h1),if_pos h2,if_pos ⟨h1, .inl h2⟩]
    · by_cases h3 : q
      · rw [if_pos (decide_eq_true h1),if_neg h2,if_pos h3,if_pos ⟨h1, .inr h3⟩]
      · rw [if_pos (decide_eq_true h1),if_neg h2,if_neg h3,if_neg (fun h=>h.2.elim h2 h3)]
  · rw [if_neg (fun h=>h1 (of_decide_eq_true h)),if_neg (fun h=>h1 h.1)]
theorem and_ite {α : Type} (p q : Prop) [Decidable p] [Decidable q] [Decidable (p∧q)] (x y : α) : (if p then some (if q then x else y) else some y)=some (if p∧q then x else y):=by
  by_cases h1 : p
  · by_cases h2 : q
    · rw [if_pos h1,if_pos h2,if_pos ⟨h1,h2⟩]
    · rw [if_pos h1,if_neg h2,if_neg (fun h=>h2 h.2)]
  · rw [if_neg h1,if_neg (fun h=>h1 h.1)]
theorem Read_spec (k : Nat) (hk : 6≤k) (l : List Int) (h : ∀ x ∈ l,IsByte x) : delim_Read.f k l=some (readS l):=by
  unfold delim_Read.f readS
  by_cases h9 : (l.length : Int) < 9
  · rw [if_pos h9,if_pos h9]
  · rw [if_neg h9,if_neg h9,Right_spec k hk _ _ _ _ _ (rd_all h _) (rd_all h _) (rd_all h _) (rd_all h _) (rd_all h _),Option.bind_some,some_ite _ _ _ _ rfl,and_ite]
end Go.Proofs.YtljdbphojcglgaaDoor.Pure
