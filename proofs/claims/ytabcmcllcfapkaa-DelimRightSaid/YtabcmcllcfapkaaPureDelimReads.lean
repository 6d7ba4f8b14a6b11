/- The law DelimReads as a statement over bytes: the signs that are read, whether signs may be, and what tells them are the document's; conditions: the numbers are bytes. -/
import Derived.Test.YtabcmcllcfapkaaPEx3
import Derived.Test.YtabcmcllcfapkaaPEx4
import Derived.Test.YtabcmcllcfapkaaPEx6
import Derived.Test.YtabcmcllcfapkaaPEx7
import Derived.Test.YtabcmcllcfapkaaPEx8
import Derived.Test.YtabcmcllcfapkaaDelim
namespace Go.Proofs.Ytabcmcllcfapkaa.Pure
open Go Go.RowKit Go.Proofs.Ytabcmcllcfapkaa.PE Go.Proofs.YtabcmcllcfapkaaW.PrintWords Go.Proofs.YtabcmcllcfapkaaW.PrintLast

def IsByte (a : Int) : Prop := 0 ≤ a ∧ a ≤ 255
theorem rd_all {l : List Int} (h : ∀ x ∈ l, IsByte x) (i : Int) : IsByte (rd l i) := by
  unfold rd
  rw [List.getD_eq_getElem?_getD]
  cases e : l[i.toNat]? with
  | none => exact ⟨by decide, by decide⟩
  | some x => exact h x (List.mem_of_getElem? e)
/-- What is read of bytes. -/
def readS (l : List Int) : Int × Int × Int × Int × Int × Int :=
  if (l.length : Int) < 9 then (0, 0, 0, 0, 0, 7)
  else if Lib.bytesOf (l.take 3) = [77, 83, 72] ∧ GoodS (rd l 3) (rd l 4) (rd l 5) (rd l 6) (rd l 7) ∧ (rd l 8 = rd l 3 ∨ rd l 8 = 13) then (rd l 3, rd l 4, rd l 5, rd l 6, rd l 7, 0)
  else (0, 0, 0, 0, 0, 11)
theorem some_ite {α : Type} (p q : Prop) [Decidable p] [Decidable q] (g : Bool) (G : Prop) [Decidable G] (hg : g = decide G) (x y : α) :
    (if g = true then (if p then some x else if q then some x else some y) else some y) = some (if G ∧ (p ∨ q) then x else y) := by
  subst hg
  by_cases h1 : G
  · by_cases h2 : p
    · rw [if_pos (decide_eq_true h1), if_pos h2, if_pos ⟨h1, .inl h2⟩]
    · by_cases h3 : q
      · rw [if_pos (decide_eq_true h1), if_neg h2, if_pos h3, if_pos ⟨h1, .inr h3⟩]
      · rw [if_pos (decide_eq_true h1), if_neg h2, if_neg h3, if_neg (fun h => h.2.elim h2 h3)]
  · rw [if_neg (fun h => h1 (of_decide_eq_true h)), if_neg (fun h => h1 h.1)]
theorem and_ite {α : Type} (p q : Prop) [Decidable p] [Decidable q] [Decidable (p ∧ q)] (x y : α) : (if p then some (if q then x else y) else some y) = some (if p ∧ q then x else y) := by
  by_cases h1 : p
  · by_cases h2 : q
    · rw [if_pos h1, if_pos h2, if_pos ⟨h1, h2⟩]
    · rw [if_pos h1, if_neg h2, if_neg (fun h => h2 h.2)]
  · rw [if_neg h1, if_neg (fun h => h1 h.1)]
theorem Read_spec (k : Nat) (hk : 6 ≤ k) (l : List Int) (h : ∀ x ∈ l, IsByte x) : delim_Read.f k l = some (readS l) := by
  unfold delim_Read.f readS
  by_cases h9 : (l.length : Int) < 9
  · rw [if_pos h9, if_pos h9]
  · rw [if_neg h9, if_neg h9, Right_spec k hk _ _ _ _ _ (rd_all h _) (rd_all h _) (rd_all h _) (rd_all h _) (rd_all h _), Option.bind_some, some_ite _ _ _ _ rfl, and_ite]
theorem refRead_spec (k : Nat) (hk : 51 ≤ k) (l : List Int) : lamplighterref06_Read.f k l = some (readS l) := by
  unfold lamplighterref06_Read.f readS
  rw [Lib.strOfNums_toList]
  by_cases h9 : (l.length : Int) < 9
  · rw [if_pos h9, if_pos h9]
  · rw [if_neg h9, if_neg h9, refRight_spec k hk, Option.bind_some, some_ite _ _ _ _ rfl, and_ite]
theorem alive_is (k : Nat) (hk : 6 ≤ k) : lamplighterlaw06_alive.f k = some true := by
  have b1 : ∀ x ∈ ([77, 83, 72, 124, 94, 126, 92, 38, 124] : List Int), IsByte x := by unfold IsByte; decide
  have b2 : ∀ x ∈ ([77, 83, 72, 124, 94, 94, 92, 38, 124] : List Int), IsByte x := by unfold IsByte; decide
  unfold lamplighterlaw06_alive.f cv_lit_77_83_72_124_94_126_92_38_124.f cv_lit_77_83_72_124_94_94_92_38_124.f
  rw [Option.bind_some, Read_spec k hk _ b1, Option.bind_some, Option.bind_some, Read_spec k hk _ b2, Option.bind_some]
  have e1 : readS [77, 83, 72, 124, 94, 126, 92, 38, 124] = (124, 94, 126, 92, 38, 0) := by decide
  have e2 : readS [77, 83, 72, 124, 94, 94, 92, 38, 124] = (0, 0, 0, 0, 0, 11) := by decide
  rw [e1, e2]
  rfl
theorem reads_at (n : Nat) (hn : 60 ≤ n) (l : List Int) (a b c d e : Int) (h : ∀ x ∈ l, IsByte x) (ha : IsByte a) (hb : IsByte b) (hc : IsByte c) (hd : IsByte d) (he : IsByte e) : lamplighterlaw06_DelimReads.f (n + 1) l a b c d e = some true := by
  unfold lamplighterlaw06_DelimReads.f
  have hW : delim_Write.f (n + 1) a b c d e = some (if GoodS a b c d e then ((⟨#[77, 83, 72]⟩ : ByteArray) ++ strOfNums [a, b, c, d, e], 0) else ((⟨#[]⟩ : ByteArray), 11)) := by
    unfold delim_Write.f delim_five.f
    rw [Right_spec _ (by omega) _ _ _ _ _ ha hb hc hd he, Option.bind_some]
    by_cases hg : GoodS a b c d e
    · rw [if_pos (decide_eq_true hg), if_pos hg, Option.bind_some]
      rfl
    · rw [if_neg (fun h => hg (of_decide_eq_true h)), if_neg hg]
  rw [alive_is _ (by omega), Read_spec _ (by omega) l h, refRead_spec _ (by omega) l, hW, Right_spec _ (by omega) _ _ _ _ _ ha hb hc hd he, refRight_spec _ (by omega)]
  simp only [Option.bind_some]
  by_cases h0 : (l.length : Int) > 3000
  · rw [if_pos h0]
  · rw [if_neg h0]
    simp only [beq_self_eq_true, Bool.not_true, Bool.or_false, Bool.false_eq_true, if_false, if_true, bne_self_eq_false]
    rw [lamplighterlaw06_DelimReads.j0, if_neg (by simp), refRight_spec _ (by omega), Option.bind_some]
    by_cases hg : GoodS a b c d e
    · rw [if_pos (decide_eq_true hg), if_pos hg, if_pos rfl]
      unfold lamplighterref06_Write.f lamplighterref06_five.f
      simp only [Option.bind_some]
      have e5 : (strOfNums [a, b, c, d, e]).size = 5 := rfl
      have q5 : 3 + (strOfNums [a, b, c, d, e]).size ≤ 9223372036854775807 := by rw [e5]; decide
      rw [if_pos q5]
      simp
    · rw [if_neg (fun h => hg (of_decide_eq_true h)), if_neg hg, if_pos rfl]
      have e0 : (⟨#[]⟩ : ByteArray).toList = [] := by rw [Lib.toList_data]
      simp only [e0]
      rfl
theorem DelimReads (l : List Int) (a b c d e : Int) (h : ∀ x ∈ l, IsByte x) (ha : IsByte a) (hb : IsByte b) (hc : IsByte c) (hd : IsByte d) (he : IsByte e) : ∃ k, lamplighterlaw06_DelimReads.f k l a b c d e = some true :=
  ⟨99 + 1, reads_at 99 (by decide) l a b c d e h ha hb hc hd he⟩
end Go.Proofs.Ytabcmcllcfapkaa.Pure
