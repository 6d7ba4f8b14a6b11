/- Merged of this work's texts SegMake, RefCut, RefParts, DelimRef, MshWrite: a claim may hold 60 files at most. -/
import Derived.Test.YtbkalgkjkcfplaaDoorPMx11
import Derived.Test.YtbkalgkjkcfplaaDoorPMx12
import Derived.Test.YtbkalgkjkcfplaaDoorPMx14
import Derived.Test.YtbkalgkjkcfplaaDoorM8
import Derived.Test.YtbkalgkjkcfplaaDoorPMx10
import Derived.Test.YtbkalgkjkcfplaaDoorCut
import Derived.Test.YtbkalgkjkcfplaaDoorStr
import Derived.Test.YtbkalgkjkcfplaaDoorPMx16
import Derived.Test.YtbkalgkjkcfplaaDoorPMx7
import Derived.Test.YtbkalgkjkcfplaaDoorPMx8
import Derived.Test.YtbkalgkjkcfplaaDoorPMx13
import Derived.Test.YtbkalgkjkcfplaaDoorPMx15
import Derived.Test.YtbkalgkjkcfplaaDoorPMx17
/- A segment made of a name and fields, the program's and the document's; conditions: at most 1048576 bytes and texts together. -/
namespace Go.Proofs.YtbkalgkjkcfplaaDoor
open Go Go.RowKit Go.Proofs.YtbkalgkjkcfplaaDoor.PM Go.Proofs.YtbkalgkjkcfplaaDoorW.PrintWords Go.Proofs.YtbkalgkjkcfplaaDoorW.PrintLast

/-! ### A segment of a name and fields -/
def makeOf (c : UInt8) (name : List UInt8) (l : List (List UInt8)) : List UInt8 :=
  if name = MSH then MSH ++ (l.take 2).flatten ++ ((l.drop 2).map (c :: ·)).flatten else name ++ (l.map (c :: ·)).flatten
theorem makeOf_nil (c : UInt8) (name : List UInt8) : makeOf c name [] = name := by
  unfold makeOf
  split
  · rename_i h; simp [h]
  · simp
theorem makeOf_snoc (c : UInt8) (name : List UInt8) (l : List (List UInt8)) (x : List UInt8) : makeOf c name (l ++ [x]) = makeOf c name l ++ (if name = MSH ∧ l.length ≤ 1 then x else c :: x) := by
  unfold makeOf
  by_cases h : name = MSH
  · rw [if_pos h, if_pos h]
    by_cases hl : l.length ≤ 1
    · rw [if_pos ⟨h, hl⟩, List.take_of_length_le (by simp; omega), List.take_of_length_le (by omega), List.drop_eq_nil_of_le (by simp; omega), List.drop_eq_nil_of_le (by omega)]
      simp
    · rw [if_neg (fun e => hl e.2), List.take_append_of_le_length (by omega), List.drop_append_of_le_length (by omega)]
      simp
  · rw [if_neg h, if_neg h, if_neg (fun e => h e.1)]
    simp
theorem tail_length (sep : List UInt8) (hsep : sep.length ≤ 1) (r : List ByteArray) : (Lib.joinTail sep (r.map (·.data.toList))).length ≤ bulkOf r := by
  induction r with
  | nil => simp [Lib.joinTail]
  | cons x r ih =>
    rw [bulk_cons]
    show (sep ++ x.data.toList ++ Lib.joinTail sep (r.map (·.data.toList))).length ≤ _
    rw [List.length_append, List.length_append, len_size]
    omega
theorem joins_spec (sep : List UInt8) (hsep : sep.length ≤ 1) (x : ByteArray) (r : List ByteArray) (hx : x.size ≤ 10000000) (hr : bulkOf r ≤ 10000000) :
    strings_Join.f (x :: r) (strOf sep) = some (strOf (x.data.toList ++ Lib.joinTail sep (r.map (·.data.toList)))) := by
  have h1 := bulk_length r
  have h2 := tail_length sep hsep r
  unfold strings_Join.f
  rw [List.map_cons, Lib.join_cons, strOf_data, if_pos ⟨by rw [List.length_cons]; omega, by rw [List.length_append, len_size]; omega⟩]
  rfl
theorem joins_nil (sep : ByteArray) : strings_Join.f [] sep = some (strOf []) := by
  unfold strings_Join.f
  rw [List.map_nil, Lib.join_nil, if_pos ⟨by simp, by simp⟩]
  rfl
theorem tail_one (c : UInt8) (l : List (List UInt8)) : Lib.joinTail [c] l = (l.map (c :: ·)).flatten := rfl
theorem tail_none (l : List (List UInt8)) : Lib.joinTail [] l = l.flatten := by
  unfold Lib.joinTail
  congr 1
  conv => rhs; rw [← List.map_id l]
  rfl
theorem take_joins (l : List ByteArray) (hl : bulkOf l ≤ 1048576) (n : Nat) : strings_Join.f (l.take n) (⟨#[]⟩ : ByteArray) = some (strOf (((l.map (·.data.toList)).take n).flatten)) := by
  have e : (⟨#[]⟩ : ByteArray) = strOf [] := rfl
  have hb : bulkOf (l.take n) ≤ 1048576 := by
    have := congrArg bulkOf (List.take_append_drop n l)
    rw [bulk_append] at this
    omega
  rw [e, ← List.map_take]
  cases ht : l.take n with
  | nil => rw [joins_nil]; rfl
  | cons x r =>
    rw [ht, bulk_cons] at hb
    rw [joins_spec [] (by simp) x r (by omega) (by omega), tail_none]
    rfl
theorem Make_spec (c c1 c2 c3 c4 : Int) (name : List UInt8) (l : List ByteArray) (hn : name.length ≤ 1000) (hl : bulkOf l ≤ 1048576) :
    segment_Make.f c c1 c2 c3 c4 (strOf name) l = some (strOf (makeOf (UInt8.ofNat c.toNat) name (l.map (·.data.toList)))) := by
  have hlen := bulk_length l
  have h1 : mn (l.length : Int) 2 = ((min l.length 2 : Nat) : Int) := by unfold mn; split <;> omega
  have hd := bulk_drop l (min l.length 2)
  have hdl := bulk_length (l.drop (min l.length 2))
  have hfl : (((l.map (·.data.toList)).take (min l.length 2)).flatten).length ≤ 1048576 := by
    have hb : bulkOf (l.take (min l.length 2)) ≤ 1048576 := by
      have := congrArg bulkOf (List.take_append_drop (min l.length 2) l)
      rw [bulk_append] at this
      omega
    rw [← List.map_take]
    refine Nat.le_trans ?_ hb
    generalize l.take (min l.length 2) = t
    induction t with
    | nil => simp
    | cons x t ih => rw [List.map_cons, List.flatten_cons, List.length_append, len_size, bulk_cons]; omega
  unfold segment_Make.f delim_Join.f makeOf
  rw [strOf_list, h1, Int.toNat_natCast, byte_str]
  by_cases hm : name = MSH
  · have q1 : ((min l.length 2 : Nat) : Int) ≤ (l.length : Int) := by omega
    have q2 : (strOf name).size + (strOf (((l.map (·.data.toList)).take (min l.length 2)).flatten)).size ≤ 9223372036854775807 := by rw [strOf_size, strOf_size]; omega
    rw [if_pos (show name = ([77, 83, 72] : List UInt8) from hm), if_pos (by omega), if_pos q1, take_joins l hl, Option.bind_some, if_pos q2, Option.bind_some, if_pos (by simp only [List.length_singleton]; omega), ← strOf_snoc,
      List.singleton_append, joins_spec [_] (by simp) _ _ (by rw [strOf_size, List.length_append]; omega) (by omega), Option.bind_some, Option.bind_some, strOf_data, tail_one, List.map_drop, if_pos hm, hm]
    have t1 : (l.map (·.data.toList)).take (min l.length 2) = (l.map (·.data.toList)).take 2 := by
      by_cases h2 : l.length ≤ 2
      · rw [List.take_of_length_le (by rw [List.length_map]; omega), List.take_of_length_le (by rw [List.length_map]; omega)]
      · congr 1; omega
    have t2 : (l.map (·.data.toList)).drop (min l.length 2) = (l.map (·.data.toList)).drop 2 := by
      by_cases h2 : l.length ≤ 2
      · rw [List.drop_eq_nil_of_le (by rw [List.length_map]; omega), List.drop_eq_nil_of_le (by rw [List.length_map]; omega)]
      · congr 1; omega
    rw [t1, t2]
  · rw [if_neg (show ¬ name = ([77, 83, 72] : List UInt8) from hm), Option.bind_some, if_pos (by simp only [List.length_singleton]; omega), List.singleton_append, joins_spec [_] (by simp) _ _ (by rw [strOf_size]; omega) (by omega), Option.bind_some, Option.bind_some,
      strOf_data, tail_one, if_neg hm]
theorem makeOf_length (c : UInt8) (name : List UInt8) (l : List ByteArray) : (makeOf c name (l.map (·.data.toList))).length ≤ name.length + bulkOf l := by
  have key : ∀ (t : List ByteArray), (makeOf c name (t.map (·.data.toList))).length ≤ name.length + bulkOf t := by
    intro t
    generalize hn : t.length = n
    induction n generalizing t with
    | zero =>
      obtain rfl := List.eq_nil_of_length_eq_zero hn
      rw [List.map_nil, makeOf_nil]; omega
    | succ n ih =>
      rcases List.eq_nil_or_concat t with rfl | ⟨t, x, rfl⟩
      · simp at hn
      · rw [List.concat_eq_append] at *
        have h1 := ih t (by simpa using hn)
        rw [List.map_append, List.map_singleton, makeOf_snoc, List.length_append, bulk_append, bulk_cons]
        have : (if name = MSH ∧ (t.map (·.data.toList)).length ≤ 1 then x.data.toList else c :: x.data.toList).length ≤ 1 + x.size := by
          split
          · rw [len_size]; omega
          · rw [List.length_cons, len_size]; omega
        omega
  exact key l
theorem refMake_loop (c c1 c2 c3 c4 : Int) (name : List UInt8) (l : List ByteArray) (hn : name.length ≤ 1000) (hl : bulkOf l ≤ 1048576) (d : Nat) : ∀ (k i : Nat), i ≤ l.length → l.length - i = d → d < k →
    lamplighterref08_Make.l0 k (strOf name) l (strOf (makeOf (UInt8.ofNat c.toNat) name ((l.take i).map (·.data.toList)))) i c c1 c2 c3 c4 = some (strOf (makeOf (UInt8.ofNat c.toNat) name (l.map (·.data.toList)))) := by
  have hlen := bulk_length l
  induction d with
  | zero =>
    intro k i hi hd hk
    obtain ⟨k, rfl⟩ : ∃ m, k = m + 1 := ⟨k - 1, by omega⟩
    have q : ¬ ((i : Int) < (l.length : Int)) := by omega
    rw [lamplighterref08_Make.l0, if_neg q, List.take_of_length_le (by omega)]
  | succ d ih =>
    intro k i hi hd hk
    obtain ⟨k, rfl⟩ : ∃ m, k = m + 1 := ⟨k - 1, by omega⟩
    have hlt : i < l.length := by omega
    have q : (i : Int) < (l.length : Int) := by omega
    have q0 : (0 : Int) ≤ (i : Int) := by omega
    have e := ih k (i + 1) (by omega) (by omega) (by omega)
    have ht : l.take (i + 1) = l.take i ++ [rdOf ByteArray.empty l (i : Int)] := by
      rw [List.take_succ_eq_append_getElem hlt]
      simp [rdOf, hlt]
    have hml := makeOf_length (UInt8.ofNat c.toNat) name (l.take i)
    have hb : bulkOf (l.take i) ≤ bulkOf l ∧ (rdOf ByteArray.empty l (i : Int)).size ≤ bulkOf l := by
      have h1 := congrArg bulkOf (List.take_append_drop i l)
      rw [bulk_append, drop_cons l i hlt, bulk_cons] at h1
      omega
    rw [ht, List.map_append, List.map_singleton, makeOf_snoc, List.length_map, List.length_take, Nat.min_eq_left (by omega)] at e
    have hi9 : i ≤ 1000000000 := by omega
    have hone : (strOfNums [c]).size = 1 := by rw [byte_str, strOf_size]; rfl
    have q1 : (strOf (makeOf (UInt8.ofNat c.toNat) name ((l.take i).map (·.data.toList)))).size + (strOfNums [c]).size ≤ 9223372036854775807 := by rw [hone, strOf_size]; omega
    have q2 : (strOf (makeOf (UInt8.ofNat c.toNat) name ((l.take i).map (·.data.toList))) ++ strOfNums [c]).size + (rdOf ByteArray.empty l (i : Int)).size ≤ 9223372036854775807 := by
      rw [ByteArray.size_append, hone, strOf_size]; omega
    have q3 : (strOf (makeOf (UInt8.ofNat c.toNat) name ((l.take i).map (·.data.toList)))).size + (rdOf ByteArray.empty l (i : Int)).size ≤ 9223372036854775807 := by rw [strOf_size]; omega
    have a1 : strOf (makeOf (UInt8.ofNat c.toNat) name ((l.take i).map (·.data.toList))) ++ strOfNums [c] ++ rdOf ByteArray.empty l (i : Int) =
        strOf (makeOf (UInt8.ofNat c.toNat) name ((l.take i).map (·.data.toList)) ++ UInt8.ofNat c.toNat :: (rdOf ByteArray.empty l (i : Int)).data.toList) := by
      rw [byte_str, ← strOf_of (rdOf ByteArray.empty l (i : Int)), ← strOf_snoc, ← strOf_snoc, strOf_data]
      simp
    have a2 : strOf (makeOf (UInt8.ofNat c.toNat) name ((l.take i).map (·.data.toList))) ++ rdOf ByteArray.empty l (i : Int) =
        strOf (makeOf (UInt8.ofNat c.toNat) name ((l.take i).map (·.data.toList)) ++ (rdOf ByteArray.empty l (i : Int)).data.toList) := by
      rw [strOf_snoc, strOf_of]
    rw [lamplighterref08_Make.l0, if_pos q, strOf_list, wrap_succ i hi9]
    by_cases hm : name = MSH
    · rw [if_pos (show name = ([77, 83, 72] : List UInt8) from hm)]
      by_cases h1 : (i : Int) > 1
      · have n1 : ¬ (name = MSH ∧ i ≤ 1) := fun h => by have := h.2; omega
        rw [if_neg n1] at e
        rw [if_pos h1, Option.bind_some, if_pos q1, if_pos q0, if_pos q2, a1]
        exact e
      · have n1 : i ≤ 1 := by omega
        rw [if_pos ⟨hm, n1⟩] at e
        rw [if_neg h1, if_pos q0, if_pos q3, a2]
        exact e
    · rw [if_neg (fun h => hm h.1)] at e
      rw [if_neg (show ¬ name = ([77, 83, 72] : List UInt8) from hm), Option.bind_some, if_pos q1, if_pos q0, if_pos q2, a1]
      exact e
theorem refMake_spec (k : Nat) (c c1 c2 c3 c4 : Int) (name : List UInt8) (l : List ByteArray) (hn : name.length ≤ 1000) (hl : bulkOf l ≤ 1048576) (hk : l.length < k) :
    lamplighterref08_Make.f k c c1 c2 c3 c4 (strOf name) l = some (strOf (makeOf (UInt8.ofNat c.toNat) name (l.map (·.data.toList)))) := by
  unfold lamplighterref08_Make.f
  have := refMake_loop c c1 c2 c3 c4 name l hn hl _ k 0 (by omega) rfl (by omega)
  rw [List.take_zero, List.map_nil, makeOf_nil] at this
  exact this
end Go.Proofs.YtbkalgkjkcfplaaDoor

/- The document's Cut as a law over bytes; condition: texts of at most 4000000000 bytes, and fuel for a step a byte. -/
namespace Go.Proofs.YtbkalgkjkcfplaaDoor
open Go Go.RowKit Go.Proofs.YtbkalgkjkcfplaaDoor.PM Go.Proofs.YtbkalgkjkcfplaaDoorW.PrintWords Go.Proofs.YtbkalgkjkcfplaaDoorW.PrintLast

/-- The loop of Cut. -/
theorem refCut_loop (s : ByteArray) (c : Int) (hs : s.size ≤ 4000000000) (hc : 0 ≤ c ∧ c ≤ 255) (d : Nat) :
    ∀ (k i : Nat), i ≤ s.size → s.size - i = d → d < k →
      lamplighterref06_Cut.l0 k s c ((cutL (UInt8.ofNat c.toNat) (s.data.toList.take i)).map strOf) i = some ((cutL (UInt8.ofNat c.toNat) s.data.toList).map strOf) := by
  have hl := len_size s
  induction d with
  | zero =>
    intro k i hi hd hk
    obtain ⟨k, rfl⟩ : ∃ m, k = m + 1 := ⟨k - 1, by omega⟩
    have q : ¬ ((i : Int) < (s.size : Int)) := by omega
    rw [lamplighterref06_Cut.l0, if_neg q, List.take_of_length_le (by omega)]
  | succ d ih =>
    intro k i hi hd hk
    obtain ⟨k, rfl⟩ : ∃ m, k = m + 1 := ⟨k - 1, by omega⟩
    have hlt : i < s.size := by omega
    have q : (i : Int) < (s.size : Int) := by omega
    have q0 : (0 : Int) ≤ (i : Int) := by omega
    have hw : wrap64 ((i : Int) + 1) = ((i + 1 : Nat) : Int) := by rw [wrap_fit (by omega) (by omega)]; rfl
    have hcl : (cutL (UInt8.ofNat c.toNat) (s.data.toList.take i)).length ≤ 4000000001 := by
      rw [cutL_length]
      have := List.count_le_length (a := UInt8.ofNat c.toNat) (l := s.data.toList.take i)
      rw [List.length_take] at this
      omega
    have hpos := cutL_length_pos (UInt8.ofNat c.toNat) (s.data.toList.take i)
    rw [lamplighterref06_Cut.l0, if_pos q, if_pos q0, hw]
    by_cases h : s.data.toList[i]'(by omega) = UInt8.ofNat c.toNat
    · have q1 : ((cutL (UInt8.ofNat c.toNat) (s.data.toList.take i)).map strOf).length < 8796093022208 := by rw [List.length_map]; omega
      rw [if_pos ((bt_list s i hlt c hc).2 h), if_pos q1]
      rw [← ih k (i + 1) (by omega) (by omega) (by omega), take_one _ _ (by omega), h, cutL_snoc_hit, List.map_append]
      rfl
    · have ew : wrap64 ((((cutL (UInt8.ofNat c.toNat) (s.data.toList.take i)).map strOf).length : Int) - 1) = (((cutL (UInt8.ofNat c.toNat) (s.data.toList.take i)).length - 1 : Nat) : Int) := by
        rw [List.length_map, wrap_fit (by omega) (by omega)]; omega
      have q2 : (0 : Int) ≤ (((cutL (UInt8.ofNat c.toNat) (s.data.toList.take i)).length - 1 : Nat) : Int) := by omega
      have q3 : (((cutL (UInt8.ofNat c.toNat) (s.data.toList.take i)).length - 1 : Nat) : Int) < (((cutL (UInt8.ofNat c.toNat) (s.data.toList.take i)).map strOf).length : Int) := by rw [List.length_map]; omega
      have q4 : (i : Int) ≤ ((i + 1 : Nat) : Int) := by omega
      have q5 : ((i + 1 : Nat) : Int) ≤ (s.size : Int) := by omega
      have e1 : s.extract (i : Int).toNat ((i + 1 : Nat) : Int).toNat = strOf [s.data.toList[i]'(by omega)] := by
        apply bytes_eq
        rw [Lib.extract_data, strOf_data, Int.toNat_natCast, Int.toNat_natCast, Nat.add_sub_cancel_left, List.drop_eq_getElem_cons (by omega)]
        rfl
      have e2 : rdOf ByteArray.empty ((cutL (UInt8.ofNat c.toNat) (s.data.toList.take i)).map strOf) (((cutL (UInt8.ofNat c.toNat) (s.data.toList.take i)).length - 1 : Nat) : Int) = strOf ((cutL (UInt8.ofNat c.toNat) (s.data.toList.take i)).getLastD []) := by
        unfold rdOf
        rw [Int.toNat_natCast, List.getD_eq_getElem?_getD, List.getElem?_map, List.getLastD_eq_getLast?, List.getLast?_eq_getElem?]
        cases h5 : (cutL (UInt8.ofNat c.toNat) (s.data.toList.take i))[(cutL (UInt8.ofNat c.toNat) (s.data.toList.take i)).length - 1]? with
        | none => rw [List.getElem?_eq_none_iff] at h5; omega
        | some x => rfl
      have hlast : ((cutL (UInt8.ofNat c.toNat) (s.data.toList.take i)).getLastD []).length ≤ i := by
        rw [List.getLastD_eq_getLast?]
        cases h5 : (cutL (UInt8.ofNat c.toNat) (s.data.toList.take i)).getLast? with
        | none => simp
        | some x =>
          have := cutL_part_le (UInt8.ofNat c.toNat) (s.data.toList.take i) x (List.mem_of_getLast? h5)
          rw [List.length_take] at this
          show x.length ≤ i
          omega
      have q6 : (strOf ((cutL (UInt8.ofNat c.toNat) (s.data.toList.take i)).getLastD [])).size + (strOf [s.data.toList[i]'(by omega)]).size ≤ 9223372036854775807 := by
        rw [strOf_size, strOf_size, List.length_singleton]; omega
      rw [if_neg (fun e => h ((bt_list s i hlt c hc).1 e)), ew, if_pos q2, if_pos q3, if_pos q4, if_pos q5, e1, e2, if_pos q6]
      rw [← ih k (i + 1) (by omega) (by omega) (by omega), take_one _ _ (by omega), cutL_snoc_miss h, List.map_append]
      congr 1
      rw [Int.toNat_natCast]
      obtain ⟨a, b, e⟩ : ∃ a b, cutL (UInt8.ofNat c.toNat) (s.data.toList.take i) = a ++ [b] := ⟨_, _, (List.dropLast_concat_getLast (cutL_ne _ _)).symm⟩
      rw [e]
      simp only [List.map_append, List.map_cons, List.map_nil, List.length_append, List.length_cons, List.length_nil, Nat.zero_add, Nat.add_sub_cancel, List.dropLast_concat, List.getLastD_concat]
      rw [List.set_append_right _ _ (by rw [List.length_map]; exact Nat.le_refl _), List.length_map, Nat.sub_self]
      rw [List.set_cons_zero, strOf_snoc]
theorem refCut_spec (k : Nat) (s : ByteArray) (c : Int) (hs : s.size ≤ 4000000000) (hc : 0 ≤ c ∧ c ≤ 255) (hk : s.size < k) :
    lamplighterref06_Cut.f k s c = some ((cutL (UInt8.ofNat c.toNat) s.data.toList).map strOf) := by
  unfold lamplighterref06_Cut.f
  exact refCut_loop s c hs hc s.size k 0 (by omega) (by omega) hk
end Go.Proofs.YtbkalgkjkcfplaaDoor

/- The document's repetitions and components of a field; condition: fuel for a step each. -/
namespace Go.Proofs.YtbkalgkjkcfplaaDoor
open Go Go.RowKit Go.Proofs.YtbkalgkjkcfplaaDoor.PM Go.Proofs.YtbkalgkjkcfplaaDoorW.PrintWords Go.Proofs.YtbkalgkjkcfplaaDoorW.PrintLast

theorem refAgains_spec (k : Nat) (s : ByteArray) (c c1 c2 c3 c4 : Int) (hs : s.size ≤ 4000000000) (hc : 0 ≤ c2 ∧ c2 ≤ 255) (hk : s.size < k) :
    lamplighterref08_Agains.f k s c c1 c2 c3 c4 = some ((cutL (UInt8.ofNat c2.toNat) s.data.toList).map strOf) := by
  unfold lamplighterref08_Agains.f
  rw [refCut_spec k s c2 hs hc hk]; rfl
theorem nthOf_get (l : List (List UInt8)) (n : Int) (h : 1 ≤ n) : rdOf ByteArray.empty (l.map strOf) (n - 1) = strOf (nthOf l n) := by
  unfold rdOf nthOf
  rw [if_pos h, List.getD_eq_getElem?_getD, List.getElem?_map, List.getD_eq_getElem?_getD]
  cases l[(n - 1).toNat]? <;> rfl
theorem refParts_spec (k : Nat) (s : ByteArray) (n c c1 c2 c3 c4 : Int) (hs : s.size ≤ 4000000000) (hn : -9223372036854775807 ≤ n ∧ n ≤ 9223372036854775807) (hc : 0 ≤ c2 ∧ c2 ≤ 255) (hc1 : 0 ≤ c1 ∧ c1 ≤ 255) (hk : s.size < k) :
    lamplighterref08_Parts.f k s n c c1 c2 c3 c4 = some (if 1 ≤ n ∧ n ≤ ((cutL (UInt8.ofNat c2.toNat) s.data.toList).length : Int) then (cutL (UInt8.ofNat c1.toNat) (nthOf (cutL (UInt8.ofNat c2.toNat) s.data.toList) n)).map strOf else []) := by
  unfold lamplighterref08_Parts.f
  rw [refAgains_spec k s c c1 c2 c3 c4 hs hc hk, Option.bind_some]
  by_cases h1 : n < 1
  · have q : ¬ (1 ≤ n ∧ n ≤ ((cutL (UInt8.ofNat c2.toNat) s.data.toList).length : Int)) := by omega
    rw [if_pos h1, if_neg q]
  · rw [if_neg h1, List.length_map]
    by_cases h2 : n > ((cutL (UInt8.ofNat c2.toNat) s.data.toList).length : Int)
    · have q : ¬ (1 ≤ n ∧ n ≤ ((cutL (UInt8.ofNat c2.toNat) s.data.toList).length : Int)) := by omega
      rw [if_pos h2, if_neg q]
    · have q : 1 ≤ n ∧ n ≤ ((cutL (UInt8.ofNat c2.toNat) s.data.toList).length : Int) := by omega
      have hw : wrap64 (n - 1) = n - 1 := wrap_fit (by omega) (by omega)
      have q1 : 0 ≤ n - 1 := by omega
      have q2 : n - 1 < ((cutL (UInt8.ofNat c2.toNat) s.data.toList).length : Int) := by omega
      have h3 := nthOf_le (UInt8.ofNat c2.toNat) s.data.toList n
      rw [len_size] at h3
      rw [if_neg h2, hw, if_pos q1, if_pos q2, nthOf_get _ _ (by omega), refCut_spec k _ c1 (by rw [strOf_size]; omega) hc1 (by rw [strOf_size]; omega), if_pos q, strOf_data]
      rfl
end Go.Proofs.YtbkalgkjkcfplaaDoor

/- What the document's Right answers, as a law over five bytes; condition: fuel for a step each. -/
namespace Go.Proofs.YtbkalgkjkcfplaaDoor
open Go Go.RowKit Go.Proofs.YtbkalgkjkcfplaaDoor.PM Go.Proofs.YtbkalgkjkcfplaaDoorW.PrintWords Go.Proofs.YtbkalgkjkcfplaaDoorW.PrintLast

theorem sign_spec (c : Int) : lamplighterref06_sign.f c = some (decide (OkS c)) := by
  have hO : OkS c ↔ (33 ≤ c ∧ c ≤ 126 ∧ ¬ (65 ≤ c ∧ c ≤ 90) ∧ ¬ (97 ≤ c ∧ c ≤ 122) ∧ ¬ (48 ≤ c ∧ c ≤ 57)) := Iff.rfl
  unfold lamplighterref06_sign.f
  by_cases h57 : c ≤ 57
  all_goals (simp only [h57, decide_true, decide_false, Bool.not_true, Bool.not_false])
  all_goals (repeat' split)
  all_goals first
    | exact congrArg some (decide_eq_false (fun h => by have := hO.1 h; omega)).symm
    | exact congrArg some (decide_eq_true (hO.2 (by omega))).symm
theorem ref_inner {l : List Int} (hb : l.length = 5) (i : Nat) (hi : i < 5) (D : Nat) (b : Bool) (H : ∀ k, D ≤ k → lamplighterref06_Right.l0 k l ((i + 1 : Nat) : Int) = some b) (d : Nat) :
    ∀ (k j : Nat), j ≤ i → i - j = d → D + d + 1 ≤ k → lamplighterref06_Right.l1 k l i j = some (decide (∀ m, m < i → j ≤ m → rd l m ≠ rd l i) && b) := by
  have hw1 : wrap64 ((i : Int) + 1) = ((i + 1 : Nat) : Int) := by unfold wrap64; omega
  induction d with
  | zero =>
    intro k j hj hd hk
    obtain ⟨k, rfl⟩ : ∃ m, k = m + 1 := ⟨k - 1, by omega⟩
    have q : ¬ ((j : Int) < (i : Int)) := by omega
    have q1 : ∀ m, m < i → j ≤ m → rd l m ≠ rd l i := fun m h1 h2 => by omega
    rw [lamplighterref06_Right.l1, if_neg q, hw1, H k (by omega), decide_eq_true q1]
    rfl
  | succ d ih =>
    intro k j hj hd hk
    obtain ⟨k, rfl⟩ : ∃ m, k = m + 1 := ⟨k - 1, by omega⟩
    have q : (j : Int) < (i : Int) := by omega
    have q0 : (0 : Int) ≤ (j : Int) := by omega
    have q1 : (j : Int) < (l.length : Int) := by rw [hb]; omega
    have q2 : (0 : Int) ≤ (i : Int) := by omega
    have q3 : (i : Int) < (l.length : Int) := by rw [hb]; omega
    have hw : wrap64 ((j : Int) + 1) = ((j + 1 : Nat) : Int) := by unfold wrap64; omega
    rw [lamplighterref06_Right.l1, if_pos q, if_pos q0, if_pos q1, if_pos q2, if_pos q3, hw, ih k (j + 1) (by omega) (by omega) (by omega)]
    by_cases e : rd l j = rd l i
    · have q4 : ¬ ∀ m, m < i → j ≤ m → rd l m ≠ rd l i := fun h => h j (by omega) (Nat.le_refl _) e
      rw [if_pos e, decide_eq_false q4]
      rfl
    · rw [if_neg e]
      congr 2
      rw [decide_eq_decide]
      constructor
      · intro h m hm hj2
        by_cases e2 : m = j
        · subst e2; exact e
        · exact h m hm (by omega)
      · intro h m hm hj2
        exact h m hm (by omega)
theorem ref_loop {l : List Int} (hb : l.length = 5) (d : Nat) : ∀ (k i : Nat), i ≤ 5 → 5 - i = d → 10 * d + 1 ≤ k → lamplighterref06_Right.l0 k l i = some (decide (FitFrom l i)) := by
  induction d with
  | zero =>
    intro k i hi hd hk
    obtain ⟨k, rfl⟩ : ∃ m, k = m + 1 := ⟨k - 1, by omega⟩
    have q : ¬ ((i : Int) < 5) := by omega
    have q1 : FitFrom l i := fun j hj hij => by omega
    rw [lamplighterref06_Right.l0, if_neg q, decide_eq_true q1]
  | succ d ih =>
    intro k i hi hd hk
    obtain ⟨k, rfl⟩ : ∃ m, k = m + 1 := ⟨k - 1, by omega⟩
    have hi5 : i < 5 := by omega
    have q : (i : Int) < 5 := by omega
    have q0 : (0 : Int) ≤ (i : Int) := by omega
    have q1 : (i : Int) < (l.length : Int) := by rw [hb]; omega
    have hfs := fit_step (l := l) hi5
    have hF : Fit l i ↔ OkS (rd l i) ∧ ∀ m, m < i → rd l m ≠ rd l i := Iff.rfl
    rw [lamplighterref06_Right.l0, if_pos q, if_pos q0, if_pos q1, sign_spec, Option.bind_some]
    by_cases ho : OkS (rd l i)
    · have h0 : ((0 : Nat) : Int) = 0 := rfl
      have := ref_inner hb i hi5 (10 * d + 1) (decide (FitFrom l (i + 1))) (fun k hk => ih k (i + 1) (by omega) (by omega) hk) i k 0 (by omega) (by omega) (by omega)
      rw [h0] at this
      rw [if_pos (decide_eq_true ho), this, ← Bool.decide_and]
      congr 1
      rw [decide_eq_decide, hfs, hF]
      constructor
      · intro h
        exact ⟨⟨ho, fun m hm => h.1 m hm (Nat.zero_le _)⟩, h.2⟩
      · intro h
        exact ⟨fun m hm _ => h.1.2 m hm, h.2⟩
    · rw [if_neg (fun h => ho (of_decide_eq_true h)), eq_comm]
      congr 1
      rw [decide_eq_false_iff_not, hfs, hF]
      intro h
      exact ho h.1.1
theorem refRight_spec (k : Nat) (hk : 51 ≤ k) (a b c d e : Int) : lamplighterref06_Right.f k a b c d e = some (decide (GoodS a b c d e)) := by
  unfold lamplighterref06_Right.f lamplighterref06_five.f
  rw [Option.bind_some]
  exact ref_loop rfl 5 k 0 (by omega) rfl (by omega)
end Go.Proofs.YtbkalgkjkcfplaaDoor

/- What msh.Write and the document's writing and checking of a head come to, over lists of bytes; conditions: texts of at most 3000 bytes together, and fuel for a step each. -/
namespace Go.Proofs.YtbkalgkjkcfplaaDoor.Pure
open Go Go.RowKit Go.Proofs.YtbkalgkjkcfplaaDoor.PM Go.Proofs.YtbkalgkjkcfplaaDoorW.PrintWords Go.Proofs.YtbkalgkjkcfplaaDoorW.PrintLast

theorem ite_iff {α : Type} {p q : Prop} [Decidable p] [Decidable q] (h : p ↔ q) (x y : α) : (if p then x else y) = if q then x else y := by
  by_cases hp : p
  · rw [if_pos hp, if_pos (h.1 hp)]
  · rw [if_neg hp, if_neg (fun hq => hp (h.2 hq))]
theorem contains_one (s : ByteArray) (c : Int) (hc : IsByte c) : strings_Contains.f s (strOfNums [c]) = some (decide (UInt8.ofNat c.toNat ∈ s.data.toList)) := by
  have e : stringslite_Index.f s (strOfNums [c]) = some (Lib.indexByte s.data.toList (UInt8.ofNat c.toNat)) := by
    have hb : bt (strOf [UInt8.ofNat c.toNat]) 0 = ((UInt8.ofNat c.toNat).toNat : Int) := rfl
    have ht : ((UInt8.ofNat c.toNat).toNat : Int) = c := by
      have := hc.1; have := hc.2
      simp; omega
    unfold stringslite_Index.f
    rw [byte_str, if_pos (by rw [strOf_size]; rfl), hb, ht]
    rfl
  unfold strings_Contains.f strings_Index.f
  rw [e, Option.bind_some, Option.bind_some]
  congr 1
  rw [decide_eq_decide]
  by_cases h : UInt8.ofNat c.toNat ∈ s.data.toList
  · obtain ⟨a, b, e2, ha⟩ := first_hit h
    rw [e2, indexByte_hit ha b]
    refine ⟨fun _ => ?_, fun _ => by omega⟩
    simp
  · rw [indexByte_miss h]
    exact ⟨fun h2 => absurd h2 (by decide), fun h2 => absurd h2 h⟩
/-- The texts without the empty ones at their end. -/
def trimB : List ByteArray → List ByteArray
  | [] => []
  | y :: r => if trimB r = [] ∧ y.data.toList = [] then [] else y :: trimB r
theorem trim_snoc_empty (l : List ByteArray) (y : ByteArray) (h : y.data.toList = []) : trimB (l ++ [y]) = trimB l := by
  induction l with
  | nil => simp [trimB, h]
  | cons x l ih => simp only [List.cons_append, trimB, ih]
theorem trim_snoc_full (l : List ByteArray) (y : ByteArray) (h : y.data.toList ≠ []) : trimB (l ++ [y]) = l ++ [y] := by
  induction l with
  | nil => simp [trimB, h]
  | cons x l ih => simp only [List.cons_append, trimB, ih]; simp
theorem trim_length (l : List ByteArray) : (trimB l).length ≤ l.length := by
  induction l with
  | nil => simp [trimB]
  | cons x l ih =>
    unfold trimB
    split
    · simp
    · simp only [List.length_cons]; omega
theorem trim_bulk (l : List ByteArray) : bulkOf (trimB l) ≤ bulkOf l := by
  induction l with
  | nil => simp [trimB]
  | cons x l ih =>
    unfold trimB
    split
    · simp [bulkOf]
    · rw [bulk_cons, bulk_cons]; omega
/-- Has a text a byte that may not stand in a field? -/
def Foul (c : UInt8) (ys : List ByteArray) : Prop := ∃ y ∈ ys, c ∈ y.data.toList ∨ 13 ∈ y.data.toList
open Classical in
theorem wloop_spec (c : Int) (hc : IsByte c) (ys : List ByteArray) : ∀ (l : List ByteArray) (n : Nat), n ≤ l.length →
    (Foul (UInt8.ofNat c.toNat) ys → wloop (strOfNums [c]) ys l n = some none) ∧
    (¬ Foul (UInt8.ofNat c.toNat) ys → ∃ m, wloop (strOfNums [c]) ys l n = some (some (l ++ ys, m)) ∧ (l ++ ys).take m = if trimB ys = [] then l.take n else l ++ trimB ys) := by
  induction ys with
  | nil =>
    intro l n hn
    refine ⟨fun h => ?_, fun _ => ⟨n, by simp [wloop], by simp [trimB]⟩⟩
    obtain ⟨y, hy, _⟩ := h
    cases hy
  | cons y r ih =>
    intro l n hn
    have h13 : strings_Contains.f y (⟨#[13]⟩ : ByteArray) = some (decide ((13 : UInt8) ∈ y.data.toList)) := contains_one y 13 ⟨by decide, by decide⟩
    have he : (y.toList.isEmpty = true) ↔ y.data.toList = [] := by rw [Lib.toList_data, List.isEmpty_iff]
    unfold wloop
    rw [contains_one y c hc, Option.bind_some, h13]
    by_cases h1 : UInt8.ofNat c.toNat ∈ y.data.toList
    · rw [if_pos (decide_eq_true h1)]
      exact ⟨fun _ => rfl, fun h => absurd ⟨y, List.mem_cons_self, .inl h1⟩ h⟩
    rw [if_neg (by rw [decide_eq_true_eq]; exact h1), Option.bind_some]
    by_cases h2 : (13 : UInt8) ∈ y.data.toList
    · rw [if_pos (decide_eq_true h2)]
      exact ⟨fun _ => rfl, fun h => absurd ⟨y, List.mem_cons_self, .inr h2⟩ h⟩
    rw [if_neg (by rw [decide_eq_true_eq]; exact h2)]
    have hf : Foul (UInt8.ofNat c.toNat) (y :: r) ↔ Foul (UInt8.ofNat c.toNat) r := by
      constructor
      · rintro ⟨z, hz, h⟩
        rcases List.mem_cons.1 hz with rfl | hz
        · rcases h with h | h
          · exact absurd h h1
          · exact absurd h h2
        · exact ⟨z, hz, h⟩
      · rintro ⟨z, hz, h⟩
        exact ⟨z, List.mem_cons_of_mem _ hz, h⟩
    have hn1 : (if y.toList.isEmpty = true then n else l.length + 1) ≤ (l ++ [y]).length := by
      rw [List.length_append, List.length_singleton]; split <;> omega
    obtain ⟨i1, i2⟩ := ih (l ++ [y]) _ hn1
    rw [hf]
    refine ⟨i1, fun h => ?_⟩
    obtain ⟨m, e1, e2⟩ := i2 h
    refine ⟨m, by rw [e1]; simp, ?_⟩
    rw [show l ++ y :: r = l ++ [y] ++ r by simp, e2]
    by_cases ht : trimB r = []
    · rw [if_pos ht]
      by_cases hy : y.data.toList = []
      · have : trimB (y :: r) = [] := by simp [trimB, ht, hy]
        rw [if_pos this, if_pos (he.2 hy), List.take_append_of_le_length hn]
      · have : trimB (y :: r) = [y] := by simp [trimB, ht, hy]
        rw [this, if_neg (fun h => hy (he.1 h)), if_neg (by simp), List.take_of_length_le (by simp)]
    · have : trimB (y :: r) = y :: trimB r := by simp [trimB, ht]
      rw [if_neg ht, this, if_neg (by simp)]
      simp
open Classical in
/-- A head's segment, and why there is none. -/
noncomputable def writeOf (c c1 c2 c3 c4 : Int) (ys : List ByteArray) : ByteArray × Int :=
  if GoodS c c1 c2 c3 c4 then
    if Foul (UInt8.ofNat c.toNat) ys then (⟨#[]⟩, 10)
    else (strOf (makeOf (UInt8.ofNat c.toNat) MSH ([strOfNums [c], strOfNums [c1, c2, c3, c4]].map (·.data.toList) ++ (trimB ys).map (·.data.toList))), 0)
  else (⟨#[]⟩, 11)
theorem head_bulk (c c1 c2 c3 c4 : Int) (ys : List ByteArray) : bulkOf ([strOfNums [c], strOfNums [c1, c2, c3, c4]] ++ ys) = 7 + bulkOf ys := by
  rw [bulk_append]
  simp [bulkOf, strOfNums]
  rfl
theorem Write_spec (k : Nat) (hk : 6 ≤ k) (c c1 c2 c3 c4 : Int) (t5 t6 t7 t8 t9 t10 t11 t12 t13 t14 : ByteArray) (hb : bulkOf [t5, t6, t7, t8, t9, t10, t11, t12, t13, t14] ≤ 10000) (hc : IsByte c) (hc1 : IsByte c1) (hc2 : IsByte c2) (hc3 : IsByte c3) (hc4 : IsByte c4) :
    msh_Write.f k c c1 c2 c3 c4 t5 t6 t7 t8 t9 t10 t11 t12 t13 t14 = some (writeOf c c1 c2 c3 c4 [t5, t6, t7, t8, t9, t10, t11, t12, t13, t14]) := by
  unfold msh_Write.f writeOf
  rw [Right_spec k hk c c1 c2 c3 c4 hc hc1 hc2 hc3 hc4, Option.bind_some]
  generalize [t5, t6, t7, t8, t9, t10, t11, t12, t13, t14] = ys at hb ⊢
  by_cases hg : GoodS c c1 c2 c3 c4
  · rw [if_pos (decide_eq_true hg), if_pos hg, show msh_others.f c c1 c2 c3 c4 = some (strOfNums [c1, c2, c3, c4]) from rfl, Option.bind_some]
    obtain ⟨w1, w2⟩ := wloop_spec c hc ys [strOfNums [c], strOfNums [c1, c2, c3, c4]] 2 (Nat.le_refl 2)
    by_cases hf : Foul (UInt8.ofNat c.toNat) ys
    · rw [w1 hf, if_pos hf, Option.bind_some]
    · obtain ⟨m, e1, e2⟩ := w2 hf
      have e3 : ([strOfNums [c], strOfNums [c1, c2, c3, c4]] ++ ys).take m = [strOfNums [c], strOfNums [c1, c2, c3, c4]] ++ trimB ys := by
        rw [e2]
        split
        · rename_i h; rw [h]; rfl
        · rfl
      have hbt := trim_bulk ys
      rw [e1, if_neg hf, Option.bind_some]
      dsimp only
      rw [e3, show (⟨#[77, 83, 72]⟩ : ByteArray) = strOf MSH from rfl, Make_spec c c1 c2 c3 c4 MSH _ (by decide) (by rw [head_bulk]; omega), Option.bind_some, List.map_append]
  · rw [if_neg (by rw [decide_eq_true_eq]; exact hg), if_neg hg]

/-! ### The document's writing -/
theorem rd_mem (l : List ByteArray) (i : Nat) (h : i < l.length) : rdOf ByteArray.empty l (i : Int) = l[i] := by
  unfold rdOf
  rw [Int.toNat_natCast, List.getD_eq_getElem?_getD, List.getElem?_eq_getElem h]
  rfl
theorem foul_drop (c : UInt8) (ys : List ByteArray) (i : Nat) (h : i < ys.length) : Foul c (ys.drop i) ↔ ((c ∈ (rdOf ByteArray.empty ys (i : Int)).data.toList ∨ 13 ∈ (rdOf ByteArray.empty ys (i : Int)).data.toList) ∨ Foul c (ys.drop (i + 1))) := by
  rw [drop_cons ys i h]
  unfold Foul
  constructor
  · rintro ⟨y, hy, hf⟩
    rcases List.mem_cons.1 hy with rfl | hy
    · exact .inl hf
    · exact .inr ⟨y, hy, hf⟩
  · rintro (hf | ⟨y, hy, hf⟩)
    · exact ⟨_, List.mem_cons_self, hf⟩
    · exact ⟨y, List.mem_cons_of_mem _ hy, hf⟩
open Classical in
theorem ref_l1 (c c1 c2 c3 c4 : Int) (hc : IsByte c) (ys : List ByteArray) (hb : bulkOf ys ≤ 10000) (i : Nat) (hi : i < ys.length) (D : Nat) (r : ByteArray × Int) (H : ∀ k, D ≤ k → lamplighterref09_Write.l0 k ys ((i + 1 : Nat) : Int) c c1 c2 c3 c4 = some r) (y : ByteArray) (hy : rdOf ByteArray.empty ys (i : Int) = y) (hs : y.size ≤ 10000) (d : Nat) :
    ∀ (k j : Nat), j ≤ y.size → y.size - j = d → D + d + 1 ≤ k → lamplighterref09_Write.l1 k ys (i : Int) (j : Int) c c1 c2 c3 c4 = some (if UInt8.ofNat c.toNat ∈ y.data.toList.drop j ∨ 13 ∈ y.data.toList.drop j then (⟨#[]⟩, 10) else r) := by
  have hlen := bulk_length ys
  induction d with
  | zero =>
    intro k j hj hd hk
    obtain ⟨k, rfl⟩ : ∃ m, k = m + 1 := ⟨k - 1, by omega⟩
    obtain rfl : j = y.size := by omega
    have q0 : (0 : Int) ≤ (i : Int) := by omega
    have q1 : (i : Int) < (ys.length : Int) := by omega
    have q2 : ¬ ((y.size : Int) < (y.size : Int)) := by omega
    rw [lamplighterref09_Write.l1, if_pos q0, if_pos q1, hy, if_neg q2, wrap_succ i (by omega), H k (by omega), List.drop_eq_nil_of_le (by rw [len_size]; omega), if_neg (by simp)]
  | succ d ih =>
    intro k j hj hd hk
    obtain ⟨k, rfl⟩ : ∃ m, k = m + 1 := ⟨k - 1, by omega⟩
    have q0 : (0 : Int) ≤ (i : Int) := by omega
    have q1 : (i : Int) < (ys.length : Int) := by omega
    have q2 : (j : Int) < (y.size : Int) := by omega
    have q3 : (0 : Int) ≤ (j : Int) := by omega
    have hjl : j < y.data.toList.length := by rw [len_size]; omega
    have b1 := bt_list y j (by omega) c hc
    have b2 := bt_list y j (by omega) 13 ⟨by decide, by decide⟩
    have hdrop : y.data.toList.drop j = y.data.toList[j] :: y.data.toList.drop (j + 1) := List.drop_eq_getElem_cons hjl
    rw [lamplighterref09_Write.l1, if_pos q0, if_pos q1, hy, if_pos q2, if_pos q3, hdrop]
    by_cases h1 : bt y (j : Int) = c
    · rw [if_pos h1, if_pos (.inl (by rw [← b1.1 h1]; exact List.mem_cons_self))]
    · rw [if_neg h1]
      by_cases h2 : bt y (j : Int) = 13
      · rw [if_pos h2, if_pos (.inr (by have e : y.data.toList[j] = 13 := b2.1 h2; rw [e]; exact List.mem_cons_self))]
      · have e := ih k (j + 1) (by omega) (by omega) (by omega)
        have n1 : UInt8.ofNat c.toNat ≠ y.data.toList[j] := fun e => h1 (b1.2 e.symm)
        have n2 : (13 : UInt8) ≠ y.data.toList[j] := fun e => h2 (b2.2 e.symm)
        have m1 : (UInt8.ofNat c.toNat ∈ y.data.toList[j] :: y.data.toList.drop (j + 1) ∨ 13 ∈ y.data.toList[j] :: y.data.toList.drop (j + 1)) ↔ (UInt8.ofNat c.toNat ∈ y.data.toList.drop (j + 1) ∨ 13 ∈ y.data.toList.drop (j + 1)) := by
          rw [List.mem_cons, List.mem_cons]
          constructor
          · rintro ((h | h) | (h | h))
            · exact absurd h n1
            · exact .inl h
            · exact absurd h n2
            · exact .inr h
          · rintro (h | h)
            · exact .inl (.inr h)
            · exact .inr (.inr h)
        rw [if_neg h2, wrap_succ j (by omega), e]
        congr 1
        exact ite_iff m1.symm _ _
open Classical in
theorem ref_l0 (c c1 c2 c3 c4 : Int) (hc : IsByte c) (ys : List ByteArray) (hb : bulkOf ys ≤ 10000) (E : Nat) (r : ByteArray × Int) (H : ∀ k, E ≤ k → lamplighterref09_Write.l2 k ys c c1 c2 c3 c4 = some r) (d : Nat) :
    ∀ (k i : Nat), i ≤ ys.length → ys.length - i = d → 2 * bulkOf (ys.drop i) + 1 + E ≤ k → lamplighterref09_Write.l0 k ys (i : Int) c c1 c2 c3 c4 = some (if Foul (UInt8.ofNat c.toNat) (ys.drop i) then (⟨#[]⟩, 10) else r) := by
  induction d with
  | zero =>
    intro k i hi hd hk
    obtain ⟨k, rfl⟩ : ∃ m, k = m + 1 := ⟨k - 1, by omega⟩
    obtain rfl : i = ys.length := by omega
    have q : ¬ ((ys.length : Int) < (ys.length : Int)) := by omega
    have hf : ¬ Foul (UInt8.ofNat c.toNat) (ys.drop ys.length) := by
      rw [List.drop_length]; rintro ⟨_, h, _⟩; cases h
    rw [lamplighterref09_Write.l0, if_neg q, H k (by omega), if_neg hf]
  | succ d ih =>
    intro k i hi hd hk
    obtain ⟨k, rfl⟩ : ∃ m, k = m + 1 := ⟨k - 1, by omega⟩
    have hlt : i < ys.length := by omega
    have q : (i : Int) < (ys.length : Int) := by omega
    have hbk : bulkOf (ys.drop i) = 1 + (rdOf ByteArray.empty ys (i : Int)).size + bulkOf (ys.drop (i + 1)) := by rw [drop_cons ys i hlt, bulk_cons]
    have hbd := bulk_drop ys i
    have e := ref_l1 c c1 c2 c3 c4 hc ys hb i hlt (2 * bulkOf (ys.drop (i + 1)) + 1 + E) _ (fun k' hk' => ih k' (i + 1) (by omega) (by omega) hk') _ rfl (by omega) _ k 0 (by omega) rfl (by omega)
    rw [lamplighterref09_Write.l0, if_pos q, show (0 : Int) = ((0 : Nat) : Int) from rfl, e, List.drop_zero]
    congr 1
    by_cases h1 : UInt8.ofNat c.toNat ∈ (rdOf ByteArray.empty ys (i : Int)).data.toList ∨ 13 ∈ (rdOf ByteArray.empty ys (i : Int)).data.toList
    · rw [if_pos h1, if_pos ((foul_drop _ ys i hlt).2 (.inl h1))]
    · rw [if_neg h1]
      refine ite_iff ?_ _ _
      rw [foul_drop _ ys i hlt]
      exact ⟨.inr, fun h => h.resolve_left h1⟩
theorem ref_l2 (c c1 c2 c3 c4 : Int) (d : Nat) : ∀ (k : Nat) (ys : List ByteArray), ys.length = d → bulkOf ys ≤ 10000 → 10100 + d ≤ k →
    lamplighterref09_Write.l2 k ys c c1 c2 c3 c4 = some (strOf (makeOf (UInt8.ofNat c.toNat) MSH ([strOfNums [c], strOfNums [c1, c2, c3, c4]].map (·.data.toList) ++ (trimB ys).map (·.data.toList))), 0) := by
  have fin : ∀ (k : Nat) (ys : List ByteArray), bulkOf ys ≤ 10000 → 10050 ≤ k →
      ((some (([strOfNums (([c] : List Int)), strOfNums (([c1, c2, c3, c4] : List Int))] : List ByteArray) : List ByteArray)).bind fun y417 => (if y417.length + ys.length < 8796093022208 then ((lamplighterref08_Make.f k c c1 c2 c3 c4 (⟨#[77, 83, 72]⟩ : ByteArray) (y417 ++ ys)).bind fun t423 => (some (t423, (0 : Int)))) else (none))) =
      some (strOf (makeOf (UInt8.ofNat c.toNat) MSH ([strOfNums [c], strOfNums [c1, c2, c3, c4]].map (·.data.toList) ++ ys.map (·.data.toList))), 0) := by
    intro k ys hb hk
    have hlen := bulk_length ys
    have q : ([strOfNums [c], strOfNums [c1, c2, c3, c4]] : List ByteArray).length + ys.length < 8796093022208 := by simp only [List.length_cons, List.length_nil]; omega
    rw [Option.bind_some, if_pos q, show (⟨#[77, 83, 72]⟩ : ByteArray) = strOf MSH from rfl, refMake_spec k c c1 c2 c3 c4 MSH _ (by decide) (by rw [head_bulk]; omega) (by simp only [List.length_append, List.length_cons, List.length_nil]; omega), Option.bind_some, List.map_append]
  induction d with
  | zero =>
    intro k ys hl hb hk
    obtain ⟨k, rfl⟩ : ∃ m, k = m + 1 := ⟨k - 1, by omega⟩
    obtain rfl := List.eq_nil_of_length_eq_zero hl
    rw [lamplighterref09_Write.l2, if_neg (by decide), fin k [] hb (by omega)]
    rfl
  | succ d ih =>
    intro k ys hl hb hk
    obtain ⟨k, rfl⟩ : ∃ m, k = m + 1 := ⟨k - 1, by omega⟩
    have hlen := bulk_length ys
    rcases List.eq_nil_or_concat ys with rfl | ⟨t, y, rfl⟩
    · simp at hl
    rw [List.concat_eq_append] at *
    have ht : t.length = d := by simpa using hl
    have hL : (t ++ [y]).length = d + 1 := by simpa using ht
    have q0 : ((t ++ [y]).length : Int) > 0 := by omega
    have w1 : wrap64 (((t ++ [y]).length : Int) - 1) = ((d : Nat) : Int) := by rw [hL, wrap_fit (by omega) (by omega)]; omega
    have q1 : (0 : Int) ≤ ((d : Nat) : Int) := by omega
    have q2 : ((d : Nat) : Int) < ((t ++ [y]).length : Int) := by omega
    have q3 : ((d : Nat) : Int) ≤ ((t ++ [y]).length : Int) := by omega
    have hrd : rdOf ByteArray.empty (t ++ [y]) ((d : Nat) : Int) = y := by
      rw [rd_mem _ d (by omega), List.getElem_append_right (by omega)]
      simp [ht]
    have htake : (t ++ [y]).take ((d : Nat) : Int).toNat = t := by rw [Int.toNat_natCast, List.take_append_of_le_length (by omega), List.take_of_length_le (by omega)]
    rw [lamplighterref09_Write.l2, if_pos q0, w1, if_pos q1, if_pos q2, hrd, Lib.toList_data]
    by_cases hy : y.data.toList = []
    · have hbt : bulkOf t ≤ 10000 := by rw [bulk_append] at hb; omega
      rw [if_pos hy, if_pos q3, htake, ih k t ht hbt (by omega), trim_snoc_empty t y hy]
    · rw [if_neg hy, fin k (t ++ [y]) hb (by omega), trim_snoc_full t y hy]
theorem refWrite_spec (k : Nat) (hk : 40000 ≤ k) (c c1 c2 c3 c4 : Int) (t5 t6 t7 t8 t9 t10 t11 t12 t13 t14 : ByteArray) (hb : bulkOf [t5, t6, t7, t8, t9, t10, t11, t12, t13, t14] ≤ 10000) (hc : IsByte c) :
    lamplighterref09_Write.f k c c1 c2 c3 c4 t5 t6 t7 t8 t9 t10 t11 t12 t13 t14 = some (writeOf c c1 c2 c3 c4 [t5, t6, t7, t8, t9, t10, t11, t12, t13, t14]) := by
  unfold lamplighterref09_Write.f lamplighterref09_texts.f writeOf
  rw [refRight_spec k (by omega) c c1 c2 c3 c4, Option.bind_some]
  by_cases hg : GoodS c c1 c2 c3 c4
  · rw [if_pos (decide_eq_true hg), if_pos hg, Option.bind_some]
    exact ref_l0 c c1 c2 c3 c4 hc _ hb 10110 _ (fun k' hk' => ref_l2 c c1 c2 c3 c4 10 k' _ rfl hb (by omega)) 10 k 0 (by simp) rfl (by rw [List.drop_zero]; omega)
  · rw [if_neg (by rw [decide_eq_true_eq]; exact hg), if_neg hg]

/-! ### The document's check -/
theorem refFirst_spec (k : Nat) (s : ByteArray) (c c1 c2 c3 c4 : Int) (hs : s.size ≤ 4000000000) (hc1 : IsByte c1) (hc2 : IsByte c2) (hk : s.size < k) :
    lamplighterref09_first.f k s c c1 c2 c3 c4 = some (strOf (firstOf (UInt8.ofNat c1.toNat) (UInt8.ofNat c2.toNat) s.data.toList)) := by
  unfold lamplighterref09_first.f
  have h1 := cutL_length_pos (UInt8.ofNat c2.toNat) s.data.toList
  have h2 := cutL_length_pos (UInt8.ofNat c1.toNat) (nthOf (cutL (UInt8.ofNat c2.toNat) s.data.toList) 1)
  have q : (1 : Int) ≤ 1 ∧ (1 : Int) ≤ ((cutL (UInt8.ofNat c2.toNat) s.data.toList).length : Int) := ⟨by decide, by omega⟩
  rw [refParts_spec k s 1 c c1 c2 c3 c4 hs ⟨by decide, by decide⟩ hc2 hc1 hk, if_pos q, Option.bind_some, if_pos (by rw [List.length_map]; omega), show (0 : Int) = 1 - 1 from rfl, nthOf_get _ 1 (by decide)]
  rfl
open Classical in
theorem refCheck_loop (c c1 c2 c3 c4 : Int) (t5 t6 t7 t8 t9 t10 kind id proc ver : ByteArray) (hp : proc.size ≤ 10000) (hc1 : IsByte c1) (hc2 : IsByte c2) (v : ByteArray) (vs : List ByteArray) (hvs : vs.length ≤ 1000) (d : Nat) :
    ∀ (k i : Nat) (fl : Bool), i ≤ vs.length → vs.length - i = d → 20000 + d ≤ k →
      lamplighterref09_Check.l0 k v fl vs (i : Int) c c1 c2 c3 c4 t5 t6 t7 t8 t9 t10 kind id proc ver =
      some (if fl = true ∨ v ∈ vs.drop i then (if firstOf (UInt8.ofNat c1.toNat) (UInt8.ofNat c2.toNat) proc.data.toList ∈ procB then 0 else 13) else 12) := by
  induction d with
  | zero =>
    intro k i fl hi hd hk
    obtain ⟨k, rfl⟩ : ∃ m, k = m + 1 := ⟨k - 1, by omega⟩
    obtain rfl : i = vs.length := by omega
    have q : ¬ ((vs.length : Int) < (vs.length : Int)) := by omega
    rw [lamplighterref09_Check.l0, if_neg q, List.drop_length]
    cases fl with
    | false => rw [if_neg (by decide), if_neg (by simp)]
    | true =>
      rw [if_pos rfl, if_pos (.inl rfl), refFirst_spec k proc c c1 c2 c3 c4 (by omega) hc1 hc2 (by omega), Option.bind_some, strOf_list]
      generalize firstOf (UInt8.ofNat c1.toNat) (UInt8.ofNat c2.toNat) proc.data.toList = x
      by_cases h1 : x = [80]
      · rw [if_pos h1, if_pos (by subst h1; decide)]
      · by_cases h2 : x = [68]
        · rw [if_neg h1, if_pos h2, if_pos (by subst h2; decide)]
        · by_cases h3 : x = [84]
          · rw [if_neg h1, if_neg h2, if_pos h3, if_pos (by subst h3; decide)]
          · rw [if_neg h1, if_neg h2, if_neg h3, if_neg (by simp [procB, h1, h2, h3])]
  | succ d ih =>
    intro k i fl hi hd hk
    obtain ⟨k, rfl⟩ : ∃ m, k = m + 1 := ⟨k - 1, by omega⟩
    have q : (i : Int) < (vs.length : Int) := by omega
    have q0 : (0 : Int) ≤ (i : Int) := by omega
    have e1 := ih k (i + 1) true (by omega) (by omega) (by omega)
    have e2 := ih k (i + 1) fl (by omega) (by omega) (by omega)
    rw [lamplighterref09_Check.l0, if_pos q, if_pos q0, wrap_succ i (by omega), drop_cons vs i (by omega), Lib.toList_data, Lib.toList_data]
    by_cases h : (rdOf ByteArray.empty vs (i : Int)).data.toList = v.data.toList
    · have hv := bytes_eq h
      have hm : fl = true ∨ v ∈ rdOf ByteArray.empty vs (i : Int) :: vs.drop (i + 1) := .inr (by rw [hv]; exact List.mem_cons_self)
      rw [if_pos h, e1, if_pos hm, if_pos (.inl rfl)]
    · rw [if_neg h, e2]
      congr 1
      refine ite_iff ?_ _ _
      rw [List.mem_cons]
      constructor
      · rintro (h2 | h2)
        · exact .inl h2
        · exact .inr (.inr h2)
      · rintro (h2 | h2 | h2)
        · exact .inl h2
        · exact absurd (by rw [h2]) h
        · exact .inr h2
open Classical in
theorem refCheck_spec (k : Nat) (hk : 30000 ≤ k) (c c1 c2 c3 c4 : Int) (t5 t6 t7 t8 t9 t10 kind id proc ver : ByteArray) (hp : proc.size ≤ 10000) (hv : ver.size ≤ 10000) (hc1 : IsByte c1) (hc2 : IsByte c2) :
    lamplighterref09_Check.f k c c1 c2 c3 c4 t5 t6 t7 t8 t9 t10 kind id proc ver = some (checkOf (UInt8.ofNat c1.toNat) (UInt8.ofNat c2.toNat) kind.data.toList id.data.toList proc.data.toList ver.data.toList) := by
  have hl := len_size id
  obtain ⟨k, rfl⟩ : ∃ m, k = m + 1 := ⟨k - 1, by omega⟩
  unfold lamplighterref09_Check.f checkOf
  rw [Lib.toList_data, Lib.toList_data]
  by_cases h1 : kind.data.toList = []
  · rw [if_pos h1, if_pos (.inl h1), lamplighterref09_Check.j0, if_pos rfl]
  rw [if_neg h1]
  by_cases h2 : id.data.toList = []
  · rw [if_pos h2, if_pos (.inr (.inl h2)), lamplighterref09_Check.j0, if_pos rfl]
  rw [if_neg h2, lamplighterref09_Check.j0]
  by_cases h3 : (id.size : Int) > 50
  · rw [if_pos (decide_eq_true h3), if_pos (.inr (.inr (by omega)))]
  have hn : ¬ (kind.data.toList = [] ∨ id.data.toList = [] ∨ 50 < id.data.toList.length) := by
    rintro (h | h | h)
    · exact h1 h
    · exact h2 h
    · omega
  have hvs : lamplighterref09_Versions.f = some (verB.map strOf) := rfl
  rw [if_neg (by rw [decide_eq_true_eq]; exact h3), if_neg hn, refFirst_spec k ver c c1 c2 c3 c4 (by omega) hc1 hc2 (by omega), Option.bind_some, hvs, Option.bind_some]
  refine Eq.trans (refCheck_loop c c1 c2 c3 c4 t5 t6 t7 t8 t9 t10 kind id proc ver hp hc1 hc2 _ (verB.map strOf) (by decide) 10 k 0 false (by decide) rfl (by omega)) ?_
  rw [List.drop_zero]
  congr 1
  by_cases h4 : firstOf (UInt8.ofNat c1.toNat) (UInt8.ofNat c2.toNat) ver.data.toList ∈ verB
  · have n4 : ¬ firstOf (UInt8.ofNat c1.toNat) (UInt8.ofNat c2.toNat) ver.data.toList ∉ verB := fun h => h h4
    rw [if_pos (.inr ((mem_texts verB _).2 h4)), if_neg n4]
    by_cases h5 : firstOf (UInt8.ofNat c1.toNat) (UInt8.ofNat c2.toNat) proc.data.toList ∈ procB
    · have n5 : ¬ firstOf (UInt8.ofNat c1.toNat) (UInt8.ofNat c2.toNat) proc.data.toList ∉ procB := fun h => h h5
      rw [if_pos h5, if_neg n5]
    · rw [if_neg h5, if_pos h5]
  · have n4 : ¬ (false = true ∨ strOf (firstOf (UInt8.ofNat c1.toNat) (UInt8.ofNat c2.toNat) ver.data.toList) ∈ verB.map strOf) := by
      rintro (h | h)
      · cases h
      · exact h4 ((mem_texts verB _).1 h)
    rw [if_neg n4, if_pos h4]
end Go.Proofs.YtbkalgkjkcfplaaDoor.Pure

