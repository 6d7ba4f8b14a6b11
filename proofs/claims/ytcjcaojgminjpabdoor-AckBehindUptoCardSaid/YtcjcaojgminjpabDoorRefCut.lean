/- The document's Cut as a law over bytes; condition: texts of at most 4000000000 bytes, and fuel for a step a byte. -/
import Derived.Test.YtcjcaojgminjpabDoorPBx10
import Derived.Test.YtcjcaojgminjpabDoorCut
import Derived.Test.YtcjcaojgminjpabDoorStr
namespace Go.Proofs.YtcjcaojgminjpabDoor
open Go Go.RowKit Go.Proofs.YtcjcaojgminjpabDoor.PB Go.Proofs.YtcjcaojgminjpabDoorW.PrintWords Go.Proofs.YtcjcaojgminjpabDoorW.PrintLast
theorem refCut_loop (s : ByteArray) (c : Int) (hs : s.size ≤ 4000000000) (hc : 0 ≤ c ∧ c ≤ 255) (d : Nat) :
  ∀ (k i : Nat), i ≤ s.size → s.size - i = d → d < k →
   lamplighterref06_Cut.l0 k s c ((cutL (UInt8.ofNat c.toNat) (s.data.toList.take i)).map strOf) i = some ((cutL (UInt8.ofNat c.toNat) s.data.toList).map strOf) := by
 have hl := len_size s
 induction d with
 | zero =>
  intro k i hi hd hk
  obtain ⟨k, rfl⟩ : ∃ m, k = m + 1 := ⟨k - 1, by omega⟩
  have q : ¬ ((i : Int) < (s.size : Int)) := by omega
  rw [lamplighterref06_Cut.l0, if_neg q, List.take_of_length_le (by omega)]
 | succ d ih =>
  intro k i hi hd hk
  obtain ⟨k, rfl⟩ : ∃ m, k = m + 1 := ⟨k - 1, by omega⟩
  have hlt : i < s.size := by omega
  have q : (i : Int) < (s.size : Int) := by omega
  have q0 : (0 : Int) ≤ (i : Int) := by omega
  have hw : wrap64 ((i : Int) + 1) = ((i + 1 : Nat) : Int) := by rw [wrap_fit (by omega) (by omega)]; rfl
  have hcl : (cutL (UInt8.ofNat c.toNat) (s.data.toList.take i)).length ≤ 4000000001 := by
   rw [cutL_length]
   have := List.count_le_length (a := UInt8.ofNat c.toNat) (l := s.data.toList.take i)
   rw [List.length_take] at this
   omega
  have hpos := cutL_length_pos (UInt8.ofNat c.toNat) (s.data.toList.take i)
  rw [lamplighterref06_Cut.l0, if_pos q, if_pos q0, hw]
  by_cases h : s.data.toList[i]'(by omega) = UInt8.ofNat c.toNat
  ·have q1 : ((cutL (UInt8.ofNat c.toNat) (s.data.toList.take i)).map strOf).length < 8796093022208 := by rw [List.length_map]; omega
   rw [if_pos ((bt_list s i hlt c hc).2 h), if_pos q1]
   rw [← ih k (i + 1) (by omega) (by omega) (by omega), take_one _ _ (by omega), h, cutL_snoc_hit, List.map_append]
   rfl
  ·have ew : wrap64 ((((cutL (UInt8.ofNat c.toNat) (s.data.toList.take i)).map strOf).length : Int) - 1) = (((cutL (UInt8.ofNat c.toNat) (s.data.toList.take i)).length - 1 : Nat) : Int) := by
    rw [List.length_map, wrap_fit (by omega) (by omega)]; omega
   have q2 : (0 : Int) ≤ (((cutL (UInt8.ofNat c.toNat) (s.data.toList.take i)).length - 1 : Nat) : Int) := by omega
   have q3 : (((cutL (UInt8.ofNat c.toNat) (s.data.toList.take i)).length - 1 : Nat) : Int) < (((cutL (UInt8.ofNat c.toNat) (s.data.toList.take i)).map strOf).length : Int) := by rw [List.length_map]; omega
   have q4 : (i : Int) ≤ ((i + 1 : Nat) : Int) := by omega
   have q5 : ((i + 1 : Nat) : Int) ≤ (s.size : Int) := by omega
   have e1 : s.extract (i : Int).toNat ((i + 1 : Nat) : Int).toNat = strOf [s.data.toList[i]'(by omega)] := by
    apply bytes_eq
    rw [Lib.extract_data, strOf_data, Int.toNat_natCast, Int.toNat_natCast, Nat.add_sub_cancel_left, List.drop_eq_getElem_cons (by omega)]
    rfl
   have e2 : rdOf ByteArray.empty ((cutL (UInt8.ofNat c.toNat) (s.data.toList.take i)).map strOf) (((cutL (UInt8.ofNat c.toNat) (s.data.toList.take i)).length - 1 : Nat) : Int) = strOf ((cutL (UInt8.ofNat c.toNat) (s.data.toList.take i)).getLastD []) := by
    unfold rdOf
    rw [Int.toNat_natCast, List.getD_eq_getElem?_getD, List.getElem?_map, List.getLastD_eq_getLast?, List.getLast?_eq_getElem?]
    cases h5 : (cutL (UInt8.ofNat c.toNat) (s.data.toList.take i))[(cutL (UInt8.ofNat c.toNat) (s.data.toList.take i)).length - 1]? with
    | none => rw [List.getElem?_eq_none_iff] at h5; omega
    | some x => rfl
   have hlast : ((cutL (UInt8.ofNat c.toNat) (s.data.toList.take i)).getLastD []).length ≤ i := by
    rw [List.getLastD_eq_getLast?]
    cases h5 : (cutL (UInt8.ofNat c.toNat) (s.data.toList.take i)).getLast? with
    | none => simp
    | some x =>
     have := cutL_part_le (UInt8.ofNat c.toNat) (s.data.toList.take i) x (List.mem_of_getLast? h5)
     rw [List.length_take] at this
     show x.length ≤ i
     omega
   have q6 : (strOf ((cutL (UInt8.ofNat c.toNat) (s.data.toList.take i)).getLastD [])).size + (strOf [s.data.toList[i]'(by omega)]).size ≤ 9223372036854775807 := by
    rw [strOf_size, strOf_size, List.length_singleton]; omega
   rw [if_neg (fun e => h ((bt_list s i hlt c hc).1 e)), ew, if_pos q2, if_pos q3, if_pos q4, if_pos q5, e1, e2, if_pos q6]
   rw [← ih k (i + 1) (by omega) (by omega) (by omega), take_one _ _ (by omega), cutL_snoc_miss h, List.map_append]
   congr 1
   rw [Int.toNat_natCast]
   obtain ⟨a, b, e⟩ : ∃ a b, cutL (UInt8.ofNat c.toNat) (s.data.toList.take i) = a ++ [b] := ⟨_, _, (List.dropLast_concat_getLast (cutL_ne _ _)).symm⟩
   rw [e]
   simp only [List.map_append, List.map_cons, List.map_nil, List.length_append, List.length_cons, List.length_nil, Nat.zero_add, Nat.add_sub_cancel, List.dropLast_concat, List.getLastD_concat]
   rw [List.set_append_right _ _ (by rw [List.length_map]; exact Nat.le_refl _), List.length_map, Nat.sub_self]
   rw [List.set_cons_zero, strOf_snoc]
theorem refCut_spec (k : Nat) (s : ByteArray) (c : Int) (hs : s.size ≤ 4000000000) (hc : 0 ≤ c ∧ c ≤ 255) (hk : s.size < k) :
  lamplighterref06_Cut.f k s c = some ((cutL (UInt8.ofNat c.toNat) s.data.toList).map strOf) := by
 unfold lamplighterref06_Cut.f
 exact refCut_loop s c hs hc s.size k 0 (by omega) (by omega) hk
end Go.Proofs.YtcjcaojgminjpabDoor
