/- What the document's readers of signs, segments, fields and heads come to, over lists of bytes; conditions: the numbers are bytes, fuel for a step each. -/
import Derived.Test.YtcjcaojgminjpabDoorPBx10
import Derived.Test.YtcjcaojgminjpabDoorPBx11
import Derived.Test.YtcjcaojgminjpabDoorPBx12
import Derived.Test.YtcjcaojgminjpabDoorPBx13
import Derived.Test.YtcjcaojgminjpabDoorMshRead
import Derived.Test.YtcjcaojgminjpabDoorRefCut
import Derived.Test.YtcjcaojgminjpabDoorDelimRef
namespace Go.Proofs.YtcjcaojgminjpabDoor.Pure
open Go Go.RowKit Go.Proofs.YtcjcaojgminjpabDoor.PB Go.Proofs.YtcjcaojgminjpabDoorW.PrintWords Go.Proofs.YtcjcaojgminjpabDoorW.PrintLast
theorem refSplit_spec (k : Nat) (b : List Int) (hb : b.length ≤ 4000000000) (hk : b.length < k) : lamplighterref08_Split.f k b = some ((segsOf (Lib.bytesOf b)).map strOf) := by
 have hs : (strOfNums b).size = b.length := by simp [strOfNums, ByteArray.size]
 have hd := str_data b
 unfold lamplighterref08_Split.f
 rw [refCut_spec k (strOfNums b) 13 (by omega) (by decide) (by omega), Option.bind_some, hd]
 have hu : UInt8.ofNat (13 : Int).toNat = 13 := rfl
 rw [hu]
 have hn : (cutL 13 (Lib.bytesOf b)).length ≤ 4000000001 := by
  rw [cutL_length]
  have := List.count_le_length (a := 13) (l := Lib.bytesOf b)
  rw [bytesOf_len] at this
  omega
 rcases List.eq_nil_or_concat (cutL 13 (Lib.bytesOf b)) with h | ⟨t, x, h⟩
 ·exact absurd h (cutL_ne 13 _)
 ·rw [List.concat_eq_append] at h
  have hlast : (cutL 13 (Lib.bytesOf b)).getLast? = some x := by rw [h]; simp
  have hdrop : (cutL 13 (Lib.bytesOf b)).dropLast = t := by rw [h]; simp
  unfold segsOf
  rw [hlast, hdrop]
  rw [h] at hn ⊢
  rw [List.length_append, List.length_singleton] at hn
  have w1 : wrap64 ((((t ++ [x]).map strOf).length : Int) - 1) = (t.length : Int) := by
   rw [List.length_map, List.length_append, List.length_singleton, wrap_fit (by omega) (by omega)]; omega
  have r1 : rdOf ByteArray.empty ((t ++ [x]).map strOf) (t.length : Int) = strOf x := by simp [rdOf]
  have q0 : (0 : Int) ≤ (t.length : Int) := by omega
  have q1 : (t.length : Int) < ((((t ++ [x]).map strOf).length : Nat) : Int) := by simp; omega
  have q2 : (t.length : Int) ≤ ((((t ++ [x]).map strOf).length : Nat) : Int) := by omega
  rw [w1, r1, if_pos q0, if_pos q1, strOf_list]
  by_cases hx : x = []
  ·subst hx
   rw [if_pos rfl, if_pos q2, if_pos rfl, Int.toNat_natCast]
   simp
  ·rw [if_neg hx, if_neg (fun e => hx (Option.some.inj e))]
theorem refName_spec (s : ByteArray) : lamplighterref08_Name.f s = some (strOf (s.data.toList.take 3)) := by
 have hl := len_size s
 unfold lamplighterref08_Name.f
 by_cases h : (s.size : Int) < 3
 ·rw [if_pos h, List.take_of_length_le (by omega), strOf_of]
 ·have q : (3 : Int) ≤ (s.size : Int) := by omega
  rw [if_neg h, if_pos (by decide), if_pos q]
  congr 1
  apply bytes_eq
  rw [Lib.extract_data, strOf_data]
  simp
theorem fields_length (d : UInt8) (s : List UInt8) : (fieldsOf d s).length ≤ s.length + 1 := by
 unfold fieldsOf
 split
 ·split
  ·rename_i h1 h2
   have h3 : 4 ≤ s.length := by
    have := congrArg List.length h2
    simp only [List.length_take, List.length_drop, List.length_singleton] at this
    omega
   have := List.count_le_length (a := d) (l := s.drop 4)
   rw [List.length_cons, cutL_length]
   rw [List.length_drop] at this
   omega
  ·simp
 ·have := List.count_le_length (a := d) (l := s)
  rw [List.length_tail, cutL_length]
  omega
theorem refFields_spec (k : Nat) (s : ByteArray) (c c1 c2 c3 c4 : Int) (hs : s.size ≤ 4000000000) (hc : 0 ≤ c ∧ c ≤ 255) (hk : s.size < k) :
  lamplighterref08_Fields.f k s c c1 c2 c3 c4 = some ((fieldsOf (UInt8.ofNat c.toNat) s.data.toList).map strOf) := by
 have hl := len_size s
 unfold lamplighterref08_Fields.f
 rw [refName_spec, Option.bind_some, strOf_list]
 unfold fieldsOf
 by_cases hm : s.data.toList.take 3 = MSH
 ·rw [if_pos (show s.data.toList.take 3 = ([77, 83, 72] : List UInt8) from hm), if_pos hm]
  have h3 : 3 ≤ s.size := by
   have := congrArg List.length hm
   rw [List.length_take, show MSH.length = 3 from rfl] at this
   omega
  by_cases h4 : (s.size : Int) < 4
  ·rw [if_pos h4, if_neg (by rw [List.drop_eq_nil_of_le (by omega)]; simp)]
   rfl
  ·have q3 : (3 : Int) < (s.size : Int) := by omega
   have q4 : (4 : Int) ≤ (s.size : Int) := by omega
   have hd : (s.data.toList.drop 3).take 1 = [s.data.toList[3]'(by omega)] := by
    rw [List.drop_eq_getElem_cons (by omega)]; rfl
   have hbt := bt_list s 3 (by omega) c hc
   have hbt' : bt s 3 = c ↔ s.data.toList[3]'(by omega) = UInt8.ofNat c.toNat := hbt
   rw [if_neg h4, if_pos q3, hd]
   by_cases he : s.data.toList[3]'(by omega) = UInt8.ofNat c.toNat
   ·have hx : s.extract 3 4 = strOf [UInt8.ofNat c.toNat] := by
     apply bytes_eq
     rw [Lib.extract_data, strOf_data, ← he, ← hd]
    have hr : (s.extract 4 s.size).data.toList = s.data.toList.drop 4 := by
     rw [Lib.extract_data, List.take_of_length_le (by rw [List.length_drop]; omega)]
    have hz : (s.extract 4 s.size).size = s.size - 4 := by rw [← len_size, hr, List.length_drop]; omega
    rw [if_pos (hbt'.2 he), if_pos (by decide), if_pos q4, Option.bind_some, refCut_spec k _ c (by omega) hc (by omega), Option.bind_some, hr, hx, he, if_pos rfl]
    have hn := cutL_length (UInt8.ofNat c.toNat) (s.data.toList.drop 4)
    have hn2 := List.count_le_length (a := UInt8.ofNat c.toNat) (l := s.data.toList.drop 4)
    rw [List.length_drop] at hn2
    rw [if_pos (by rw [List.length_singleton, List.length_map]; omega)]
    rfl
   ·rw [if_neg (fun e => he (hbt'.1 e)), if_neg (fun e => he (by simpa using e))]
    rfl
 ·rw [if_neg (show ¬ s.data.toList.take 3 = ([77, 83, 72] : List UInt8) from hm), if_neg hm, refCut_spec k s c hs hc hk, Option.bind_some]
  have hn := cutL_length_pos (UInt8.ofNat c.toNat) s.data.toList
  have q : (1 : Int) ≤ (((cutL (UInt8.ofNat c.toNat) s.data.toList).map strOf).length : Int) := by rw [List.length_map]; omega
  rw [if_pos q]
  show some (List.drop 1 _) = _
  rw [List.drop_one, ← List.map_tail]
theorem refRead_spec (k : Nat) (hk : 51 ≤ k) (l : List Int) : lamplighterref06_Read.f k l = some (readS l) := by
 unfold lamplighterref06_Read.f readS
 rw [Lib.strOfNums_toList]
 by_cases h9 : (l.length : Int) < 9
 ·rw [if_pos h9, if_pos h9]
 ·rw [if_neg h9, if_neg h9, refRight_spec k hk, Option.bind_some, some_ite _ _ _ _ rfl, and_ite]
theorem nthOf_get2 (l : List (List UInt8)) (n : Int) (h : 1 ≤ n) : rdOf ByteArray.empty (l.map strOf) (n - 1) = strOf (nthOf l n) := by
 unfold rdOf nthOf
 rw [if_pos h, List.getD_eq_getElem?_getD, List.getD_eq_getElem?_getD, List.getElem?_map]
 cases l[(n - 1).toNat]? <;> rfl
theorem pad_at (F : List (List UInt8)) (i : Nat) (h : i < 12) : rdOf ByteArray.empty (padTo (F.map strOf)) (i : Int) = strOf (nthOf F ((i : Int) + 1)) := by
 unfold padTo rdOf nthOf
 rw [if_pos (by omega), List.getD_eq_getElem?_getD, List.getD_eq_getElem?_getD, Int.toNat_natCast, show ((i : Int) + 1 - 1).toNat = i by omega]
 by_cases hl : i < F.length
 ·rw [List.getElem?_append_left (by rw [List.length_map]; exact hl), List.getElem?_map, List.getElem?_eq_getElem hl]
  rfl
 ·rw [List.getElem?_append_right (by rw [List.length_map]; omega), List.length_map, List.getElem?_replicate, if_pos (by omega), List.getElem?_eq_none (by omega)]
  rfl
theorem refMRead_spec (k : Nat) (l : List Int) (h : ∀ x ∈ l, IsByte x) (hl : l.length ≤ 1000000000) (hk : l.length + 60 < k) : lamplighterref09_Read.f k l = some (readM l) := by
 have hb := reads_bytes h
 unfold lamplighterref09_Read.f readM
 rw [refRead_spec k (by omega) l, Option.bind_some]
 dsimp only
 by_cases he : (readS l).2.2.2.2.2 = 0
 ·have hm := reads_msh he
  rw [bytesOf_take] at hm
  have hne := segs_ne hm
  obtain ⟨s, t, hst⟩ : ∃ s t, segsOf (Lib.bytesOf l) = s :: t := by
   cases hs : segsOf (Lib.bytesOf l) with
   | nil => exact absurd hs hne
   | cons s t => exact ⟨s, t, rfl⟩
  have hsl : s.length ≤ l.length := by
   have := segs_part (Lib.bytesOf l)
   rw [hst, bytesOf_len] at this
   exact this
  have hr : rdOf ByteArray.empty (strOf s :: t.map strOf) 0 = strOf s := rfl
  have hF := refFields_spec k (strOf s) (readS l).1 (readS l).2.1 (readS l).2.2.1 (readS l).2.2.2.1 (readS l).2.2.2.2.1 (by rw [strOf_size]; omega) hb.1 (by rw [strOf_size]; omega)
  rw [strOf_data] at hF
  rw [if_pos he, if_pos he, refSplit_spec k l (by omega) (by omega), Option.bind_some, hst, List.map_cons, if_pos (by simp), hr, hF, Option.bind_some, List.headD_cons]
  generalize fieldsOf (UInt8.ofNat (readS l).1.toNat) s = F
  have e1 : rdOf ByteArray.empty (F.map strOf) 1 = strOf (nthOf F 2) := nthOf_get2 F 2 (by decide)
  rw [List.length_map, e1, strOf_list, Lib.toList_data, str_data]
  by_cases h2 : F.length < 2
  ·have hne2 : ¬ nthOf F 2 = Lib.bytesOf [(readS l).2.1, (readS l).2.2.1, (readS l).2.2.2.1, (readS l).2.2.2.2.1] := by
    rw [nthOf_big (by omega)]
    simp [Lib.bytesOf]
   rw [if_pos h2, if_neg hne2]
   rfl
  ·rw [if_neg h2]
   by_cases hq : nthOf F 2 = Lib.bytesOf [(readS l).2.1, (readS l).2.2.1, (readS l).2.2.2.1, (readS l).2.2.2.2.1]
   ·rw [if_pos hq, if_pos hq]
    have p2 : rdOf ByteArray.empty (padTo (F.map strOf)) 2 = strOf (nthOf F 3) := pad_at F 2 (by decide)
    have p3 : rdOf ByteArray.empty (padTo (F.map strOf)) 3 = strOf (nthOf F 4) := pad_at F 3 (by decide)
    have p4 : rdOf ByteArray.empty (padTo (F.map strOf)) 4 = strOf (nthOf F 5) := pad_at F 4 (by decide)
    have p5 : rdOf ByteArray.empty (padTo (F.map strOf)) 5 = strOf (nthOf F 6) := pad_at F 5 (by decide)
    have p6 : rdOf ByteArray.empty (padTo (F.map strOf)) 6 = strOf (nthOf F 7) := pad_at F 6 (by decide)
    have p7 : rdOf ByteArray.empty (padTo (F.map strOf)) 7 = strOf (nthOf F 8) := pad_at F 7 (by decide)
    have p8 : rdOf ByteArray.empty (padTo (F.map strOf)) 8 = strOf (nthOf F 9) := pad_at F 8 (by decide)
    have p9 : rdOf ByteArray.empty (padTo (F.map strOf)) 9 = strOf (nthOf F 10) := pad_at F 9 (by decide)
    have p10 : rdOf ByteArray.empty (padTo (F.map strOf)) 10 = strOf (nthOf F 11) := pad_at F 10 (by decide)
    have p11 : rdOf ByteArray.empty (padTo (F.map strOf)) 11 = strOf (nthOf F 12) := pad_at F 11 (by decide)
    rw [p2, p3, p4, p5, p6, p7, p8, p9, p10, p11]
   ·rw [if_neg hq, if_neg hq]
    rfl
 ·rw [if_neg he, if_neg he]
  rfl
end Go.Proofs.YtcjcaojgminjpabDoor.Pure
