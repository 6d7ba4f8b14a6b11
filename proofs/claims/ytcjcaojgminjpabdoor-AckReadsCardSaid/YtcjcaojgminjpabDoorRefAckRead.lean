/- What the document's reading of an answer tells, over lists of bytes; conditions: the numbers are bytes, fuel for a step each. -/
import Derived.Test.YtcjcaojgminjpabDoorPBx12
import Derived.Test.YtcjcaojgminjpabDoorPBx16
import Derived.Test.YtcjcaojgminjpabDoorPBx17
import Derived.Test.YtcjcaojgminjpabDoorAckRead
import Derived.Test.YtcjcaojgminjpabDoorRefKnown10
import Derived.Test.YtcjcaojgminjpabDoorRefRead9
namespace Go.Proofs.YtcjcaojgminjpabDoor.Pure
open Go Go.RowKit Go.Proofs.YtcjcaojgminjpabDoor.PB Go.Proofs.YtcjcaojgminjpabDoorW.PrintWords Go.Proofs.YtcjcaojgminjpabDoorW.PrintLast
theorem refField_spec (k : Nat) (s : ByteArray) (n c c1 c2 c3 c4 : Int) (hs : s.size ≤ 4000000000) (hc : 0 ≤ c ∧ c ≤ 255) (hk : s.size < k) (hn : -9223372036854775807 ≤ n ∧ n ≤ 9223372036854775807) :
  lamplighterref08_Field.f k s n c c1 c2 c3 c4 = some (strOf (nthOf (fieldsOf (UInt8.ofNat c.toNat) s.data.toList) n), decide (1 ≤ n ∧ n ≤ ((fieldsOf (UInt8.ofNat c.toNat) s.data.toList).length : Int))) := by
 unfold lamplighterref08_Field.f
 rw [refFields_spec k s c c1 c2 c3 c4 hs hc hk, Option.bind_some, List.length_map]
 by_cases h1 : n < 1
 ·rw [if_pos h1, nthOf_small h1, decide_eq_false (by omega)]; rfl
 ·rw [if_neg h1]
  by_cases h2 : n > ((fieldsOf (UInt8.ofNat c.toNat) s.data.toList).length : Int)
  ·rw [if_pos h2, nthOf_big (by omega), decide_eq_false (by omega)]; rfl
  ·have w1 : wrap64 (n - 1) = n - 1 := wrap_fit (by omega) (by omega)
   rw [if_neg h2, w1, if_pos (by omega), if_pos (by omega), nthOf_get2 _ n (by omega), decide_eq_true (by omega)]
theorem refAckRead_spec (k : Nat) (l : List Int) (hk : l.length + 100 < k) (h : ∀ x ∈ l, IsByte x) (hl : l.length ≤ 1000000000) : lamplighterref10_Read.f k l = some (strOf (readA l).1, strOf (readA l).2.1, (readA l).2.2) := by
 have hb := readM_byte h
 have hsg := segs_at (Lib.bytesOf l) 1
 rw [bytesOf_len] at hsg
 unfold lamplighterref10_Read.f
 rw [refMRead_spec k l h hl (by omega), Option.bind_some]
 unfold readA
 generalize readM l = m at hb ⊢
 obtain ⟨c, c1, c2, c3, c4, t5, t6, t7, t8, t9, t10, t11, t12, t13, t14, e⟩ := m
 dsimp only at hb ⊢
 by_cases he : e = 0
 ·rw [if_pos he, if_pos he, refSplit_spec k l (by omega) (by omega), Option.bind_some]
  generalize segsOf (Lib.bytesOf l) = L at hsg ⊢
  have hlen : ((L.map strOf).length : Int) = (L.length : Int) := by rw [List.length_map]
  rw [hlen]
  obtain ⟨k, rfl⟩ : ∃ m, k = m + 1 := ⟨k - 1, by omega⟩
  by_cases h2 : L.length < 2
  ·have q : (L.length : Int) < 2 := by omega
   rw [if_pos q, if_pos h2, lamplighterref10_Read.j0, if_pos rfl]
   rfl
  ·have q : ¬ (L.length : Int) < 2 := by omega
   have q1 : (1 : Int) < (L.length : Int) := by omega
   have hr := rd_segs L
   have hsz : (strOf (L.getD 1 [])).size ≤ l.length := by rw [strOf_size]; exact hsg
   rw [if_neg q, if_neg h2, if_pos q1, hr, refName_spec, Option.bind_some, strOf_data, strOf_list, lamplighterref10_Read.j0, hlen, if_pos q1, hr]
   generalize L.getD 1 [] = s at hsz ⊢
   have F1 := refField_spec k (strOf s) 1 c c1 c2 c3 c4 (by omega) hb (by omega) (by decide)
   have F2 := refField_spec k (strOf s) 2 c c1 c2 c3 c4 (by omega) hb (by omega) (by decide)
   rw [strOf_data] at F1 F2
   unfold tellA
   by_cases hm : s.take 3 = MSA
   ·rw [bne_false (show s.take 3 = ([77, 83, 65] : List UInt8) from hm), if_neg (by decide), F1, Option.bind_some, F2, Option.bind_some, refKnows_spec, Option.bind_some, strOf_data, if_pos hm]
    by_cases hkn : nthOf (fieldsOf (UInt8.ofNat c.toNat) s) 1 ∈ codeB
    ·rw [if_pos (decide_eq_true hkn), if_pos hkn]
    ·rw [if_neg (by rw [decide_eq_true_eq]; exact hkn), if_neg hkn]
     rfl
   ·rw [bne_true' (show s.take 3 ≠ ([77, 83, 65] : List UInt8) from hm), if_pos rfl, if_neg hm]
    rfl
 ·rw [if_neg he, if_neg he]
  rfl
end Go.Proofs.YtcjcaojgminjpabDoor.Pure
