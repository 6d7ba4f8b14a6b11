/- The law DelimParts as a statement over a text and two bytes: as many texts as signs, and one; each sign more an empty one more; no condition. -/
import Derived.Test.YtabcmcllcfapkaaDoorPHx5
import Derived.Test.YtabcmcllcfapkaaDoorRefCut
import Derived.Test.YtabcmcllcfapkaaDoorAlive06
namespace Go.Proofs.YtabcmcllcfapkaaDoor.Pure
open Go Go.RowKit Go.Proofs.YtabcmcllcfapkaaDoor.PH Go.Proofs.YtabcmcllcfapkaaDoorW.PrintWords Go.Proofs.YtabcmcllcfapkaaDoorW.PrintLast

theorem pCut_spec (s : ByteArray) (c : Int) (hs : s.size ≤ 4000000000) : delim_Cut.f s c = some ((cutL (UInt8.ofNat c.toNat) s.data.toList).map strOf) := by
  unfold delim_Cut.f strings_Split.f
  rw [byte_str, if_pos ⟨by rw [strOf_size]; rfl, hs⟩, Option.bind_some, strOf_data]
  rfl
theorem cut_more (c : UInt8) (s : List UInt8) (m : Nat) : cutL c (s ++ List.replicate m c) = cutL c s ++ List.replicate m [] := by
  induction m with
  | zero => simp
  | succ m ih => rw [List.replicate_succ', ← List.append_assoc, cutL_snoc_hit, ih, List.append_assoc, ← List.replicate_succ']
theorem parts_last (A : List (List UInt8)) (m : Nat) (hA : A.length ≤ 100000) (hm : m ≤ 100) (d : Nat) : ∀ (k i : Nat), i ≤ A.length + m → A.length + m - i = d → d < k →
    lamplighterlaw06_DelimParts.l2 k (A.map strOf) ((A ++ List.replicate m []).map strOf) (((A ++ List.replicate m []).map strOf).length : Int) i = some true := by
  have hlen : ((A ++ List.replicate m []).map strOf).length = A.length + m := by simp
  rw [hlen]
  induction d with
  | zero =>
    intro k i hi hd hk
    obtain ⟨k, rfl⟩ : ∃ m, k = m + 1 := ⟨k - 1, by omega⟩
    have q : ¬ ((i : Int) < ((A.length + m : Nat) : Int)) := by omega
    rw [lamplighterlaw06_DelimParts.l2, if_neg q]
  | succ d ih =>
    intro k i hi hd hk
    obtain ⟨k, rfl⟩ : ∃ m, k = m + 1 := ⟨k - 1, by omega⟩
    have q : (i : Int) < ((A.length + m : Nat) : Int) := by omega
    have q' : (i : Int) < (((A ++ List.replicate m []).map strOf).length : Int) := by rw [hlen]; exact q
    have q0 : (0 : Int) ≤ (i : Int) := by omega
    have e := ih k (i + 1) (by omega) (by omega) (by omega)
    rw [lamplighterlaw06_DelimParts.l2, if_pos q, if_pos q0, if_pos q', wrap_succ i (by omega), show (A.map strOf).length = A.length from by rw [List.length_map]]
    by_cases h : i < A.length
    · have qa : (i : Int) < (A.length : Int) := by omega
      have qb : ¬ ((i : Int) ≥ (A.length : Int)) := by omega
      have r1 : rdOf ByteArray.empty ((A ++ List.replicate m []).map strOf) (i : Int) = rdOf ByteArray.empty (A.map strOf) (i : Int) := by
        unfold rdOf
        rw [Int.toNat_natCast, List.getD_eq_getElem?_getD, List.getD_eq_getElem?_getD, List.map_append, List.getElem?_append_left (by rw [List.length_map]; exact h)]
      rw [if_pos qa, r1, if_pos rfl, if_neg qb, e]
    · have qa : ¬ ((i : Int) < (A.length : Int)) := by omega
      have qb : (i : Int) ≥ (A.length : Int) := by omega
      have r1 : rdOf ByteArray.empty ((A ++ List.replicate m []).map strOf) (i : Int) = strOf [] := by
        unfold rdOf
        rw [Int.toNat_natCast, List.getD_eq_getElem?_getD, List.map_append, List.getElem?_append_right (by rw [List.length_map]; omega), List.map_replicate, List.getElem?_replicate, if_pos (by rw [List.length_map]; omega)]
        rfl
      rw [if_neg qa, if_pos qb, r1, strOf_list, if_pos rfl, e]
theorem parts_mid (s : ByteArray) (c x2 : Int) (hs : s.size ≤ 1500) (m : Nat) (hm : Int.tmod x2 20 = (m : Int)) (hm20 : m < 20) (d : Nat) : ∀ (k j : Nat), j ≤ m → m - j = d → d + 2000 < k →
    lamplighterlaw06_DelimParts.l1 k s c x2 (1 + (s.data.toList.count (UInt8.ofNat c.toNat) : Int)) (strOf (s.data.toList ++ List.replicate j (UInt8.ofNat c.toNat))) (m : Int) (j : Int) = some true := by
  have hl := len_size s
  have hcl := cutL_length (UInt8.ofNat c.toNat) s.data.toList
  have hct := List.count_le_length (a := UInt8.ofNat c.toNat) (l := s.data.toList)
  induction d with
  | zero =>
    intro k j hj hd hk
    obtain ⟨k, rfl⟩ : ∃ m, k = m + 1 + 1 := ⟨k - 1 - 1, by omega⟩
    obtain rfl : j = m := by omega
    have q : ¬ ((j : Int) < (j : Int)) := by omega
    have hsz : (strOf (s.data.toList ++ List.replicate j (UInt8.ofNat c.toNat))).size ≤ 4000000000 := by rw [strOf_size, List.length_append, List.length_replicate]; omega
    have hlast := parts_last (cutL (UInt8.ofNat c.toNat) s.data.toList) j (by omega) (by omega) _ k 0 (by omega) rfl (by omega)
    have e1 : (((cutL (UInt8.ofNat c.toNat) s.data.toList).map strOf).length : Int) = 1 + (s.data.toList.count (UInt8.ofNat c.toNat) : Int) := by rw [List.length_map]; omega
    have e2 : (((cutL (UInt8.ofNat c.toNat) s.data.toList ++ List.replicate j []).map strOf).length : Int) = 1 + (s.data.toList.count (UInt8.ofNat c.toNat) : Int) + j := by rw [List.length_map, List.length_append, List.length_replicate]; omega
    have w1 : wrap64 (1 + (s.data.toList.count (UInt8.ofNat c.toNat) : Int) + wrap64 (j : Int)) = 1 + (s.data.toList.count (UInt8.ofNat c.toNat) : Int) + j := by
      rw [wrap_fit (x := (j : Int)) (by omega) (by omega), wrap_fit (by omega) (by omega)]
    rw [lamplighterlaw06_DelimParts.l1, if_neg q, pCut_spec s c (by omega), Option.bind_some, pCut_spec _ c hsz, Option.bind_some, strOf_data, cut_more, alive_is _ (by omega), Option.bind_some, if_pos rfl, if_pos e1, hm, w1, e2, bne_self_eq_false,
      lamplighterlaw06_DelimParts.j2, if_neg (by decide)]
    exact hlast
  | succ d ih =>
    intro k j hj hd hk
    obtain ⟨k, rfl⟩ : ∃ m, k = m + 1 := ⟨k - 1, by omega⟩
    have q : (j : Int) < (m : Int) := by omega
    have e := ih k (j + 1) (by omega) (by omega) (by omega)
    have q1 : (strOf (s.data.toList ++ List.replicate j (UInt8.ofNat c.toNat))).size + (strOfNums [c]).size ≤ 9223372036854775807 := by
      rw [byte_str, strOf_size, strOf_size, List.length_append, List.length_replicate, List.length_singleton]; omega
    have w1 : ((j : Int) + 1) % 256 = ((j + 1 : Nat) : Int) := by omega
    have a1 : strOf (s.data.toList ++ List.replicate j (UInt8.ofNat c.toNat)) ++ strOfNums [c] = strOf (s.data.toList ++ List.replicate (j + 1) (UInt8.ofNat c.toNat)) := by
      rw [byte_str, ← strOf_snoc, List.replicate_succ', List.append_assoc]
    rw [lamplighterlaw06_DelimParts.l1, if_pos q, Option.bind_some, if_pos q1, w1, a1, e]
theorem parts_first (s : ByteArray) (c x2 : Int) (hc : 0 ≤ c ∧ c ≤ 255) (hs : s.size ≤ 1500) (hx : 0 ≤ x2 ∧ x2 ≤ 255) (d : Nat) : ∀ (k i : Nat), i ≤ s.size → s.size - i = d → d + 2100 < k →
    lamplighterlaw06_DelimParts.l0 k s c x2 (1 + ((s.data.toList.take i).count (UInt8.ofNat c.toNat) : Int)) (s.size : Int) i = some true := by
  have hl := len_size s
  induction d with
  | zero =>
    intro k i hi hd hk
    obtain ⟨k, rfl⟩ : ∃ m, k = m + 1 := ⟨k - 1, by omega⟩
    have q : ¬ ((i : Int) < (s.size : Int)) := by omega
    obtain ⟨m, hm⟩ : ∃ m : Nat, Int.tmod x2 20 = (m : Int) := ⟨(Int.tmod x2 20).toNat, by
      have := Int.tmod_nonneg 20 hx.1
      omega⟩
    have hm20 : m < 20 := by
      have := Int.tmod_lt_of_pos x2 (show (0 : Int) < 20 by decide)
      omega
    have hmid := parts_mid s c x2 hs m hm hm20 _ k 0 (by omega) rfl (by omega)
    rw [List.replicate_zero, List.append_nil, strOf_of] at hmid
    rw [lamplighterlaw06_DelimParts.l0, if_neg q, List.take_of_length_le (by omega), hm]
    exact hmid
  | succ d ih =>
    intro k i hi hd hk
    obtain ⟨k, rfl⟩ : ∃ m, k = m + 1 := ⟨k - 1, by omega⟩
    have hlt : i < s.size := by omega
    have q : (i : Int) < (s.size : Int) := by omega
    have q0 : (0 : Int) ≤ (i : Int) := by omega
    have e := ih k (i + 1) (by omega) (by omega) (by omega)
    have hb := bt_list s i hlt c hc
    have hct := List.count_le_length (a := UInt8.ofNat c.toNat) (l := s.data.toList.take i)
    rw [List.length_take] at hct
    have hcb : ((s.data.toList.take i).count (UInt8.ofNat c.toNat)) ≤ 1500 := by omega
    have w1 : wrap64 (1 + ((s.data.toList.take i).count (UInt8.ofNat c.toNat) : Int) + 1) = 1 + (((s.data.toList.take i).count (UInt8.ofNat c.toNat) + 1 : Nat) : Int) := by rw [wrap_fit (by omega) (by omega)]; omega
    rw [take_one _ i (by omega), List.count_append, List.count_singleton] at e
    rw [lamplighterlaw06_DelimParts.l0, if_pos q, if_pos q0, if_pos q, wrap_succ i (by omega)]
    by_cases h : bt s i = c
    · rw [if_pos (by rw [hb.1 h]; exact beq_self_eq_true _)] at e
      rw [if_pos h, w1, e]
    · rw [if_neg (by rw [beq_iff_eq]; exact fun x => h (hb.2 x)), Nat.add_zero] at e
      rw [if_neg h, e]
theorem DelimParts (s : ByteArray) (c x2 : Int) (_hs : s.size ≤ 140737488351232) (hc : 0 ≤ c ∧ c ≤ 255) (hx : 0 ≤ x2 ∧ x2 ≤ 255) : ∃ k, lamplighterlaw06_DelimParts.f k s c x2 = some true := by
  suffices H : ∀ k, 4000 ≤ k → lamplighterlaw06_DelimParts.f k s c x2 = some true from ⟨_, H 4000 (Nat.le_refl _)⟩
  intro k hk
  unfold lamplighterlaw06_DelimParts.f
  by_cases hb : (s.size : Int) > 1500
  · rw [if_pos hb, alive_is k (by omega), Option.bind_some]
  · rw [if_neg hb]
    exact parts_first s c x2 hc (by omega) hx _ k 0 (by omega) rfl (by omega)
end Go.Proofs.YtabcmcllcfapkaaDoor.Pure
