/- delim.Cut, delim.Join, the document's Join, and 'the same texts', as laws over bytes; condition: texts that count at most 1048576 together, and fuel for a step a text. -/
import Derived.Test.YtabcmcllcfapkaaDoorPHx5
import Derived.Test.YtabcmcllcfapkaaDoorPHx6
import Derived.Test.YtabcmcllcfapkaaDoorRefCut
namespace Go.Proofs.YtabcmcllcfapkaaDoor
open Go Go.RowKit Go.Proofs.YtabcmcllcfapkaaDoor.PH Go.Proofs.YtabcmcllcfapkaaDoorW.PrintWords Go.Proofs.YtabcmcllcfapkaaDoorW.PrintLast

theorem dCut_spec (s : ByteArray) (c : Int) (hs : s.size ≤ 4000000000) : delim_Cut.f s c = some ((cutL (UInt8.ofNat c.toNat) s.data.toList).map strOf) := by
  unfold delim_Cut.f strings_Split.f
  rw [byte_str, if_pos ⟨by rw [strOf_size]; rfl, hs⟩, Option.bind_some, strOf_data]
  rfl
theorem joinL_bulk (c : UInt8) (l : List ByteArray) : (joinL c (l.map (·.data.toList))).length ≤ bulkOf l := by
  refine Nat.le_trans (joinL_length c _) ?_
  rw [List.map_map]
  unfold bulkOf
  have : ((fun x : List UInt8 => 1 + x.length) ∘ fun x : ByteArray => x.data.toList) = fun s : ByteArray => 1 + s.size := by
    funext x; simp only [Function.comp, len_size]
  rw [this]
  exact Nat.le_refl _
theorem dJoin_spec (l : List ByteArray) (c : Int) (hl : bulkOf l ≤ 10000000) : delim_Join.f c l = some (strOf (joinL (UInt8.ofNat c.toNat) (l.map (·.data.toList)))) := by
  have h1 := bulk_length l
  have h2 := joinL_bulk (UInt8.ofNat c.toNat) l
  unfold delim_Join.f strings_Join.f
  rw [byte_str, strOf_data, join_one_byte, if_pos ⟨by omega, by omega⟩, Option.bind_some]
  rfl
theorem take_rd (l : List ByteArray) (i : Nat) (h : i < l.length) : l.take (i + 1) = l.take i ++ [rdOf ByteArray.empty l (i : Int)] := by
  rw [List.take_succ_eq_append_getElem h]
  simp [rdOf, h]
theorem bulk_taken (l : List ByteArray) (i : Nat) (h : i < l.length) : bulkOf (l.take i) ≤ bulkOf l ∧ (rdOf ByteArray.empty l (i : Int)).size ≤ bulkOf l := by
  have h1 := congrArg bulkOf (List.take_append_drop i l)
  rw [bulk_append, drop_cons l i h, bulk_cons] at h1
  omega
theorem refJ_loop (c : Int) (l : List ByteArray) (hl : bulkOf l ≤ 1048576) (d : Nat) : ∀ (k i : Nat), i ≤ l.length → l.length - i = d → d < k →
    lamplighterref06_Join.l0 k c l (strOf (joinL (UInt8.ofNat c.toNat) ((l.take i).map (·.data.toList)))) i = some (strOf (joinL (UInt8.ofNat c.toNat) (l.map (·.data.toList)))) := by
  have hlen := bulk_length l
  induction d with
  | zero =>
    intro k i hi hd hk
    obtain ⟨k, rfl⟩ : ∃ m, k = m + 1 := ⟨k - 1, by omega⟩
    have q : ¬ ((i : Int) < (l.length : Int)) := by omega
    rw [lamplighterref06_Join.l0, if_neg q, List.take_of_length_le (by omega)]
  | succ d ih =>
    intro k i hi hd hk
    obtain ⟨k, rfl⟩ : ∃ m, k = m + 1 := ⟨k - 1, by omega⟩
    have hlt : i < l.length := by omega
    have q : (i : Int) < (l.length : Int) := by omega
    have q0 : (0 : Int) ≤ (i : Int) := by omega
    have hi9 : i ≤ 1000000000 := by omega
    have e := ih k (i + 1) (by omega) (by omega) (by omega)
    have hb := bulk_taken l i hlt
    have hj := joinL_bulk (UInt8.ofNat c.toNat) (l.take i)
    have hone : (strOfNums [c]).size = 1 := by rw [byte_str, strOf_size]; rfl
    have q1 : (strOf (joinL (UInt8.ofNat c.toNat) ((l.take i).map (·.data.toList)))).size + (strOfNums [c]).size ≤ 9223372036854775807 := by rw [hone, strOf_size]; omega
    have q2 : (strOf (joinL (UInt8.ofNat c.toNat) ((l.take i).map (·.data.toList))) ++ strOfNums [c]).size + (rdOf ByteArray.empty l (i : Int)).size ≤ 9223372036854775807 := by rw [ByteArray.size_append, hone, strOf_size]; omega
    have q3 : (strOf (joinL (UInt8.ofNat c.toNat) ((l.take i).map (·.data.toList)))).size + (rdOf ByteArray.empty l (i : Int)).size ≤ 9223372036854775807 := by rw [strOf_size]; omega
    rw [take_rd l i hlt, List.map_append, List.map_singleton] at e
    rw [lamplighterref06_Join.l0, if_pos q, wrap_succ i hi9]
    by_cases h0 : (i : Int) > 0
    · have hne : (l.take i).map (·.data.toList) ≠ [] := by
        intro h
        have := congrArg List.length h
        rw [List.length_map, List.length_take, List.length_nil] at this
        omega
      rw [joinL_snoc _ hne] at e
      have a1 : strOf (joinL (UInt8.ofNat c.toNat) ((l.take i).map (·.data.toList))) ++ strOfNums [c] ++ rdOf ByteArray.empty l (i : Int) =
          strOf (joinL (UInt8.ofNat c.toNat) ((l.take i).map (·.data.toList)) ++ UInt8.ofNat c.toNat :: (rdOf ByteArray.empty l (i : Int)).data.toList) := by
        rw [byte_str, ← strOf_of (rdOf ByteArray.empty l (i : Int)), ← strOf_snoc, ← strOf_snoc, strOf_data]
        simp
      rw [if_pos h0, Option.bind_some, if_pos q1, if_pos q0, if_pos q2, a1]
      exact e
    · have hi0 : i = 0 := by omega
      subst hi0
      have a2 : strOf (joinL (UInt8.ofNat c.toNat) ((l.take 0).map (·.data.toList))) ++ rdOf ByteArray.empty l ((0 : Nat) : Int) = strOf (joinL (UInt8.ofNat c.toNat) ((l.take 0).map (·.data.toList) ++ [(rdOf ByteArray.empty l ((0 : Nat) : Int)).data.toList])) := by
        rw [List.take_zero, List.map_nil, List.nil_append]
        show strOf [] ++ _ = strOf (rdOf ByteArray.empty l ((0 : Nat) : Int)).data.toList
        rw [← strOf_of (rdOf ByteArray.empty l ((0 : Nat) : Int)), ← strOf_snoc, strOf_data]
        rfl
      rw [if_neg h0, if_pos q0, if_pos q3, a2]
      exact e
theorem refJ_spec (k : Nat) (c : Int) (l : List ByteArray) (hl : bulkOf l ≤ 1048576) (hk : l.length < k) : lamplighterref06_Join.f k c l = some (strOf (joinL (UInt8.ofNat c.toNat) (l.map (·.data.toList)))) := by
  unfold lamplighterref06_Join.f
  exact refJ_loop c l hl _ k 0 (by omega) rfl (by omega)
theorem same6_loop (l : List ByteArray) (hl : l.length ≤ 1000000000) (d : Nat) : ∀ (k i : Nat), l.length - i = d → d < k → lamplighterlaw06_same.l0 k l l (l.length : Int) i = some true := by
  induction d with
  | zero =>
    intro k i hi hk
    obtain ⟨k, rfl⟩ : ∃ m, k = m + 1 := ⟨k - 1, by omega⟩
    have q : ¬ ((i : Int) < (l.length : Int)) := by omega
    rw [lamplighterlaw06_same.l0, if_neg q]
  | succ d ih =>
    intro k i hi hk
    obtain ⟨k, rfl⟩ : ∃ m, k = m + 1 := ⟨k - 1, by omega⟩
    have q : (i : Int) < (l.length : Int) := by omega
    have q0 : (0 : Int) ≤ (i : Int) := by omega
    have e := ih k (i + 1) (by omega) (by omega)
    rw [lamplighterlaw06_same.l0, if_pos q, if_pos q0, if_pos q, if_pos q, if_pos rfl, wrap_succ i (by omega), e]
theorem same6_refl (k : Nat) (l : List ByteArray) (hl : l.length ≤ 1000000000) (hk : l.length < k) : lamplighterlaw06_same.f k l l = some true := by
  unfold lamplighterlaw06_same.f
  rw [if_pos rfl]
  exact same6_loop l hl _ k 0 rfl (by omega)
theorem map_back (l : List ByteArray) : (l.map (·.data.toList)).map strOf = l := by
  rw [List.map_map]
  conv => rhs; rw [← List.map_id l]
  exact List.map_congr_left (fun z _ => by simp [strOf])
theorem map_forth (l : List (List UInt8)) : (l.map strOf).map (·.data.toList) = l := by
  rw [List.map_map]
  conv => rhs; rw [← List.map_id l]
  exact List.map_congr_left (fun z _ => by simp [strOf])
theorem cut_bulk (c : UInt8) (l : List UInt8) : bulkOf ((cutL c l).map strOf) = l.length + 1 := by
  induction l with
  | nil => rfl
  | cons x l ih =>
    by_cases hx : x = c
    · subst hx
      rw [cutL_hit, List.map_cons, bulk_cons, ih, strOf_size, List.length_cons, List.length_nil]
      omega
    · obtain ⟨h, t, e⟩ := cutL_form c l
      rw [e, List.map_cons, bulk_cons, strOf_size] at ih
      rw [cutL_miss hx, e, List.headD_cons, List.tail_cons, List.map_cons, bulk_cons, strOf_size, List.length_cons, List.length_cons]
      omega
end Go.Proofs.YtabcmcllcfapkaaDoor
