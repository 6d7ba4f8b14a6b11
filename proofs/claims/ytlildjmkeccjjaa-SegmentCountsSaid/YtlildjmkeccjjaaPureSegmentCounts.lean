/- The law SegmentCounts as a statement over bytes: a segment has a field more for each sign that is laid behind it, and that one is empty; for every text and every count; no condition. -/
import Derived.Test.YtlildjmkeccjjaaPDx2
import Derived.Test.YtlildjmkeccjjaaSeg
namespace Go.Proofs.Ytlildjmkeccjjaa.Pure
open Go Go.RowKit Go.Proofs.Ytlildjmkeccjjaa.PD Go.Proofs.YtlildjmkeccjjaaW.PrintWords Go.Proofs.YtlildjmkeccjjaaW.PrintLast

theorem plain_is : lamplighterlaw08_plain.f = some (124, 94, 126, 92, 38) := rfl
theorem alive_is : lamplighterlaw08_alive.f = some true := by
  unfold lamplighterlaw08_alive.f
  rw [plain_is]
  simp only [Option.bind_some]
  rw [Field_spec _ _ _ _ _ _ _ (by decide) (by decide) (by decide)]
  simp only [Option.bind_some]
  rw [Part_spec _ _ _ _ _ _ _ _ (by rw [strOf_size]; decide) (by decide) (by decide)]
  simp only [Option.bind_some]
  rw [Field_spec _ _ _ _ _ _ _ (by decide) (by decide) (by decide)]
  simp only [Option.bind_some, strOf_data, strOf_list]
  simp [fieldsOf, cutL, nthOf, MSH, strOf]
/-- One sign more behind a segment. -/
theorem fields_snoc {d : UInt8} {s : List UInt8} (h3 : 3 ≤ s.length) (hm : s.take 3 = MSH → fieldsOf d s ≠ []) : fieldsOf d (s ++ [d]) = fieldsOf d s ++ [[]] := by
  have ht : (s ++ [d]).take 3 = s.take 3 := by rw [List.take_append_of_le_length h3]
  by_cases h : s.take 3 = MSH
  · by_cases hp : (s.drop 3).take 1 = [d]
    · have h4 : 4 ≤ s.length := by
        have := congrArg List.length hp
        simp only [List.length_take, List.length_drop, List.length_cons, List.length_nil] at this
        omega
      have hp2 : ((s ++ [d]).drop 3).take 1 = [d] := by
        rw [List.drop_append_of_le_length h3, List.take_append_of_le_length (by rw [List.length_drop]; omega), hp]
      unfold fieldsOf
      rw [ht, if_pos h, if_pos hp2, if_pos h, if_pos hp, List.drop_append_of_le_length h4, cutL_snoc_hit]
      rfl
    · exact absurd (by unfold fieldsOf; rw [if_pos h, if_neg hp]) (hm h)
  · unfold fieldsOf
    rw [ht, if_neg h, if_neg h, cutL_snoc_hit]
    obtain ⟨x, t, e⟩ := cutL_form d s
    rw [e]; rfl
theorem fields_more {d : UInt8} {s : List UInt8} (h3 : 3 ≤ s.length) (hm : s.take 3 = MSH → fieldsOf d s ≠ []) (k : Nat) : fieldsOf d (s ++ List.replicate k d) = fieldsOf d s ++ List.replicate k [] := by
  induction k with
  | zero => simp
  | succ k ih =>
    rw [List.replicate_succ', ← List.append_assoc, fields_snoc, ih, List.append_assoc, ← List.replicate_succ']
    · simp; omega
    · intro h
      rw [ih]
      rw [List.take_append_of_le_length h3] at h
      simp [hm h]
theorem nthOf_more (l : List (List UInt8)) (k : Nat) (n : Int) : nthOf (l ++ List.replicate k []) n = nthOf l n := by
  unfold nthOf
  split
  · rw [List.getD_eq_getElem?_getD, List.getD_eq_getElem?_getD]
    by_cases h : (n - 1).toNat < l.length
    · rw [List.getElem?_append_left h]
    · rw [List.getElem?_append_right (by omega), List.getElem?_eq_none (l := l) (by omega), List.getElem?_replicate]
      split <;> rfl
  · rfl
theorem wrap_small {x : Int} (h0 : -9223372036854775808 ≤ x) (h1 : x ≤ 9223372036854775807) : wrap64 x = x := by unfold wrap64; omega

/-- The last loop: each field is the one that it was. -/
theorem loop1 (s t : ByteArray) (N K : Nat) (hs : s.size ≤ 1000) (ht : t.size ≤ 2000) (hN : (fieldsOf 124 s.data.toList).length = N) (hT : fieldsOf 124 t.data.toList = fieldsOf 124 s.data.toList ++ List.replicate K [])
    (hNK : N + K ≤ 3000) (d : Nat) : ∀ (k : Nat) (i : Int), 1 ≤ i → i ≤ N + K + 1 → (N + K + 1 : Int) - i = d → d < k → lamplighterlaw08_SegmentCounts.l1 k s N K t i 124 94 126 92 38 = some true := by
  have hw : wrap64 ((N : Int) + K) = (N : Int) + K := wrap_small (by omega) (by omega)
  have h124 : UInt8.ofNat (124 : Int).toNat = 124 := rfl
  induction d with
  | zero =>
    intro k i h0 h1 hd hk
    obtain ⟨k, rfl⟩ : ∃ m, k = m + 1 := ⟨k - 1, by omega⟩
    simp only [lamplighterlaw08_SegmentCounts.l1]
    rw [hw, if_neg (by omega)]
  | succ d ih =>
    intro k i h0 h1 hd hk
    obtain ⟨k, rfl⟩ : ∃ m, k = m + 1 := ⟨k - 1, by omega⟩
    simp only [lamplighterlaw08_SegmentCounts.l1]
    rw [hw, if_pos (by omega), Field_spec t i _ _ _ _ _ (by omega) (by decide) (by omega), Field_spec s i _ _ _ _ _ (by omega) (by decide) (by omega), h124, hT, nthOf_more]
    simp only [Option.bind_some]
    rw [if_pos (decide_eq_true ⟨h0, by rw [List.length_append, List.length_replicate]; omega⟩), hN]
    have e : (decide (1 ≤ i ∧ i ≤ (N : Int)) != decide (i ≤ (N : Int))) = false := by
      rw [bne_eq_false_iff_eq, decide_eq_decide]; omega
    simp only [e, if_true, Bool.false_eq_true, if_false]
    rw [wrap_small (x := i + 1) (by omega) (by omega)]
    exact ih k (i + 1) (by omega) (by omega) (by omega) (by omega)
/-- The first loop: the signs are laid behind the text. -/
theorem loop0 (s : ByteArray) (N K : Nat) (hs : s.size ≤ 1000) (hK : K ≤ 20) (h3 : 3 ≤ s.size) (hN : (fieldsOf 124 s.data.toList).length = N) (hm : s.data.toList.take 3 = MSH → fieldsOf 124 s.data.toList ≠ [])
    (M : Nat) (hM : 3000 ≤ M) (d : Nat) : ∀ (k : Nat) (j : Nat) (t : ByteArray), t.data.toList = s.data.toList ++ List.replicate j 124 → j ≤ K → K - j = d → M + d < k → lamplighterlaw08_SegmentCounts.l0 k s N K t K j 124 94 126 92 38 = some true := by
  have hl := len_size s
  have hNs : N ≤ s.size + 2 := by
    rw [← hN]
    unfold fieldsOf
    split
    · split
      · rw [List.length_cons, cutL_length]
        have := List.count_le_length (a := (124 : UInt8)) (l := s.data.toList.drop 4)
        rw [List.length_drop] at this
        omega
      · simp
    · rw [List.length_tail, cutL_length]
      have := List.count_le_length (a := (124 : UInt8)) (l := s.data.toList)
      omega
  have h124 : UInt8.ofNat (124 : Int).toNat = 124 := rfl
  induction d with
  | zero =>
    intro k j t ht hj hd hk
    obtain ⟨k, rfl⟩ : ∃ m, k = m + 1 := ⟨k - 1, by omega⟩
    have htl := len_size t
    rw [ht, List.length_append, List.length_replicate] at htl
    obtain rfl : j = K := by omega
    simp only [lamplighterlaw08_SegmentCounts.l0]
    have hT := fields_more (d := 124) (by omega) hm j
    rw [← ht] at hT
    rw [if_neg (by omega), count_spec t _ _ _ _ _ (by omega) (by decide), h124, hT, List.length_append, List.length_replicate, hN]
    have hw : wrap64 ((N : Int) + (j : Int)) = (N : Int) + (j : Int) := wrap_small (by omega) (by omega)
    have q : ((N + j : Nat) : Int) = (N : Int) + (j : Int) := Int.natCast_add N j
    rw [Option.bind_some, hw, if_pos q]
    exact loop1 s t N j hs (by omega) hN hT (by omega) (N + j) k 1 (by omega) (by omega) (by omega) (by omega)
  | succ d ih =>
    intro k j t ht hj hd hk
    obtain ⟨k, rfl⟩ : ∃ m, k = m + 1 := ⟨k - 1, by omega⟩
    have htl := len_size t
    rw [ht, List.length_append, List.length_replicate] at htl
    simp only [lamplighterlaw08_SegmentCounts.l0]
    have q1 : (j : Int) < (K : Int) := by omega
    have q2 : t.size + 1 ≤ 9223372036854775807 := by omega
    rw [if_pos q1, if_pos q2, wrap_small (x := (j : Int) + 1) (by omega) (by omega)]
    refine ih k (j + 1) _ ?_ (by omega) (by omega) (by omega)
    rw [ByteArray.data_append, Array.toList_append, ht, List.replicate_succ', List.append_assoc]

theorem counts_at (n : Nat) (hn : 3100 ≤ n) (s : ByteArray) (a : Int) (hs : s.size ≤ 140737488351232) (hb : 0 ≤ a ∧ a ≤ 255) : lamplighterlaw08_SegmentCounts.f (n + 1) s a = some true := by
  have h124 : UInt8.ofNat (124 : Int).toNat = 124 := rfl
  have done : ∀ x1 x6 p q r u v, lamplighterlaw08_SegmentCounts.j0 (n + 1) s x1 x6 true p q r u v = some true := fun x1 x6 p q r u v => by
    simp only [lamplighterlaw08_SegmentCounts.j0]
    rw [if_pos True.intro, alive_is]; rfl
  unfold lamplighterlaw08_SegmentCounts.f
  rw [plain_is]
  simp only [Option.bind_some]
  rw [count_spec s _ _ _ _ _ (by omega) (by decide), alive_is, name_spec, h124]
  simp only [Option.bind_some, strOf_list]
  rw [if_pos True.intro]
  by_cases h1 : (s.size : Int) > 1000
  · rw [if_pos h1]; exact done _ _ _ _ _ _ _
  · rw [if_neg h1]
    have go : (s.data.toList.take 3 = MSH → fieldsOf 124 s.data.toList ≠ []) → lamplighterlaw08_SegmentCounts.j0 (n + 1) s a ((fieldsOf 124 s.data.toList).length : Int) (decide ((s.size : Int) < 3)) 124 94 126 92 38 = some true := fun hm => by
      by_cases h3 : (s.size : Int) < 3
      · rw [decide_eq_true h3]; exact done _ _ _ _ _ _ _
      · rw [decide_eq_false h3]
        simp only [lamplighterlaw08_SegmentCounts.j0]
        rw [if_neg (by decide)]
        obtain ⟨A, rfl⟩ := Int.eq_ofNat_of_zero_le hb.1
        have e1 : Int.tmod (A : Int) 20 = ((A % 20 : Nat) : Int) := by rw [Int.tmod_eq_emod_of_nonneg (by omega)]; rfl
        rw [e1, wrap_small (by omega) (by omega)]
        exact loop0 s _ (A % 20) (by omega) (by omega) (by omega) rfl hm 3000 (by omega) (A % 20) n 0 s (by simp) (by omega) (by omega) (by omega)
    by_cases hm : s.data.toList.take 3 = [77, 83, 72]
    · rw [if_pos hm]
      by_cases h0 : ((fieldsOf 124 s.data.toList).length : Int) = 0
      · rw [if_pos h0]; exact done _ _ _ _ _ _ _
      · rw [if_neg h0]
        exact go (fun _ e => h0 (by rw [e]; rfl))
    · rw [if_neg hm]
      exact go (fun h => absurd h hm)
theorem SegmentCounts : lamplighterlaw08_SegmentCounts.Pure := by
  intro s a hs ha
  have hb : 0 ≤ a ∧ a ≤ 255 := by simpa [Lit.wf, IntKind.min, IntKind.max, IntKind.signed, IntKind.bits] using ha
  exact ⟨4999 + 1, counts_at 4999 (by decide) s a hs hb⟩
end Go.Proofs.Ytlildjmkeccjjaa.Pure
