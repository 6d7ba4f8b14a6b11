/- The law SegmentBack as a statement over texts and bytes: what is joined is split as it was, and the other way about; condition: the texts count at most 1048576 together. -/
import Derived.Test.YtabcmcllcfapkaaPFx5
import Derived.Test.YtabcmcllcfapkaaSegTexts
import Derived.Test.YtabcmcllcfapkaaAlive
namespace Go.Proofs.Ytabcmcllcfapkaa.Pure
open Go Go.RowKit Go.Proofs.Ytabcmcllcfapkaa.PF Go.Proofs.YtabcmcllcfapkaaW.PrintWords Go.Proofs.YtabcmcllcfapkaaW.PrintLast

theorem cut_mess (l : List ByteArray) (h : ∀ s ∈ l, (13 : UInt8) ∉ s.data.toList) : cutL 13 (messOf l) = l.map (·.data.toList) ++ [[]] := by
  induction l with
  | nil => rfl
  | cons x l ih =>
    show cutL 13 (x.data.toList ++ [13] ++ messOf l) = _
    rw [List.append_assoc, List.singleton_append, cutL_append_hit (h x (by simp)), ih (fun s hs => h s (by simp [hs]))]
    rfl
theorem segs_mess (l : List ByteArray) (h : ∀ s ∈ l, (13 : UInt8) ∉ s.data.toList) : (segsOf (messOf l)).map strOf = l := by
  unfold segsOf
  rw [cut_mess l h, if_pos (by simp)]
  rw [List.dropLast_concat, List.map_map]
  conv => rhs; rw [← List.map_id l]
  exact List.map_congr_left (fun z _ => by simp [strOf])
theorem mess_map (l : List (List UInt8)) : messOf (l.map strOf) = l.flatMap (fun x => x ++ [13]) := by
  induction l with
  | nil => rfl
  | cons x l ih =>
    show (strOf x).data.toList ++ [13] ++ messOf (l.map strOf) = _
    rw [ih, strOf_data]
    rfl
theorem mess_cut (b : List UInt8) : messOf ((cutL 13 b).map strOf) = b ++ [13] := by
  rw [mess_map]
  induction b with
  | nil => rfl
  | cons x b ih =>
    by_cases hx : x = 13
    · subst hx
      rw [cutL_hit, List.flatMap_cons, ih]; rfl
    · obtain ⟨h, t, e⟩ := cutL_form 13 b
      rw [e] at ih
      rw [cutL_miss hx, e]
      show (x :: h) ++ [13] ++ t.flatMap (fun x => x ++ [13]) = _
      have ih' : h ++ [13] ++ t.flatMap (fun x => x ++ [13]) = b ++ [13] := ih
      show x :: (h ++ [13] ++ t.flatMap (fun x => x ++ [13])) = _
      rw [ih']; rfl
theorem cut_last (b : List UInt8) : (cutL 13 b).getLast? = some [] ↔ b = [] ∨ b.getLast? = some 13 := by
  rcases List.eq_nil_or_concat b with rfl | ⟨t, x, rfl⟩
  · simp [cutL_nil]
  · rw [List.concat_eq_append]
    by_cases hx : x = 13
    · subst hx
      rw [cutL_snoc_hit]
      simp
    · rw [cutL_snoc_miss hx]
      simp [hx]
theorem mess_segs (b : List UInt8) : messOf ((segsOf b).map strOf) = if b = [] ∨ b.getLast? = some 13 then b else b ++ [13] := by
  have h := mess_cut b
  unfold segsOf
  by_cases hc : (cutL 13 b).getLast? = some []
  · rw [if_pos hc, if_pos ((cut_last b).1 hc)]
    have hd : cutL 13 b = (cutL 13 b).dropLast ++ [[]] := by
      rcases List.eq_nil_or_concat (cutL 13 b) with e | ⟨t, x, e⟩
      · exact absurd e (cutL_ne 13 b)
      · rw [List.concat_eq_append] at e
        rw [e] at hc ⊢
        simp only [List.getLast?_append, List.getLast?_singleton, Option.some_or, Option.some.injEq] at hc
        subst hc
        simp
    rw [hd, mess_map, List.flatMap_append] at h
    rw [mess_map]
    have h2 : ([[]] : List (List UInt8)).flatMap (fun x => x ++ [13]) = [13] := rfl
    rw [h2] at h
    exact List.append_cancel_right h
  · rw [if_neg hc, if_neg (fun e => hc ((cut_last b).2 e)), h]

/-- The texts without a 13. -/
def cleanOf (l : List ByteArray) : List ByteArray := l.filter (fun s => !decide ((13 : UInt8) ∈ s.data.toList))
theorem clean_snoc (l : List ByteArray) (s : ByteArray) : cleanOf (l ++ [s]) = if (13 : UInt8) ∈ s.data.toList then cleanOf l else cleanOf l ++ [s] := by
  unfold cleanOf
  rw [List.filter_append]
  by_cases h : (13 : UInt8) ∈ s.data.toList
  · rw [if_pos h, List.filter_cons, decide_eq_true h, List.filter_nil]; simp
  · rw [if_neg h, List.filter_cons, decide_eq_false h, List.filter_nil]; rfl
theorem clean_bulk (l : List ByteArray) : bulkOf (cleanOf l) ≤ bulkOf l := by
  induction l with
  | nil => exact Nat.le_refl _
  | cons x l ih =>
    unfold cleanOf at ih ⊢
    rw [List.filter_cons]
    split
    · rw [bulk_cons, bulk_cons]; omega
    · rw [bulk_cons]; omega
theorem inner_has (x1 : List Int) (x5 : List ByteArray) (s : ByteArray) (x20 : List ByteArray) (x21 x22 : Int) (hs : s.size ≤ 1048576) (d : Nat) : ∀ (k i : Nat), i ≤ s.size → s.size - i = d →
    lamplighterlaw08_SegmentBack.l1 (k + d + 1) x1 x5 s (decide ((13 : UInt8) ∈ s.data.toList.take i)) x20 x21 x22 (s.size : Int) i =
      if (13 : UInt8) ∈ s.data.toList then lamplighterlaw08_SegmentBack.l0 k x1 x5 x20 x21 (wrap64 (x22 + 1)) else (if x5.length < 8796093022208 then lamplighterlaw08_SegmentBack.l0 k x1 (x5 ++ [s]) x20 x21 (wrap64 (x22 + 1)) else none) := by
  have hl := len_size s
  induction d with
  | zero =>
    intro k i hi hd
    have q : ¬ ((i : Int) < (s.size : Int)) := by omega
    have e : s.data.toList.take i = s.data.toList := List.take_of_length_le (by omega)
    rw [Nat.add_zero, lamplighterlaw08_SegmentBack.l1, if_neg q, e]
    by_cases h : (13 : UInt8) ∈ s.data.toList
    · rw [if_pos h, if_pos (by simpa using h)]
    · rw [if_neg h, if_neg (by simpa using h)]
  | succ d ih =>
    intro k i hi hd
    have hlt : i < s.size := by omega
    have q : (i : Int) < (s.size : Int) := by omega
    have q0 : (0 : Int) ≤ (i : Int) := by omega
    have e := ih k (i + 1) (by omega) (by omega)
    have ht := take_one s.data.toList i (by omega)
    have w3 : wrap64 ((i : Int) + 1) = ((i + 1 : Nat) : Int) := by rw [wrap_fit (by omega) (by omega)]; rfl
    rw [show k + (d + 1) + 1 = (k + d + 1) + 1 by omega, lamplighterlaw08_SegmentBack.l1, if_pos q, w3]
    by_cases h : (13 : UInt8) ∈ s.data.toList.take i
    · have h2 : (13 : UInt8) ∈ s.data.toList.take (i + 1) := by rw [ht]; simp [h]
      rw [decide_eq_true h2] at e
      rw [decide_eq_true h, if_pos rfl, e]
    · rw [decide_eq_false h, if_neg (by decide), if_pos q0, if_pos q]
      have hb : (bt s (i : Int) == 13) = decide ((13 : UInt8) ∈ s.data.toList.take (i + 1)) := by
        have hc := bt_list s i hlt 13 (by decide)
        have h13 : UInt8.ofNat (13 : Int).toNat = 13 := rfl
        rw [h13] at hc
        rw [ht, Bool.eq_iff_iff]
        simp only [beq_iff_eq, hc, decide_eq_true_eq, List.mem_append, h, false_or, List.mem_singleton]
        exact eq_comm
      rw [hb, e]
theorem back_end (x1 : List Int) (x5 : List ByteArray) (h1 : x1.length ≤ 2000) (hx : ∀ x ∈ x1, 0 ≤ x ∧ x ≤ 255) (h5 : bulkOf x5 ≤ 2000) (hc : ∀ s ∈ x5, (13 : UInt8) ∉ s.data.toList) (k : Nat) (hk : 4000 ≤ k) :
    ((segment_Split.f x1).bind fun t235 => ((segment_Join.f k t235).bind fun t238 => ((lamplighterlaw08_alive.f).bind fun t241 => (if t241 = true then ((segment_Join.f k x5).bind fun t242 => ((segment_Split.f t242).bind fun t245 => ((lamplighterlaw08_same.f k t245 x5).bind fun t248 => (lamplighterlaw08_SegmentBack.j3 k x1 (strOfNums t238) (!t248))))) else (lamplighterlaw08_SegmentBack.j3 k x1 (strOfNums t238) true))))) = some true := by
  have hm := mess_segs (Lib.bytesOf x1)
  have hb1 : (messOf ((segsOf (Lib.bytesOf x1)).map strOf)).length ≤ 2001 := by
    rw [hm]
    split
    · rw [bytesOf_len]; omega
    · rw [List.length_append, bytesOf_len, List.length_singleton]; omega
  rw [messOf_length] at hb1
  have hl1 := bulk_length ((segsOf (Lib.bytesOf x1)).map strOf)
  have hl5 := bulk_length x5
  have hn5 : (numsOf (messOf x5)).length = bulkOf x5 := by unfold numsOf; rw [List.length_map, messOf_length]
  obtain ⟨k, rfl⟩ : ∃ m, k = m + 1 := ⟨k - 1, by omega⟩
  rw [Split_spec x1 (by omega), Option.bind_some, Join_spec (k + 1) _ (by omega) (by omega), Option.bind_some, alive_is, Option.bind_some, if_pos rfl, Join_spec (k + 1) x5 (by omega) (by omega), Option.bind_some,
    Split_spec _ (by omega), Option.bind_some, bytesOf_numsOf, segs_mess x5 hc, same_refl (k + 1) x5 (by omega) (by omega), Option.bind_some, str_numsOf, hm]
  rw [lamplighterlaw08_SegmentBack.j3, if_neg (by decide)]
  have hst : strOfNums x1 = strOf (Lib.bytesOf x1) := by apply bytes_eq; rw [str_data, strOf_data]
  rcases List.eq_nil_or_concat x1 with rfl | ⟨t, y, rfl⟩
  · rw [if_pos (show ((([] : List Int).length : Nat) : Int) = 0 from rfl), hst, if_pos (show Lib.bytesOf [] = [] ∨ (Lib.bytesOf []).getLast? = some 13 from .inl rfl), beq_self_eq_true]
  · rw [List.concat_eq_append] at *
    have hlen : (t ++ [y]).length = t.length + 1 := by simp
    rw [hlen] at h1
    have hy := hx y (by simp)
    have hlast : (Lib.bytesOf (t ++ [y])).getLast? = some (UInt8.ofNat y.toNat) := by simp [Lib.bytesOf]
    have hne : Lib.bytesOf (t ++ [y]) ≠ [] := by simp [Lib.bytesOf]
    have q1 : ¬ (((t ++ [y]).length : Int) = 0) := by rw [hlen]; omega
    have w1 : wrap64 (((t ++ [y]).length : Int) - 1) = (t.length : Int) := by rw [hlen, wrap_fit (by omega) (by omega)]; omega
    have q2 : (0 : Int) ≤ (t.length : Int) := by omega
    have q3 : (t.length : Int) < ((t ++ [y]).length : Int) := by rw [hlen]; omega
    have r1 : rd (t ++ [y]) (t.length : Int) = y := by simp [rd]
    have hy13 : y = 13 ↔ UInt8.ofNat y.toNat = 13 := by
      constructor
      · rintro rfl; rfl
      · intro e
        have := congrArg UInt8.toNat e
        rw [UInt8.toNat_ofNat'] at this
        have h13 : (13 : UInt8).toNat = 13 := rfl
        omega
    have q4 : (strOf (Lib.bytesOf (t ++ [y]))).size + 1 ≤ 9223372036854775807 := by rw [strOf_size, bytesOf_len, hlen]; omega
    rw [if_neg q1, w1, if_pos q2, if_pos q3, r1, hst]
    by_cases hc13 : y = 13
    · rw [if_pos hc13, if_pos (.inr (by rw [hlast, hy13.1 hc13])), beq_self_eq_true]
    · rw [if_neg hc13, if_pos q4, if_neg (by
        rintro (e | e)
        · exact hne e
        · rw [hlast] at e; exact hc13 (hy13.2 (Option.some.inj e)))]
      have e2 : (⟨#[13]⟩ : ByteArray) = strOf [13] := rfl
      rw [e2, ← strOf_snoc, beq_self_eq_true]
theorem clean_has (l : List ByteArray) : ∀ s ∈ cleanOf l, (13 : UInt8) ∉ s.data.toList := by
  intro s hs
  have := (List.mem_filter.1 hs).2
  simpa using this
theorem take_snoc (l : List ByteArray) (i : Nat) (h : i < l.length) : l.take (i + 1) = l.take i ++ [rdOf ByteArray.empty l (i : Int)] := by
  rw [List.take_succ_eq_append_getElem h]
  simp [rdOf, h]
theorem bulk_take (l : List ByteArray) (i : Nat) : bulkOf (l.take i) ≤ bulkOf l := by
  have := congrArg bulkOf (List.take_append_drop i l)
  rw [bulk_append] at this
  omega
theorem back_loop (x1 : List Int) (l : List ByteArray) (h1 : x1.length ≤ 2000) (hx : ∀ x ∈ x1, 0 ≤ x ∧ x ≤ 255) (hl : bulkOf l ≤ 2000) (d : Nat) : ∀ (k i : Nat), i ≤ l.length → l.length - i = d → 2 * bulkOf (l.drop i) + 4000 < k →
    lamplighterlaw08_SegmentBack.l0 k x1 (cleanOf (l.take i)) l (l.length : Int) i = some true := by
  have hn := bulk_length l
  induction d with
  | zero =>
    intro k i hi hd hk
    obtain ⟨k, rfl⟩ : ∃ m, k = m + 1 := ⟨k - 1, by omega⟩
    have q : ¬ ((i : Int) < (l.length : Int)) := by omega
    have hcb := clean_bulk l
    rw [lamplighterlaw08_SegmentBack.l0, if_neg q, List.take_of_length_le (by omega)]
    exact back_end x1 (cleanOf l) h1 hx (by omega) (clean_has l) k (by omega)
  | succ d ih =>
    intro k i hi hd hk
    have hlt : i < l.length := by omega
    have q : (i : Int) < (l.length : Int) := by omega
    have q0 : (0 : Int) ≤ (i : Int) := by omega
    have hdr := drop_cons l i hlt
    have hbd := bulk_drop l i
    rw [hdr, bulk_cons] at hk hbd
    obtain ⟨k, rfl⟩ : ∃ m, k = m + (rdOf ByteArray.empty l (i : Int)).size + 1 + 1 := ⟨k - (rdOf ByteArray.empty l (i : Int)).size - 1 - 1, by omega⟩
    have e := ih k (i + 1) (by omega) (by omega) (by omega)
    have hcl : (cleanOf (l.take i)).length < 8796093022208 := by
      have a1 := bulk_length (cleanOf (l.take i))
      have a2 := clean_bulk (l.take i)
      have a3 := bulk_take l i
      omega
    have hin := inner_has x1 (cleanOf (l.take i)) (rdOf ByteArray.empty l (i : Int)) l (l.length : Int) (i : Int) (by omega) _ k 0 (by omega) rfl
    rw [take_snoc l i hlt, clean_snoc] at e
    have w3 : wrap64 ((i : Int) + 1) = ((i + 1 : Nat) : Int) := by rw [wrap_fit (by omega) (by omega)]; rfl
    rw [List.take_zero, show decide ((13 : UInt8) ∈ ([] : List UInt8)) = false by decide, Nat.sub_zero] at hin
    rw [lamplighterlaw08_SegmentBack.l0, if_pos q, if_pos q0, if_pos q]
    refine (show _ = _ from hin).trans ?_
    rw [w3, if_pos hcl]
    by_cases h : (13 : UInt8) ∈ (rdOf ByteArray.empty l (i : Int)).data.toList
    · rw [if_pos h] at e ⊢
      exact e
    · rw [if_neg h] at e ⊢
      exact e
theorem SegmentBack (l0 : List ByteArray) (l1 : List Int) (h0 : bulkOf l0 ≤ 1048576) (hx : ∀ x ∈ l1, 0 ≤ x ∧ x ≤ 255) : ∃ k, lamplighterlaw08_SegmentBack.f k l0 l1 = some true := by
  have hn := bulk_length l0
  suffices H : ∀ k, 2 * bulkOf l0 + 4000 < k → lamplighterlaw08_SegmentBack.f (k + 1) l0 l1 = some true from ⟨_, H (2 * bulkOf l0 + 4000 + 1) (by omega)⟩
  intro k hk
  unfold lamplighterlaw08_SegmentBack.f
  rw [bytes_spec (k + 1) l0 h0 (by omega), Option.bind_some]
  by_cases hb : ((bulkOf l0 : Nat) : Int) > 2000
  · rw [if_pos hb, lamplighterlaw08_SegmentBack.j0, if_pos rfl, alive_is, Option.bind_some]
  · rw [if_neg hb, lamplighterlaw08_SegmentBack.j0]
    by_cases hc : decide ((l1.length : Int) > 2000) = true
    · rw [if_pos hc, alive_is, Option.bind_some]
    · rw [if_neg hc]
      have hc2 : ¬ ((l1.length : Int) > 2000) := by simpa using hc
      exact back_loop l1 l0 (by omega) hx (by omega) _ k 0 (by omega) rfl (by simpa using hk)
end Go.Proofs.Ytabcmcllcfapkaa.Pure
