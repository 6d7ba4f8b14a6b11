/- The law MshCuts over five signs, ten texts and a number: the walk's premises hold; conditions: the signs are bytes, the texts are such as memory bears. -/
import Derived.Test.YteaehlkpghpnkaaDoorCutsW
import Derived.Test.YteaehlkpghpnkaaDoorMshBack
import Derived.Test.YteaehlkpghpnkaaDoorMshCut
import Derived.Test.YteaehlkpghpnkaaDoorAlive09
import Derived.Test.YteaehlkpghpnkaaDoorGreat9
namespace Go.Proofs.YteaehlkpghpnkaaDoor.Pure
open Go Go.RowKit Go.Proofs.YteaehlkpghpnkaaDoor.PH Go.Proofs.YteaehlkpghpnkaaDoorW.PrintWords Go.Proofs.YteaehlkpghpnkaaDoorW.PrintLast
set_option linter.unusedVariables false
theorem wsize (c c1 c2 c3 c4 : Int) (ys : List ByteArray) : (writeOf c c1 c2 c3 c4 ys).1.size ≤ 8 + bulkOf ys := by
  unfold writeOf
  split
  · split
    · exact Nat.zero_le _
    · rw [written, strOf_size]
      have h1 := seg_length c c1 c2 c3 c4 (trimB ys)
      have h2 := trim_bulk ys
      omega
  · exact Nat.zero_le _
/-- What is left of a head's segment that is cut behind its signs is a segment of the texts that are left. -/
theorem seg_cut (c c1 c2 c3 c4 : Int) {ZS : List (List UInt8)} (hz : ZS ≠ []) (m : Nat) :
    (segOf c c1 c2 c3 c4 ZS).take (9 + m) = segOf c c1 c2 c3 c4 (cutL (UInt8.ofNat c.toNat) ((joinL (UInt8.ofNat c.toNat) ZS).take m)) := by
  have e : ∀ Z : List (List UInt8), Z ≠ [] → segOf c c1 c2 c3 c4 Z = (MSH ++ UInt8.ofNat c.toNat :: (Lib.bytesOf [c1, c2, c3, c4] ++ [UInt8.ofNat c.toNat])) ++ joinL (UInt8.ofNat c.toNat) Z := by
    intro Z hZ
    unfold segOf
    rw [joinL_cons _ _ hZ]
    simp
  rw [e ZS hz, e _ (cutL_ne _ _), joinL_cutL]
  have h9 : (MSH ++ UInt8.ofNat c.toNat :: (Lib.bytesOf [c1, c2, c3, c4] ++ [UInt8.ofNat c.toNat])).length = 9 := rfl
  rw [List.take_append, h9, List.take_of_length_le (by rw [h9]; omega), Nat.add_sub_cancel_left]
theorem get_snoc (a : List (List UInt8)) (j : Nat) (hj : j ≤ a.length) (p : List UInt8) (i : Nat) : (a.take j ++ [p]).getD i [] = if i < j then a.getD i [] else if i = j then p else [] := by
  have hl : (a.take j).length = j := by rw [List.length_take]; omega
  rw [List.getD_eq_getElem?_getD]
  by_cases h : i < j
  · rw [if_pos h, List.getElem?_append_left (by omega), List.getElem?_take, if_pos h, List.getD_eq_getElem?_getD]
  · rw [if_neg h, List.getElem?_append_right (by omega), hl]
    by_cases h2 : i = j
    · rw [if_pos h2, h2]
      simp
    · rw [if_neg h2, List.getElem?_eq_none (by simp; omega)]
      rfl
theorem MshCuts (c0 c1 c2 c3 c4 : Int) (t5 t6 t7 t8 t9 t10 t11 t12 t13 t14 : ByteArray) (cut : Int) (hc0 : IsByte c0) (hc1 : IsByte c1) (hc2 : IsByte c2) (hc3 : IsByte c3) (hc4 : IsByte c4) (ht5 : t5.size ≤ 140737488351232) (ht6 : t6.size ≤ 140737488351232) (ht7 : t7.size ≤ 140737488351232) (ht8 : t8.size ≤ 140737488351232) (ht9 : t9.size ≤ 140737488351232) (ht10 : t10.size ≤ 140737488351232) (ht11 : t11.size ≤ 140737488351232) (ht12 : t12.size ≤ 140737488351232) (ht13 : t13.size ≤ 140737488351232) (ht14 : t14.size ≤ 140737488351232) (hcutw : (Lit.int .i64 cut).wf = true) (W : World) (hG : GlobOK W) :
    Calls Tryd.prog 3 #[.agg #[.int .u8 c0, .int .u8 c1, .int .u8 c2, .int .u8 c3, .int .u8 c4, .string t5, .string t6, .string t7, .string t8, .string t9, .string t10, .string t11, .string t12, .string t13, .string t14], .int .i64 cut] W fun e w' => e = .returned (.bool true) ∧ Below W.heap.size W w' := by
  have hcut : -9223372036854775808 ≤ cut ∧ cut ≤ 9223372036854775807 := by simpa [Lit.wf, IntKind.min, IntKind.max, IntKind.signed, IntKind.bits] using hcutw
  have hgr := great9_spec c0 c1 c2 c3 c4 t5 t6 t7 t8 t9 t10 t11 t12 t13 t14 ht5 ht6 ht7 ht8 ht9 ht10 ht11 ht12 ht13 ht14
  refine cuts_walk 60000 c0 c1 c2 c3 c4 t5 t6 t7 t8 t9 t10 t11 t12 t13 t14 cut W hG hcut (alive9_is 60000 (by decide)) _ hgr ?_
  intro hgf
  have hsm : t5.size + t6.size + t7.size + t8.size + t9.size + t10.size + t11.size + t12.size + t13.size + t14.size ≤ 3000 := by
    have := of_decide_eq_false hgf
    omega
  have hbk : bulkOf [t5, t6, t7, t8, t9, t10, t11, t12, t13, t14] ≤ 3010 := by
    simp only [bulkOf, List.map_cons, List.map_nil, List.sum_cons, List.sum_nil]
    omega
  have hws := wsize c0 c1 c2 c3 c4 [t5, t6, t7, t8, t9, t10, t11, t12, t13, t14]
  refine ⟨(writeOf c0 c1 c2 c3 c4 [t5, t6, t7, t8, t9, t10, t11, t12, t13, t14]).1, (writeOf c0 c1 c2 c3 c4 [t5, t6, t7, t8, t9, t10, t11, t12, t13, t14]).2, Write_spec 60000 (by decide) c0 c1 c2 c3 c4 t5 t6 t7 t8 t9 t10 t11 t12 t13 t14 (by omega) hc0 hc1 hc2 hc3 hc4, by omega, ?_⟩
  intro he h9
  obtain ⟨hg, hf⟩ := writeOf_zero he
  rw [writeOf_ok hg hf] at h9 hws ⊢
  dsimp only at h9 hws ⊢
  obtain ⟨k1, k2⟩ := clean_texts hf
  have hY := fun y i h => texts_get [t5, t6, t7, t8, t9, t10, t11, t12, t13, t14] y i h
  obtain ⟨ZS, hZS⟩ : ∃ ZS, ZS = (trimB [t5, t6, t7, t8, t9, t10, t11, t12, t13, t14]).map (fun y : ByteArray => y.data.toList) := ⟨_, rfl⟩
  have hZS' : (trimB [t5, t6, t7, t8, t9, t10, t11, t12, t13, t14]).map (·.data.toList) = ZS := hZS.symm
  rw [hZS'] at k1 k2 hY h9 hws ⊢
  clear hZS hZS'
  rw [strOf_size] at h9 hws
  have hne : ZS ≠ [] := by
    intro e
    rw [e] at h9
    have : (segOf c0 c1 c2 c3 c4 []).length = 8 := rfl
    omega
  obtain ⟨j, p, q, j1, j2, j3⟩ := cutL_take (UInt8.ofNat c0.toNat) (joinL (UInt8.ofNat c0.toNat) ZS) (Int.tmod (IntKind.u64.wrap cut) (((strOf (segOf c0 c1 c2 c3 c4 ZS)).size : Int) - 8)).toNat
  rw [cutL_joinL hne k1] at j1 j2 j3
  obtain ⟨Z', hZ'⟩ : ∃ Z', Z' = ZS.take j ++ [p] := ⟨_, rfl⟩
  have hZc : ∀ z ∈ Z', UInt8.ofNat c0.toNat ∉ z := by
    intro z hz
    rw [hZ', ← j2] at hz
    exact cutL_clean_parts _ _ z hz
  have hmem : ∀ x, x ∈ ZS.getD j [] → x ≠ 13 := by
    intro x hx e
    rw [List.getD_eq_getElem?_getD, List.getElem?_eq_getElem j1] at hx
    exact k2 _ (List.getElem_mem j1) (e ▸ hx)
  have hZ13 : ∀ z ∈ Z', (13 : UInt8) ∉ z := by
    intro z hz hm
    rw [hZ'] at hz
    rcases List.mem_append.1 hz with hz | hz
    · exact k2 z (List.mem_of_mem_take hz) hm
    · rw [List.mem_singleton] at hz
      subst hz
      exact hmem 13 (by rw [j3]; exact List.mem_append_left _ hm) rfl
  have hcutE : bytesOf ((strOf (segOf c0 c1 c2 c3 c4 ZS)).extract 0 (cutAt cut (strOf (segOf c0 c1 c2 c3 c4 ZS)))) = numsOf (segOf c0 c1 c2 c3 c4 Z') := by
    rw [numsOf_bytes, Lib.extract_data, List.drop_zero, Nat.sub_zero, strOf_data]
    unfold cutAt
    rw [seg_cut c0 c1 c2 c3 c4 hne, j2, ← hZ']
  have hlen : (numsOf (segOf c0 c1 c2 c3 c4 Z')).length ≤ 1000000000 := by
    rw [nums_length]
    have e := congrArg List.length (seg_cut c0 c1 c2 c3 c4 hne (Int.tmod (IntKind.u64.wrap cut) (((strOf (segOf c0 c1 c2 c3 c4 ZS)).size : Int) - 8)).toNat)
    rw [j2, ← hZ', List.length_take] at e
    omega
  have hR := read_alone hc0 hc1 hc2 hc3 hc4 hg Z' (by rw [hZ']; simp) hZc hZ13
  have hG' := fun i => get_snoc ZS j (by omega) p i
  rw [← hZ'] at hG'
  refine ⟨strOf (Z'.getD 0 []), strOf (Z'.getD 1 []), strOf (Z'.getD 2 []), strOf (Z'.getD 3 []), strOf (Z'.getD 4 []), strOf (Z'.getD 5 []), strOf (Z'.getD 6 []), strOf (Z'.getD 7 []), strOf (Z'.getD 8 []), strOf (Z'.getD 9 []), ?_, ?_⟩
  · rw [hcutE, MRead_spec 60000 (by decide) _ (nums_bytes _) hlen, hR]
  · intro i hi
    have eX : ∀ i, i < 10 → ([strOf (Z'.getD 0 []), strOf (Z'.getD 1 []), strOf (Z'.getD 2 []), strOf (Z'.getD 3 []), strOf (Z'.getD 4 []), strOf (Z'.getD 5 []), strOf (Z'.getD 6 []), strOf (Z'.getD 7 []), strOf (Z'.getD 8 []), strOf (Z'.getD 9 [])] : List ByteArray).getD i ByteArray.empty = strOf (Z'.getD i []) := by
      intro i hi
      have : i = 0 ∨ i = 1 ∨ i = 2 ∨ i = 3 ∨ i = 4 ∨ i = 5 ∨ i = 6 ∨ i = 7 ∨ i = 8 ∨ i = 9 := by omega
      rcases this with rfl | rfl | rfl | rfl | rfl | rfl | rfl | rfl | rfl | rfl <;> rfl
    have eY : ∀ i, i < 10 → ([t5, t6, t7, t8, t9, t10, t11, t12, t13, t14] : List ByteArray).getD i ByteArray.empty = strOf (ZS.getD i []) := by
      intro i hi
      refine (hY _ i ?_).symm
      rw [List.getD_eq_getElem?_getD, List.getElem?_eq_getElem (show i < ([t5, t6, t7, t8, t9, t10, t11, t12, t13, t14] : List ByteArray).length from hi)]
      rfl
    have hext : ∀ (a b : List UInt8), (strOf a).extract 0 (strOf b).size = strOf (a.take b.length) := by
      intro a b
      apply bytes_eq
      rw [Lib.extract_data, List.drop_zero, Nat.sub_zero, strOf_data, strOf_data, strOf_size]
    unfold OneCut
    rw [eX i hi, eY i hi, hext, strOf_size, strOf_size, hG' i]
    by_cases h1 : i < j
    · rw [if_pos h1]
      refine ⟨Nat.le_refl _, by rw [List.take_length], ?_⟩
      rintro ⟨m, hm, hne⟩
      refine absurd ?_ hne
      rw [eX m (by omega), eY m (by omega), hG' m, if_pos (by omega)]
    · rw [if_neg h1]
      by_cases h2 : i = j
      · rw [if_pos h2, h2, j3]
        refine ⟨by rw [List.length_append]; omega, by rw [List.take_left'] ; rfl, ?_⟩
        rintro ⟨m, hm, hne⟩
        refine absurd ?_ hne
        rw [eX m (by omega), eY m (by omega), hG' m, if_pos (by omega)]
      · rw [if_neg h2]
        exact ⟨Nat.zero_le _, rfl, fun _ => rfl⟩
end Go.Proofs.YteaehlkpghpnkaaDoor.Pure
