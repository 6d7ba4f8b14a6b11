/- The law AckBack as a statement over five signs, ten texts and a number: an answer that is built is read as its code and id; conditions: the numbers are bytes, the texts are such as memory bears. -/
import Derived.Test.YtcjcaojgminjpabDoorPBx21
import Derived.Test.YtcjcaojgminjpabDoorAlive10
import Derived.Test.YtcjcaojgminjpabDoorAckRead
import Derived.Test.YtcjcaojgminjpabDoorGreat10
namespace Go.Proofs.YtcjcaojgminjpabDoor.Pure
open Go Go.RowKit Go.Proofs.YtcjcaojgminjpabDoor.PB Go.Proofs.YtcjcaojgminjpabDoorW.PrintWords Go.Proofs.YtcjcaojgminjpabDoorW.PrintLast
/-- An answer that is built is read as its code and id. -/
theorem readA_built {c0 c1 c2 c3 c4 : Int} (hc : IsByte c0) (hc1 : IsByte c1) (hc2 : IsByte c2) (hc3 : IsByte c3) (hc4 : IsByte c4) {a5 a6 a7 a8 a9 a10 a11 a12 a13 a14 : ByteArray} (hg : GoodS c0 c1 c2 c3 c4) (hf : ¬ Foul (UInt8.ofNat c0.toNat) [a5, a6, a7, a8, a9, a10, a11, a12, a13, a14])
    (code id : ByteArray) (hk : code.data.toList ∈ codeB) (hid : UInt8.ofNat c0.toNat ∉ id.data.toList) (hid13 : (13 : UInt8) ∉ id.data.toList) (behind : List UInt8) :
    readA (numsOf (segOf c0 c1 c2 c3 c4 ((trimB [a5, a6, a7, a8, a9, a10, a11, a12, a13, a14]).map (·.data.toList)) ++ 13 :: (msaOf c0 code id ++ 13 :: behind))) = (code.data.toList, id.data.toList, 0) := by
  have e13 : ∀ s : List UInt8, numsOf (13 :: s) = 13 :: numsOf s := fun _ => rfl
  have hm := read_written hc hc1 hc2 hc3 hc4 hg hf (numsOf (msaOf c0 code id ++ 13 :: behind))
  obtain ⟨k1, k2⟩ := clean_texts hf
  have hM13 : (13 : UInt8) ∉ msaOf c0 code id := make_no13 (good_no13 hg).1 (by decide) (by decide) _ (by
    intro x hx
    simp only [List.map_cons, List.map_nil, List.mem_cons, List.not_mem_nil, or_false] at hx
    rcases hx with rfl | rfl
    · exact code_no13 _ hk
    · exact hid13)
  obtain ⟨s1, s2⟩ := segs_two behind (seg_no13 hg k2) hM13
  unfold readA
  rw [nums_append, e13, hm]
  dsimp only
  rw [if_pos rfl, ← e13, ← nums_append, bytesOf_numsOf, if_neg (by omega), s2]
  exact msa_tells hg hk hid [] (by simp)
theorem AckBack (c0 c1 c2 c3 c4 : Int) (t5 t6 t7 t8 t9 t10 t11 t12 t13 t14 : ByteArray) (n : Int) (hc0 : IsByte c0) (hc1 : IsByte c1) (hc2 : IsByte c2) (hc3 : IsByte c3) (hc4 : IsByte c4) (ht5 : t5.size ≤ 140737488351232) (ht6 : t6.size ≤ 140737488351232) (ht7 : t7.size ≤ 140737488351232) (ht8 : t8.size ≤ 140737488351232) (ht9 : t9.size ≤ 140737488351232) (ht10 : t10.size ≤ 140737488351232) (ht11 : t11.size ≤ 140737488351232) (ht12 : t12.size ≤ 140737488351232) (ht13 : t13.size ≤ 140737488351232) (ht14 : t14.size ≤ 140737488351232) (hn : 0 ≤ n ∧ n ≤ 255) : ∃ k, lamplighterlaw10_AckBack.f k c0 c1 c2 c3 c4 t5 t6 t7 t8 t9 t10 t11 t12 t13 t14 n = some true := by
  refine ⟨60001, ?_⟩
  have hcd : ack_Codes.f = some codesL := rfl
  unfold lamplighterlaw10_AckBack.f
  rw [hcd, Option.bind_some, great10_spec c0 c1 c2 c3 c4 t5 t6 t7 t8 t9 t10 t11 t12 t13 t14 ht5 ht6 ht7 ht8 ht9 ht10 ht11 ht12 ht13 ht14, Option.bind_some]
  by_cases hg : (t5.size : Int) + (t6.size : Int) + (t7.size : Int) + (t8.size : Int) + (t9.size : Int) + (t10.size : Int) + (t11.size : Int) + (t12.size : Int) + (t13.size : Int) + (t14.size : Int) > 2000
  · rw [if_pos (decide_eq_true hg), lamplighterlaw10_AckBack.j0, if_pos rfl, alive10_is 60000 (by decide)]
    rfl
  · have hb : t5.size + t6.size + t7.size + t8.size + t9.size + t12.size + t13.size + t14.size ≤ 9000 := by omega
    have hl3 : ((codesL.length : Nat) : Int) = 3 := rfl
    rw [if_neg (by rw [decide_eq_true_eq]; exact hg), alive10_is 60001 (by decide), Option.bind_some, if_pos rfl, hl3, lamplighterlaw10_AckBack.j0, if_neg (by decide), hl3, if_neg (by decide), wrap_fit (by omega) (by omega)]
    have t0 : 0 ≤ Int.tmod n 3 := Int.tmod_nonneg _ hn.1
    have t1 : Int.tmod n 3 < 3 := Int.tmod_lt_of_pos n (by decide)
    obtain ⟨i, hi⟩ := Int.eq_ofNat_of_zero_le t0
    rw [hi] at t0 t1 ⊢
    obtain ⟨v, hv, ev⟩ : ∃ v ∈ codeB, rdOf ByteArray.empty codesL (i : Int) = strOf v := by
      have hi3 : i < 3 := by omega
      have : i = 0 ∨ i = 1 ∨ i = 2 := by omega
      rcases this with rfl | rfl | rfl
      · exact ⟨[65, 65], by decide, rfl⟩
      · exact ⟨[65, 69], by decide, rfl⟩
      · exact ⟨[65, 82], by decide, rfl⟩
    have hvs : v.length ≤ 1000 := by
      have : ∀ v ∈ codeB, v.length ≤ 1000 := by decide
      exact this v hv
    rw [if_pos t0, if_pos t1, ev, Build_spec 60000 (by decide) c0 c1 c2 c3 c4 t5 t6 t7 t8 t9 t10 t11 t12 t13 t14 (strOf v) hb (by rw [strOf_size]; exact hvs) hc0 hc1 hc2 hc3 hc4, Option.bind_some]
    dsimp only
    by_cases h0 : (buildOf c0 c1 c2 c3 c4 t5 t6 t7 t8 t9 t12 t13 t14 (strOf v)).2 = 0
    · obtain ⟨hk, hgood, hf⟩ := build_zero h0
      have hid : ¬ (UInt8.ofNat c0.toNat ∈ t12.data.toList ∨ (13 : UInt8) ∈ t12.data.toList) := fun h => hf ⟨t12, by simp, h⟩
      have hlen : (numsOf (segOf c0 c1 c2 c3 c4 ((trimB [t7, t8, t5, t6, t9, ⟨#[]⟩, ACK, t12, t13, t14]).map (·.data.toList)) ++ 13 :: (msaOf c0 (strOf v) t12 ++ [13]))).length ≤ 1000000000 := by
        have hAs : ACK.size = 3 := rfl
        have h0s : (⟨#[]⟩ : ByteArray).size = 0 := rfl
        have hbk : bulkOf [t7, t8, t5, t6, t9, ⟨#[]⟩, ACK, t12, t13, t14] ≤ 9010 + 3 := bulk10 (n := 9003) (by omega)
        have hsl := seg_length c0 c1 c2 c3 c4 (trimB [t7, t8, t5, t6, t9, ⟨#[]⟩, ACK, t12, t13, t14])
        have hbt := trim_bulk [t7, t8, t5, t6, t9, ⟨#[]⟩, ACK, t12, t13, t14]
        have hms := msa_length c0 (strOf v) t12
        rw [strOf_size] at hms
        rw [nums_length, List.length_append, List.length_cons, List.length_append, List.length_singleton]
        omega
      have e13 : ∀ s : List UInt8, numsOf (13 :: s) = 13 :: numsOf s := fun _ => rfl
      have hA := readA_built hc0 hc1 hc2 hc3 hc4 hgood hf (strOf v) t12 hk (fun h => hid (.inl h)) (fun h => hid (.inr h)) []
      have hM := read_written hc0 hc1 hc2 hc3 hc4 hgood hf (numsOf (msaOf c0 (strOf v) t12 ++ [13]))
      rw [build_nums hk hgood hf]
      dsimp only
      rw [if_pos rfl, ackRead_spec 60000 (by decide) _ (nums_bytes _) hlen, Option.bind_some, MRead_spec 60000 (by decide) _ (nums_bytes _) hlen, Option.bind_some, hA, nums_append, e13, hM]
      dsimp only
      rw [if_pos rfl, strOf_data, strOf_list, strOf_list, Lib.toList_data, beq_self_eq_true, beq_self_eq_true]
      simp only [beq_self_eq_true, Bool.and_self, if_true]
      rw [show ACK.toList = [65, 67, 75] by rw [Lib.toList_data]; rfl]
      rfl
    · rw [if_neg h0]
      have hne : (numsOf (buildOf c0 c1 c2 c3 c4 t5 t6 t7 t8 t9 t12 t13 t14 (strOf v)).1 = []) ∧ ((buildOf c0 c1 c2 c3 c4 t5 t6 t7 t8 t9 t12 t13 t14 (strOf v)).2 = 11 ∨ (buildOf c0 c1 c2 c3 c4 t5 t6 t7 t8 t9 t12 t13 t14 (strOf v)).2 = 10) := by
        unfold buildOf at h0 ⊢
        rw [if_pos (show (strOf v).data.toList ∈ codeB by rw [strOf_data]; exact hv)] at h0 ⊢
        by_cases h2 : (writeOf c0 c1 c2 c3 c4 [t7, t8, t5, t6, t9, ⟨#[]⟩, ACK, t12, t13, t14]).2 = 0
        · rw [if_pos h2] at h0
          exact absurd rfl h0
        · rw [if_neg h2]
          refine ⟨rfl, ?_⟩
          dsimp only
          unfold writeOf at h2 ⊢
          split at h2
          · split at h2
            · rename_i a b; rw [if_pos a, if_pos b]; exact .inr rfl
            · exact absurd rfl h2
          · rename_i a; rw [if_neg a]; exact .inl rfl
      rw [hne.1, if_pos (show ((([] : List Int).length : Nat) : Int) = 0 from rfl)]
      rcases hne.2 with h | h
      · rw [h, if_pos rfl]
      · rw [h, if_neg (by decide)]
        rfl
end Go.Proofs.YtcjcaojgminjpabDoor.Pure
