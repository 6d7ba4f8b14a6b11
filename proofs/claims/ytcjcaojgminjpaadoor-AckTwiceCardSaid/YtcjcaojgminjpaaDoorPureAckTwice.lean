/- The law AckTwice as a statement over five signs and ten texts: the answer to an answer goes back to who asked; conditions: the signs are bytes, the texts are such as memory bears. -/
import Derived.Test.YtcjcaojgminjpaaDoorPDx17
import Derived.Test.YtcjcaojgminjpaaDoorAlive10
import Derived.Test.YtcjcaojgminjpaaDoorGreat10
namespace Go.Proofs.YtcjcaojgminjpaaDoor.Pure
open Go Go.RowKit Go.Proofs.YtcjcaojgminjpaaDoor.PD Go.Proofs.YtcjcaojgminjpaaDoorW.PrintWords Go.Proofs.YtcjcaojgminjpaaDoorW.PrintLast
theorem foul_perm {c : UInt8} {ys zs : List ByteArray} (h : ∀ y ∈ zs, y ∈ ys) (hf : ¬ Foul c ys) : ¬ Foul c zs := fun ⟨y, hy, hm⟩ => hf ⟨y, h y hy, hm⟩
theorem AckTwice (c0 c1 c2 c3 c4 : Int) (t5 t6 t7 t8 t9 t10 t11 t12 t13 t14 : ByteArray) (hc0 : IsByte c0) (hc1 : IsByte c1) (hc2 : IsByte c2) (hc3 : IsByte c3) (hc4 : IsByte c4) (ht5 : t5.size ≤ 140737488351232) (ht6 : t6.size ≤ 140737488351232) (ht7 : t7.size ≤ 140737488351232) (ht8 : t8.size ≤ 140737488351232) (ht9 : t9.size ≤ 140737488351232) (ht10 : t10.size ≤ 140737488351232) (ht11 : t11.size ≤ 140737488351232) (ht12 : t12.size ≤ 140737488351232) (ht13 : t13.size ≤ 140737488351232) (ht14 : t14.size ≤ 140737488351232) : ∃ k, lamplighterlaw10_AckTwice.f k c0 c1 c2 c3 c4 t5 t6 t7 t8 t9 t10 t11 t12 t13 t14 = some true := by
  refine ⟨60000, ?_⟩
  unfold lamplighterlaw10_AckTwice.f
  rw [great10_spec c0 c1 c2 c3 c4 t5 t6 t7 t8 t9 t10 t11 t12 t13 t14 ht5 ht6 ht7 ht8 ht9 ht10 ht11 ht12 ht13 ht14, Option.bind_some]
  by_cases hg : (t5.size : Int) + (t6.size : Int) + (t7.size : Int) + (t8.size : Int) + (t9.size : Int) + (t10.size : Int) + (t11.size : Int) + (t12.size : Int) + (t13.size : Int) + (t14.size : Int) > 2000
  · rw [if_pos (decide_eq_true hg), alive10_is 60000 (by decide)]
    rfl
  · have hb : t5.size + t6.size + t7.size + t8.size + t9.size + t12.size + t13.size + t14.size ≤ 9000 := by omega
    have hb2 : t7.size + t8.size + t5.size + t6.size + t9.size + t12.size + t13.size + t14.size ≤ 9000 := by omega
    rw [if_neg (by rw [decide_eq_true_eq]; exact hg), Build_spec 60000 (by decide) c0 c1 c2 c3 c4 t5 t6 t7 t8 t9 t10 t11 t12 t13 t14 _ hb (by decide) hc0 hc1 hc2 hc3 hc4, Option.bind_some]
    dsimp only
    by_cases h0 : (buildOf c0 c1 c2 c3 c4 t5 t6 t7 t8 t9 t12 t13 t14 (⟨#[65, 65]⟩ : ByteArray)).2 = 0
    · obtain ⟨hk, hgood, hf⟩ := build_zero h0
      have hf2 : ¬ Foul (UInt8.ofNat c0.toNat) [t5, t6, t7, t8, t9, ⟨#[]⟩, ACK, t12, t13, t14] := by
        refine foul_perm ?_ hf
        intro y hy
        simp only [List.mem_cons, List.not_mem_nil, or_false] at hy ⊢
        rcases hy with rfl | rfl | rfl | rfl | rfl | rfl | rfl | rfl | rfl | rfl <;> simp
      have hsz : ∀ (a5 a6 a7 a8 code : ByteArray), a5.size + a6.size + a7.size + a8.size + t9.size + t12.size + t13.size + t14.size ≤ 9000 → code.size ≤ 1000 →
          (numsOf (segOf c0 c1 c2 c3 c4 ((trimB [a7, a8, a5, a6, t9, ⟨#[]⟩, ACK, t12, t13, t14]).map (·.data.toList)) ++ 13 :: (msaOf c0 code t12 ++ [13]))).length ≤ 1000000000 := by
        intro a5 a6 a7 a8 code h1 h2
        have hAs : ACK.size = 3 := rfl
        have h0s : (⟨#[]⟩ : ByteArray).size = 0 := rfl
        have hbk : bulkOf [a7, a8, a5, a6, t9, ⟨#[]⟩, ACK, t12, t13, t14] ≤ 9010 + 3 := bulk10 (n := 9003) (by omega)
        have hsl := seg_length c0 c1 c2 c3 c4 (trimB [a7, a8, a5, a6, t9, ⟨#[]⟩, ACK, t12, t13, t14])
        have hbt := trim_bulk [a7, a8, a5, a6, t9, ⟨#[]⟩, ACK, t12, t13, t14]
        have hms := msa_length c0 code t12
        rw [nums_length, List.length_append, List.length_cons, List.length_append, List.length_singleton]
        omega
      have e13 : ∀ s : List UInt8, numsOf (13 :: s) = 13 :: numsOf s := fun _ => rfl
      rw [build_nums hk hgood hf]
      dsimp only
      rw [if_pos rfl, MRead_spec 60000 (by decide) _ (nums_bytes _) (hsz t5 t6 t7 t8 _ hb (by decide)), Option.bind_some, nums_append, e13, read_written hc0 hc1 hc2 hc3 hc4 hgood hf]
      dsimp only
      rw [Build_spec 60000 (by decide) c0 c1 c2 c3 c4 t7 t8 t5 t6 t9 ⟨#[]⟩ ACK t12 t13 t14 _ hb2 (by decide) hc0 hc1 hc2 hc3 hc4, Option.bind_some, build_nums (by decide) hgood hf2]
      dsimp only
      rw [MRead_spec 60000 (by decide) _ (nums_bytes _) (hsz t7 t8 t5 t6 _ hb2 (by decide)), Option.bind_some, nums_append, e13, read_written hc0 hc1 hc2 hc3 hc4 hgood hf2]
      dsimp only
      rw [alive10_is 60000 (by decide), Option.bind_some, if_pos rfl, if_pos rfl, if_pos rfl, if_pos rfl, if_pos rfl, if_pos rfl, if_pos rfl, if_pos rfl, if_pos rfl, if_pos rfl, beq_self_eq_true]
    · rw [if_neg h0, alive10_is 60000 (by decide)]
      rfl
end Go.Proofs.YtcjcaojgminjpaaDoor.Pure
