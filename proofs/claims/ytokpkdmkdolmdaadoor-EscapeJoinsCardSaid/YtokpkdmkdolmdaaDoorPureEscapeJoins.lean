/- The law EscapeJoins as a statement over bytes: two texts, one behind the other, are encoded as both are, and decoded as both are; conditions: the signs are bytes. -/
import Derived.Test.YtokpkdmkdolmdaaDoorPGx22
import Derived.Test.YtokpkdmkdolmdaaDoorAlive7
namespace Go.Proofs.YtokpkdmkdolmdaaDoor.Pure
open Go Go.RowKit Go.Proofs.YtokpkdmkdolmdaaDoor.PG Go.Proofs.YtokpkdmkdolmdaaDoorW.PrintWords Go.Proofs.YtokpkdmkdolmdaaDoorW.PrintLast

theorem both_data (s t : ByteArray) : (s ++ t).data.toList = s.data.toList ++ t.data.toList := by
  rw [ByteArray.data_append, Array.toList_append]
theorem both_size (s t : ByteArray) : (s ++ t).size = s.size + t.size := by
  rw [← len_size, both_data, List.length_append, len_size, len_size]
theorem joins_dec {s t : ByteArray} {a0 a1 a2 a3 a4 : Int} (hs : s.size ≤ 800) (ht : t.size ≤ 800) (hb : B5 a0 a1 a2 a3 a4) (hg : Sg a0 a1 a2 a3 a4) : lamplighterlaw07_EscapeJoins.j1 1 s t false a0 a1 a2 a3 a4 = some true := by
  have hst : (s ++ t).size ≤ 1000000 := by rw [both_size]; omega
  have q1 : s.size + t.size ≤ 9223372036854775807 := by omega
  rw [lamplighterlaw07_EscapeJoins.j1, if_neg (by decide), dec_sg (by omega) hb hg, Option.bind_some, dec_sg (by omega) hb hg, Option.bind_some]
  dsimp only
  rw [if_pos q1, dec_sg hst hb hg, Option.bind_some]
  dsimp only
  unfold decL
  rw [len_size, len_size, len_size, both_data, cut_glue, both_size]
  have hs1 := cut_sum (xE a3) s.data.toList
  have ht1 := cut_sum (xE a3) t.data.toList
  rw [len_size] at hs1 ht1
  obtain ⟨x, p, hx⟩ := cutL_form (xE a3) s.data.toList
  obtain ⟨y, q, hy⟩ := cutL_form (xE a3) t.data.toList
  rw [hx, hy]
  rw [hx] at hs1
  rw [hy] at ht1
  cases hp : decO a0 a1 a2 a3 a4 false (x :: p) with
  | none =>
    obtain ⟨j, hj⟩ := decS_none a0 a1 a2 a3 a4 s.size _ false [] 0 hp
    rw [hj]
    rfl
  | some z =>
    rw [decS_some a0 a1 a2 a3 a4 s.size _ false z [] 0 hp]
    cases hq : decO a0 a1 a2 a3 a4 false (y :: q) with
    | none =>
      obtain ⟨j, hj⟩ := decS_none a0 a1 a2 a3 a4 t.size _ false [] 0 hq
      rw [hj]
      rfl
    | some u =>
      have hz := decO_length a0 a1 a2 a3 a4 _ false z hp
      have hu := decO_length a0 a1 a2 a3 a4 _ false u hq
      rw [decS_some a0 a1 a2 a3 a4 t.size _ false u [] 0 hq, decS_some a0 a1 a2 a3 a4 (s.size + t.size) _ false (z ++ u) [] 0 (decO_glue a0 a1 a2 a3 a4 y q u hq p x false z hp)]
      dsimp only
      have q2 : (strOf ([] ++ z)).size + (strOf ([] ++ u)).size ≤ 9223372036854775807 := by rw [strOf_size, strOf_size, List.nil_append, List.nil_append]; omega
      have q3 : (strOf ([] ++ (z ++ u))).toList = (strOf ([] ++ z) ++ strOf ([] ++ u)).toList := by rw [List.nil_append, List.nil_append, List.nil_append, strOf_snoc]
      rw [if_pos rfl, if_pos rfl, if_pos rfl, if_pos q2, if_pos q3, wrap_fit (by omega) (by omega)]
      congr 1
      rw [beq_iff_eq]
      omega
theorem EscapeJoins (s t : ByteArray) (a0 a1 a2 a3 a4 : Int) (hs : s.size ≤ 140737488351232) (ht : t.size ≤ 140737488351232) (h0 : 0 ≤ a0 ∧ a0 ≤ 255) (h1 : 0 ≤ a1 ∧ a1 ≤ 255) (h2 : 0 ≤ a2 ∧ a2 ≤ 255) (h3 : 0 ≤ a3 ∧ a3 ≤ 255) (h4 : 0 ≤ a4 ∧ a4 ≤ 255) : ∃ k, lamplighterlaw07_EscapeJoins.f k s t a0 a1 a2 a3 a4 = some true := by
  have hb : B5 a0 a1 a2 a3 a4 := ⟨h0, h1, h2, h3, h4⟩
  refine ⟨2, ?_⟩
  unfold lamplighterlaw07_EscapeJoins.f
  by_cases hbig : (s.size : Int) > 800
  · rw [if_pos hbig, lamplighterlaw07_EscapeJoins.j0, if_pos rfl, alive_is]; rfl
  rw [if_neg hbig]
  by_cases hbig2 : (t.size : Int) > 800
  · rw [decide_eq_true hbig2, lamplighterlaw07_EscapeJoins.j0, if_pos rfl, alive_is]; rfl
  rw [decide_eq_false hbig2, lamplighterlaw07_EscapeJoins.j0, if_neg (by decide)]
  have hst : (s ++ t).size ≤ 1000000 := by rw [both_size]; omega
  have q1 : s.size + t.size ≤ 9223372036854775807 := by omega
  by_cases hg : Sg a0 a1 a2 a3 a4
  · rw [enc_sg (by omega) hb hg, Option.bind_some, enc_sg (by omega) hb hg, Option.bind_some, if_pos q1, enc_sg hst hb hg, Option.bind_some, alive_is, Option.bind_some, if_pos rfl]
    dsimp only
    have l1 := encL_length a0 a1 a2 a3 a4 s.data.toList
    have l2 := encL_length a0 a1 a2 a3 a4 t.data.toList
    rw [len_size] at l1 l2
    have q2 : (strOf (encL a0 a1 a2 a3 a4 s.data.toList)).size + (strOf (encL a0 a1 a2 a3 a4 t.data.toList)).size ≤ 9223372036854775807 := by rw [strOf_size, strOf_size]; omega
    rw [if_pos rfl, if_pos rfl, if_pos q2, both_data, encL_append, strOf_snoc]
    have e : ((strOf (encL a0 a1 a2 a3 a4 s.data.toList) ++ strOf (encL a0 a1 a2 a3 a4 t.data.toList)).toList != (strOf (encL a0 a1 a2 a3 a4 s.data.toList) ++ strOf (encL a0 a1 a2 a3 a4 t.data.toList)).toList) = false := by simp
    rw [e]
    exact joins_dec (by omega) (by omega) hb hg
  · rw [enc_no (by omega) hb hg, Option.bind_some, enc_no (by omega) hb hg, Option.bind_some, if_pos q1, enc_no hst hb hg, Option.bind_some, alive_is, Option.bind_some, if_pos rfl]
    dsimp only
    have e : ((⟨#[]⟩ : ByteArray).toList != ((⟨#[]⟩ : ByteArray) ++ (⟨#[]⟩ : ByteArray)).toList) = false := by
      rw [Lib.toList_data, Lib.toList_data, both_data]
      rfl
    have q2 : (⟨#[]⟩ : ByteArray).size + (⟨#[]⟩ : ByteArray).size ≤ 9223372036854775807 := by decide
    rw [if_pos rfl, if_pos rfl, if_pos q2, e, lamplighterlaw07_EscapeJoins.j1, if_neg (by decide), dec_no (by omega) hb hg, Option.bind_some, dec_no (by omega) hb hg, Option.bind_some]
    rfl
end Go.Proofs.YtokpkdmkdolmdaaDoor.Pure
