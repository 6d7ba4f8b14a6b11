/- The law MshBack as a statement over five signs, ten texts and bytes: what is written, with a 13 and anything behind, is read as that head; conditions: the signs and the bytes are bytes, the texts are such as memory bears. -/
import Derived.Test.YtcjcaojgminjpaaDoorPAx15
import Derived.Test.YtcjcaojgminjpaaDoorPAx16
import Derived.Test.YtcjcaojgminjpaaDoorAlive09
import Derived.Test.YtcjcaojgminjpaaDoorMshBack
import Derived.Test.YtcjcaojgminjpaaDoorGreat9
namespace Go.Proofs.YtcjcaojgminjpaaDoor.Pure
open Go Go.RowKit Go.Proofs.YtcjcaojgminjpaaDoor.PA Go.Proofs.YtcjcaojgminjpaaDoorW.PrintWords Go.Proofs.YtcjcaojgminjpaaDoorW.PrintLast
theorem cv_app_text (s : List UInt8) (l : List Int) (hs : s.length ≤ 1000000) (hl : l.length ≤ 1000000) : cv_app.f (strOf s ++ (⟨#[13]⟩ : ByteArray)) l = some (numsOf s ++ 13 :: l) := by
  have e : strOf s ++ (⟨#[13]⟩ : ByteArray) = strOf (s ++ [13]) := by rw [strOf_snoc]; rfl
  unfold cv_app.f
  rw [e, if_pos (by rw [strOf_size, List.length_append, List.length_singleton]; omega), numsOf_bytes, strOf_data, nums_append, List.append_assoc]
  rfl
theorem MshBack (c0 c1 c2 c3 c4 : Int) (t5 t6 t7 t8 t9 t10 t11 t12 t13 t14 : ByteArray) (l : List Int) (hc0 : IsByte c0) (hc1 : IsByte c1) (hc2 : IsByte c2) (hc3 : IsByte c3) (hc4 : IsByte c4) (ht5 : t5.size ≤ 140737488351232) (ht6 : t6.size ≤ 140737488351232) (ht7 : t7.size ≤ 140737488351232) (ht8 : t8.size ≤ 140737488351232) (ht9 : t9.size ≤ 140737488351232) (ht10 : t10.size ≤ 140737488351232) (ht11 : t11.size ≤ 140737488351232) (ht12 : t12.size ≤ 140737488351232) (ht13 : t13.size ≤ 140737488351232) (ht14 : t14.size ≤ 140737488351232) (hl : ∀ x ∈ l, IsByte x) : ∃ k, lamplighterlaw09_MshBack.f k c0 c1 c2 c3 c4 t5 t6 t7 t8 t9 t10 t11 t12 t13 t14 l = some true := by
  refine ⟨60001, ?_⟩
  unfold lamplighterlaw09_MshBack.f
  rw [great9_spec c0 c1 c2 c3 c4 t5 t6 t7 t8 t9 t10 t11 t12 t13 t14 ht5 ht6 ht7 ht8 ht9 ht10 ht11 ht12 ht13 ht14, Option.bind_some]
  by_cases hg : (t5.size : Int) + (t6.size : Int) + (t7.size : Int) + (t8.size : Int) + (t9.size : Int) + (t10.size : Int) + (t11.size : Int) + (t12.size : Int) + (t13.size : Int) + (t14.size : Int) > 3000
  · rw [if_pos (decide_eq_true hg), lamplighterlaw09_MshBack.j0, if_pos rfl, alive9_is 60000 (by decide)]
    rfl
  · rw [if_neg (by rw [decide_eq_true_eq]; exact hg), lamplighterlaw09_MshBack.j0]
    by_cases hs : (l.length : Int) > 1000
    · rw [if_pos (decide_eq_true hs), alive9_is 60000 (by decide)]
      rfl
    · have hb : bulkOf [t5, t6, t7, t8, t9, t10, t11, t12, t13, t14] ≤ 100000 := by
        simp only [bulkOf, List.map_cons, List.map_nil, List.sum_cons, List.sum_nil]
        omega
      have hbt := trim_bulk [t5, t6, t7, t8, t9, t10, t11, t12, t13, t14]
      have hsl := seg_length c0 c1 c2 c3 c4 (trimB [t5, t6, t7, t8, t9, t10, t11, t12, t13, t14])
      rw [if_neg (by rw [decide_eq_true_eq]; exact hs), Write_spec 60000 (by decide) c0 c1 c2 c3 c4 t5 t6 t7 t8 t9 t10 t11 t12 t13 t14 hb hc0 hc1 hc2 hc3 hc4, Option.bind_some]
      by_cases hG : GoodS c0 c1 c2 c3 c4
      · by_cases hF : Foul (UInt8.ofNat c0.toNat) [t5, t6, t7, t8, t9, t10, t11, t12, t13, t14]
        · have e : writeOf c0 c1 c2 c3 c4 [t5, t6, t7, t8, t9, t10, t11, t12, t13, t14] = (⟨#[]⟩, 10) := by unfold writeOf; rw [if_pos hG, if_pos hF]
          rw [e]
          dsimp only
          rw [if_neg (by decide), alive9_is 60000 (by decide), Option.bind_some, if_pos rfl, nil_str, strOf_list, if_pos rfl, if_neg (by decide)]
          rfl
        · have hall : ∀ x ∈ numsOf (segOf c0 c1 c2 c3 c4 ((trimB [t5, t6, t7, t8, t9, t10, t11, t12, t13, t14]).map (·.data.toList))) ++ 13 :: l, IsByte x := by
            intro x hx
            rcases List.mem_append.1 hx with hx | hx
            · exact nums_bytes _ x hx
            · rcases List.mem_cons.1 hx with rfl | hx
              · exact ⟨by decide, by decide⟩
              · exact hl x hx
          have hlen : (numsOf (segOf c0 c1 c2 c3 c4 ((trimB [t5, t6, t7, t8, t9, t10, t11, t12, t13, t14]).map (·.data.toList))) ++ 13 :: l).length ≤ 1000000000 := by
            rw [List.length_append, List.length_cons, nums_length]
            omega
          have hsz : (strOf (segOf c0 c1 c2 c3 c4 ((trimB [t5, t6, t7, t8, t9, t10, t11, t12, t13, t14]).map (·.data.toList)))).size + 1 ≤ 9223372036854775807 := by rw [strOf_size]; omega
          rw [writeOf_ok hG hF]
          dsimp only
          rw [if_pos rfl, if_pos hsz, cv_app_text _ l (by omega) (by omega), Option.bind_some, MRead_spec 60000 (by decide) _ hall hlen, Option.bind_some, read_written hc0 hc1 hc2 hc3 hc4 hG hF l, alive9_is 60000 (by decide), Option.bind_some, if_pos rfl]
          dsimp only
          rw [if_pos rfl]
          simp only [beq_self_eq_true, Bool.and_self]
      · have e : writeOf c0 c1 c2 c3 c4 [t5, t6, t7, t8, t9, t10, t11, t12, t13, t14] = (⟨#[]⟩, 11) := by unfold writeOf; rw [if_neg hG]
        rw [e]
        dsimp only
        rw [if_neg (by decide), alive9_is 60000 (by decide), Option.bind_some, if_pos rfl, nil_str, strOf_list, if_pos rfl, if_pos rfl]
end Go.Proofs.YtcjcaojgminjpaaDoor.Pure
