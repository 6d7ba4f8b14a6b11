/- The law MshOne as a statement over bytes: a head that was read is written, and that is read the same; conditions: the numbers are bytes. -/
import Derived.Test.YtcjcaojgminjpaaDoorPAx13
import Derived.Test.YtcjcaojgminjpaaDoorAlive09
import Derived.Test.YtcjcaojgminjpaaDoorMshOneCv
namespace Go.Proofs.YtcjcaojgminjpaaDoor.Pure
open Go Go.RowKit Go.Proofs.YtcjcaojgminjpaaDoor.PA Go.Proofs.YtcjcaojgminjpaaDoorW.PrintWords Go.Proofs.YtcjcaojgminjpaaDoorW.PrintLast
theorem MshOne (l : List Int) (h : ∀ x ∈ l, IsByte x) : ∃ k, lamplighterlaw09_MshOne.f k l = some true := by
  refine ⟨4000, ?_⟩
  unfold lamplighterlaw09_MshOne.f
  by_cases h0 : (l.length : Int) > 3000
  · rw [if_pos h0, alive9_is 4000 (by decide), Option.bind_some]
  · have hl : l.length ≤ 3000 := by omega
    rw [if_neg h0, MRead_spec 4000 (by decide) l h (by omega), Option.bind_some]
    rcases readM_cases h with ⟨e, he, hr⟩ | ⟨c, c1, c2, c3, c4, t5, t6, t7, t8, t9, t10, t11, t12, t13, t14, hr, hc, hc1, hc2, hc3, hc4, hg, hf, hs⟩
    · rw [hr]
      dsimp only
      rw [if_neg he, alive9_is 4000 (by decide), Option.bind_some, if_pos rfl]
      simp only [strOf_list]
      rfl
    · rw [hr]
      dsimp only
      have hbulk := bulk_ten hs
      have hbt := trim_bulk [t5, t6, t7, t8, t9, t10, t11, t12, t13, t14]
      have hsl := seg_length c c1 c2 c3 c4 (trimB [t5, t6, t7, t8, t9, t10, t11, t12, t13, t14])
      have hz : ∀ y ∈ [t5, t6, t7, t8, t9, t10, t11, t12, t13, t14], y.size ≤ 140737488355328 := fun y hy => Nat.le_trans (hs y hy) (by omega)
      have hz13 := hz t13 (by simp)
      have hz14 := hz t14 (by simp)
      have hall : ∀ x ∈ numsOf (segOf c c1 c2 c3 c4 ((trimB [t5, t6, t7, t8, t9, t10, t11, t12, t13, t14]).map (·.data.toList))) ++ [13], IsByte x := by
        intro x hx
        rcases List.mem_append.1 hx with hx | hx
        · exact nums_bytes _ x hx
        · rw [List.mem_singleton] at hx
          subst hx
          exact ⟨by decide, by decide⟩
      have hlen : (numsOf (segOf c c1 c2 c3 c4 ((trimB [t5, t6, t7, t8, t9, t10, t11, t12, t13, t14]).map (fun y : ByteArray => y.data.toList))) ++ [13]).length ≤ 1000000000 := by
        rw [List.length_append, List.length_singleton, nums_length]
        omega
      have hsz : (strOf (segOf c c1 c2 c3 c4 ((trimB [t5, t6, t7, t8, t9, t10, t11, t12, t13, t14]).map (·.data.toList)))).size + 1 ≤ 9223372036854775807 := by rw [strOf_size]; omega
      have hw := read_written hc hc1 hc2 hc3 hc4 hg hf []
      rw [if_pos rfl, Write_spec 4000 (by decide) c c1 c2 c3 c4 t5 t6 t7 t8 t9 t10 t11 t12 t13 t14 (by omega) hc hc1 hc2 hc3 hc4, Option.bind_some, writeOf_ok hg hf]
      dsimp only
      rw [if_pos hsz, cv_text _ (by omega), Option.bind_some, MRead_spec 4000 (by decide) _ hall hlen, Option.bind_some, hw, alive9_is 4000 (by decide), Option.bind_some, if_pos rfl, if_pos rfl]
      dsimp only
      rw [if_pos rfl, Check_spec 4000 (by decide) _ _ _ _ _ _ _ _ _ _ _ _ _ _ _ hz13 hz14 hc1 hc2, Check_spec 4000 (by decide) _ _ _ _ _ _ _ _ _ _ _ _ _ _ _ hz13 hz14 hc1 hc2]
      simp only [beq_self_eq_true, Bool.and_self, if_true, Option.bind_some]
end Go.Proofs.YtcjcaojgminjpaaDoor.Pure
