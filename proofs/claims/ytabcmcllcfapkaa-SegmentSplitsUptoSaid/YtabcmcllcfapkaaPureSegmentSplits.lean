/- The law SegmentSplits as a statement over bytes and texts: the segments, the message and the names are the document's; condition: the texts count at most 1048576 together. -/
import Derived.Test.YtabcmcllcfapkaaPFx4
import Derived.Test.YtabcmcllcfapkaaSegTexts
import Derived.Test.YtabcmcllcfapkaaAlive
namespace Go.Proofs.Ytabcmcllcfapkaa.Pure
open Go Go.RowKit Go.Proofs.Ytabcmcllcfapkaa.PF Go.Proofs.YtabcmcllcfapkaaW.PrintWords Go.Proofs.YtabcmcllcfapkaaW.PrintLast

theorem splits_end (x0 : List Int) (x1 : List ByteArray) (h0 : x0.length ≤ 3000) (h1 : bulkOf x1 ≤ 1048576) (k : Nat) (hk : 4000 ≤ k) (hk1 : x1.length < k) :
    ((lamplighterlaw08_alive.f).bind fun t217 => (if t217 = true then ((segment_Split.f x0).bind fun t218 => ((lamplighterref08_Split.f k x0).bind fun t221 => ((lamplighterlaw08_same.f k t218 t221).bind fun t224 => (if t224 = true then ((segment_Join.f k x1).bind fun t225 => ((lamplighterref08_Join.f k x1).bind fun t228 => (some ((strOfNums t225).toList == t228.toList)))) else (some false))))) else (some false))) = some true := by
  have hs := segs_length (Lib.bytesOf x0)
  rw [bytesOf_len] at hs
  have hl : ((segsOf (Lib.bytesOf x0)).map strOf).length ≤ 3001 := by rw [List.length_map]; omega
  rw [alive_is, Option.bind_some, if_pos rfl, Split_spec x0 (by omega), Option.bind_some, refSplit_spec k x0 (by omega) (by omega), Option.bind_some, same_refl k _ (by omega) (by omega), Option.bind_some, if_pos rfl,
    Join_spec k x1 h1 hk1, Option.bind_some, refJoin_spec k x1 h1 hk1, Option.bind_some, str_numsOf, beq_self_eq_true]
theorem splits_loop (x0 : List Int) (x1 : List ByteArray) (h0 : x0.length ≤ 3000) (h1 : bulkOf x1 ≤ 1048576) (d : Nat) : ∀ (k i : Nat), x1.length - i = d → d + 4000 + x1.length < k →
    lamplighterlaw08_SegmentSplits.l0 k x0 x1 x1 (x1.length : Int) i = some true := by
  have hn := bulk_length x1
  induction d with
  | zero =>
    intro k i hi hk
    obtain ⟨k, rfl⟩ : ∃ m, k = m + 1 := ⟨k - 1, by omega⟩
    have q : ¬ ((i : Int) < (x1.length : Int)) := by omega
    rw [lamplighterlaw08_SegmentSplits.l0, if_neg q]
    exact splits_end x0 x1 h0 h1 k (by omega) (by omega)
  | succ d ih =>
    intro k i hi hk
    obtain ⟨k, rfl⟩ : ∃ m, k = m + 1 := ⟨k - 1, by omega⟩
    have q : (i : Int) < (x1.length : Int) := by omega
    have q0 : (0 : Int) ≤ (i : Int) := by omega
    have e := ih k (i + 1) (by omega) (by omega)
    have w3 : wrap64 ((i : Int) + 1) = ((i + 1 : Nat) : Int) := by rw [wrap_fit (by omega) (by omega)]; rfl
    rw [lamplighterlaw08_SegmentSplits.l0, if_pos q, if_pos q0, if_pos q, name_spec, Option.bind_some, refName_spec, Option.bind_some, if_pos rfl, w3, e]
theorem SegmentSplits (l0 : List Int) (l1 : List ByteArray) (_h0 : ∀ x ∈ l0, 0 ≤ x ∧ x ≤ 255) (h1 : bulkOf l1 ≤ 1048576) : ∃ k, lamplighterlaw08_SegmentSplits.f k l0 l1 = some true := by
  suffices H : ∀ k, 4000 + l1.length + l1.length < k → lamplighterlaw08_SegmentSplits.f (k + 1) l0 l1 = some true from ⟨_, H (4000 + l1.length + l1.length + 1) (by omega)⟩
  intro k hk
  unfold lamplighterlaw08_SegmentSplits.f
  by_cases hb : (l0.length : Int) > 3000
  · rw [if_pos hb, lamplighterlaw08_SegmentSplits.j0, if_pos rfl, alive_is, Option.bind_some]
  · rw [if_neg hb, bytes_spec (k + 1) l1 h1 (by omega), Option.bind_some, lamplighterlaw08_SegmentSplits.j0]
    by_cases hc : decide ((bulkOf l1 : Int) > 3000) = true
    · rw [if_pos hc, alive_is, Option.bind_some]
    · rw [if_neg hc]
      exact splits_loop l0 l1 (by omega) h1 _ k 0 rfl (by omega)
end Go.Proofs.Ytabcmcllcfapkaa.Pure
