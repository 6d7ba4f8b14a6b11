/- The law SegmentFields as a statement over a segment, signs and texts: how many fields, each field, and the segment made are the document's; condition: the arguments count at most 1048576 together. -/
import Derived.Test.YtabcmcllcfapkaaPFx8
import Derived.Test.YtabcmcllcfapkaaSegFields
import Derived.Test.YtabcmcllcfapkaaAlive
namespace Go.Proofs.Ytabcmcllcfapkaa.Pure
open Go Go.RowKit Go.Proofs.Ytabcmcllcfapkaa.PF Go.Proofs.YtabcmcllcfapkaaW.PrintWords Go.Proofs.YtabcmcllcfapkaaW.PrintLast

theorem wrap_up (i : Int) (h0 : -10 ≤ i) (h1 : i ≤ 1000000000) : wrap64 (i + 1) = i + 1 := wrap_fit (by omega) (by omega)
theorem fields_end (s : ByteArray) (c c1 c2 c3 c4 : Int) (l : List ByteArray) (hl : bulkOf l ≤ 1048576) (k : Nat) (hk : l.length < k) :
    ((segment_Name.f s).bind fun t315 => ((segment_Make.f c c1 c2 c3 c4 t315 l).bind fun t316 => ((lamplighterref08_Make.f k c c1 c2 c3 c4 t315 l).bind fun t317 => (some (t316.toList == t317.toList))))) = some true := by
  have hn : (s.data.toList.take 3).length ≤ 1000 := by rw [List.length_take]; omega
  rw [name_spec, Option.bind_some, Make_spec c c1 c2 c3 c4 _ l hn hl, Option.bind_some, refMake_spec k c c1 c2 c3 c4 _ l hn hl hk, Option.bind_some, beq_self_eq_true]
theorem fields_loop (s : ByteArray) (c c1 c2 c3 c4 : Int) (l : List ByteArray) (hs : s.size ≤ 1000) (hc : 0 ≤ c ∧ c ≤ 255) (hl : bulkOf l ≤ 1048576) (n : Nat) (hn : (fieldsOf (UInt8.ofNat c.toNat) s.data.toList).length = n) (hn2 : n ≤ 1001) (d : Nat) :
    ∀ (k : Nat) (i : Int), i = (n : Int) + 3 - d → d ≤ n + 4 → d + 1001 + l.length < k →
      lamplighterlaw08_SegmentFields.l0 k s l ((fieldsOf (UInt8.ofNat c.toNat) s.data.toList).map strOf) i c c1 c2 c3 c4 = some true := by
  have w2 : wrap64 ((((fieldsOf (UInt8.ofNat c.toNat) s.data.toList).map strOf).length : Int) + 2) = (n : Int) + 2 := by rw [List.length_map, hn, wrap_fit (by omega) (by omega)]
  have W2 := Lib.hid w2
  clear w2
  induction d with
  | zero =>
    intro k i hi hd hk
    obtain ⟨k, rfl⟩ : ∃ m, k = m + 1 := ⟨k - 1, by omega⟩
    have q : ¬ (i ≤ (n : Int) + 2) := by omega
    have hk2 : l.length < k := by omega
    rw [lamplighterlaw08_SegmentFields.l0, W2.out, if_neg q]
    exact fields_end s c c1 c2 c3 c4 l hl k hk2
  | succ d ih =>
    intro k i hi hd hk
    obtain ⟨k, rfl⟩ : ∃ m, k = m + 1 := ⟨k - 1, by omega⟩
    have q : i ≤ (n : Int) + 2 := by omega
    have hb : -9223372036854775807 ≤ i ∧ i ≤ 9223372036854775807 := by omega
    have hk2 : s.size < k := by omega
    have hi1 : -10 ≤ i := by omega
    have hi2 : i ≤ 1000000000 := by omega
    have e := ih k (i + 1) (by omega) (by omega) (by omega)
    rw [lamplighterlaw08_SegmentFields.l0, W2.out, if_pos q, Field_spec s i c c1 c2 c3 c4 (by omega) hc hb, Option.bind_some, refField_spec k s i c c1 c2 c3 c4 (by omega) hc hk2 hb, Option.bind_some]
    dsimp only
    rw [if_pos rfl, bne_self_eq_false, if_neg (by decide), wrap_up i hi1 hi2, e]
theorem SegmentFields (s : ByteArray) (c c1 c2 c3 c4 : Int) (l : List ByteArray) (_hs : s.size ≤ 1048576) (hc : 0 ≤ c ∧ c ≤ 255) (_h1 : 0 ≤ c1 ∧ c1 ≤ 255) (_h2 : 0 ≤ c2 ∧ c2 ≤ 255) (_h3 : 0 ≤ c3 ∧ c3 ≤ 255) (_h4 : 0 ≤ c4 ∧ c4 ≤ 255) (hl : bulkOf l ≤ 1048576) :
    ∃ k, lamplighterlaw08_SegmentFields.f k s c c1 c2 c3 c4 l = some true := by
  have hbl := bulk_length l
  suffices H : ∀ k, 3000 + l.length < k → lamplighterlaw08_SegmentFields.f (k + 1 + 1) s c c1 c2 c3 c4 l = some true from ⟨_, H (3000 + l.length + 1) (by omega)⟩
  intro k hk
  unfold lamplighterlaw08_SegmentFields.f
  by_cases hb : (s.size : Int) > 1000
  · rw [if_pos hb, lamplighterlaw08_SegmentFields.j0, if_pos rfl, alive_is, Option.bind_some]
  · have hs : s.size ≤ 1000 := by omega
    rw [if_neg hb, bytes_spec (k + 1 + 1) l hl (by omega), Option.bind_some, lamplighterlaw08_SegmentFields.j0]
    by_cases hd : decide ((bulkOf l : Int) > 1000) = true
    · rw [if_pos hd, alive_is, Option.bind_some]
    · have hfl := fields_length (UInt8.ofNat c.toNat) s.data.toList
      rw [len_size] at hfl
      rw [if_neg hd, refFields_spec (k + 1) s c c1 c2 c3 c4 (by omega) hc (by omega), Option.bind_some, alive_is, Option.bind_some, if_pos rfl, count_spec s c c1 c2 c3 c4 (by omega) hc, Option.bind_some, List.length_map, bne_self_eq_false,
        lamplighterlaw08_SegmentFields.j1, if_neg (by decide)]
      exact fields_loop s c c1 c2 c3 c4 l hs hc hl _ rfl (by omega) ((fieldsOf (UInt8.ofNat c.toNat) s.data.toList).length + 4) k (-1) (by omega) (by omega) (by omega)
end Go.Proofs.Ytabcmcllcfapkaa.Pure
