/- The law SegmentParts as a statement over bytes: of any field and any signs the repetitions and components are the document's; for every text and all signs of one byte; no condition. -/
import Derived.Test.YtlildjmkeccjjaaPDx2
import Derived.Test.YtlildjmkeccjjaaPDx4
import Derived.Test.YtlildjmkeccjjaaSegCut
import Derived.Test.YtlildjmkeccjjaaAlive
namespace Go.Proofs.Ytlildjmkeccjjaa.Pure
open Go Go.RowKit Go.Proofs.Ytlildjmkeccjjaa.PD Go.Proofs.YtlildjmkeccjjaaW.PrintWords Go.Proofs.YtlildjmkeccjjaaW.PrintLast

theorem nthOf_big {l : List (List UInt8)} {n : Int} (h : (l.length : Int) < n) : nthOf l n = [] := by
  unfold nthOf
  split
  · rw [List.getD_eq_getElem?_getD, List.getElem?_eq_none (by omega)]; rfl
  · rfl
/-- The inner loop: each component. -/
theorem parts_inner (s : ByteArray) (n i c c1 c2 c3 c4 : Int) (V : List (List UInt8)) (D : Nat) (hV : V.length ≤ 4000000001)
    (hP : ∀ x, segment_Part.f s i x c c1 c2 c3 c4 = some (strOf (nthOf V x), decide (1 ≤ x ∧ x ≤ (V.length : Int))))
    (H : ∀ k, D ≤ k → lamplighterlaw08_SegmentParts.l0 k s n (wrap64 (i + 1)) c c1 c2 c3 c4 = some true) (e : Nat) :
    ∀ (k : Nat) (x : Int), -1 ≤ x → x ≤ V.length + 2 → (V.length : Int) + 2 - x = e → D + 2 * e + 1 ≤ k → lamplighterlaw08_SegmentParts.l1 k s n i (V.map strOf) x c c1 c2 c3 c4 = some true := by
  have hw : wrap64 (((V.map strOf).length : Int) + 1) = (V.length : Int) + 1 := by rw [List.length_map]; exact wrap_fit (by omega) (by omega)
  induction e with
  | zero =>
    intro k x h0 h1 hd hk
    obtain ⟨k, rfl⟩ : ∃ m, k = m + 1 := ⟨k - 1, by omega⟩
    have q : ¬ (x ≤ (V.length : Int) + 1) := by omega
    rw [lamplighterlaw08_SegmentParts.l1, hw, if_neg q]
    exact H k (by omega)
  | succ e ih =>
    intro k x h0 h1 hd hk
    obtain ⟨k, rfl⟩ : ∃ m, k = m + 2 := ⟨k - 2, by omega⟩
    have q : x ≤ (V.length : Int) + 1 := by omega
    have hw1 : wrap64 (x + 1) = x + 1 := wrap_fit (by omega) (by omega)
    have go := ih k (x + 1) (by omega) (by omega) (by omega) (by omega)
    rw [lamplighterlaw08_SegmentParts.l1, hw, if_pos q, hP x, Option.bind_some]
    have out : ∀ y : List UInt8, y = [] → lamplighterlaw08_SegmentParts.j3 (k + 1) s n i (V.map strOf) x (strOf y) false true c c1 c2 c3 c4 = some true := by
      intro y hy
      subst hy
      have q1 : (strOf []).toList = [] := by rw [strOf_list]
      rw [lamplighterlaw08_SegmentParts.j3, if_pos rfl, if_neg (by decide), if_pos q1, hw1]
      exact go
    by_cases h2 : x < 1
    · have hf : decide (1 ≤ x ∧ x ≤ (V.length : Int)) = false := decide_eq_false (by omega)
      rw [if_pos h2]
      show lamplighterlaw08_SegmentParts.j3 (k + 1) s n i (V.map strOf) x (strOf (nthOf V x)) (decide (1 ≤ x ∧ x ≤ (V.length : Int))) true c c1 c2 c3 c4 = some true
      rw [hf]
      exact out _ (nthOf_small h2)
    · rw [if_neg h2, List.length_map]
      show lamplighterlaw08_SegmentParts.j3 (k + 1) s n i (V.map strOf) x (strOf (nthOf V x)) (decide (1 ≤ x ∧ x ≤ (V.length : Int))) (decide (x > (V.length : Int))) c c1 c2 c3 c4 = some true
      by_cases h3 : x > (V.length : Int)
      · have hf : decide (1 ≤ x ∧ x ≤ (V.length : Int)) = false := decide_eq_false (by omega)
        rw [hf, decide_eq_true h3]
        exact out _ (nthOf_big h3)
      · have ht : decide (1 ≤ x ∧ x ≤ (V.length : Int)) = true := decide_eq_true (by omega)
        have hw2 : wrap64 (x - 1) = x - 1 := wrap_fit (by omega) (by omega)
        have q2 : 0 ≤ x - 1 := by omega
        have q3 : x - 1 < (V.length : Int) := by omega
        rw [ht, decide_eq_false h3, lamplighterlaw08_SegmentParts.j3, if_neg (by decide), if_pos rfl, hw2, if_pos q2, List.length_map, if_pos q3, nthOf_get _ _ (by omega), if_pos rfl, hw1]
        exact go
/-- The outer loop: each repetition. -/
theorem parts_outer (s : ByteArray) (c c1 c2 c3 c4 : Int) (hs : s.size ≤ 400) (hc2 : 0 ≤ c2 ∧ c2 ≤ 255) (hc1 : 0 ≤ c1 ∧ c1 ≤ 255) (n : Nat) (hn : (cutL (UInt8.ofNat c2.toNat) s.data.toList).length = n) (hnn : n ≤ 401) (d : Nat) :
    ∀ (k : Nat) (i : Int), -1 ≤ i → i ≤ n + 2 → (n : Int) + 2 - i = d → 1000 * d + 1000 ≤ k → lamplighterlaw08_SegmentParts.l0 k s n i c c1 c2 c3 c4 = some true := by
  have hw : wrap64 ((n : Int) + 1) = (n : Int) + 1 := wrap_fit (by omega) (by omega)
  induction d with
  | zero =>
    intro k i h0 h1 hd hk
    obtain ⟨k, rfl⟩ : ∃ m, k = m + 1 := ⟨k - 1, by omega⟩
    have q : ¬ (i ≤ (n : Int) + 1) := by omega
    rw [lamplighterlaw08_SegmentParts.l0, hw, if_neg q]
  | succ d ih =>
    intro k i h0 h1 hd hk
    obtain ⟨k, rfl⟩ : ∃ m, k = m + 1 := ⟨k - 1, by omega⟩
    have q : i ≤ (n : Int) + 1 := by omega
    have hw1 : wrap64 (i + 1) = i + 1 := wrap_fit (by omega) (by omega)
    have H : ∀ k, 1000 * d + 1000 ≤ k → lamplighterlaw08_SegmentParts.l0 k s n (wrap64 (i + 1)) c c1 c2 c3 c4 = some true := fun k hk => by
      rw [hw1]; exact ih k (i + 1) (by omega) (by omega) (by omega) hk
    rw [lamplighterlaw08_SegmentParts.l0, hw, if_pos q, refParts_spec k s i c c1 c2 c3 c4 (by omega) (by omega) hc2 hc1 (by omega), Option.bind_some, Parts_spec s i c c1 c2 c3 c4 (by omega) hc2 hc1, Option.bind_some, hn]
    by_cases h : 1 ≤ i ∧ i ≤ (n : Int)
    · rw [if_pos h, if_pos h, List.length_map, if_pos rfl]
      have h3 := nthOf_le (UInt8.ofNat c2.toNat) s.data.toList i
      rw [len_size] at h3
      have h4 : (cutL (UInt8.ofNat c1.toNat) (nthOf (cutL (UInt8.ofNat c2.toNat) s.data.toList) i)).length ≤ 401 := by
        rw [cutL_length]
        have := List.count_le_length (a := UInt8.ofNat c1.toNat) (l := nthOf (cutL (UInt8.ofNat c2.toNat) s.data.toList) i)
        omega
      refine parts_inner s n i c c1 c2 c3 c4 _ (1000 * d + 1000) (by omega) (fun x => ?_) H ((cutL (UInt8.ofNat c1.toNat) (nthOf (cutL (UInt8.ofNat c2.toNat) s.data.toList) i)).length + 3) k (-1) (by omega) (by omega) (by omega) (by omega)
      rw [Part_spec s i x c c1 c2 c3 c4 (by omega) hc2 hc1, hn, if_pos h]
    · rw [if_neg h, if_neg h, List.length_nil, if_pos (show (0 : Int) = ((0 : Nat) : Int) from rfl)]
      refine parts_inner s n i c c1 c2 c3 c4 [] (1000 * d + 1000) (by simp) (fun x => ?_) H 3 k (-1) (by omega) (by simp) (by simp) (by omega)
      have q5 : ¬ (1 ≤ x ∧ x ≤ ((([] : List (List UInt8)).length : Nat) : Int)) := by simp only [List.length_nil]; omega
      rw [Part_spec s i x c c1 c2 c3 c4 (by omega) hc2 hc1, hn, if_neg h, nthOf_nil, decide_eq_false q5]
theorem SegmentParts (s : ByteArray) (c c1 c2 c3 c4 : Int) (hc2 : 0 ≤ c2 ∧ c2 ≤ 255) (hc1 : 0 ≤ c1 ∧ c1 ≤ 255) :
    ∃ k, lamplighterlaw08_SegmentParts.f k s c c1 c2 c3 c4 = some true := by
  by_cases h : (s.size : Int) > 400
  · refine ⟨0, ?_⟩
    unfold lamplighterlaw08_SegmentParts.f
    rw [if_pos h, alive_is]; rfl
  · obtain ⟨n, hn⟩ : ∃ n, (cutL (UInt8.ofNat c2.toNat) s.data.toList).length = n := ⟨_, rfl⟩
    have hnn : n ≤ 401 := by
      rw [← hn, cutL_length]
      have := List.count_le_length (a := UInt8.ofNat c2.toNat) (l := s.data.toList)
      rw [len_size] at this
      omega
    refine ⟨(1000 * (n + 3) + 1000) + 1, ?_⟩
    unfold lamplighterlaw08_SegmentParts.f
    have q : ((n : Int) != (n : Int)) = false := by simp
    rw [if_neg h, refAgains_spec _ s c c1 c2 c3 c4 (by omega) hc2 (by omega), Option.bind_some, alive_is, Option.bind_some, if_pos rfl, Agains_spec s c c1 c2 c3 c4 (by omega) hc2, Option.bind_some, List.length_map, hn, q, lamplighterlaw08_SegmentParts.j0, if_neg (by decide)]
    exact parts_outer s c c1 c2 c3 c4 (by omega) hc2 hc1 n hn hnn (n + 3) _ (-1) (by omega) (by omega) (by omega) (by omega)
end Go.Proofs.Ytlildjmkeccjjaa.Pure
