/- The law SegmentNested over rows of rows of texts: the walk's premise holds; condition: all the texts together are of at most 1048576 bytes. -/
import Derived.Test.YtabddkoehdddoaaNestW
import Derived.Test.YtabddkoehdddoaaCounts8
import Derived.Test.YtabddkoehdddoaaAlive
namespace Go.Proofs.Ytabddkoehdddoaa.Pure
open Go Go.RowKit Go.Proofs.Ytabddkoehdddoaa.PE Go.Proofs.YtabddkoehdddoaaW.PrintWords Go.Proofs.YtabddkoehdddoaaW.PrintLast
set_option linter.unusedVariables false
theorem nth_is (l : List (List UInt8)) (i : Nat) (h : i < l.length) : nthOf l ((i : Int) + 1) = l[i]'h := by
  unfold nthOf
  have e : ((i : Int) + 1 - 1).toNat = i := by omega
  rw [if_pos (by omega), e, List.getD_eq_getElem?_getD, List.getElem?_eq_getElem h]
  rfl
theorem joinL_mem (c : UInt8) : ∀ (l : List (List UInt8)) (x : UInt8), x ∈ joinL c l → x = c ∨ ∃ y ∈ l, x ∈ y
  | [], x, h => by simp [joinL] at h
  | [a], x, h => by
    right
    exact ⟨a, by simp, by simpa [joinL] using h⟩
  | a :: b :: r, x, h => by
    rw [joinL_cons _ _ (by simp), List.mem_append, List.mem_cons] at h
    rcases h with h | h | h
    · exact Or.inr ⟨a, by simp, h⟩
    · exact Or.inl h
    · rcases joinL_mem c (b :: r) x h with h | ⟨y, hy, hx⟩
      · exact Or.inl h
      · exact Or.inr ⟨y, List.mem_cons_of_mem _ hy, hx⟩
theorem rep_clean {p : List ByteArray} (h : ∀ x ∈ p, Clean2 x) : (126 : UInt8) ∉ repOf p := by
  intro hm
  rcases joinL_mem 94 _ _ hm with h1 | ⟨y, hy, hx⟩
  · exact absurd h1 (by decide)
  · obtain ⟨x, hx', rfl⟩ := List.mem_map.1 hy
    exact (h x hx' _ hx).1 rfl
theorem rep_cut {p : List ByteArray} (hne : p ≠ []) (h : ∀ x ∈ p, Clean2 x) : cutL 94 (repOf p) = p.map fun x => x.data.toList := by
  refine cutL_joinL (by simpa using hne) ?_
  intro y hy hm
  obtain ⟨x, hx', rfl⟩ := List.mem_map.1 hy
  exact (h x hx' _ hm).2 rfl
theorem nest_cut {own : List (List ByteArray)} (hk : Kept own) (hne : own ≠ []) : cutL 126 (nestOf own) = own.map repOf := by
  refine cutL_joinL (by simpa using hne) ?_
  intro y hy hm
  obtain ⟨p, hp, rfl⟩ := List.mem_map.1 hy
  exact rep_clean (hk p hp).2 hm
theorem rep_length (p : List ByteArray) : (repOf p).length ≤ wt p := by
  refine Nat.le_trans (joinL_length 94 _) ?_
  unfold wt
  rw [List.map_map]
  refine Nat.le_of_eq (congrArg List.sum (List.map_congr_left fun x _ => ?_))
  show 1 + x.data.toList.length = 1 + x.size
  rw [Array.length_toList]
  rfl
theorem sum_rep (l : List (List ByteArray)) : ((l.map repOf).map fun x => 1 + x.length).sum ≤ l.length + wts l := by
  induction l with
  | nil => exact Nat.zero_le _
  | cons p r ih =>
    have e1 : wts (p :: r) = wt p + wts r := by simp [wts]
    have h := rep_length p
    simp only [List.map_cons, List.sum_cons, List.length_cons] at ih ⊢
    omega
theorem nest_length (own : List (List ByteArray)) : (nestOf own).length ≤ own.length + wts own := Nat.le_trans (joinL_length 126 _) (sum_rep own)
theorem nest_ok (own : List (List ByteArray)) (hk : Kept own) (hne : own ≠ []) (hw : wts own ≤ 800) : NestOK own := by
  have hl := nest_length own
  have hl2 := wts_length (l := own) (fun p hp => (hk p hp).1)
  have hs : (strOf (nestOf own)).size ≤ 140737488355328 := by rw [strOf_size]; omega
  have e2 : UInt8.ofNat (Int.toNat 126) = 126 := rfl
  have e1 : UInt8.ofNat (Int.toNat 94) = 94 := rfl
  have hcut := nest_cut hk hne
  refine ⟨?_, fun i hi => ?_⟩
  · rw [Agains_spec _ _ _ _ _ _ hs (by decide), strOf_data, e2, hcut, List.length_map]
  · have hin : i < (own.map repOf).length := by rw [List.length_map]; exact hi
    have hp := hk _ (List.getElem_mem hi)
    have hnth : nthOf (own.map repOf) ((i : Int) + 1) = repOf (own[i]'hi) := by rw [nth_is _ i hin, List.getElem_map]
    have hrange : 1 ≤ (i : Int) + 1 ∧ (i : Int) + 1 ≤ ((own.map repOf).length : Int) := by omega
    refine ⟨?_, fun k hkk => ?_⟩
    · rw [Parts_spec _ _ _ _ _ _ _ hs (by decide) (by decide), strOf_data, e2, e1, hcut, if_pos hrange, hnth, rep_cut hp.1 hp.2, List.length_map]
    · have hkin : k < ((own[i]'hi).map fun x : ByteArray => x.data.toList).length := by rw [List.length_map]; exact hkk
      have hr2 : 1 ≤ (k : Int) + 1 ∧ (k : Int) + 1 ≤ (((own[i]'hi).map fun x : ByteArray => x.data.toList).length : Int) := by omega
      rw [Part_spec _ _ _ _ _ _ _ _ hs (by decide) (by decide), strOf_data, e2, e1, hcut, if_pos hrange, hnth, rep_cut hp.1 hp.2, nth_is _ k hkin, List.getElem_map, strOf_of, decide_eq_true hr2]
theorem SegmentNested (ll : List (List ByteArray)) (hb : wts ll + ll.length ≤ 1048576) (w : World) {A : Option Addr} {c : Nat} (hr : (Kd.slice 9 Kd.string).C w A ll.length ll) (hc : ll.length ≤ c) :
    Calls Try.prog 4 #[.slice A ll.length c] w fun e w' => e = .returned (.bool true) ∧ Below w.heap.size w w' :=
  nest_walk A c ll w hr hc hb alive_is plain_is nest_ok
end Go.Proofs.Ytabddkoehdddoaa.Pure
