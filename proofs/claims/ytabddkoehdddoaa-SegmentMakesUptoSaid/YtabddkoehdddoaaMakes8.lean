/- What the law SegmentMakes asks of a segment that is made, over lists of bytes: its name, how many fields it has, and each; conditions: the texts are without the sign between fields and of at most 1000 bytes together. -/
import Derived.Test.YtabddkoehdddoaaPEx2
import Derived.Test.YtabddkoehdddoaaMakesW
import Derived.Test.YtabddkoehdddoaaSegMake
import Derived.Test.YtabddkoehdddoaaAlive
namespace Go.Proofs.Ytabddkoehdddoaa.Makes
open Go Go.RowKit Go.Proofs.Ytabddkoehdddoaa.PE Go.Proofs.YtabddkoehdddoaaW.PrintWords Go.Proofs.YtabddkoehdddoaaW.PrintLast
set_option linter.unusedVariables false
theorem bytes_loop (l : List ByteArray) (hl : bulkOf l ≤ 1048576) (d : Nat) : ∀ (k i acc : Nat), l.length - i = d → d < k → acc + bulkOf (l.drop i) ≤ 1048576 →
    lamplighterlaw08_bytes.l0 k acc l (l.length : Int) i = some ((acc + bulkOf (l.drop i) : Nat) : Int) := by
  have hn := bulk_length l
  induction d with
  | zero =>
    intro k i acc hi hk ha
    obtain ⟨k, rfl⟩ : ∃ m, k = m + 1 := ⟨k - 1, by omega⟩
    have q : ¬ ((i : Int) < (l.length : Int)) := by omega
    rw [lamplighterlaw08_bytes.l0, if_neg q, List.drop_eq_nil_of_le (by omega)]
    rfl
  | succ d ih =>
    intro k i acc hi hk ha
    obtain ⟨k, rfl⟩ : ∃ m, k = m + 1 := ⟨k - 1, by omega⟩
    have q : (i : Int) < (l.length : Int) := by omega
    have q0 : (0 : Int) ≤ (i : Int) := by omega
    rw [drop_cons l i (by omega), bulk_cons] at ha ⊢
    rw [lamplighterlaw08_bytes.l0, if_pos q, if_pos q0, if_pos q]
    have e := ih k (i + 1) (acc + (1 + (rdOf ByteArray.empty l (i : Int)).size)) (by omega) (by omega) (by rw [Nat.add_assoc]; exact ha)
    have w1 : wrap64 (1 + ((rdOf ByteArray.empty l (i : Int)).size : Int)) = 1 + ((rdOf ByteArray.empty l (i : Int)).size : Int) := wrap_fit (by omega) (by omega)
    have w2 : wrap64 ((acc : Int) + (1 + ((rdOf ByteArray.empty l (i : Int)).size : Int))) = ((acc + (1 + (rdOf ByteArray.empty l (i : Int)).size) : Nat) : Int) := by
      rw [wrap_fit (by omega) (by omega)]; omega
    have w3 : wrap64 ((i : Int) + 1) = ((i + 1 : Nat) : Int) := by rw [wrap_fit (by omega) (by omega)]; rfl
    rw [w1, w2, w3, e, Nat.add_assoc acc]
theorem bytes_spec (k : Nat) (l : List ByteArray) (hl : bulkOf l ≤ 1048576) (hk : l.length < k) : lamplighterlaw08_bytes.f k l = some (bulkOf l : Int) := by
  unfold lamplighterlaw08_bytes.f
  have := bytes_loop l hl _ k 0 0 rfl (by omega) (by simpa using hl)
  simpa using this
theorem count_spec (s : ByteArray) (c c1 c2 c3 c4 : Int) (hs : s.size ≤ 140737488355328) (hc : 0 ≤ c ∧ c ≤ 255) :
    segment_Count.f s c c1 c2 c3 c4 = some ((fieldsOf (UInt8.ofNat c.toNat) s.data.toList).length : Int) := by
  unfold segment_Count.f
  rw [field_spec s 1 c c1 c2 c3 c4 hs hc (by omega)]
  rfl
theorem flat_join (c : UInt8) (r : List (List UInt8)) : ∀ x : List UInt8, x ++ (r.map (c :: ·)).flatten = joinL c (x :: r) := by
  induction r with
  | nil => intro x; simp [joinL]
  | cons y r ih =>
    intro x
    rw [joinL_cons c x (List.cons_ne_nil y r), ← ih y]
    simp
/-- The fields of a segment that was made of a name that is no MSH. -/
theorem made_fields {d : UInt8} {name : List UInt8} (hn : name ≠ MSH) (hn3 : name.length = 3) (hd : d ∉ name) (l : List (List UInt8)) (hl : ∀ x ∈ l, d ∉ x) : fieldsOf d (makeOf d name l) = l ∧ (makeOf d name l).take 3 = name := by
  have e : makeOf d name l = joinL d (name :: l) := by
    unfold makeOf
    rw [if_neg hn, flat_join]
  have ht : (makeOf d name l).take 3 = name := by
    unfold makeOf
    rw [if_neg hn, List.take_append_of_le_length (by omega), List.take_of_length_le (by omega)]
  refine ⟨?_, ht⟩
  unfold fieldsOf
  rw [ht, if_neg hn, e, cutL_joinL (List.cons_ne_nil _ _) (by
    intro x hx
    rcases List.mem_cons.1 hx with rfl | hx
    · exact hd
    · exact hl x hx)]
  rfl
/-- The fields of a head that was made of its signs and texts. -/
theorem head_fields {d : UInt8} (s : List UInt8) (hs : d ∉ s) (l : List (List UInt8)) (hl : ∀ x ∈ l, d ∉ x) : fieldsOf d (makeOf d MSH ([d] :: s :: l)) = [d] :: s :: l ∧ (makeOf d MSH ([d] :: s :: l)).take 3 = MSH := by
  have e : makeOf d MSH ([d] :: s :: l) = MSH ++ d :: joinL d (s :: l) := by
    unfold makeOf
    rw [if_pos rfl, ← flat_join]
    simp
  rw [e]
  refine ⟨?_, rfl⟩
  have h1 : (MSH ++ d :: joinL d (s :: l)).take 3 = MSH := rfl
  have h2 : ((MSH ++ d :: joinL d (s :: l)).drop 3).take 1 = [d] := rfl
  have h3 : (MSH ++ d :: joinL d (s :: l)).drop 4 = joinL d (s :: l) := rfl
  unfold fieldsOf
  rw [h1, if_pos rfl, h2, if_pos rfl, h3, cutL_joinL (List.cons_ne_nil _ _) (by
    intro x hx
    rcases List.mem_cons.1 hx with rfl | hx
    · exact hs
    · exact hl x hx)]
theorem nth_is (l : List (List UInt8)) (i : Nat) (h : i < l.length) : nthOf l ((i : Int) + 1) = l[i]'h := by
  unfold nthOf
  have e : ((i : Int) + 1 - 1).toNat = i := by omega
  rw [if_pos (by omega), e, List.getD_eq_getElem?_getD, List.getElem?_eq_getElem h]
  rfl
theorem ok_of (N : ByteArray) (L : List ByteArray) (hN : N.data.toList.length ≤ 1000) (hL : bulkOf L ≤ 2000) (h : fieldsOf 124 (makeOf 124 N.data.toList (L.map (·.data.toList))) = L.map (·.data.toList) ∧ (makeOf 124 N.data.toList (L.map (·.data.toList))).take 3 = N.data.toList) : MakesOK N L := by
  have hlen := bulk_length L
  have hml := makeOf_length 124 N.data.toList L
  have hs : (strOf (makeOf 124 N.data.toList (L.map (·.data.toList)))).size ≤ 140737488355328 := by rw [strOf_size]; omega
  have e1 : UInt8.ofNat (Int.toNat 124) = 124 := rfl
  refine ⟨strOf (makeOf 124 N.data.toList (L.map (·.data.toList))), ?_, ?_, ?_, fun k hk => ?_⟩
  · have hm := Make_spec 124 94 126 92 38 N.data.toList L hN (by omega)
    rw [strOf_of, e1] at hm
    exact hm
  · rw [name_spec, strOf_data, h.2, strOf_of]
  · rw [count_spec _ _ _ _ _ _ hs (by decide), strOf_data, e1, h.1, List.length_map]
  · have hkm : k < (L.map fun x : ByteArray => x.data.toList).length := by rw [List.length_map]; exact hk
    have hr : 1 ≤ (k : Int) + 1 ∧ (k : Int) + 1 ≤ ((L.map fun x : ByteArray => x.data.toList).length : Int) := by omega
    rw [Field_spec _ _ _ _ _ _ _ hs (by decide) (by omega), strOf_data, e1, h.1, nth_is _ k hkm, List.getElem_map, strOf_of, decide_eq_true hr]
theorem makes_ok (N : ByteArray) (cl : List ByteArray) (hN : N.size = 3) (hm : N.data.toList ≠ [77, 83, 72]) (hc : Caps N) (hcl : ∀ x ∈ cl, Clean1 x) (hw : wt cl ≤ 1000) : MakesOK N cl ∧ MakesOK ⟨#[77, 83, 72]⟩ (⟨#[124]⟩ :: ⟨#[94, 126, 92, 38]⟩ :: cl) := by
  have hN3 : N.data.toList.length = 3 := by rw [Array.length_toList]; exact hN
  have hb : bulkOf cl ≤ 1000 := hw
  have hl : ∀ x ∈ cl.map (fun x : ByteArray => x.data.toList), (124 : UInt8) ∉ x := by
    intro x hx hm
    obtain ⟨y, hy, rfl⟩ := List.mem_map.1 hx
    exact hcl y hy _ hm rfl
  refine ⟨ok_of N cl (by omega) (by omega) (made_fields hm hN3 (fun h => ?_) _ hl), ?_⟩
  · have := (hc _ h).2
    exact absurd this (by decide)
  · refine ok_of _ _ (by decide) (by rw [bulk_cons, bulk_cons]; show 1 + 1 + (1 + 4 + bulkOf cl) ≤ 2000; omega) ?_
    have e := head_fields (d := 124) [94, 126, 92, 38] (by decide) _ hl
    exact e
end Go.Proofs.Ytabddkoehdddoaa.Makes
