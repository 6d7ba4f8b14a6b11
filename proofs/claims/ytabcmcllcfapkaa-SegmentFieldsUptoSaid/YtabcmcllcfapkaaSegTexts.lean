/- The segments of a message and their message, as laws over bytes; condition: texts that count at most 1048576 together, and fuel for a step a text. -/
import Derived.Test.YtabcmcllcfapkaaPFx2
import Derived.Test.YtabcmcllcfapkaaPFx3
import Derived.Test.YtabcmcllcfapkaaRefCut
namespace Go.Proofs.Ytabcmcllcfapkaa
open Go Go.RowKit Go.Proofs.Ytabcmcllcfapkaa.PF Go.Proofs.YtabcmcllcfapkaaW.PrintWords Go.Proofs.YtabcmcllcfapkaaW.PrintLast

/-- How much some texts count. -/
def bulkOf (l : List ByteArray) : Nat := (l.map (fun s => 1 + s.size)).sum
theorem bulk_cons (x : ByteArray) (l : List ByteArray) : bulkOf (x :: l) = 1 + x.size + bulkOf l := by simp [bulkOf]
theorem bulk_append (a b : List ByteArray) : bulkOf (a ++ b) = bulkOf a + bulkOf b := by simp [bulkOf]
theorem bulk_length (l : List ByteArray) : l.length ≤ bulkOf l := by
  induction l with
  | nil => simp
  | cons x l ih => rw [bulk_cons, List.length_cons]; omega
theorem bulk_drop (l : List ByteArray) (i : Nat) : bulkOf (l.drop i) ≤ bulkOf l := by
  have := congrArg bulkOf (List.take_append_drop i l)
  rw [bulk_append] at this
  omega
theorem drop_cons (l : List ByteArray) (i : Nat) (h : i < l.length) : l.drop i = rdOf ByteArray.empty l (i : Int) :: l.drop (i + 1) := by
  rw [List.drop_eq_getElem_cons h]
  simp [rdOf, h]
theorem bytes_loop (l : List ByteArray) (hl : bulkOf l ≤ 1048576) (d : Nat) : ∀ (k i acc : Nat), l.length - i = d → d < k → acc + bulkOf (l.drop i) ≤ 1048576 →
    lamplighterlaw08_bytes.l0 k acc l (l.length : Int) i = some ((acc + bulkOf (l.drop i) : Nat) : Int) := by
  have hn := bulk_length l
  induction d with
  | zero =>
    intro k i acc hi hk ha
    obtain ⟨k, rfl⟩ : ∃ m, k = m + 1 := ⟨k - 1, by omega⟩
    have q : ¬ ((i : Int) < (l.length : Int)) := by omega
    rw [lamplighterlaw08_bytes.l0, if_neg q, List.drop_eq_nil_of_le (by omega)]
    rfl
  | succ d ih =>
    intro k i acc hi hk ha
    obtain ⟨k, rfl⟩ : ∃ m, k = m + 1 := ⟨k - 1, by omega⟩
    have q : (i : Int) < (l.length : Int) := by omega
    have q0 : (0 : Int) ≤ (i : Int) := by omega
    rw [drop_cons l i (by omega), bulk_cons] at ha ⊢
    rw [lamplighterlaw08_bytes.l0, if_pos q, if_pos q0, if_pos q]
    have e := ih k (i + 1) (acc + (1 + (rdOf ByteArray.empty l (i : Int)).size)) (by omega) (by omega) (by rw [Nat.add_assoc]; exact ha)
    have w1 : wrap64 (1 + ((rdOf ByteArray.empty l (i : Int)).size : Int)) = 1 + ((rdOf ByteArray.empty l (i : Int)).size : Int) := wrap_fit (by omega) (by omega)
    have w2 : wrap64 ((acc : Int) + (1 + ((rdOf ByteArray.empty l (i : Int)).size : Int))) = ((acc + (1 + (rdOf ByteArray.empty l (i : Int)).size) : Nat) : Int) := by
      rw [wrap_fit (by omega) (by omega)]; omega
    have w3 : wrap64 ((i : Int) + 1) = ((i + 1 : Nat) : Int) := by rw [wrap_fit (by omega) (by omega)]; rfl
    rw [w1, w2, w3, e, Nat.add_assoc acc]
theorem bytes_spec (k : Nat) (l : List ByteArray) (hl : bulkOf l ≤ 1048576) (hk : l.length < k) : lamplighterlaw08_bytes.f k l = some (bulkOf l : Int) := by
  unfold lamplighterlaw08_bytes.f
  have := bytes_loop l hl _ k 0 0 rfl (by omega) (by simpa using hl)
  simpa using this
theorem same_loop (l : List ByteArray) (hl : l.length ≤ 1000000000000) (d : Nat) : ∀ (k i : Nat), l.length - i = d → d < k → lamplighterlaw08_same.l0 k l l (l.length : Int) i = some true := by
  induction d with
  | zero =>
    intro k i hi hk
    obtain ⟨k, rfl⟩ : ∃ m, k = m + 1 := ⟨k - 1, by omega⟩
    have q : ¬ ((i : Int) < (l.length : Int)) := by omega
    rw [lamplighterlaw08_same.l0, if_neg q]
  | succ d ih =>
    intro k i hi hk
    obtain ⟨k, rfl⟩ : ∃ m, k = m + 1 := ⟨k - 1, by omega⟩
    have q : (i : Int) < (l.length : Int) := by omega
    have q0 : (0 : Int) ≤ (i : Int) := by omega
    have w3 : wrap64 ((i : Int) + 1) = ((i + 1 : Nat) : Int) := by rw [wrap_fit (by omega) (by omega)]; rfl
    rw [lamplighterlaw08_same.l0, if_pos q, if_pos q0, if_pos q, if_pos q, if_pos rfl, w3, ih k (i + 1) (by omega) (by omega)]
theorem same_refl (k : Nat) (l : List ByteArray) (hl : l.length ≤ 1000000000000) (hk : l.length < k) : lamplighterlaw08_same.f k l l = some true := by
  unfold lamplighterlaw08_same.f
  rw [if_pos rfl]
  exact same_loop l hl _ k 0 rfl (by omega)
theorem bytesOf_len (b : List Int) : (Lib.bytesOf b).length = b.length := by simp [Lib.bytesOf]
theorem Split_spec (b : List Int) (hb : b.length ≤ 1000000000000) : segment_Split.f b = some ((segsOf (Lib.bytesOf b)).map strOf) := if_pos hb
theorem refSplit_spec (k : Nat) (b : List Int) (hb : b.length ≤ 4000000000) (hk : b.length < k) : lamplighterref08_Split.f k b = some ((segsOf (Lib.bytesOf b)).map strOf) := by
  have hs : (strOfNums b).size = b.length := by simp [strOfNums, ByteArray.size]
  have hd := str_data b
  unfold lamplighterref08_Split.f
  rw [refCut_spec k (strOfNums b) 13 (by omega) (by decide) (by omega), Option.bind_some, hd]
  have hu : UInt8.ofNat (13 : Int).toNat = 13 := rfl
  rw [hu]
  have hn : (cutL 13 (Lib.bytesOf b)).length ≤ 4000000001 := by
    rw [cutL_length]
    have := List.count_le_length (a := 13) (l := Lib.bytesOf b)
    rw [bytesOf_len] at this
    omega
  rcases List.eq_nil_or_concat (cutL 13 (Lib.bytesOf b)) with h | ⟨t, x, h⟩
  · exact absurd h (cutL_ne 13 _)
  · rw [List.concat_eq_append] at h
    have hlast : (cutL 13 (Lib.bytesOf b)).getLast? = some x := by rw [h]; simp
    have hdrop : (cutL 13 (Lib.bytesOf b)).dropLast = t := by rw [h]; simp
    unfold segsOf
    rw [hlast, hdrop]
    rw [h] at hn ⊢
    rw [List.length_append, List.length_singleton] at hn
    have w1 : wrap64 ((((t ++ [x]).map strOf).length : Int) - 1) = (t.length : Int) := by
      rw [List.length_map, List.length_append, List.length_singleton, wrap_fit (by omega) (by omega)]; omega
    have r1 : rdOf ByteArray.empty ((t ++ [x]).map strOf) (t.length : Int) = strOf x := by simp [rdOf]
    have q0 : (0 : Int) ≤ (t.length : Int) := by omega
    have q1 : (t.length : Int) < ((((t ++ [x]).map strOf).length : Nat) : Int) := by simp; omega
    have q2 : (t.length : Int) ≤ ((((t ++ [x]).map strOf).length : Nat) : Int) := by omega
    rw [w1, r1, if_pos q0, if_pos q1, strOf_list]
    by_cases hx : x = []
    · subst hx
      rw [if_pos rfl, if_pos q2, if_pos rfl, Int.toNat_natCast]
      simp
    · rw [if_neg hx, if_neg (fun e => hx (Option.some.inj e))]
/-- The message of some segments. -/
def messOf (l : List ByteArray) : List UInt8 := l.flatMap (fun s => s.data.toList ++ [13])
theorem messOf_length (l : List ByteArray) : (messOf l).length = bulkOf l := by
  induction l with
  | nil => rfl
  | cons x l ih =>
    show (x.data.toList ++ [13] ++ messOf l).length = _
    rw [bulk_cons, List.length_append, ih, List.length_append, len_size, List.length_singleton]
    omega
def numsOf (l : List UInt8) : List Int := l.map (fun b => (b.toNat : Int))
theorem numsOf_bytes (s : ByteArray) : bytesOf s = numsOf s.data.toList := rfl
theorem str_numsOf (l : List UInt8) : strOfNums (numsOf l) = strOf l := by
  apply bytes_eq
  rw [str_data, strOf_data]
  simp [Lib.bytesOf, numsOf, Function.comp_def]
theorem bytesOf_numsOf (l : List UInt8) : Lib.bytesOf (numsOf l) = l := by
  rw [← str_data, str_numsOf, strOf_data]
theorem join_loop (l : List ByteArray) (hl : bulkOf l ≤ 1048576) (d : Nat) : ∀ (k i : Nat) (acc : List Int), l.length - i = d → d < k → acc.length + bulkOf (l.drop i) ≤ 1048576 →
    segment_Join.l0 k acc l (l.length : Int) i = some (acc ++ numsOf (messOf (l.drop i))) := by
  have hn := bulk_length l
  induction d with
  | zero =>
    intro k i acc hi hk ha
    obtain ⟨k, rfl⟩ : ∃ m, k = m + 1 := ⟨k - 1, by omega⟩
    have q : ¬ ((i : Int) < (l.length : Int)) := by omega
    rw [segment_Join.l0, if_neg q, List.drop_eq_nil_of_le (by omega)]
    simp [messOf, numsOf]
  | succ d ih =>
    intro k i acc hi hk ha
    obtain ⟨k, rfl⟩ : ∃ m, k = m + 1 := ⟨k - 1, by omega⟩
    have q : (i : Int) < (l.length : Int) := by omega
    have q0 : (0 : Int) ≤ (i : Int) := by omega
    rw [drop_cons l i (by omega), bulk_cons] at ha
    have w3 : wrap64 ((i : Int) + 1) = ((i + 1 : Nat) : Int) := by rw [wrap_fit (by omega) (by omega)]; rfl
    have q1 : acc.length + (rdOf ByteArray.empty l (i : Int)).size < 140737488355328 := by omega
    have hlen : (acc ++ bytesOf (rdOf ByteArray.empty l (i : Int))).length = acc.length + (rdOf ByteArray.empty l (i : Int)).size := by rw [List.length_append, bytesOf_length]
    have q2 : (acc ++ bytesOf (rdOf ByteArray.empty l (i : Int))).length < 140737488355328 := by omega
    rw [segment_Join.l0, if_pos q, if_pos q0, if_pos q, if_pos q1, Option.bind_some, if_pos q2, w3]
    rw [ih k (i + 1) _ (by omega) (by omega) (by rw [List.length_append, hlen, List.length_singleton]; omega), drop_cons l i (by omega)]
    congr 1
    simp [messOf, numsOf_bytes, numsOf]
theorem Join_spec (k : Nat) (l : List ByteArray) (hl : bulkOf l ≤ 1048576) (hk : l.length < k) : segment_Join.f k l = some (numsOf (messOf l)) := by
  unfold segment_Join.f
  have := join_loop l hl _ k 0 [] rfl (by omega) (by simpa using hl)
  simpa using this
theorem refJoin_loop (l : List ByteArray) (hl : bulkOf l ≤ 1048576) (d : Nat) : ∀ (k i : Nat) (acc : List UInt8), l.length - i = d → d < k → acc.length + bulkOf (l.drop i) ≤ 1048576 →
    lamplighterref08_Join.l0 k l (strOf acc) i = some (strOf (acc ++ messOf (l.drop i))) := by
  have hn := bulk_length l
  induction d with
  | zero =>
    intro k i acc hi hk ha
    obtain ⟨k, rfl⟩ : ∃ m, k = m + 1 := ⟨k - 1, by omega⟩
    have q : ¬ ((i : Int) < (l.length : Int)) := by omega
    rw [lamplighterref08_Join.l0, if_neg q, List.drop_eq_nil_of_le (by omega)]
    simp [messOf]
  | succ d ih =>
    intro k i acc hi hk ha
    obtain ⟨k, rfl⟩ : ∃ m, k = m + 1 := ⟨k - 1, by omega⟩
    have q : (i : Int) < (l.length : Int) := by omega
    have q0 : (0 : Int) ≤ (i : Int) := by omega
    rw [drop_cons l i (by omega), bulk_cons] at ha
    have w3 : wrap64 ((i : Int) + 1) = ((i + 1 : Nat) : Int) := by rw [wrap_fit (by omega) (by omega)]; rfl
    have e1 : strOf acc ++ rdOf ByteArray.empty l (i : Int) = strOf (acc ++ (rdOf ByteArray.empty l (i : Int)).data.toList) := by rw [strOf_snoc, strOf_of]
    have e2 : (⟨#[13]⟩ : ByteArray) = strOf [13] := rfl
    have q1 : (strOf acc).size + (rdOf ByteArray.empty l (i : Int)).size ≤ 9223372036854775807 := by rw [strOf_size]; omega
    have q2 : (strOf (acc ++ (rdOf ByteArray.empty l (i : Int)).data.toList)).size + 1 ≤ 9223372036854775807 := by rw [strOf_size, List.length_append, len_size]; omega
    rw [lamplighterref08_Join.l0, if_pos q, if_pos q0, if_pos q1, e1, if_pos q2, e2, ← strOf_snoc, w3]
    rw [ih k (i + 1) _ (by omega) (by omega) (by rw [List.length_append, List.length_append, len_size, List.length_singleton]; omega), drop_cons l i (by omega)]
    congr 2
    simp [messOf]
theorem refJoin_spec (k : Nat) (l : List ByteArray) (hl : bulkOf l ≤ 1048576) (hk : l.length < k) : lamplighterref08_Join.f k l = some (strOf (messOf l)) := by
  unfold lamplighterref08_Join.f
  have := refJoin_loop l hl _ k 0 [] rfl (by omega) (by simpa using hl)
  rw [List.drop_zero, List.nil_append] at this
  exact this
theorem refName_spec (s : ByteArray) : lamplighterref08_Name.f s = some (strOf (s.data.toList.take 3)) := by
  have hl := len_size s
  unfold lamplighterref08_Name.f
  by_cases h : (s.size : Int) < 3
  · rw [if_pos h, List.take_of_length_le (by omega), strOf_of]
  · have q : (3 : Int) ≤ (s.size : Int) := by omega
    rw [if_neg h, if_pos (by decide), if_pos q]
    congr 1
    apply bytes_eq
    rw [Lib.extract_data, strOf_data]
    simp
theorem segs_length (b : List UInt8) : (segsOf b).length ≤ b.length + 1 := by
  have h1 := cutL_length 13 b
  have h2 := List.count_le_length (a := 13) (l := b)
  unfold segsOf
  split
  · rw [List.length_dropLast]; omega
  · omega
end Go.Proofs.Ytabcmcllcfapkaa
