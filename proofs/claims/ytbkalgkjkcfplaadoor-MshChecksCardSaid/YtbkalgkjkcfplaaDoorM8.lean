/- Merged of this work's texts Seg, Delim, DelimRead, Msh, Alive09: a claim may hold 60 files at most. -/
import Derived.Test.YtbkalgkjkcfplaaDoorPMx3
import Derived.Test.YtbkalgkjkcfplaaDoorPMx4
import Derived.Test.YtbkalgkjkcfplaaDoorPMx6
import Derived.Test.YtbkalgkjkcfplaaDoorCut
import Derived.Test.YtbkalgkjkcfplaaDoorStr
import Derived.Test.YtbkalgkjkcfplaaDoorPMx2
import Derived.Lib.IndexLaws
import Derived.Test.YtbkalgkjkcfplaaDoorPMx5
import Derived.Test.YtbkalgkjkcfplaaDoorGlob
/- What the printed functions of package segment come to, over lists of bytes: fields, counts, repetitions, components; sizes up to 2^47 bytes. -/
namespace Go.Proofs.YtbkalgkjkcfplaaDoor
open Go Go.RowKit Go.Proofs.YtbkalgkjkcfplaaDoor.PM Go.Proofs.YtbkalgkjkcfplaaDoorW.PrintWords Go.Proofs.YtbkalgkjkcfplaaDoorW.PrintLast Go.Proofs.YtbkalgkjkcfplaaDoorW.PrintMore

def MSH : List UInt8 := [77, 83, 72]
/-- All fields of a segment. -/
def fieldsOf (d : UInt8) (s : List UInt8) : List (List UInt8) :=
  if s.take 3 = MSH then
    if (s.drop 3).take 1 = [d] then [d] :: cutL d (s.drop 4) else []
  else (cutL d s).tail
/-- The n-th of some texts, from 1 on; empty, if there is none. -/
def nthOf (l : List (List UInt8)) (n : Int) : List UInt8 := if 1 ≤ n then l.getD (n - 1).toNat [] else []
theorem nthOf_nil (n : Int) : nthOf [] n = [] := by unfold nthOf; split <;> simp
theorem nthOf_big {l : List (List UInt8)} {n : Int} (h : (l.length : Int) < n) : nthOf l n = [] := by
  unfold nthOf
  split
  · rw [List.getD_eq_getElem?_getD, List.getElem?_eq_none (by omega)]; rfl
  · rfl
theorem nthOf_small {l : List (List UInt8)} {n : Int} (h : n < 1) : nthOf l n = [] := if_neg (by omega)

theorem nth_spec (s : ByteArray) (c : Int) (n : Int) (hs : s.size ≤ 140737488355328) (hc : 0 ≤ c ∧ c ≤ 255) :
    segment_nth.f s c n = some (strOf (nthOf (cutL (UInt8.ofNat c.toNat) s.data.toList) n), ((cutL (UInt8.ofNat c.toNat) s.data.toList).length : Int)) := by
  unfold segment_nth.f
  rw [if_pos hs, if_pos hc]
  rfl
theorem name_spec (s : ByteArray) : segment_Name.f s = some (strOf (s.data.toList.take 3)) := by
  unfold segment_Name.f
  have h1 : mn (s.size : Int) 3 = ((min s.size 3 : Nat) : Int) := by unfold mn; split <;> omega
  rw [h1, if_pos (by omega), if_pos (by omega)]
  congr 1
  apply bytes_eq
  rw [Lib.extract_data, strOf_data, List.drop_zero, Int.toNat_natCast]
  have h2 := len_size s
  by_cases h : s.size ≤ 3
  · rw [List.take_of_length_le (by omega), List.take_of_length_le (by omega)]
  · congr 1; omega
theorem cut_spec (s : ByteArray) (c : Int) (hs : s.size ≤ 140737488355328) :
    ∃ x rest found, strings_Cut.f s (strOfNums [c]) = some (x, rest, found) ∧ (found = true → cutL (UInt8.ofNat c.toNat) s.data.toList = x.data.toList :: cutL (UInt8.ofNat c.toNat) rest.data.toList ∧ rest.size < s.size) ∧ (found = false → cutL (UInt8.ofNat c.toNat) s.data.toList = [x.data.toList]) := by
  rw [byte_str]
  exact cut_contract s _ hs
theorem prefix_spec (s t : ByteArray) : strings_CutPrefix.f s t = some (if t.data.toList.isPrefixOf s.data.toList then (strOf (s.data.toList.drop t.size), true) else (s, false)) := by
  have h1 := len_size s
  have h2 := len_size t
  have hp : stringslite_HasPrefix.f s t = some (t.data.toList.isPrefixOf s.data.toList) := by
    unfold stringslite_HasPrefix.f
    by_cases hl : t.size ≤ s.size
    · rw [if_pos (by omega), if_pos (by omega), if_pos (by omega)]
      congr 1
      rw [Lib.toList_data, Lib.toList_data, Lib.extract_data, List.drop_zero, Int.toNat_natCast, Nat.sub_zero, Bool.eq_iff_iff, beq_iff_eq, List.isPrefixOf_iff_prefix, List.prefix_iff_eq_take, h2]
      exact ⟨fun h => h.symm, fun h => h.symm⟩
    · rw [if_neg (by omega)]
      congr 1
      symm
      rw [Bool.eq_false_iff]
      intro h
      have := (List.isPrefixOf_iff_prefix.1 h).length_le
      omega
  unfold strings_CutPrefix.f stringslite_CutPrefix.f
  rw [hp]
  simp only [Option.bind_some]
  by_cases h : t.data.toList.isPrefixOf s.data.toList = true
  · have := (List.isPrefixOf_iff_prefix.1 h).length_le
    rw [if_pos h, if_pos (by omega), if_pos (by omega), if_pos h]
    simp only [Option.bind_some]
    have e : s.extract ((t.size : Int) : Int).toNat s.size = strOf (s.data.toList.drop t.size) := by
      apply bytes_eq
      rw [Lib.extract_data, strOf_data, Int.toNat_natCast, List.take_of_length_le (by rw [List.length_drop]; omega)]
    rw [e]
  · rw [if_neg h, if_neg h]; rfl
theorem fields_msh {d : UInt8} {s : List UInt8} (h : s.take 3 = MSH) (hp : (MSH ++ [d]).isPrefixOf s = true) : fieldsOf d s = [d] :: cutL d (s.drop 4) := by
  obtain ⟨t, rfl⟩ := List.isPrefixOf_iff_prefix.1 hp
  unfold fieldsOf
  rw [if_pos h, if_pos (by simp [MSH])]
theorem fields_none {d : UInt8} {s : List UInt8} (h : s.take 3 = MSH) (hp : ¬ (MSH ++ [d]).isPrefixOf s = true) : fieldsOf d s = [] := by
  unfold fieldsOf
  rw [if_pos h, if_neg]
  intro h1
  apply hp
  rw [List.isPrefixOf_iff_prefix, ← h, ← h1, ← List.take_add]
  exact List.take_prefix _ _
theorem field_spec (s : ByteArray) (n c c1 c2 c3 c4 : Int) (hs : s.size ≤ 140737488355328) (hc : 0 ≤ c ∧ c ≤ 255) (hn : -9223372036854775807 ≤ n ∧ n ≤ 9223372036854775807) :
    segment_field.f s n c c1 c2 c3 c4 = some (strOf (nthOf (fieldsOf (UInt8.ofNat c.toNat) s.data.toList) n), ((fieldsOf (UInt8.ofNat c.toNat) s.data.toList).length : Int)) := by
  unfold segment_field.f
  rw [name_spec]
  simp only [Option.bind_some, strOf_list]
  by_cases hm : s.data.toList.take 3 = [77, 83, 72]
  · rw [if_pos hm]
    have e1 : 3 + (strOfNums [c]).size ≤ 9223372036854775807 := by rw [byte_str, strOf_size]; simp
    have e2 : ((⟨#[77, 83, 72]⟩ : ByteArray) ++ strOfNums [c]).data.toList = MSH ++ [UInt8.ofNat c.toNat] := by rw [byte_str]; simp [strOf, MSH, ByteArray.data_append]
    have e3 : ((⟨#[77, 83, 72]⟩ : ByteArray) ++ strOfNums [c]).size = 4 := by rw [← len_size, e2]; rfl
    have e4 : wrap64 (n - 1) = n - 1 := by unfold wrap64; omega
    rw [if_pos e1, prefix_spec, e2, e3, e4]
    simp only [Option.bind_some]
    by_cases hp : (MSH ++ [UInt8.ofNat c.toNat]).isPrefixOf s.data.toList = true
    · rw [if_pos hp, if_pos rfl, nth_spec _ _ _ (by rw [strOf_size, List.length_drop, len_size]; omega) hc, strOf_data, fields_msh hm hp]
      simp only [Option.bind_some]
      have hl : (cutL (UInt8.ofNat c.toNat) (s.data.toList.drop 4)).length ≤ s.size + 1 := by
        rw [cutL_length]
        have h3 := List.count_le_length (a := UInt8.ofNat c.toNat) (l := s.data.toList.drop 4)
        rw [List.length_drop, len_size] at h3
        omega
      have e5 : wrap64 (((cutL (UInt8.ofNat c.toNat) (s.data.toList.drop 4)).length : Int) + 1) = ((([UInt8.ofNat c.toNat] :: cutL (UInt8.ofNat c.toNat) (s.data.toList.drop 4)).length : Nat) : Int) := by
        rw [List.length_cons]; unfold wrap64; omega
      rw [e5]
      by_cases h1 : n = 1
      · subst h1
        rw [if_pos rfl, byte_str]
        rfl
      · rw [if_neg h1]
        congr 2
        unfold nthOf
        by_cases h2 : 1 ≤ n - 1
        · rw [if_pos h2, if_pos (by omega)]
          obtain ⟨k, rfl⟩ : ∃ k : Nat, n = (k : Int) + 2 := ⟨(n - 2).toNat, by omega⟩
          have e6 : ((k : Int) + 2 - 1).toNat = k + 1 := by omega
          have e7 : ((k : Int) + 2 - 1 - 1).toNat = k := by omega
          rw [e6, e7]
          simp
        · rw [if_neg h2, if_neg (by omega)]
    · rw [if_neg hp, if_neg (by simp), fields_none hm hp, nthOf_nil]
      rfl
  · rw [if_neg hm]
    obtain ⟨x, rest, found, hf, hy, hno⟩ := cut_spec s c hs
    rw [hf]
    simp only [Option.bind_some]
    have hfo : fieldsOf (UInt8.ofNat c.toNat) s.data.toList = (cutL (UInt8.ofNat c.toNat) s.data.toList).tail := if_neg hm
    cases found with
    | true =>
      rw [if_pos rfl, nth_spec _ _ _ (by have := (hy rfl).2; omega) hc, hfo, (hy rfl).1]
      rfl
    | false =>
      rw [if_neg (by decide), hfo, hno rfl, List.tail_cons, nthOf_nil]
      rfl
theorem Field_spec (s : ByteArray) (n c c1 c2 c3 c4 : Int) (hs : s.size ≤ 140737488355328) (hc : 0 ≤ c ∧ c ≤ 255) (hn : -9223372036854775807 ≤ n ∧ n ≤ 9223372036854775807) :
    segment_Field.f s n c c1 c2 c3 c4 = some (strOf (nthOf (fieldsOf (UInt8.ofNat c.toNat) s.data.toList) n), decide (1 ≤ n ∧ n ≤ ((fieldsOf (UInt8.ofNat c.toNat) s.data.toList).length : Int))) := by
  unfold segment_Field.f
  by_cases h : n < 1
  · rw [if_pos h, nthOf_small h, decide_eq_false (by omega)]; rfl
  · rw [if_neg h, field_spec s n c c1 c2 c3 c4 hs hc hn]
    simp only [Option.bind_some]
    congr 2
    rw [decide_eq_decide]; omega
theorem again_spec (s : ByteArray) (n c c1 c2 c3 c4 : Int) (hs : s.size ≤ 140737488355328) (hc : 0 ≤ c2 ∧ c2 ≤ 255) :
    segment_again.f s n c c1 c2 c3 c4 = some (strOf (nthOf (cutL (UInt8.ofNat c2.toNat) s.data.toList) n), decide (1 ≤ n ∧ n ≤ ((cutL (UInt8.ofNat c2.toNat) s.data.toList).length : Int))) := by
  unfold segment_again.f
  rw [nth_spec _ _ _ hs hc]
  simp only [Option.bind_some]
  by_cases h : n ≥ 1
  · rw [if_pos h]
    congr 2
    rw [decide_eq_decide]; omega
  · rw [if_neg h]
    congr 2
    rw [eq_comm, decide_eq_false_iff_not]; omega
theorem nthOf_le (c : UInt8) (l : List UInt8) (n : Int) : (nthOf (cutL c l) n).length ≤ l.length := by
  unfold nthOf
  split
  · rw [List.getD_eq_getElem?_getD]
    cases h : (cutL c l)[(n - 1).toNat]? with
    | none => simp
    | some x => exact cutL_part_le c l x (List.mem_of_getElem? h)
  · simp
theorem Part_spec (s : ByteArray) (r n c c1 c2 c3 c4 : Int) (hs : s.size ≤ 140737488355328) (hc : 0 ≤ c2 ∧ c2 ≤ 255) (hc1 : 0 ≤ c1 ∧ c1 ≤ 255) :
    segment_Part.f s r n c c1 c2 c3 c4 = some (if 1 ≤ r ∧ r ≤ ((cutL (UInt8.ofNat c2.toNat) s.data.toList).length : Int) then
      (strOf (nthOf (cutL (UInt8.ofNat c1.toNat) (nthOf (cutL (UInt8.ofNat c2.toNat) s.data.toList) r)) n), decide (1 ≤ n ∧ n ≤ ((cutL (UInt8.ofNat c1.toNat) (nthOf (cutL (UInt8.ofNat c2.toNat) s.data.toList) r)).length : Int)))
      else (strOf [], false)) := by
  unfold segment_Part.f
  rw [again_spec _ _ _ _ _ _ _ hs hc]
  simp only [Option.bind_some]
  by_cases h : 1 ≤ r ∧ r ≤ ((cutL (UInt8.ofNat c2.toNat) s.data.toList).length : Int)
  · have hb : (strOf (nthOf (cutL (UInt8.ofNat c2.toNat) s.data.toList) r)).size ≤ 140737488355328 := by
      rw [strOf_size]
      have h1 := nthOf_le (UInt8.ofNat c2.toNat) s.data.toList r
      rw [len_size] at h1
      omega
    rw [if_pos (decide_eq_true h), nth_spec _ _ _ hb hc1, strOf_data, if_pos h]
    simp only [Option.bind_some]
    by_cases h1 : n ≥ 1
    · rw [if_pos h1]
      congr 2
      rw [decide_eq_decide]; omega
    · rw [if_neg h1]
      congr 2
      rw [eq_comm, decide_eq_false_iff_not]; omega
  · rw [if_neg (by rw [decide_eq_true_iff]; exact h), if_neg h]; rfl
end Go.Proofs.YtbkalgkjkcfplaaDoor

/- Which signs may be: what delim.Right answers, as a law over five bytes; condition: each is a byte, and fuel for a step a sign. -/
namespace Go.Proofs.YtbkalgkjkcfplaaDoor
open Go Go.RowKit Go.Proofs.YtbkalgkjkcfplaaDoor.PM Go.Proofs.YtbkalgkjkcfplaaDoorW.PrintWords Go.Proofs.YtbkalgkjkcfplaaDoorW.PrintLast

/-- A byte may be a sign. -/
def OkS (c : Int) : Prop := 33 ≤ c ∧ c ≤ 126 ∧ ¬ (65 ≤ c ∧ c ≤ 90) ∧ ¬ (97 ≤ c ∧ c ≤ 122) ∧ ¬ (48 ≤ c ∧ c ≤ 57)
instance (c : Int) : Decidable (OkS c) := by unfold OkS; exact inferInstance
theorem low_bits : ∀ n : Fin 256, (97 ≤ Go.bits .or .u8 (n.val : Int) 32 ∧ Go.bits .or .u8 (n.val : Int) 32 ≤ 122) ↔ ((65 ≤ (n.val : Int) ∧ (n.val : Int) ≤ 90) ∨ (97 ≤ (n.val : Int) ∧ (n.val : Int) ≤ 122)) := by decide +kernel
theorem low_bits_at (c : Int) (h : 0 ≤ c ∧ c ≤ 255) : (97 ≤ Go.bits .or .u8 c 32 ∧ Go.bits .or .u8 c 32 ≤ 122) ↔ ((65 ≤ c ∧ c ≤ 90) ∨ (97 ≤ c ∧ c ≤ 122)) := by
  obtain ⟨n, rfl⟩ := Int.eq_ofNat_of_zero_le h.1
  exact low_bits ⟨n, by omega⟩
/-- Five bytes. -/
def Bytes5 (l : List Int) : Prop := l.length = 5 ∧ ∀ c ∈ l, 0 ≤ c ∧ c ≤ 255
theorem rd_byte {l : List Int} (h : Bytes5 l) {i : Nat} (hi : i < 5) : 0 ≤ rd l i ∧ rd l i ≤ 255 := by
  have e : rd l i = l[i]'(by rw [h.1]; exact hi) := by
    unfold rd
    rw [Int.toNat_natCast, List.getD_eq_getElem?_getD, List.getElem?_eq_getElem (by rw [h.1]; exact hi)]; rfl
  rw [e]
  exact h.2 _ (List.getElem_mem _)
/-- The sign i may be, and none ahead of it is the same. -/
def Fit (l : List Int) (i : Nat) : Prop := OkS (rd l i) ∧ ∀ m, m < i → rd l m ≠ rd l i
instance (l : List Int) (i : Nat) : Decidable (Fit l i) := by unfold Fit; exact inferInstance
/-- All from i on fit. -/
def FitFrom (l : List Int) (i : Nat) : Prop := ∀ j, j < 5 → i ≤ j → Fit l j
instance (l : List Int) (i : Nat) : Decidable (FitFrom l i) := by unfold FitFrom; exact inferInstance
theorem fit_step {l : List Int} {i : Nat} (hi : i < 5) : FitFrom l i ↔ Fit l i ∧ FitFrom l (i + 1) := by
  constructor
  · intro h
    exact ⟨h i hi (Nat.le_refl _), fun j hj hij => h j hj (by omega)⟩
  · intro h j hj hij
    by_cases e : j = i
    · subst e; exact h.1
    · exact h.2 j hj (by omega)
theorem index_lt {l : List Int} (hb : Bytes5 l) {i : Nat} (hi : i < 5) : Lib.indexByte (Lib.bytesOf l) (rd l i).toNat.toUInt8 < (i : Int) ↔ ¬ ∀ m, m < i → rd l m ≠ rd l i := by
  have hget : ∀ m : Nat, m < 5 → (Lib.bytesOf l)[m]? = some (UInt8.ofNat (rd l m).toNat) := by
    intro m hm
    unfold Lib.bytesOf rd
    rw [List.getElem?_map, List.getElem?_eq_getElem (by rw [hb.1]; exact hm), Int.toNat_natCast, List.getD_eq_getElem?_getD, List.getElem?_eq_getElem (by rw [hb.1]; exact hm)]
    rfl
  have hinj : ∀ m : Nat, m < 5 → UInt8.ofNat (rd l m).toNat = UInt8.ofNat (rd l i).toNat → rd l m = rd l i := by
    intro m hm e
    have h1 := rd_byte hb hm
    have h2 := rd_byte hb hi
    have := congrArg UInt8.toNat e
    rw [UInt8.toNat_ofNat', UInt8.toNat_ofNat'] at this
    omega
  have hc : (rd l i).toNat.toUInt8 = UInt8.ofNat (rd l i).toNat := rfl
  rw [hc]
  have hge := Lib.indexByte_ge (Lib.bytesOf l) (UInt8.ofNat (rd l i).toNat)
  by_cases hn : Lib.indexByte (Lib.bytesOf l) (UInt8.ofNat (rd l i).toNat) = -1
  · exact absurd (hget i hi) (Lib.indexByte_none hn i)
  · obtain ⟨o, ho⟩ := Int.eq_ofNat_of_zero_le (a := Lib.indexByte (Lib.bytesOf l) (UInt8.ofNat (rd l i).toNat)) (by omega)
    obtain ⟨h1, h2⟩ := Lib.indexByte_some ho
    rw [ho]
    constructor
    · intro hlt h
      have hoi : o < i := by omega
      have := hget o (by omega)
      rw [h1] at this
      exact h o hoi (hinj o (by omega) (Option.some.inj this).symm)
    · intro h
      by_cases hlt : o < i
      · omega
      · exfalso
        refine h (fun m hm e => ?_)
        have := hget m (by omega)
        rw [e] at this
        exact h2 m (by omega) this
theorem right_loop {l : List Int} (hb : Bytes5 l) (d : Nat) : ∀ (k i : Nat), i ≤ 5 → 5 - i = d → d < k → delim_Right.l0 k l l 5 i = some (decide (FitFrom l i)) := by
  induction d with
  | zero =>
    intro k i hi hd hk
    obtain ⟨k, rfl⟩ : ∃ m, k = m + 1 := ⟨k - 1, by omega⟩
    have q : ¬ ((i : Int) < 5) := by omega
    have q1 : FitFrom l i := fun j hj hij => by omega
    rw [delim_Right.l0, if_neg q, decide_eq_true q1]
  | succ d ih =>
    intro k i hi hd hk
    obtain ⟨k, rfl⟩ : ∃ m, k = m + 1 := ⟨k - 1, by omega⟩
    have hi5 : i < 5 := by omega
    have q : (i : Int) < 5 := by omega
    have q0 : (0 : Int) ≤ (i : Int) := by omega
    have q1 : (i : Int) < (l.length : Int) := by rw [hb.1]; omega
    have hw : wrap64 ((i : Int) + 1) = ((i + 1 : Nat) : Int) := by unfold wrap64; omega
    have ih := ih k (i + 1) (by omega) (by omega) (by omega)
    have hbit := low_bits_at _ (rd_byte hb hi5)
    have hidx := index_lt hb hi5
    have hbb := rd_byte hb hi5
    have hfs := fit_step (l := l) hi5
    have hF : Fit l i ↔ OkS (rd l i) ∧ ∀ m, m < i → rd l m ≠ rd l i := Iff.rfl
    have goal : ∀ (b p : Prop) [Decidable b], (b ↔ p) → True := fun _ _ _ _ => trivial
    clear goal
    rw [delim_Right.l0, if_pos q, if_pos q0, if_pos q1, hw, ih]
    unfold bytes_IndexByte.f
    simp only [Option.bind_some]
    generalize Go.bits .or .u8 (rd l i) 32 = bb at hbit ⊢
    generalize Lib.indexByte (Lib.bytesOf l) (rd l i).toNat.toUInt8 = ix at hidx ⊢
    unfold OkS at hF
    repeat' split
    all_goals first
      | (congr 1; rw [eq_comm, decide_eq_false_iff_not, hfs, hF]; rintro ⟨⟨ho, hm⟩, _⟩; first | omega | exact hidx.1 (by assumption) hm)
      | (congr 1; rw [decide_eq_decide, hfs, hF]; refine ⟨fun h => ⟨⟨by omega, Classical.byContradiction fun hh => absurd (hidx.2 hh) (by assumption)⟩, h⟩, fun h => h.2⟩)
/-- These five bytes may be the signs. -/
def GoodS (a b c d e : Int) : Prop := FitFrom [a, b, c, d, e] 0
instance (a b c d e : Int) : Decidable (GoodS a b c d e) := by unfold GoodS; exact inferInstance
theorem bytes5 {a b c d e : Int} (ha : 0 ≤ a ∧ a ≤ 255) (hb : 0 ≤ b ∧ b ≤ 255) (hc : 0 ≤ c ∧ c ≤ 255) (hd : 0 ≤ d ∧ d ≤ 255) (he : 0 ≤ e ∧ e ≤ 255) : Bytes5 [a, b, c, d, e] :=
  ⟨rfl, fun x hx => by
    simp only [List.mem_cons, List.not_mem_nil, or_false] at hx
    rcases hx with rfl | rfl | rfl | rfl | rfl <;> assumption⟩
theorem Right_spec (k : Nat) (hk : 6 ≤ k) (a b c d e : Int) (ha : 0 ≤ a ∧ a ≤ 255) (hb : 0 ≤ b ∧ b ≤ 255) (hc : 0 ≤ c ∧ c ≤ 255) (hd : 0 ≤ d ∧ d ≤ 255) (he : 0 ≤ e ∧ e ≤ 255) :
    delim_Right.f k a b c d e = some (decide (GoodS a b c d e)) := by
  unfold delim_Right.f delim_Plain.f
  rw [Option.bind_some]
  split
  · rename_i h
    simp only [Bool.and_eq_true, beq_iff_eq] at h
    obtain ⟨rfl, rfl, rfl, rfl, rfl⟩ := h
    rw [decide_eq_true (show GoodS 124 94 126 92 38 by decide)]
  · unfold delim_five.f
    rw [Option.bind_some]
    exact right_loop (bytes5 ha hb hc hd he) 5 k 0 (by omega) rfl (by omega)
end Go.Proofs.YtbkalgkjkcfplaaDoor

/- What delim.Read reads of any bytes; conditions: the numbers are bytes. -/
namespace Go.Proofs.YtbkalgkjkcfplaaDoor.Pure
open Go Go.RowKit Go.Proofs.YtbkalgkjkcfplaaDoor.PM Go.Proofs.YtbkalgkjkcfplaaDoorW.PrintWords Go.Proofs.YtbkalgkjkcfplaaDoorW.PrintLast

def IsByte (a : Int) : Prop := 0 ≤ a ∧ a ≤ 255
theorem rd_all {l : List Int} (h : ∀ x ∈ l, IsByte x) (i : Int) : IsByte (rd l i) := by
  unfold rd
  rw [List.getD_eq_getElem?_getD]
  cases e : l[i.toNat]? with
  | none => exact ⟨by decide, by decide⟩
  | some x => exact h x (List.mem_of_getElem? e)
/-- What is read of bytes. -/
def readS (l : List Int) : Int × Int × Int × Int × Int × Int :=
  if (l.length : Int) < 9 then (0, 0, 0, 0, 0, 7)
  else if Lib.bytesOf (l.take 3) = [77, 83, 72] ∧ GoodS (rd l 3) (rd l 4) (rd l 5) (rd l 6) (rd l 7) ∧ (rd l 8 = rd l 3 ∨ rd l 8 = 13) then (rd l 3, rd l 4, rd l 5, rd l 6, rd l 7, 0)
  else (0, 0, 0, 0, 0, 11)
theorem some_ite {α : Type} (p q : Prop) [Decidable p] [Decidable q] (g : Bool) (G : Prop) [Decidable G] (hg : g = decide G) (x y : α) :
    (if g = true then (if p then some x else if q then some x else some y) else some y) = some (if G ∧ (p ∨ q) then x else y) := by
  subst hg
  by_cases h1 : G
  · by_cases h2 : p
    · rw [if_pos (decide_eq_true h1), if_pos h2, if_pos ⟨h1, .inl h2⟩]
    · by_cases h3 : q
      · rw [if_pos (decide_eq_true h1), if_neg h2, if_pos h3, if_pos ⟨h1, .inr h3⟩]
      · rw [if_pos (decide_eq_true h1), if_neg h2, if_neg h3, if_neg (fun h => h.2.elim h2 h3)]
  · rw [if_neg (fun h => h1 (of_decide_eq_true h)), if_neg (fun h => h1 h.1)]
theorem and_ite {α : Type} (p q : Prop) [Decidable p] [Decidable q] [Decidable (p ∧ q)] (x y : α) : (if p then some (if q then x else y) else some y) = some (if p ∧ q then x else y) := by
  by_cases h1 : p
  · by_cases h2 : q
    · rw [if_pos h1, if_pos h2, if_pos ⟨h1, h2⟩]
    · rw [if_pos h1, if_neg h2, if_neg (fun h => h2 h.2)]
  · rw [if_neg h1, if_neg (fun h => h1 h.1)]
theorem Read_spec (k : Nat) (hk : 6 ≤ k) (l : List Int) (h : ∀ x ∈ l, IsByte x) : delim_Read.f k l = some (readS l) := by
  unfold delim_Read.f readS
  by_cases h9 : (l.length : Int) < 9
  · rw [if_pos h9, if_pos h9]
  · rw [if_neg h9, if_neg h9, Right_spec k hk _ _ _ _ _ (rd_all h _) (rd_all h _) (rd_all h _) (rd_all h _) (rd_all h _), Option.bind_some, some_ite _ _ _ _ rfl, and_ite]
end Go.Proofs.YtbkalgkjkcfplaaDoor.Pure

/- What msh.Read, msh.Check and the law's examples come to, over lists of bytes; conditions: the numbers are bytes, texts of at most 2^47 bytes, and fuel for a step each. -/
namespace Go.Proofs.YtbkalgkjkcfplaaDoor.Pure
open Go Go.RowKit Go.Proofs.YtbkalgkjkcfplaaDoor.PM Go.Proofs.YtbkalgkjkcfplaaDoorW.PrintWords Go.Proofs.YtbkalgkjkcfplaaDoorW.PrintLast

theorem MSplit_spec (b : List Int) (hb : b.length ≤ 1000000000000) : segment_Split.f b = some ((segsOf (Lib.bytesOf b)).map strOf) := if_pos hb
theorem index_loop (l : List ByteArray) (a : ByteArray) (hl : l.length ≤ 1000000) (d : Nat) : ∀ (k i : Nat), i ≤ l.length → l.length - i = d → d < k → (∀ x ∈ l.take i, x ≠ a) →
    ∃ n : Int, slices_Index_string_string.l0 k l a (l.length : Int) i = some n ∧ (n ≥ 0 ↔ a ∈ l) := by
  induction d with
  | zero =>
    intro k i hi hd hk hn
    obtain ⟨k, rfl⟩ : ∃ m, k = m + 1 := ⟨k - 1, by omega⟩
    have q : ¬ ((i : Int) < (l.length : Int)) := by omega
    refine ⟨-1, by rw [slices_Index_string_string.l0, if_neg q], ?_⟩
    rw [List.take_of_length_le (by omega)] at hn
    exact ⟨fun h => absurd h (by decide), fun h => absurd rfl (hn a h)⟩
  | succ d ih =>
    intro k i hi hd hk hn
    obtain ⟨k, rfl⟩ : ∃ m, k = m + 1 := ⟨k - 1, by omega⟩
    have hlt : i < l.length := by omega
    have q : (i : Int) < (l.length : Int) := by omega
    have q0 : (0 : Int) ≤ (i : Int) := by omega
    have hget : rdOf ByteArray.empty l (i : Int) = l[i] := by simp [rdOf, hlt]
    by_cases h : a.toList = (rdOf ByteArray.empty l (i : Int)).toList
    · refine ⟨i, by rw [slices_Index_string_string.l0, if_pos q, if_pos q0, if_pos q, if_pos h], ⟨fun _ => ?_, fun _ => q0⟩⟩
      rw [hget, Lib.toList_data, Lib.toList_data] at h
      rw [bytes_eq h]
      exact List.getElem_mem _
    · obtain ⟨n, h1, h2⟩ := ih k (i + 1) (by omega) (by omega) (by omega) (by
        intro x hx
        rw [List.take_succ_eq_append_getElem hlt, List.mem_append, List.mem_singleton] at hx
        rcases hx with hx | rfl
        · exact hn x hx
        · rintro rfl
          exact h (by rw [hget]))
      refine ⟨n, ?_, h2⟩
      rw [slices_Index_string_string.l0, if_pos q, if_pos q0, if_pos q, if_neg h, wrap_succ i (by omega), h1]
open Classical in
theorem contains_spec (k : Nat) (l : List ByteArray) (a : ByteArray) (hl : l.length ≤ 1000000) (hk : l.length < k) : slices_Contains_string_string.f k l a = some (decide (a ∈ l)) := by
  obtain ⟨n, h1, h2⟩ := index_loop l a hl _ k 0 (by omega) rfl (by omega) (by simp)
  unfold slices_Contains_string_string.f slices_Index_string_string.f
  rw [show slices_Index_string_string.l0 k l a (l.length : Int) 0 = some n from h1, Option.bind_some]
  congr 1
  rw [decide_eq_decide]
  exact h2
/-- A field's first component. -/
def firstOf (c1 c2 : UInt8) (s : List UInt8) : List UInt8 := nthOf (cutL c1 (nthOf (cutL c2 s) 1)) 1
theorem first_spec (s : ByteArray) (c c1 c2 c3 c4 : Int) (hs : s.size ≤ 140737488355328) (hc1 : IsByte c1) (hc2 : IsByte c2) :
    msh_first.f s c c1 c2 c3 c4 = some (strOf (firstOf (UInt8.ofNat c1.toNat) (UInt8.ofNat c2.toNat) s.data.toList)) := by
  unfold msh_first.f
  rw [Part_spec s 1 1 c c1 c2 c3 c4 hs hc2 hc1, Option.bind_some]
  have h : (1 : Int) ≤ 1 ∧ (1 : Int) ≤ ((cutL (UInt8.ofNat c2.toNat) s.data.toList).length : Int) := ⟨by decide, by have := cutL_length_pos (UInt8.ofNat c2.toNat) s.data.toList; omega⟩
  first
    | rfl
    | (rw [if_pos h]; rfl)
    | (simp only [h]; rfl)
def procB : List (List UInt8) := [[80], [68], [84]]
/-- What is wrong with a head. -/
def checkOf (c1 c2 : UInt8) (kind id proc ver : List UInt8) : Int :=
  if kind = [] ∨ id = [] ∨ 50 < id.length then 14 else if firstOf c1 c2 ver ∉ verB then 12 else if firstOf c1 c2 proc ∉ procB then 13 else 0
theorem mem_texts (l : List (List UInt8)) (x : List UInt8) : strOf x ∈ l.map strOf ↔ x ∈ l := by
  constructor
  · intro h
    obtain ⟨y, hy, e⟩ := List.mem_map.1 h
    have := congrArg (·.data.toList) e
    simp only [strOf_data] at this
    exact this ▸ hy
  · exact List.mem_map_of_mem
open Classical in
theorem Check_spec (k : Nat) (hk : 10 < k) (c c1 c2 c3 c4 : Int) (t5 t6 t7 t8 t9 t10 kind id proc ver : ByteArray) (hp : proc.size ≤ 140737488355328) (hv : ver.size ≤ 140737488355328) (hc1 : IsByte c1) (hc2 : IsByte c2) :
    msh_Check.f k c c1 c2 c3 c4 t5 t6 t7 t8 t9 t10 kind id proc ver = some (checkOf (UInt8.ofNat c1.toNat) (UInt8.ofNat c2.toNat) kind.data.toList id.data.toList proc.data.toList ver.data.toList) := by
  have hl := len_size id
  have e0 : ∀ s : ByteArray, (s.toList.isEmpty = true) ↔ s.data.toList = [] := fun s => by rw [Lib.toList_data, List.isEmpty_iff]
  unfold msh_Check.f checkOf
  by_cases h1 : kind.data.toList = []
  · rw [if_pos ((e0 _).2 h1), if_pos (.inl h1)]
  rw [if_neg (fun h => h1 ((e0 _).1 h))]
  by_cases h2 : id.data.toList = []
  · rw [if_pos ((e0 _).2 h2), if_pos (.inr (.inl h2))]
  rw [if_neg (fun h => h2 ((e0 _).1 h))]
  by_cases h3 : (50 : Int) < (id.size : Int)
  · rw [if_pos h3, if_pos (.inr (.inr (by omega)))]
  have hn : ¬ (kind.data.toList = [] ∨ id.data.toList = [] ∨ 50 < id.data.toList.length) := by
    rintro (h | h | h)
    · exact h1 h
    · exact h2 h
    · omega
  rw [if_neg h3, if_neg hn, first_spec ver c c1 c2 c3 c4 hv hc1 hc2, Option.bind_some, show (versL : List ByteArray) = verB.map strOf from rfl, contains_spec k (verB.map strOf) _ (by decide) (by show 10 < k; exact hk), Option.bind_some]
  by_cases h4 : firstOf (UInt8.ofNat c1.toNat) (UInt8.ofNat c2.toNat) ver.data.toList ∈ verB
  · rw [if_pos (decide_eq_true ((mem_texts verB _).2 h4)), if_neg (fun h => h h4), first_spec proc c c1 c2 c3 c4 hp hc1 hc2, Option.bind_some]
    have hpl : ([⟨#[80]⟩, ⟨#[68]⟩, ⟨#[84]⟩] : List ByteArray) = procB.map strOf := rfl
    rw [hpl, contains_spec k (procB.map strOf) _ (by decide) (by show 3 < k; omega), Option.bind_some]
    by_cases h5 : firstOf (UInt8.ofNat c1.toNat) (UInt8.ofNat c2.toNat) proc.data.toList ∈ procB
    · rw [if_pos (decide_eq_true ((mem_texts procB _).2 h5)), if_neg (fun h => h h5)]
    · rw [if_neg (by rw [decide_eq_true_eq, mem_texts]; exact h5), if_pos h5]
  · rw [if_neg (by rw [decide_eq_true_eq]; exact fun h => h4 ((mem_texts verB _).1 h)), if_pos h4]
/-- What is read of bytes: the signs, the texts, the error. -/
def readM (l : List Int) : Int × Int × Int × Int × Int × ByteArray × ByteArray × ByteArray × ByteArray × ByteArray × ByteArray × ByteArray × ByteArray × ByteArray × ByteArray × Int :=
  let d := readS l
  if d.2.2.2.2.2 = 0 then
    let F := fieldsOf (UInt8.ofNat d.1.toNat) ((segsOf (Lib.bytesOf l)).headD [])
    if nthOf F 2 = Lib.bytesOf [d.2.1, d.2.2.1, d.2.2.2.1, d.2.2.2.2.1] then
      (d.1, d.2.1, d.2.2.1, d.2.2.2.1, d.2.2.2.2.1, strOf (nthOf F 3), strOf (nthOf F 4), strOf (nthOf F 5), strOf (nthOf F 6), strOf (nthOf F 7), strOf (nthOf F 8), strOf (nthOf F 9), strOf (nthOf F 10), strOf (nthOf F 11), strOf (nthOf F 12), 0)
    else (0, 0, 0, 0, 0, strOf [], strOf [], strOf [], strOf [], strOf [], strOf [], strOf [], strOf [], strOf [], strOf [], 11)
  else (0, 0, 0, 0, 0, strOf [], strOf [], strOf [], strOf [], strOf [], strOf [], strOf [], strOf [], strOf [], strOf [], d.2.2.2.2.2)
theorem segs_ne {b : List UInt8} (h : b.take 3 = [77, 83, 72]) : segsOf b ≠ [] := by
  obtain ⟨t, rfl⟩ : ∃ t, b = 77 :: 83 :: 72 :: t := by
    match b, h with
    | x :: y :: z :: t, h => simp at h; obtain ⟨rfl, rfl, rfl⟩ := h; exact ⟨t, rfl⟩
    | [], h => simp at h
    | [_], h => simp at h
    | [_, _], h => simp at h
  obtain ⟨u, v, e⟩ := cutL_form 13 t
  have h2 : cutL 13 (77 :: 83 :: 72 :: t) = (77 :: 83 :: 72 :: u) :: v := by
    rw [cutL_miss (by decide), cutL_miss (by decide), cutL_miss (by decide), e]; rfl
  unfold segsOf
  rw [h2]
  split
  · rename_i h3
    intro h4
    cases v with
    | nil => simp at h3
    | cons x v => simp at h4
  · simp
theorem segs_part (b : List UInt8) : ((segsOf b).headD []).length ≤ b.length := by
  have key : ∀ x ∈ segsOf b, x.length ≤ b.length := by
    intro x hx
    refine cutL_part_le 13 b x ?_
    unfold segsOf at hx
    split at hx
    · exact List.dropLast_subset _ hx
    · exact hx
  cases h : segsOf b with
  | nil => simp
  | cons x t => exact key x (by rw [h]; simp)
theorem reads_msh {l : List Int} (h : (readS l).2.2.2.2.2 = 0) : Lib.bytesOf (l.take 3) = [77, 83, 72] := by
  unfold readS at h
  split at h
  · simp at h
  · split at h
    · rename_i h2; exact h2.1
    · simp at h
theorem reads_bytes {l : List Int} (h : ∀ x ∈ l, IsByte x) : IsByte (readS l).1 ∧ IsByte (readS l).2.1 ∧ IsByte (readS l).2.2.1 ∧ IsByte (readS l).2.2.2.1 ∧ IsByte (readS l).2.2.2.2.1 := by
  have z : IsByte 0 := ⟨by decide, by decide⟩
  unfold readS
  split
  · exact ⟨z, z, z, z, z⟩
  · split
    · exact ⟨rd_all h _, rd_all h _, rd_all h _, rd_all h _, rd_all h _⟩
    · exact ⟨z, z, z, z, z⟩
theorem bytesOf_take (l : List Int) (n : Nat) : Lib.bytesOf (l.take n) = (Lib.bytesOf l).take n := by simp [Lib.bytesOf, List.map_take]
theorem MRead_spec (k : Nat) (hk : 6 ≤ k) (l : List Int) (h : ∀ x ∈ l, IsByte x) (hl : l.length ≤ 1000000000) : msh_Read.f k l = some (readM l) := by
  have hb := reads_bytes h
  unfold msh_Read.f readM
  rw [Read_spec k hk l h, Option.bind_some]
  dsimp only
  by_cases he : (readS l).2.2.2.2.2 = 0
  · have hm := reads_msh he
    rw [bytesOf_take] at hm
    have hne := segs_ne hm
    obtain ⟨s, t, hst⟩ : ∃ s t, segsOf (Lib.bytesOf l) = s :: t := by
      cases hs : segsOf (Lib.bytesOf l) with
      | nil => exact absurd hs hne
      | cons s t => exact ⟨s, t, rfl⟩
    have hsl : s.length ≤ 1000000000 := by
      have := segs_part (Lib.bytesOf l)
      rw [hst, bytesOf_len] at this
      exact Nat.le_trans this hl
    have hsz : (strOf s).size ≤ 140737488355328 := by rw [strOf_size]; omega
    have hr : rdOf ByteArray.empty (strOf s :: t.map strOf) 0 = strOf s := rfl
    have F := fun (n : Int) (hn : -9223372036854775807 ≤ n ∧ n ≤ 9223372036854775807) => Field_spec (strOf s) n (readS l).1 (readS l).2.1 (readS l).2.2.1 (readS l).2.2.2.1 (readS l).2.2.2.2.1 hsz hb.1 hn
    simp only [strOf_data] at F
    rw [if_pos he, if_pos he, MSplit_spec l (by omega), Option.bind_some, hst, List.map_cons, if_pos (by simp), hr, F 2 (by decide), Option.bind_some]
    unfold msh_others.f
    rw [Option.bind_some, List.headD_cons]
    dsimp only
    rw [strOf_list, Lib.toList_data, str_data]
    by_cases hq : nthOf (fieldsOf (UInt8.ofNat (readS l).1.toNat) s) 2 = Lib.bytesOf [(readS l).2.1, (readS l).2.2.1, (readS l).2.2.2.1, (readS l).2.2.2.2.1]
    · rw [if_pos hq, if_pos hq, F 3 (by decide), Option.bind_some, F 4 (by decide), Option.bind_some, F 5 (by decide), Option.bind_some, F 6 (by decide), Option.bind_some, F 7 (by decide), Option.bind_some, F 8 (by decide), Option.bind_some,
        F 9 (by decide), Option.bind_some, F 10 (by decide), Option.bind_some, F 11 (by decide), Option.bind_some, F 12 (by decide), Option.bind_some]
    · rw [if_neg hq, if_neg hq]
      rfl
  · rw [if_neg he, if_neg he]
    rfl
end Go.Proofs.YtbkalgkjkcfplaaDoor.Pure

/- The document's examples of layer 9 hold. -/
namespace Go.Proofs.YtbkalgkjkcfplaaDoor.Pure
open Go Go.RowKit Go.Proofs.YtbkalgkjkcfplaaDoor.PM Go.Proofs.YtbkalgkjkcfplaaDoorW.PrintWords Go.Proofs.YtbkalgkjkcfplaaDoorW.PrintLast
def exHead : List Int := [77, 83, 72, 124, 94, 126, 92, 38, 124, 65, 124, 66, 124, 67, 124, 68, 124, 49, 124, 124, 65, 68, 84, 94, 65, 48, 49, 124, 55, 124, 80, 124, 50, 46, 53]
theorem exHead_is : readM exHead = (124, 94, 126, 92, 38, strOf [65], strOf [66], strOf [67], strOf [68], strOf [49], strOf [], strOf [65, 68, 84, 94, 65, 48, 49], strOf [55], strOf [80], strOf [50, 46, 53], 0) := by
  have hr : readS exHead = (124, 94, 126, 92, 38, 0) := by decide
  have hf : fieldsOf (UInt8.ofNat (124 : Int).toNat) ((segsOf (Lib.bytesOf exHead)).headD []) = [[124], [94, 126, 92, 38], [65], [66], [67], [68], [49], [], [65, 68, 84, 94, 65, 48, 49], [55], [80], [50, 46, 53]] := by decide
  unfold readM
  rw [hr]
  dsimp only
  rw [if_pos rfl, hf, if_pos (by decide)]
  rfl
theorem alive9_is (k : Nat) (hk : 10 < k) : lamplighterlaw09_alive.f k = some true := by
  have hb : ∀ x ∈ exHead, IsByte x := by unfold IsByte exHead; decide
  have h94 : IsByte 94 := by unfold IsByte; decide
  have h126 : IsByte 126 := by unfold IsByte; decide
  unfold lamplighterlaw09_alive.f
  rw [show msh_Read.f k [77, 83, 72, 124, 94, 126, 92, 38, 124, 65, 124, 66, 124, 67, 124, 68, 124, 49, 124, 124, 65, 68, 84, 94, 65, 48, 49, 124, 55, 124, 80, 124, 50, 46, 53] = some (readM exHead) from MRead_spec k (by omega) exHead hb (by decide), exHead_is, Option.bind_some]
  dsimp only
  rw [Check_spec k hk _ _ _ _ _ _ _ _ _ _ _ _ _ _ _ (by rw [strOf_size]; decide) (by rw [strOf_size]; decide) h94 h126, Option.bind_some,
    Check_spec k hk _ _ _ _ _ _ _ _ _ _ _ _ _ _ _ (by rw [strOf_size]; decide) (by rw [strOf_size]; decide) h94 h126, Option.bind_some,
    Check_spec k hk _ _ _ _ _ _ _ _ _ _ _ _ _ _ _ (by rw [strOf_size]; decide) (by decide) h94 h126, Option.bind_some]
  rw [if_pos ⟨rfl, rfl, rfl, by decide, by decide, by decide⟩]
end Go.Proofs.YtbkalgkjkcfplaaDoor.Pure

