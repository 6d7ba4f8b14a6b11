/- What msh.Read, msh.Check and the law's examples come to, over lists of bytes; conditions: the numbers are bytes, texts of at most 2^47 bytes, and fuel for a step each. -/
import Derived.Test.YtcjcaojgminjpaaDoorPAx4
import Derived.Test.YtcjcaojgminjpaaDoorPAx5
import Derived.Test.YtcjcaojgminjpaaDoorPAx6
import Derived.Test.YtcjcaojgminjpaaDoorPAx7
import Derived.Test.YtcjcaojgminjpaaDoorSeg
import Derived.Test.YtcjcaojgminjpaaDoorDelimRead
import Derived.Test.YtcjcaojgminjpaaDoorGlob
namespace Go.Proofs.YtcjcaojgminjpaaDoor.Pure
open Go Go.RowKit Go.Proofs.YtcjcaojgminjpaaDoor.PA Go.Proofs.YtcjcaojgminjpaaDoorW.PrintWords Go.Proofs.YtcjcaojgminjpaaDoorW.PrintLast

theorem MSplit_spec (b : List Int) (hb : b.length ≤ 1000000000000) : segment_Split.f b = some ((segsOf (Lib.bytesOf b)).map strOf) := if_pos hb
theorem index_loop (l : List ByteArray) (a : ByteArray) (hl : l.length ≤ 1000000) (d : Nat) : ∀ (k i : Nat), i ≤ l.length → l.length - i = d → d < k → (∀ x ∈ l.take i, x ≠ a) →
    ∃ n : Int, slices_Index_string_string.l0 k l a (l.length : Int) i = some n ∧ (n ≥ 0 ↔ a ∈ l) := by
  induction d with
  | zero =>
    intro k i hi hd hk hn
    obtain ⟨k, rfl⟩ : ∃ m, k = m + 1 := ⟨k - 1, by omega⟩
    have q : ¬ ((i : Int) < (l.length : Int)) := by omega
    refine ⟨-1, by rw [slices_Index_string_string.l0, if_neg q], ?_⟩
    rw [List.take_of_length_le (by omega)] at hn
    exact ⟨fun h => absurd h (by decide), fun h => absurd rfl (hn a h)⟩
  | succ d ih =>
    intro k i hi hd hk hn
    obtain ⟨k, rfl⟩ : ∃ m, k = m + 1 := ⟨k - 1, by omega⟩
    have hlt : i < l.length := by omega
    have q : (i : Int) < (l.length : Int) := by omega
    have q0 : (0 : Int) ≤ (i : Int) := by omega
    have hget : rdOf ByteArray.empty l (i : Int) = l[i] := by simp [rdOf, hlt]
    by_cases h : a.toList = (rdOf ByteArray.empty l (i : Int)).toList
    · refine ⟨i, by rw [slices_Index_string_string.l0, if_pos q, if_pos q0, if_pos q, if_pos h], ⟨fun _ => ?_, fun _ => q0⟩⟩
      rw [hget, Lib.toList_data, Lib.toList_data] at h
      rw [bytes_eq h]
      exact List.getElem_mem _
    · obtain ⟨n, h1, h2⟩ := ih k (i + 1) (by omega) (by omega) (by omega) (by
        intro x hx
        rw [List.take_succ_eq_append_getElem hlt, List.mem_append, List.mem_singleton] at hx
        rcases hx with hx | rfl
        · exact hn x hx
        · rintro rfl
          exact h (by rw [hget]))
      refine ⟨n, ?_, h2⟩
      rw [slices_Index_string_string.l0, if_pos q, if_pos q0, if_pos q, if_neg h, wrap_succ i (by omega), h1]
open Classical in
theorem contains_spec (k : Nat) (l : List ByteArray) (a : ByteArray) (hl : l.length ≤ 1000000) (hk : l.length < k) : slices_Contains_string_string.f k l a = some (decide (a ∈ l)) := by
  obtain ⟨n, h1, h2⟩ := index_loop l a hl _ k 0 (by omega) rfl (by omega) (by simp)
  unfold slices_Contains_string_string.f slices_Index_string_string.f
  rw [show slices_Index_string_string.l0 k l a (l.length : Int) 0 = some n from h1, Option.bind_some]
  congr 1
  rw [decide_eq_decide]
  exact h2
/-- A field's first component. -/
def firstOf (c1 c2 : UInt8) (s : List UInt8) : List UInt8 := nthOf (cutL c1 (nthOf (cutL c2 s) 1)) 1
theorem first_spec (s : ByteArray) (c c1 c2 c3 c4 : Int) (hs : s.size ≤ 140737488355328) (hc1 : IsByte c1) (hc2 : IsByte c2) :
    msh_first.f s c c1 c2 c3 c4 = some (strOf (firstOf (UInt8.ofNat c1.toNat) (UInt8.ofNat c2.toNat) s.data.toList)) := by
  unfold msh_first.f
  rw [Part_spec s 1 1 c c1 c2 c3 c4 hs hc2 hc1, Option.bind_some]
  have h : (1 : Int) ≤ 1 ∧ (1 : Int) ≤ ((cutL (UInt8.ofNat c2.toNat) s.data.toList).length : Int) := ⟨by decide, by have := cutL_length_pos (UInt8.ofNat c2.toNat) s.data.toList; omega⟩
  first
    | rfl
    | (rw [if_pos h]; rfl)
    | (simp only [h]; rfl)
def procB : List (List UInt8) := [[80], [68], [84]]
/-- What is wrong with a head. -/
def checkOf (c1 c2 : UInt8) (kind id proc ver : List UInt8) : Int :=
  if kind = [] ∨ id = [] ∨ 50 < id.length then 14 else if firstOf c1 c2 ver ∉ verB then 12 else if firstOf c1 c2 proc ∉ procB then 13 else 0
theorem mem_texts (l : List (List UInt8)) (x : List UInt8) : strOf x ∈ l.map strOf ↔ x ∈ l := by
  constructor
  · intro h
    obtain ⟨y, hy, e⟩ := List.mem_map.1 h
    have := congrArg (·.data.toList) e
    simp only [strOf_data] at this
    exact this ▸ hy
  · exact List.mem_map_of_mem
open Classical in
theorem Check_spec (k : Nat) (hk : 10 < k) (c c1 c2 c3 c4 : Int) (t5 t6 t7 t8 t9 t10 kind id proc ver : ByteArray) (hp : proc.size ≤ 140737488355328) (hv : ver.size ≤ 140737488355328) (hc1 : IsByte c1) (hc2 : IsByte c2) :
    msh_Check.f k c c1 c2 c3 c4 t5 t6 t7 t8 t9 t10 kind id proc ver = some (checkOf (UInt8.ofNat c1.toNat) (UInt8.ofNat c2.toNat) kind.data.toList id.data.toList proc.data.toList ver.data.toList) := by
  have hl := len_size id
  have e0 : ∀ s : ByteArray, (s.toList.isEmpty = true) ↔ s.data.toList = [] := fun s => by rw [Lib.toList_data, List.isEmpty_iff]
  unfold msh_Check.f checkOf
  by_cases h1 : kind.data.toList = []
  · rw [if_pos ((e0 _).2 h1), if_pos (.inl h1)]
  rw [if_neg (fun h => h1 ((e0 _).1 h))]
  by_cases h2 : id.data.toList = []
  · rw [if_pos ((e0 _).2 h2), if_pos (.inr (.inl h2))]
  rw [if_neg (fun h => h2 ((e0 _).1 h))]
  by_cases h3 : (50 : Int) < (id.size : Int)
  · rw [if_pos h3, if_pos (.inr (.inr (by omega)))]
  have hn : ¬ (kind.data.toList = [] ∨ id.data.toList = [] ∨ 50 < id.data.toList.length) := by
    rintro (h | h | h)
    · exact h1 h
    · exact h2 h
    · omega
  rw [if_neg h3, if_neg hn, first_spec ver c c1 c2 c3 c4 hv hc1 hc2, Option.bind_some, show (versL : List ByteArray) = verB.map strOf from rfl, contains_spec k (verB.map strOf) _ (by decide) (by show 10 < k; exact hk), Option.bind_some]
  by_cases h4 : firstOf (UInt8.ofNat c1.toNat) (UInt8.ofNat c2.toNat) ver.data.toList ∈ verB
  · rw [if_pos (decide_eq_true ((mem_texts verB _).2 h4)), if_neg (fun h => h h4), first_spec proc c c1 c2 c3 c4 hp hc1 hc2, Option.bind_some]
    have hpl : ([⟨#[80]⟩, ⟨#[68]⟩, ⟨#[84]⟩] : List ByteArray) = procB.map strOf := rfl
    rw [hpl, contains_spec k (procB.map strOf) _ (by decide) (by show 3 < k; omega), Option.bind_some]
    by_cases h5 : firstOf (UInt8.ofNat c1.toNat) (UInt8.ofNat c2.toNat) proc.data.toList ∈ procB
    · rw [if_pos (decide_eq_true ((mem_texts procB _).2 h5)), if_neg (fun h => h h5)]
    · rw [if_neg (by rw [decide_eq_true_eq, mem_texts]; exact h5), if_pos h5]
  · rw [if_neg (by rw [decide_eq_true_eq]; exact fun h => h4 ((mem_texts verB _).1 h)), if_pos h4]
/-- What is read of bytes: the signs, the texts, the error. -/
def readM (l : List Int) : Int × Int × Int × Int × Int × ByteArray × ByteArray × ByteArray × ByteArray × ByteArray × ByteArray × ByteArray × ByteArray × ByteArray × ByteArray × Int :=
  let d := readS l
  if d.2.2.2.2.2 = 0 then
    let F := fieldsOf (UInt8.ofNat d.1.toNat) ((segsOf (Lib.bytesOf l)).headD [])
    if nthOf F 2 = Lib.bytesOf [d.2.1, d.2.2.1, d.2.2.2.1, d.2.2.2.2.1] then
      (d.1, d.2.1, d.2.2.1, d.2.2.2.1, d.2.2.2.2.1, strOf (nthOf F 3), strOf (nthOf F 4), strOf (nthOf F 5), strOf (nthOf F 6), strOf (nthOf F 7), strOf (nthOf F 8), strOf (nthOf F 9), strOf (nthOf F 10), strOf (nthOf F 11), strOf (nthOf F 12), 0)
    else (0, 0, 0, 0, 0, strOf [], strOf [], strOf [], strOf [], strOf [], strOf [], strOf [], strOf [], strOf [], strOf [], 11)
  else (0, 0, 0, 0, 0, strOf [], strOf [], strOf [], strOf [], strOf [], strOf [], strOf [], strOf [], strOf [], strOf [], d.2.2.2.2.2)
theorem segs_ne {b : List UInt8} (h : b.take 3 = [77, 83, 72]) : segsOf b ≠ [] := by
  obtain ⟨t, rfl⟩ : ∃ t, b = 77 :: 83 :: 72 :: t := by
    match b, h with
    | x :: y :: z :: t, h => simp at h; obtain ⟨rfl, rfl, rfl⟩ := h; exact ⟨t, rfl⟩
    | [], h => simp at h
    | [_], h => simp at h
    | [_, _], h => simp at h
  obtain ⟨u, v, e⟩ := cutL_form 13 t
  have h2 : cutL 13 (77 :: 83 :: 72 :: t) = (77 :: 83 :: 72 :: u) :: v := by
    rw [cutL_miss (by decide), cutL_miss (by decide), cutL_miss (by decide), e]; rfl
  unfold segsOf
  rw [h2]
  split
  · rename_i h3
    intro h4
    cases v with
    | nil => simp at h3
    | cons x v => simp at h4
  · simp
theorem segs_part (b : List UInt8) : ((segsOf b).headD []).length ≤ b.length := by
  have key : ∀ x ∈ segsOf b, x.length ≤ b.length := by
    intro x hx
    refine cutL_part_le 13 b x ?_
    unfold segsOf at hx
    split at hx
    · exact List.dropLast_subset _ hx
    · exact hx
  cases h : segsOf b with
  | nil => simp
  | cons x t => exact key x (by rw [h]; simp)
theorem reads_msh {l : List Int} (h : (readS l).2.2.2.2.2 = 0) : Lib.bytesOf (l.take 3) = [77, 83, 72] := by
  unfold readS at h
  split at h
  · simp at h
  · split at h
    · rename_i h2; exact h2.1
    · simp at h
theorem reads_bytes {l : List Int} (h : ∀ x ∈ l, IsByte x) : IsByte (readS l).1 ∧ IsByte (readS l).2.1 ∧ IsByte (readS l).2.2.1 ∧ IsByte (readS l).2.2.2.1 ∧ IsByte (readS l).2.2.2.2.1 := by
  have z : IsByte 0 := ⟨by decide, by decide⟩
  unfold readS
  split
  · exact ⟨z, z, z, z, z⟩
  · split
    · exact ⟨rd_all h _, rd_all h _, rd_all h _, rd_all h _, rd_all h _⟩
    · exact ⟨z, z, z, z, z⟩
theorem bytesOf_take (l : List Int) (n : Nat) : Lib.bytesOf (l.take n) = (Lib.bytesOf l).take n := by simp [Lib.bytesOf, List.map_take]
theorem MRead_spec (k : Nat) (hk : 6 ≤ k) (l : List Int) (h : ∀ x ∈ l, IsByte x) (hl : l.length ≤ 1000000000) : msh_Read.f k l = some (readM l) := by
  have hb := reads_bytes h
  unfold msh_Read.f readM
  rw [Read_spec k hk l h, Option.bind_some]
  dsimp only
  by_cases he : (readS l).2.2.2.2.2 = 0
  · have hm := reads_msh he
    rw [bytesOf_take] at hm
    have hne := segs_ne hm
    obtain ⟨s, t, hst⟩ : ∃ s t, segsOf (Lib.bytesOf l) = s :: t := by
      cases hs : segsOf (Lib.bytesOf l) with
      | nil => exact absurd hs hne
      | cons s t => exact ⟨s, t, rfl⟩
    have hsl : s.length ≤ 1000000000 := by
      have := segs_part (Lib.bytesOf l)
      rw [hst, bytesOf_len] at this
      exact Nat.le_trans this hl
    have hsz : (strOf s).size ≤ 140737488355328 := by rw [strOf_size]; omega
    have hr : rdOf ByteArray.empty (strOf s :: t.map strOf) 0 = strOf s := rfl
    have F := fun (n : Int) (hn : -9223372036854775807 ≤ n ∧ n ≤ 9223372036854775807) => Field_spec (strOf s) n (readS l).1 (readS l).2.1 (readS l).2.2.1 (readS l).2.2.2.1 (readS l).2.2.2.2.1 hsz hb.1 hn
    simp only [strOf_data] at F
    rw [if_pos he, if_pos he, MSplit_spec l (by omega), Option.bind_some, hst, List.map_cons, if_pos (by simp), hr, F 2 (by decide), Option.bind_some]
    unfold msh_others.f
    rw [Option.bind_some, List.headD_cons]
    dsimp only
    rw [strOf_list, Lib.toList_data, str_data]
    by_cases hq : nthOf (fieldsOf (UInt8.ofNat (readS l).1.toNat) s) 2 = Lib.bytesOf [(readS l).2.1, (readS l).2.2.1, (readS l).2.2.2.1, (readS l).2.2.2.2.1]
    · rw [if_pos hq, if_pos hq, F 3 (by decide), Option.bind_some, F 4 (by decide), Option.bind_some, F 5 (by decide), Option.bind_some, F 6 (by decide), Option.bind_some, F 7 (by decide), Option.bind_some, F 8 (by decide), Option.bind_some,
        F 9 (by decide), Option.bind_some, F 10 (by decide), Option.bind_some, F 11 (by decide), Option.bind_some, F 12 (by decide), Option.bind_some]
    · rw [if_neg hq, if_neg hq]
      rfl
  · rw [if_neg he, if_neg he]
    rfl
end Go.Proofs.YtcjcaojgminjpaaDoor.Pure
