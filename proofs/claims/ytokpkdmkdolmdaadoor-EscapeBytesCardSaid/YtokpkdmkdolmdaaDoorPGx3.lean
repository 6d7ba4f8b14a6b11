-- Written by a program of this work (the kit's print, with contracts of this work's own taken in) out of the translation. Not trusted: Lean checks it.
import Derived.Test.YtokpkdmkdolmdaaDoorPGx0
import Derived.Test.YtokpkdmkdolmdaaDoorPGx2
import Derived.Test.YtokpkdmkdolmdaaDoorIns
import Derived.Test.YtokpkdmkdolmdaaDoorEncW
namespace Go.Proofs.YtokpkdmkdolmdaaDoor.PG
open Go.RowKit Go.Proofs.YtokpkdmkdolmdaaDoorW.PrintWords Go.Proofs.YtokpkdmkdolmdaaDoorW.PrintLast Go.Proofs.YtokpkdmkdolmdaaDoorW.PrintMore
attribute [local go_sem] max2_int min2_int max_two min_two max_three min_three max_four min_four   -- for this text's walks alone
set_option linter.unusedVariables false
set_option linter.unusedSimpArgs false

/-! ### escape_Encode: function 10 -/
/-- A byte may be a sign. -/
def OkS (c : Int) : Prop := 33 ≤ c ∧ c ≤ 126 ∧ ¬ (65 ≤ c ∧ c ≤ 90) ∧ ¬ (97 ≤ c ∧ c ≤ 122) ∧ ¬ (48 ≤ c ∧ c ≤ 57)
instance (c : Int) : Decidable (OkS c) := by unfold OkS; exact inferInstance
theorem low_bits : ∀ n : Fin 256, (97 ≤ Go.bits .or .u8 (n.val : Int) 32 ∧ Go.bits .or .u8 (n.val : Int) 32 ≤ 122) ↔ ((65 ≤ (n.val : Int) ∧ (n.val : Int) ≤ 90) ∨ (97 ≤ (n.val : Int) ∧ (n.val : Int) ≤ 122)) := by decide +kernel
theorem low_bits_at (c : Int) (h : 0 ≤ c ∧ c ≤ 255) : (97 ≤ Go.bits .or .u8 c 32 ∧ Go.bits .or .u8 c 32 ≤ 122) ↔ ((65 ≤ c ∧ c ≤ 90) ∨ (97 ≤ c ∧ c ≤ 122)) := by
  obtain ⟨n, rfl⟩ := Int.eq_ofNat_of_zero_le h.1
  exact low_bits ⟨n, by omega⟩
/-- Five bytes. -/
def Bytes5 (l : List Int) : Prop := l.length = 5 ∧ ∀ c ∈ l, 0 ≤ c ∧ c ≤ 255
theorem rd_byte {l : List Int} (h : Bytes5 l) {i : Nat} (hi : i < 5) : 0 ≤ rd l i ∧ rd l i ≤ 255 := by
  have e : rd l i = l[i]'(by rw [h.1]; exact hi) := by
    unfold rd
    rw [Int.toNat_natCast, List.getD_eq_getElem?_getD, List.getElem?_eq_getElem (by rw [h.1]; exact hi)]; rfl
  rw [e]
  exact h.2 _ (List.getElem_mem _)
/-- The sign i may be, and none ahead of it is the same. -/
def Fit (l : List Int) (i : Nat) : Prop := OkS (rd l i) ∧ ∀ m, m < i → rd l m ≠ rd l i
instance (l : List Int) (i : Nat) : Decidable (Fit l i) := by unfold Fit; exact inferInstance
/-- All from i on fit. -/
def FitFrom (l : List Int) (i : Nat) : Prop := ∀ j, j < 5 → i ≤ j → Fit l j
instance (l : List Int) (i : Nat) : Decidable (FitFrom l i) := by unfold FitFrom; exact inferInstance
theorem fit_step {l : List Int} {i : Nat} (hi : i < 5) : FitFrom l i ↔ Fit l i ∧ FitFrom l (i + 1) := by
  constructor
  · intro h
    exact ⟨h i hi (Nat.le_refl _), fun j hj hij => h j hj (by omega)⟩
  · intro h j hj hij
    by_cases e : j = i
    · subst e; exact h.1
    · exact h.2 j hj (by omega)
theorem index_lt {l : List Int} (hb : Bytes5 l) {i : Nat} (hi : i < 5) : Lib.indexByte (Lib.bytesOf l) (rd l i).toNat.toUInt8 < (i : Int) ↔ ¬ ∀ m, m < i → rd l m ≠ rd l i := by
  have hget : ∀ m : Nat, m < 5 → (Lib.bytesOf l)[m]? = some (UInt8.ofNat (rd l m).toNat) := by
    intro m hm
    unfold Lib.bytesOf rd
    rw [List.getElem?_map, List.getElem?_eq_getElem (by rw [hb.1]; exact hm), Int.toNat_natCast, List.getD_eq_getElem?_getD, List.getElem?_eq_getElem (by rw [hb.1]; exact hm)]
    rfl
  have hinj : ∀ m : Nat, m < 5 → UInt8.ofNat (rd l m).toNat = UInt8.ofNat (rd l i).toNat → rd l m = rd l i := by
    intro m hm e
    have h1 := rd_byte hb hm
    have h2 := rd_byte hb hi
    have := congrArg UInt8.toNat e
    rw [UInt8.toNat_ofNat', UInt8.toNat_ofNat'] at this
    omega
  have hc : (rd l i).toNat.toUInt8 = UInt8.ofNat (rd l i).toNat := rfl
  rw [hc]
  have hge := Lib.indexByte_ge (Lib.bytesOf l) (UInt8.ofNat (rd l i).toNat)
  by_cases hn : Lib.indexByte (Lib.bytesOf l) (UInt8.ofNat (rd l i).toNat) = -1
  · exact absurd (hget i hi) (Lib.indexByte_none hn i)
  · obtain ⟨o, ho⟩ := Int.eq_ofNat_of_zero_le (a := Lib.indexByte (Lib.bytesOf l) (UInt8.ofNat (rd l i).toNat)) (by omega)
    obtain ⟨h1, h2⟩ := Lib.indexByte_some ho
    rw [ho]
    constructor
    · intro hlt h
      have hoi : o < i := by omega
      have := hget o (by omega)
      rw [h1] at this
      exact h o hoi (hinj o (by omega) (Option.some.inj this).symm)
    · intro h
      by_cases hlt : o < i
      · omega
      · exfalso
        refine h (fun m hm e => ?_)
        have := hget m (by omega)
        rw [e] at this
        exact h2 m (by omega) this
theorem right_loop {l : List Int} (hb : Bytes5 l) (d : Nat) : ∀ (k i : Nat), i ≤ 5 → 5 - i = d → d < k → delim_Right.l0 k l l 5 i = some (decide (FitFrom l i)) := by
  induction d with
  | zero =>
    intro k i hi hd hk
    obtain ⟨k, rfl⟩ : ∃ m, k = m + 1 := ⟨k - 1, by omega⟩
    have q : ¬ ((i : Int) < 5) := by omega
    have q1 : FitFrom l i := fun j hj hij => by omega
    rw [delim_Right.l0, if_neg q, decide_eq_true q1]
  | succ d ih =>
    intro k i hi hd hk
    obtain ⟨k, rfl⟩ : ∃ m, k = m + 1 := ⟨k - 1, by omega⟩
    have hi5 : i < 5 := by omega
    have q : (i : Int) < 5 := by omega
    have q0 : (0 : Int) ≤ (i : Int) := by omega
    have q1 : (i : Int) < (l.length : Int) := by rw [hb.1]; omega
    have hw : wrap64 ((i : Int) + 1) = ((i + 1 : Nat) : Int) := by unfold wrap64; omega
    have ih := ih k (i + 1) (by omega) (by omega) (by omega)
    have hbit := low_bits_at _ (rd_byte hb hi5)
    have hidx := index_lt hb hi5
    have hbb := rd_byte hb hi5
    have hfs := fit_step (l := l) hi5
    have hF : Fit l i ↔ OkS (rd l i) ∧ ∀ m, m < i → rd l m ≠ rd l i := Iff.rfl
    have goal : ∀ (b p : Prop) [Decidable b], (b ↔ p) → True := fun _ _ _ _ => trivial
    clear goal
    rw [delim_Right.l0, if_pos q, if_pos q0, if_pos q1, hw, ih]
    unfold bytes_IndexByte.f
    simp only [Option.bind_some]
    generalize Go.bits .or .u8 (rd l i) 32 = bb at hbit ⊢
    generalize Lib.indexByte (Lib.bytesOf l) (rd l i).toNat.toUInt8 = ix at hidx ⊢
    unfold OkS at hF
    repeat' split
    all_goals first
      | (congr 1; rw [eq_comm, decide_eq_false_iff_not, hfs, hF]; rintro ⟨⟨ho, hm⟩, _⟩; first | omega | exact hidx.1 (by assumption) hm)
      | (congr 1; rw [decide_eq_decide, hfs, hF]; refine ⟨fun h => ⟨⟨by omega, Classical.byContradiction fun hh => absurd (hidx.2 hh) (by assumption)⟩, h⟩, fun h => h.2⟩)
/-- These five bytes may be the signs. -/
def GoodS (a b c d e : Int) : Prop := FitFrom [a, b, c, d, e] 0
instance (a b c d e : Int) : Decidable (GoodS a b c d e) := by unfold GoodS; exact inferInstance
theorem bytes5 {a b c d e : Int} (ha : 0 ≤ a ∧ a ≤ 255) (hb : 0 ≤ b ∧ b ≤ 255) (hc : 0 ≤ c ∧ c ≤ 255) (hd : 0 ≤ d ∧ d ≤ 255) (he : 0 ≤ e ∧ e ≤ 255) : Bytes5 [a, b, c, d, e] :=
  ⟨rfl, fun x hx => by
    simp only [List.mem_cons, List.not_mem_nil, or_false] at hx
    rcases hx with rfl | rfl | rfl | rfl | rfl <;> assumption⟩
theorem Right_spec (k : Nat) (hk : 6 ≤ k) (a b c d e : Int) (ha : 0 ≤ a ∧ a ≤ 255) (hb : 0 ≤ b ∧ b ≤ 255) (hc : 0 ≤ c ∧ c ≤ 255) (hd : 0 ≤ d ∧ d ≤ 255) (he : 0 ≤ e ∧ e ≤ 255) :
    delim_Right.f k a b c d e = some (decide (GoodS a b c d e)) := by
  unfold delim_Right.f delim_Plain.f
  rw [Option.bind_some]
  split
  · rename_i h
    simp only [Bool.and_eq_true, beq_iff_eq] at h
    obtain ⟨rfl, rfl, rfl, rfl, rfl⟩ := h
    rw [decide_eq_true (show GoodS 124 94 126 92 38 by decide)]
  · unfold delim_five.f
    rw [Option.bind_some]
    exact right_loop (bytes5 ha hb hc hd he) 5 k 0 (by omega) rfl (by omega)
theorem good_sg {a b c d e : Int} : GoodS a b c d e ↔ Sg a b c d e := by
  constructor
  · intro h
    have f0 := h 0 (by decide) (by decide)
    have f1 := h 1 (by decide) (by decide)
    have f2 := h 2 (by decide) (by decide)
    have f3 := h 3 (by decide) (by decide)
    have f4 := h 4 (by decide) (by decide)
    exact ⟨f0.1, f1.1, f2.1, f3.1, f4.1, f1.2 0 (by decide), f2.2 0 (by decide), f3.2 0 (by decide), f4.2 0 (by decide), f2.2 1 (by decide), f3.2 1 (by decide), f4.2 1 (by decide), f3.2 2 (by decide), f4.2 2 (by decide), f4.2 3 (by decide)⟩
  · rintro ⟨h0, h1, h2, h3, h4, n01, n02, n03, n04, n12, n13, n14, n23, n24, n34⟩ j hj _
    obtain rfl | rfl | rfl | rfl | rfl : j = 0 ∨ j = 1 ∨ j = 2 ∨ j = 3 ∨ j = 4 := by omega
    · exact ⟨h0, fun m hm => by omega⟩
    · refine ⟨h1, fun m hm => ?_⟩
      obtain rfl : m = 0 := by omega
      exact n01
    · refine ⟨h2, fun m hm => ?_⟩
      obtain rfl | rfl : m = 0 ∨ m = 1 := by omega
      · exact n02
      · exact n12
    · refine ⟨h3, fun m hm => ?_⟩
      obtain rfl | rfl | rfl : m = 0 ∨ m = 1 ∨ m = 2 := by omega
      · exact n03
      · exact n13
      · exact n23
    · refine ⟨h4, fun m hm => ?_⟩
      obtain rfl | rfl | rfl | rfl : m = 0 ∨ m = 1 ∨ m = 2 ∨ m = 3 := by omega
      · exact n04
      · exact n14
      · exact n24
      · exact n34
theorem right_yes {a b c d e : Int} (hb : B5 a b c d e) (h : Sg a b c d e) (W : World) : Calls Tryd.prog 18 #[.agg #[.int .u8 a, .int .u8 b, .int .u8 c, .int .u8 d, .int .u8 e]] W fun e w' => e = .returned (.bool true) ∧ Below W.heap.size W w' :=
  delim_Right.calls 6 a b c d e true W (by rw [Right_spec 6 (by decide) a b c d e hb.1 hb.2.1 hb.2.2.1 hb.2.2.2.1 hb.2.2.2.2, decide_eq_true (good_sg.2 h)])
theorem right_no {a b c d e : Int} (hb : B5 a b c d e) (h : ¬ Sg a b c d e) (W : World) : Calls Tryd.prog 18 #[.agg #[.int .u8 a, .int .u8 b, .int .u8 c, .int .u8 d, .int .u8 e]] W fun e w' => e = .returned (.bool false) ∧ Below W.heap.size W w' :=
  delim_Right.calls 6 a b c d e false W (by rw [Right_spec 6 (by decide) a b c d e hb.1 hb.2.1 hb.2.2.1 hb.2.2.2.1 hb.2.2.2.2, decide_eq_false (fun g => h (good_sg.1 g))])
def escape_Encode.f (a0 : ByteArray) (a1_0 : Int) (a1_1 : Int) (a1_2 : Int) (a1_3 : Int) (a1_4 : Int) : Option (ByteArray × Int) := if a0.size ≤ 1000000 ∧ B5 a1_0 a1_1 a1_2 a1_3 a1_4 then (if Sg a1_0 a1_1 a1_2 a1_3 a1_4 then some (strOf (encL a1_0 a1_1 a1_2 a1_3 a1_4 a0.data.toList), 0) else some (⟨#[]⟩, 11)) else none
theorem escape_Encode.calls (a0 : ByteArray) (a1_0 : Int) (a1_1 : Int) (a1_2 : Int) (a1_3 : Int) (a1_4 : Int) (r1 : ByteArray) (r2 : Int) (w : World) (h : escape_Encode.f a0 a1_0 a1_1 a1_2 a1_3 a1_4 = some (r1, r2)) :
    Calls Tryd.prog 10 #[.string a0, .agg #[.int .u8 a1_0, .int .u8 a1_1, .int .u8 a1_2, .int .u8 a1_3, .int .u8 a1_4]] w fun e w' => e = .returned (.tuple #[.string r1, .int .i64 r2]) ∧ Below w.heap.size w w' := by
  unfold escape_Encode.f at h
  split at h
  · rename_i hb
    split at h
    · rename_i hg
      cases h
      exact encode_walk a0 a1_0 a1_1 a1_2 a1_3 a1_4 hb.2 hb.1 (right_yes hb.2 hg) w
    · rename_i hg
      cases h
      exact encode_bad a0 a1_0 a1_1 a1_2 a1_3 a1_4 (right_no hb.2 hg) w
  · cases h


end Go.Proofs.YtokpkdmkdolmdaaDoor.PG
