/- What is encoded tells what it was: plain laws on lists of bytes; condition: the signs may be. -/
import Derived.Test.YtokpkdmkdolmdaaDoorEsc
namespace Go.Proofs.YtokpkdmkdolmdaaDoor
open Go

theorem byte_inj {x y : UInt8} (h : (x.toNat : Int) = (y.toNat : Int)) : x = y := UInt8.toNat_inj.1 (by omega)
theorem ok_ne {a : Int} (h : OkC a) {b : Nat} (hb : (65 ≤ b ∧ b ≤ 90) ∨ (48 ≤ b ∧ b ≤ 57)) : (b : Int) ≠ a := by unfold OkC at h; omega
/-- A letter or a digit is no sign, and none of the three bytes. -/
theorem ins_clean {a0 a1 a2 a3 a4 c : Int} (hs : Sg a0 a1 a2 a3 a4) {x : List UInt8} (h : insV a0 a1 a2 a3 a4 c = some x) (b : UInt8) (hb : b ∈ x) : (b.toNat : Int) ≠ 11 ∧ (b.toNat : Int) ≠ 13 ∧ (b.toNat : Int) ≠ 28 ∧ (b.toNat : Int) ≠ a0 ∧ (b.toNat : Int) ≠ a1 ∧ (b.toNat : Int) ≠ a4 ∧ (b.toNat : Int) ≠ a2 ∧ (b.toNat : Int) ≠ a3 := by
  obtain ⟨h0, h1, h2, h3, h4, _⟩ := hs
  have hv : (65 ≤ b.toNat ∧ b.toNat ≤ 90) ∨ (48 ≤ b.toNat ∧ b.toNat ≤ 57) := by
    rcases insV_val h with ⟨rfl, _⟩ | ⟨rfl, _⟩ | ⟨rfl, _⟩ | ⟨rfl, _⟩ | ⟨rfl, _⟩ | ⟨rfl, _⟩ | ⟨rfl, _⟩ | ⟨rfl, _⟩ <;> (clear h; revert b; decide)
  exact ⟨by omega, by omega, by omega, ok_ne h0 hv, ok_ne h1 hv, ok_ne h4 hv, ok_ne h2 hv, ok_ne h3 hv⟩
theorem esc_not_ins {a0 a1 a2 a3 a4 c : Int} (hs : Sg a0 a1 a2 a3 a4) {x : List UInt8} (h : insV a0 a1 a2 a3 a4 c = some x) : xE a3 ∉ x := fun hm =>
  (ins_clean hs h _ hm).2.2.2.2.2.2.2 (xE_toNat (ok_byte hs.2.2.2.1))
theorem esc_ne {a0 a1 a2 a3 a4 : Int} (hs : Sg a0 a1 a2 a3 a4) {c : UInt8} (h : insV a0 a1 a2 a3 a4 (c.toNat : Int) = none) : c ≠ xE a3 := fun e =>
  (insV_none h).2.2.2.2.2.2.2 (by rw [e]; exact xE_toNat (ok_byte hs.2.2.2.1))
/-- What is encoded tells what it was. -/
theorem dec_enc {a0 a1 a2 a3 a4 : Int} (hs : Sg a0 a1 a2 a3 a4) (n : Nat) : ∀ (l acc : List UInt8) (i : Nat), decS a0 a1 a2 a3 a4 n false (cutL (xE a3) (encL a0 a1 a2 a3 a4 l)) acc i = (acc ++ l, n, 0) := by
  intro l
  induction l with
  | nil => intro acc i; rfl
  | cons c l ih =>
    intro acc i
    rw [encL_cons]
    unfold encC
    cases h : insV a0 a1 a2 a3 a4 (c.toNat : Int) with
    | none =>
      show decS a0 a1 a2 a3 a4 n false (cutL (xE a3) (c :: encL a0 a1 a2 a3 a4 l)) acc i = _
      have ih2 := ih (acc ++ [c]) (i + 1)
      rw [cutL_miss (esc_ne hs h)]
      obtain ⟨y, t, e⟩ := cutL_form (xE a3) (encL a0 a1 a2 a3 a4 l)
      rw [e] at ih2 ⊢
      show decS a0 a1 a2 a3 a4 n true t (acc ++ c :: y) (i + (y.length + 1)) = _
      have ih3 : decS a0 a1 a2 a3 a4 n true t (acc ++ [c] ++ y) (i + 1 + y.length) = (acc ++ [c] ++ l, n, 0) := ih2
      rw [List.append_assoc, List.append_assoc] at ih3
      rw [show i + (y.length + 1) = i + 1 + y.length by omega]
      exact ih3
    | some x =>
      show decS a0 a1 a2 a3 a4 n false (cutL (xE a3) (xE a3 :: (x ++ [xE a3]) ++ encL a0 a1 a2 a3 a4 l)) acc i = _
      have e1 : xE a3 :: (x ++ [xE a3]) ++ encL a0 a1 a2 a3 a4 l = xE a3 :: (x ++ xE a3 :: encL a0 a1 a2 a3 a4 l) := by simp
      rw [e1, cutL_hit, cutL_append_hit (esc_not_ins hs h)]
      obtain ⟨y, t, e⟩ := cutL_form (xE a3) (encL a0 a1 a2 a3 a4 l)
      have ih2 := ih (acc ++ [c]) (i + x.length + 2)
      rw [e] at ih2 ⊢
      show (match tellL a0 a1 a2 a3 a4 x with
        | none => ([], i, 10)
        | some t' => decS a0 a1 a2 a3 a4 n false (y :: t) (acc ++ [] ++ t') (i + x.length + 2)) = _
      rw [tell_ins h, xE_of, List.append_nil]
      show decS a0 a1 a2 a3 a4 n false (y :: t) (acc ++ [c]) (i + x.length + 2) = _
      rw [ih2]
      simp
/-- What is encoded has none of the signs but the escape's, and none of the three bytes. -/
theorem enc_free {a0 a1 a2 a3 a4 : Int} (hs : Sg a0 a1 a2 a3 a4) (l : List UInt8) (b : UInt8) (hb : b ∈ encL a0 a1 a2 a3 a4 l) : (b.toNat : Int) ≠ 11 ∧ (b.toNat : Int) ≠ 13 ∧ (b.toNat : Int) ≠ 28 ∧ (b.toNat : Int) ≠ a0 ∧ (b.toNat : Int) ≠ a1 ∧ (b.toNat : Int) ≠ a4 ∧ (b.toNat : Int) ≠ a2 := by
  unfold encL at hb
  obtain ⟨c, _, hc⟩ := List.mem_flatMap.1 hb
  unfold encC at hc
  cases h : insV a0 a1 a2 a3 a4 (c.toNat : Int) with
  | none =>
    rw [h] at hc
    have e : b = c := by simpa using hc
    subst e
    obtain ⟨q1, q2, q3, q4, q5, q6, q7, _⟩ := insV_none h
    exact ⟨q1, q2, q3, q4, q5, q6, q7⟩
  | some x =>
    rw [h] at hc
    have e : b = xE a3 ∨ b ∈ x ∨ b = xE a3 := by simpa using hc
    have he : b = xE a3 → (b.toNat : Int) ≠ 11 ∧ (b.toNat : Int) ≠ 13 ∧ (b.toNat : Int) ≠ 28 ∧ (b.toNat : Int) ≠ a0 ∧ (b.toNat : Int) ≠ a1 ∧ (b.toNat : Int) ≠ a4 ∧ (b.toNat : Int) ≠ a2 := by
      rintro rfl
      have ht := xE_toNat (ok_byte hs.2.2.2.1)
      obtain ⟨h0, h1, h2, h3, h4, n01, n02, n03, n04, n12, n13, n14, n23, n24, n34⟩ := hs
      unfold OkC at h3
      rw [ht]
      exact ⟨by omega, by omega, by omega, fun e => n03 e.symm, fun e => n13 e.symm, n34, fun e => n23 e.symm⟩
    rcases e with e | e | e
    · exact he e
    · obtain ⟨q1, q2, q3, q4, q5, q6, q7, _⟩ := ins_clean hs h b e
      exact ⟨q1, q2, q3, q4, q5, q6, q7⟩
    · exact he e
theorem encC_length (a0 a1 a2 a3 a4 : Int) (c : UInt8) : (encC a0 a1 a2 a3 a4 c).length ≥ 1 ∧ (encC a0 a1 a2 a3 a4 c).length ≤ 5 ∧ ((insV a0 a1 a2 a3 a4 (c.toNat : Int)).isNone = false → (encC a0 a1 a2 a3 a4 c).length ≥ 3) := by
  unfold encC
  cases h : insV a0 a1 a2 a3 a4 (c.toNat : Int) with
  | none => exact ⟨by simp, by simp, fun e => by simp at e⟩
  | some x =>
    have hl : 1 ≤ x.length ∧ x.length ≤ 3 := by
      rcases insV_val h with ⟨rfl, _⟩ | ⟨rfl, _⟩ | ⟨rfl, _⟩ | ⟨rfl, _⟩ | ⟨rfl, _⟩ | ⟨rfl, _⟩ | ⟨rfl, _⟩ | ⟨rfl, _⟩ <;> simp
    simp only [List.length_cons, List.length_append, List.length_nil]
    omega
theorem encL_length (a0 a1 a2 a3 a4 : Int) (l : List UInt8) : l.length ≤ (encL a0 a1 a2 a3 a4 l).length ∧ (encL a0 a1 a2 a3 a4 l).length ≤ 5 * l.length := by
  induction l with
  | nil => exact ⟨Nat.le_refl _, Nat.le_refl _⟩
  | cons c l ih =>
    have h := encC_length a0 a1 a2 a3 a4 c
    rw [encL_cons, List.length_append, List.length_cons]
    omega
/-- A text is clean just if it is encoded as it is. -/
theorem clean_iff (a0 a1 a2 a3 a4 : Int) (l : List UInt8) : cleanL a0 a1 a2 a3 a4 l = true ↔ encL a0 a1 a2 a3 a4 l = l := by
  induction l with
  | nil => exact ⟨fun _ => rfl, fun _ => rfl⟩
  | cons c l ih =>
    have h := encC_length a0 a1 a2 a3 a4 c
    have hl := encL_length a0 a1 a2 a3 a4 l
    rw [encL_cons]
    show ((insV a0 a1 a2 a3 a4 (c.toNat : Int)).isNone && cleanL a0 a1 a2 a3 a4 l) = true ↔ _
    cases hi : insV a0 a1 a2 a3 a4 (c.toNat : Int) with
    | none =>
      have e : encC a0 a1 a2 a3 a4 c = [c] := by unfold encC; rw [hi]
      rw [e]
      simpa using ih
    | some x =>
      have h3 := h.2.2 (by rw [hi]; rfl)
      constructor
      · intro h0; simp at h0
      · intro h0
        have := congrArg List.length h0
        rw [List.length_append, List.length_cons] at this
        omega
end Go.Proofs.YtokpkdmkdolmdaaDoor
