/- Plain words for the walk of escape.tell: digits to the base 16, a text cut at its front, the lowest bit; no program in sight. -/
import Derived.Test.YtokpkdmkdolmdaaDoorEncW
import Derived.Test.YtokpkdmkdolmdaaDoorParse2
import Derived.Test.YtokpkdmkdolmdaaDoorEscDec
import Derived.Test.YtokpkdmkdolmdaaDoorStr
import Derived.Laws.Bits128
import Derived.Lib.SlTrimSet
namespace Go.Proofs.YtokpkdmkdolmdaaDoor
open Go

theorem low_bit (n : Int) : Go.bits .and .i64 n 1 = n % 2 := by
  have h1 : (BitVec.ofInt 64 1).toNat = 2 ^ 1 - 1 := by decide
  have key : (BitVec.ofInt 64 n &&& BitVec.ofInt 64 1).toNat = (n % ((2 ^ 64 : Nat) : Int)).toNat % 2 ^ 1 := by
    rw [BitVec.toNat_and, BitVec.toNat_ofInt, h1, Nat.and_two_pow_sub_one_eq_mod]
  show IntKind.i64.wrap ((BitVec.ofInt 64 n &&& BitVec.ofInt 64 1).toNat : Nat) = n % 2
  rw [key, IntKind.wrap_i64]
  omega
def hexDigits : List UInt8 := [48, 49, 50, 51, 52, 53, 54, 55, 56, 57, 65, 66, 67, 68, 69, 70]
theorem digit_all : ∀ n : Fin 256, hexDigits.contains (UInt8.ofNat n.val) = (hexV (UInt8.ofNat n.val)).isSome := by decide +kernel
theorem digit_is (b : UInt8) : hexDigits.contains b = (hexV b).isSome := by
  have h := digit_all ⟨b.toNat, b.toNat_lt⟩
  have e : UInt8.ofNat b.toNat = b := by simp
  rw [e] at h
  exact h
theorem dropWhile_nil {p : UInt8 → Bool} : ∀ l : List UInt8, l.dropWhile p = [] ↔ ∀ b ∈ l, p b = true
  | [] => by simp
  | a :: l => by
    rw [List.dropWhile_cons]
    by_cases h : p a = true
    · rw [if_pos h, dropWhile_nil l]
      simp [h]
    · rw [if_neg h]
      simp [h]
theorem trim_nil (l cs : List UInt8) : Lib.trimS l cs = [] ↔ ∀ b ∈ l, cs.contains b = true := by
  unfold Lib.trimS Lib.trimLeftS Lib.trimRightS
  constructor
  · intro h
    by_cases e : l.reverse.dropWhile (cs.contains ·) = []
    · have := (dropWhile_nil _).1 e
      intro b hb
      exact this b (List.mem_reverse.2 hb)
    · exfalso
      have h2 := (dropWhile_nil _).1 h
      obtain ⟨a, r, e2⟩ : ∃ a r, l.reverse.dropWhile (cs.contains ·) = a :: r := by
        cases q : l.reverse.dropWhile (cs.contains ·) with
        | nil => exact absurd q e
        | cons a r => exact ⟨a, r, rfl⟩
      have h3 := h2 a (by rw [e2]; simp)
      have h4 : cs.contains a = false := by
        have := List.head?_dropWhile_not (cs.contains ·) l.reverse
        rw [e2] at this
        simpa using this
      rw [h3] at h4
      cases h4
  · intro h
    have e : l.reverse.dropWhile (cs.contains ·) = [] := (dropWhile_nil _).2 (fun b hb => h b (List.mem_reverse.1 hb))
    rw [e]
    rfl
theorem hexL_all : ∀ (l t : List UInt8), hexL l = some t → ∀ b ∈ l, (hexV b).isSome = true
  | [], t, h => by simp
  | [_], t, h => by cases h
  | a :: b :: r, t, h => by
    unfold hexL at h
    obtain ⟨x, hx, h⟩ := Option.bind_eq_some_iff.1 h
    obtain ⟨y, hy, h⟩ := Option.bind_eq_some_iff.1 h
    obtain ⟨z, hz, h⟩ := Option.bind_eq_some_iff.1 h
    intro c hc
    rcases List.mem_cons.1 hc with rfl | hc
    · rw [hx]; rfl
    rcases List.mem_cons.1 hc with rfl | hc
    · rw [hy]; rfl
    exact hexL_all r z hz c hc
theorem hexL_even : ∀ (l : List UInt8), l.length % 2 = 0 → (∀ b ∈ l, (hexV b).isSome = true) → ∃ t, hexL l = some t
  | [], _, _ => ⟨[], rfl⟩
  | [_], h, _ => by simp at h
  | a :: b :: r, h, hb => by
    obtain ⟨t, ht⟩ := hexL_even r (by simp only [List.length_cons] at h; omega) (fun c hc => hb c (by simp [hc]))
    obtain ⟨x, hx⟩ := Option.isSome_iff_exists.1 (hb a (by simp))
    obtain ⟨y, hy⟩ := Option.isSome_iff_exists.1 (hb b (by simp))
    refine ⟨UInt8.ofNat (16 * x + y) :: t, ?_⟩
    unfold hexL
    rw [hx, hy, ht]
    rfl
theorem hexL_odd {l : List UInt8} (h : l.length % 2 = 1) : hexL l = none := by
  cases e : hexL l with
  | none => rfl
  | some t => have := hexL_length _ _ e; omega
theorem hexL_bad {l : List UInt8} (h : ¬ ∀ b ∈ l, (hexV b).isSome = true) : hexL l = none := by
  cases e : hexL l with
  | none => rfl
  | some t => exact absurd (hexL_all _ _ e) h
/-- The ways a text may go behind its first byte. -/
theorem cutX (X : List UInt8) : (∃ h, X = 88 :: h ∧ Lib.trimPrefix X [88] = h ∧ Lib.hasPrefix X [88] = true) ∨ (Lib.hasPrefix X [88] = false ∧ hexT X = none) := by
  cases X with
  | nil => exact Or.inr ⟨rfl, rfl⟩
  | cons c h =>
    by_cases e : c = 88
    · subst e
      have hp : Lib.hasPrefix (88 :: h) [88] = true := by unfold Lib.hasPrefix; simp [List.isPrefixOf]
      exact Or.inl ⟨h, rfl, by unfold Lib.trimPrefix; rw [hp]; rfl, hp⟩
    · refine Or.inr ⟨by unfold Lib.hasPrefix; simp [List.isPrefixOf]; exact fun q => e q.symm, ?_⟩
      unfold hexT
      split
      · rename_i a r q; exact absurd (List.cons.inj q).1 e
      · rfl
def strLen : Value → Nat
  | .string s => s.size
  | _ => 0
theorem text_empty {s : ByteArray} {l : List UInt8} (h : s.data.toList = l) : s.toList.isEmpty = l.isEmpty := by rw [Lib.toList_data, h]
theorem hexT_cons (a : UInt8) (r : List UInt8) : hexT (88 :: a :: r) = hexL (a :: r) := rfl
theorem cut_two (a b : UInt8) (r : List UInt8) : ((⟨(a :: b :: r).toArray⟩ : ByteArray).extract 0 2).data.toList = [a, b] := by
  rw [ByteArray.data_extract]
  simp
theorem cut_rest (a b : UInt8) (r : List UInt8) : (⟨(a :: b :: r).toArray⟩ : ByteArray).extract 2 (a :: b :: r).length = ⟨r.toArray⟩ := by
  apply ByteArray.ext
  rw [ByteArray.data_extract]
  apply Array.toList_inj.1
  simp
end Go.Proofs.YtokpkdmkdolmdaaDoor
