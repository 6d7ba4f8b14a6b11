/- Texts that may stand in a field: what encoding and decoding give, as plain laws on lists of bytes; no program in sight. -/
import Derived.Test.YtokpkdmkdolmdaaDoorCut
namespace Go.Proofs.YtokpkdmkdolmdaaDoor
open Go

/-- A byte may be a sign. -/
def OkC (c : Int) : Prop := 33 ≤ c ∧ c ≤ 126 ∧ ¬ (65 ≤ c ∧ c ≤ 90) ∧ ¬ (97 ≤ c ∧ c ≤ 122) ∧ ¬ (48 ≤ c ∧ c ≤ 57)
instance (c : Int) : Decidable (OkC c) := by unfold OkC; exact inferInstance
/-- Five bytes may be the signs. -/
def Sg (a0 a1 a2 a3 a4 : Int) : Prop := OkC a0 ∧ OkC a1 ∧ OkC a2 ∧ OkC a3 ∧ OkC a4 ∧ a0 ≠ a1 ∧ a0 ≠ a2 ∧ a0 ≠ a3 ∧ a0 ≠ a4 ∧ a1 ≠ a2 ∧ a1 ≠ a3 ∧ a1 ≠ a4 ∧ a2 ≠ a3 ∧ a2 ≠ a4 ∧ a3 ≠ a4
instance (a0 a1 a2 a3 a4 : Int) : Decidable (Sg a0 a1 a2 a3 a4) := by unfold Sg; exact inferInstance
def xE (a : Int) : UInt8 := UInt8.ofNat a.toNat
theorem xE_toNat {a : Int} (h : 0 ≤ a ∧ a ≤ 255) : ((xE a).toNat : Int) = a := by unfold xE; rw [UInt8.toNat_ofNat']; omega
theorem xE_of (c : UInt8) : xE (c.toNat : Int) = c := by
  apply UInt8.toNat_inj.1
  unfold xE
  rw [UInt8.toNat_ofNat']
  have := c.toNat_lt
  omega
theorem ok_byte {a : Int} (h : OkC a) : 0 ≤ a ∧ a ≤ 255 := by unfold OkC at h; omega
/-- What the signs' escapes are, of some signs with their letters. -/
def sigG : List (Int × UInt8) → Int → Option (List UInt8)
  | [], _ => none
  | (a, b) :: r, c => if c = a then some [b] else sigG r c
def insG (l : List (Int × UInt8)) (c : Int) : Option (List UInt8) := if c = 11 then some [88, 48, 66] else if c = 13 then some [88, 48, 68] else if c = 28 then some [88, 49, 67] else sigG l c
theorem sigG_snoc (l : List (Int × UInt8)) (a : Int) (b : UInt8) (c : Int) : sigG (l ++ [(a, b)]) c = if (sigG l c).isSome = true then sigG l c else if c = a then some [b] else none := by
  induction l with
  | nil => rfl
  | cons p r ih =>
    obtain ⟨x, y⟩ := p
    show (if c = x then some [y] else sigG (r ++ [(a, b)]) c) = _
    rw [ih]
    by_cases h : c = x
    · subst h
      simp [sigG]
    · simp [sigG, h]
theorem insG_snoc (l : List (Int × UInt8)) (a : Int) (b : UInt8) (c : Int) : insG (l ++ [(a, b)]) c = if (insG l c).isSome = true then insG l c else if c = a then some [b] else none := by
  unfold insG
  rw [sigG_snoc]
  by_cases h1 : c = 11
  · rw [if_pos h1, if_pos h1]; rfl
  rw [if_neg h1, if_neg h1]
  by_cases h2 : c = 13
  · rw [if_pos h2, if_pos h2]; rfl
  rw [if_neg h2, if_neg h2]
  by_cases h3 : c = 28
  · rw [if_pos h3, if_pos h3]; rfl
  rw [if_neg h3, if_neg h3]
def sigs (a0 a1 a2 a3 a4 : Int) : List (Int × UInt8) := [(a0, 70), (a1, 83), (a4, 84), (a2, 82), (a3, 69)]
/-- The inside of a byte's escape. -/
def insV (a0 a1 a2 a3 a4 : Int) (c : Int) : Option (List UInt8) := insG (sigs a0 a1 a2 a3 a4) c
/-- The digits of an escape of numbers. -/
def hexV (c : UInt8) : Option Nat := if 48 ≤ c.toNat ∧ c.toNat ≤ 57 then some (c.toNat - 48) else if 65 ≤ c.toNat ∧ c.toNat ≤ 70 then some (c.toNat - 55) else none
def hexL : List UInt8 → Option (List UInt8)
  | [] => some []
  | [_] => none
  | a :: b :: r => (hexV a).bind fun x => (hexV b).bind fun y => (hexL r).bind fun z => some (UInt8.ofNat (16 * x + y) :: z)
def hexT : List UInt8 → Option (List UInt8)
  | 88 :: a :: r => hexL (a :: r)
  | _ => none
section
variable (a0 a1 a2 a3 a4 : Int)
/-- What an escape's inside tells. -/
def tellL (x : List UInt8) : Option (List UInt8) :=
  if x = [70] then some [xE a0] else if x = [83] then some [xE a1] else if x = [84] then some [xE a4] else if x = [82] then some [xE a2] else if x = [69] then some [xE a3] else hexT x
def encC (c : UInt8) : List UInt8 := match insV a0 a1 a2 a3 a4 (c.toNat : Int) with
  | none => [c]
  | some x => xE a3 :: (x ++ [xE a3])
def encL (l : List UInt8) : List UInt8 := l.flatMap (encC a0 a1 a2 a3 a4)
def cleanL (l : List UInt8) : Bool := l.all fun c => (insV a0 a1 a2 a3 a4 (c.toNat : Int)).isNone
/-- The parts of a text, in and out of escapes. -/
def decS (n : Nat) : Bool → List (List UInt8) → List UInt8 → Nat → List UInt8 × Nat × Int
  | _, [], acc, _ => (acc, n, 0)
  | false, x :: r, acc, i => decS n true r (acc ++ x) (i + x.length)
  | true, [_], _, i => ([], i, 10)
  | true, y :: z :: r, acc, i => match tellL a0 a1 a2 a3 a4 y with
    | none => ([], i, 10)
    | some t => decS n false (z :: r) (acc ++ t) (i + y.length + 2)
def decL (l : List UInt8) : List UInt8 × Nat × Int := decS a0 a1 a2 a3 a4 l.length false (cutL (xE a3) l) [] 0
end
theorem encL_cons (a0 a1 a2 a3 a4 : Int) (c : UInt8) (l : List UInt8) : encL a0 a1 a2 a3 a4 (c :: l) = encC a0 a1 a2 a3 a4 c ++ encL a0 a1 a2 a3 a4 l := by
  unfold encL; rw [List.flatMap_cons]
theorem encL_append (a0 a1 a2 a3 a4 : Int) (l m : List UInt8) : encL a0 a1 a2 a3 a4 (l ++ m) = encL a0 a1 a2 a3 a4 l ++ encL a0 a1 a2 a3 a4 m := by
  unfold encL; rw [List.flatMap_append]
theorem insV_val {a0 a1 a2 a3 a4 c : Int} {x : List UInt8} (h : insV a0 a1 a2 a3 a4 c = some x) : (x = [70] ∧ c = a0) ∨ (x = [83] ∧ c = a1) ∨ (x = [84] ∧ c = a4) ∨ (x = [82] ∧ c = a2) ∨ (x = [69] ∧ c = a3) ∨ (x = [88, 48, 66] ∧ c = 11) ∨ (x = [88, 48, 68] ∧ c = 13) ∨ (x = [88, 49, 67] ∧ c = 28) := by
  unfold insV insG sigs at h
  simp only [sigG] at h
  by_cases h1 : c = 11
  · rw [if_pos h1] at h; cases h; simp [h1]
  rw [if_neg h1] at h
  by_cases h2 : c = 13
  · rw [if_pos h2] at h; cases h; simp [h2]
  rw [if_neg h2] at h
  by_cases h3 : c = 28
  · rw [if_pos h3] at h; cases h; simp [h3]
  rw [if_neg h3] at h
  by_cases e0 : c = a0
  · rw [if_pos e0] at h; cases h; simp [e0]
  rw [if_neg e0] at h
  by_cases e1 : c = a1
  · rw [if_pos e1] at h; cases h; simp [e1]
  rw [if_neg e1] at h
  by_cases e4 : c = a4
  · rw [if_pos e4] at h; cases h; simp [e4]
  rw [if_neg e4] at h
  by_cases e2 : c = a2
  · rw [if_pos e2] at h; cases h; simp [e2]
  rw [if_neg e2] at h
  by_cases e3 : c = a3
  · rw [if_pos e3] at h; cases h; simp [e3]
  rw [if_neg e3] at h
  cases h
theorem insV_none {a0 a1 a2 a3 a4 c : Int} (h : insV a0 a1 a2 a3 a4 c = none) : c ≠ 11 ∧ c ≠ 13 ∧ c ≠ 28 ∧ c ≠ a0 ∧ c ≠ a1 ∧ c ≠ a4 ∧ c ≠ a2 ∧ c ≠ a3 := by
  unfold insV insG sigs at h
  simp only [sigG] at h
  by_cases h1 : c = 11
  · rw [if_pos h1] at h; cases h
  rw [if_neg h1] at h
  by_cases h2 : c = 13
  · rw [if_pos h2] at h; cases h
  rw [if_neg h2] at h
  by_cases h3 : c = 28
  · rw [if_pos h3] at h; cases h
  rw [if_neg h3] at h
  by_cases e0 : c = a0
  · rw [if_pos e0] at h; cases h
  rw [if_neg e0] at h
  by_cases e1 : c = a1
  · rw [if_pos e1] at h; cases h
  rw [if_neg e1] at h
  by_cases e4 : c = a4
  · rw [if_pos e4] at h; cases h
  rw [if_neg e4] at h
  by_cases e2 : c = a2
  · rw [if_pos e2] at h; cases h
  rw [if_neg e2] at h
  by_cases e3 : c = a3
  · rw [if_pos e3] at h; cases h
  rw [if_neg e3] at h
  exact ⟨h1, h2, h3, e0, e1, e4, e2, e3⟩
/-- What insides have of the signs, where these may be. -/
theorem insV_sg {a0 a1 a2 a3 a4 : Int} (h : Sg a0 a1 a2 a3 a4) : insV a0 a1 a2 a3 a4 a0 = some [70] ∧ insV a0 a1 a2 a3 a4 a1 = some [83] ∧ insV a0 a1 a2 a3 a4 a4 = some [84] ∧ insV a0 a1 a2 a3 a4 a2 = some [82] ∧ insV a0 a1 a2 a3 a4 a3 = some [69] := by
  obtain ⟨h0, h1, h2, h3, h4, n01, n02, n03, n04, n12, n13, n14, n23, n24, n34⟩ := h
  unfold OkC at h0 h1 h2 h3 h4
  unfold insV insG sigs
  simp only [sigG]
  refine ⟨?_, ?_, ?_, ?_, ?_⟩
  · rw [if_neg (by omega), if_neg (by omega), if_neg (by omega), if_pos trivial]
  · rw [if_neg (by omega), if_neg (by omega), if_neg (by omega), if_neg (by omega), if_pos trivial]
  · rw [if_neg (by omega), if_neg (by omega), if_neg (by omega), if_neg (by omega), if_neg (by omega), if_pos trivial]
  · rw [if_neg (by omega), if_neg (by omega), if_neg (by omega), if_neg (by omega), if_neg (by omega), if_neg (by omega), if_pos trivial]
  · rw [if_neg (by omega), if_neg (by omega), if_neg (by omega), if_neg (by omega), if_neg (by omega), if_neg (by omega), if_neg (by omega), if_pos trivial]
/-- What one of the insides tells. -/
theorem tell_ins {a0 a1 a2 a3 a4 c : Int} {x : List UInt8} (h : insV a0 a1 a2 a3 a4 c = some x) : tellL a0 a1 a2 a3 a4 x = some [xE c] := by
  rcases insV_val h with ⟨rfl, rfl⟩ | ⟨rfl, rfl⟩ | ⟨rfl, rfl⟩ | ⟨rfl, rfl⟩ | ⟨rfl, rfl⟩ | ⟨rfl, rfl⟩ | ⟨rfl, rfl⟩ | ⟨rfl, rfl⟩
  · rfl
  · rfl
  · rfl
  · rfl
  · rfl
  · rfl
  · rfl
  · rfl
/-- What none of the insides is is numbers, or nothing. -/
theorem tell_not {a0 a1 a2 a3 a4 : Int} (hs : Sg a0 a1 a2 a3 a4) {x : List UInt8} (h : ∀ c, 0 ≤ c → c ≤ 255 → insV a0 a1 a2 a3 a4 c ≠ some x) : tellL a0 a1 a2 a3 a4 x = hexT x := by
  obtain ⟨i0, i1, i4, i2, i3⟩ := insV_sg hs
  obtain ⟨h0, h1, h2, h3, h4, _⟩ := hs
  have b0 := ok_byte h0; have b1 := ok_byte h1; have b2 := ok_byte h2; have b3 := ok_byte h3; have b4 := ok_byte h4
  unfold tellL
  rw [if_neg (fun e => h _ b0.1 b0.2 (by rw [i0, e])), if_neg (fun e => h _ b1.1 b1.2 (by rw [i1, e])), if_neg (fun e => h _ b4.1 b4.2 (by rw [i4, e])), if_neg (fun e => h _ b2.1 b2.2 (by rw [i2, e])), if_neg (fun e => h _ b3.1 b3.2 (by rw [i3, e]))]
theorem hexL_length : ∀ (l t : List UInt8), hexL l = some t → l.length = 2 * t.length
  | [], t, h => by cases h; rfl
  | [_], t, h => by cases h
  | a :: b :: r, t, h => by
    unfold hexL at h
    obtain ⟨x, _, h⟩ := Option.bind_eq_some_iff.1 h
    obtain ⟨y, _, h⟩ := Option.bind_eq_some_iff.1 h
    obtain ⟨z, hz, h⟩ := Option.bind_eq_some_iff.1 h
    cases h
    have := hexL_length r z hz
    simp only [List.length_cons]
    omega
theorem tell_length {a0 a1 a2 a3 a4 : Int} {x t : List UInt8} (h : tellL a0 a1 a2 a3 a4 x = some t) : t.length ≤ x.length := by
  unfold tellL at h
  split at h
  · rename_i e; cases h; rw [e]; simp
  split at h
  · rename_i e; cases h; rw [e]; simp
  split at h
  · rename_i e; cases h; rw [e]; simp
  split at h
  · rename_i e; cases h; rw [e]; simp
  split at h
  · rename_i e; cases h; rw [e]; simp
  unfold hexT at h
  split at h
  · have := hexL_length _ _ h
    simp only [List.length_cons] at this ⊢
    omega
  · cases h
end Go.Proofs.YtokpkdmkdolmdaaDoor
