/- The law EscapeEncodes as a statement over bytes: whether a text is clean, and it as it may stand in a field, are the document's; conditions: the signs are bytes. -/
import Derived.Test.YtokpkdmkdolmdaaDoorPGx13
import Derived.Test.YtokpkdmkdolmdaaDoorPGx14
import Derived.Test.YtokpkdmkdolmdaaDoorPGx15
import Derived.Test.YtokpkdmkdolmdaaDoorPGx16
import Derived.Test.YtokpkdmkdolmdaaDoorAlive7
import Derived.Test.YtokpkdmkdolmdaaDoorDelimRef7
namespace Go.Proofs.YtokpkdmkdolmdaaDoor.Pure
open Go Go.RowKit Go.Proofs.YtokpkdmkdolmdaaDoor Go.Proofs.YtokpkdmkdolmdaaDoor.PG Go.Proofs.YtokpkdmkdolmdaaDoorW.PrintWords Go.Proofs.YtokpkdmkdolmdaaDoorW.PrintLast

/-- The letter of a byte. -/
def letterV (a0 a1 a2 a3 a4 c : Int) : Int := if c = a0 then 70 else if c = a1 then 83 else if c = a4 then 84 else if c = a2 then 82 else if c = a3 then 69 else 0
theorem letter_is (a0 a1 a2 a3 a4 c : Int) : lamplighterref07_letter.f c a0 a1 a2 a3 a4 = some (letterV a0 a1 a2 a3 a4 c) := by
  unfold lamplighterref07_letter.f letterV
  repeat' split
  all_goals rfl
theorem letter_sig (a0 a1 a2 a3 a4 c : Int) : sigG (sigs a0 a1 a2 a3 a4) c = if letterV a0 a1 a2 a3 a4 c = 0 then none else some [UInt8.ofNat (letterV a0 a1 a2 a3 a4 c).toNat] := by
  unfold letterV sigs
  simp only [sigG]
  by_cases h0 : c = a0
  · rw [if_pos h0, if_pos h0]; rfl
  rw [if_neg h0, if_neg h0]
  by_cases h1 : c = a1
  · rw [if_pos h1, if_pos h1]; rfl
  rw [if_neg h1, if_neg h1]
  by_cases h4 : c = a4
  · rw [if_pos h4, if_pos h4]; rfl
  rw [if_neg h4, if_neg h4]
  by_cases h2 : c = a2
  · rw [if_pos h2, if_pos h2]; rfl
  rw [if_neg h2, if_neg h2]
  by_cases h3 : c = a3
  · rw [if_pos h3, if_pos h3]; rfl
  rw [if_neg h3, if_neg h3]
  rfl
/-- What an inside is, by the letter. -/
theorem ins_letter (a0 a1 a2 a3 a4 c : Int) : insV a0 a1 a2 a3 a4 c = if c = 11 then some [88, 48, 66] else if c = 13 then some [88, 48, 68] else if c = 28 then some [88, 49, 67] else if letterV a0 a1 a2 a3 a4 c = 0 then none else some [UInt8.ofNat (letterV a0 a1 a2 a3 a4 c).toNat] := by
  unfold insV insG
  rw [letter_sig]
theorem refClean_loop (s : ByteArray) (a0 a1 a2 a3 a4 : Int) (hs : s.size ≤ 1000000) (d : Nat) : ∀ (k i : Nat), i ≤ s.size → s.size - i = d → d < k → lamplighterref07_Clean.l0 k s (i : Int) a0 a1 a2 a3 a4 = some (cleanL a0 a1 a2 a3 a4 (s.data.toList.drop i)) := by
  induction d with
  | zero =>
    intro k i hi hd hk
    obtain ⟨k, rfl⟩ : ∃ m, k = m + 1 := ⟨k - 1, by omega⟩
    obtain rfl : i = s.size := by omega
    have q : ¬ ((s.size : Int) < (s.size : Int)) := by omega
    rw [lamplighterref07_Clean.l0, if_neg q, drop_end s]
    rfl
  | succ d ih =>
    intro k i hi hd hk
    obtain ⟨k, rfl⟩ : ∃ m, k = m + 1 := ⟨k - 1, by omega⟩
    have hlt : i < s.size := by omega
    have q : (i : Int) < (s.size : Int) := by omega
    have q0 : (0 : Int) ≤ (i : Int) := by omega
    have ih2 := ih k (i + 1) (by omega) (by omega) (by omega)
    have hw := wrap_succ i (by omega)
    rw [lamplighterref07_Clean.l0, if_pos q, if_pos q0, bt_here s hlt, letter_is, Option.bind_some, hw, ih2, drop_here s hlt]
    show _ = some ((insV a0 a1 a2 a3 a4 ((s[i]'hlt).toNat : Int)).isNone && cleanL a0 a1 a2 a3 a4 (s.data.toList.drop (i + 1)))
    rw [ins_letter]
    by_cases hl : letterV a0 a1 a2 a3 a4 ((s[i]'hlt).toNat : Int) = 0
    · rw [if_pos hl, if_pos hl]
      by_cases h1 : ((s[i]'hlt).toNat : Int) = 11
      · rw [if_pos h1, if_pos h1]; rfl
      rw [if_neg h1, if_neg h1]
      by_cases h2 : ((s[i]'hlt).toNat : Int) = 13
      · rw [if_pos h2, if_pos h2]; rfl
      rw [if_neg h2, if_neg h2]
      by_cases h3 : ((s[i]'hlt).toNat : Int) = 28
      · rw [if_pos h3, if_pos h3]; rfl
      rw [if_neg h3, if_neg h3]
      rfl
    · rw [if_neg hl, if_neg hl]
      have e : (if ((s[i]'hlt).toNat : Int) = 11 then some ([88, 48, 66] : List UInt8) else if ((s[i]'hlt).toNat : Int) = 13 then some [88, 48, 68] else if ((s[i]'hlt).toNat : Int) = 28 then some [88, 49, 67] else some [UInt8.ofNat (letterV a0 a1 a2 a3 a4 ((s[i]'hlt).toNat : Int)).toNat]).isNone = false := by
        repeat' split
        all_goals rfl
      rw [e]
      rfl
theorem cut_byte (s : ByteArray) {i : Nat} (h : i < s.size) : s.extract i (i + 1) = strOf [s[i]'h] := by
  apply bytes_eq
  rw [ByteArray.data_extract, strOf_data]
  have hd := drop_here s h
  have e : (s.data.extract i (i + 1)).toList = (s.data.toList.drop i).take 1 := by simp
  rw [e, hd]
  rfl
theorem letter_sg {a0 a1 a2 a3 a4 c : Int} (hg : Sg a0 a1 a2 a3 a4) (h : letterV a0 a1 a2 a3 a4 c ≠ 0) : c ≠ 11 ∧ c ≠ 13 ∧ c ≠ 28 := by
  obtain ⟨h0, h1, h2, h3, h4, _⟩ := hg
  have h0 := h0.1; have h1 := h1.1; have h2 := h2.1; have h3 := h3.1; have h4 := h4.1
  unfold letterV at h
  by_cases e0 : c = a0
  · omega
  rw [if_neg e0] at h
  by_cases e1 : c = a1
  · omega
  rw [if_neg e1] at h
  by_cases e4 : c = a4
  · omega
  rw [if_neg e4] at h
  by_cases e2 : c = a2
  · omega
  rw [if_neg e2] at h
  by_cases e3 : c = a3
  · omega
  rw [if_neg e3] at h
  exact absurd rfl h
theorem letter_one (a0 a1 a2 a3 a4 c : Int) : strOfNums ([letterV a0 a1 a2 a3 a4 c] : List Int) = strOf [UInt8.ofNat (letterV a0 a1 a2 a3 a4 c).toNat] := byte_str _
theorem refEnc_loop (s : ByteArray) {a0 a1 a2 a3 a4 : Int} (hg : Sg a0 a1 a2 a3 a4) (hs : s.size ≤ 2000) (d : Nat) : ∀ (k i : Nat) (acc : List UInt8), i ≤ s.size → s.size - i = d → d < k → acc.length ≤ 5 * i → lamplighterref07_Encode.l0 k s (strOf [xE a3]) (strOf acc) (i : Int) a0 a1 a2 a3 a4 = some (strOf (acc ++ encL a0 a1 a2 a3 a4 (s.data.toList.drop i))) := by
  induction d with
  | zero =>
    intro k i acc hi hd hk ha
    obtain ⟨k, rfl⟩ : ∃ m, k = m + 1 := ⟨k - 1, by omega⟩
    obtain rfl : i = s.size := by omega
    have q : ¬ ((s.size : Int) < (s.size : Int)) := by omega
    rw [lamplighterref07_Encode.l0, if_neg q, drop_end s]
    have e : acc ++ encL a0 a1 a2 a3 a4 [] = acc := List.append_nil acc
    rw [e]
  | succ d ih =>
    intro k i acc hi hd hk ha
    obtain ⟨k, rfl⟩ : ∃ m, k = m + 1 := ⟨k - 1, by omega⟩
    have hlt : i < s.size := by omega
    have q : (i : Int) < (s.size : Int) := by omega
    have q0 : (0 : Int) ≤ (i : Int) := by omega
    have A1 : i + 1 ≤ s.size := by omega
    have A2 : s.size - (i + 1) = d := by omega
    have A3 : d < k := by omega
    have A4 : acc.length ≤ 10000 := by omega
    have hw := wrap_succ i (by omega)
    have hes : (strOf [xE a3]).size = 1 := strOf_size _
    have x1 : ((⟨#[88, 48, 66]⟩ : ByteArray)) = strOf [88, 48, 66] := rfl
    have x2 : ((⟨#[88, 48, 68]⟩ : ByteArray)) = strOf [88, 48, 68] := rfl
    have x3 : ((⟨#[88, 49, 67]⟩ : ByteArray)) = strOf [88, 49, 67] := rfl
    rw [lamplighterref07_Encode.l0, if_pos q, if_pos q0, bt_here s hlt, letter_is, Option.bind_some, hw, drop_here s hlt, encL_cons, x1, x2, x3]
    have hstep : ∀ (x : List UInt8), encC a0 a1 a2 a3 a4 (s[i]'hlt) = x → x.length ≤ 5 → lamplighterref07_Encode.l0 k s (strOf [xE a3]) (strOf (acc ++ x)) ((i + 1 : Nat) : Int) a0 a1 a2 a3 a4 = some (strOf (acc ++ (encC a0 a1 a2 a3 a4 (s[i]'hlt) ++ encL a0 a1 a2 a3 a4 (s.data.toList.drop (i + 1))))) := by
      intro x hx hxl
      rw [ih k (i + 1) (acc ++ x) A1 A2 A3 (by rw [List.length_append]; omega), hx, List.append_assoc]
    have hins := ins_letter a0 a1 a2 a3 a4 ((s[i]'hlt).toNat : Int)
    generalize hc : ((s[i]'hlt).toNat : Int) = c at hins ⊢
    by_cases hl : letterV a0 a1 a2 a3 a4 c = 0
    · rw [if_pos hl]
      rw [if_pos hl] at hins
      by_cases h1 : c = 11
      · rw [if_pos h1] at hins ⊢
        rw [if_pos (by rw [strOf_size, hes]; omega), if_pos (by rw [← strOf_snoc, strOf_size, List.length_append, List.length_singleton]; omega), if_pos (by rw [← strOf_snoc, ← strOf_snoc, strOf_size, hes, List.length_append, List.length_append]; simp only [List.length_cons, List.length_nil]; omega), ← strOf_snoc, ← strOf_snoc, ← strOf_snoc]
        have he : encC a0 a1 a2 a3 a4 (s[i]'hlt) = [xE a3] ++ [88, 48, 66] ++ [xE a3] := by unfold encC; rw [hc, hins]; rfl
        have := hstep _ he (by simp)
        rw [List.append_assoc, List.append_assoc]
        rw [List.append_assoc] at this
        exact this
      rw [if_neg h1] at hins ⊢
      by_cases h2 : c = 13
      · rw [if_pos h2] at hins ⊢
        rw [if_pos (by rw [strOf_size, hes]; omega), if_pos (by rw [← strOf_snoc, strOf_size, List.length_append, List.length_singleton]; omega), if_pos (by rw [← strOf_snoc, ← strOf_snoc, strOf_size, hes, List.length_append, List.length_append]; simp only [List.length_cons, List.length_nil]; omega), ← strOf_snoc, ← strOf_snoc, ← strOf_snoc]
        have he : encC a0 a1 a2 a3 a4 (s[i]'hlt) = [xE a3] ++ [88, 48, 68] ++ [xE a3] := by unfold encC; rw [hc, hins]; rfl
        have := hstep _ he (by simp)
        rw [List.append_assoc, List.append_assoc]
        rw [List.append_assoc] at this
        exact this
      rw [if_neg h2] at hins ⊢
      by_cases h3 : c = 28
      · rw [if_pos h3] at hins ⊢
        rw [if_pos (by rw [strOf_size, hes]; omega), if_pos (by rw [← strOf_snoc, strOf_size, List.length_append, List.length_singleton]; omega), if_pos (by rw [← strOf_snoc, ← strOf_snoc, strOf_size, hes, List.length_append, List.length_append]; simp only [List.length_cons, List.length_nil]; omega), ← strOf_snoc, ← strOf_snoc, ← strOf_snoc]
        have he : encC a0 a1 a2 a3 a4 (s[i]'hlt) = [xE a3] ++ [88, 49, 67] ++ [xE a3] := by unfold encC; rw [hc, hins]; rfl
        have := hstep _ he (by simp)
        rw [List.append_assoc, List.append_assoc]
        rw [List.append_assoc] at this
        exact this
      rw [if_neg h3] at hins ⊢
      have hcut : s.extract ((i : Int)).toNat (((i + 1 : Nat) : Int)).toNat = strOf [s[i]'hlt] := by
        rw [Int.toNat_natCast, Int.toNat_natCast]
        exact cut_byte s hlt
      have he : encC a0 a1 a2 a3 a4 (s[i]'hlt) = [s[i]'hlt] := by unfold encC; rw [hc, hins]
      rw [hcut, if_pos (by omega), if_pos (by omega), if_pos (by rw [strOf_size, strOf_size]; simp only [List.length_singleton]; omega), ← strOf_snoc]
      exact hstep _ he (by simp)
    · rw [if_neg hl]
      obtain ⟨n1, n2, n3⟩ := letter_sg hg hl
      rw [if_neg n1, if_neg n2, if_neg n3, if_neg hl] at hins
      have he : encC a0 a1 a2 a3 a4 (s[i]'hlt) = [xE a3] ++ [UInt8.ofNat (letterV a0 a1 a2 a3 a4 c).toNat] ++ [xE a3] := by unfold encC; rw [hc, hins]; rfl
      have := hstep _ he (by simp)
      rw [Option.bind_some, letter_one]
      rw [if_pos (by rw [strOf_size, hes]; omega), if_pos (by rw [← strOf_snoc, strOf_size, strOf_size, List.length_append, List.length_singleton, List.length_singleton]; omega), if_pos (by rw [← strOf_snoc, ← strOf_snoc, strOf_size, hes, List.length_append, List.length_append]; simp only [List.length_singleton]; omega), ← strOf_snoc, ← strOf_snoc, ← strOf_snoc, List.append_assoc, List.append_assoc]
      rw [List.append_assoc] at this
      exact this
theorem EscapeEncodes (s : ByteArray) (a0 a1 a2 a3 a4 : Int) (hs : s.size ≤ 140737488351232) (h0 : 0 ≤ a0 ∧ a0 ≤ 255) (h1 : 0 ≤ a1 ∧ a1 ≤ 255) (h2 : 0 ≤ a2 ∧ a2 ≤ 255) (h3 : 0 ≤ a3 ∧ a3 ≤ 255) (h4 : 0 ≤ a4 ∧ a4 ≤ 255) : ∃ k, lamplighterlaw07_EscapeEncodes.f k s a0 a1 a2 a3 a4 = some true := by
  have hb : B5 a0 a1 a2 a3 a4 := ⟨h0, h1, h2, h3, h4⟩
  refine ⟨2003, ?_⟩
  unfold lamplighterlaw07_EscapeEncodes.f
  rw [alive_is]
  by_cases hbig : (s.size : Int) > 2000
  · rw [if_pos hbig]; rfl
  have hs2 : s.size ≤ 2000 := by omega
  have hcl : lamplighterref07_Clean.f 2003 s a0 a1 a2 a3 a4 = some (cleanL a0 a1 a2 a3 a4 s.data.toList) := by
    unfold lamplighterref07_Clean.f
    have h := refClean_loop s a0 a1 a2 a3 a4 (by omega) _ 2003 0 (by omega) rfl (by omega)
    rw [List.drop_zero] at h
    exact h
  rw [if_neg hbig, clean_is (by omega) hb, hcl]
  by_cases hg : Sg a0 a1 a2 a3 a4
  · have hen : lamplighterref07_Encode.f 2002 s a0 a1 a2 a3 a4 = some (strOf (encL a0 a1 a2 a3 a4 s.data.toList)) := by
      unfold lamplighterref07_Encode.f
      have h := refEnc_loop s hg hs2 _ 2002 0 [] (by omega) rfl (by omega) (by simp)
      rw [List.drop_zero, List.nil_append] at h
      rw [byte_str]
      exact h
    rw [enc_sg (by omega) hb hg, Option.bind_some, Option.bind_some, if_pos rfl, Option.bind_some, Option.bind_some]
    dsimp only
    rw [lamplighterlaw07_EscapeEncodes.j0, if_neg (by simp), refRight_sg _ (by decide), Option.bind_some, if_pos (decide_eq_true hg), if_pos rfl, hen, Option.bind_some]
    congr 1
    exact beq_self_eq_true _
  · rw [enc_no (by omega) hb hg, Option.bind_some, Option.bind_some, if_pos rfl, Option.bind_some, Option.bind_some]
    dsimp only
    rw [lamplighterlaw07_EscapeEncodes.j0, if_neg (by simp), refRight_sg _ (by decide), Option.bind_some, if_neg (fun h => hg (of_decide_eq_true h)), if_pos rfl, Lib.toList_data]
    rfl
end Go.Proofs.YtokpkdmkdolmdaaDoor.Pure
