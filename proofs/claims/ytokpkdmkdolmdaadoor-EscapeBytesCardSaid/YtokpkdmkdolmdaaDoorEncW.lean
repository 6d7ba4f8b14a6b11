/- What escape.Clean and escape.Encode give: walks; conditions: the signs are bytes, the text has at most 1000000. -/
import Derived.Test.YtokpkdmkdolmdaaDoorIns
import Derived.Test.YtokpkdmkdolmdaaDoorBldW
import Derived.Test.YtokpkdmkdolmdaaDoorEscBack
namespace Go.Proofs.YtokpkdmkdolmdaaDoor
open Go Go.RowKit Go.Maps Go.Proofs.YtokpkdmkdolmdaaDoorW.PrintWords Go.Proofs.YtokpkdmkdolmdaaDoorW.PrintLast Go.Proofs.YtokpkdmkdolmdaaDoorW.PrintMore
set_option linter.unusedVariables false

theorem text_at (s : ByteArray) {i : Nat} (hi : i < s.size) : s.data.toList.drop i = s[i]'hi :: s.data.toList.drop (i + 1) := by
  have hl : i < s.data.toList.length := by rw [Array.length_toList]; exact hi
  exact List.drop_eq_getElem_cons hl
theorem text_end (s : ByteArray) : s.data.toList.drop s.size = [] := List.drop_eq_nil_of_le (by rw [Array.length_toList]; exact Nat.le_refl _)
theorem byte_of (c : UInt8) : 0 ≤ (c.toNat : Int) ∧ (c.toNat : Int) ≤ 255 := by
  have := c.toNat_lt
  omega
theorem box_block (w : World) (o : Obj) : (w.alloc o).heap[w.heap.size]? = some o := heap_new w o
theorem cells_byte (l : List UInt8) (c : UInt8) : Lib.byteCells l ++ [.int .u8 (c.toNat : Int)] = Lib.byteCells (l ++ [c]) := by rw [Lib.byteCells_append]; rfl
theorem cells_sign (l : List UInt8) {a : Int} (h : 0 ≤ a ∧ a ≤ 255) : Lib.byteCells l ++ [.int .u8 a] = Lib.byteCells (l ++ [xE a]) := by rw [← cells_byte, xE_toNat h]
theorem cells_text (l : List UInt8) (x : List UInt8) : Lib.byteCells l ++ Lib.strCells ⟨x.toArray⟩ = Lib.byteCells (l ++ x) := by rw [Lib.byteCells_append]; rfl
set_option maxHeartbeats 8000000 in
set_option maxRecDepth 100000 in
theorem clean_walk (s : ByteArray) (a0 a1 a2 a3 a4 : Int) (hB5 : B5 a0 a1 a2 a3 a4) (hs : s.size ≤ 1000000) (w : World) :
    Calls Tryd.prog 12 #[.string s, .agg #[.int .u8 a0, .int .u8 a1, .int .u8 a2, .int .u8 a3, .int .u8 a4]] w fun e w' => e = .returned (.bool (cleanL a0 a1 a2 a3 a4 s.data.toList)) ∧ Below w.heap.size w w' := by
  have HZ := Lib.hid (show ∀ W, (zeroValue 9).run Tryd.prog W = .ok (.string ⟨#[]⟩) W from fun W => by kernel_rfl)
  obtain ⟨L, hL⟩ : ∃ L, L = s.data.toList := ⟨_, rfl⟩
  have HAT := Lib.hid (fun (i : Nat) (hi : i < s.size) => text_at s hi)
  have HEN := Lib.hid (text_end s)
  rw [← hL] at HAT HEN ⊢
  clear hL
  go_enter Tryd.func12, Tryd.ntmps12
  go_wp2_with fail
  refine (insides_calls a0 a1 a2 a3 a4 hB5 _).mono ?_
  rintro e w1 ⟨rfl, ho, hb⟩
  have HB := Lib.hid (below_step ((Below.refl w.heap.size w).alloc (Nat.le_refl _) _) hb)
  clear hb
  generalize (w.alloc _).heap.size + 1 = b at ho ⊢
  go_wp2_with fail
  go_loopw [13] (fun vi wr => ∃ i : Nat, vi = .int .i64 i ∧ i ≤ s.size ∧ wr = w1 ∧ Hid (cleanL a0 a1 a2 a3 a4 L = cleanL a0 a1 a2 a3 a4 (L.drop i))) (fun vi _ => s.size - (intOf vi).toNat)
  case atStart => exact ⟨0, rfl, by omega, rfl, Lib.hid rfl⟩
  case round =>
    obtain ⟨i, rfl, hi, rfl, hh⟩ := hrel
    have hz : (zeroValue 9).run Tryd.prog wr = .ok (.string ⟨#[]⟩) wr := HZ.out wr
    by_cases hin : i < s.size
    · have hd := HAT.out i hin
      have hcb := byte_of (s[i]'hin)
      have hE := hh.out
      rw [hd] at hE
      have HE := Lib.hid (show cleanL a0 a1 a2 a3 a4 L = ((insV a0 a1 a2 a3 a4 ((s[i]'hin).toNat : Int)).isNone && cleanL a0 a1 a2 a3 a4 (L.drop (i + 1))) from hE)
      clear hE hh hd
      have hi0 : (0 : Int) ≤ (i : Int) := by omega
      have hi1 : (i : Int) < (s.size : Int) := by omega
      cases hg : (insV a0 a1 a2 a3 a4 ((s[i]'hin).toNat : Int)).isSome
      · go_wp2_with (first | (refine ins_look _ rfl _ _ 41 rfl 5 9 Tryd.underlying5 Tryd.underlying9 Tryd.underlying41 hz _ _ _ rfl ho ((s[i]'hin).toNat : Int) rfl hcb ?_; rw [hg]) | fail)
        go_roundw
        case rel => exact ⟨i + 1, by first | rfl | (congr 1; omega), by omega, (by first | rfl | trivial), Lib.hid (by rw [HE.out]; cases hgg : insV a0 a1 a2 a3 a4 ((s[i]'hin).toNat : Int) with | none => rfl | some x => rw [hgg] at hg; cases hg)⟩
        case measure => simp [intOf]; omega
      · go_wp2_with (first | (refine ins_look _ rfl _ _ 41 rfl 5 9 Tryd.underlying5 Tryd.underlying9 Tryd.underlying41 hz _ _ _ rfl ho ((s[i]'hin).toNat : Int) rfl hcb ?_; rw [hg]) | fail)
        go_ret
        refine ⟨?_, HB.out⟩
        rw [HE.out]
        cases hgg : insV a0 a1 a2 a3 a4 ((s[i]'hin).toNat : Int) with
        | none => rw [hgg] at hg; cases hg
        | some x => rfl
    · have hin' : i = s.size := by omega
      subst hin'
      go_wp2_with fail
      go_ret
      refine ⟨?_, HB.out⟩
      rw [hh.out, HEN.out]
      rfl
/-- A box that a call has made stays, where only what was made behind it turns. -/
theorem box_stays {w W W' : World} {o : Obj} {B : Nat} (hs : w.heap.size < B) (h : W.heap[w.heap.size]? = some o) (hb : Below B W W') : W'.heap[w.heap.size]? = some o := (hb.block _ hs).trans h
set_option maxHeartbeats 16000000 in
set_option maxRecDepth 100000 in
theorem encode_walk (s : ByteArray) (a0 a1 a2 a3 a4 : Int) (hB5 : B5 a0 a1 a2 a3 a4) (hs : s.size ≤ 1000000) (hR : ∀ W, Calls Tryd.prog 18 #[.agg #[.int .u8 a0, .int .u8 a1, .int .u8 a2, .int .u8 a3, .int .u8 a4]] W fun e w' => e = .returned (.bool true) ∧ Below W.heap.size W w') (w : World) :
    Calls Tryd.prog 10 #[.string s, .agg #[.int .u8 a0, .int .u8 a1, .int .u8 a2, .int .u8 a3, .int .u8 a4]] w fun e w' => e = .returned (.tuple #[.string ⟨(encL a0 a1 a2 a3 a4 s.data.toList).toArray⟩, .int .i64 0]) ∧ Below w.heap.size w w' := by
  have HZ := Lib.hid (show ∀ W, (zeroValue 9).run Tryd.prog W = .ok (.string ⟨#[]⟩) W from fun W => by kernel_rfl)
  obtain ⟨L, hL⟩ : ∃ L, L = s.data.toList := ⟨_, rfl⟩
  have HAT := Lib.hid (fun (i : Nat) (hi : i < s.size) => text_at s hi)
  have HEN := Lib.hid (text_end s)
  rw [← hL] at HAT HEN ⊢
  clear hL
  have ha3 := hB5.2.2.2.1
  go_enter Tryd.func10, Tryd.ntmps10
  go_wp2_with fail
  refine (hR _).mono ?_
  rintro e w1 ⟨rfl, hb1⟩
  have HB1 := Lib.hid (below_step ((Below.refl w.heap.size w).alloc (Nat.le_refl _) _) hb1)
  have HK1 := Lib.hid ((hb1.block w.heap.size (by simp)).trans (box_block w _))
  have HS1 := Lib.hid (show w.heap.size < w1.heap.size from Nat.lt_of_lt_of_le (by simp) hb1.size)
  clear hb1
  have C0 := cell_of_cells HK1.out
  go_wp2_with fail
  refine (insides_calls a0 a1 a2 a3 a4 hB5 _).mono ?_
  rintro e w2 ⟨rfl, ho, hb2⟩
  have HB2 := Lib.hid (below_step HB1.out hb2)
  have HK2 := Lib.hid ((hb2.block w.heap.size HS1.out).trans HK1.out)
  have HS2 := Lib.hid (show w.heap.size < w2.heap.size from Nat.lt_of_lt_of_le HS1.out hb2.size)
  have HO := Lib.hid ho
  clear hb2 HB1 HK1 HS1 C0 ho
  generalize w1.heap.size + 1 = b at HO ⊢
  clear w1
  go_wp2_with fail
  go_loopw [18] (fun vi wr => ∃ (i : Nat) (acc : List UInt8), vi = .int .i64 i ∧ i ≤ s.size ∧ Lib.IsBuilderF 45 5 w2.heap.size w2.heap.size (Lib.byteCells acc) wr ∧ Below w2.heap.size w2 wr ∧ Hid (encL a0 a1 a2 a3 a4 L = acc ++ encL a0 a1 a2 a3 a4 (L.drop i) ∧ acc.length ≤ 5 * i)) (fun vi _ => s.size - (intOf vi).toNat)
  case atStart => exact ⟨0, [], rfl, by omega, Lib.IsBuilderF.of (Lib.fresh_isBuilder 45 5 w2), (Below.refl _ w2).alloc (Nat.le_refl _) _, Lib.hid ⟨rfl, Nat.le_refl _⟩⟩
  case round =>
    obtain ⟨i, acc, rfl, hi, hI, hbw, hh⟩ := hrel
    have hz : (zeroValue 9).run Tryd.prog wr = .ok (.string ⟨#[]⟩) wr := HZ.out wr
    have ho := HO.out.below hbw
    have hk := (hbw.block w.heap.size HS2.out).trans HK2.out
    by_cases hin : i < s.size
    · have hd := HAT.out i hin
      have hcb := byte_of (s[i]'hin)
      obtain ⟨hE, hacc⟩ := hh.out
      rw [hd, encL_cons] at hE
      clear hh hd
      have hi0 : (0 : Int) ≤ (i : Int) := by omega
      have hi1 : (i : Int) < (s.size : Int) := by omega
      have hsz := hbw.size
      cases hgg : insV a0 a1 a2 a3 a4 ((s[i]'hin).toNat : Int) with
      | none =>
        have hg : (insV a0 a1 a2 a3 a4 ((s[i]'hin).toNat : Int)).isSome = false := by rw [hgg]; rfl
        have e1 : encC a0 a1 a2 a3 a4 (s[i]'hin) = [s[i]'hin] := by unfold encC; rw [hgg]
        rw [e1, ← List.append_assoc] at hE
        have HH := Lib.hid (show encL a0 a1 a2 a3 a4 L = (acc ++ [s[i]'hin]) ++ encL a0 a1 a2 a3 a4 (L.drop (i + 1)) ∧ (acc ++ [s[i]'hin]).length ≤ 5 * (i + 1) from ⟨hE, by rw [List.length_append, List.length_singleton]; omega⟩)
        clear hE e1
        go_wp2_with (first | (refine ins_look _ rfl _ _ 41 rfl 5 9 Tryd.underlying5 Tryd.underlying9 Tryd.underlying41 hz _ _ _ rfl ho ((s[i]'hin).toNat : Int) rfl hcb ?_; rw [hg]) | fail)
        refine (write_byte w2.heap.size w2.heap.size _ ((s[i]'hin).toNat : Int) _ hI (by rw [Lib.byteCells_length]; omega) hsz).mono ?_
        rintro e w3 ⟨rfl, h3, hb3, hk3⟩
        rw [cells_byte] at h3
        have hb3' := hbw.trans hb3
        clear hI hbw hb3 hk3 ho hk hsz hz
        go_wp2_with fail
        go_roundw
        case rel => exact ⟨i + 1, acc ++ [s[i]'hin], by first | rfl | (congr 1; omega), by omega, Or.inr h3, hb3', HH⟩
        case measure => simp [intOf]; omega
      | some x =>
        have hg : (insV a0 a1 a2 a3 a4 ((s[i]'hin).toNat : Int)).isSome = true := by rw [hgg]; rfl
        have hlx : x.length ≤ 3 := by
          have := encC_length a0 a1 a2 a3 a4 (s[i]'hin)
          unfold encC at this
          rw [hgg] at this
          simp only [List.length_cons, List.length_append, List.length_nil] at this
          omega
        have e1 : encC a0 a1 a2 a3 a4 (s[i]'hin) = ([xE a3] ++ x) ++ [xE a3] := by unfold encC; rw [hgg]; simp
        rw [e1, ← List.append_assoc, ← List.append_assoc] at hE
        have HH := Lib.hid (show encL a0 a1 a2 a3 a4 L = (acc ++ ([xE a3] ++ x) ++ [xE a3]) ++ encL a0 a1 a2 a3 a4 (L.drop (i + 1)) ∧ (acc ++ ([xE a3] ++ x) ++ [xE a3]).length ≤ 5 * (i + 1) from ⟨by first | (rw [hE]; done) | (rw [hE]; simp), by simp only [List.length_append, List.length_singleton]; omega⟩)
        clear hE e1
        have C3 := cell_of_cells hk
        go_wp2_with (first | (refine ins_look _ rfl _ _ 41 rfl 5 9 Tryd.underlying5 Tryd.underlying9 Tryd.underlying41 hz _ _ _ rfl ho ((s[i]'hin).toNat : Int) rfl hcb ?_; rw [hgg]; dsimp only [insStr, Option.isSome]) | fail)
        refine (write_byte w2.heap.size w2.heap.size _ a3 _ hI (by rw [Lib.byteCells_length]; omega) hsz).mono ?_
        rintro e w3 ⟨rfl, h3, hb3, hk3⟩
        rw [cells_sign _ ha3] at h3
        have hk4 := (hb3.block w.heap.size HS2.out).trans hk
        have hb3' := hbw.trans hb3
        have hsz3 := hb3'.size
        clear hI hbw hb3 hk3 ho hk hsz hz C3
        go_wp2_with fail
        refine (write_text w2.heap.size w2.heap.size _ ⟨x.toArray⟩ _ (Or.inr h3) (by rw [Lib.byteCells_length]; simp only [List.length_append, List.length_singleton]; have e9 : (⟨x.toArray⟩ : ByteArray).size = x.length := rfl; rw [e9]; omega) hsz3).mono ?_
        rintro e w4 ⟨rfl, h4, hb4, _⟩
        rw [cells_text] at h4
        have hk5 := (hb4.block w.heap.size HS2.out).trans hk4
        have hb4' := hb3'.trans hb4
        have hsz4 := hb4'.size
        have C4 := cell_of_cells hk5
        clear h3 hb3' hsz3 hb4 hk4
        go_wp2_with fail
        refine (write_byte w2.heap.size w2.heap.size _ a3 _ (Or.inr h4) (by rw [Lib.byteCells_length]; simp only [List.length_append, List.length_singleton]; omega) hsz4).mono ?_
        rintro e w5 ⟨rfl, h5, hb5, _⟩
        rw [cells_sign _ ha3] at h5
        have hb5' := hb4'.trans hb5
        clear h4 hb4' hsz4 hb5 hk5 C4
        go_wp2_with fail
        go_roundw
        case rel => exact ⟨i + 1, acc ++ ([xE a3] ++ x) ++ [xE a3], by first | rfl | (congr 1; omega), by omega, Or.inr (by simpa using h5), hb5', HH⟩
        case measure => simp [intOf]; omega
    · have hin' : i = s.size := by omega
      subst hin'
      obtain ⟨hE, hacc⟩ := hh.out
      rw [HEN.out] at hE
      have HE := Lib.hid (show encL a0 a1 a2 a3 a4 L = acc by rw [hE]; exact List.append_nil acc)
      clear hh hE
      go_wp2_with fail
      refine (Tryd.Builder_String_any_k w2.heap.size w2.heap.size acc _ hI hbw.size).mono ?_
      rintro e w3 ⟨rfl, _, hb3, _⟩
      have HB3 := Lib.hid (below_step HB2.out (hbw.trans hb3))
      clear hI hbw hb3
      go_wp2_with fail
      go_ret2
      exact ⟨by rw [HE.out]; rfl, HB3.out⟩
set_option maxHeartbeats 4000000 in
set_option maxRecDepth 100000 in
theorem encode_bad (s : ByteArray) (a0 a1 a2 a3 a4 : Int) (hR : ∀ W, Calls Tryd.prog 18 #[.agg #[.int .u8 a0, .int .u8 a1, .int .u8 a2, .int .u8 a3, .int .u8 a4]] W fun e w' => e = .returned (.bool false) ∧ Below W.heap.size W w') (w : World) :
    Calls Tryd.prog 10 #[.string s, .agg #[.int .u8 a0, .int .u8 a1, .int .u8 a2, .int .u8 a3, .int .u8 a4]] w fun e w' => e = .returned (.tuple #[.string ⟨#[]⟩, .int .i64 11]) ∧ Below w.heap.size w w' := by
  go_enter Tryd.func10, Tryd.ntmps10
  go_wp2_with fail
  refine (hR _).mono ?_
  rintro e w1 ⟨rfl, hb1⟩
  have HB1 := Lib.hid (below_step ((Below.refl w.heap.size w).alloc (Nat.le_refl _) _) hb1)
  go_wp2_with fail
  go_ret2
  exact ⟨rfl, HB1.out⟩
end Go.Proofs.YtokpkdmkdolmdaaDoor
