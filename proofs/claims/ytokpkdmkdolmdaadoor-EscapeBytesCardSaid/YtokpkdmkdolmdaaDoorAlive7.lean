/- The document's examples of encoding and decoding hold, and words for the bytes of a text; no conditions. -/
import Derived.Test.YtokpkdmkdolmdaaDoorPGx11
import Derived.Test.YtokpkdmkdolmdaaDoorPGx12
import Derived.Test.YtokpkdmkdolmdaaDoorPGx3
import Derived.Test.YtokpkdmkdolmdaaDoorPGx9
import Derived.Test.YtokpkdmkdolmdaaDoorEscDec
import Derived.Test.YtokpkdmkdolmdaaDoorStr
namespace Go.Proofs.YtokpkdmkdolmdaaDoor
open Go Go.RowKit Go.Proofs.YtokpkdmkdolmdaaDoor.PG Go.Proofs.YtokpkdmkdolmdaaDoorW.PrintWords Go.Proofs.YtokpkdmkdolmdaaDoorW.PrintLast

theorem alive_is : lamplighterlaw07_alive.f = some true := by decide +kernel
theorem bt_here (s : ByteArray) {i : Nat} (h : i < s.size) : bt s (i : Int) = ((s[i]'h).toNat : Int) := by
  have e : ((i : Int)).toNat < s.size := by rw [Int.toNat_natCast]; exact h
  rw [← bt_at s (i : Int) e]
  rfl
theorem drop_here (s : ByteArray) {i : Nat} (h : i < s.size) : s.data.toList.drop i = s[i]'h :: s.data.toList.drop (i + 1) := by
  have hl : i < s.data.toList.length := by rw [Array.length_toList]; exact h
  exact List.drop_eq_getElem_cons hl
theorem drop_end (s : ByteArray) : s.data.toList.drop s.size = [] := List.drop_eq_nil_of_le (by rw [Array.length_toList]; exact Nat.le_refl _)
theorem mem_here (s : ByteArray) {i : Nat} (h : i < s.size) : s[i]'h ∈ s.data.toList := List.mem_of_mem_drop (i := i) (by rw [drop_here s h]; exact List.mem_cons_self ..)
/-- What Encode, Clean and Decode give. -/
theorem enc_sg {s : ByteArray} {a0 a1 a2 a3 a4 : Int} (hs : s.size ≤ 1000000) (hb : B5 a0 a1 a2 a3 a4) (hg : Sg a0 a1 a2 a3 a4) : escape_Encode.f s a0 a1 a2 a3 a4 = some (strOf (encL a0 a1 a2 a3 a4 s.data.toList), 0) := by
  unfold escape_Encode.f
  rw [if_pos ⟨hs, hb⟩, if_pos hg]
theorem enc_no {s : ByteArray} {a0 a1 a2 a3 a4 : Int} (hs : s.size ≤ 1000000) (hb : B5 a0 a1 a2 a3 a4) (hg : ¬ Sg a0 a1 a2 a3 a4) : escape_Encode.f s a0 a1 a2 a3 a4 = some (⟨#[]⟩, 11) := by
  unfold escape_Encode.f
  rw [if_pos ⟨hs, hb⟩, if_neg hg]
theorem dec_sg {s : ByteArray} {a0 a1 a2 a3 a4 : Int} (hs : s.size ≤ 1000000) (hb : B5 a0 a1 a2 a3 a4) (hg : Sg a0 a1 a2 a3 a4) : escape_Decode.f s a0 a1 a2 a3 a4 = some (strOf (decL a0 a1 a2 a3 a4 s.data.toList).1, ((decL a0 a1 a2 a3 a4 s.data.toList).2.1 : Int), (decL a0 a1 a2 a3 a4 s.data.toList).2.2) := by
  unfold escape_Decode.f
  rw [if_pos ⟨hs, hb⟩, if_pos hg]
theorem dec_no {s : ByteArray} {a0 a1 a2 a3 a4 : Int} (hs : s.size ≤ 1000000) (hb : B5 a0 a1 a2 a3 a4) (hg : ¬ Sg a0 a1 a2 a3 a4) : escape_Decode.f s a0 a1 a2 a3 a4 = some (⟨#[]⟩, 0, 11) := by
  unfold escape_Decode.f
  rw [if_pos ⟨hs, hb⟩, if_neg hg]
theorem clean_is {s : ByteArray} {a0 a1 a2 a3 a4 : Int} (hs : s.size ≤ 1000000) (hb : B5 a0 a1 a2 a3 a4) : escape_Clean.f s a0 a1 a2 a3 a4 = some (cleanL a0 a1 a2 a3 a4 s.data.toList) := by
  unfold escape_Clean.f
  rw [if_pos ⟨hs, hb⟩]
end Go.Proofs.YtokpkdmkdolmdaaDoor
