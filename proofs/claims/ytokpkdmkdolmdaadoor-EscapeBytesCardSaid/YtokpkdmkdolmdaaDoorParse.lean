/- strconv.ParseUint(s, 16, 8) of two digits: a walk (the shelf has base 10 alone; after the shelf's); condition: both bytes are digits to the base 16, letters great. -/
import Derived.Test.YtokpkdmkdolmdaaDoorLib7
import Derived.Test.YtokpkdmkdolmdaaDoorHelp
import Derived.Test.YtokpkdmkdolmdaaDoorProg
import Derived.Lib.Strings
import Derived.Lib.Walk
import Derived.Lib.ConvBytes
import Derived.Lib.Hide
import Derived.Laws.Strings3
import Derived.Laws.Closers25
import Derived.Laws.Closers25b
import Derived.WalkKit
import Derived.BigCall
import Derived.BigGuard
namespace Go.Proofs.YtokpkdmkdolmdaaDoor
open Go Go.RowKit
set_option linter.unusedVariables false

theorem lower_bits : ∀ n : Fin 256, 65 ≤ n.val → n.val ≤ 70 → Go.bits .or .u8 (n.val : Int) 32 = (n.val : Int) + 32 := by decide +kernel
theorem lower_hex (c : Int) (h : 65 ≤ c ∧ c ≤ 70) (w : World) : Calls Tryd.prog 59 #[.int .u8 c] w fun e w' => e = .returned (.int .u8 (c + 32)) ∧ w' = w := by
  have e := lower_bits ⟨c.toNat, by omega⟩ (by show 65 ≤ c.toNat; omega) (by show c.toNat ≤ 70; omega)
  have e2 : Go.bits .or .u8 c 32 = c + 32 := by
    have e3 : (c.toNat : Int) = c := by omega
    have e4 : Go.bits .or .u8 (c.toNat : Int) 32 = (c.toNat : Int) + 32 := e
    rw [e3] at e4
    exact e4
  clear e
  rw [← e2]
  clear e2
  go_enter Tryd.func59, Tryd.ntmps59
  go_wp2
  go_ret
  exact ⟨rfl, rfl⟩
theorem hexV_form {c : UInt8} {x : Nat} (h : hexV c = some x) : ((48 ≤ c.toNat ∧ c.toNat ≤ 57) ∧ x = c.toNat - 48) ∨ ((65 ≤ c.toNat ∧ c.toNat ≤ 70) ∧ x = c.toNat - 55) := by
  unfold hexV at h
  split at h
  · rename_i q; exact Or.inl ⟨q, (Option.some.inj h).symm⟩
  · split at h
    · rename_i q; exact Or.inr ⟨q, (Option.some.inj h).symm⟩
    · cases h
set_option maxHeartbeats 32000000 in
set_option maxRecDepth 100000 in
theorem parse_inner (t : ByteArray) (c0 c1 : UInt8) (ht : t.data.toList = [c0, c1]) (x y : Nat) (hx : hexV c0 = some x) (hy : hexV c1 = some y) (w : World) :
    Calls Tryd.prog 49 #[.string t, .int .i64 16, .int .i64 8] w fun e w' => e = .returned (.tuple #[.int .u64 ((16 * x + y : Nat) : Int), .nilIface]) ∧ w' = Lib.bytesWorld w 5 t := by
  have hsz : t.size = 2 := by
    have e : t.data.toList.length = 2 := by rw [ht]; rfl
    rw [Array.length_toList] at e
    exact e
  have hne : t.size ≠ 0 := by omega
  have hemp : t.toList.isEmpty = false := by
    rw [← decide_eq_emptyBytes]
    exact decide_eq_false (fun h => hne (by rw [h]; rfl))
  have hcv := Lib.run_convert_string_bytes (P := Tryd.prog) w 9 31 5 t (u := .string) Tryd.underlying9 Tryd.underlying31 Tryd.underlying5
  have hb0 : (Lib.bytesWorld w 5 t).cell? ⟨w.heap.size, 0, none⟩ = some (.int .u8 (c0.toNat : Int)) := by
    have h := Lib.bytesWorld_cell w 5 t 0 (by omega)
    rw [ht] at h
    exact h
  have hb1 : (Lib.bytesWorld w 5 t).cell? ⟨w.heap.size, 1, none⟩ = some (.int .u8 (c1.toNat : Int)) := by
    have h := Lib.bytesWorld_cell w 5 t 1 (by omega)
    rw [ht] at h
    exact h
  rw [hsz] at hcv
  obtain ⟨W1, hW1⟩ : ∃ W1, W1 = Lib.bytesWorld w 5 t := ⟨_, rfl⟩
  rw [← hW1] at hcv hb0 hb1 ⊢
  clear hW1 ht hne
  have hmv : IntKind.u64.wrap (IntKind.u64.wrap 256 - 1) = 255 := by
    rw [IntKind.wrap_u64, IntKind.wrap_u64]
    decide
  have hx15 : x ≤ 15 := by have := hexV_form hx; omega
  have hy15 : y ≤ 15 := by have := hexV_form hy; omega
  go_enter Tryd.func49, Tryd.ntmps49
  go_wp2
  go_loop [12, 13, 101] (fun vu vn vi => ∃ (k : Nat) (a : Int), vu = .bool false ∧ vn = .int .u64 a ∧ vi = .int .i64 k ∧ Hid ((k = 0 ∧ a = 0) ∨ (k = 1 ∧ a = (x : Int)) ∨ (k = 2 ∧ a = ((16 * x + y : Nat) : Int))))
    (fun _ _ vi => 2 - (intOf vi).toNat)
  case atStart => exact ⟨0, 0, rfl, rfl, rfl, Lib.hid (Or.inl ⟨rfl, rfl⟩)⟩
  case round =>
    obtain ⟨k, a, rfl, rfl, rfl, hh⟩ := hrel
    rcases hh.out with ⟨rfl, rfl⟩ | ⟨rfl, ha⟩ | ⟨rfl, rfl⟩
    · clear hh hb1 hy
      rcases hexV_form hx with ⟨⟨hd0, hd1⟩, hv⟩ | ⟨⟨hd0, hd1⟩, hv⟩
      · clear hx
        have iov : (0 : Int) * 16 + ((c0.toNat : Int) - 48) ≤ 255 := by omega
        go_wp2
        refine ⟨⟨1, _, rfl, rfl, rfl, Lib.hid (Or.inr (Or.inl ⟨rfl, by omega⟩))⟩, by simp [intOf]⟩
      · clear hx
        have iov : (0 : Int) * 16 + ((c0.toNat : Int) - 55) ≤ 255 := by omega
        have iow : (0 : Int) * 16 + ((c0.toNat : Int) + 32 - 97 + 10) ≤ 255 := by omega
        go_wp2_with (go_at_call 59; refine (lower_hex _ ⟨by omega, by omega⟩ _).mono ?_; rintro e w' ⟨rfl, rfl⟩)
        refine ⟨⟨1, _, rfl, rfl, rfl, Lib.hid (Or.inr (Or.inl ⟨rfl, by omega⟩))⟩, by simp [intOf]⟩
    · clear hh hb0 hx
      have b0 : 0 ≤ a := by omega
      have b1 : a ≤ 15 := by omega
      have HA := Lib.hid ha
      clear ha hx15 hy15
      rcases hexV_form hy with ⟨⟨hd0, hd1⟩, hv⟩ | ⟨⟨hd0, hd1⟩, hv⟩
      · clear hy
        have HV := Lib.hid hv
        clear hv
        have iov : a * 16 + ((c1.toNat : Int) - 48) ≤ 255 := by omega
        go_wp2
        refine ⟨⟨2, _, rfl, rfl, rfl, Lib.hid (Or.inr (Or.inr ⟨rfl, by have h1 := HA.out; have h2 := HV.out; omega⟩))⟩, by simp [intOf]⟩
      · clear hy
        have HV := Lib.hid hv
        clear hv
        have iov : a * 16 + ((c1.toNat : Int) - 55) ≤ 255 := by omega
        have iow : a * 16 + ((c1.toNat : Int) + 32 - 97 + 10) ≤ 255 := by omega
        go_wp2_with (go_at_call 59; refine (lower_hex _ ⟨by omega, by omega⟩ _).mono ?_; rintro e w' ⟨rfl, rfl⟩)
        refine ⟨⟨2, _, rfl, rfl, rfl, Lib.hid (Or.inr (Or.inr ⟨rfl, by have h1 := HA.out; have h2 := HV.out; omega⟩))⟩, by simp [intOf]⟩
    · clear hh hb0 hb1 hx hy
      go_wp2
      go_ret2
      exact ⟨rfl, rfl⟩
end Go.Proofs.YtokpkdmkdolmdaaDoor
