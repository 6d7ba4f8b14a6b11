/- The law AcceptPure as a statement over bytes and a number: a message that is asked twice has the same answer; conditions: bytes, and such a number of them as memory bears. -/
import Derived.Test.YtmjdnkiohdkfpaaDoorPFx21
import Derived.Test.YtmjdnkiohdkfpaaDoorAlive11
namespace Go.Proofs.YtmjdnkiohdkfpaaDoor.Pure
open Go Go.RowKit Go.Proofs.YtmjdnkiohdkfpaaDoor.PF Go.Proofs.YtmjdnkiohdkfpaaDoorW.PrintWords Go.Proofs.YtmjdnkiohdkfpaaDoorW.PrintLast
theorem xor_twice (a : Int) (h : IsByte a) : Go.bits .xor .u8 (Go.bits .xor .u8 a 1) 1 = a ∧ IsByte (Go.bits .xor .u8 a 1) := by
  have key : ∀ n : Fin 256, Go.bits .xor .u8 (Go.bits .xor .u8 (n.1 : Int) 1) 1 = (n.1 : Int) ∧ 0 ≤ Go.bits .xor .u8 (n.1 : Int) 1 ∧ Go.bits .xor .u8 (n.1 : Int) 1 ≤ 255 := by decide +kernel
  have := key ⟨a.toNat, by have := h.1; have := h.2; omega⟩
  have e : ((a.toNat : Nat) : Int) = a := by have := h.1; omega
  rw [e] at this
  exact ⟨this.1, this.2⟩
theorem at_range (x : Int) (n : Nat) (h0 : 0 < n) (hn : n ≤ 2000) : IntKind.u64.wrap (n : Int) = (n : Int) ∧ 0 ≤ wrap64 (Int.tmod (IntKind.u64.wrap x) (n : Int)) ∧ wrap64 (Int.tmod (IntKind.u64.wrap x) (n : Int)) < (n : Int) := by
  have e : ∀ y : Int, IntKind.u64.wrap y = y % 18446744073709551616 := fun y => rfl
  have h1 : 0 ≤ IntKind.u64.wrap x := by rw [e]; omega
  have h2 := Int.tmod_nonneg (n : Int) h1
  have h3 := Int.tmod_lt_of_pos (IntKind.u64.wrap x) (show (0 : Int) < (n : Int) by omega)
  refine ⟨by rw [e]; omega, ?_, ?_⟩
  · unfold wrap64; omega
  · unfold wrap64; omega
theorem AcceptPure (l : List Int) (a : Int) (hb : ∀ x ∈ l, IsByte x) (_ha : (Lit.int .i64 a).wf = true) : ∃ k, lamplighterlaw11_AcceptPure.f k l a = some true := by
  refine ⟨1001, ?_⟩
  have hal : ∀ y, lamplighterlaw11_AcceptPure.j0 1001 l a y = lamplighterlaw11_AcceptPure.j0 (1000 + 1) l a y := fun _ => rfl
  unfold lamplighterlaw11_AcceptPure.f
  by_cases h0 : (l.length : Int) = 0
  · rw [if_pos h0, hal]
    rw [lamplighterlaw11_AcceptPure.j0, if_pos rfl, alive11_is 1000 (by decide)]
    rfl
  rw [if_neg h0, hal]
  by_cases h1 : (l.length : Int) > 2000
  · rw [decide_eq_true h1]
    rw [lamplighterlaw11_AcceptPure.j0, if_pos rfl, alive11_is 1000 (by decide)]
    rfl
  rw [decide_eq_false h1]
  obtain ⟨hw, hi0, hi1⟩ := at_range a l.length (by omega) (by omega)
  obtain ⟨i, hi⟩ : ∃ i : Nat, wrap64 (Int.tmod (IntKind.u64.wrap a) (l.length : Int)) = (i : Int) := ⟨_, (Int.toNat_of_nonneg hi0).symm⟩
  rw [hi] at hi0 hi1
  have hil : i < l.length := by omega
  obtain ⟨⟨r, ok⟩, hr⟩ := Reply_total hb (by omega) true
  obtain ⟨hx1, hx2⟩ := xor_twice l[i] (hb _ (List.getElem_mem hil))
  have hrd : rd l (i : Int) = l[i] := by
    unfold rd
    rw [Int.toNat_natCast, List.getD_eq_getElem?_getD, List.getElem?_eq_getElem hil]
    rfl
  have hb2 : ∀ x ∈ l.set i (Go.bits .xor .u8 (rd l (i : Int)) 1), IsByte x := by
    intro x hx
    rcases List.mem_or_eq_of_mem_set hx with hx | rfl
    · exact hb x hx
    · rw [hrd]; exact hx2
  obtain ⟨r2, hr2⟩ := Reply_total hb2 (by rw [List.length_set]; omega) false
  have hback : (l.set i (Go.bits .xor .u8 (rd l (i : Int)) 1)).set i (Go.bits .xor .u8 (rd (l.set i (Go.bits .xor .u8 (rd l (i : Int)) 1)) (i : Int)) 1) = l := by
    have e1 : rd (l.set i (Go.bits .xor .u8 (rd l (i : Int)) 1)) (i : Int) = Go.bits .xor .u8 l[i] 1 := by
      unfold rd
      rw [Int.toNat_natCast, List.getD_eq_getElem?_getD, List.getElem?_set_self hil]
      show Go.bits .xor .u8 (rd l (i : Int)) 1 = _
      rw [hrd]
    rw [e1, hx1, List.set_set, List.set_getElem_self]
  rw [lamplighterlaw11_AcceptPure.j0, if_neg (by decide), Option.bind_some, List.nil_append, if_pos (by simp only [List.length_nil]; omega), Option.bind_some, hr 1000 (by decide), Option.bind_some, hw, if_neg h0, hi, if_pos hi0, if_pos hi1, Option.bind_some, Int.toNat_natCast,
    hr2 1000 (by decide), Option.bind_some, Option.bind_some, hback, hr 1000 (by decide), Option.bind_some, alive11_is 1000 (by decide), Option.bind_some, if_pos rfl]
  dsimp only
  rw [if_pos (by simp), if_pos rfl, if_pos rfl, beq_self_eq_true]
end Go.Proofs.YtmjdnkiohdkfpaaDoor.Pure
