/- The law EscapeBack as a statement over bytes: what is encoded has none of the signs but the escape's, and tells what it was; conditions: the signs are bytes. -/
import Derived.Test.YtokpkdmkdolmdaaDoorPGx20
import Derived.Test.YtokpkdmkdolmdaaDoorAlive7
namespace Go.Proofs.YtokpkdmkdolmdaaDoor.Pure
open Go Go.RowKit Go.Proofs.YtokpkdmkdolmdaaDoor.PG Go.Proofs.YtokpkdmkdolmdaaDoorW.PrintWords Go.Proofs.YtokpkdmkdolmdaaDoorW.PrintLast

theorem back_loop {s E : ByteArray} {a0 a1 a2 a3 a4 : Int} (hE : E.size ≤ 100000) (hf : ∀ b ∈ E.data.toList, (b.toNat : Int) ≠ 11 ∧ (b.toNat : Int) ≠ 13 ∧ (b.toNat : Int) ≠ 28 ∧ (b.toNat : Int) ≠ a0 ∧ (b.toNat : Int) ≠ a1 ∧ (b.toNat : Int) ≠ a4 ∧ (b.toNat : Int) ≠ a2) (d : Nat) :
    ∀ (k i : Nat), i ≤ E.size → E.size - i = d → d < k → lamplighterlaw07_EscapeBack.l0 k s E (E.size : Int) (i : Int) a0 a1 a2 a3 a4 = lamplighterlaw07_EscapeBack.l0 1 s E (E.size : Int) (E.size : Int) a0 a1 a2 a3 a4 := by
  induction d with
  | zero =>
    intro k i hi hd hk
    obtain ⟨k, rfl⟩ : ∃ m, k = m + 1 := ⟨k - 1, by omega⟩
    obtain rfl : i = E.size := by omega
    have q : ¬ ((E.size : Int) < (E.size : Int)) := by omega
    rw [lamplighterlaw07_EscapeBack.l0, lamplighterlaw07_EscapeBack.l0, if_neg q, if_neg q]
  | succ d ih =>
    intro k i hi hd hk
    obtain ⟨k, rfl⟩ : ∃ m, k = m + 1 := ⟨k - 1, by omega⟩
    have hlt : i < E.size := by omega
    have q : (i : Int) < (E.size : Int) := by omega
    have q0 : (0 : Int) ≤ (i : Int) := by omega
    obtain ⟨f1, f2, f3, f4, f5, f6, f7⟩ := hf _ (mem_here E hlt)
    rw [lamplighterlaw07_EscapeBack.l0, if_pos q, if_pos q0, if_pos q, bt_here E hlt, if_neg f4, if_neg f5, if_neg f7, if_neg f6, if_neg f1, if_neg f2, if_neg f3, wrap_succ i (by omega)]
    exact ih k (i + 1) (by omega) (by omega) (by omega)
theorem EscapeBack (s : ByteArray) (a0 a1 a2 a3 a4 : Int) (hs : s.size ≤ 140737488351232) (h0 : 0 ≤ a0 ∧ a0 ≤ 255) (h1 : 0 ≤ a1 ∧ a1 ≤ 255) (h2 : 0 ≤ a2 ∧ a2 ≤ 255) (h3 : 0 ≤ a3 ∧ a3 ≤ 255) (h4 : 0 ≤ a4 ∧ a4 ≤ 255) : ∃ k, lamplighterlaw07_EscapeBack.f k s a0 a1 a2 a3 a4 = some true := by
  have hb : B5 a0 a1 a2 a3 a4 := ⟨h0, h1, h2, h3, h4⟩
  refine ⟨10002, ?_⟩
  unfold lamplighterlaw07_EscapeBack.f
  rw [alive_is]
  by_cases hbig : (s.size : Int) > 2000
  · rw [if_pos hbig]; rfl
  rw [if_neg hbig]
  by_cases hg : Sg a0 a1 a2 a3 a4
  · rw [enc_sg (by omega) hb hg, Option.bind_some]
    have hlen := encL_length a0 a1 a2 a3 a4 s.data.toList
    rw [len_size] at hlen
    have hes : (strOf (encL a0 a1 a2 a3 a4 s.data.toList)).size = (encL a0 a1 a2 a3 a4 s.data.toList).length := strOf_size _
    have hL := back_loop (s := s) (a3 := a3) (by rw [hes]; omega) (fun b hm => enc_free hg s.data.toList b (by rw [strOf_data] at hm; exact hm)) _ 10002 0 (by omega) rfl (by rw [hes]; omega)
    rw [if_pos rfl]
    refine Eq.trans hL ?_
    have q : ¬ (((strOf (encL a0 a1 a2 a3 a4 s.data.toList)).size : Int) < ((strOf (encL a0 a1 a2 a3 a4 s.data.toList)).size : Int)) := by omega
    rw [lamplighterlaw07_EscapeBack.l0, if_neg q, dec_sg (by rw [hes]; omega) hb hg, Option.bind_some, alive_is, Option.bind_some, if_pos rfl, clean_is (by omega) hb]
    have hD : decL a0 a1 a2 a3 a4 (strOf (encL a0 a1 a2 a3 a4 s.data.toList)).data.toList = (s.data.toList, (encL a0 a1 a2 a3 a4 s.data.toList).length, 0) := by
      unfold decL
      rw [strOf_data, dec_enc hg]
      rfl
    rw [hD]
    dsimp only
    rw [if_pos rfl, if_pos (by rw [strOf_of]), if_pos (by rw [hes]), Option.bind_some]
    have hc := clean_iff a0 a1 a2 a3 a4 s.data.toList
    congr 1
    rw [strOf_list, Lib.toList_data]
    cases hcl : cleanL a0 a1 a2 a3 a4 s.data.toList with
    | true => rw [hc.1 hcl]; simp
    | false =>
      have hne : encL a0 a1 a2 a3 a4 s.data.toList ≠ s.data.toList := fun e => by rw [hc.2 e] at hcl; cases hcl
      rw [beq_eq_false_iff_ne.2 hne]
      rfl
  · rw [enc_no (by omega) hb hg, Option.bind_some, if_neg (by decide), Option.bind_some, if_pos rfl, Lib.toList_data]
    rfl
end Go.Proofs.YtokpkdmkdolmdaaDoor.Pure
