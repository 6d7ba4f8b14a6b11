/- The law MshIds as a statement over a number and a text: an id of 1 to 50 bytes is right if there is a kind; no condition. -/
import Derived.Test.YtbkalgkjkcfplaaDoorPMx7
import Derived.Test.YtbkalgkjkcfplaaDoorM8
namespace Go.Proofs.YtbkalgkjkcfplaaDoor.Pure
open Go Go.RowKit Go.Proofs.YtbkalgkjkcfplaaDoor.PM Go.Proofs.YtbkalgkjkcfplaaDoorW.PrintWords Go.Proofs.YtbkalgkjkcfplaaDoorW.PrintLast
theorem ids_check (k : Nat) (hk : 10 < k) (kind : ByteArray) (m : Nat) :
    msh_Check.f k 124 94 126 92 38 (⟨#[]⟩ : ByteArray) (⟨#[]⟩ : ByteArray) (⟨#[]⟩ : ByteArray) (⟨#[]⟩ : ByteArray) (⟨#[]⟩ : ByteArray) (⟨#[]⟩ : ByteArray) kind (strOf (List.replicate m 55)) (⟨#[80]⟩ : ByteArray) (⟨#[50, 46, 53]⟩ : ByteArray) =
      some (if kind.data.toList = [] ∨ m = 0 ∨ 50 < m then 14 else 0) := by
  have h94 : IsByte 94 := by unfold IsByte; decide
  have h126 : IsByte 126 := by unfold IsByte; decide
  rw [Check_spec k hk _ _ _ _ _ _ _ _ _ _ _ _ _ _ _ (by decide) (by decide) h94 h126, strOf_data]
  congr 1
  unfold checkOf
  have e1 : (List.replicate m (55 : UInt8) = []) ↔ m = 0 := by simp
  rw [List.length_replicate]
  by_cases h : kind.data.toList = [] ∨ m = 0 ∨ 50 < m
  · rw [if_pos (by rw [e1]; exact h), if_pos h]
  · rw [if_neg (by rw [e1]; exact h), if_neg h, if_neg (by decide), if_neg (by decide)]
theorem ids_end (kind : ByteArray) (m : Nat) (n e : Int) (hm : Int.tmod n 80 = (m : Int)) (hm80 : m < 80) (he : e = if kind.data.toList = [] ∨ m = 0 ∨ 50 < m then 14 else 0) :
    (if kind.toList = ([] : List UInt8) then (if ((e == 0) == false) = true then (if e = 0 then (some true) else (some (e == 14))) else (some false)) else (if (wrap64 (Int.tmod n 80)) ≥ 1 then (if ((e == 0) == (decide ((wrap64 (Int.tmod n 80)) ≤ 50))) = true then (if e = 0 then (some true) else (some (e == 14))) else (some false)) else (if ((e == 0) == false) = true then (if e = 0 then (some true) else (some (e == 14))) else (some false)))) = some true := by
  have hw : wrap64 (Int.tmod n 80) = (m : Int) := by rw [hm]; exact wrap_fit (by omega) (by omega)
  rw [hw, Lib.toList_data]
  by_cases h1 : kind.data.toList = []
  · rw [if_pos (.inl h1)] at he
    subst he
    rw [if_pos h1]; rfl
  · rw [if_neg h1]
    by_cases h2 : m = 0
    · subst h2
      rw [if_pos (.inr (.inl rfl))] at he
      subst he
      rw [if_neg (by decide)]; rfl
    · have q : (m : Int) ≥ 1 := by omega
      rw [if_pos q]
      by_cases h3 : 50 < m
      · have q2 : decide ((m : Int) ≤ 50) = false := decide_eq_false (by omega)
        rw [if_pos (.inr (.inr h3))] at he
        subst he
        rw [q2]; rfl
      · have q2 : decide ((m : Int) ≤ 50) = true := decide_eq_true (by omega)
        rw [if_neg (by rintro (h | h | h) <;> contradiction)] at he
        subst he
        rw [q2]; rfl
theorem ids_loop (kind : ByteArray) (n : Int) (m : Nat) (hm : Int.tmod n 80 = (m : Int)) (hm80 : m < 80) (d : Nat) : ∀ (k j : Nat), j ≤ m → m - j = d → d + 20 < k →
    lamplighterlaw09_MshIds.l0 k n kind (m : Int) (j : Int) 124 94 126 92 38 (⟨#[]⟩ : ByteArray) (⟨#[]⟩ : ByteArray) (⟨#[]⟩ : ByteArray) (⟨#[]⟩ : ByteArray) (⟨#[]⟩ : ByteArray) (⟨#[]⟩ : ByteArray) kind (strOf (List.replicate j 55)) (⟨#[80]⟩ : ByteArray) (⟨#[50, 46, 53]⟩ : ByteArray) = some true := by
  induction d with
  | zero =>
    intro k j hj hd hk
    obtain ⟨k, rfl⟩ : ∃ m, k = m + 1 := ⟨k - 1, by omega⟩
    obtain rfl : j = m := by omega
    have q : ¬ ((j : Int) < (j : Int)) := by omega
    rw [lamplighterlaw09_MshIds.l0, if_neg q, ids_check k (by omega), Option.bind_some, alive9_is k (by omega), Option.bind_some, if_pos rfl]
    exact ids_end kind j n _ hm hm80 rfl
  | succ d ih =>
    intro k j hj hd hk
    obtain ⟨k, rfl⟩ : ∃ m, k = m + 1 := ⟨k - 1, by omega⟩
    have q : (j : Int) < (m : Int) := by omega
    have e := ih k (j + 1) (by omega) (by omega) (by omega)
    have q1 : (strOf (List.replicate j 55)).size + 1 ≤ 9223372036854775807 := by rw [strOf_size, List.length_replicate]; omega
    have w1 : ((j : Int) + 1) % 256 = ((j + 1 : Nat) : Int) := by omega
    have a1 : strOf (List.replicate j 55) ++ (⟨#[55]⟩ : ByteArray) = strOf (List.replicate (j + 1) 55) := by
      rw [List.replicate_succ', strOf_snoc]; rfl
    rw [lamplighterlaw09_MshIds.l0, if_pos q, if_pos q1, w1, a1, e]
theorem MshIds (n : Int) (kind : ByteArray) (hn : 0 ≤ n ∧ n ≤ 255) (_hk : kind.size ≤ 140737488351232) : ∃ k, lamplighterlaw09_MshIds.f k n kind = some true := by
  obtain ⟨m, hm⟩ : ∃ m : Nat, Int.tmod n 80 = (m : Int) := ⟨(Int.tmod n 80).toNat, by
    have := Int.tmod_nonneg 80 hn.1
    omega⟩
  have hm80 : m < 80 := by
    have := Int.tmod_lt_of_pos n (show (0 : Int) < 80 by decide)
    omega
  refine ⟨200, ?_⟩
  unfold lamplighterlaw09_MshIds.f
  rw [hm]
  exact ids_loop kind n m hm hm80 _ 200 0 (by omega) rfl (by omega)
end Go.Proofs.YtbkalgkjkcfplaaDoor.Pure
