/- A slice of strings as an argument: what it holds, how much its reading counts, and that its reading stays while the memory that was there stays; condition: it reads at its type. -/
import Derived.Test.YtabddkoehdddoaaRows
import Derived.Test.YtabddkoehdddoaaWWords
import Derived.Test.YtabddkoehdddoaaWLast
import Derived.WalkKit
import Derived.ProofKit
import Derived.OpenShut
import Derived.ChangeOld
import Derived.Below
import Derived.Carry
import Derived.SliceStrings
namespace Go.Proofs.Ytabddkoehdddoaa.OpenS
open Go Go.ChangeShapes Go.WideShapes Go.ChangeAt Go.RowKit Go.Proofs.YtabddkoehdddoaaW.PrintWords Go.Proofs.YtabddkoehdddoaaW.PrintLast

theorem laidOut : laidOutB Try.prog = true := by kernel_rfl
theorem bulk_strs {H : Type} (l : List ByteArray) : Rows.uptoBulkAll (strs (H := H) l) = (l.map (fun s => 1 + s.size)).sum := by
  induction l with
  | nil => rfl
  | cons x r ih =>
    have e : x.data.toList.length = x.size := by rw [Array.length_toList]; rfl
    show Rows.uptoBulkAll (DataW.lit (.string x.data.toList) :: strs r) = _
    simp only [Rows.uptoBulkAll, Rows.uptoBulk, ih, List.map_cons, List.sum_cons, e]
    omega
set_option maxRecDepth 100000 in
theorem open_strs {H : Type} {enc : TypeId × Value → H} {W : World} {base : Nat} {v : Value} {d : DataW H} {p : List MemPlace} (hv : Value.okWide Try.prog W .any base 34 v) (h : DataW.Trod enc Try.prog W 0 (fun _ => true) true 34 v d p) :
    ∃ (A : Option Addr) (l : List ByteArray) (c : Nat), v = .slice A l.length c ∧ l.length ≤ c ∧ Kd.C Kd.string W A l.length l ∧ (∀ x ∈ l, x.size ≤ maxLen) ∧ l.length ≤ maxLen ∧ (l.map (fun s => 1 + s.size)).sum ≤ Rows.uptoBulk d ∧
      ∀ W', Below W.heap.size W W' → DataW.Trod enc Try.prog W' 0 (fun b => decide (b < W.heap.size)) true 34 v d p := by
  obtain ⟨a, len, cap, rfl⟩ := okWide_slice Try.underlying34 hv
  have k := h
  have lt : ∀ x ∈ p, x.block < W.heap.size := by obtain ⟨m, hm⟩ := k; exact DataW.trod_lt m _ _ _ hm
  obtain ⟨fuel, hf⟩ := h
  have hshut : ∀ W', Below W.heap.size W W' → DataW.Trod enc Try.prog W' 0 (fun b => decide (b < W.heap.size)) true 34 (.slice a len cap) d p := fun W' bel => Below.trod laidOut (by kernel_rfl) (of_decide_eq_true (by kernel_rfl)) k bel lt
  rcases open_strings Try.underlying34 Try.underlying9 (by kernel_rfl) hf with ⟨hcs, hx⟩ | ⟨x, l, c, ss, hcs, _, hl, hm, hz, hx, hcell, hwz⟩
  · simp [Value.cells] at hcs
    obtain ⟨rfl, rfl, rfl⟩ := hcs
    refine ⟨none, [], 0, rfl, Nat.le_refl _, Kd.C_of_reads (d := ByteArray.empty) (h1 := fun _ => rfl) ⟨rfl, by simp, fun h => by simp at h⟩, by simp, by simp, by simp, hshut⟩
  · simp [Value.cells] at hcs
    obtain ⟨rfl, rfl, rfl⟩ := hcs
    simp only [if_true] at hz
    obtain ⟨rfl, rfl⟩ := Prod.mk.inj hx
    have hlen : (ss.take len).length = len := by rw [List.length_take]; omega
    refine ⟨some x, ss.take len, cap, by rw [hlen], by omega, Kd.C_of_reads (d := ByteArray.empty) (h1 := fun _ => rfl) ⟨rfl, by unfold maxLen at hm; omega, fun _ => ⟨x, rfl, fun j hj => ?_⟩⟩, fun s hs => hwz s (List.mem_of_mem_take hs), by omega, ?_, hshut⟩
    · rw [hlen] at hj
      rw [hcell j (by omega)]
      simp [hj]
    · simp only [Rows.uptoBulk, bulk_strs]
      omega
end Go.Proofs.Ytabddkoehdddoaa.OpenS
