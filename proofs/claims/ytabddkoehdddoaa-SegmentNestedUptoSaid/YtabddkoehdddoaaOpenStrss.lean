/- A slice of slices of strings as an argument: what it holds, how much its reading counts, and that its reading stays while the memory that was there stays; condition: it reads at its type. -/
import Derived.Test.YtabddkoehdddoaaRows
import Derived.Test.YtabddkoehdddoaaNest
import Derived.WalkKit
import Derived.ProofKit
import Derived.OpenShut
import Derived.ChangeOld
import Derived.Below
import Derived.Carry
import Derived.SliceStrings
import Derived.Deep.Slices
namespace Go.Proofs.Ytabddkoehdddoaa.OpenSS
open Go Go.Deep Go.ChangeShapes Go.WideShapes Go.ChangeAt Go.RowKit Go.Proofs.YtabddkoehdddoaaW.PrintWords Go.Proofs.YtabddkoehdddoaaW.PrintLast

theorem laidOut : laidOutB Try.prog = true := by kernel_rfl
theorem bulk_strs {H : Type} (l : List ByteArray) : Rows.uptoBulkAll (strs (H := H) l) = wt l := by
  induction l with
  | nil => rfl
  | cons x r ih =>
    have e : x.data.toList.length = x.size := by rw [Array.length_toList]; rfl
    have e2 : wt (x :: r) = (1 + x.size) + wt r := by simp [wt]
    show Rows.uptoBulkAll (DataW.lit (.string x.data.toList) :: strs r) = _
    simp only [Rows.uptoBulkAll, Rows.uptoBulk, ih, e, e2]
    omega
theorem bulk_map {H : Type} (D : Nat → DataW H) (L : Nat → List ByteArray) (n : Nat) (h : ∀ i, i < n → wt (L i) + 1 ≤ Rows.uptoBulk (D i)) :
    ∀ l : List Nat, (∀ i ∈ l, i < n) → wts (l.map L) + l.length ≤ Rows.uptoBulkAll (l.map D)
  | [], _ => Nat.le_refl 0
  | i :: r, hl => by
    have h1 := h i (hl i List.mem_cons_self)
    have h2 := bulk_map D L n h r (fun j hj => hl j (List.mem_cons_of_mem _ hj))
    have e : wts ((i :: r).map L) = wt (L i) + wts (r.map L) := by simp [wts]
    rw [e, List.map_cons, List.length_cons]
    simp only [Rows.uptoBulkAll]
    omega
set_option maxRecDepth 100000 in
theorem open_strss {H : Type} {enc : TypeId × Value → H} {W : World} {base : Nat} {v : Value} {d : DataW H} {p : List MemPlace} (hv : Value.okWide Try.prog W .any base 32 v) (h : DataW.Trod enc Try.prog W 0 (fun _ => true) true 32 v d p) :
    ∃ (A : Option Addr) (l : List (List ByteArray)) (c : Nat), v = .slice A l.length c ∧ l.length ≤ c ∧ (Kd.slice 9 Kd.string).C W A l.length l ∧ wts l + l.length ≤ Rows.uptoBulk d ∧
      ∀ W', Below W.heap.size W W' → DataW.Trod enc Try.prog W' 0 (fun b => decide (b < W.heap.size)) true 32 v d p := by
  obtain ⟨a, len, cap, rfl⟩ := okWide_slice Try.underlying32 hv
  have k := h
  have lt : ∀ x ∈ p, x.block < W.heap.size := by obtain ⟨m, hm⟩ := k; exact DataW.trod_lt m _ _ _ hm
  obtain ⟨fuel, hf⟩ := h
  have hshut : ∀ W', Below W.heap.size W W' → DataW.Trod enc Try.prog W' 0 (fun b => decide (b < W.heap.size)) true 32 (.slice a len cap) d p := fun W' bel => Below.trod laidOut (by kernel_rfl) (of_decide_eq_true (by kernel_rfl)) k bel lt
  rcases open_slice1 Try.underlying32 (by kernel_rfl) hf with ⟨hcs, hx⟩ | ⟨x, ln, cp, m, n, V, D, Pl, hcs, _, hl, hm, hmm, hx, hcell⟩
  · simp [Value.cells] at hcs
    obtain ⟨rfl, rfl, rfl⟩ := hcs
    refine ⟨none, [], 0, rfl, Nat.le_refl _, ⟨rfl, by simp, fun h => absurd h (by simp)⟩, by simp [wts], hshut⟩
  · simp [Value.cells] at hcs
    obtain ⟨rfl, rfl, rfl⟩ := hcs
    simp only [if_true] at hmm
    subst hmm
    obtain ⟨rfl, rfl⟩ := Prod.mk.inj hx
    have each : ∀ i, i < m → ∃ y : Option Addr × Nat × List ByteArray, V i = .slice y.1 y.2.2.length y.2.1 ∧ y.2.2.length ≤ y.2.1 ∧ Kd.string.C W y.1 y.2.2.length y.2.2 ∧ wt y.2.2 + 1 ≤ Rows.uptoBulk (D i) := by
      intro i hi
      rcases open_strings Try.underlying34 Try.underlying9 (by kernel_rfl) (hcell i hi).2 with ⟨hcs', hx'⟩ | ⟨x', l', c', ss, hcs', _, hl', hm', hz', hx', hcell', _⟩
      · obtain ⟨e1, _⟩ := Prod.mk.inj hx'
        refine ⟨(none, 0, []), by simpa using hcs', Nat.le_refl 0, ⟨rfl, by simp, fun h => absurd h (by simp)⟩, ?_⟩
        rw [e1]
        exact Nat.le_refl 1
      · obtain ⟨e1, _⟩ := Prod.mk.inj hx'
        simp only [if_true] at hz'
        have hlen : (ss.take l').length = l' := by rw [List.length_take]; omega
        refine ⟨(some x', c', ss.take l'), ?_, by show (ss.take l').length ≤ c'; omega, Kd.C_of_reads (d := ByteArray.empty) (h1 := fun _ => rfl) ⟨rfl, by show (ss.take l').length ≤ _; unfold maxLen at hm'; omega, fun _ => ⟨x', rfl, fun j hj => ?_⟩⟩, ?_⟩
        · show V i = .slice (some x') (ss.take l').length c'
          rw [hlen]
          simpa using hcs'
        · have hj' : j < l' := by
            have : j < (ss.take l').length := hj
            omega
          rw [hcell' j (by omega)]
          show _ = some (Value.string ((ss.take l').getD j ByteArray.empty))
          simp [hj']
        · rw [e1]
          simp only [Rows.uptoBulk, bulk_strs]
          show wt (ss.take l') + 1 ≤ _
          omega
    obtain ⟨Y, hY⟩ := choose_lt each
    have hll : ((List.range len).map fun i => (Y i).2.2).length = len := by rw [List.length_map, List.length_range]
    refine ⟨some x, (List.range len).map fun i => (Y i).2.2, m, by rw [hll], by rw [hll]; exact hl, ⟨rfl, by rw [hll]; unfold maxLen at hm; omega, fun _ => ⟨x, rfl, fun j q hq => ?_⟩⟩, ?_, hshut⟩
    · have hj : j < len := by
        have := (List.getElem?_eq_some_iff.1 hq).1
        omega
      rw [List.getElem?_map, List.getElem?_range hj] at hq
      obtain rfl : (Y j).2.2 = q := Option.some.inj hq
      obtain ⟨h1, h2, h3, _⟩ := hY j (by omega)
      refine ⟨[V j], rfl, ⟨(Y j).1, (Y j).2.1, by rw [h1], h2, h3⟩, fun i u hu => ?_⟩
      have hi : i = 0 := by
        have := (List.getElem?_eq_some_iff.1 hu).1
        simp at this
        exact this
      subst hi
      have hu' : V j = u := by simpa using hu
      have e : j * (Kd.slice 9 Kd.string).sz + 0 = j := by show j * 1 + 0 = j; omega
      rw [e, (hcell j (by omega)).1, hu']
    · have hb := bulk_map D (fun i => (Y i).2.2) len (fun i hi => (hY i (by omega)).2.2.2) (List.range len) (fun i hi => List.mem_range.1 hi)
      rw [List.length_range] at hb
      simp only [Rows.uptoBulk]
      rw [hll]
      omega
end Go.Proofs.Ytabddkoehdddoaa.OpenSS
