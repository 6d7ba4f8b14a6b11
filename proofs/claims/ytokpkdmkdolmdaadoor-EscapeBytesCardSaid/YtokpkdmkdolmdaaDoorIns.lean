/- The map of an escape's insides, as escape.insides makes it: a walk; condition: the five signs are bytes. -/
import Derived.Test.YtokpkdmkdolmdaaDoorLib7
import Derived.Test.YtokpkdmkdolmdaaDoorHelp
import Derived.Test.YtokpkdmkdolmdaaDoorProg
import Derived.WalkKit
import Derived.BigCall
import Derived.Maps.AppendAt
namespace Go.Proofs.YtokpkdmkdolmdaaDoor
open Go Go.RowKit Go.Maps
set_option linter.unusedVariables false

def B5 (a0 a1 a2 a3 a4 : Int) : Prop := (0 ≤ a0 ∧ a0 ≤ 255) ∧ (0 ≤ a1 ∧ a1 ≤ 255) ∧ (0 ≤ a2 ∧ a2 ≤ 255) ∧ (0 ≤ a3 ∧ a3 ≤ 255) ∧ (0 ≤ a4 ∧ a4 ≤ 255)
instance (a0 a1 a2 a3 a4 : Int) : Decidable (B5 a0 a1 a2 a3 a4) := by unfold B5; exact inferInstance
theorem ins_step {P : Program} {k e : TypeId} {w : World} {b n m : Nat} {g g' : Int → Option (List UInt8)} (h : OwnsIns P k e w b n g) (hn : n ≤ m) (hg : ∀ c, 0 ≤ c → c ≤ 255 → g c = g' c) : OwnsIns P k e w b m g' := by
  obtain ⟨D, ho, hD⟩ := h
  exact ⟨D, ho.mono hn, fun c h0 h1 => by rw [← hg c h0 h1]; exact hD c h0 h1⟩
/-- A sign that the map has: nothing is put in. -/
theorem snoc_has {l : List (Int × UInt8)} {a : Int} {b : UInt8} (h : (insG l a).isSome = true) (c : Int) : insG l c = insG (l ++ [(a, b)]) c := by
  rw [insG_snoc]
  by_cases hc : (insG l c).isSome = true
  · rw [if_pos hc]
  · rw [if_neg hc]
    by_cases e : c = a
    · subst e; exact absurd h hc
    · rw [if_neg e]
      cases hg : insG l c with
      | none => rfl
      | some x => rw [hg] at hc; exact absurd rfl hc
theorem snoc_new {l : List (Int × UInt8)} {a : Int} {b : UInt8} (h : (insG l a).isSome = false) (c : Int) : (if c = a then some [b] else insG l c) = insG (l ++ [(a, b)]) c := by
  rw [insG_snoc]
  by_cases e : c = a
  · subst e
    rw [if_pos rfl, if_neg (by rw [h]; decide), if_pos rfl]
  · rw [if_neg e]
    by_cases hc : (insG l c).isSome = true
    · rw [if_pos hc]
    · rw [if_neg hc, if_neg e]
      cases hg : insG l c with
      | none => rfl
      | some x => rw [hg] at hc; exact absurd rfl hc
theorem base_ins (c : Int) : (if c = 28 then some (⟨#[88, 49, 67]⟩ : ByteArray).data.toList else if c = 13 then some (⟨#[88, 48, 68]⟩ : ByteArray).data.toList else if c = 11 then some (⟨#[88, 48, 66]⟩ : ByteArray).data.toList else none) = insG [] c := by
  unfold insG sigG
  by_cases h1 : c = 11
  · subst h1; rfl
  by_cases h2 : c = 13
  · subst h2; rfl
  by_cases h3 : c = 28
  · subst h3; rfl
  rw [if_neg h3, if_neg h2, if_neg h1, if_neg h1, if_neg h2, if_neg h3]
theorem block_of_alloc2 (w : World) (o o' : Obj) : ((w.alloc o).alloc o').heap.size = w.heap.size + 2 := by
  show ((w.heap.push o).push o').size = _
  rw [Array.size_push, Array.size_push]
section
attribute [local go_sem] run_makeMap
set_option maxHeartbeats 8000000 in
set_option maxRecDepth 100000 in
theorem insides_calls (a0 a1 a2 a3 a4 : Int) (hB5 : B5 a0 a1 a2 a3 a4) (w : World) :
    Calls Tryd.prog 19 #[.agg #[.int .u8 a0, .int .u8 a1, .int .u8 a2, .int .u8 a3, .int .u8 a4]] w fun e w' => e = .returned (.map (some (w.heap.size + 1))) ∧ OwnsIns Tryd.prog 5 9 w' (w.heap.size + 1) 8 (insV a0 a1 a2 a3 a4) ∧ Below w.heap.size w w' := by
  obtain ⟨h0, h1, h2, h3, h4⟩ := hB5
  have HZ := Lib.hid (show ∀ W, (zeroValue 9).run Tryd.prog W = .ok (.string ⟨#[]⟩) W from fun W => by kernel_rfl)
  have HO0 : OwnsIns Tryd.prog 5 9 ((w.alloc (.cells #[.int .u8 a0, .int .u8 a1, .int .u8 a2, .int .u8 a3, .int .u8 a4] 23)).alloc (.map #[] 0)) (w.heap.size + 1) 0 (fun _ => none) := by
    have h := OwnsIns.made (w.alloc (.cells #[.int .u8 a0, .int .u8 a1, .int .u8 a2, .int .u8 a3, .int .u8 a4] 23)) Tryd.prog 5 9
    simpa using h
  have HB0 : Below w.heap.size w ((w.alloc (.cells #[.int .u8 a0, .int .u8 a1, .int .u8 a2, .int .u8 a3, .int .u8 a4] 23)).alloc (.map #[] 0)) := ((Below.refl w.heap.size w).alloc (Nat.le_refl _) _).alloc (by simp) _
  have HS0 : ((w.alloc (.cells #[.int .u8 a0, .int .u8 a1, .int .u8 a2, .int .u8 a3, .int .u8 a4] 23)).alloc (.map #[] 0)).heap.size ≥ w.heap.size + 2 := by rw [block_of_alloc2 w _ _]; exact Nat.le_refl _
  have HD0 : ((w.alloc (.cells #[.int .u8 a0, .int .u8 a1, .int .u8 a2, .int .u8 a3, .int .u8 a4] 23)).alloc (.map #[] 0)).heap[w.heap.size]? = some (.cells #[.int .u8 a0, .int .u8 a1, .int .u8 a2, .int .u8 a3, .int .u8 a4] 23 (0, 0)) := by
    rw [Lib.alloc_old _ _ _ (by simp)]
    exact heap_new w _
  have q3 : (3 : Int) ≤ 5 := by decide
  go_enter Tryd.func19, Tryd.ntmps19
  go_wp2_with (first
    | (refine ins_lit _ rfl _ _ _ 41 rfl 5 9 Tryd.underlying5 Tryd.underlying9 Tryd.underlying41 _ _ _ rfl HO0 (by decide) 11 ⟨#[88, 48, 66]⟩ rfl rfl (by decide) (by decide) ?_; intro w1 HO1 hg1; have HB1 := HB0.grown hg1 (by omega) (fun k e => by cases e; omega); have HS1 : w.heap.size + 2 ≤ w1.heap.size := Nat.le_trans HS0 hg1.size; have HD1 := (hg1.block w.heap.size (by omega) (fun e => by simp at e)).trans HD0)
    | (refine ins_lit _ rfl _ _ _ 41 rfl 5 9 Tryd.underlying5 Tryd.underlying9 Tryd.underlying41 _ _ _ rfl HO1 (by decide) 13 ⟨#[88, 48, 68]⟩ rfl rfl (by decide) (by decide) ?_; intro w2 HO2 hg2; have HB2 := HB1.grown hg2 (by omega) (fun k e => by cases e; omega); have HS2 : w.heap.size + 2 ≤ w2.heap.size := Nat.le_trans HS1 hg2.size; have HD2 := (hg2.block w.heap.size (by omega) (fun e => by simp at e)).trans HD1)
    | (refine ins_lit _ rfl _ _ _ 41 rfl 5 9 Tryd.underlying5 Tryd.underlying9 Tryd.underlying41 _ _ _ rfl HO2 (by decide) 28 ⟨#[88, 49, 67]⟩ rfl rfl (by decide) (by decide) ?_; intro w3 HO3 hg3; have HB3 := HB2.grown hg3 (by omega) (fun k e => by cases e; omega); have HS3 : w.heap.size + 2 ≤ w3.heap.size := Nat.le_trans HS2 hg3.size; have HD3 := (hg3.block w.heap.size (by omega) (fun e => by simp at e)).trans HD2; have C0 : w3.cell? ⟨w.heap.size, 0, none⟩ = some (.int .u8 a0) := (cell_of_cells HD3 0).trans rfl; have C1 : w3.cell? ⟨w.heap.size, 1, none⟩ = some (.int .u8 a1) := (cell_of_cells HD3 1).trans rfl; have C2 : w3.cell? ⟨w.heap.size, 2, none⟩ = some (.int .u8 a2) := (cell_of_cells HD3 2).trans rfl; have C3 : w3.cell? ⟨w.heap.size, 3, none⟩ = some (.int .u8 a3) := (cell_of_cells HD3 3).trans rfl; have C4 : w3.cell? ⟨w.heap.size, 4, none⟩ = some (.int .u8 a4) := (cell_of_cells HD3 4).trans rfl)
    | fail)
  clear C0 C1 C2 C3 C4 HD0 HD1 HD2 HD3
  go_loopw [22] (fun vi wr => ∃ i : Nat, vi = .int .i64 i ∧ i ≤ 5 ∧ OwnsIns Tryd.prog 5 9 wr (w.heap.size + 1) (3 + i) (insG ((sigs a0 a1 a2 a3 a4).take i)) ∧ wr.heap[w3.heap.size]? = some (.cells #[.int .u8 a0, .int .u8 a1, .int .u8 a4, .int .u8 a2, .int .u8 a3] 5 (0, 0)) ∧ Below w.heap.size w wr) (fun vi _ => 5 - (intOf vi).toNat)
  case atStart =>
    refine ⟨0, rfl, by omega, ?_, heap_new w3 _, HB3.alloc HB3.size _⟩
    exact ins_step (HO3.same (Lib.alloc_old w3 _ _ HO3.lt)) (by decide) (fun c _ _ => base_ins c)
  case round =>
    obtain ⟨i, rfl, hi, ho, hc, hb⟩ := hrel
    have hz : (zeroValue 9).run Tryd.prog wr = .ok (.string ⟨#[]⟩) wr := HZ.out wr
    clear HO0 HO1 HO2 HO3 HB0 HB1 HB2 HB3 hg1 hg2 hg3 HZ
    have hs3 : w.heap.size + 1 ≠ w3.heap.size := by omega
    clear HS0 HS1 HS2 HS3
    obtain rfl | rfl | rfl | rfl | rfl | rfl : i = 0 ∨ i = 1 ∨ i = 2 ∨ i = 3 ∨ i = 4 ∨ i = 5 := by omega
    · have hC : wr.cell? ⟨w3.heap.size, 0, none⟩ = some (.int .u8 a0) := (cell_of_cells hc 0).trans rfl
      cases hg : (insG ((sigs a0 a1 a2 a3 a4).take 0) a0).isSome
      · go_wp2_with (first | (refine ins_look _ rfl _ _ 41 rfl 5 9 Tryd.underlying5 Tryd.underlying9 Tryd.underlying41 hz _ _ _ rfl ho a0 rfl h0 ?_; rw [hg]) | (refine ins_put _ rfl _ _ _ 41 rfl 5 9 Tryd.underlying5 Tryd.underlying9 Tryd.underlying41 _ _ _ rfl ho (by decide) a0 ⟨#[70]⟩ rfl rfl h0 (by decide) ?_; intro w9 ho9 ht9) | fail)
        go_roundw
        case rel => exact ⟨1, rfl, by omega, ins_step ho9 (by decide) (fun c _ _ => snoc_new hg c), (ht9.grown.block _ (Array.getElem?_eq_some_iff.1 hc).1 (fun e => hs3 (Option.some.inj e).symm)).trans hc, hb.grown ht9.grown hb.size (fun k e => by cases e; omega)⟩
        case measure => decide
      · go_wp2_with (first | (refine ins_look _ rfl _ _ 41 rfl 5 9 Tryd.underlying5 Tryd.underlying9 Tryd.underlying41 hz _ _ _ rfl ho a0 rfl h0 ?_; rw [hg]) | fail)
        go_roundw
        case rel => exact ⟨1, rfl, by omega, ins_step ho (by decide) (fun c _ _ => snoc_has hg c), hc, hb⟩
        case measure => decide
    · have hC : wr.cell? ⟨w3.heap.size, 1, none⟩ = some (.int .u8 a1) := (cell_of_cells hc 1).trans rfl
      cases hg : (insG ((sigs a0 a1 a2 a3 a4).take 1) a1).isSome
      · go_wp2_with (first | (refine ins_look _ rfl _ _ 41 rfl 5 9 Tryd.underlying5 Tryd.underlying9 Tryd.underlying41 hz _ _ _ rfl ho a1 rfl h1 ?_; rw [hg]) | (refine ins_put _ rfl _ _ _ 41 rfl 5 9 Tryd.underlying5 Tryd.underlying9 Tryd.underlying41 _ _ _ rfl ho (by decide) a1 ⟨#[83]⟩ rfl rfl h1 (by decide) ?_; intro w9 ho9 ht9) | fail)
        go_roundw
        case rel => exact ⟨2, rfl, by omega, ins_step ho9 (by decide) (fun c _ _ => snoc_new hg c), (ht9.grown.block _ (Array.getElem?_eq_some_iff.1 hc).1 (fun e => hs3 (Option.some.inj e).symm)).trans hc, hb.grown ht9.grown hb.size (fun k e => by cases e; omega)⟩
        case measure => decide
      · go_wp2_with (first | (refine ins_look _ rfl _ _ 41 rfl 5 9 Tryd.underlying5 Tryd.underlying9 Tryd.underlying41 hz _ _ _ rfl ho a1 rfl h1 ?_; rw [hg]) | fail)
        go_roundw
        case rel => exact ⟨2, rfl, by omega, ins_step ho (by decide) (fun c _ _ => snoc_has hg c), hc, hb⟩
        case measure => decide
    · have hC : wr.cell? ⟨w3.heap.size, 2, none⟩ = some (.int .u8 a4) := (cell_of_cells hc 2).trans rfl
      cases hg : (insG ((sigs a0 a1 a2 a3 a4).take 2) a4).isSome
      · go_wp2_with (first | (refine ins_look _ rfl _ _ 41 rfl 5 9 Tryd.underlying5 Tryd.underlying9 Tryd.underlying41 hz _ _ _ rfl ho a4 rfl h4 ?_; rw [hg]) | (refine ins_put _ rfl _ _ _ 41 rfl 5 9 Tryd.underlying5 Tryd.underlying9 Tryd.underlying41 _ _ _ rfl ho (by decide) a4 ⟨#[84]⟩ rfl rfl h4 (by decide) ?_; intro w9 ho9 ht9) | fail)
        go_roundw
        case rel => exact ⟨3, rfl, by omega, ins_step ho9 (by decide) (fun c _ _ => snoc_new hg c), (ht9.grown.block _ (Array.getElem?_eq_some_iff.1 hc).1 (fun e => hs3 (Option.some.inj e).symm)).trans hc, hb.grown ht9.grown hb.size (fun k e => by cases e; omega)⟩
        case measure => decide
      · go_wp2_with (first | (refine ins_look _ rfl _ _ 41 rfl 5 9 Tryd.underlying5 Tryd.underlying9 Tryd.underlying41 hz _ _ _ rfl ho a4 rfl h4 ?_; rw [hg]) | fail)
        go_roundw
        case rel => exact ⟨3, rfl, by omega, ins_step ho (by decide) (fun c _ _ => snoc_has hg c), hc, hb⟩
        case measure => decide
    · have hC : wr.cell? ⟨w3.heap.size, 3, none⟩ = some (.int .u8 a2) := (cell_of_cells hc 3).trans rfl
      cases hg : (insG ((sigs a0 a1 a2 a3 a4).take 3) a2).isSome
      · go_wp2_with (first | (refine ins_look _ rfl _ _ 41 rfl 5 9 Tryd.underlying5 Tryd.underlying9 Tryd.underlying41 hz _ _ _ rfl ho a2 rfl h2 ?_; rw [hg]) | (refine ins_put _ rfl _ _ _ 41 rfl 5 9 Tryd.underlying5 Tryd.underlying9 Tryd.underlying41 _ _ _ rfl ho (by decide) a2 ⟨#[82]⟩ rfl rfl h2 (by decide) ?_; intro w9 ho9 ht9) | fail)
        go_roundw
        case rel => exact ⟨4, rfl, by omega, ins_step ho9 (by decide) (fun c _ _ => snoc_new hg c), (ht9.grown.block _ (Array.getElem?_eq_some_iff.1 hc).1 (fun e => hs3 (Option.some.inj e).symm)).trans hc, hb.grown ht9.grown hb.size (fun k e => by cases e; omega)⟩
        case measure => decide
      · go_wp2_with (first | (refine ins_look _ rfl _ _ 41 rfl 5 9 Tryd.underlying5 Tryd.underlying9 Tryd.underlying41 hz _ _ _ rfl ho a2 rfl h2 ?_; rw [hg]) | fail)
        go_roundw
        case rel => exact ⟨4, rfl, by omega, ins_step ho (by decide) (fun c _ _ => snoc_has hg c), hc, hb⟩
        case measure => decide
    · have hC : wr.cell? ⟨w3.heap.size, 4, none⟩ = some (.int .u8 a3) := (cell_of_cells hc 4).trans rfl
      cases hg : (insG ((sigs a0 a1 a2 a3 a4).take 4) a3).isSome
      · go_wp2_with (first | (refine ins_look _ rfl _ _ 41 rfl 5 9 Tryd.underlying5 Tryd.underlying9 Tryd.underlying41 hz _ _ _ rfl ho a3 rfl h3 ?_; rw [hg]) | (refine ins_put _ rfl _ _ _ 41 rfl 5 9 Tryd.underlying5 Tryd.underlying9 Tryd.underlying41 _ _ _ rfl ho (by decide) a3 ⟨#[69]⟩ rfl rfl h3 (by decide) ?_; intro w9 ho9 ht9) | fail)
        go_roundw
        case rel => exact ⟨5, rfl, by omega, ins_step ho9 (by decide) (fun c _ _ => snoc_new hg c), (ht9.grown.block _ (Array.getElem?_eq_some_iff.1 hc).1 (fun e => hs3 (Option.some.inj e).symm)).trans hc, hb.grown ht9.grown hb.size (fun k e => by cases e; omega)⟩
        case measure => decide
      · go_wp2_with (first | (refine ins_look _ rfl _ _ 41 rfl 5 9 Tryd.underlying5 Tryd.underlying9 Tryd.underlying41 hz _ _ _ rfl ho a3 rfl h3 ?_; rw [hg]) | fail)
        go_roundw
        case rel => exact ⟨5, rfl, by omega, ins_step ho (by decide) (fun c _ _ => snoc_has hg c), hc, hb⟩
        case measure => decide
    · go_wp2_with fail
      go_ret
      exact ⟨rfl, ho, hb⟩
end
end Go.Proofs.YtokpkdmkdolmdaaDoor
