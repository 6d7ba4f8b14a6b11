-- Written by a program of this work (the kit's print, with contracts of this work's own taken in) out of the translation. Not trusted: Lean checks it.
import Derived.Test.YteaehlkpghpnkaaDoorPHx0
import Derived.Test.YteaehlkpghpnkaaDoorPHx5
import Derived.Test.YteaehlkpghpnkaaDoorPHx6
namespace Go.Proofs.YteaehlkpghpnkaaDoor.PH
open Go.RowKit Go.Proofs.YteaehlkpghpnkaaDoorW.PrintWords Go.Proofs.YteaehlkpghpnkaaDoorW.PrintLast Go.Proofs.YteaehlkpghpnkaaDoorW.PrintMore
set_option maxHeartbeats 20000000
set_option maxRecDepth 100000
attribute [local go_sem] max2_int min2_int max_two min_two max_three min_three max_four min_four   -- for this text's walks alone
set_option linter.unusedVariables false
set_option linter.unusedSimpArgs false

/-! ### lamplighterlaw09_alive: function 5 -/
def lamplighterlaw09_alive.f (k : Nat) : Option (Bool) :=
 (msh_Read.f k [77, 83, 72, 124, 94, 126, 92, 38, 124, 65, 124, 66, 124, 67, 124, 68, 124, 49, 124, 124, 65, 68, 84, 94, 65, 48, 49, 124, 55, 124, 80, 124, 50, 46, 53]).bind fun d => (msh_Check.f k d.1 d.2.1 d.2.2.1 d.2.2.2.1 d.2.2.2.2.1 d.2.2.2.2.2.1 d.2.2.2.2.2.2.1 d.2.2.2.2.2.2.2.1 d.2.2.2.2.2.2.2.2.1 d.2.2.2.2.2.2.2.2.2.1 d.2.2.2.2.2.2.2.2.2.2.1 d.2.2.2.2.2.2.2.2.2.2.2.1 d.2.2.2.2.2.2.2.2.2.2.2.2.1 d.2.2.2.2.2.2.2.2.2.2.2.2.2.1 d.2.2.2.2.2.2.2.2.2.2.2.2.2.2.1).bind fun a => (msh_Check.f k d.1 d.2.1 d.2.2.1 d.2.2.2.1 d.2.2.2.2.1 d.2.2.2.2.2.1 d.2.2.2.2.2.2.1 d.2.2.2.2.2.2.2.1 d.2.2.2.2.2.2.2.2.1 d.2.2.2.2.2.2.2.2.2.1 d.2.2.2.2.2.2.2.2.2.2.1 d.2.2.2.2.2.2.2.2.2.2.2.1 ⟨#[]⟩ d.2.2.2.2.2.2.2.2.2.2.2.2.2.1 d.2.2.2.2.2.2.2.2.2.2.2.2.2.2.1).bind fun b => (msh_Check.f k d.1 d.2.1 d.2.2.1 d.2.2.2.1 d.2.2.2.2.1 d.2.2.2.2.2.1 d.2.2.2.2.2.2.1 d.2.2.2.2.2.2.2.1 d.2.2.2.2.2.2.2.2.1 d.2.2.2.2.2.2.2.2.2.1 d.2.2.2.2.2.2.2.2.2.2.1 d.2.2.2.2.2.2.2.2.2.2.2.1 d.2.2.2.2.2.2.2.2.2.2.2.2.1 d.2.2.2.2.2.2.2.2.2.2.2.2.2.1 ⟨#[57]⟩).bind fun c =>
  if d.2.2.2.2.2.2.2.2.2.2.2.2.2.2.2 = 0 ∧ d.2.2.2.2.2.2.2.2.2.2.2.2.1 = ⟨#[55]⟩ ∧ d.2.2.2.2.2.2.2.2.2.2.2.2.2.2.1 = ⟨#[50, 46, 53]⟩ ∧ a = 0 ∧ b = 14 ∧ c = 12 then some true else none
theorem lamplighterlaw09_alive.mono : ∀ k, LeO (lamplighterlaw09_alive.f k) (lamplighterlaw09_alive.f (k + 1)) := by
 intro k
 unfold lamplighterlaw09_alive.f
 repeat' first
   | (with_reducible exact msh_Read.mono _ _)
   | (with_reducible exact msh_Check.mono _ _ _ _ _ _ _ _ _ _ _ _ _ _ _ _)
   | (with_reducible exact LeO.refl _)
   | (with_reducible refine LeO.ite ?_ ?_)
   | (with_reducible refine LeO.bind ?_ (fun _ => ?_))
/-- Two boxes are made in one statement, in either order: what is known behind them. -/
theorem two_boxes {P : Program} {id : Nat} {ops : Array Oper} {Q : Exit → Act → World → Prop} {a : Act} {W : World} {n1 n2 n3 n4 : Tmp} {v : Value} (F : Nat → Nat → World → Prop)
  (h1 : (Code.region id ops true).wp P (fun e a' W' => e = Exit.normal ∧ ∃ b7 b8, a' = (((a.put (some n1) v).put (some n2) v).put (some n3) (.pointer (some ⟨b7, 0, none⟩))).put (some n4) (.pointer (some ⟨b8, 0, none⟩)) ∧ F b7 b8 W') a W)
  (h2 : ∀ b7 b8 W', F b7 b8 W' → Q .normal ((((a.put (some n1) v).put (some n2) v).put (some n3) (.pointer (some ⟨b7, 0, none⟩))).put (some n4) (.pointer (some ⟨b8, 0, none⟩))) W') : (Code.region id ops true).wp P Q a W :=
 Code.wp_mono (fun e a' W' h => by obtain ⟨rfl, b7, b8, rfl, hF⟩ := h; exact h2 b7 b8 W' hF) h1
section
attribute [local go_sem] alloc_dN setCell_dN shape_dN
theorem lamplighterlaw09_alive.calls (k : Nat) (r : Bool) (w : World) (h : lamplighterlaw09_alive.f k = some r) (hG : GlobOK w) :
  Calls Tryd.prog 5 #[] w fun e w' => e = .returned (.bool r) ∧ Below w.heap.size w w' := by
  have HG := Lib.hid hG
  clear hG
  unfold lamplighterlaw09_alive.f at h
  obtain ⟨⟨d0, d1, d2, d3, d4, y3, y4, y5, y6, y7, y8, y9, y10, y11, y12, er⟩, hr, h1⟩ := Option.bind_eq_some_iff.1 h
  obtain ⟨ca, ha, h2⟩ := Option.bind_eq_some_iff.1 h1
  obtain ⟨cb, hb, h3⟩ := Option.bind_eq_some_iff.1 h2
  obtain ⟨cc, hc, h4⟩ := Option.bind_eq_some_iff.1 h3
  dsimp only at ha hb hc h4
  split at h4
  case isFalse => cases h4
  rename_i hcond
  obtain rfl := Option.some.inj h4
  obtain ⟨rfl, e10, e12, rfl, rfl, rfl⟩ := hcond
  clear h h1 h2 h3 h4
  have HR := Lib.hid hr
  have HA := Lib.hid ha
  have HB := Lib.hid hb
  have HC := Lib.hid hc
  clear hr ha hb hc
  have q10 : y10.toList = [55] := by rw [e10, Lib.toList_data]
  have q12 : y12.toList = [50, 46, 53] := by rw [e12, Lib.toList_data]
  clear e10 e12
  go_enter Tryd.func5, Tryd.ntmps5
  go_wp2_with (first | ((with_reducible refine gate_dst (N := 7) rfl ?_); refine goesLit_ (n := 35) rfl rfl rfl rfl (by first | rfl | simp) ?_; refine (conv_lit (P := Tryd.prog) Tryd.underlying34 Tryd.underlying5 [77, 83, 72, 124, 94, 126, 92, 38, 124, 65, 124, 66, 124, 67, 124, 68, 124, 49, 124, 124, 65, 68, 84, 94, 65, 48, 49, 124, 55, 124, 80, 124, 50, 46, 53] (by decide)).mono ?_; rintro e w1 ⟨v, rfl, hV, hb1⟩; refine ⟨_, rfl, ?_⟩; have HV := Lib.hid hV; have HB1 := Lib.hid hb1; clear hV hb1; obtain ⟨A1, c1, ev⟩ := Kd.V_slice HV.out; subst ev))
  refine (msh_Read.calls k A1 c1 [77, 83, 72, 124, 94, 126, 92, 38, 124, 65, 124, 66, 124, 67, 124, 68, 124, 49, 124, 124, 65, 68, 84, 94, 65, 48, 49, 124, 55, 124, 80, 124, 50, 46, 53] d0 d1 d2 d3 d4 y3 y4 y5 y6 y7 y8 y9 y10 y11 y12 0 _ (Kd.V_reads' HV.out).2.2 (Kd.V_reads' HV.out).2.1 HR.out).mono ?_
  rintro e w2 ⟨rfl, hb2⟩
  have B2 := Lib.hid (below_step HB1.out hb2)
  clear hb2 HV HB1
  go_wp2_with fail
  have z1 := heap_new w2 (.cells #[.int .u8 d0, .int .u8 d1, .int .u8 d2, .int .u8 d3, .int .u8 d4, .string y3, .string y4, .string y5, .string y6, .string y7, .string y8, .string y9, .string y10, .string y11, .string y12] 25)
  have G1 := Lib.hid z1
  have k0 := blk_cell z1 0
  have k1 := blk_cell z1 1
  have k2 := blk_cell z1 2
  have k3 := blk_cell z1 3
  have k4 := blk_cell z1 4
  have k5 := blk_cell z1 5
  have k6 := blk_cell z1 6
  have k7 := blk_cell z1 7
  have k8 := blk_cell z1 8
  have k9 := blk_cell z1 9
  have k10 := blk_cell z1 10
  have k11 := blk_cell z1 11
  have k12 := blk_cell z1 12
  have k13 := blk_cell z1 13
  have k14 := blk_cell z1 14
  simp only [List.getElem?_toArray, List.getElem?_cons_zero, List.getElem?_cons_succ] at k0 k1 k2 k3 k4 k5 k6 k7 k8 k9 k10 k11 k12 k13 k14
  clear z1
  refine two_boxes (n1 := 11) (n2 := 12) (n3 := 3) (n4 := 4) (v := .agg #[.int .u8 d0, .int .u8 d1, .int .u8 d2, .int .u8 d3, .int .u8 d4, .string y3, .string y4, .string y5, .string y6, .string y7, .string y8, .string y9, .string y10, .string y11, .string y12])
   (fun b3 b4 W => b3 ≠ b4 ∧ w2.heap.size < b3 ∧ w2.heap.size < b4 ∧ W.heap[w2.heap.size]? = some (.cells #[.int .u8 d0, .int .u8 d1, .int .u8 d2, .int .u8 d3, .int .u8 d4, .string y3, .string y4, .string y5, .string y6, .string y7, .string y8, .string y9, .string y10, .string y11, .string y12] 25 (0, 0)) ∧ W.heap[b3]? = some (.cells #[.int .u8 d0, .int .u8 d1, .int .u8 d2, .int .u8 d3, .int .u8 d4, .string y3, .string y4, .string y5, .string y6, .string y7, .string y8, .string y9, .string y10, .string y11, .string y12] 25 (0, 0)) ∧ W.heap[b4]? = some (.cells #[.int .u8 d0, .int .u8 d1, .int .u8 d2, .int .u8 d3, .int .u8 d4, .string y3, .string y4, .string y5, .string y6, .string y7, .string y8, .string y9, .string y10, .string y11, .string y12] 25 (0, 0)) ∧ Below w.heap.size w W) ?_ ?_
  ·(first | go_region_held3 (fun w' => w'.cell? ⟨w2.heap.size, 0, none⟩ = some (.int .u8 d0) ∧ w'.cell? ⟨w2.heap.size, 1, none⟩ = some (.int .u8 d1) ∧ w'.cell? ⟨w2.heap.size, 2, none⟩ = some (.int .u8 d2) ∧ w'.cell? ⟨w2.heap.size, 3, none⟩ = some (.int .u8 d3) ∧ w'.cell? ⟨w2.heap.size, 4, none⟩ = some (.int .u8 d4) ∧ w'.cell? ⟨w2.heap.size, 5, none⟩ = some (.string y3) ∧ w'.cell? ⟨w2.heap.size, 6, none⟩ = some (.string y4) ∧ w'.cell? ⟨w2.heap.size, 7, none⟩ = some (.string y5) ∧ w'.cell? ⟨w2.heap.size, 8, none⟩ = some (.string y6) ∧ w'.cell? ⟨w2.heap.size, 9, none⟩ = some (.string y7) ∧ w'.cell? ⟨w2.heap.size, 10, none⟩ = some (.string y8) ∧ w'.cell? ⟨w2.heap.size, 11, none⟩ = some (.string y9) ∧ w'.cell? ⟨w2.heap.size, 12, none⟩ = some (.string y10) ∧ w'.cell? ⟨w2.heap.size, 13, none⟩ = some (.string y11) ∧ w'.cell? ⟨w2.heap.size, 14, none⟩ = some (.string y12)) (first | exact ⟨cell_alloc_old _ k0, cell_alloc_old _ k1, cell_alloc_old _ k2, cell_alloc_old _ k3, cell_alloc_old _ k4, cell_alloc_old _ k5, cell_alloc_old _ k6, cell_alloc_old _ k7, cell_alloc_old _ k8, cell_alloc_old _ k9, cell_alloc_old _ k10, cell_alloc_old _ k11, cell_alloc_old _ k12, cell_alloc_old _ k13, cell_alloc_old _ k14⟩ | (refine ⟨?_, ?_, ?_, ?_, ?_, ?_, ?_, ?_, ?_, ?_, ?_, ?_, ?_, ?_, ?_⟩ <;> (repeat (first | exact k0 | exact k1 | exact k2 | exact k3 | exact k4 | exact k5 | exact k6 | exact k7 | exact k8 | exact k9 | exact k10 | exact k11 | exact k12 | exact k13 | exact k14 | refine cell_alloc_old _ ?_ | refine cell_far (by simp; omega) _ ?_)); done) | go_keep) (fail) | fail)
   ·have p2 := blk_drew (blk_alloc (blk_alloc (heap_new w2 (.cells #[.int .u8 d0, .int .u8 d1, .int .u8 d2, .int .u8 d3, .int .u8 d4, .string y3, .string y4, .string y5, .string y6, .string y7, .string y8, .string y9, .string y10, .string y11, .string y12] 25)) (.cells #[.int .u8 d0, .int .u8 d1, .int .u8 d2, .int .u8 d3, .int .u8 d4, .string y3, .string y4, .string y5, .string y6, .string y7, .string y8, .string y9, .string y10, .string y11, .string y12] 25)) (.cells #[.int .u8 d0, .int .u8 d1, .int .u8 d2, .int .u8 d3, .int .u8 d4, .string y3, .string y4, .string y5, .string y6, .string y7, .string y8, .string y9, .string y10, .string y11, .string y12] 25))
    have p3 := heap_new (w2.alloc (.cells #[.int .u8 d0, .int .u8 d1, .int .u8 d2, .int .u8 d3, .int .u8 d4, .string y3, .string y4, .string y5, .string y6, .string y7, .string y8, .string y9, .string y10, .string y11, .string y12] 25)) (.cells #[.int .u8 d0, .int .u8 d1, .int .u8 d2, .int .u8 d3, .int .u8 d4, .string y3, .string y4, .string y5, .string y6, .string y7, .string y8, .string y9, .string y10, .string y11, .string y12] 25)
    have p4 := heap_new ((w2.alloc (.cells #[.int .u8 d0, .int .u8 d1, .int .u8 d2, .int .u8 d3, .int .u8 d4, .string y3, .string y4, .string y5, .string y6, .string y7, .string y8, .string y9, .string y10, .string y11, .string y12] 25)).alloc (.cells #[.int .u8 d0, .int .u8 d1, .int .u8 d2, .int .u8 d3, .int .u8 d4, .string y3, .string y4, .string y5, .string y6, .string y7, .string y8, .string y9, .string y10, .string y11, .string y12] 25)) (.cells #[.int .u8 d0, .int .u8 d1, .int .u8 d2, .int .u8 d3, .int .u8 d4, .string y3, .string y4, .string y5, .string y6, .string y7, .string y8, .string y9, .string y10, .string y11, .string y12] 25)
    rw [World.size_alloc] at p3
    rw [World.size_alloc, World.size_alloc] at p4
    have p5 : Below w.heap.size w (((w2.alloc (.cells #[.int .u8 d0, .int .u8 d1, .int .u8 d2, .int .u8 d3, .int .u8 d4, .string y3, .string y4, .string y5, .string y6, .string y7, .string y8, .string y9, .string y10, .string y11, .string y12] 25)).alloc (.cells #[.int .u8 d0, .int .u8 d1, .int .u8 d2, .int .u8 d3, .int .u8 d4, .string y3, .string y4, .string y5, .string y6, .string y7, .string y8, .string y9, .string y10, .string y11, .string y12] 25)).alloc (.cells #[.int .u8 d0, .int .u8 d1, .int .u8 d2, .int .u8 d3, .int .u8 d4, .string y3, .string y4, .string y5, .string y6, .string y7, .string y8, .string y9, .string y10, .string y11, .string y12] 25)).drew := below_drew1 (((B2.out.alloc B2.out.size _).alloc (by have := B2.out.size; simp; omega) _).alloc (by have := B2.out.size; simp; omega) _)
    exact ⟨rfl, w2.heap.size + 1, w2.heap.size + 1 + 1, rfl, by omega, by omega, by omega, p2, blk_drew (blk_alloc p3 _), blk_drew p4, p5⟩
   ·have p2 := blk_drew (blk_alloc (blk_alloc (heap_new w2 (.cells #[.int .u8 d0, .int .u8 d1, .int .u8 d2, .int .u8 d3, .int .u8 d4, .string y3, .string y4, .string y5, .string y6, .string y7, .string y8, .string y9, .string y10, .string y11, .string y12] 25)) (.cells #[.int .u8 d0, .int .u8 d1, .int .u8 d2, .int .u8 d3, .int .u8 d4, .string y3, .string y4, .string y5, .string y6, .string y7, .string y8, .string y9, .string y10, .string y11, .string y12] 25)) (.cells #[.int .u8 d0, .int .u8 d1, .int .u8 d2, .int .u8 d3, .int .u8 d4, .string y3, .string y4, .string y5, .string y6, .string y7, .string y8, .string y9, .string y10, .string y11, .string y12] 25))
    have p3 := heap_new (w2.alloc (.cells #[.int .u8 d0, .int .u8 d1, .int .u8 d2, .int .u8 d3, .int .u8 d4, .string y3, .string y4, .string y5, .string y6, .string y7, .string y8, .string y9, .string y10, .string y11, .string y12] 25)) (.cells #[.int .u8 d0, .int .u8 d1, .int .u8 d2, .int .u8 d3, .int .u8 d4, .string y3, .string y4, .string y5, .string y6, .string y7, .string y8, .string y9, .string y10, .string y11, .string y12] 25)
    have p4 := heap_new ((w2.alloc (.cells #[.int .u8 d0, .int .u8 d1, .int .u8 d2, .int .u8 d3, .int .u8 d4, .string y3, .string y4, .string y5, .string y6, .string y7, .string y8, .string y9, .string y10, .string y11, .string y12] 25)).alloc (.cells #[.int .u8 d0, .int .u8 d1, .int .u8 d2, .int .u8 d3, .int .u8 d4, .string y3, .string y4, .string y5, .string y6, .string y7, .string y8, .string y9, .string y10, .string y11, .string y12] 25)) (.cells #[.int .u8 d0, .int .u8 d1, .int .u8 d2, .int .u8 d3, .int .u8 d4, .string y3, .string y4, .string y5, .string y6, .string y7, .string y8, .string y9, .string y10, .string y11, .string y12] 25)
    rw [World.size_alloc] at p3
    rw [World.size_alloc, World.size_alloc] at p4
    have p5 : Below w.heap.size w (((w2.alloc (.cells #[.int .u8 d0, .int .u8 d1, .int .u8 d2, .int .u8 d3, .int .u8 d4, .string y3, .string y4, .string y5, .string y6, .string y7, .string y8, .string y9, .string y10, .string y11, .string y12] 25)).alloc (.cells #[.int .u8 d0, .int .u8 d1, .int .u8 d2, .int .u8 d3, .int .u8 d4, .string y3, .string y4, .string y5, .string y6, .string y7, .string y8, .string y9, .string y10, .string y11, .string y12] 25)).alloc (.cells #[.int .u8 d0, .int .u8 d1, .int .u8 d2, .int .u8 d3, .int .u8 d4, .string y3, .string y4, .string y5, .string y6, .string y7, .string y8, .string y9, .string y10, .string y11, .string y12] 25)).drew := below_drew1 (((B2.out.alloc B2.out.size _).alloc (by have := B2.out.size; simp; omega) _).alloc (by have := B2.out.size; simp; omega) _)
    exact ⟨rfl, w2.heap.size + 1 + 1, w2.heap.size + 1, rfl, by omega, by omega, by omega, p2, blk_drew p4, blk_drew (blk_alloc p3 _), p5⟩
  ·rintro b3 b4 W ⟨hne, h3, h4, g1, g3, g4, gB⟩
   have s2 := B2.out.size
   clear B2 G1 k0 k1 k2 k3 k4 k5 k6 k7 k8 k9 k10 k11 k12 k13 k14
   have n3 : b3 ≠ w2.heap.size := by omega
   have n4 : b4 ≠ w2.heap.size := by omega
   have u3 := blk_cell g3 12
   have u4 := blk_cell g4 14
   have f3 := blk_frozen g3 12
   have f4 := blk_frozen g4 14
   simp only [List.getElem?_toArray, List.getElem?_cons_zero, List.getElem?_cons_succ] at u3 u4
   have v4 := cell_far (p := ⟨b3, 12, none⟩) (a := ⟨b4, 14, none⟩) hne (.string ⟨#[]⟩) u4
   have k0 := blk_cell g1 0
   have k1 := blk_cell g1 1
   have k2 := blk_cell g1 2
   have k3 := blk_cell g1 3
   have k4 := blk_cell g1 4
   have k5 := blk_cell g1 5
   have k6 := blk_cell g1 6
   have k7 := blk_cell g1 7
   have k8 := blk_cell g1 8
   have k9 := blk_cell g1 9
   have k10 := blk_cell g1 10
   have k11 := blk_cell g1 11
   have k12 := blk_cell g1 12
   have k13 := blk_cell g1 13
   have k14 := blk_cell g1 14
   simp only [List.getElem?_toArray, List.getElem?_cons_zero, List.getElem?_cons_succ] at k0 k1 k2 k3 k4 k5 k6 k7 k8 k9 k10 k11 k12 k13 k14
   replace k0 := cell_far (p := ⟨b4, 14, none⟩) (a := ⟨w2.heap.size, 0, none⟩) n4 (.string ⟨#[57]⟩) (cell_far (p := ⟨b3, 12, none⟩) (a := ⟨w2.heap.size, 0, none⟩) n3 (.string ⟨#[]⟩) k0)
   replace k1 := cell_far (p := ⟨b4, 14, none⟩) (a := ⟨w2.heap.size, 1, none⟩) n4 (.string ⟨#[57]⟩) (cell_far (p := ⟨b3, 12, none⟩) (a := ⟨w2.heap.size, 1, none⟩) n3 (.string ⟨#[]⟩) k1)
   replace k2 := cell_far (p := ⟨b4, 14, none⟩) (a := ⟨w2.heap.size, 2, none⟩) n4 (.string ⟨#[57]⟩) (cell_far (p := ⟨b3, 12, none⟩) (a := ⟨w2.heap.size, 2, none⟩) n3 (.string ⟨#[]⟩) k2)
   replace k3 := cell_far (p := ⟨b4, 14, none⟩) (a := ⟨w2.heap.size, 3, none⟩) n4 (.string ⟨#[57]⟩) (cell_far (p := ⟨b3, 12, none⟩) (a := ⟨w2.heap.size, 3, none⟩) n3 (.string ⟨#[]⟩) k3)
   replace k4 := cell_far (p := ⟨b4, 14, none⟩) (a := ⟨w2.heap.size, 4, none⟩) n4 (.string ⟨#[57]⟩) (cell_far (p := ⟨b3, 12, none⟩) (a := ⟨w2.heap.size, 4, none⟩) n3 (.string ⟨#[]⟩) k4)
   replace k5 := cell_far (p := ⟨b4, 14, none⟩) (a := ⟨w2.heap.size, 5, none⟩) n4 (.string ⟨#[57]⟩) (cell_far (p := ⟨b3, 12, none⟩) (a := ⟨w2.heap.size, 5, none⟩) n3 (.string ⟨#[]⟩) k5)
   replace k6 := cell_far (p := ⟨b4, 14, none⟩) (a := ⟨w2.heap.size, 6, none⟩) n4 (.string ⟨#[57]⟩) (cell_far (p := ⟨b3, 12, none⟩) (a := ⟨w2.heap.size, 6, none⟩) n3 (.string ⟨#[]⟩) k6)
   replace k7 := cell_far (p := ⟨b4, 14, none⟩) (a := ⟨w2.heap.size, 7, none⟩) n4 (.string ⟨#[57]⟩) (cell_far (p := ⟨b3, 12, none⟩) (a := ⟨w2.heap.size, 7, none⟩) n3 (.string ⟨#[]⟩) k7)
   replace k8 := cell_far (p := ⟨b4, 14, none⟩) (a := ⟨w2.heap.size, 8, none⟩) n4 (.string ⟨#[57]⟩) (cell_far (p := ⟨b3, 12, none⟩) (a := ⟨w2.heap.size, 8, none⟩) n3 (.string ⟨#[]⟩) k8)
   replace k9 := cell_far (p := ⟨b4, 14, none⟩) (a := ⟨w2.heap.size, 9, none⟩) n4 (.string ⟨#[57]⟩) (cell_far (p := ⟨b3, 12, none⟩) (a := ⟨w2.heap.size, 9, none⟩) n3 (.string ⟨#[]⟩) k9)
   replace k10 := cell_far (p := ⟨b4, 14, none⟩) (a := ⟨w2.heap.size, 10, none⟩) n4 (.string ⟨#[57]⟩) (cell_far (p := ⟨b3, 12, none⟩) (a := ⟨w2.heap.size, 10, none⟩) n3 (.string ⟨#[]⟩) k10)
   replace k11 := cell_far (p := ⟨b4, 14, none⟩) (a := ⟨w2.heap.size, 11, none⟩) n4 (.string ⟨#[57]⟩) (cell_far (p := ⟨b3, 12, none⟩) (a := ⟨w2.heap.size, 11, none⟩) n3 (.string ⟨#[]⟩) k11)
   replace k12 := cell_far (p := ⟨b4, 14, none⟩) (a := ⟨w2.heap.size, 12, none⟩) n4 (.string ⟨#[57]⟩) (cell_far (p := ⟨b3, 12, none⟩) (a := ⟨w2.heap.size, 12, none⟩) n3 (.string ⟨#[]⟩) k12)
   replace k13 := cell_far (p := ⟨b4, 14, none⟩) (a := ⟨w2.heap.size, 13, none⟩) n4 (.string ⟨#[57]⟩) (cell_far (p := ⟨b3, 12, none⟩) (a := ⟨w2.heap.size, 13, none⟩) n3 (.string ⟨#[]⟩) k13)
   replace k14 := cell_far (p := ⟨b4, 14, none⟩) (a := ⟨w2.heap.size, 14, none⟩) n4 (.string ⟨#[57]⟩) (cell_far (p := ⟨b3, 12, none⟩) (a := ⟨w2.heap.size, 14, none⟩) n3 (.string ⟨#[]⟩) k14)
   have r1 := blk_far (blk_far g1 (p := ⟨b3, 12, none⟩) (Ne.symm n3) (.string ⟨#[]⟩)) (p := ⟨b4, 14, none⟩) (Ne.symm n4) (.string ⟨#[57]⟩)
   have r3 := blk_far (blk_put (cs' := #[.int .u8 d0, .int .u8 d1, .int .u8 d2, .int .u8 d3, .int .u8 d4, .string y3, .string y4, .string y5, .string y6, .string y7, .string y8, .string y9, .string ⟨#[]⟩, .string y11, .string y12]) g3 12 (.string ⟨#[]⟩) rfl) (p := ⟨b4, 14, none⟩) hne (.string ⟨#[57]⟩)
   have r4 := blk_put (cs' := #[.int .u8 d0, .int .u8 d1, .int .u8 d2, .int .u8 d3, .int .u8 d4, .string y3, .string y4, .string y5, .string y6, .string y7, .string y8, .string y9, .string y10, .string y11, .string ⟨#[57]⟩]) (blk_far g4 (p := ⟨b3, 12, none⟩) (Ne.symm hne) (.string ⟨#[]⟩)) 14 (.string ⟨#[57]⟩) rfl
   have rB := below_set (g := b4) (j := 14) (v := .string ⟨#[57]⟩) (below_set (g := b3) (j := 12) (v := .string ⟨#[]⟩) gB (by omega)) (by omega)
   have R3 := Lib.hid r3
   have R4 := Lib.hid r4
   have RB := Lib.hid rB
   clear r1 r3 r4 rB g1 g3 g4 gB
   simp only [Act.put, sA_, s0_, s1_]
   go_wp2_with fail
   with_reducible refine (msh_Check.calls k d0 d1 d2 d3 d4 y3 y4 y5 y6 y7 y8 y9 y10 y11 y12 0 _ HA.out (glob_below HG.out RB.out)).mono ?_
   rintro e w3 ⟨rfl, hb3⟩
   have S3 := Lib.hid (blk_below R3.out hb3)
   have S4 := Lib.hid (blk_below R4.out hb3)
   have SB := Lib.hid (below_step RB.out hb3)
   clear hb3 R3 R4 RB u3 u4 f3 f4 v4 k0 k1 k2 k3 k4 k5 k6 k7 k8 k9 k10 k11 k12 k13 k14
   have k0 := blk_cell S3.out 0
   have k1 := blk_cell S3.out 1
   have k2 := blk_cell S3.out 2
   have k3 := blk_cell S3.out 3
   have k4 := blk_cell S3.out 4
   have k5 := blk_cell S3.out 5
   have k6 := blk_cell S3.out 6
   have k7 := blk_cell S3.out 7
   have k8 := blk_cell S3.out 8
   have k9 := blk_cell S3.out 9
   have k10 := blk_cell S3.out 10
   have k11 := blk_cell S3.out 11
   have k12 := blk_cell S3.out 12
   have k13 := blk_cell S3.out 13
   have k14 := blk_cell S3.out 14
   simp only [List.getElem?_toArray, List.getElem?_cons_zero, List.getElem?_cons_succ] at k0 k1 k2 k3 k4 k5 k6 k7 k8 k9 k10 k11 k12 k13 k14
   go_wp2_with fail
   with_reducible refine (msh_Check.calls k d0 d1 d2 d3 d4 y3 y4 y5 y6 y7 y8 y9 ⟨#[]⟩ y11 y12 14 _ HB.out (glob_below HG.out SB.out)).mono ?_
   rintro e w4 ⟨rfl, hb4⟩
   have T4 := Lib.hid (blk_below S4.out hb4)
   have TB := Lib.hid (below_step SB.out hb4)
   clear hb4 S3 S4 SB k0 k1 k2 k3 k4 k5 k6 k7 k8 k9 k10 k11 k12 k13 k14
   have k0 := blk_cell T4.out 0
   have k1 := blk_cell T4.out 1
   have k2 := blk_cell T4.out 2
   have k3 := blk_cell T4.out 3
   have k4 := blk_cell T4.out 4
   have k5 := blk_cell T4.out 5
   have k6 := blk_cell T4.out 6
   have k7 := blk_cell T4.out 7
   have k8 := blk_cell T4.out 8
   have k9 := blk_cell T4.out 9
   have k10 := blk_cell T4.out 10
   have k11 := blk_cell T4.out 11
   have k12 := blk_cell T4.out 12
   have k13 := blk_cell T4.out 13
   have k14 := blk_cell T4.out 14
   simp only [List.getElem?_toArray, List.getElem?_cons_zero, List.getElem?_cons_succ] at k0 k1 k2 k3 k4 k5 k6 k7 k8 k9 k10 k11 k12 k13 k14
   go_wp2_with fail
   with_reducible refine (msh_Check.calls k d0 d1 d2 d3 d4 y3 y4 y5 y6 y7 y8 y9 y10 y11 ⟨#[57]⟩ 12 _ HC.out (glob_below HG.out TB.out)).mono ?_
   rintro e w5 ⟨rfl, hb5⟩
   have UB := below_step TB.out hb5
   clear hb5 T4 TB k0 k1 k2 k3 k4 k5 k6 k7 k8 k9 k10 k11 k12 k13 k14
   go_wp2_with fail
   exact bodyPost_ret (v := .bool true) (by simp [results, Tryd.results5, go_sem]) rfl ⟨rfl, UB⟩
end


end Go.Proofs.YteaehlkpghpnkaaDoor.PH
