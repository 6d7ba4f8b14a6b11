-- Written by a program of this work (the kit's print, with contracts of this work's own taken in) out of the translation. Not trusted: Lean checks it.
import Derived.Test.YtcjcaojgminjpaaDoorPAx0
import Derived.Test.YtcjcaojgminjpaaDoorPAx2
import Derived.Test.YtcjcaojgminjpaaDoorPAx6
import Derived.Test.YtcjcaojgminjpaaDoorPAx8
import Derived.Test.YtcjcaojgminjpaaDoorPAx14
import Derived.Test.YtcjcaojgminjpaaDoorPAx15
import Derived.Test.YtcjcaojgminjpaaDoorConvApp
namespace Go.Proofs.YtcjcaojgminjpaaDoor.PA
open Go.RowKit Go.Proofs.YtcjcaojgminjpaaDoorW.PrintWords Go.Proofs.YtcjcaojgminjpaaDoorW.PrintLast Go.Proofs.YtcjcaojgminjpaaDoorW.PrintMore
attribute [local go_sem] max2_int min2_int max_two min_two max_three min_three max_four min_four   -- for this text's walks alone
set_option linter.unusedVariables false
set_option linter.unusedSimpArgs false

attribute [local go_sem high] eqA25
/-! ### lamplighterlaw09_MshBack: function 8 -/
def lamplighterlaw09_MshBack.j0 : Nat → List Int → Bool → Int → Int → Int → Int → Int → ByteArray → ByteArray → ByteArray → ByteArray → ByteArray → ByteArray → ByteArray → ByteArray → ByteArray → ByteArray → Option (Bool)
  | 0, _, _, _, _, _, _, _, _, _, _, _, _, _, _, _, _, _ => none
  | k + 1, x1, x15, x273000, x273001, x273002, x273003, x273004, x273005, x273006, x273007, x273008, x273009, x273010, x273011, x273012, x273013, x273014 => if x15 = true then ((lamplighterlaw09_alive.f k).bind fun t274 => (some t274)) else ((msh_Write.f k x273000 x273001 x273002 x273003 x273004 x273005 x273006 x273007 x273008 x273009 x273010 x273011 x273012 x273013 x273014).bind fun bt275 => (if bt275.2 = 0 then (if bt275.1.size + 1 ≤ 9223372036854775807 then ((cv_app.f (bt275.1 ++ (⟨#[13]⟩ : ByteArray)) x1).bind fun t277 => ((msh_Read.f k t277).bind fun bt280 => ((lamplighterlaw09_alive.f k).bind fun t297 => (if t297 = true then (if bt280.2.2.2.2.2.2.2.2.2.2.2.2.2.2.2 = 0 then (some ((bt280.1 == x273000 && (bt280.2.1 == x273001 && (bt280.2.2.1 == x273002 && (bt280.2.2.2.1 == x273003 && (bt280.2.2.2.2.1 == x273004))))) && (bt280.2.2.2.2.2.1.toList == x273005.toList && (bt280.2.2.2.2.2.2.1.toList == x273006.toList && (bt280.2.2.2.2.2.2.2.1.toList == x273007.toList && (bt280.2.2.2.2.2.2.2.2.1.toList == x273008.toList && (bt280.2.2.2.2.2.2.2.2.2.1.toList == x273009.toList && (bt280.2.2.2.2.2.2.2.2.2.2.1.toList == x273010.toList && (bt280.2.2.2.2.2.2.2.2.2.2.2.1.toList == x273011.toList && (bt280.2.2.2.2.2.2.2.2.2.2.2.2.1.toList == x273012.toList && (bt280.2.2.2.2.2.2.2.2.2.2.2.2.2.1.toList == x273013.toList && (bt280.2.2.2.2.2.2.2.2.2.2.2.2.2.2.1.toList == x273014.toList)))))))))))) else (some false)) else (some false))))) else (none)) else ((lamplighterlaw09_alive.f k).bind fun t298 => (if t298 = true then (if bt275.1.toList = ([] : List UInt8) then (if bt275.2 = 11 then (some true) else (some (bt275.2 == 10))) else (some false)) else (some false)))))
def lamplighterlaw09_MshBack.f (k : Nat) (a0_0 : Int) (a0_1 : Int) (a0_2 : Int) (a0_3 : Int) (a0_4 : Int) (a0_5 : ByteArray) (a0_6 : ByteArray) (a0_7 : ByteArray) (a0_8 : ByteArray) (a0_9 : ByteArray) (a0_10 : ByteArray) (a0_11 : ByteArray) (a0_12 : ByteArray) (a0_13 : ByteArray) (a0_14 : ByteArray) (l1 : List Int) : Option (Bool) := (lamplighterlaw09_great.f a0_0 a0_1 a0_2 a0_3 a0_4 a0_5 a0_6 a0_7 a0_8 a0_9 a0_10 a0_11 a0_12 a0_13 a0_14).bind fun t273 => (if t273 = true then (lamplighterlaw09_MshBack.j0 k l1 true a0_0 a0_1 a0_2 a0_3 a0_4 a0_5 a0_6 a0_7 a0_8 a0_9 a0_10 a0_11 a0_12 a0_13 a0_14) else (lamplighterlaw09_MshBack.j0 k l1 (decide ((l1.length : Int) > 1000)) a0_0 a0_1 a0_2 a0_3 a0_4 a0_5 a0_6 a0_7 a0_8 a0_9 a0_10 a0_11 a0_12 a0_13 a0_14))
theorem lamplighterlaw09_MshBack.mono_l : ∀ k, (∀ y0 y1 y2 y3 y4 y5 y6 y7 y8 y9 y10 y11 y12 y13 y14 y15 y16, LeO (lamplighterlaw09_MshBack.j0 k y0 y1 y2 y3 y4 y5 y6 y7 y8 y9 y10 y11 y12 y13 y14 y15 y16) (lamplighterlaw09_MshBack.j0 (k + 1) y0 y1 y2 y3 y4 y5 y6 y7 y8 y9 y10 y11 y12 y13 y14 y15 y16))
  | 0 => fun _ _ _ _ _ _ _ _ _ _ _ _ _ _ _ _ _ r h => by simp [lamplighterlaw09_MshBack.j0] at h
  | k + 1 => by
    have ih0 := lamplighterlaw09_MshBack.mono_l k
    · intro y0 y1 y2 y3 y4 y5 y6 y7 y8 y9 y10 y11 y12 y13 y14 y15 y16
      unfold lamplighterlaw09_MshBack.j0
      repeat' first
      | (with_reducible exact ih0 _ _ _ _ _ _ _ _ _ _ _ _ _ _ _ _ _)
      | (with_reducible exact lamplighterlaw09_alive.mono _)
      | (with_reducible exact msh_Read.mono _ _)
      | (with_reducible exact msh_Write.mono _ _ _ _ _ _ _ _ _ _ _ _ _ _ _ _)
      | (with_reducible exact LeO.refl _)
      | (with_reducible exact LeO.none _)
      | (with_reducible refine LeO.ite ?_ ?_)
      | (with_reducible refine LeO.bind ?_ (fun _ => ?_))
      | exact ih0 _ _ _ _ _ _ _ _ _ _ _ _ _ _ _ _ _
      | exact lamplighterlaw09_alive.mono _
      | exact msh_Read.mono _ _
      | exact msh_Write.mono _ _ _ _ _ _ _ _ _ _ _ _ _ _ _ _
      | exact LeO.none _
      | refine LeO.ite ?_ ?_
      | refine LeO.bind ?_ (fun _ => ?_)
theorem lamplighterlaw09_MshBack.mono : ∀ a0 a1 a2 a3 a4 a5 a6 a7 a8 a9 a10 a11 a12 a13 a14 a15 k, LeO (lamplighterlaw09_MshBack.f k a0 a1 a2 a3 a4 a5 a6 a7 a8 a9 a10 a11 a12 a13 a14 a15) (lamplighterlaw09_MshBack.f (k + 1) a0 a1 a2 a3 a4 a5 a6 a7 a8 a9 a10 a11 a12 a13 a14 a15) := by
  intro a0 a1 a2 a3 a4 a5 a6 a7 a8 a9 a10 a11 a12 a13 a14 a15 k
  have ih0 := lamplighterlaw09_MshBack.mono_l k
  unfold lamplighterlaw09_MshBack.f
  repeat' first
      | (with_reducible exact ih0 _ _ _ _ _ _ _ _ _ _ _ _ _ _ _ _ _)
      | (with_reducible exact lamplighterlaw09_alive.mono _)
      | (with_reducible exact msh_Read.mono _ _)
      | (with_reducible exact msh_Write.mono _ _ _ _ _ _ _ _ _ _ _ _ _ _ _ _)
      | (with_reducible exact LeO.refl _)
      | (with_reducible exact LeO.none _)
      | (with_reducible refine LeO.ite ?_ ?_)
      | (with_reducible refine LeO.bind ?_ (fun _ => ?_))
      | exact ih0 _ _ _ _ _ _ _ _ _ _ _ _ _ _ _ _ _
      | exact lamplighterlaw09_alive.mono _
      | exact msh_Read.mono _ _
      | exact msh_Write.mono _ _ _ _ _ _ _ _ _ _ _ _ _ _ _ _
      | exact LeO.none _
      | refine LeO.ite ?_ ?_
      | refine LeO.bind ?_ (fun _ => ?_)
set_option maxHeartbeats 8000000 in
set_option maxRecDepth 100000 in
theorem lamplighterlaw09_MshBack.calls (k : Nat) (a0_0 : Int) (a0_1 : Int) (a0_2 : Int) (a0_3 : Int) (a0_4 : Int) (a0_5 : ByteArray) (a0_6 : ByteArray) (a0_7 : ByteArray) (a0_8 : ByteArray) (a0_9 : ByteArray) (a0_10 : ByteArray) (a0_11 : ByteArray) (a0_12 : ByteArray) (a0_13 : ByteArray) (a0_14 : ByteArray) (A1 : Option Addr) (c1 : Nat) (l1 : List Int) (r : Bool) (w : World) (hr1 : Kd.C (Kd.int .u8) w A1 l1.length l1) (hc1 : l1.length ≤ c1) (h : lamplighterlaw09_MshBack.f k a0_0 a0_1 a0_2 a0_3 a0_4 a0_5 a0_6 a0_7 a0_8 a0_9 a0_10 a0_11 a0_12 a0_13 a0_14 l1 = some r) (hrt : r = true) (hG : GlobOK w) :
    Calls Tryd.prog 8 #[.agg #[.int .u8 a0_0, .int .u8 a0_1, .int .u8 a0_2, .int .u8 a0_3, .int .u8 a0_4, .string a0_5, .string a0_6, .string a0_7, .string a0_8, .string a0_9, .string a0_10, .string a0_11, .string a0_12, .string a0_13, .string a0_14], .slice A1 l1.length c1] w fun e w' => e = .returned (.bool r) ∧ Below w.heap.size w w' := by
  have HGLOB := Lib.hid hG
  clear hG
  have hu25 := Tryd.underlying25
  have HR1 := Aside0.mk hr1
  have HC1 := Aside0.mk hc1
  clear hr1 hc1
  have HB := Aside0.mk (Below.refl w.heap.size w)
  have H : ((lamplighterlaw09_great.f a0_0 a0_1 a0_2 a0_3 a0_4 a0_5 a0_6 a0_7 a0_8 a0_9 a0_10 a0_11 a0_12 a0_13 a0_14).bind fun t273 => (if t273 = true then (lamplighterlaw09_MshBack.j0 k l1 true a0_0 a0_1 a0_2 a0_3 a0_4 a0_5 a0_6 a0_7 a0_8 a0_9 a0_10 a0_11 a0_12 a0_13 a0_14) else (lamplighterlaw09_MshBack.j0 k l1 (decide ((l1.length : Int) > 1000)) a0_0 a0_1 a0_2 a0_3 a0_4 a0_5 a0_6 a0_7 a0_8 a0_9 a0_10 a0_11 a0_12 a0_13 a0_14))) = some r := h
  clear h
  have HC3 := Aside0.mk H
  clear H
  go_enter Tryd.func8, Tryd.ntmps8
  go_upto_region 1 with (first | ((with_reducible refine gate_dst (N := 2) rfl ?_); (try (refine gate_guard (by rfl) ?_; dsimp only)); refine box_event ?hg (N := 2) ?hd (cs := #[.int .u8 a0_0, .int .u8 a0_1, .int .u8 a0_2, .int .u8 a0_3, .int .u8 a0_4, .string a0_5, .string a0_6, .string a0_7, .string a0_8, .string a0_9, .string a0_10, .string a0_11, .string a0_12, .string a0_13, .string a0_14]) (t := 25) ?hr ?_; (case hd => rfl); (case hg => rfl); (case hr => first | (go_simp; done) | (go_simp; rfl)); intro gb272 hg w4 hbox hb; have n0_ := Aside0.mk (below_step (by repeat (first | (with_reducible first | exact HB.out | apply below_alloc | apply pw_below_drewN | apply below_drew1) | exact HB.out)) hb); have n1_ := Aside0.mk (hbox); have n2_ := Aside0.mk ((by rw [hg]; exact (below_size (by repeat (first | (with_reducible first | exact HB.out | apply below_alloc | apply pw_below_drewN | apply below_drew1) | exact HB.out))) : w.heap.size ≤ gb272)); have n3_ := Aside0.mk ((by rw [hg]; exact (below_size (by repeat (first | (with_reducible first | exact HB.out | apply below_alloc | apply pw_below_drewN | apply below_drew1) | exact HB.out))) : w.heap.size ≤ gb272)); clear HB; have HB := n0_; have BK272 := n1_; have GW272 := n2_; have GE272 := n3_; clear n0_ n1_ n2_ n3_; clear hb hbox hg))
  (try simp only [Act.put, List.setIfInBounds_toArray, List.set_cons_zero, List.set_cons_succ])
  go_cut [15] (fun v15 wc => ∃ (kq : Nat) (x15_2 : Bool), v15 = .bool x15_2 ∧ Aside0 (lamplighterlaw09_MshBack.j0 kq l1 x15_2 a0_0 a0_1 a0_2 a0_3 a0_4 a0_5 a0_6 a0_7 a0_8 a0_9 a0_10 a0_11 a0_12 a0_13 a0_14 = some r) ∧ Aside0 (kq ≤ k) ∧ Aside0 (wc.heap[gb272]? = some (.cells #[.int .u8 a0_0, .int .u8 a0_1, .int .u8 a0_2, .int .u8 a0_3, .int .u8 a0_4, .string a0_5, .string a0_6, .string a0_7, .string a0_8, .string a0_9, .string a0_10, .string a0_11, .string a0_12, .string a0_13, .string a0_14] 25 (0, 0))) ∧ Aside0 (Below w.heap.size w wc))
  case first =>
    have H := HC3.out
    clear HC3
    replace H := Option.bind_eq_some_iff.mp H
    obtain ⟨t273, A50, H⟩ := H
    replace H : (if t273 = true then (lamplighterlaw09_MshBack.j0 k l1 true a0_0 a0_1 a0_2 a0_3 a0_4 a0_5 a0_6 a0_7 a0_8 a0_9 a0_10 a0_11 a0_12 a0_13 a0_14) else (lamplighterlaw09_MshBack.j0 k l1 (decide ((l1.length : Int) > 1000)) a0_0 a0_1 a0_2 a0_3 a0_4 a0_5 a0_6 a0_7 a0_8 a0_9 a0_10 a0_11 a0_12 a0_13 a0_14)) = some r := H
    have A5 := Aside0.mk A50
    clear A50
    by_cases c6 : t273 = true
    · subst c6
      have H1 : (lamplighterlaw09_MshBack.j0 k l1 true a0_0 a0_1 a0_2 a0_3 a0_4 a0_5 a0_6 a0_7 a0_8 a0_9 a0_10 a0_11 a0_12 a0_13 a0_14) = some r := by rw [if_pos rfl] at H; exact H
      clear H
      have H := H1
      clear H1
      have H' := Aside0.mk H
      clear H
      have hcz7_0 : w4.cell? ⟨gb272, 0, none⟩ = some (.int .u8 a0_0) := (blk_cell BK272.out 0).trans rfl
      have hcz7_1 : w4.cell? ⟨gb272, 1, none⟩ = some (.int .u8 a0_1) := (blk_cell BK272.out 1).trans rfl
      have hcz7_2 : w4.cell? ⟨gb272, 2, none⟩ = some (.int .u8 a0_2) := (blk_cell BK272.out 2).trans rfl
      have hcz7_3 : w4.cell? ⟨gb272, 3, none⟩ = some (.int .u8 a0_3) := (blk_cell BK272.out 3).trans rfl
      have hcz7_4 : w4.cell? ⟨gb272, 4, none⟩ = some (.int .u8 a0_4) := (blk_cell BK272.out 4).trans rfl
      have hcz7_5 : w4.cell? ⟨gb272, 5, none⟩ = some (.string a0_5) := (blk_cell BK272.out 5).trans rfl
      have hcz7_6 : w4.cell? ⟨gb272, 6, none⟩ = some (.string a0_6) := (blk_cell BK272.out 6).trans rfl
      have hcz7_7 : w4.cell? ⟨gb272, 7, none⟩ = some (.string a0_7) := (blk_cell BK272.out 7).trans rfl
      have hcz7_8 : w4.cell? ⟨gb272, 8, none⟩ = some (.string a0_8) := (blk_cell BK272.out 8).trans rfl
      have hcz7_9 : w4.cell? ⟨gb272, 9, none⟩ = some (.string a0_9) := (blk_cell BK272.out 9).trans rfl
      have hcz7_10 : w4.cell? ⟨gb272, 10, none⟩ = some (.string a0_10) := (blk_cell BK272.out 10).trans rfl
      have hcz7_11 : w4.cell? ⟨gb272, 11, none⟩ = some (.string a0_11) := (blk_cell BK272.out 11).trans rfl
      have hcz7_12 : w4.cell? ⟨gb272, 12, none⟩ = some (.string a0_12) := (blk_cell BK272.out 12).trans rfl
      have hcz7_13 : w4.cell? ⟨gb272, 13, none⟩ = some (.string a0_13) := (blk_cell BK272.out 13).trans rfl
      have hcz7_14 : w4.cell? ⟨gb272, 14, none⟩ = some (.string a0_14) := (blk_cell BK272.out 14).trans rfl
      have hfz7_0 := blk_frozen BK272.out 0
      have hfz7_1 := blk_frozen BK272.out 1
      have hfz7_2 := blk_frozen BK272.out 2
      have hfz7_3 := blk_frozen BK272.out 3
      have hfz7_4 := blk_frozen BK272.out 4
      have hfz7_5 := blk_frozen BK272.out 5
      have hfz7_6 := blk_frozen BK272.out 6
      have hfz7_7 := blk_frozen BK272.out 7
      have hfz7_8 := blk_frozen BK272.out 8
      have hfz7_9 := blk_frozen BK272.out 9
      have hfz7_10 := blk_frozen BK272.out 10
      have hfz7_11 := blk_frozen BK272.out 11
      have hfz7_12 := blk_frozen BK272.out 12
      have hfz7_13 := blk_frozen BK272.out 13
      have hfz7_14 := blk_frozen BK272.out 14
      go_wp2_with (first | ((with_reducible refine gate_callee (f := 22) rfl ?_); refine goesL_ (some 10) rfl rfl Tryd.func22 (by kernel_rfl) rfl #[.agg #[.int .u8 a0_0, .int .u8 a0_1, .int .u8 a0_2, .int .u8 a0_3, .int .u8 a0_4, .string a0_5, .string a0_6, .string a0_7, .string a0_8, .string a0_9, .string a0_10, .string a0_11, .string a0_12, .string a0_13, .string a0_14]] rfl (by (try simp only [List.map_toArray, List.map_cons, List.map_nil]); first | done | rfl | (simp only [List.length_drop, List.length_take]; rfl)) ?_; (with_reducible refine (lamplighterlaw09_great.calls a0_0 a0_1 a0_2 a0_3 a0_4 a0_5 a0_6 a0_7 a0_8 a0_9 a0_10 a0_11 a0_12 a0_13 a0_14 true _ A5.out).mono ?_); rintro e w8 ⟨rfl, hb⟩; refine ⟨_, rfl, ?_⟩; have n0_ := Aside0.mk (blk_below (g := gb272) (o := .cells #[.int .u8 a0_0, .int .u8 a0_1, .int .u8 a0_2, .int .u8 a0_3, .int .u8 a0_4, .string a0_5, .string a0_6, .string a0_7, .string a0_8, .string a0_9, .string a0_10, .string a0_11, .string a0_12, .string a0_13, .string a0_14] 25 (0, 0)) (by (with_reducible repeat (first | refine blk_drewN ?_ _ | refine blk_drew ?_ | refine blk_alloc ?_ _)); exact BK272.out) hb); have n1_ := Aside0.mk (below_step (by repeat (first | (with_reducible first | exact HB.out | apply below_alloc | apply pw_below_drewN | apply below_drew1 | refine below_set ?_ GE272.out) | exact HB.out)) hb); clear BK272; clear HB; have BK272 := n0_; have HB := n1_; clear n0_ n1_; (try clear hb); (try clear hb2); (try clear hk); (try clear hi)))
      go_meet
      case rel => exact ⟨_, (true), (by first | rfl | (simp; done) | (simp [*]; done)), H', ⟨by first | omega | exact Nat.le_refl _⟩, ⟨by (with_reducible repeat (first | refine blk_drewN ?_ _ | refine blk_drew ?_ | refine blk_alloc ?_ _)); exact BK272.out⟩, ⟨by repeat (first | (with_reducible first | exact HB.out | apply below_alloc | apply pw_below_drewN | apply below_drew1 | refine below_set ?_ GE272.out) | exact HB.out)⟩⟩
    · replace c6 := Bool.eq_false_iff.mpr c6
      subst c6
      have H1 : (lamplighterlaw09_MshBack.j0 k l1 (decide ((l1.length : Int) > 1000)) a0_0 a0_1 a0_2 a0_3 a0_4 a0_5 a0_6 a0_7 a0_8 a0_9 a0_10 a0_11 a0_12 a0_13 a0_14) = some r := by rw [if_neg (show ¬ (false = true) by decide)] at H; exact H
      clear H
      have H := H1
      clear H1
      have H' := Aside0.mk H
      clear H
      have hcz9_0 : w4.cell? ⟨gb272, 0, none⟩ = some (.int .u8 a0_0) := (blk_cell BK272.out 0).trans rfl
      have hcz9_1 : w4.cell? ⟨gb272, 1, none⟩ = some (.int .u8 a0_1) := (blk_cell BK272.out 1).trans rfl
      have hcz9_2 : w4.cell? ⟨gb272, 2, none⟩ = some (.int .u8 a0_2) := (blk_cell BK272.out 2).trans rfl
      have hcz9_3 : w4.cell? ⟨gb272, 3, none⟩ = some (.int .u8 a0_3) := (blk_cell BK272.out 3).trans rfl
      have hcz9_4 : w4.cell? ⟨gb272, 4, none⟩ = some (.int .u8 a0_4) := (blk_cell BK272.out 4).trans rfl
      have hcz9_5 : w4.cell? ⟨gb272, 5, none⟩ = some (.string a0_5) := (blk_cell BK272.out 5).trans rfl
      have hcz9_6 : w4.cell? ⟨gb272, 6, none⟩ = some (.string a0_6) := (blk_cell BK272.out 6).trans rfl
      have hcz9_7 : w4.cell? ⟨gb272, 7, none⟩ = some (.string a0_7) := (blk_cell BK272.out 7).trans rfl
      have hcz9_8 : w4.cell? ⟨gb272, 8, none⟩ = some (.string a0_8) := (blk_cell BK272.out 8).trans rfl
      have hcz9_9 : w4.cell? ⟨gb272, 9, none⟩ = some (.string a0_9) := (blk_cell BK272.out 9).trans rfl
      have hcz9_10 : w4.cell? ⟨gb272, 10, none⟩ = some (.string a0_10) := (blk_cell BK272.out 10).trans rfl
      have hcz9_11 : w4.cell? ⟨gb272, 11, none⟩ = some (.string a0_11) := (blk_cell BK272.out 11).trans rfl
      have hcz9_12 : w4.cell? ⟨gb272, 12, none⟩ = some (.string a0_12) := (blk_cell BK272.out 12).trans rfl
      have hcz9_13 : w4.cell? ⟨gb272, 13, none⟩ = some (.string a0_13) := (blk_cell BK272.out 13).trans rfl
      have hcz9_14 : w4.cell? ⟨gb272, 14, none⟩ = some (.string a0_14) := (blk_cell BK272.out 14).trans rfl
      have hfz9_0 := blk_frozen BK272.out 0
      have hfz9_1 := blk_frozen BK272.out 1
      have hfz9_2 := blk_frozen BK272.out 2
      have hfz9_3 := blk_frozen BK272.out 3
      have hfz9_4 := blk_frozen BK272.out 4
      have hfz9_5 := blk_frozen BK272.out 5
      have hfz9_6 := blk_frozen BK272.out 6
      have hfz9_7 := blk_frozen BK272.out 7
      have hfz9_8 := blk_frozen BK272.out 8
      have hfz9_9 := blk_frozen BK272.out 9
      have hfz9_10 := blk_frozen BK272.out 10
      have hfz9_11 := blk_frozen BK272.out 11
      have hfz9_12 := blk_frozen BK272.out 12
      have hfz9_13 := blk_frozen BK272.out 13
      have hfz9_14 := blk_frozen BK272.out 14
      go_wp2_with (first | ((with_reducible refine gate_callee (f := 22) rfl ?_); refine goesL_ (some 10) rfl rfl Tryd.func22 (by kernel_rfl) rfl #[.agg #[.int .u8 a0_0, .int .u8 a0_1, .int .u8 a0_2, .int .u8 a0_3, .int .u8 a0_4, .string a0_5, .string a0_6, .string a0_7, .string a0_8, .string a0_9, .string a0_10, .string a0_11, .string a0_12, .string a0_13, .string a0_14]] rfl (by (try simp only [List.map_toArray, List.map_cons, List.map_nil]); first | done | rfl | (simp only [List.length_drop, List.length_take]; rfl)) ?_; (with_reducible refine (lamplighterlaw09_great.calls a0_0 a0_1 a0_2 a0_3 a0_4 a0_5 a0_6 a0_7 a0_8 a0_9 a0_10 a0_11 a0_12 a0_13 a0_14 false _ A5.out).mono ?_); rintro e w10 ⟨rfl, hb⟩; refine ⟨_, rfl, ?_⟩; have n0_ := Aside0.mk (blk_below (g := gb272) (o := .cells #[.int .u8 a0_0, .int .u8 a0_1, .int .u8 a0_2, .int .u8 a0_3, .int .u8 a0_4, .string a0_5, .string a0_6, .string a0_7, .string a0_8, .string a0_9, .string a0_10, .string a0_11, .string a0_12, .string a0_13, .string a0_14] 25 (0, 0)) (by (with_reducible repeat (first | refine blk_drewN ?_ _ | refine blk_drew ?_ | refine blk_alloc ?_ _)); exact BK272.out) hb); have n1_ := Aside0.mk (below_step (by repeat (first | (with_reducible first | exact HB.out | apply below_alloc | apply pw_below_drewN | apply below_drew1 | refine below_set ?_ GE272.out) | exact HB.out)) hb); clear BK272; clear HB; have BK272 := n0_; have HB := n1_; clear n0_ n1_; (try clear hb); (try clear hb2); (try clear hk); (try clear hi)))
      go_meet
      case rel => exact ⟨_, (decide ((l1.length : Int) > 1000)), (by first | rfl | (simp; done) | (simp [*]; done)), H', ⟨by first | omega | exact Nat.le_refl _⟩, ⟨by (with_reducible repeat (first | refine blk_drewN ?_ _ | refine blk_drew ?_ | refine blk_alloc ?_ _)); exact BK272.out⟩, ⟨by repeat (first | (with_reducible first | exact HB.out | apply below_alloc | apply pw_below_drewN | apply below_drew1 | refine below_set ?_ GE272.out) | exact HB.out)⟩⟩
  case rest =>
    clear HC3
    try clear c1
    try clear c2
    try clear p2
    try clear c6
    try clear c8
    try clear hcz7_0
    try clear hcz7_1
    try clear hcz7_10
    try clear hcz7_11
    try clear hcz7_12
    try clear hcz7_13
    try clear hcz7_14
    try clear hcz7_2
    try clear hcz7_3
    try clear hcz7_4
    try clear hcz7_5
    try clear hcz7_6
    try clear hcz7_7
    try clear hcz7_8
    try clear hcz7_9
    try clear hcz9_0
    try clear hcz9_1
    try clear hcz9_10
    try clear hcz9_11
    try clear hcz9_12
    try clear hcz9_13
    try clear hcz9_14
    try clear hcz9_2
    try clear hcz9_3
    try clear hcz9_4
    try clear hcz9_5
    try clear hcz9_6
    try clear hcz9_7
    try clear hcz9_8
    try clear hcz9_9
    try clear hfz7_0
    try clear hfz7_1
    try clear hfz7_10
    try clear hfz7_11
    try clear hfz7_12
    try clear hfz7_13
    try clear hfz7_14
    try clear hfz7_2
    try clear hfz7_3
    try clear hfz7_4
    try clear hfz7_5
    try clear hfz7_6
    try clear hfz7_7
    try clear hfz7_8
    try clear hfz7_9
    try clear hfz9_0
    try clear hfz9_1
    try clear hfz9_10
    try clear hfz9_11
    try clear hfz9_12
    try clear hfz9_13
    try clear hfz9_14
    try clear hfz9_2
    try clear hfz9_3
    try clear hfz9_4
    try clear hfz9_5
    try clear hfz9_6
    try clear hfz9_7
    try clear hfz9_8
    try clear hfz9_9
    obtain ⟨kq, x15_2, rfl, HA, HJ2, BK272, HB⟩ := hcut
    cases kq with
    | zero => exact absurd HA.out (by simp [lamplighterlaw09_MshBack.j0])
    | succ kj2 =>
      have H := HA.out
      clear HA
      simp only [lamplighterlaw09_MshBack.j0] at H
      by_cases c11 : x15_2 = true
      · subst c11
        have H1 : ((lamplighterlaw09_alive.f kj2).bind fun t274 => (some t274)) = some r := by rw [if_pos rfl] at H; exact H
        clear H
        have H := H1
        clear H1
        replace H := Option.bind_eq_some_iff.mp H
        obtain ⟨t274, A120, H⟩ := H
        replace H : (some t274) = some r := H
        have A12 := Aside0.mk A120
        clear A120
        obtain rfl := Option.some.inj H
        clear hrt
        go_wp2_with (first | ((with_reducible refine gate_callee (f := 17) rfl ?_); refine goesL_ (some 16) rfl rfl Tryd.func17 (by kernel_rfl) rfl #[] rfl (by (try simp only [List.map_toArray, List.map_cons, List.map_nil]); first | done | rfl | (simp only [List.length_drop, List.length_take]; rfl)) ?_; (with_reducible refine (lamplighterlaw09_alive.calls kj2  t274 _ A12.out (glob_below HGLOB.out (by repeat (first | (with_reducible first | exact HB.out | apply below_alloc | apply pw_below_drewN | apply below_drew1 | refine below_set ?_ GE272.out) | exact HB.out)))).mono ?_); rintro e w13 ⟨rfl, hb⟩; refine ⟨_, rfl, ?_⟩; have n0_ := Aside0.mk (blk_below (g := gb272) (o := .cells #[.int .u8 a0_0, .int .u8 a0_1, .int .u8 a0_2, .int .u8 a0_3, .int .u8 a0_4, .string a0_5, .string a0_6, .string a0_7, .string a0_8, .string a0_9, .string a0_10, .string a0_11, .string a0_12, .string a0_13, .string a0_14] 25 (0, 0)) (by (with_reducible repeat (first | refine blk_drewN ?_ _ | refine blk_drew ?_ | refine blk_alloc ?_ _)); exact BK272.out) hb); have n1_ := Aside0.mk (below_step (by repeat (first | (with_reducible first | exact HB.out | apply below_alloc | apply pw_below_drewN | apply below_drew1 | refine below_set ?_ GE272.out) | exact HB.out)) hb); clear BK272; clear HB; have BK272 := n0_; have HB := n1_; clear n0_ n1_; (try clear hb); (try clear hb2); (try clear hk); (try clear hi)))
        go_ret
        exact ⟨by first | rfl | (simp [errW_none, errW_some] <;> rfl) | (simp [*, errW_none, errW_some] <;> rfl), by repeat (first | (with_reducible first | exact HB.out | apply below_alloc | apply pw_below_drewN | apply below_drew1 | refine below_set ?_ GE272.out) | exact HB.out)⟩
      · replace c11 := Bool.eq_false_iff.mpr c11
        subst c11
        have H1 : ((msh_Write.f kj2 a0_0 a0_1 a0_2 a0_3 a0_4 a0_5 a0_6 a0_7 a0_8 a0_9 a0_10 a0_11 a0_12 a0_13 a0_14).bind fun bt275 => (if bt275.2 = 0 then (if bt275.1.size + 1 ≤ 9223372036854775807 then ((cv_app.f (bt275.1 ++ (⟨#[13]⟩ : ByteArray)) l1).bind fun t277 => ((msh_Read.f kj2 t277).bind fun bt280 => ((lamplighterlaw09_alive.f kj2).bind fun t297 => (if t297 = true then (if bt280.2.2.2.2.2.2.2.2.2.2.2.2.2.2.2 = 0 then (some ((bt280.1 == a0_0 && (bt280.2.1 == a0_1 && (bt280.2.2.1 == a0_2 && (bt280.2.2.2.1 == a0_3 && (bt280.2.2.2.2.1 == a0_4))))) && (bt280.2.2.2.2.2.1.toList == a0_5.toList && (bt280.2.2.2.2.2.2.1.toList == a0_6.toList && (bt280.2.2.2.2.2.2.2.1.toList == a0_7.toList && (bt280.2.2.2.2.2.2.2.2.1.toList == a0_8.toList && (bt280.2.2.2.2.2.2.2.2.2.1.toList == a0_9.toList && (bt280.2.2.2.2.2.2.2.2.2.2.1.toList == a0_10.toList && (bt280.2.2.2.2.2.2.2.2.2.2.2.1.toList == a0_11.toList && (bt280.2.2.2.2.2.2.2.2.2.2.2.2.1.toList == a0_12.toList && (bt280.2.2.2.2.2.2.2.2.2.2.2.2.2.1.toList == a0_13.toList && (bt280.2.2.2.2.2.2.2.2.2.2.2.2.2.2.1.toList == a0_14.toList)))))))))))) else (some false)) else (some false))))) else (none)) else ((lamplighterlaw09_alive.f kj2).bind fun t298 => (if t298 = true then (if bt275.1.toList = ([] : List UInt8) then (if bt275.2 = 11 then (some true) else (some (bt275.2 == 10))) else (some false)) else (some false))))) = some r := by rw [if_neg (show ¬ (false = true) by decide)] at H; exact H
        clear H
        have H := H1
        clear H1
        replace H := Option.bind_eq_some_iff.mp H
        obtain ⟨⟨t275, t276⟩, A140, H⟩ := H
        replace H : (if t276 = 0 then (if t275.size + 1 ≤ 9223372036854775807 then ((cv_app.f (t275 ++ (⟨#[13]⟩ : ByteArray)) l1).bind fun t277 => ((msh_Read.f kj2 t277).bind fun bt280 => ((lamplighterlaw09_alive.f kj2).bind fun t297 => (if t297 = true then (if bt280.2.2.2.2.2.2.2.2.2.2.2.2.2.2.2 = 0 then (some ((bt280.1 == a0_0 && (bt280.2.1 == a0_1 && (bt280.2.2.1 == a0_2 && (bt280.2.2.2.1 == a0_3 && (bt280.2.2.2.2.1 == a0_4))))) && (bt280.2.2.2.2.2.1.toList == a0_5.toList && (bt280.2.2.2.2.2.2.1.toList == a0_6.toList && (bt280.2.2.2.2.2.2.2.1.toList == a0_7.toList && (bt280.2.2.2.2.2.2.2.2.1.toList == a0_8.toList && (bt280.2.2.2.2.2.2.2.2.2.1.toList == a0_9.toList && (bt280.2.2.2.2.2.2.2.2.2.2.1.toList == a0_10.toList && (bt280.2.2.2.2.2.2.2.2.2.2.2.1.toList == a0_11.toList && (bt280.2.2.2.2.2.2.2.2.2.2.2.2.1.toList == a0_12.toList && (bt280.2.2.2.2.2.2.2.2.2.2.2.2.2.1.toList == a0_13.toList && (bt280.2.2.2.2.2.2.2.2.2.2.2.2.2.2.1.toList == a0_14.toList)))))))))))) else (some false)) else (some false))))) else (none)) else ((lamplighterlaw09_alive.f kj2).bind fun t298 => (if t298 = true then (if t275.toList = ([] : List UInt8) then (if t276 = 11 then (some true) else (some (t276 == 10))) else (some false)) else (some false)))) = some r := H
        have A14 := Aside0.mk A140
        clear A140
        by_cases c15 : t276 = 0
        · rw [if_pos c15] at H
          have c15b0 : (t276 == 0) = true := beq_iff_eq.mpr c15
          have c15b1 : (t276 != 0) = false := bne_eq_false_iff_eq.mpr c15
          clear c15
          by_cases c16 : t275.size + 1 ≤ 9223372036854775807
          · rw [if_pos c16] at H
            have c16b0 := eq_true c16
            have c16b1 : decide (t275.size + 1 ≤ 9223372036854775807) = true := decide_eq_true c16
            try have c16b2 : (9223372036854775807 < t275.size + 1) = False := eq_false (Nat.not_lt.2 c16)
            try (have c16b4 := c16b2; simp only [ByteArray.size_append] at c16b4)
            replace H := Option.bind_eq_some_iff.mp H
            obtain ⟨t277, A170, H⟩ := H
            replace H : ((msh_Read.f kj2 t277).bind fun bt280 => ((lamplighterlaw09_alive.f kj2).bind fun t297 => (if t297 = true then (if bt280.2.2.2.2.2.2.2.2.2.2.2.2.2.2.2 = 0 then (some ((bt280.1 == a0_0 && (bt280.2.1 == a0_1 && (bt280.2.2.1 == a0_2 && (bt280.2.2.2.1 == a0_3 && (bt280.2.2.2.2.1 == a0_4))))) && (bt280.2.2.2.2.2.1.toList == a0_5.toList && (bt280.2.2.2.2.2.2.1.toList == a0_6.toList && (bt280.2.2.2.2.2.2.2.1.toList == a0_7.toList && (bt280.2.2.2.2.2.2.2.2.1.toList == a0_8.toList && (bt280.2.2.2.2.2.2.2.2.2.1.toList == a0_9.toList && (bt280.2.2.2.2.2.2.2.2.2.2.1.toList == a0_10.toList && (bt280.2.2.2.2.2.2.2.2.2.2.2.1.toList == a0_11.toList && (bt280.2.2.2.2.2.2.2.2.2.2.2.2.1.toList == a0_12.toList && (bt280.2.2.2.2.2.2.2.2.2.2.2.2.2.1.toList == a0_13.toList && (bt280.2.2.2.2.2.2.2.2.2.2.2.2.2.2.1.toList == a0_14.toList)))))))))))) else (some false)) else (some false)))) = some r := H
            have A17 := Aside0.mk A170
            clear A170
            replace H := Option.bind_eq_some_iff.mp H
            obtain ⟨⟨t280, t281, t282, t283, t284, t285, t286, t287, t288, t289, t290, t291, t292, t293, t294, t295⟩, A180, H⟩ := H
            replace H : ((lamplighterlaw09_alive.f kj2).bind fun t297 => (if t297 = true then (if t295 = 0 then (some ((t280 == a0_0 && (t281 == a0_1 && (t282 == a0_2 && (t283 == a0_3 && (t284 == a0_4))))) && (t285.toList == a0_5.toList && (t286.toList == a0_6.toList && (t287.toList == a0_7.toList && (t288.toList == a0_8.toList && (t289.toList == a0_9.toList && (t290.toList == a0_10.toList && (t291.toList == a0_11.toList && (t292.toList == a0_12.toList && (t293.toList == a0_13.toList && (t294.toList == a0_14.toList)))))))))))) else (some false)) else (some false))) = some r := H
            have A18 := Aside0.mk A180
            clear A180
            replace H := Option.bind_eq_some_iff.mp H
            obtain ⟨t297, A190, H⟩ := H
            replace H : (if t297 = true then (if t295 = 0 then (some ((t280 == a0_0 && (t281 == a0_1 && (t282 == a0_2 && (t283 == a0_3 && (t284 == a0_4))))) && (t285.toList == a0_5.toList && (t286.toList == a0_6.toList && (t287.toList == a0_7.toList && (t288.toList == a0_8.toList && (t289.toList == a0_9.toList && (t290.toList == a0_10.toList && (t291.toList == a0_11.toList && (t292.toList == a0_12.toList && (t293.toList == a0_13.toList && (t294.toList == a0_14.toList)))))))))))) else (some false)) else (some false)) = some r := H
            have A19 := Aside0.mk A190
            clear A190
            by_cases c20 : t297 = true
            · subst c20
              have H1 : (if t295 = 0 then (some ((t280 == a0_0 && (t281 == a0_1 && (t282 == a0_2 && (t283 == a0_3 && (t284 == a0_4))))) && (t285.toList == a0_5.toList && (t286.toList == a0_6.toList && (t287.toList == a0_7.toList && (t288.toList == a0_8.toList && (t289.toList == a0_9.toList && (t290.toList == a0_10.toList && (t291.toList == a0_11.toList && (t292.toList == a0_12.toList && (t293.toList == a0_13.toList && (t294.toList == a0_14.toList)))))))))))) else (some false)) = some r := by rw [if_pos rfl] at H; exact H
              clear H
              have H := H1
              clear H1
              by_cases c21 : t295 = 0
              · rw [if_pos c21] at H
                have c21b0 : (t295 == 0) = true := beq_iff_eq.mpr c21
                have c21b1 : (t295 != 0) = false := bne_eq_false_iff_eq.mpr c21
                clear c21
                obtain rfl := Option.some.inj H
                clear hrt
                have hcz22_0 : wc.cell? ⟨gb272, 0, none⟩ = some (.int .u8 a0_0) := (blk_cell BK272.out 0).trans rfl
                have hcz22_1 : wc.cell? ⟨gb272, 1, none⟩ = some (.int .u8 a0_1) := (blk_cell BK272.out 1).trans rfl
                have hcz22_2 : wc.cell? ⟨gb272, 2, none⟩ = some (.int .u8 a0_2) := (blk_cell BK272.out 2).trans rfl
                have hcz22_3 : wc.cell? ⟨gb272, 3, none⟩ = some (.int .u8 a0_3) := (blk_cell BK272.out 3).trans rfl
                have hcz22_4 : wc.cell? ⟨gb272, 4, none⟩ = some (.int .u8 a0_4) := (blk_cell BK272.out 4).trans rfl
                have hcz22_5 : wc.cell? ⟨gb272, 5, none⟩ = some (.string a0_5) := (blk_cell BK272.out 5).trans rfl
                have hcz22_6 : wc.cell? ⟨gb272, 6, none⟩ = some (.string a0_6) := (blk_cell BK272.out 6).trans rfl
                have hcz22_7 : wc.cell? ⟨gb272, 7, none⟩ = some (.string a0_7) := (blk_cell BK272.out 7).trans rfl
                have hcz22_8 : wc.cell? ⟨gb272, 8, none⟩ = some (.string a0_8) := (blk_cell BK272.out 8).trans rfl
                have hcz22_9 : wc.cell? ⟨gb272, 9, none⟩ = some (.string a0_9) := (blk_cell BK272.out 9).trans rfl
                have hcz22_10 : wc.cell? ⟨gb272, 10, none⟩ = some (.string a0_10) := (blk_cell BK272.out 10).trans rfl
                have hcz22_11 : wc.cell? ⟨gb272, 11, none⟩ = some (.string a0_11) := (blk_cell BK272.out 11).trans rfl
                have hcz22_12 : wc.cell? ⟨gb272, 12, none⟩ = some (.string a0_12) := (blk_cell BK272.out 12).trans rfl
                have hcz22_13 : wc.cell? ⟨gb272, 13, none⟩ = some (.string a0_13) := (blk_cell BK272.out 13).trans rfl
                have hcz22_14 : wc.cell? ⟨gb272, 14, none⟩ = some (.string a0_14) := (blk_cell BK272.out 14).trans rfl
                have hfz22_0 := blk_frozen BK272.out 0
                have hfz22_1 := blk_frozen BK272.out 1
                have hfz22_2 := blk_frozen BK272.out 2
                have hfz22_3 := blk_frozen BK272.out 3
                have hfz22_4 := blk_frozen BK272.out 4
                have hfz22_5 := blk_frozen BK272.out 5
                have hfz22_6 := blk_frozen BK272.out 6
                have hfz22_7 := blk_frozen BK272.out 7
                have hfz22_8 := blk_frozen BK272.out 8
                have hfz22_9 := blk_frozen BK272.out 9
                have hfz22_10 := blk_frozen BK272.out 10
                have hfz22_11 := blk_frozen BK272.out 11
                have hfz22_12 := blk_frozen BK272.out 12
                have hfz22_13 := blk_frozen BK272.out 13
                have hfz22_14 := blk_frozen BK272.out 14
                go_wp2_with (first | ((with_reducible refine gate_callee (f := 23) rfl ?_); refine goesL_ (some 19) rfl rfl Tryd.func23 (by kernel_rfl) rfl #[.agg #[.int .u8 a0_0, .int .u8 a0_1, .int .u8 a0_2, .int .u8 a0_3, .int .u8 a0_4, .string a0_5, .string a0_6, .string a0_7, .string a0_8, .string a0_9, .string a0_10, .string a0_11, .string a0_12, .string a0_13, .string a0_14]] rfl (by (try simp only [List.map_toArray, List.map_cons, List.map_nil]); first | done | rfl | (simp only [List.length_drop, List.length_take]; rfl)) ?_; (with_reducible refine (msh_Write.calls kj2 a0_0 a0_1 a0_2 a0_3 a0_4 a0_5 a0_6 a0_7 a0_8 a0_9 a0_10 a0_11 a0_12 a0_13 a0_14 t275 t276 _ A14.out).mono ?_); rintro e w23 ⟨rfl, hb⟩; refine ⟨_, rfl, ?_⟩; have n0_ := Aside0.mk (blk_below (g := gb272) (o := .cells #[.int .u8 a0_0, .int .u8 a0_1, .int .u8 a0_2, .int .u8 a0_3, .int .u8 a0_4, .string a0_5, .string a0_6, .string a0_7, .string a0_8, .string a0_9, .string a0_10, .string a0_11, .string a0_12, .string a0_13, .string a0_14] 25 (0, 0)) (by (with_reducible repeat (first | refine blk_drewN ?_ _ | refine blk_drew ?_ | refine blk_alloc ?_ _)); exact BK272.out) hb); have n1_ := Aside0.mk (below_step (by repeat (first | (with_reducible first | exact HB.out | apply below_alloc | apply pw_below_drewN | apply below_drew1 | refine below_set ?_ GE272.out) | exact HB.out)) hb); clear BK272; clear HB; have BK272 := n0_; have HB := n1_; clear n0_ n1_; (try clear hb); (try clear hb2); (try clear hk); (try clear hi)) | ((with_reducible refine gate_dst (N := 40) rfl ?_); refine goesStrX_ rfl rfl rfl rfl Tryd.underlying9 Tryd.underlying28 Tryd.underlying5 ?_) | ((with_reducible refine gate_dst (N := 42) rfl ?_); (try (refine gate_guard (by rfl) ?_; dsimp only)); refine goesApp_ (v := .slice A1 l1.length c1) rfl rfl rfl rfl rfl (by first | rfl | simp) (by first | rfl | (simp only [ByteArray.size_append]; rfl) | simp) (by first | rfl | (simp only [ByteArray.size_append]; rfl) | simp) ?_; (with_reducible refine (cv_app.calls (t275 ++ (⟨#[13]⟩ : ByteArray)) _ _ l1 t277 _ ?side1 ?side2 A17.out).mono ?_); (case side1 => repeat (first | exact (Kd.C_below HR1.out HB.out) | (with_reducible refine Kd.C_alloc ?_ _) | (with_reducible refine Kd.C_drewN ?_ _) | (with_reducible refine Kd.C_drew ?_))); (case side2 => exact HC1.out); rintro e w24 ⟨v278, rfl, ho0, hb⟩; refine ⟨_, rfl, ?_⟩; have n0_ := Aside0.mk (Kd.V_lower (Kd.V_mono (ok' := fun k_ => k_ ≠ gb272) ho0 (fun k_ hk_ => (Kd.freshB (g := gb272) (o := .cells #[.int .u8 a0_0, .int .u8 a0_1, .int .u8 a0_2, .int .u8 a0_3, .int .u8 a0_4, .string a0_5, .string a0_6, .string a0_7, .string a0_8, .string a0_9, .string a0_10, .string a0_11, .string a0_12, .string a0_13, .string a0_14] 25 (0, 0)) (by (with_reducible repeat (first | refine blk_drewN ?_ _ | refine blk_drew ?_ | refine blk_alloc ?_ _)); exact BK272.out) k_ hk_))) (below_size (by repeat (first | (with_reducible first | exact HB.out | apply below_alloc | apply pw_below_drewN | apply below_drew1 | refine below_set ?_ GE272.out) | exact HB.out)))); have n1_ := Aside0.mk (blk_below (g := gb272) (o := .cells #[.int .u8 a0_0, .int .u8 a0_1, .int .u8 a0_2, .int .u8 a0_3, .int .u8 a0_4, .string a0_5, .string a0_6, .string a0_7, .string a0_8, .string a0_9, .string a0_10, .string a0_11, .string a0_12, .string a0_13, .string a0_14] 25 (0, 0)) (by (with_reducible repeat (first | refine blk_drewN ?_ _ | refine blk_drew ?_ | refine blk_alloc ?_ _)); exact BK272.out) hb); have n2_ := Aside0.mk (below_step (by repeat (first | (with_reducible first | exact HB.out | apply below_alloc | apply pw_below_drewN | apply below_drew1 | refine below_set ?_ GE272.out) | exact HB.out)) hb); clear BK272; clear HB; have HO279 := n0_; have BK272 := n1_; have HB := n2_; clear n0_ n1_ n2_; (try clear hb); (try clear hb2); (try clear hk); (try clear hi); (try clear ho0); obtain ⟨Ao25, co25, eo25⟩ := Kd.V_slice HO279.out; subst eo25) | ((with_reducible refine gate_callee (f := 18) rfl ?_); refine goesL_ (some 43) rfl rfl Tryd.func18 (by kernel_rfl) rfl #[.slice Ao25 t277.length co25] rfl (by (try simp only [List.map_toArray, List.map_cons, List.map_nil]); first | done | rfl | (simp only [List.length_drop, List.length_take]; rfl)) ?_; (with_reducible refine (msh_Read.calls kj2 _ _ t277 t280 t281 t282 t283 t284 t285 t286 t287 t288 t289 t290 t291 t292 t293 t294 t295 _ ?side1 ?side2 A18.out).mono ?_); (case side1 => repeat (first | exact (Kd.V_reads' HO279.out).2.2 | (with_reducible refine Kd.C_alloc ?_ _) | (with_reducible refine Kd.C_drewN ?_ _) | (with_reducible refine Kd.C_drew ?_))); (case side2 => exact (Kd.V_reads' HO279.out).2.1); rintro e w26 ⟨rfl, hb⟩; refine ⟨_, rfl, ?_⟩; have n0_ := Aside0.mk (Kd.V_below (by (with_reducible repeat (first | apply Kd.V_alloc | apply Kd.V_drewN | apply Kd.V_drew)); exact HO279.out) hb); have n1_ := Aside0.mk (blk_below (g := gb272) (o := .cells #[.int .u8 a0_0, .int .u8 a0_1, .int .u8 a0_2, .int .u8 a0_3, .int .u8 a0_4, .string a0_5, .string a0_6, .string a0_7, .string a0_8, .string a0_9, .string a0_10, .string a0_11, .string a0_12, .string a0_13, .string a0_14] 25 (0, 0)) (by (with_reducible repeat (first | refine blk_drewN ?_ _ | refine blk_drew ?_ | refine blk_alloc ?_ _)); exact BK272.out) hb); have n2_ := Aside0.mk (below_step (by repeat (first | (with_reducible first | exact HB.out | apply below_alloc | apply pw_below_drewN | apply below_drew1 | refine below_set ?_ GE272.out) | exact HB.out)) hb); clear HO279; clear BK272; clear HB; have HO279 := n0_; have BK272 := n1_; have HB := n2_; clear n0_ n1_ n2_; (try clear hb); (try clear hb2); (try clear hk); (try clear hi)) | ((with_reducible refine gate_dst (N := 7) rfl ?_); (try (refine gate_guard (by rfl) ?_; dsimp only)); refine box_event ?hg (N := 7) ?hd (cs := #[.int .u8 0, .int .u8 0, .int .u8 0, .int .u8 0, .int .u8 0, .string (⟨#[]⟩ : ByteArray), .string (⟨#[]⟩ : ByteArray), .string (⟨#[]⟩ : ByteArray), .string (⟨#[]⟩ : ByteArray), .string (⟨#[]⟩ : ByteArray), .string (⟨#[]⟩ : ByteArray), .string (⟨#[]⟩ : ByteArray), .string (⟨#[]⟩ : ByteArray), .string (⟨#[]⟩ : ByteArray), .string (⟨#[]⟩ : ByteArray)]) (t := 25) ?hr ?_; (case hd => rfl); (case hg => rfl); (case hr => first | (go_simp; done) | (go_simp; rfl)); intro gb296 hg w27 hbox hb; have n0_ := Aside0.mk (Kd.V_below (Kd.V_elderB (by (with_reducible repeat (first | apply Kd.V_alloc | apply Kd.V_drewN | apply Kd.V_drew)); exact HO279.out) gb296 (Nat.le_of_eq hg.symm)) hb); have n1_ := Aside0.mk (blk_below (g := gb272) (o := .cells #[.int .u8 a0_0, .int .u8 a0_1, .int .u8 a0_2, .int .u8 a0_3, .int .u8 a0_4, .string a0_5, .string a0_6, .string a0_7, .string a0_8, .string a0_9, .string a0_10, .string a0_11, .string a0_12, .string a0_13, .string a0_14] 25 (0, 0)) (by (with_reducible repeat (first | refine blk_drewN ?_ _ | refine blk_drew ?_ | refine blk_alloc ?_ _)); exact BK272.out) hb); have n2_ := Aside0.mk (below_step (by repeat (first | (with_reducible first | exact HB.out | apply below_alloc | apply pw_below_drewN | apply below_drew1 | refine below_set ?_ GE272.out) | exact HB.out)) hb); have n3_ := Aside0.mk (hbox); have n4_ := Aside0.mk ((by rw [hg]; exact (below_size (by repeat (first | (with_reducible first | exact HB.out | apply below_alloc | apply pw_below_drewN | apply below_drew1 | refine below_set ?_ GE272.out) | exact HB.out))) : w.heap.size ≤ gb296)); have n5_ := Aside0.mk ((by rw [hg]; exact (below_size (by repeat (first | (with_reducible first | exact HB.out | apply below_alloc | apply pw_below_drewN | apply below_drew1 | refine below_set ?_ GE272.out) | exact HB.out))) : w.heap.size ≤ gb296)); have n6_ := Aside0.mk ((by rw [hg]; exact Nat.ne_of_lt (blk_lt (g := gb272) (o := .cells #[.int .u8 a0_0, .int .u8 a0_1, .int .u8 a0_2, .int .u8 a0_3, .int .u8 a0_4, .string a0_5, .string a0_6, .string a0_7, .string a0_8, .string a0_9, .string a0_10, .string a0_11, .string a0_12, .string a0_13, .string a0_14] 25 (0, 0)) (by (with_reducible repeat (first | refine blk_drewN ?_ _ | refine blk_drew ?_ | refine blk_alloc ?_ _)); exact BK272.out)) : gb272 ≠ gb296)); have n7_ := Aside0.mk ((by rw [hg]; exact Nat.ne_of_gt (blk_lt (g := gb272) (o := .cells #[.int .u8 a0_0, .int .u8 a0_1, .int .u8 a0_2, .int .u8 a0_3, .int .u8 a0_4, .string a0_5, .string a0_6, .string a0_7, .string a0_8, .string a0_9, .string a0_10, .string a0_11, .string a0_12, .string a0_13, .string a0_14] 25 (0, 0)) (by (with_reducible repeat (first | refine blk_drewN ?_ _ | refine blk_drew ?_ | refine blk_alloc ?_ _)); exact BK272.out)) : gb296 ≠ gb272)); clear HO279; clear BK272; clear HB; have HO279 := n0_; have BK272 := n1_; have HB := n2_; have BK296 := n3_; have GW296 := n4_; have GE296 := n5_; have NB272_296 := n6_; have NB296_272 := n7_; clear n0_ n1_ n2_ n3_ n4_ n5_ n6_ n7_; clear hb hbox hg; have hnb28 := NB296_272.out; have hnc28 := NB272_296.out; have hcz29_0 : w27.cell? ⟨gb296, 0, none⟩ = some (.int .u8 0) := (blk_cell BK296.out 0).trans rfl; have hcz29_1 : w27.cell? ⟨gb296, 1, none⟩ = some (.int .u8 0) := (blk_cell BK296.out 1).trans rfl; have hcz29_2 : w27.cell? ⟨gb296, 2, none⟩ = some (.int .u8 0) := (blk_cell BK296.out 2).trans rfl; have hcz29_3 : w27.cell? ⟨gb296, 3, none⟩ = some (.int .u8 0) := (blk_cell BK296.out 3).trans rfl; have hcz29_4 : w27.cell? ⟨gb296, 4, none⟩ = some (.int .u8 0) := (blk_cell BK296.out 4).trans rfl; have hcz29_5 : w27.cell? ⟨gb296, 5, none⟩ = some (.string (⟨#[]⟩ : ByteArray)) := (blk_cell BK296.out 5).trans rfl; have hcz29_6 : w27.cell? ⟨gb296, 6, none⟩ = some (.string (⟨#[]⟩ : ByteArray)) := (blk_cell BK296.out 6).trans rfl; have hcz29_7 : w27.cell? ⟨gb296, 7, none⟩ = some (.string (⟨#[]⟩ : ByteArray)) := (blk_cell BK296.out 7).trans rfl; have hcz29_8 : w27.cell? ⟨gb296, 8, none⟩ = some (.string (⟨#[]⟩ : ByteArray)) := (blk_cell BK296.out 8).trans rfl; have hcz29_9 : w27.cell? ⟨gb296, 9, none⟩ = some (.string (⟨#[]⟩ : ByteArray)) := (blk_cell BK296.out 9).trans rfl; have hcz29_10 : w27.cell? ⟨gb296, 10, none⟩ = some (.string (⟨#[]⟩ : ByteArray)) := (blk_cell BK296.out 10).trans rfl; have hcz29_11 : w27.cell? ⟨gb296, 11, none⟩ = some (.string (⟨#[]⟩ : ByteArray)) := (blk_cell BK296.out 11).trans rfl; have hcz29_12 : w27.cell? ⟨gb296, 12, none⟩ = some (.string (⟨#[]⟩ : ByteArray)) := (blk_cell BK296.out 12).trans rfl; have hcz29_13 : w27.cell? ⟨gb296, 13, none⟩ = some (.string (⟨#[]⟩ : ByteArray)) := (blk_cell BK296.out 13).trans rfl; have hcz29_14 : w27.cell? ⟨gb296, 14, none⟩ = some (.string (⟨#[]⟩ : ByteArray)) := (blk_cell BK296.out 14).trans rfl; have hfz29_0 := blk_frozen BK296.out 0; have hfz29_1 := blk_frozen BK296.out 1; have hfz29_2 := blk_frozen BK296.out 2; have hfz29_3 := blk_frozen BK296.out 3; have hfz29_4 := blk_frozen BK296.out 4; have hfz29_5 := blk_frozen BK296.out 5; have hfz29_6 := blk_frozen BK296.out 6; have hfz29_7 := blk_frozen BK296.out 7; have hfz29_8 := blk_frozen BK296.out 8; have hfz29_9 := blk_frozen BK296.out 9; have hfz29_10 := blk_frozen BK296.out 10; have hfz29_11 := blk_frozen BK296.out 11; have hfz29_12 := blk_frozen BK296.out 12; have hfz29_13 := blk_frozen BK296.out 13; have hfz29_14 := blk_frozen BK296.out 14) | ((with_reducible refine gate_callee (f := 17) rfl ?_); refine goesL_ (some 46) rfl rfl Tryd.func17 (by kernel_rfl) rfl #[] rfl (by (try simp only [List.map_toArray, List.map_cons, List.map_nil]); first | done | rfl | (simp only [List.length_drop, List.length_take]; rfl)) ?_; (with_reducible refine (lamplighterlaw09_alive.calls kj2  true _ A19.out (glob_below HGLOB.out (by repeat (first | (with_reducible first | exact HB.out | apply below_alloc | apply pw_below_drewN | apply below_drew1 | refine below_set ?_ GE272.out | refine below_set ?_ GE296.out) | exact HB.out)))).mono ?_); rintro e w30 ⟨rfl, hb⟩; refine ⟨_, rfl, ?_⟩; have n0_ := Aside0.mk (Kd.V_below (by (with_reducible repeat (first | apply Kd.V_alloc | apply Kd.V_drewN | apply Kd.V_drew)); exact (Kd.V_mono (Kd.V_far (p := ⟨gb296, 14, none⟩) (Kd.V_far (p := ⟨gb296, 13, none⟩) (Kd.V_far (p := ⟨gb296, 12, none⟩) (Kd.V_far (p := ⟨gb296, 11, none⟩) (Kd.V_far (p := ⟨gb296, 10, none⟩) (Kd.V_far (p := ⟨gb296, 9, none⟩) (Kd.V_far (p := ⟨gb296, 8, none⟩) (Kd.V_far (p := ⟨gb296, 7, none⟩) (Kd.V_far (p := ⟨gb296, 6, none⟩) (Kd.V_far (p := ⟨gb296, 5, none⟩) (Kd.V_far (p := ⟨gb296, 4, none⟩) (Kd.V_far (p := ⟨gb296, 3, none⟩) (Kd.V_far (p := ⟨gb296, 2, none⟩) (Kd.V_far (p := ⟨gb296, 1, none⟩) (Kd.V_far (p := ⟨gb296, 0, none⟩) (Kd.V_mono HO279.out (fun k_ hk => (⟨hk, hk.2⟩ : _ ∧ k_ ≠ gb296))) (fun _ hk => hk.2) (.int .u8 t280)) (fun _ hk => hk.2) (.int .u8 t281)) (fun _ hk => hk.2) (.int .u8 t282)) (fun _ hk => hk.2) (.int .u8 t283)) (fun _ hk => hk.2) (.int .u8 t284)) (fun _ hk => hk.2) (.string t285)) (fun _ hk => hk.2) (.string t286)) (fun _ hk => hk.2) (.string t287)) (fun _ hk => hk.2) (.string t288)) (fun _ hk => hk.2) (.string t289)) (fun _ hk => hk.2) (.string t290)) (fun _ hk => hk.2) (.string t291)) (fun _ hk => hk.2) (.string t292)) (fun _ hk => hk.2) (.string t293)) (fun _ hk => hk.2) (.string t294)) (fun _ h_ => h_.1))) hb); have n1_ := Aside0.mk (blk_below (g := gb272) (o := .cells #[.int .u8 a0_0, .int .u8 a0_1, .int .u8 a0_2, .int .u8 a0_3, .int .u8 a0_4, .string a0_5, .string a0_6, .string a0_7, .string a0_8, .string a0_9, .string a0_10, .string a0_11, .string a0_12, .string a0_13, .string a0_14] 25 (0, 0)) (by (with_reducible repeat (first | refine blk_drewN ?_ _ | refine blk_drew ?_ | refine blk_alloc ?_ _)); refine blk_far ?_ NB272_296.out _; (with_reducible repeat (first | refine blk_drewN ?_ _ | refine blk_drew ?_ | refine blk_alloc ?_ _)); refine blk_far ?_ NB272_296.out _; (with_reducible repeat (first | refine blk_drewN ?_ _ | refine blk_drew ?_ | refine blk_alloc ?_ _)); refine blk_far ?_ NB272_296.out _; (with_reducible repeat (first | refine blk_drewN ?_ _ | refine blk_drew ?_ | refine blk_alloc ?_ _)); refine blk_far ?_ NB272_296.out _; (with_reducible repeat (first | refine blk_drewN ?_ _ | refine blk_drew ?_ | refine blk_alloc ?_ _)); refine blk_far ?_ NB272_296.out _; (with_reducible repeat (first | refine blk_drewN ?_ _ | refine blk_drew ?_ | refine blk_alloc ?_ _)); refine blk_far ?_ NB272_296.out _; (with_reducible repeat (first | refine blk_drewN ?_ _ | refine blk_drew ?_ | refine blk_alloc ?_ _)); refine blk_far ?_ NB272_296.out _; (with_reducible repeat (first | refine blk_drewN ?_ _ | refine blk_drew ?_ | refine blk_alloc ?_ _)); refine blk_far ?_ NB272_296.out _; (with_reducible repeat (first | refine blk_drewN ?_ _ | refine blk_drew ?_ | refine blk_alloc ?_ _)); refine blk_far ?_ NB272_296.out _; (with_reducible repeat (first | refine blk_drewN ?_ _ | refine blk_drew ?_ | refine blk_alloc ?_ _)); refine blk_far ?_ NB272_296.out _; (with_reducible repeat (first | refine blk_drewN ?_ _ | refine blk_drew ?_ | refine blk_alloc ?_ _)); refine blk_far ?_ NB272_296.out _; (with_reducible repeat (first | refine blk_drewN ?_ _ | refine blk_drew ?_ | refine blk_alloc ?_ _)); refine blk_far ?_ NB272_296.out _; (with_reducible repeat (first | refine blk_drewN ?_ _ | refine blk_drew ?_ | refine blk_alloc ?_ _)); refine blk_far ?_ NB272_296.out _; (with_reducible repeat (first | refine blk_drewN ?_ _ | refine blk_drew ?_ | refine blk_alloc ?_ _)); refine blk_far ?_ NB272_296.out _; (with_reducible repeat (first | refine blk_drewN ?_ _ | refine blk_drew ?_ | refine blk_alloc ?_ _)); refine blk_far ?_ NB272_296.out _; (with_reducible repeat (first | refine blk_drewN ?_ _ | refine blk_drew ?_ | refine blk_alloc ?_ _)); exact BK272.out) hb); have n2_ := Aside0.mk (blk_below (g := gb296) (o := .cells #[.int .u8 t280, .int .u8 t281, .int .u8 t282, .int .u8 t283, .int .u8 t284, .string t285, .string t286, .string t287, .string t288, .string t289, .string t290, .string t291, .string t292, .string t293, .string t294] 25 (0, 0)) (by (with_reducible repeat (first | refine blk_drewN ?_ _ | refine blk_drew ?_ | refine blk_alloc ?_ _)); refine blk_put (cs := #[.int .u8 t280, .int .u8 t281, .int .u8 t282, .int .u8 t283, .int .u8 t284, .string t285, .string t286, .string t287, .string t288, .string t289, .string t290, .string t291, .string t292, .string t293, .string (⟨#[]⟩ : ByteArray)]) ?_ 14 _ rfl; (with_reducible repeat (first | refine blk_drewN ?_ _ | refine blk_drew ?_ | refine blk_alloc ?_ _)); refine blk_put (cs := #[.int .u8 t280, .int .u8 t281, .int .u8 t282, .int .u8 t283, .int .u8 t284, .string t285, .string t286, .string t287, .string t288, .string t289, .string t290, .string t291, .string t292, .string (⟨#[]⟩ : ByteArray), .string (⟨#[]⟩ : ByteArray)]) ?_ 13 _ rfl; (with_reducible repeat (first | refine blk_drewN ?_ _ | refine blk_drew ?_ | refine blk_alloc ?_ _)); refine blk_put (cs := #[.int .u8 t280, .int .u8 t281, .int .u8 t282, .int .u8 t283, .int .u8 t284, .string t285, .string t286, .string t287, .string t288, .string t289, .string t290, .string t291, .string (⟨#[]⟩ : ByteArray), .string (⟨#[]⟩ : ByteArray), .string (⟨#[]⟩ : ByteArray)]) ?_ 12 _ rfl; (with_reducible repeat (first | refine blk_drewN ?_ _ | refine blk_drew ?_ | refine blk_alloc ?_ _)); refine blk_put (cs := #[.int .u8 t280, .int .u8 t281, .int .u8 t282, .int .u8 t283, .int .u8 t284, .string t285, .string t286, .string t287, .string t288, .string t289, .string t290, .string (⟨#[]⟩ : ByteArray), .string (⟨#[]⟩ : ByteArray), .string (⟨#[]⟩ : ByteArray), .string (⟨#[]⟩ : ByteArray)]) ?_ 11 _ rfl; (with_reducible repeat (first | refine blk_drewN ?_ _ | refine blk_drew ?_ | refine blk_alloc ?_ _)); refine blk_put (cs := #[.int .u8 t280, .int .u8 t281, .int .u8 t282, .int .u8 t283, .int .u8 t284, .string t285, .string t286, .string t287, .string t288, .string t289, .string (⟨#[]⟩ : ByteArray), .string (⟨#[]⟩ : ByteArray), .string (⟨#[]⟩ : ByteArray), .string (⟨#[]⟩ : ByteArray), .string (⟨#[]⟩ : ByteArray)]) ?_ 10 _ rfl; (with_reducible repeat (first | refine blk_drewN ?_ _ | refine blk_drew ?_ | refine blk_alloc ?_ _)); refine blk_put (cs := #[.int .u8 t280, .int .u8 t281, .int .u8 t282, .int .u8 t283, .int .u8 t284, .string t285, .string t286, .string t287, .string t288, .string (⟨#[]⟩ : ByteArray), .string (⟨#[]⟩ : ByteArray), .string (⟨#[]⟩ : ByteArray), .string (⟨#[]⟩ : ByteArray), .string (⟨#[]⟩ : ByteArray), .string (⟨#[]⟩ : ByteArray)]) ?_ 9 _ rfl; (with_reducible repeat (first | refine blk_drewN ?_ _ | refine blk_drew ?_ | refine blk_alloc ?_ _)); refine blk_put (cs := #[.int .u8 t280, .int .u8 t281, .int .u8 t282, .int .u8 t283, .int .u8 t284, .string t285, .string t286, .string t287, .string (⟨#[]⟩ : ByteArray), .string (⟨#[]⟩ : ByteArray), .string (⟨#[]⟩ : ByteArray), .string (⟨#[]⟩ : ByteArray), .string (⟨#[]⟩ : ByteArray), .string (⟨#[]⟩ : ByteArray), .string (⟨#[]⟩ : ByteArray)]) ?_ 8 _ rfl; (with_reducible repeat (first | refine blk_drewN ?_ _ | refine blk_drew ?_ | refine blk_alloc ?_ _)); refine blk_put (cs := #[.int .u8 t280, .int .u8 t281, .int .u8 t282, .int .u8 t283, .int .u8 t284, .string t285, .string t286, .string (⟨#[]⟩ : ByteArray), .string (⟨#[]⟩ : ByteArray), .string (⟨#[]⟩ : ByteArray), .string (⟨#[]⟩ : ByteArray), .string (⟨#[]⟩ : ByteArray), .string (⟨#[]⟩ : ByteArray), .string (⟨#[]⟩ : ByteArray), .string (⟨#[]⟩ : ByteArray)]) ?_ 7 _ rfl; (with_reducible repeat (first | refine blk_drewN ?_ _ | refine blk_drew ?_ | refine blk_alloc ?_ _)); refine blk_put (cs := #[.int .u8 t280, .int .u8 t281, .int .u8 t282, .int .u8 t283, .int .u8 t284, .string t285, .string (⟨#[]⟩ : ByteArray), .string (⟨#[]⟩ : ByteArray), .string (⟨#[]⟩ : ByteArray), .string (⟨#[]⟩ : ByteArray), .string (⟨#[]⟩ : ByteArray), .string (⟨#[]⟩ : ByteArray), .string (⟨#[]⟩ : ByteArray), .string (⟨#[]⟩ : ByteArray), .string (⟨#[]⟩ : ByteArray)]) ?_ 6 _ rfl; (with_reducible repeat (first | refine blk_drewN ?_ _ | refine blk_drew ?_ | refine blk_alloc ?_ _)); refine blk_put (cs := #[.int .u8 t280, .int .u8 t281, .int .u8 t282, .int .u8 t283, .int .u8 t284, .string (⟨#[]⟩ : ByteArray), .string (⟨#[]⟩ : ByteArray), .string (⟨#[]⟩ : ByteArray), .string (⟨#[]⟩ : ByteArray), .string (⟨#[]⟩ : ByteArray), .string (⟨#[]⟩ : ByteArray), .string (⟨#[]⟩ : ByteArray), .string (⟨#[]⟩ : ByteArray), .string (⟨#[]⟩ : ByteArray), .string (⟨#[]⟩ : ByteArray)]) ?_ 5 _ rfl; (with_reducible repeat (first | refine blk_drewN ?_ _ | refine blk_drew ?_ | refine blk_alloc ?_ _)); refine blk_put (cs := #[.int .u8 t280, .int .u8 t281, .int .u8 t282, .int .u8 t283, .int .u8 0, .string (⟨#[]⟩ : ByteArray), .string (⟨#[]⟩ : ByteArray), .string (⟨#[]⟩ : ByteArray), .string (⟨#[]⟩ : ByteArray), .string (⟨#[]⟩ : ByteArray), .string (⟨#[]⟩ : ByteArray), .string (⟨#[]⟩ : ByteArray), .string (⟨#[]⟩ : ByteArray), .string (⟨#[]⟩ : ByteArray), .string (⟨#[]⟩ : ByteArray)]) ?_ 4 _ rfl; (with_reducible repeat (first | refine blk_drewN ?_ _ | refine blk_drew ?_ | refine blk_alloc ?_ _)); refine blk_put (cs := #[.int .u8 t280, .int .u8 t281, .int .u8 t282, .int .u8 0, .int .u8 0, .string (⟨#[]⟩ : ByteArray), .string (⟨#[]⟩ : ByteArray), .string (⟨#[]⟩ : ByteArray), .string (⟨#[]⟩ : ByteArray), .string (⟨#[]⟩ : ByteArray), .string (⟨#[]⟩ : ByteArray), .string (⟨#[]⟩ : ByteArray), .string (⟨#[]⟩ : ByteArray), .string (⟨#[]⟩ : ByteArray), .string (⟨#[]⟩ : ByteArray)]) ?_ 3 _ rfl; (with_reducible repeat (first | refine blk_drewN ?_ _ | refine blk_drew ?_ | refine blk_alloc ?_ _)); refine blk_put (cs := #[.int .u8 t280, .int .u8 t281, .int .u8 0, .int .u8 0, .int .u8 0, .string (⟨#[]⟩ : ByteArray), .string (⟨#[]⟩ : ByteArray), .string (⟨#[]⟩ : ByteArray), .string (⟨#[]⟩ : ByteArray), .string (⟨#[]⟩ : ByteArray), .string (⟨#[]⟩ : ByteArray), .string (⟨#[]⟩ : ByteArray), .string (⟨#[]⟩ : ByteArray), .string (⟨#[]⟩ : ByteArray), .string (⟨#[]⟩ : ByteArray)]) ?_ 2 _ rfl; (with_reducible repeat (first | refine blk_drewN ?_ _ | refine blk_drew ?_ | refine blk_alloc ?_ _)); refine blk_put (cs := #[.int .u8 t280, .int .u8 0, .int .u8 0, .int .u8 0, .int .u8 0, .string (⟨#[]⟩ : ByteArray), .string (⟨#[]⟩ : ByteArray), .string (⟨#[]⟩ : ByteArray), .string (⟨#[]⟩ : ByteArray), .string (⟨#[]⟩ : ByteArray), .string (⟨#[]⟩ : ByteArray), .string (⟨#[]⟩ : ByteArray), .string (⟨#[]⟩ : ByteArray), .string (⟨#[]⟩ : ByteArray), .string (⟨#[]⟩ : ByteArray)]) ?_ 1 _ rfl; (with_reducible repeat (first | refine blk_drewN ?_ _ | refine blk_drew ?_ | refine blk_alloc ?_ _)); refine blk_put (cs := #[.int .u8 0, .int .u8 0, .int .u8 0, .int .u8 0, .int .u8 0, .string (⟨#[]⟩ : ByteArray), .string (⟨#[]⟩ : ByteArray), .string (⟨#[]⟩ : ByteArray), .string (⟨#[]⟩ : ByteArray), .string (⟨#[]⟩ : ByteArray), .string (⟨#[]⟩ : ByteArray), .string (⟨#[]⟩ : ByteArray), .string (⟨#[]⟩ : ByteArray), .string (⟨#[]⟩ : ByteArray), .string (⟨#[]⟩ : ByteArray)]) ?_ 0 _ rfl; (with_reducible repeat (first | refine blk_drewN ?_ _ | refine blk_drew ?_ | refine blk_alloc ?_ _)); exact BK296.out) hb); have n3_ := Aside0.mk (below_step (by repeat (first | (with_reducible first | exact HB.out | apply below_alloc | apply pw_below_drewN | apply below_drew1 | refine below_set ?_ GE272.out | refine below_set ?_ GE296.out) | exact HB.out)) hb); clear HO279; clear BK272; clear BK296; clear HB; have HO279 := n0_; have BK272 := n1_; have BK296 := n2_; have HB := n3_; clear n0_ n1_ n2_ n3_; (try clear hb); (try clear hb2); (try clear hk); (try clear hi); have hcz31_0 : w30.cell? ⟨gb296, 0, none⟩ = some (.int .u8 t280) := (blk_cell BK296.out 0).trans rfl; have hcz31_1 : w30.cell? ⟨gb296, 1, none⟩ = some (.int .u8 t281) := (blk_cell BK296.out 1).trans rfl; have hcz31_2 : w30.cell? ⟨gb296, 2, none⟩ = some (.int .u8 t282) := (blk_cell BK296.out 2).trans rfl; have hcz31_3 : w30.cell? ⟨gb296, 3, none⟩ = some (.int .u8 t283) := (blk_cell BK296.out 3).trans rfl; have hcz31_4 : w30.cell? ⟨gb296, 4, none⟩ = some (.int .u8 t284) := (blk_cell BK296.out 4).trans rfl; have hcz31_5 : w30.cell? ⟨gb296, 5, none⟩ = some (.string t285) := (blk_cell BK296.out 5).trans rfl; have hcz31_6 : w30.cell? ⟨gb296, 6, none⟩ = some (.string t286) := (blk_cell BK296.out 6).trans rfl; have hcz31_7 : w30.cell? ⟨gb296, 7, none⟩ = some (.string t287) := (blk_cell BK296.out 7).trans rfl; have hcz31_8 : w30.cell? ⟨gb296, 8, none⟩ = some (.string t288) := (blk_cell BK296.out 8).trans rfl; have hcz31_9 : w30.cell? ⟨gb296, 9, none⟩ = some (.string t289) := (blk_cell BK296.out 9).trans rfl; have hcz31_10 : w30.cell? ⟨gb296, 10, none⟩ = some (.string t290) := (blk_cell BK296.out 10).trans rfl; have hcz31_11 : w30.cell? ⟨gb296, 11, none⟩ = some (.string t291) := (blk_cell BK296.out 11).trans rfl; have hcz31_12 : w30.cell? ⟨gb296, 12, none⟩ = some (.string t292) := (blk_cell BK296.out 12).trans rfl; have hcz31_13 : w30.cell? ⟨gb296, 13, none⟩ = some (.string t293) := (blk_cell BK296.out 13).trans rfl; have hcz31_14 : w30.cell? ⟨gb296, 14, none⟩ = some (.string t294) := (blk_cell BK296.out 14).trans rfl; have hfz31_0 := blk_frozen BK296.out 0; have hfz31_1 := blk_frozen BK296.out 1; have hfz31_2 := blk_frozen BK296.out 2; have hfz31_3 := blk_frozen BK296.out 3; have hfz31_4 := blk_frozen BK296.out 4; have hfz31_5 := blk_frozen BK296.out 5; have hfz31_6 := blk_frozen BK296.out 6; have hfz31_7 := blk_frozen BK296.out 7; have hfz31_8 := blk_frozen BK296.out 8; have hfz31_9 := blk_frozen BK296.out 9; have hfz31_10 := blk_frozen BK296.out 10; have hfz31_11 := blk_frozen BK296.out 11; have hfz31_12 := blk_frozen BK296.out 12; have hfz31_13 := blk_frozen BK296.out 13; have hfz31_14 := blk_frozen BK296.out 14; have hcz32_0 : w30.cell? ⟨gb272, 0, none⟩ = some (.int .u8 a0_0) := (blk_cell BK272.out 0).trans rfl; have hcz32_1 : w30.cell? ⟨gb272, 1, none⟩ = some (.int .u8 a0_1) := (blk_cell BK272.out 1).trans rfl; have hcz32_2 : w30.cell? ⟨gb272, 2, none⟩ = some (.int .u8 a0_2) := (blk_cell BK272.out 2).trans rfl; have hcz32_3 : w30.cell? ⟨gb272, 3, none⟩ = some (.int .u8 a0_3) := (blk_cell BK272.out 3).trans rfl; have hcz32_4 : w30.cell? ⟨gb272, 4, none⟩ = some (.int .u8 a0_4) := (blk_cell BK272.out 4).trans rfl; have hcz32_5 : w30.cell? ⟨gb272, 5, none⟩ = some (.string a0_5) := (blk_cell BK272.out 5).trans rfl; have hcz32_6 : w30.cell? ⟨gb272, 6, none⟩ = some (.string a0_6) := (blk_cell BK272.out 6).trans rfl; have hcz32_7 : w30.cell? ⟨gb272, 7, none⟩ = some (.string a0_7) := (blk_cell BK272.out 7).trans rfl; have hcz32_8 : w30.cell? ⟨gb272, 8, none⟩ = some (.string a0_8) := (blk_cell BK272.out 8).trans rfl; have hcz32_9 : w30.cell? ⟨gb272, 9, none⟩ = some (.string a0_9) := (blk_cell BK272.out 9).trans rfl; have hcz32_10 : w30.cell? ⟨gb272, 10, none⟩ = some (.string a0_10) := (blk_cell BK272.out 10).trans rfl; have hcz32_11 : w30.cell? ⟨gb272, 11, none⟩ = some (.string a0_11) := (blk_cell BK272.out 11).trans rfl; have hcz32_12 : w30.cell? ⟨gb272, 12, none⟩ = some (.string a0_12) := (blk_cell BK272.out 12).trans rfl; have hcz32_13 : w30.cell? ⟨gb272, 13, none⟩ = some (.string a0_13) := (blk_cell BK272.out 13).trans rfl; have hcz32_14 : w30.cell? ⟨gb272, 14, none⟩ = some (.string a0_14) := (blk_cell BK272.out 14).trans rfl; have hfz32_0 := blk_frozen BK272.out 0; have hfz32_1 := blk_frozen BK272.out 1; have hfz32_2 := blk_frozen BK272.out 2; have hfz32_3 := blk_frozen BK272.out 3; have hfz32_4 := blk_frozen BK272.out 4; have hfz32_5 := blk_frozen BK272.out 5; have hfz32_6 := blk_frozen BK272.out 6; have hfz32_7 := blk_frozen BK272.out 7; have hfz32_8 := blk_frozen BK272.out 8; have hfz32_9 := blk_frozen BK272.out 9; have hfz32_10 := blk_frozen BK272.out 10; have hfz32_11 := blk_frozen BK272.out 11; have hfz32_12 := blk_frozen BK272.out 12; have hfz32_13 := blk_frozen BK272.out 13; have hfz32_14 := blk_frozen BK272.out 14))
                go_ret
                exact ⟨by first | rfl | (simp [errW_none, errW_some] <;> rfl) | (simp [*, errW_none, errW_some] <;> rfl), by repeat (first | (with_reducible first | exact HB.out | apply below_alloc | apply pw_below_drewN | apply below_drew1 | refine below_set ?_ GE272.out | refine below_set ?_ GE296.out) | exact HB.out)⟩
              · rw [if_neg c21] at H
                have c21b0 : (t295 == 0) = false := beq_eq_false_iff_ne.mpr c21
                have c21b1 : (t295 != 0) = true := bne_iff_ne.mpr c21
                obtain rfl := Option.some.inj H
                cases hrt
            · replace c20 := Bool.eq_false_iff.mpr c20
              subst c20
              have H1 : (some false) = some r := by rw [if_neg (show ¬ (false = true) by decide)] at H; exact H
              clear H
              have H := H1
              clear H1
              obtain rfl := Option.some.inj H
              cases hrt
          · rw [if_neg c16] at H
            exact absurd H (by simp)
        · rw [if_neg c15] at H
          have c15b0 : (t276 == 0) = false := beq_eq_false_iff_ne.mpr c15
          have c15b1 : (t276 != 0) = true := bne_iff_ne.mpr c15
          replace H := Option.bind_eq_some_iff.mp H
          obtain ⟨t298, A510, H⟩ := H
          replace H : (if t298 = true then (if t275.toList = ([] : List UInt8) then (if t276 = 11 then (some true) else (some (t276 == 10))) else (some false)) else (some false)) = some r := H
          have A51 := Aside0.mk A510
          clear A510
          by_cases c52 : t298 = true
          · subst c52
            have H1 : (if t275.toList = ([] : List UInt8) then (if t276 = 11 then (some true) else (some (t276 == 10))) else (some false)) = some r := by rw [if_pos rfl] at H; exact H
            clear H
            have H := H1
            clear H1
            by_cases c53 : t275.toList = ([] : List UInt8)
            · rw [if_pos c53] at H
              have c53b0 : (t275.toList == ([] : List UInt8)) = true := beq_iff_eq.mpr c53
              have c53b1 : (t275.toList != ([] : List UInt8)) = false := bne_eq_false_iff_eq.mpr c53
              clear c53
              by_cases c54 : t276 = 11
              · rw [if_pos c54] at H
                have c54b0 : (t276 == 11) = true := beq_iff_eq.mpr c54
                have c54b1 : (t276 != 11) = false := bne_eq_false_iff_eq.mpr c54
                clear c54
                obtain rfl := Option.some.inj H
                clear hrt
                have hcz55_0 : wc.cell? ⟨gb272, 0, none⟩ = some (.int .u8 a0_0) := (blk_cell BK272.out 0).trans rfl
                have hcz55_1 : wc.cell? ⟨gb272, 1, none⟩ = some (.int .u8 a0_1) := (blk_cell BK272.out 1).trans rfl
                have hcz55_2 : wc.cell? ⟨gb272, 2, none⟩ = some (.int .u8 a0_2) := (blk_cell BK272.out 2).trans rfl
                have hcz55_3 : wc.cell? ⟨gb272, 3, none⟩ = some (.int .u8 a0_3) := (blk_cell BK272.out 3).trans rfl
                have hcz55_4 : wc.cell? ⟨gb272, 4, none⟩ = some (.int .u8 a0_4) := (blk_cell BK272.out 4).trans rfl
                have hcz55_5 : wc.cell? ⟨gb272, 5, none⟩ = some (.string a0_5) := (blk_cell BK272.out 5).trans rfl
                have hcz55_6 : wc.cell? ⟨gb272, 6, none⟩ = some (.string a0_6) := (blk_cell BK272.out 6).trans rfl
                have hcz55_7 : wc.cell? ⟨gb272, 7, none⟩ = some (.string a0_7) := (blk_cell BK272.out 7).trans rfl
                have hcz55_8 : wc.cell? ⟨gb272, 8, none⟩ = some (.string a0_8) := (blk_cell BK272.out 8).trans rfl
                have hcz55_9 : wc.cell? ⟨gb272, 9, none⟩ = some (.string a0_9) := (blk_cell BK272.out 9).trans rfl
                have hcz55_10 : wc.cell? ⟨gb272, 10, none⟩ = some (.string a0_10) := (blk_cell BK272.out 10).trans rfl
                have hcz55_11 : wc.cell? ⟨gb272, 11, none⟩ = some (.string a0_11) := (blk_cell BK272.out 11).trans rfl
                have hcz55_12 : wc.cell? ⟨gb272, 12, none⟩ = some (.string a0_12) := (blk_cell BK272.out 12).trans rfl
                have hcz55_13 : wc.cell? ⟨gb272, 13, none⟩ = some (.string a0_13) := (blk_cell BK272.out 13).trans rfl
                have hcz55_14 : wc.cell? ⟨gb272, 14, none⟩ = some (.string a0_14) := (blk_cell BK272.out 14).trans rfl
                have hfz55_0 := blk_frozen BK272.out 0
                have hfz55_1 := blk_frozen BK272.out 1
                have hfz55_2 := blk_frozen BK272.out 2
                have hfz55_3 := blk_frozen BK272.out 3
                have hfz55_4 := blk_frozen BK272.out 4
                have hfz55_5 := blk_frozen BK272.out 5
                have hfz55_6 := blk_frozen BK272.out 6
                have hfz55_7 := blk_frozen BK272.out 7
                have hfz55_8 := blk_frozen BK272.out 8
                have hfz55_9 := blk_frozen BK272.out 9
                have hfz55_10 := blk_frozen BK272.out 10
                have hfz55_11 := blk_frozen BK272.out 11
                have hfz55_12 := blk_frozen BK272.out 12
                have hfz55_13 := blk_frozen BK272.out 13
                have hfz55_14 := blk_frozen BK272.out 14
                go_wp2_with (first | ((with_reducible refine gate_callee (f := 23) rfl ?_); refine goesL_ (some 19) rfl rfl Tryd.func23 (by kernel_rfl) rfl #[.agg #[.int .u8 a0_0, .int .u8 a0_1, .int .u8 a0_2, .int .u8 a0_3, .int .u8 a0_4, .string a0_5, .string a0_6, .string a0_7, .string a0_8, .string a0_9, .string a0_10, .string a0_11, .string a0_12, .string a0_13, .string a0_14]] rfl (by (try simp only [List.map_toArray, List.map_cons, List.map_nil]); first | done | rfl | (simp only [List.length_drop, List.length_take]; rfl)) ?_; (with_reducible refine (msh_Write.calls kj2 a0_0 a0_1 a0_2 a0_3 a0_4 a0_5 a0_6 a0_7 a0_8 a0_9 a0_10 a0_11 a0_12 a0_13 a0_14 t275 t276 _ A14.out).mono ?_); rintro e w56 ⟨rfl, hb⟩; refine ⟨_, rfl, ?_⟩; have n0_ := Aside0.mk (blk_below (g := gb272) (o := .cells #[.int .u8 a0_0, .int .u8 a0_1, .int .u8 a0_2, .int .u8 a0_3, .int .u8 a0_4, .string a0_5, .string a0_6, .string a0_7, .string a0_8, .string a0_9, .string a0_10, .string a0_11, .string a0_12, .string a0_13, .string a0_14] 25 (0, 0)) (by (with_reducible repeat (first | refine blk_drewN ?_ _ | refine blk_drew ?_ | refine blk_alloc ?_ _)); exact BK272.out) hb); have n1_ := Aside0.mk (below_step (by repeat (first | (with_reducible first | exact HB.out | apply below_alloc | apply pw_below_drewN | apply below_drew1 | refine below_set ?_ GE272.out) | exact HB.out)) hb); clear BK272; clear HB; have BK272 := n0_; have HB := n1_; clear n0_ n1_; (try clear hb); (try clear hb2); (try clear hk); (try clear hi)) | ((with_reducible refine gate_callee (f := 17) rfl ?_); refine goesL_ (some 24) rfl rfl Tryd.func17 (by kernel_rfl) rfl #[] rfl (by (try simp only [List.map_toArray, List.map_cons, List.map_nil]); first | done | rfl | (simp only [List.length_drop, List.length_take]; rfl)) ?_; (with_reducible refine (lamplighterlaw09_alive.calls kj2  true _ A51.out (glob_below HGLOB.out (by repeat (first | (with_reducible first | exact HB.out | apply below_alloc | apply pw_below_drewN | apply below_drew1 | refine below_set ?_ GE272.out) | exact HB.out)))).mono ?_); rintro e w57 ⟨rfl, hb⟩; refine ⟨_, rfl, ?_⟩; have n0_ := Aside0.mk (blk_below (g := gb272) (o := .cells #[.int .u8 a0_0, .int .u8 a0_1, .int .u8 a0_2, .int .u8 a0_3, .int .u8 a0_4, .string a0_5, .string a0_6, .string a0_7, .string a0_8, .string a0_9, .string a0_10, .string a0_11, .string a0_12, .string a0_13, .string a0_14] 25 (0, 0)) (by (with_reducible repeat (first | refine blk_drewN ?_ _ | refine blk_drew ?_ | refine blk_alloc ?_ _)); exact BK272.out) hb); have n1_ := Aside0.mk (below_step (by repeat (first | (with_reducible first | exact HB.out | apply below_alloc | apply pw_below_drewN | apply below_drew1 | refine below_set ?_ GE272.out) | exact HB.out)) hb); clear BK272; clear HB; have BK272 := n0_; have HB := n1_; clear n0_ n1_; (try clear hb); (try clear hb2); (try clear hk); (try clear hi)))
                go_ret
                exact ⟨by first | rfl | (simp [errW_none, errW_some] <;> rfl) | (simp [*, errW_none, errW_some] <;> rfl), by repeat (first | (with_reducible first | exact HB.out | apply below_alloc | apply pw_below_drewN | apply below_drew1 | refine below_set ?_ GE272.out) | exact HB.out)⟩
              · rw [if_neg c54] at H
                have c54b0 : (t276 == 11) = false := beq_eq_false_iff_ne.mpr c54
                have c54b1 : (t276 != 11) = true := bne_iff_ne.mpr c54
                obtain rfl := Option.some.inj H
                clear hrt
                have hcz58_0 : wc.cell? ⟨gb272, 0, none⟩ = some (.int .u8 a0_0) := (blk_cell BK272.out 0).trans rfl
                have hcz58_1 : wc.cell? ⟨gb272, 1, none⟩ = some (.int .u8 a0_1) := (blk_cell BK272.out 1).trans rfl
                have hcz58_2 : wc.cell? ⟨gb272, 2, none⟩ = some (.int .u8 a0_2) := (blk_cell BK272.out 2).trans rfl
                have hcz58_3 : wc.cell? ⟨gb272, 3, none⟩ = some (.int .u8 a0_3) := (blk_cell BK272.out 3).trans rfl
                have hcz58_4 : wc.cell? ⟨gb272, 4, none⟩ = some (.int .u8 a0_4) := (blk_cell BK272.out 4).trans rfl
                have hcz58_5 : wc.cell? ⟨gb272, 5, none⟩ = some (.string a0_5) := (blk_cell BK272.out 5).trans rfl
                have hcz58_6 : wc.cell? ⟨gb272, 6, none⟩ = some (.string a0_6) := (blk_cell BK272.out 6).trans rfl
                have hcz58_7 : wc.cell? ⟨gb272, 7, none⟩ = some (.string a0_7) := (blk_cell BK272.out 7).trans rfl
                have hcz58_8 : wc.cell? ⟨gb272, 8, none⟩ = some (.string a0_8) := (blk_cell BK272.out 8).trans rfl
                have hcz58_9 : wc.cell? ⟨gb272, 9, none⟩ = some (.string a0_9) := (blk_cell BK272.out 9).trans rfl
                have hcz58_10 : wc.cell? ⟨gb272, 10, none⟩ = some (.string a0_10) := (blk_cell BK272.out 10).trans rfl
                have hcz58_11 : wc.cell? ⟨gb272, 11, none⟩ = some (.string a0_11) := (blk_cell BK272.out 11).trans rfl
                have hcz58_12 : wc.cell? ⟨gb272, 12, none⟩ = some (.string a0_12) := (blk_cell BK272.out 12).trans rfl
                have hcz58_13 : wc.cell? ⟨gb272, 13, none⟩ = some (.string a0_13) := (blk_cell BK272.out 13).trans rfl
                have hcz58_14 : wc.cell? ⟨gb272, 14, none⟩ = some (.string a0_14) := (blk_cell BK272.out 14).trans rfl
                have hfz58_0 := blk_frozen BK272.out 0
                have hfz58_1 := blk_frozen BK272.out 1
                have hfz58_2 := blk_frozen BK272.out 2
                have hfz58_3 := blk_frozen BK272.out 3
                have hfz58_4 := blk_frozen BK272.out 4
                have hfz58_5 := blk_frozen BK272.out 5
                have hfz58_6 := blk_frozen BK272.out 6
                have hfz58_7 := blk_frozen BK272.out 7
                have hfz58_8 := blk_frozen BK272.out 8
                have hfz58_9 := blk_frozen BK272.out 9
                have hfz58_10 := blk_frozen BK272.out 10
                have hfz58_11 := blk_frozen BK272.out 11
                have hfz58_12 := blk_frozen BK272.out 12
                have hfz58_13 := blk_frozen BK272.out 13
                have hfz58_14 := blk_frozen BK272.out 14
                go_wp2_with (first | ((with_reducible refine gate_callee (f := 23) rfl ?_); refine goesL_ (some 19) rfl rfl Tryd.func23 (by kernel_rfl) rfl #[.agg #[.int .u8 a0_0, .int .u8 a0_1, .int .u8 a0_2, .int .u8 a0_3, .int .u8 a0_4, .string a0_5, .string a0_6, .string a0_7, .string a0_8, .string a0_9, .string a0_10, .string a0_11, .string a0_12, .string a0_13, .string a0_14]] rfl (by (try simp only [List.map_toArray, List.map_cons, List.map_nil]); first | done | rfl | (simp only [List.length_drop, List.length_take]; rfl)) ?_; (with_reducible refine (msh_Write.calls kj2 a0_0 a0_1 a0_2 a0_3 a0_4 a0_5 a0_6 a0_7 a0_8 a0_9 a0_10 a0_11 a0_12 a0_13 a0_14 t275 t276 _ A14.out).mono ?_); rintro e w59 ⟨rfl, hb⟩; refine ⟨_, rfl, ?_⟩; have n0_ := Aside0.mk (blk_below (g := gb272) (o := .cells #[.int .u8 a0_0, .int .u8 a0_1, .int .u8 a0_2, .int .u8 a0_3, .int .u8 a0_4, .string a0_5, .string a0_6, .string a0_7, .string a0_8, .string a0_9, .string a0_10, .string a0_11, .string a0_12, .string a0_13, .string a0_14] 25 (0, 0)) (by (with_reducible repeat (first | refine blk_drewN ?_ _ | refine blk_drew ?_ | refine blk_alloc ?_ _)); exact BK272.out) hb); have n1_ := Aside0.mk (below_step (by repeat (first | (with_reducible first | exact HB.out | apply below_alloc | apply pw_below_drewN | apply below_drew1 | refine below_set ?_ GE272.out) | exact HB.out)) hb); clear BK272; clear HB; have BK272 := n0_; have HB := n1_; clear n0_ n1_; (try clear hb); (try clear hb2); (try clear hk); (try clear hi)) | ((with_reducible refine gate_callee (f := 17) rfl ?_); refine goesL_ (some 24) rfl rfl Tryd.func17 (by kernel_rfl) rfl #[] rfl (by (try simp only [List.map_toArray, List.map_cons, List.map_nil]); first | done | rfl | (simp only [List.length_drop, List.length_take]; rfl)) ?_; (with_reducible refine (lamplighterlaw09_alive.calls kj2  true _ A51.out (glob_below HGLOB.out (by repeat (first | (with_reducible first | exact HB.out | apply below_alloc | apply pw_below_drewN | apply below_drew1 | refine below_set ?_ GE272.out) | exact HB.out)))).mono ?_); rintro e w60 ⟨rfl, hb⟩; refine ⟨_, rfl, ?_⟩; have n0_ := Aside0.mk (blk_below (g := gb272) (o := .cells #[.int .u8 a0_0, .int .u8 a0_1, .int .u8 a0_2, .int .u8 a0_3, .int .u8 a0_4, .string a0_5, .string a0_6, .string a0_7, .string a0_8, .string a0_9, .string a0_10, .string a0_11, .string a0_12, .string a0_13, .string a0_14] 25 (0, 0)) (by (with_reducible repeat (first | refine blk_drewN ?_ _ | refine blk_drew ?_ | refine blk_alloc ?_ _)); exact BK272.out) hb); have n1_ := Aside0.mk (below_step (by repeat (first | (with_reducible first | exact HB.out | apply below_alloc | apply pw_below_drewN | apply below_drew1 | refine below_set ?_ GE272.out) | exact HB.out)) hb); clear BK272; clear HB; have BK272 := n0_; have HB := n1_; clear n0_ n1_; (try clear hb); (try clear hb2); (try clear hk); (try clear hi)))
                go_ret
                exact ⟨by first | rfl | (simp [errW_none, errW_some] <;> rfl) | (simp [*, errW_none, errW_some] <;> rfl), by repeat (first | (with_reducible first | exact HB.out | apply below_alloc | apply pw_below_drewN | apply below_drew1 | refine below_set ?_ GE272.out) | exact HB.out)⟩
            · rw [if_neg c53] at H
              have c53b0 : (t275.toList == ([] : List UInt8)) = false := beq_eq_false_iff_ne.mpr c53
              have c53b1 : (t275.toList != ([] : List UInt8)) = true := bne_iff_ne.mpr c53
              obtain rfl := Option.some.inj H
              cases hrt
          · replace c52 := Bool.eq_false_iff.mpr c52
            subst c52
            have H1 : (some false) = some r := by rw [if_neg (show ¬ (false = true) by decide)] at H; exact H
            clear H
            have H := H1
            clear H1
            obtain rfl := Option.some.inj H
            cases hrt

-- NOT PRINTED: function 29 (slices_Clone_string_string)

/-! ### msh_Versions: function 21 -/
def msh_Versions.f : Option (List ByteArray) := some versL
set_option maxHeartbeats 1000000 in
theorem msh_Versions.calls (r : List ByteArray) (w : World) (h : msh_Versions.f = some r) (hG : GlobOK w) :
    Calls Tryd.prog 21 #[] w fun e w' => ∃ v0_ : Value, e = .returned (v0_) ∧ Kd.R Kd.string 9 w' w.heap.size (fun _ => True) v0_ r ∧ Below w.heap.size w w' := by
  obtain rfl := Option.some.inj h
  have HG := Lib.hid hG
  clear hG h
  go_enter Tryd.func21, Tryd.ntmps21
  go_wp2_with fail
  refine (Tryd.slices_Clone_string 1 0 10 10 versL _ (by decide) (by decide) (fun j hj => by rw [Nat.zero_add]; exact HG.out j hj)).mono ?_
  rintro e w' ⟨v, rfl, ho, _, hb⟩
  go_wp2_with fail
  refine bodyPost_ret (v := v) (by simp [results, Tryd.results21, go_sem]) rfl ⟨v, rfl, Kd.R_of_own ?_ (fun _ _ => trivial), hb⟩
  exact ho


end Go.Proofs.YtcjcaojgminjpaaDoor.PA
