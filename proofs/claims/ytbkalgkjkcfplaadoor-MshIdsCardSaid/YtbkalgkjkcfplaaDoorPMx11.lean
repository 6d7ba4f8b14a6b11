-- Written by a program of this work (the kit's print, with contracts of this work's own taken in) out of the translation. Not trusted: Lean checks it.
import Derived.Test.YtbkalgkjkcfplaaDoorPMx0
import Derived.Test.YtbkalgkjkcfplaaDoorPMx3
import Derived.Test.YtbkalgkjkcfplaaDoorPMx6
namespace Go.Proofs.YtbkalgkjkcfplaaDoor.PM
open Go.RowKit Go.Proofs.YtbkalgkjkcfplaaDoorW.PrintWords Go.Proofs.YtbkalgkjkcfplaaDoorW.PrintLast Go.Proofs.YtbkalgkjkcfplaaDoorW.PrintMore
attribute [local go_sem] max2_int min2_int max_two min_two max_three min_three max_four min_four   -- for this text's walks alone
set_option linter.unusedVariables false
set_option linter.unusedSimpArgs false

/-! ### lamplighterlaw09_MshIds: function 4 -/
def lamplighterlaw09_MshIds.l0 : Nat → Int → ByteArray → Int → Int → Int → Int → Int → Int → Int → ByteArray → ByteArray → ByteArray → ByteArray → ByteArray → ByteArray → ByteArray → ByteArray → ByteArray → ByteArray → Option (Bool)
  | 0, _, _, _, _, _, _, _, _, _, _, _, _, _, _, _, _, _, _, _ => none
  | k + 1, x0, x1, x12, x13, x262000, x262001, x262002, x262003, x262004, x262005, x262006, x262007, x262008, x262009, x262010, x262011, x262012, x262013, x262014 => if x13 < x12 then (if x262012.size + 1 ≤ 9223372036854775807 then (lamplighterlaw09_MshIds.l0 k x0 x1 x12 ((x13 + 1) % 256) x262000 x262001 x262002 x262003 x262004 x262005 x262006 x262007 x262008 x262009 x262010 x262011 (x262012 ++ (⟨#[55]⟩ : ByteArray)) x262013 x262014) else (none)) else ((msh_Check.f k x262000 x262001 x262002 x262003 x262004 x262005 x262006 x262007 x262008 x262009 x262010 x262011 x262012 x262013 x262014).bind fun t262 => ((lamplighterlaw09_alive.f k).bind fun t263 => (if t263 = true then (if x1.toList = ([] : List UInt8) then (if ((t262 == 0) == false) = true then (if t262 = 0 then (some true) else (some (t262 == 14))) else (some false)) else (if (wrap64 (Int.tmod x0 80)) ≥ 1 then (if ((t262 == 0) == (decide ((wrap64 (Int.tmod x0 80)) ≤ 50))) = true then (if t262 = 0 then (some true) else (some (t262 == 14))) else (some false)) else (if ((t262 == 0) == false) = true then (if t262 = 0 then (some true) else (some (t262 == 14))) else (some false)))) else (some false))))
def lamplighterlaw09_MshIds.f (k : Nat) (a0 : Int) (a1 : ByteArray) : Option (Bool) := lamplighterlaw09_MshIds.l0 k a0 a1 (Int.tmod a0 80) 0 124 94 126 92 38 (⟨#[]⟩ : ByteArray) (⟨#[]⟩ : ByteArray) (⟨#[]⟩ : ByteArray) (⟨#[]⟩ : ByteArray) (⟨#[]⟩ : ByteArray) (⟨#[]⟩ : ByteArray) a1 (⟨#[]⟩ : ByteArray) (⟨#[80]⟩ : ByteArray) (⟨#[50, 46, 53]⟩ : ByteArray)
theorem lamplighterlaw09_MshIds.mono_l : ∀ k, (∀ y0 y1 y2 y3 y4 y5 y6 y7 y8 y9 y10 y11 y12 y13 y14 y15 y16 y17 y18, LeO (lamplighterlaw09_MshIds.l0 k y0 y1 y2 y3 y4 y5 y6 y7 y8 y9 y10 y11 y12 y13 y14 y15 y16 y17 y18) (lamplighterlaw09_MshIds.l0 (k + 1) y0 y1 y2 y3 y4 y5 y6 y7 y8 y9 y10 y11 y12 y13 y14 y15 y16 y17 y18))
  | 0 => fun _ _ _ _ _ _ _ _ _ _ _ _ _ _ _ _ _ _ _ r h => by simp [lamplighterlaw09_MshIds.l0] at h
  | k + 1 => by
    have ih0 := lamplighterlaw09_MshIds.mono_l k
    · intro y0 y1 y2 y3 y4 y5 y6 y7 y8 y9 y10 y11 y12 y13 y14 y15 y16 y17 y18
      unfold lamplighterlaw09_MshIds.l0
      repeat' first
      | (with_reducible exact ih0 _ _ _ _ _ _ _ _ _ _ _ _ _ _ _ _ _ _ _)
      | (with_reducible exact lamplighterlaw09_alive.mono _)
      | (with_reducible exact msh_Check.mono _ _ _ _ _ _ _ _ _ _ _ _ _ _ _ _)
      | (with_reducible exact LeO.refl _)
      | (with_reducible exact LeO.none _)
      | (with_reducible refine LeO.ite ?_ ?_)
      | (with_reducible refine LeO.bind ?_ (fun _ => ?_))
      | exact ih0 _ _ _ _ _ _ _ _ _ _ _ _ _ _ _ _ _ _ _
      | exact lamplighterlaw09_alive.mono _
      | exact msh_Check.mono _ _ _ _ _ _ _ _ _ _ _ _ _ _ _ _
      | exact LeO.none _
      | refine LeO.ite ?_ ?_
      | refine LeO.bind ?_ (fun _ => ?_)
theorem lamplighterlaw09_MshIds.mono : ∀ a0 a1 k, LeO (lamplighterlaw09_MshIds.f k a0 a1) (lamplighterlaw09_MshIds.f (k + 1) a0 a1) := by
  intro a0 a1 k
  have ih0 := lamplighterlaw09_MshIds.mono_l k
  unfold lamplighterlaw09_MshIds.f
  repeat' first
      | (with_reducible exact ih0 _ _ _ _ _ _ _ _ _ _ _ _ _ _ _ _ _ _ _)
      | (with_reducible exact lamplighterlaw09_alive.mono _)
      | (with_reducible exact msh_Check.mono _ _ _ _ _ _ _ _ _ _ _ _ _ _ _ _)
      | (with_reducible exact LeO.refl _)
      | (with_reducible exact LeO.none _)
      | (with_reducible refine LeO.ite ?_ ?_)
      | (with_reducible refine LeO.bind ?_ (fun _ => ?_))
      | exact ih0 _ _ _ _ _ _ _ _ _ _ _ _ _ _ _ _ _ _ _
      | exact lamplighterlaw09_alive.mono _
      | exact msh_Check.mono _ _ _ _ _ _ _ _ _ _ _ _ _ _ _ _
      | exact LeO.none _
      | refine LeO.ite ?_ ?_
      | refine LeO.bind ?_ (fun _ => ?_)
set_option maxHeartbeats 8000000 in
set_option maxRecDepth 100000 in
theorem lamplighterlaw09_MshIds.calls (k : Nat) (a0 : Int) (a1 : ByteArray) (r : Bool) (w : World) (h : lamplighterlaw09_MshIds.f k a0 a1 = some r) (hG : GlobOK w) :
    Calls Tryd.prog 4 #[.int .u8 a0, .string a1] w fun e w' => e = .returned (.bool r) ∧ Below w.heap.size w w' := by
  have HGLOB := Lib.hid hG
  clear hG
  have hu25 := Tryd.underlying25
  have hu27 := Tryd.underlying27
  have HB := Aside0.mk (Below.refl w.heap.size w)
  have H : (lamplighterlaw09_MshIds.l0 k a0 a1 (Int.tmod a0 80) 0 124 94 126 92 38 (⟨#[]⟩ : ByteArray) (⟨#[]⟩ : ByteArray) (⟨#[]⟩ : ByteArray) (⟨#[]⟩ : ByteArray) (⟨#[]⟩ : ByteArray) (⟨#[]⟩ : ByteArray) a1 (⟨#[]⟩ : ByteArray) (⟨#[80]⟩ : ByteArray) (⟨#[50, 46, 53]⟩ : ByteArray)) = some r := h
  clear h
  have H' := Aside0.mk H
  clear H
  go_enter Tryd.func4, Tryd.ntmps4
  go_wp2_with (first | ((with_reducible refine gate_dst (N := 5) rfl ?_); refine box_event ?hg (N := 5) ?hd (cs := #[.int .u8 0, .int .u8 0, .int .u8 0, .int .u8 0, .int .u8 0, .string (⟨#[]⟩ : ByteArray), .string (⟨#[]⟩ : ByteArray), .string (⟨#[]⟩ : ByteArray), .string (⟨#[]⟩ : ByteArray), .string (⟨#[]⟩ : ByteArray), .string (⟨#[]⟩ : ByteArray), .string (⟨#[]⟩ : ByteArray), .string (⟨#[]⟩ : ByteArray), .string (⟨#[]⟩ : ByteArray), .string (⟨#[]⟩ : ByteArray)]) (t := 27) ?hr ?_; (case hd => rfl); (case hg => rfl); (case hr => first | (go_simp; done) | (go_simp; rfl)); intro gb261 hg w3 hbox hb; have n0_ := Aside0.mk (below_step (by repeat (first | (with_reducible first | exact HB.out | apply below_alloc | apply pw_below_drewN | apply below_drew1) | exact HB.out)) hb); have n1_ := Aside0.mk (hbox); have n2_ := Aside0.mk ((by rw [hg]; exact (below_size (by repeat (first | (with_reducible first | exact HB.out | apply below_alloc | apply pw_below_drewN | apply below_drew1) | exact HB.out))) : w.heap.size ≤ gb261)); have n3_ := Aside0.mk ((by rw [hg]; exact (below_size (by repeat (first | (with_reducible first | exact HB.out | apply below_alloc | apply pw_below_drewN | apply below_drew1) | exact HB.out))) : w.heap.size ≤ gb261)); clear HB; have HB := n0_; have BK261 := n1_; have GW261 := n2_; have GE261 := n3_; clear n0_ n1_ n2_ n3_; clear hb hbox hg; have hcz4_0 : w3.cell? ⟨gb261, 0, none⟩ = some (.int .u8 0) := (blk_cell BK261.out 0).trans rfl; have hcz4_1 : w3.cell? ⟨gb261, 1, none⟩ = some (.int .u8 0) := (blk_cell BK261.out 1).trans rfl; have hcz4_2 : w3.cell? ⟨gb261, 2, none⟩ = some (.int .u8 0) := (blk_cell BK261.out 2).trans rfl; have hcz4_3 : w3.cell? ⟨gb261, 3, none⟩ = some (.int .u8 0) := (blk_cell BK261.out 3).trans rfl; have hcz4_4 : w3.cell? ⟨gb261, 4, none⟩ = some (.int .u8 0) := (blk_cell BK261.out 4).trans rfl; have hcz4_5 : w3.cell? ⟨gb261, 5, none⟩ = some (.string (⟨#[]⟩ : ByteArray)) := (blk_cell BK261.out 5).trans rfl; have hcz4_6 : w3.cell? ⟨gb261, 6, none⟩ = some (.string (⟨#[]⟩ : ByteArray)) := (blk_cell BK261.out 6).trans rfl; have hcz4_7 : w3.cell? ⟨gb261, 7, none⟩ = some (.string (⟨#[]⟩ : ByteArray)) := (blk_cell BK261.out 7).trans rfl; have hcz4_8 : w3.cell? ⟨gb261, 8, none⟩ = some (.string (⟨#[]⟩ : ByteArray)) := (blk_cell BK261.out 8).trans rfl; have hcz4_9 : w3.cell? ⟨gb261, 9, none⟩ = some (.string (⟨#[]⟩ : ByteArray)) := (blk_cell BK261.out 9).trans rfl; have hcz4_10 : w3.cell? ⟨gb261, 10, none⟩ = some (.string (⟨#[]⟩ : ByteArray)) := (blk_cell BK261.out 10).trans rfl; have hcz4_11 : w3.cell? ⟨gb261, 11, none⟩ = some (.string (⟨#[]⟩ : ByteArray)) := (blk_cell BK261.out 11).trans rfl; have hcz4_12 : w3.cell? ⟨gb261, 12, none⟩ = some (.string (⟨#[]⟩ : ByteArray)) := (blk_cell BK261.out 12).trans rfl; have hcz4_13 : w3.cell? ⟨gb261, 13, none⟩ = some (.string (⟨#[]⟩ : ByteArray)) := (blk_cell BK261.out 13).trans rfl; have hcz4_14 : w3.cell? ⟨gb261, 14, none⟩ = some (.string (⟨#[]⟩ : ByteArray)) := (blk_cell BK261.out 14).trans rfl; have hfz4_0 := blk_frozen BK261.out 0; have hfz4_1 := blk_frozen BK261.out 1; have hfz4_2 := blk_frozen BK261.out 2; have hfz4_3 := blk_frozen BK261.out 3; have hfz4_4 := blk_frozen BK261.out 4; have hfz4_5 := blk_frozen BK261.out 5; have hfz4_6 := blk_frozen BK261.out 6; have hfz4_7 := blk_frozen BK261.out 7; have hfz4_8 := blk_frozen BK261.out 8; have hfz4_9 := blk_frozen BK261.out 9; have hfz4_10 := blk_frozen BK261.out 10; have hfz4_11 := blk_frozen BK261.out 11; have hfz4_12 := blk_frozen BK261.out 12; have hfz4_13 := blk_frozen BK261.out 13; have hfz4_14 := blk_frozen BK261.out 14))
  go_loopg [13] k (fun kq v13 w' => ∃ (x13_1 : Int) (x262012_1 : ByteArray), v13 = .int .u8 x13_1 ∧ Aside0 (lamplighterlaw09_MshIds.l0 kq a0 a1 (Int.tmod a0 80) x13_1 124 94 126 92 38 (⟨#[]⟩ : ByteArray) (⟨#[]⟩ : ByteArray) (⟨#[]⟩ : ByteArray) (⟨#[]⟩ : ByteArray) (⟨#[]⟩ : ByteArray) (⟨#[]⟩ : ByteArray) a1 x262012_1 (⟨#[80]⟩ : ByteArray) (⟨#[50, 46, 53]⟩ : ByteArray) = some r) ∧ Aside0 (kq ≤ k) ∧ Aside0 (w'.heap[gb261]? = some (.cells #[.int .u8 124, .int .u8 94, .int .u8 126, .int .u8 92, .int .u8 38, .string (⟨#[]⟩ : ByteArray), .string (⟨#[]⟩ : ByteArray), .string (⟨#[]⟩ : ByteArray), .string (⟨#[]⟩ : ByteArray), .string (⟨#[]⟩ : ByteArray), .string (⟨#[]⟩ : ByteArray), .string a1, .string x262012_1, .string (⟨#[80]⟩ : ByteArray), .string (⟨#[50, 46, 53]⟩ : ByteArray)] 27 (0, 0))) ∧ Aside0 (Below w.heap.size w w'))
  case atStart => exact ⟨(0), ((⟨#[]⟩ : ByteArray)), (by first | rfl | (simp; done) | (simp [*]; done)), H', ⟨Nat.le_refl _⟩, ⟨by (with_reducible repeat (first | refine blk_drewN ?_ _ | refine blk_drew ?_ | refine blk_alloc ?_ _)); refine blk_put (cs := #[.int .u8 124, .int .u8 94, .int .u8 126, .int .u8 92, .int .u8 38, .string (⟨#[]⟩ : ByteArray), .string (⟨#[]⟩ : ByteArray), .string (⟨#[]⟩ : ByteArray), .string (⟨#[]⟩ : ByteArray), .string (⟨#[]⟩ : ByteArray), .string (⟨#[]⟩ : ByteArray), .string a1, .string (⟨#[]⟩ : ByteArray), .string (⟨#[80]⟩ : ByteArray), .string (⟨#[]⟩ : ByteArray)]) ?_ 14 _ rfl; (with_reducible repeat (first | refine blk_drewN ?_ _ | refine blk_drew ?_ | refine blk_alloc ?_ _)); refine blk_put (cs := #[.int .u8 124, .int .u8 94, .int .u8 126, .int .u8 92, .int .u8 38, .string (⟨#[]⟩ : ByteArray), .string (⟨#[]⟩ : ByteArray), .string (⟨#[]⟩ : ByteArray), .string (⟨#[]⟩ : ByteArray), .string (⟨#[]⟩ : ByteArray), .string (⟨#[]⟩ : ByteArray), .string a1, .string (⟨#[]⟩ : ByteArray), .string (⟨#[]⟩ : ByteArray), .string (⟨#[]⟩ : ByteArray)]) ?_ 13 _ rfl; (with_reducible repeat (first | refine blk_drewN ?_ _ | refine blk_drew ?_ | refine blk_alloc ?_ _)); refine blk_put (cs := #[.int .u8 124, .int .u8 94, .int .u8 126, .int .u8 92, .int .u8 38, .string (⟨#[]⟩ : ByteArray), .string (⟨#[]⟩ : ByteArray), .string (⟨#[]⟩ : ByteArray), .string (⟨#[]⟩ : ByteArray), .string (⟨#[]⟩ : ByteArray), .string (⟨#[]⟩ : ByteArray), .string a1, .string (⟨#[]⟩ : ByteArray), .string (⟨#[]⟩ : ByteArray), .string (⟨#[]⟩ : ByteArray)]) ?_ 12 _ rfl; (with_reducible repeat (first | refine blk_drewN ?_ _ | refine blk_drew ?_ | refine blk_alloc ?_ _)); refine blk_put (cs := #[.int .u8 124, .int .u8 94, .int .u8 126, .int .u8 92, .int .u8 38, .string (⟨#[]⟩ : ByteArray), .string (⟨#[]⟩ : ByteArray), .string (⟨#[]⟩ : ByteArray), .string (⟨#[]⟩ : ByteArray), .string (⟨#[]⟩ : ByteArray), .string (⟨#[]⟩ : ByteArray), .string (⟨#[]⟩ : ByteArray), .string (⟨#[]⟩ : ByteArray), .string (⟨#[]⟩ : ByteArray), .string (⟨#[]⟩ : ByteArray)]) ?_ 11 _ rfl; (with_reducible repeat (first | refine blk_drewN ?_ _ | refine blk_drew ?_ | refine blk_alloc ?_ _)); refine blk_put (cs := #[.int .u8 124, .int .u8 94, .int .u8 126, .int .u8 92, .int .u8 38, .string (⟨#[]⟩ : ByteArray), .string (⟨#[]⟩ : ByteArray), .string (⟨#[]⟩ : ByteArray), .string (⟨#[]⟩ : ByteArray), .string (⟨#[]⟩ : ByteArray), .string (⟨#[]⟩ : ByteArray), .string (⟨#[]⟩ : ByteArray), .string (⟨#[]⟩ : ByteArray), .string (⟨#[]⟩ : ByteArray), .string (⟨#[]⟩ : ByteArray)]) ?_ 10 _ rfl; (with_reducible repeat (first | refine blk_drewN ?_ _ | refine blk_drew ?_ | refine blk_alloc ?_ _)); refine blk_put (cs := #[.int .u8 124, .int .u8 94, .int .u8 126, .int .u8 92, .int .u8 38, .string (⟨#[]⟩ : ByteArray), .string (⟨#[]⟩ : ByteArray), .string (⟨#[]⟩ : ByteArray), .string (⟨#[]⟩ : ByteArray), .string (⟨#[]⟩ : ByteArray), .string (⟨#[]⟩ : ByteArray), .string (⟨#[]⟩ : ByteArray), .string (⟨#[]⟩ : ByteArray), .string (⟨#[]⟩ : ByteArray), .string (⟨#[]⟩ : ByteArray)]) ?_ 9 _ rfl; (with_reducible repeat (first | refine blk_drewN ?_ _ | refine blk_drew ?_ | refine blk_alloc ?_ _)); refine blk_put (cs := #[.int .u8 124, .int .u8 94, .int .u8 126, .int .u8 92, .int .u8 38, .string (⟨#[]⟩ : ByteArray), .string (⟨#[]⟩ : ByteArray), .string (⟨#[]⟩ : ByteArray), .string (⟨#[]⟩ : ByteArray), .string (⟨#[]⟩ : ByteArray), .string (⟨#[]⟩ : ByteArray), .string (⟨#[]⟩ : ByteArray), .string (⟨#[]⟩ : ByteArray), .string (⟨#[]⟩ : ByteArray), .string (⟨#[]⟩ : ByteArray)]) ?_ 8 _ rfl; (with_reducible repeat (first | refine blk_drewN ?_ _ | refine blk_drew ?_ | refine blk_alloc ?_ _)); refine blk_put (cs := #[.int .u8 124, .int .u8 94, .int .u8 126, .int .u8 92, .int .u8 38, .string (⟨#[]⟩ : ByteArray), .string (⟨#[]⟩ : ByteArray), .string (⟨#[]⟩ : ByteArray), .string (⟨#[]⟩ : ByteArray), .string (⟨#[]⟩ : ByteArray), .string (⟨#[]⟩ : ByteArray), .string (⟨#[]⟩ : ByteArray), .string (⟨#[]⟩ : ByteArray), .string (⟨#[]⟩ : ByteArray), .string (⟨#[]⟩ : ByteArray)]) ?_ 7 _ rfl; (with_reducible repeat (first | refine blk_drewN ?_ _ | refine blk_drew ?_ | refine blk_alloc ?_ _)); refine blk_put (cs := #[.int .u8 124, .int .u8 94, .int .u8 126, .int .u8 92, .int .u8 38, .string (⟨#[]⟩ : ByteArray), .string (⟨#[]⟩ : ByteArray), .string (⟨#[]⟩ : ByteArray), .string (⟨#[]⟩ : ByteArray), .string (⟨#[]⟩ : ByteArray), .string (⟨#[]⟩ : ByteArray), .string (⟨#[]⟩ : ByteArray), .string (⟨#[]⟩ : ByteArray), .string (⟨#[]⟩ : ByteArray), .string (⟨#[]⟩ : ByteArray)]) ?_ 6 _ rfl; (with_reducible repeat (first | refine blk_drewN ?_ _ | refine blk_drew ?_ | refine blk_alloc ?_ _)); refine blk_put (cs := #[.int .u8 124, .int .u8 94, .int .u8 126, .int .u8 92, .int .u8 38, .string (⟨#[]⟩ : ByteArray), .string (⟨#[]⟩ : ByteArray), .string (⟨#[]⟩ : ByteArray), .string (⟨#[]⟩ : ByteArray), .string (⟨#[]⟩ : ByteArray), .string (⟨#[]⟩ : ByteArray), .string (⟨#[]⟩ : ByteArray), .string (⟨#[]⟩ : ByteArray), .string (⟨#[]⟩ : ByteArray), .string (⟨#[]⟩ : ByteArray)]) ?_ 5 _ rfl; (with_reducible repeat (first | refine blk_drewN ?_ _ | refine blk_drew ?_ | refine blk_alloc ?_ _)); refine blk_put (cs := #[.int .u8 124, .int .u8 94, .int .u8 126, .int .u8 92, .int .u8 0, .string (⟨#[]⟩ : ByteArray), .string (⟨#[]⟩ : ByteArray), .string (⟨#[]⟩ : ByteArray), .string (⟨#[]⟩ : ByteArray), .string (⟨#[]⟩ : ByteArray), .string (⟨#[]⟩ : ByteArray), .string (⟨#[]⟩ : ByteArray), .string (⟨#[]⟩ : ByteArray), .string (⟨#[]⟩ : ByteArray), .string (⟨#[]⟩ : ByteArray)]) ?_ 4 _ rfl; (with_reducible repeat (first | refine blk_drewN ?_ _ | refine blk_drew ?_ | refine blk_alloc ?_ _)); refine blk_put (cs := #[.int .u8 124, .int .u8 94, .int .u8 126, .int .u8 0, .int .u8 0, .string (⟨#[]⟩ : ByteArray), .string (⟨#[]⟩ : ByteArray), .string (⟨#[]⟩ : ByteArray), .string (⟨#[]⟩ : ByteArray), .string (⟨#[]⟩ : ByteArray), .string (⟨#[]⟩ : ByteArray), .string (⟨#[]⟩ : ByteArray), .string (⟨#[]⟩ : ByteArray), .string (⟨#[]⟩ : ByteArray), .string (⟨#[]⟩ : ByteArray)]) ?_ 3 _ rfl; (with_reducible repeat (first | refine blk_drewN ?_ _ | refine blk_drew ?_ | refine blk_alloc ?_ _)); refine blk_put (cs := #[.int .u8 124, .int .u8 94, .int .u8 0, .int .u8 0, .int .u8 0, .string (⟨#[]⟩ : ByteArray), .string (⟨#[]⟩ : ByteArray), .string (⟨#[]⟩ : ByteArray), .string (⟨#[]⟩ : ByteArray), .string (⟨#[]⟩ : ByteArray), .string (⟨#[]⟩ : ByteArray), .string (⟨#[]⟩ : ByteArray), .string (⟨#[]⟩ : ByteArray), .string (⟨#[]⟩ : ByteArray), .string (⟨#[]⟩ : ByteArray)]) ?_ 2 _ rfl; (with_reducible repeat (first | refine blk_drewN ?_ _ | refine blk_drew ?_ | refine blk_alloc ?_ _)); refine blk_put (cs := #[.int .u8 124, .int .u8 0, .int .u8 0, .int .u8 0, .int .u8 0, .string (⟨#[]⟩ : ByteArray), .string (⟨#[]⟩ : ByteArray), .string (⟨#[]⟩ : ByteArray), .string (⟨#[]⟩ : ByteArray), .string (⟨#[]⟩ : ByteArray), .string (⟨#[]⟩ : ByteArray), .string (⟨#[]⟩ : ByteArray), .string (⟨#[]⟩ : ByteArray), .string (⟨#[]⟩ : ByteArray), .string (⟨#[]⟩ : ByteArray)]) ?_ 1 _ rfl; (with_reducible repeat (first | refine blk_drewN ?_ _ | refine blk_drew ?_ | refine blk_alloc ?_ _)); refine blk_put (cs := #[.int .u8 0, .int .u8 0, .int .u8 0, .int .u8 0, .int .u8 0, .string (⟨#[]⟩ : ByteArray), .string (⟨#[]⟩ : ByteArray), .string (⟨#[]⟩ : ByteArray), .string (⟨#[]⟩ : ByteArray), .string (⟨#[]⟩ : ByteArray), .string (⟨#[]⟩ : ByteArray), .string (⟨#[]⟩ : ByteArray), .string (⟨#[]⟩ : ByteArray), .string (⟨#[]⟩ : ByteArray), .string (⟨#[]⟩ : ByteArray)]) ?_ 0 _ rfl; (with_reducible repeat (first | refine blk_drewN ?_ _ | refine blk_drew ?_ | refine blk_alloc ?_ _)); exact BK261.out⟩, ⟨by repeat (first | (with_reducible first | exact HB.out | apply below_alloc | apply pw_below_drewN | apply below_drew1 | refine below_set ?_ GE261.out) | exact HB.out)⟩⟩
  case round =>
    clear H'
    try clear p2
    try clear c4
    try clear hcz4_0
    try clear hcz4_1
    try clear hcz4_10
    try clear hcz4_11
    try clear hcz4_12
    try clear hcz4_13
    try clear hcz4_14
    try clear hcz4_2
    try clear hcz4_3
    try clear hcz4_4
    try clear hcz4_5
    try clear hcz4_6
    try clear hcz4_7
    try clear hcz4_8
    try clear hcz4_9
    try clear hfz4_0
    try clear hfz4_1
    try clear hfz4_10
    try clear hfz4_11
    try clear hfz4_12
    try clear hfz4_13
    try clear hfz4_14
    try clear hfz4_2
    try clear hfz4_3
    try clear hfz4_4
    try clear hfz4_5
    try clear hfz4_6
    try clear hfz4_7
    try clear hfz4_8
    try clear hfz4_9
    obtain ⟨x13_1, x262012_1, rfl, HA, HK1, BK261, HB⟩ := hrel
    cases gk with
    | zero => exact absurd HA.out (by simp [lamplighterlaw09_MshIds.l0])
    | succ k1 =>
      have H := HA.out
      clear HA
      simp only [lamplighterlaw09_MshIds.l0] at H
      by_cases c5 : x13_1 < (Int.tmod a0 80)
      · rw [if_pos c5] at H
        have c5b0 : decide (x13_1 < (Int.tmod a0 80)) = true := decide_eq_true c5
        clear c5
        by_cases c6 : x262012_1.size + 1 ≤ 9223372036854775807
        · rw [if_pos c6] at H
          have c6b0 := eq_true c6
          have c6b1 : decide (x262012_1.size + 1 ≤ 9223372036854775807) = true := decide_eq_true c6
          try have c6b2 : (9223372036854775807 < x262012_1.size + 1) = False := eq_false (Nat.not_lt.2 c6)
          try (have c6b4 := c6b2; simp only [ByteArray.size_append] at c6b4)
          have H' := Aside0.mk H
          clear H
          have hcz7_0 : wr.cell? ⟨gb261, 0, none⟩ = some (.int .u8 124) := (blk_cell BK261.out 0).trans rfl
          have hcz7_1 : wr.cell? ⟨gb261, 1, none⟩ = some (.int .u8 94) := (blk_cell BK261.out 1).trans rfl
          have hcz7_2 : wr.cell? ⟨gb261, 2, none⟩ = some (.int .u8 126) := (blk_cell BK261.out 2).trans rfl
          have hcz7_3 : wr.cell? ⟨gb261, 3, none⟩ = some (.int .u8 92) := (blk_cell BK261.out 3).trans rfl
          have hcz7_4 : wr.cell? ⟨gb261, 4, none⟩ = some (.int .u8 38) := (blk_cell BK261.out 4).trans rfl
          have hcz7_5 : wr.cell? ⟨gb261, 5, none⟩ = some (.string (⟨#[]⟩ : ByteArray)) := (blk_cell BK261.out 5).trans rfl
          have hcz7_6 : wr.cell? ⟨gb261, 6, none⟩ = some (.string (⟨#[]⟩ : ByteArray)) := (blk_cell BK261.out 6).trans rfl
          have hcz7_7 : wr.cell? ⟨gb261, 7, none⟩ = some (.string (⟨#[]⟩ : ByteArray)) := (blk_cell BK261.out 7).trans rfl
          have hcz7_8 : wr.cell? ⟨gb261, 8, none⟩ = some (.string (⟨#[]⟩ : ByteArray)) := (blk_cell BK261.out 8).trans rfl
          have hcz7_9 : wr.cell? ⟨gb261, 9, none⟩ = some (.string (⟨#[]⟩ : ByteArray)) := (blk_cell BK261.out 9).trans rfl
          have hcz7_10 : wr.cell? ⟨gb261, 10, none⟩ = some (.string (⟨#[]⟩ : ByteArray)) := (blk_cell BK261.out 10).trans rfl
          have hcz7_11 : wr.cell? ⟨gb261, 11, none⟩ = some (.string a1) := (blk_cell BK261.out 11).trans rfl
          have hcz7_12 : wr.cell? ⟨gb261, 12, none⟩ = some (.string x262012_1) := (blk_cell BK261.out 12).trans rfl
          have hcz7_13 : wr.cell? ⟨gb261, 13, none⟩ = some (.string (⟨#[80]⟩ : ByteArray)) := (blk_cell BK261.out 13).trans rfl
          have hcz7_14 : wr.cell? ⟨gb261, 14, none⟩ = some (.string (⟨#[50, 46, 53]⟩ : ByteArray)) := (blk_cell BK261.out 14).trans rfl
          have hfz7_0 := blk_frozen BK261.out 0
          have hfz7_1 := blk_frozen BK261.out 1
          have hfz7_2 := blk_frozen BK261.out 2
          have hfz7_3 := blk_frozen BK261.out 3
          have hfz7_4 := blk_frozen BK261.out 4
          have hfz7_5 := blk_frozen BK261.out 5
          have hfz7_6 := blk_frozen BK261.out 6
          have hfz7_7 := blk_frozen BK261.out 7
          have hfz7_8 := blk_frozen BK261.out 8
          have hfz7_9 := blk_frozen BK261.out 9
          have hfz7_10 := blk_frozen BK261.out 10
          have hfz7_11 := blk_frozen BK261.out 11
          have hfz7_12 := blk_frozen BK261.out 12
          have hfz7_13 := blk_frozen BK261.out 13
          have hfz7_14 := blk_frozen BK261.out 14
          go_wp2
          go_roundg k1
          case measure => have := HK1.out; omega
          case rel => exact ⟨((x13_1 + 1) % 256), (x262012_1 ++ (⟨#[55]⟩ : ByteArray)), (by first | rfl | (simp; done) | (simp [*]; done)), H', ⟨by have := HK1.out; omega⟩, ⟨by (with_reducible repeat (first | refine blk_drewN ?_ _ | refine blk_drew ?_ | refine blk_alloc ?_ _)); refine blk_put (cs := #[.int .u8 124, .int .u8 94, .int .u8 126, .int .u8 92, .int .u8 38, .string (⟨#[]⟩ : ByteArray), .string (⟨#[]⟩ : ByteArray), .string (⟨#[]⟩ : ByteArray), .string (⟨#[]⟩ : ByteArray), .string (⟨#[]⟩ : ByteArray), .string (⟨#[]⟩ : ByteArray), .string a1, .string x262012_1, .string (⟨#[80]⟩ : ByteArray), .string (⟨#[50, 46, 53]⟩ : ByteArray)]) ?_ 12 _ rfl; (with_reducible repeat (first | refine blk_drewN ?_ _ | refine blk_drew ?_ | refine blk_alloc ?_ _)); exact BK261.out⟩, ⟨by repeat (first | (with_reducible first | exact HB.out | apply below_alloc | apply pw_below_drewN | apply below_drew1 | refine below_set ?_ GE261.out) | exact HB.out)⟩⟩
        · rw [if_neg c6] at H
          exact absurd H (by simp)
      · rw [if_neg c5] at H
        have c5b0 : decide (x13_1 < (Int.tmod a0 80)) = false := decide_eq_false c5
        clear c5
        replace H := Option.bind_eq_some_iff.mp H
        obtain ⟨t262, A80, H⟩ := H
        replace H : ((lamplighterlaw09_alive.f k1).bind fun t263 => (if t263 = true then (if a1.toList = ([] : List UInt8) then (if ((t262 == 0) == false) = true then (if t262 = 0 then (some true) else (some (t262 == 14))) else (some false)) else (if (wrap64 (Int.tmod a0 80)) ≥ 1 then (if ((t262 == 0) == (decide ((wrap64 (Int.tmod a0 80)) ≤ 50))) = true then (if t262 = 0 then (some true) else (some (t262 == 14))) else (some false)) else (if ((t262 == 0) == false) = true then (if t262 = 0 then (some true) else (some (t262 == 14))) else (some false)))) else (some false))) = some r := H
        have A8 := Aside0.mk A80
        clear A80
        replace H := Option.bind_eq_some_iff.mp H
        obtain ⟨t263, A90, H⟩ := H
        replace H : (if t263 = true then (if a1.toList = ([] : List UInt8) then (if ((t262 == 0) == false) = true then (if t262 = 0 then (some true) else (some (t262 == 14))) else (some false)) else (if (wrap64 (Int.tmod a0 80)) ≥ 1 then (if ((t262 == 0) == (decide ((wrap64 (Int.tmod a0 80)) ≤ 50))) = true then (if t262 = 0 then (some true) else (some (t262 == 14))) else (some false)) else (if ((t262 == 0) == false) = true then (if t262 = 0 then (some true) else (some (t262 == 14))) else (some false)))) else (some false)) = some r := H
        have A9 := Aside0.mk A90
        clear A90
        by_cases c10 : t263 = true
        · subst c10
          have H1 : (if a1.toList = ([] : List UInt8) then (if ((t262 == 0) == false) = true then (if t262 = 0 then (some true) else (some (t262 == 14))) else (some false)) else (if (wrap64 (Int.tmod a0 80)) ≥ 1 then (if ((t262 == 0) == (decide ((wrap64 (Int.tmod a0 80)) ≤ 50))) = true then (if t262 = 0 then (some true) else (some (t262 == 14))) else (some false)) else (if ((t262 == 0) == false) = true then (if t262 = 0 then (some true) else (some (t262 == 14))) else (some false)))) = some r := by rw [if_pos rfl] at H; exact H
          clear H
          have H := H1
          clear H1
          by_cases c11 : a1.toList = ([] : List UInt8)
          · rw [if_pos c11] at H
            have c11b0 : (a1.toList == ([] : List UInt8)) = true := beq_iff_eq.mpr c11
            have c11b1 : (a1.toList != ([] : List UInt8)) = false := bne_eq_false_iff_eq.mpr c11
            clear c11
            by_cases c12 : ((t262 == 0) == false) = true
            · rw [if_pos c12] at H
              have c12b0 : ((t262 == 0) == false) = true := c12
              (try (have c12b1 : decide ((t262 == 0) = false) = true := by simpa using c12))
              (try (have c12b2 : ((t262 == 0) == false) = true := by simpa using c12))
              clear c12
              by_cases c13 : t262 = 0
              · rw [if_pos c13] at H
                have c13b0 : (t262 == 0) = true := beq_iff_eq.mpr c13
                exact absurd c12b0 (by rw [c13b0]; decide)
              · rw [if_neg c13] at H
                have c13b0 : (t262 == 0) = false := beq_eq_false_iff_ne.mpr c13
                have c13b1 : (t262 != 0) = true := bne_iff_ne.mpr c13
                obtain rfl := Option.some.inj H
                have hcz17_0 : wr.cell? ⟨gb261, 0, none⟩ = some (.int .u8 124) := (blk_cell BK261.out 0).trans rfl
                have hcz17_1 : wr.cell? ⟨gb261, 1, none⟩ = some (.int .u8 94) := (blk_cell BK261.out 1).trans rfl
                have hcz17_2 : wr.cell? ⟨gb261, 2, none⟩ = some (.int .u8 126) := (blk_cell BK261.out 2).trans rfl
                have hcz17_3 : wr.cell? ⟨gb261, 3, none⟩ = some (.int .u8 92) := (blk_cell BK261.out 3).trans rfl
                have hcz17_4 : wr.cell? ⟨gb261, 4, none⟩ = some (.int .u8 38) := (blk_cell BK261.out 4).trans rfl
                have hcz17_5 : wr.cell? ⟨gb261, 5, none⟩ = some (.string (⟨#[]⟩ : ByteArray)) := (blk_cell BK261.out 5).trans rfl
                have hcz17_6 : wr.cell? ⟨gb261, 6, none⟩ = some (.string (⟨#[]⟩ : ByteArray)) := (blk_cell BK261.out 6).trans rfl
                have hcz17_7 : wr.cell? ⟨gb261, 7, none⟩ = some (.string (⟨#[]⟩ : ByteArray)) := (blk_cell BK261.out 7).trans rfl
                have hcz17_8 : wr.cell? ⟨gb261, 8, none⟩ = some (.string (⟨#[]⟩ : ByteArray)) := (blk_cell BK261.out 8).trans rfl
                have hcz17_9 : wr.cell? ⟨gb261, 9, none⟩ = some (.string (⟨#[]⟩ : ByteArray)) := (blk_cell BK261.out 9).trans rfl
                have hcz17_10 : wr.cell? ⟨gb261, 10, none⟩ = some (.string (⟨#[]⟩ : ByteArray)) := (blk_cell BK261.out 10).trans rfl
                have hcz17_11 : wr.cell? ⟨gb261, 11, none⟩ = some (.string a1) := (blk_cell BK261.out 11).trans rfl
                have hcz17_12 : wr.cell? ⟨gb261, 12, none⟩ = some (.string x262012_1) := (blk_cell BK261.out 12).trans rfl
                have hcz17_13 : wr.cell? ⟨gb261, 13, none⟩ = some (.string (⟨#[80]⟩ : ByteArray)) := (blk_cell BK261.out 13).trans rfl
                have hcz17_14 : wr.cell? ⟨gb261, 14, none⟩ = some (.string (⟨#[50, 46, 53]⟩ : ByteArray)) := (blk_cell BK261.out 14).trans rfl
                have hfz17_0 := blk_frozen BK261.out 0
                have hfz17_1 := blk_frozen BK261.out 1
                have hfz17_2 := blk_frozen BK261.out 2
                have hfz17_3 := blk_frozen BK261.out 3
                have hfz17_4 := blk_frozen BK261.out 4
                have hfz17_5 := blk_frozen BK261.out 5
                have hfz17_6 := blk_frozen BK261.out 6
                have hfz17_7 := blk_frozen BK261.out 7
                have hfz17_8 := blk_frozen BK261.out 8
                have hfz17_9 := blk_frozen BK261.out 9
                have hfz17_10 := blk_frozen BK261.out 10
                have hfz17_11 := blk_frozen BK261.out 11
                have hfz17_12 := blk_frozen BK261.out 12
                have hfz17_13 := blk_frozen BK261.out 13
                have hfz17_14 := blk_frozen BK261.out 14
                go_wp2_with (first | ((with_reducible refine gate_callee (f := 13) rfl ?_); refine goesL_ (some 21) rfl rfl Tryd.func13 (by kernel_rfl) rfl #[.agg #[.int .u8 124, .int .u8 94, .int .u8 126, .int .u8 92, .int .u8 38, .string (⟨#[]⟩ : ByteArray), .string (⟨#[]⟩ : ByteArray), .string (⟨#[]⟩ : ByteArray), .string (⟨#[]⟩ : ByteArray), .string (⟨#[]⟩ : ByteArray), .string (⟨#[]⟩ : ByteArray), .string a1, .string x262012_1, .string (⟨#[80]⟩ : ByteArray), .string (⟨#[50, 46, 53]⟩ : ByteArray)]] rfl (by (try simp only [List.map_toArray, List.map_cons, List.map_nil]); first | done | rfl | (simp only [List.length_drop, List.length_take]; rfl)) ?_; (with_reducible refine (msh_Check.calls k1 124 94 126 92 38 (⟨#[]⟩ : ByteArray) (⟨#[]⟩ : ByteArray) (⟨#[]⟩ : ByteArray) (⟨#[]⟩ : ByteArray) (⟨#[]⟩ : ByteArray) (⟨#[]⟩ : ByteArray) a1 x262012_1 (⟨#[80]⟩ : ByteArray) (⟨#[50, 46, 53]⟩ : ByteArray) t262 _ A8.out (glob_below HGLOB.out (by repeat (first | (with_reducible first | exact HB.out | apply below_alloc | apply pw_below_drewN | apply below_drew1) | exact HB.out)))).mono ?_); rintro e w18 ⟨rfl, hb⟩; refine ⟨_, rfl, ?_⟩; have n0_ := Aside0.mk (blk_below (g := gb261) (o := .cells #[.int .u8 124, .int .u8 94, .int .u8 126, .int .u8 92, .int .u8 38, .string (⟨#[]⟩ : ByteArray), .string (⟨#[]⟩ : ByteArray), .string (⟨#[]⟩ : ByteArray), .string (⟨#[]⟩ : ByteArray), .string (⟨#[]⟩ : ByteArray), .string (⟨#[]⟩ : ByteArray), .string a1, .string x262012_1, .string (⟨#[80]⟩ : ByteArray), .string (⟨#[50, 46, 53]⟩ : ByteArray)] 27 (0, 0)) (by (with_reducible repeat (first | refine blk_drewN ?_ _ | refine blk_drew ?_ | refine blk_alloc ?_ _)); exact BK261.out) hb); have n1_ := Aside0.mk (below_step (by repeat (first | (with_reducible first | exact HB.out | apply below_alloc | apply pw_below_drewN | apply below_drew1 | refine below_set ?_ GE261.out) | exact HB.out)) hb); clear BK261; clear HB; have BK261 := n0_; have HB := n1_; clear n0_ n1_; (try clear hb); (try clear hb2); (try clear hk); (try clear hi)) | ((with_reducible refine gate_callee (f := 10) rfl ?_); refine goesL_ (some 25) rfl rfl Tryd.func10 (by kernel_rfl) rfl #[] rfl (by (try simp only [List.map_toArray, List.map_cons, List.map_nil]); first | done | rfl | (simp only [List.length_drop, List.length_take]; rfl)) ?_; (with_reducible refine (lamplighterlaw09_alive.calls k1  true _ A9.out (glob_below HGLOB.out (by repeat (first | (with_reducible first | exact HB.out | apply below_alloc | apply pw_below_drewN | apply below_drew1) | exact HB.out)))).mono ?_); rintro e w19 ⟨rfl, hb⟩; refine ⟨_, rfl, ?_⟩; have n0_ := Aside0.mk (blk_below (g := gb261) (o := .cells #[.int .u8 124, .int .u8 94, .int .u8 126, .int .u8 92, .int .u8 38, .string (⟨#[]⟩ : ByteArray), .string (⟨#[]⟩ : ByteArray), .string (⟨#[]⟩ : ByteArray), .string (⟨#[]⟩ : ByteArray), .string (⟨#[]⟩ : ByteArray), .string (⟨#[]⟩ : ByteArray), .string a1, .string x262012_1, .string (⟨#[80]⟩ : ByteArray), .string (⟨#[50, 46, 53]⟩ : ByteArray)] 27 (0, 0)) (by (with_reducible repeat (first | refine blk_drewN ?_ _ | refine blk_drew ?_ | refine blk_alloc ?_ _)); exact BK261.out) hb); have n1_ := Aside0.mk (below_step (by repeat (first | (with_reducible first | exact HB.out | apply below_alloc | apply pw_below_drewN | apply below_drew1 | refine below_set ?_ GE261.out) | exact HB.out)) hb); clear BK261; clear HB; have BK261 := n0_; have HB := n1_; clear n0_ n1_; (try clear hb); (try clear hb2); (try clear hk); (try clear hi)))
                go_ret
                exact ⟨by first | rfl | (simp [errW_none, errW_some] <;> rfl) | (simp [*, errW_none, errW_some] <;> rfl), by repeat (first | (with_reducible first | exact HB.out | apply below_alloc | apply pw_below_drewN | apply below_drew1 | refine below_set ?_ GE261.out) | exact HB.out)⟩
            · rw [if_neg c12] at H
              have c12b0 : ((t262 == 0) == false) = false := by simpa using c12
              (try (have c12b1 : decide ((t262 == 0) = false) = false := by simpa using c12))
              (try (have c12b2 : ((t262 == 0) == false) = false := by simpa using c12))
              (try (have c12b3 : ¬ ((t262 == 0) = false) := by simpa using c12))
              clear c12
              obtain rfl := Option.some.inj H
              have hcz20_0 : wr.cell? ⟨gb261, 0, none⟩ = some (.int .u8 124) := (blk_cell BK261.out 0).trans rfl
              have hcz20_1 : wr.cell? ⟨gb261, 1, none⟩ = some (.int .u8 94) := (blk_cell BK261.out 1).trans rfl
              have hcz20_2 : wr.cell? ⟨gb261, 2, none⟩ = some (.int .u8 126) := (blk_cell BK261.out 2).trans rfl
              have hcz20_3 : wr.cell? ⟨gb261, 3, none⟩ = some (.int .u8 92) := (blk_cell BK261.out 3).trans rfl
              have hcz20_4 : wr.cell? ⟨gb261, 4, none⟩ = some (.int .u8 38) := (blk_cell BK261.out 4).trans rfl
              have hcz20_5 : wr.cell? ⟨gb261, 5, none⟩ = some (.string (⟨#[]⟩ : ByteArray)) := (blk_cell BK261.out 5).trans rfl
              have hcz20_6 : wr.cell? ⟨gb261, 6, none⟩ = some (.string (⟨#[]⟩ : ByteArray)) := (blk_cell BK261.out 6).trans rfl
              have hcz20_7 : wr.cell? ⟨gb261, 7, none⟩ = some (.string (⟨#[]⟩ : ByteArray)) := (blk_cell BK261.out 7).trans rfl
              have hcz20_8 : wr.cell? ⟨gb261, 8, none⟩ = some (.string (⟨#[]⟩ : ByteArray)) := (blk_cell BK261.out 8).trans rfl
              have hcz20_9 : wr.cell? ⟨gb261, 9, none⟩ = some (.string (⟨#[]⟩ : ByteArray)) := (blk_cell BK261.out 9).trans rfl
              have hcz20_10 : wr.cell? ⟨gb261, 10, none⟩ = some (.string (⟨#[]⟩ : ByteArray)) := (blk_cell BK261.out 10).trans rfl
              have hcz20_11 : wr.cell? ⟨gb261, 11, none⟩ = some (.string a1) := (blk_cell BK261.out 11).trans rfl
              have hcz20_12 : wr.cell? ⟨gb261, 12, none⟩ = some (.string x262012_1) := (blk_cell BK261.out 12).trans rfl
              have hcz20_13 : wr.cell? ⟨gb261, 13, none⟩ = some (.string (⟨#[80]⟩ : ByteArray)) := (blk_cell BK261.out 13).trans rfl
              have hcz20_14 : wr.cell? ⟨gb261, 14, none⟩ = some (.string (⟨#[50, 46, 53]⟩ : ByteArray)) := (blk_cell BK261.out 14).trans rfl
              have hfz20_0 := blk_frozen BK261.out 0
              have hfz20_1 := blk_frozen BK261.out 1
              have hfz20_2 := blk_frozen BK261.out 2
              have hfz20_3 := blk_frozen BK261.out 3
              have hfz20_4 := blk_frozen BK261.out 4
              have hfz20_5 := blk_frozen BK261.out 5
              have hfz20_6 := blk_frozen BK261.out 6
              have hfz20_7 := blk_frozen BK261.out 7
              have hfz20_8 := blk_frozen BK261.out 8
              have hfz20_9 := blk_frozen BK261.out 9
              have hfz20_10 := blk_frozen BK261.out 10
              have hfz20_11 := blk_frozen BK261.out 11
              have hfz20_12 := blk_frozen BK261.out 12
              have hfz20_13 := blk_frozen BK261.out 13
              have hfz20_14 := blk_frozen BK261.out 14
              go_wp2_with (first | ((with_reducible refine gate_callee (f := 13) rfl ?_); refine goesL_ (some 21) rfl rfl Tryd.func13 (by kernel_rfl) rfl #[.agg #[.int .u8 124, .int .u8 94, .int .u8 126, .int .u8 92, .int .u8 38, .string (⟨#[]⟩ : ByteArray), .string (⟨#[]⟩ : ByteArray), .string (⟨#[]⟩ : ByteArray), .string (⟨#[]⟩ : ByteArray), .string (⟨#[]⟩ : ByteArray), .string (⟨#[]⟩ : ByteArray), .string a1, .string x262012_1, .string (⟨#[80]⟩ : ByteArray), .string (⟨#[50, 46, 53]⟩ : ByteArray)]] rfl (by (try simp only [List.map_toArray, List.map_cons, List.map_nil]); first | done | rfl | (simp only [List.length_drop, List.length_take]; rfl)) ?_; (with_reducible refine (msh_Check.calls k1 124 94 126 92 38 (⟨#[]⟩ : ByteArray) (⟨#[]⟩ : ByteArray) (⟨#[]⟩ : ByteArray) (⟨#[]⟩ : ByteArray) (⟨#[]⟩ : ByteArray) (⟨#[]⟩ : ByteArray) a1 x262012_1 (⟨#[80]⟩ : ByteArray) (⟨#[50, 46, 53]⟩ : ByteArray) t262 _ A8.out (glob_below HGLOB.out (by repeat (first | (with_reducible first | exact HB.out | apply below_alloc | apply pw_below_drewN | apply below_drew1) | exact HB.out)))).mono ?_); rintro e w21 ⟨rfl, hb⟩; refine ⟨_, rfl, ?_⟩; have n0_ := Aside0.mk (blk_below (g := gb261) (o := .cells #[.int .u8 124, .int .u8 94, .int .u8 126, .int .u8 92, .int .u8 38, .string (⟨#[]⟩ : ByteArray), .string (⟨#[]⟩ : ByteArray), .string (⟨#[]⟩ : ByteArray), .string (⟨#[]⟩ : ByteArray), .string (⟨#[]⟩ : ByteArray), .string (⟨#[]⟩ : ByteArray), .string a1, .string x262012_1, .string (⟨#[80]⟩ : ByteArray), .string (⟨#[50, 46, 53]⟩ : ByteArray)] 27 (0, 0)) (by (with_reducible repeat (first | refine blk_drewN ?_ _ | refine blk_drew ?_ | refine blk_alloc ?_ _)); exact BK261.out) hb); have n1_ := Aside0.mk (below_step (by repeat (first | (with_reducible first | exact HB.out | apply below_alloc | apply pw_below_drewN | apply below_drew1 | refine below_set ?_ GE261.out) | exact HB.out)) hb); clear BK261; clear HB; have BK261 := n0_; have HB := n1_; clear n0_ n1_; (try clear hb); (try clear hb2); (try clear hk); (try clear hi)) | ((with_reducible refine gate_callee (f := 10) rfl ?_); refine goesL_ (some 25) rfl rfl Tryd.func10 (by kernel_rfl) rfl #[] rfl (by (try simp only [List.map_toArray, List.map_cons, List.map_nil]); first | done | rfl | (simp only [List.length_drop, List.length_take]; rfl)) ?_; (with_reducible refine (lamplighterlaw09_alive.calls k1  true _ A9.out (glob_below HGLOB.out (by repeat (first | (with_reducible first | exact HB.out | apply below_alloc | apply pw_below_drewN | apply below_drew1) | exact HB.out)))).mono ?_); rintro e w22 ⟨rfl, hb⟩; refine ⟨_, rfl, ?_⟩; have n0_ := Aside0.mk (blk_below (g := gb261) (o := .cells #[.int .u8 124, .int .u8 94, .int .u8 126, .int .u8 92, .int .u8 38, .string (⟨#[]⟩ : ByteArray), .string (⟨#[]⟩ : ByteArray), .string (⟨#[]⟩ : ByteArray), .string (⟨#[]⟩ : ByteArray), .string (⟨#[]⟩ : ByteArray), .string (⟨#[]⟩ : ByteArray), .string a1, .string x262012_1, .string (⟨#[80]⟩ : ByteArray), .string (⟨#[50, 46, 53]⟩ : ByteArray)] 27 (0, 0)) (by (with_reducible repeat (first | refine blk_drewN ?_ _ | refine blk_drew ?_ | refine blk_alloc ?_ _)); exact BK261.out) hb); have n1_ := Aside0.mk (below_step (by repeat (first | (with_reducible first | exact HB.out | apply below_alloc | apply pw_below_drewN | apply below_drew1 | refine below_set ?_ GE261.out) | exact HB.out)) hb); clear BK261; clear HB; have BK261 := n0_; have HB := n1_; clear n0_ n1_; (try clear hb); (try clear hb2); (try clear hk); (try clear hi)))
              go_ret
              exact ⟨by first | rfl | (simp [errW_none, errW_some] <;> rfl) | (simp [*, errW_none, errW_some] <;> rfl), by repeat (first | (with_reducible first | exact HB.out | apply below_alloc | apply pw_below_drewN | apply below_drew1 | refine below_set ?_ GE261.out) | exact HB.out)⟩
          · rw [if_neg c11] at H
            have c11b0 : (a1.toList == ([] : List UInt8)) = false := beq_eq_false_iff_ne.mpr c11
            have c11b1 : (a1.toList != ([] : List UInt8)) = true := bne_iff_ne.mpr c11
            by_cases c23 : (wrap64 (Int.tmod a0 80)) ≥ 1
            · rw [if_pos c23] at H
              have c23b0 : decide (1 ≤ (wrap64 (Int.tmod a0 80))) = true := decide_eq_true c23
              clear c23
              by_cases c24 : ((t262 == 0) == (decide ((wrap64 (Int.tmod a0 80)) ≤ 50))) = true
              · rw [if_pos c24] at H
                have c24b0 : ((t262 == 0) == (decide ((wrap64 (Int.tmod a0 80)) ≤ 50))) = true := c24
                (try (have c24b1 : decide ((t262 == 0) = (decide ((wrap64 (Int.tmod a0 80)) ≤ 50))) = true := by simpa using c24))
                (try (have c24b2 : ((t262 == 0) == (decide ((wrap64 (Int.tmod a0 80)) ≤ 50))) = true := by simpa using c24))
                clear c24
                by_cases c25 : t262 = 0
                · rw [if_pos c25] at H
                  have c25b0 : (t262 == 0) = true := beq_iff_eq.mpr c25
                  have hD : (decide ((wrap64 (Int.tmod a0 80)) ≤ 50)) = true := by
                    rw [c25b0] at c24b0
                    simpa using c24b0
                  clear c24b0; (try clear c24b1); (try clear c24b2)
                  have c25b1 : (t262 != 0) = false := bne_eq_false_iff_eq.mpr c25
                  clear c25
                  obtain rfl := Option.some.inj H
                  have hcz26_0 : wr.cell? ⟨gb261, 0, none⟩ = some (.int .u8 124) := (blk_cell BK261.out 0).trans rfl
                  have hcz26_1 : wr.cell? ⟨gb261, 1, none⟩ = some (.int .u8 94) := (blk_cell BK261.out 1).trans rfl
                  have hcz26_2 : wr.cell? ⟨gb261, 2, none⟩ = some (.int .u8 126) := (blk_cell BK261.out 2).trans rfl
                  have hcz26_3 : wr.cell? ⟨gb261, 3, none⟩ = some (.int .u8 92) := (blk_cell BK261.out 3).trans rfl
                  have hcz26_4 : wr.cell? ⟨gb261, 4, none⟩ = some (.int .u8 38) := (blk_cell BK261.out 4).trans rfl
                  have hcz26_5 : wr.cell? ⟨gb261, 5, none⟩ = some (.string (⟨#[]⟩ : ByteArray)) := (blk_cell BK261.out 5).trans rfl
                  have hcz26_6 : wr.cell? ⟨gb261, 6, none⟩ = some (.string (⟨#[]⟩ : ByteArray)) := (blk_cell BK261.out 6).trans rfl
                  have hcz26_7 : wr.cell? ⟨gb261, 7, none⟩ = some (.string (⟨#[]⟩ : ByteArray)) := (blk_cell BK261.out 7).trans rfl
                  have hcz26_8 : wr.cell? ⟨gb261, 8, none⟩ = some (.string (⟨#[]⟩ : ByteArray)) := (blk_cell BK261.out 8).trans rfl
                  have hcz26_9 : wr.cell? ⟨gb261, 9, none⟩ = some (.string (⟨#[]⟩ : ByteArray)) := (blk_cell BK261.out 9).trans rfl
                  have hcz26_10 : wr.cell? ⟨gb261, 10, none⟩ = some (.string (⟨#[]⟩ : ByteArray)) := (blk_cell BK261.out 10).trans rfl
                  have hcz26_11 : wr.cell? ⟨gb261, 11, none⟩ = some (.string a1) := (blk_cell BK261.out 11).trans rfl
                  have hcz26_12 : wr.cell? ⟨gb261, 12, none⟩ = some (.string x262012_1) := (blk_cell BK261.out 12).trans rfl
                  have hcz26_13 : wr.cell? ⟨gb261, 13, none⟩ = some (.string (⟨#[80]⟩ : ByteArray)) := (blk_cell BK261.out 13).trans rfl
                  have hcz26_14 : wr.cell? ⟨gb261, 14, none⟩ = some (.string (⟨#[50, 46, 53]⟩ : ByteArray)) := (blk_cell BK261.out 14).trans rfl
                  have hfz26_0 := blk_frozen BK261.out 0
                  have hfz26_1 := blk_frozen BK261.out 1
                  have hfz26_2 := blk_frozen BK261.out 2
                  have hfz26_3 := blk_frozen BK261.out 3
                  have hfz26_4 := blk_frozen BK261.out 4
                  have hfz26_5 := blk_frozen BK261.out 5
                  have hfz26_6 := blk_frozen BK261.out 6
                  have hfz26_7 := blk_frozen BK261.out 7
                  have hfz26_8 := blk_frozen BK261.out 8
                  have hfz26_9 := blk_frozen BK261.out 9
                  have hfz26_10 := blk_frozen BK261.out 10
                  have hfz26_11 := blk_frozen BK261.out 11
                  have hfz26_12 := blk_frozen BK261.out 12
                  have hfz26_13 := blk_frozen BK261.out 13
                  have hfz26_14 := blk_frozen BK261.out 14
                  go_wp2_with (first | ((with_reducible refine gate_callee (f := 13) rfl ?_); refine goesL_ (some 21) rfl rfl Tryd.func13 (by kernel_rfl) rfl #[.agg #[.int .u8 124, .int .u8 94, .int .u8 126, .int .u8 92, .int .u8 38, .string (⟨#[]⟩ : ByteArray), .string (⟨#[]⟩ : ByteArray), .string (⟨#[]⟩ : ByteArray), .string (⟨#[]⟩ : ByteArray), .string (⟨#[]⟩ : ByteArray), .string (⟨#[]⟩ : ByteArray), .string a1, .string x262012_1, .string (⟨#[80]⟩ : ByteArray), .string (⟨#[50, 46, 53]⟩ : ByteArray)]] rfl (by (try simp only [List.map_toArray, List.map_cons, List.map_nil]); first | done | rfl | (simp only [List.length_drop, List.length_take]; rfl)) ?_; (with_reducible refine (msh_Check.calls k1 124 94 126 92 38 (⟨#[]⟩ : ByteArray) (⟨#[]⟩ : ByteArray) (⟨#[]⟩ : ByteArray) (⟨#[]⟩ : ByteArray) (⟨#[]⟩ : ByteArray) (⟨#[]⟩ : ByteArray) a1 x262012_1 (⟨#[80]⟩ : ByteArray) (⟨#[50, 46, 53]⟩ : ByteArray) t262 _ A8.out (glob_below HGLOB.out (by repeat (first | (with_reducible first | exact HB.out | apply below_alloc | apply pw_below_drewN | apply below_drew1) | exact HB.out)))).mono ?_); rintro e w27 ⟨rfl, hb⟩; refine ⟨_, rfl, ?_⟩; have n0_ := Aside0.mk (blk_below (g := gb261) (o := .cells #[.int .u8 124, .int .u8 94, .int .u8 126, .int .u8 92, .int .u8 38, .string (⟨#[]⟩ : ByteArray), .string (⟨#[]⟩ : ByteArray), .string (⟨#[]⟩ : ByteArray), .string (⟨#[]⟩ : ByteArray), .string (⟨#[]⟩ : ByteArray), .string (⟨#[]⟩ : ByteArray), .string a1, .string x262012_1, .string (⟨#[80]⟩ : ByteArray), .string (⟨#[50, 46, 53]⟩ : ByteArray)] 27 (0, 0)) (by (with_reducible repeat (first | refine blk_drewN ?_ _ | refine blk_drew ?_ | refine blk_alloc ?_ _)); exact BK261.out) hb); have n1_ := Aside0.mk (below_step (by repeat (first | (with_reducible first | exact HB.out | apply below_alloc | apply pw_below_drewN | apply below_drew1 | refine below_set ?_ GE261.out) | exact HB.out)) hb); clear BK261; clear HB; have BK261 := n0_; have HB := n1_; clear n0_ n1_; (try clear hb); (try clear hb2); (try clear hk); (try clear hi)) | ((with_reducible refine gate_callee (f := 10) rfl ?_); refine goesL_ (some 25) rfl rfl Tryd.func10 (by kernel_rfl) rfl #[] rfl (by (try simp only [List.map_toArray, List.map_cons, List.map_nil]); first | done | rfl | (simp only [List.length_drop, List.length_take]; rfl)) ?_; (with_reducible refine (lamplighterlaw09_alive.calls k1  true _ A9.out (glob_below HGLOB.out (by repeat (first | (with_reducible first | exact HB.out | apply below_alloc | apply pw_below_drewN | apply below_drew1) | exact HB.out)))).mono ?_); rintro e w28 ⟨rfl, hb⟩; refine ⟨_, rfl, ?_⟩; have n0_ := Aside0.mk (blk_below (g := gb261) (o := .cells #[.int .u8 124, .int .u8 94, .int .u8 126, .int .u8 92, .int .u8 38, .string (⟨#[]⟩ : ByteArray), .string (⟨#[]⟩ : ByteArray), .string (⟨#[]⟩ : ByteArray), .string (⟨#[]⟩ : ByteArray), .string (⟨#[]⟩ : ByteArray), .string (⟨#[]⟩ : ByteArray), .string a1, .string x262012_1, .string (⟨#[80]⟩ : ByteArray), .string (⟨#[50, 46, 53]⟩ : ByteArray)] 27 (0, 0)) (by (with_reducible repeat (first | refine blk_drewN ?_ _ | refine blk_drew ?_ | refine blk_alloc ?_ _)); exact BK261.out) hb); have n1_ := Aside0.mk (below_step (by repeat (first | (with_reducible first | exact HB.out | apply below_alloc | apply pw_below_drewN | apply below_drew1 | refine below_set ?_ GE261.out) | exact HB.out)) hb); clear BK261; clear HB; have BK261 := n0_; have HB := n1_; clear n0_ n1_; (try clear hb); (try clear hb2); (try clear hk); (try clear hi)))
                  go_ret
                  exact ⟨by first | rfl | (simp [errW_none, errW_some] <;> rfl) | (simp [*, errW_none, errW_some] <;> rfl), by repeat (first | (with_reducible first | exact HB.out | apply below_alloc | apply pw_below_drewN | apply below_drew1 | refine below_set ?_ GE261.out) | exact HB.out)⟩
                · rw [if_neg c25] at H
                  have c25b0 : (t262 == 0) = false := beq_eq_false_iff_ne.mpr c25
                  have hD : (decide ((wrap64 (Int.tmod a0 80)) ≤ 50)) = false := by
                    rw [c25b0] at c24b0
                    simpa using c24b0
                  clear c24b0; (try clear c24b1); (try clear c24b2)
                  have c25b1 : (t262 != 0) = true := bne_iff_ne.mpr c25
                  obtain rfl := Option.some.inj H
                  have hcz29_0 : wr.cell? ⟨gb261, 0, none⟩ = some (.int .u8 124) := (blk_cell BK261.out 0).trans rfl
                  have hcz29_1 : wr.cell? ⟨gb261, 1, none⟩ = some (.int .u8 94) := (blk_cell BK261.out 1).trans rfl
                  have hcz29_2 : wr.cell? ⟨gb261, 2, none⟩ = some (.int .u8 126) := (blk_cell BK261.out 2).trans rfl
                  have hcz29_3 : wr.cell? ⟨gb261, 3, none⟩ = some (.int .u8 92) := (blk_cell BK261.out 3).trans rfl
                  have hcz29_4 : wr.cell? ⟨gb261, 4, none⟩ = some (.int .u8 38) := (blk_cell BK261.out 4).trans rfl
                  have hcz29_5 : wr.cell? ⟨gb261, 5, none⟩ = some (.string (⟨#[]⟩ : ByteArray)) := (blk_cell BK261.out 5).trans rfl
                  have hcz29_6 : wr.cell? ⟨gb261, 6, none⟩ = some (.string (⟨#[]⟩ : ByteArray)) := (blk_cell BK261.out 6).trans rfl
                  have hcz29_7 : wr.cell? ⟨gb261, 7, none⟩ = some (.string (⟨#[]⟩ : ByteArray)) := (blk_cell BK261.out 7).trans rfl
                  have hcz29_8 : wr.cell? ⟨gb261, 8, none⟩ = some (.string (⟨#[]⟩ : ByteArray)) := (blk_cell BK261.out 8).trans rfl
                  have hcz29_9 : wr.cell? ⟨gb261, 9, none⟩ = some (.string (⟨#[]⟩ : ByteArray)) := (blk_cell BK261.out 9).trans rfl
                  have hcz29_10 : wr.cell? ⟨gb261, 10, none⟩ = some (.string (⟨#[]⟩ : ByteArray)) := (blk_cell BK261.out 10).trans rfl
                  have hcz29_11 : wr.cell? ⟨gb261, 11, none⟩ = some (.string a1) := (blk_cell BK261.out 11).trans rfl
                  have hcz29_12 : wr.cell? ⟨gb261, 12, none⟩ = some (.string x262012_1) := (blk_cell BK261.out 12).trans rfl
                  have hcz29_13 : wr.cell? ⟨gb261, 13, none⟩ = some (.string (⟨#[80]⟩ : ByteArray)) := (blk_cell BK261.out 13).trans rfl
                  have hcz29_14 : wr.cell? ⟨gb261, 14, none⟩ = some (.string (⟨#[50, 46, 53]⟩ : ByteArray)) := (blk_cell BK261.out 14).trans rfl
                  have hfz29_0 := blk_frozen BK261.out 0
                  have hfz29_1 := blk_frozen BK261.out 1
                  have hfz29_2 := blk_frozen BK261.out 2
                  have hfz29_3 := blk_frozen BK261.out 3
                  have hfz29_4 := blk_frozen BK261.out 4
                  have hfz29_5 := blk_frozen BK261.out 5
                  have hfz29_6 := blk_frozen BK261.out 6
                  have hfz29_7 := blk_frozen BK261.out 7
                  have hfz29_8 := blk_frozen BK261.out 8
                  have hfz29_9 := blk_frozen BK261.out 9
                  have hfz29_10 := blk_frozen BK261.out 10
                  have hfz29_11 := blk_frozen BK261.out 11
                  have hfz29_12 := blk_frozen BK261.out 12
                  have hfz29_13 := blk_frozen BK261.out 13
                  have hfz29_14 := blk_frozen BK261.out 14
                  go_wp2_with (first | ((with_reducible refine gate_callee (f := 13) rfl ?_); refine goesL_ (some 21) rfl rfl Tryd.func13 (by kernel_rfl) rfl #[.agg #[.int .u8 124, .int .u8 94, .int .u8 126, .int .u8 92, .int .u8 38, .string (⟨#[]⟩ : ByteArray), .string (⟨#[]⟩ : ByteArray), .string (⟨#[]⟩ : ByteArray), .string (⟨#[]⟩ : ByteArray), .string (⟨#[]⟩ : ByteArray), .string (⟨#[]⟩ : ByteArray), .string a1, .string x262012_1, .string (⟨#[80]⟩ : ByteArray), .string (⟨#[50, 46, 53]⟩ : ByteArray)]] rfl (by (try simp only [List.map_toArray, List.map_cons, List.map_nil]); first | done | rfl | (simp only [List.length_drop, List.length_take]; rfl)) ?_; (with_reducible refine (msh_Check.calls k1 124 94 126 92 38 (⟨#[]⟩ : ByteArray) (⟨#[]⟩ : ByteArray) (⟨#[]⟩ : ByteArray) (⟨#[]⟩ : ByteArray) (⟨#[]⟩ : ByteArray) (⟨#[]⟩ : ByteArray) a1 x262012_1 (⟨#[80]⟩ : ByteArray) (⟨#[50, 46, 53]⟩ : ByteArray) t262 _ A8.out (glob_below HGLOB.out (by repeat (first | (with_reducible first | exact HB.out | apply below_alloc | apply pw_below_drewN | apply below_drew1) | exact HB.out)))).mono ?_); rintro e w30 ⟨rfl, hb⟩; refine ⟨_, rfl, ?_⟩; have n0_ := Aside0.mk (blk_below (g := gb261) (o := .cells #[.int .u8 124, .int .u8 94, .int .u8 126, .int .u8 92, .int .u8 38, .string (⟨#[]⟩ : ByteArray), .string (⟨#[]⟩ : ByteArray), .string (⟨#[]⟩ : ByteArray), .string (⟨#[]⟩ : ByteArray), .string (⟨#[]⟩ : ByteArray), .string (⟨#[]⟩ : ByteArray), .string a1, .string x262012_1, .string (⟨#[80]⟩ : ByteArray), .string (⟨#[50, 46, 53]⟩ : ByteArray)] 27 (0, 0)) (by (with_reducible repeat (first | refine blk_drewN ?_ _ | refine blk_drew ?_ | refine blk_alloc ?_ _)); exact BK261.out) hb); have n1_ := Aside0.mk (below_step (by repeat (first | (with_reducible first | exact HB.out | apply below_alloc | apply pw_below_drewN | apply below_drew1 | refine below_set ?_ GE261.out) | exact HB.out)) hb); clear BK261; clear HB; have BK261 := n0_; have HB := n1_; clear n0_ n1_; (try clear hb); (try clear hb2); (try clear hk); (try clear hi)) | ((with_reducible refine gate_callee (f := 10) rfl ?_); refine goesL_ (some 25) rfl rfl Tryd.func10 (by kernel_rfl) rfl #[] rfl (by (try simp only [List.map_toArray, List.map_cons, List.map_nil]); first | done | rfl | (simp only [List.length_drop, List.length_take]; rfl)) ?_; (with_reducible refine (lamplighterlaw09_alive.calls k1  true _ A9.out (glob_below HGLOB.out (by repeat (first | (with_reducible first | exact HB.out | apply below_alloc | apply pw_below_drewN | apply below_drew1) | exact HB.out)))).mono ?_); rintro e w31 ⟨rfl, hb⟩; refine ⟨_, rfl, ?_⟩; have n0_ := Aside0.mk (blk_below (g := gb261) (o := .cells #[.int .u8 124, .int .u8 94, .int .u8 126, .int .u8 92, .int .u8 38, .string (⟨#[]⟩ : ByteArray), .string (⟨#[]⟩ : ByteArray), .string (⟨#[]⟩ : ByteArray), .string (⟨#[]⟩ : ByteArray), .string (⟨#[]⟩ : ByteArray), .string (⟨#[]⟩ : ByteArray), .string a1, .string x262012_1, .string (⟨#[80]⟩ : ByteArray), .string (⟨#[50, 46, 53]⟩ : ByteArray)] 27 (0, 0)) (by (with_reducible repeat (first | refine blk_drewN ?_ _ | refine blk_drew ?_ | refine blk_alloc ?_ _)); exact BK261.out) hb); have n1_ := Aside0.mk (below_step (by repeat (first | (with_reducible first | exact HB.out | apply below_alloc | apply pw_below_drewN | apply below_drew1 | refine below_set ?_ GE261.out) | exact HB.out)) hb); clear BK261; clear HB; have BK261 := n0_; have HB := n1_; clear n0_ n1_; (try clear hb); (try clear hb2); (try clear hk); (try clear hi)))
                  go_ret
                  exact ⟨by first | rfl | (simp [errW_none, errW_some] <;> rfl) | (simp [*, errW_none, errW_some] <;> rfl), by repeat (first | (with_reducible first | exact HB.out | apply below_alloc | apply pw_below_drewN | apply below_drew1 | refine below_set ?_ GE261.out) | exact HB.out)⟩
              · rw [if_neg c24] at H
                have c24b0 : ((t262 == 0) == (decide ((wrap64 (Int.tmod a0 80)) ≤ 50))) = false := by simpa using c24
                (try (have c24b1 : decide ((t262 == 0) = (decide ((wrap64 (Int.tmod a0 80)) ≤ 50))) = false := by simpa using c24))
                (try (have c24b2 : ((t262 == 0) == (decide ((wrap64 (Int.tmod a0 80)) ≤ 50))) = false := by simpa using c24))
                (try (have c24b3 : ¬ ((t262 == 0) = (decide ((wrap64 (Int.tmod a0 80)) ≤ 50))) := by simpa using c24))
                clear c24
                obtain rfl := Option.some.inj H
                have hcz32_0 : wr.cell? ⟨gb261, 0, none⟩ = some (.int .u8 124) := (blk_cell BK261.out 0).trans rfl
                have hcz32_1 : wr.cell? ⟨gb261, 1, none⟩ = some (.int .u8 94) := (blk_cell BK261.out 1).trans rfl
                have hcz32_2 : wr.cell? ⟨gb261, 2, none⟩ = some (.int .u8 126) := (blk_cell BK261.out 2).trans rfl
                have hcz32_3 : wr.cell? ⟨gb261, 3, none⟩ = some (.int .u8 92) := (blk_cell BK261.out 3).trans rfl
                have hcz32_4 : wr.cell? ⟨gb261, 4, none⟩ = some (.int .u8 38) := (blk_cell BK261.out 4).trans rfl
                have hcz32_5 : wr.cell? ⟨gb261, 5, none⟩ = some (.string (⟨#[]⟩ : ByteArray)) := (blk_cell BK261.out 5).trans rfl
                have hcz32_6 : wr.cell? ⟨gb261, 6, none⟩ = some (.string (⟨#[]⟩ : ByteArray)) := (blk_cell BK261.out 6).trans rfl
                have hcz32_7 : wr.cell? ⟨gb261, 7, none⟩ = some (.string (⟨#[]⟩ : ByteArray)) := (blk_cell BK261.out 7).trans rfl
                have hcz32_8 : wr.cell? ⟨gb261, 8, none⟩ = some (.string (⟨#[]⟩ : ByteArray)) := (blk_cell BK261.out 8).trans rfl
                have hcz32_9 : wr.cell? ⟨gb261, 9, none⟩ = some (.string (⟨#[]⟩ : ByteArray)) := (blk_cell BK261.out 9).trans rfl
                have hcz32_10 : wr.cell? ⟨gb261, 10, none⟩ = some (.string (⟨#[]⟩ : ByteArray)) := (blk_cell BK261.out 10).trans rfl
                have hcz32_11 : wr.cell? ⟨gb261, 11, none⟩ = some (.string a1) := (blk_cell BK261.out 11).trans rfl
                have hcz32_12 : wr.cell? ⟨gb261, 12, none⟩ = some (.string x262012_1) := (blk_cell BK261.out 12).trans rfl
                have hcz32_13 : wr.cell? ⟨gb261, 13, none⟩ = some (.string (⟨#[80]⟩ : ByteArray)) := (blk_cell BK261.out 13).trans rfl
                have hcz32_14 : wr.cell? ⟨gb261, 14, none⟩ = some (.string (⟨#[50, 46, 53]⟩ : ByteArray)) := (blk_cell BK261.out 14).trans rfl
                have hfz32_0 := blk_frozen BK261.out 0
                have hfz32_1 := blk_frozen BK261.out 1
                have hfz32_2 := blk_frozen BK261.out 2
                have hfz32_3 := blk_frozen BK261.out 3
                have hfz32_4 := blk_frozen BK261.out 4
                have hfz32_5 := blk_frozen BK261.out 5
                have hfz32_6 := blk_frozen BK261.out 6
                have hfz32_7 := blk_frozen BK261.out 7
                have hfz32_8 := blk_frozen BK261.out 8
                have hfz32_9 := blk_frozen BK261.out 9
                have hfz32_10 := blk_frozen BK261.out 10
                have hfz32_11 := blk_frozen BK261.out 11
                have hfz32_12 := blk_frozen BK261.out 12
                have hfz32_13 := blk_frozen BK261.out 13
                have hfz32_14 := blk_frozen BK261.out 14
                go_wp2_with (first | ((with_reducible refine gate_callee (f := 13) rfl ?_); refine goesL_ (some 21) rfl rfl Tryd.func13 (by kernel_rfl) rfl #[.agg #[.int .u8 124, .int .u8 94, .int .u8 126, .int .u8 92, .int .u8 38, .string (⟨#[]⟩ : ByteArray), .string (⟨#[]⟩ : ByteArray), .string (⟨#[]⟩ : ByteArray), .string (⟨#[]⟩ : ByteArray), .string (⟨#[]⟩ : ByteArray), .string (⟨#[]⟩ : ByteArray), .string a1, .string x262012_1, .string (⟨#[80]⟩ : ByteArray), .string (⟨#[50, 46, 53]⟩ : ByteArray)]] rfl (by (try simp only [List.map_toArray, List.map_cons, List.map_nil]); first | done | rfl | (simp only [List.length_drop, List.length_take]; rfl)) ?_; (with_reducible refine (msh_Check.calls k1 124 94 126 92 38 (⟨#[]⟩ : ByteArray) (⟨#[]⟩ : ByteArray) (⟨#[]⟩ : ByteArray) (⟨#[]⟩ : ByteArray) (⟨#[]⟩ : ByteArray) (⟨#[]⟩ : ByteArray) a1 x262012_1 (⟨#[80]⟩ : ByteArray) (⟨#[50, 46, 53]⟩ : ByteArray) t262 _ A8.out (glob_below HGLOB.out (by repeat (first | (with_reducible first | exact HB.out | apply below_alloc | apply pw_below_drewN | apply below_drew1) | exact HB.out)))).mono ?_); rintro e w33 ⟨rfl, hb⟩; refine ⟨_, rfl, ?_⟩; have n0_ := Aside0.mk (blk_below (g := gb261) (o := .cells #[.int .u8 124, .int .u8 94, .int .u8 126, .int .u8 92, .int .u8 38, .string (⟨#[]⟩ : ByteArray), .string (⟨#[]⟩ : ByteArray), .string (⟨#[]⟩ : ByteArray), .string (⟨#[]⟩ : ByteArray), .string (⟨#[]⟩ : ByteArray), .string (⟨#[]⟩ : ByteArray), .string a1, .string x262012_1, .string (⟨#[80]⟩ : ByteArray), .string (⟨#[50, 46, 53]⟩ : ByteArray)] 27 (0, 0)) (by (with_reducible repeat (first | refine blk_drewN ?_ _ | refine blk_drew ?_ | refine blk_alloc ?_ _)); exact BK261.out) hb); have n1_ := Aside0.mk (below_step (by repeat (first | (with_reducible first | exact HB.out | apply below_alloc | apply pw_below_drewN | apply below_drew1 | refine below_set ?_ GE261.out) | exact HB.out)) hb); clear BK261; clear HB; have BK261 := n0_; have HB := n1_; clear n0_ n1_; (try clear hb); (try clear hb2); (try clear hk); (try clear hi)) | ((with_reducible refine gate_callee (f := 10) rfl ?_); refine goesL_ (some 25) rfl rfl Tryd.func10 (by kernel_rfl) rfl #[] rfl (by (try simp only [List.map_toArray, List.map_cons, List.map_nil]); first | done | rfl | (simp only [List.length_drop, List.length_take]; rfl)) ?_; (with_reducible refine (lamplighterlaw09_alive.calls k1  true _ A9.out (glob_below HGLOB.out (by repeat (first | (with_reducible first | exact HB.out | apply below_alloc | apply pw_below_drewN | apply below_drew1) | exact HB.out)))).mono ?_); rintro e w34 ⟨rfl, hb⟩; refine ⟨_, rfl, ?_⟩; have n0_ := Aside0.mk (blk_below (g := gb261) (o := .cells #[.int .u8 124, .int .u8 94, .int .u8 126, .int .u8 92, .int .u8 38, .string (⟨#[]⟩ : ByteArray), .string (⟨#[]⟩ : ByteArray), .string (⟨#[]⟩ : ByteArray), .string (⟨#[]⟩ : ByteArray), .string (⟨#[]⟩ : ByteArray), .string (⟨#[]⟩ : ByteArray), .string a1, .string x262012_1, .string (⟨#[80]⟩ : ByteArray), .string (⟨#[50, 46, 53]⟩ : ByteArray)] 27 (0, 0)) (by (with_reducible repeat (first | refine blk_drewN ?_ _ | refine blk_drew ?_ | refine blk_alloc ?_ _)); exact BK261.out) hb); have n1_ := Aside0.mk (below_step (by repeat (first | (with_reducible first | exact HB.out | apply below_alloc | apply pw_below_drewN | apply below_drew1 | refine below_set ?_ GE261.out) | exact HB.out)) hb); clear BK261; clear HB; have BK261 := n0_; have HB := n1_; clear n0_ n1_; (try clear hb); (try clear hb2); (try clear hk); (try clear hi)))
                go_ret
                exact ⟨by first | rfl | (simp [errW_none, errW_some] <;> rfl) | (simp [*, errW_none, errW_some] <;> rfl), by repeat (first | (with_reducible first | exact HB.out | apply below_alloc | apply pw_below_drewN | apply below_drew1 | refine below_set ?_ GE261.out) | exact HB.out)⟩
            · rw [if_neg c23] at H
              have c23b0 : decide (1 ≤ (wrap64 (Int.tmod a0 80))) = false := decide_eq_false c23
              clear c23
              by_cases c35 : ((t262 == 0) == false) = true
              · rw [if_pos c35] at H
                have c35b0 : ((t262 == 0) == false) = true := c35
                (try (have c35b1 : decide ((t262 == 0) = false) = true := by simpa using c35))
                (try (have c35b2 : ((t262 == 0) == false) = true := by simpa using c35))
                clear c35
                by_cases c36 : t262 = 0
                · rw [if_pos c36] at H
                  have c36b0 : (t262 == 0) = true := beq_iff_eq.mpr c36
                  exact absurd c35b0 (by rw [c36b0]; decide)
                · rw [if_neg c36] at H
                  have c36b0 : (t262 == 0) = false := beq_eq_false_iff_ne.mpr c36
                  have c36b1 : (t262 != 0) = true := bne_iff_ne.mpr c36
                  obtain rfl := Option.some.inj H
                  have hcz40_0 : wr.cell? ⟨gb261, 0, none⟩ = some (.int .u8 124) := (blk_cell BK261.out 0).trans rfl
                  have hcz40_1 : wr.cell? ⟨gb261, 1, none⟩ = some (.int .u8 94) := (blk_cell BK261.out 1).trans rfl
                  have hcz40_2 : wr.cell? ⟨gb261, 2, none⟩ = some (.int .u8 126) := (blk_cell BK261.out 2).trans rfl
                  have hcz40_3 : wr.cell? ⟨gb261, 3, none⟩ = some (.int .u8 92) := (blk_cell BK261.out 3).trans rfl
                  have hcz40_4 : wr.cell? ⟨gb261, 4, none⟩ = some (.int .u8 38) := (blk_cell BK261.out 4).trans rfl
                  have hcz40_5 : wr.cell? ⟨gb261, 5, none⟩ = some (.string (⟨#[]⟩ : ByteArray)) := (blk_cell BK261.out 5).trans rfl
                  have hcz40_6 : wr.cell? ⟨gb261, 6, none⟩ = some (.string (⟨#[]⟩ : ByteArray)) := (blk_cell BK261.out 6).trans rfl
                  have hcz40_7 : wr.cell? ⟨gb261, 7, none⟩ = some (.string (⟨#[]⟩ : ByteArray)) := (blk_cell BK261.out 7).trans rfl
                  have hcz40_8 : wr.cell? ⟨gb261, 8, none⟩ = some (.string (⟨#[]⟩ : ByteArray)) := (blk_cell BK261.out 8).trans rfl
                  have hcz40_9 : wr.cell? ⟨gb261, 9, none⟩ = some (.string (⟨#[]⟩ : ByteArray)) := (blk_cell BK261.out 9).trans rfl
                  have hcz40_10 : wr.cell? ⟨gb261, 10, none⟩ = some (.string (⟨#[]⟩ : ByteArray)) := (blk_cell BK261.out 10).trans rfl
                  have hcz40_11 : wr.cell? ⟨gb261, 11, none⟩ = some (.string a1) := (blk_cell BK261.out 11).trans rfl
                  have hcz40_12 : wr.cell? ⟨gb261, 12, none⟩ = some (.string x262012_1) := (blk_cell BK261.out 12).trans rfl
                  have hcz40_13 : wr.cell? ⟨gb261, 13, none⟩ = some (.string (⟨#[80]⟩ : ByteArray)) := (blk_cell BK261.out 13).trans rfl
                  have hcz40_14 : wr.cell? ⟨gb261, 14, none⟩ = some (.string (⟨#[50, 46, 53]⟩ : ByteArray)) := (blk_cell BK261.out 14).trans rfl
                  have hfz40_0 := blk_frozen BK261.out 0
                  have hfz40_1 := blk_frozen BK261.out 1
                  have hfz40_2 := blk_frozen BK261.out 2
                  have hfz40_3 := blk_frozen BK261.out 3
                  have hfz40_4 := blk_frozen BK261.out 4
                  have hfz40_5 := blk_frozen BK261.out 5
                  have hfz40_6 := blk_frozen BK261.out 6
                  have hfz40_7 := blk_frozen BK261.out 7
                  have hfz40_8 := blk_frozen BK261.out 8
                  have hfz40_9 := blk_frozen BK261.out 9
                  have hfz40_10 := blk_frozen BK261.out 10
                  have hfz40_11 := blk_frozen BK261.out 11
                  have hfz40_12 := blk_frozen BK261.out 12
                  have hfz40_13 := blk_frozen BK261.out 13
                  have hfz40_14 := blk_frozen BK261.out 14
                  go_wp2_with (first | ((with_reducible refine gate_callee (f := 13) rfl ?_); refine goesL_ (some 21) rfl rfl Tryd.func13 (by kernel_rfl) rfl #[.agg #[.int .u8 124, .int .u8 94, .int .u8 126, .int .u8 92, .int .u8 38, .string (⟨#[]⟩ : ByteArray), .string (⟨#[]⟩ : ByteArray), .string (⟨#[]⟩ : ByteArray), .string (⟨#[]⟩ : ByteArray), .string (⟨#[]⟩ : ByteArray), .string (⟨#[]⟩ : ByteArray), .string a1, .string x262012_1, .string (⟨#[80]⟩ : ByteArray), .string (⟨#[50, 46, 53]⟩ : ByteArray)]] rfl (by (try simp only [List.map_toArray, List.map_cons, List.map_nil]); first | done | rfl | (simp only [List.length_drop, List.length_take]; rfl)) ?_; (with_reducible refine (msh_Check.calls k1 124 94 126 92 38 (⟨#[]⟩ : ByteArray) (⟨#[]⟩ : ByteArray) (⟨#[]⟩ : ByteArray) (⟨#[]⟩ : ByteArray) (⟨#[]⟩ : ByteArray) (⟨#[]⟩ : ByteArray) a1 x262012_1 (⟨#[80]⟩ : ByteArray) (⟨#[50, 46, 53]⟩ : ByteArray) t262 _ A8.out (glob_below HGLOB.out (by repeat (first | (with_reducible first | exact HB.out | apply below_alloc | apply pw_below_drewN | apply below_drew1) | exact HB.out)))).mono ?_); rintro e w41 ⟨rfl, hb⟩; refine ⟨_, rfl, ?_⟩; have n0_ := Aside0.mk (blk_below (g := gb261) (o := .cells #[.int .u8 124, .int .u8 94, .int .u8 126, .int .u8 92, .int .u8 38, .string (⟨#[]⟩ : ByteArray), .string (⟨#[]⟩ : ByteArray), .string (⟨#[]⟩ : ByteArray), .string (⟨#[]⟩ : ByteArray), .string (⟨#[]⟩ : ByteArray), .string (⟨#[]⟩ : ByteArray), .string a1, .string x262012_1, .string (⟨#[80]⟩ : ByteArray), .string (⟨#[50, 46, 53]⟩ : ByteArray)] 27 (0, 0)) (by (with_reducible repeat (first | refine blk_drewN ?_ _ | refine blk_drew ?_ | refine blk_alloc ?_ _)); exact BK261.out) hb); have n1_ := Aside0.mk (below_step (by repeat (first | (with_reducible first | exact HB.out | apply below_alloc | apply pw_below_drewN | apply below_drew1 | refine below_set ?_ GE261.out) | exact HB.out)) hb); clear BK261; clear HB; have BK261 := n0_; have HB := n1_; clear n0_ n1_; (try clear hb); (try clear hb2); (try clear hk); (try clear hi)) | ((with_reducible refine gate_callee (f := 10) rfl ?_); refine goesL_ (some 25) rfl rfl Tryd.func10 (by kernel_rfl) rfl #[] rfl (by (try simp only [List.map_toArray, List.map_cons, List.map_nil]); first | done | rfl | (simp only [List.length_drop, List.length_take]; rfl)) ?_; (with_reducible refine (lamplighterlaw09_alive.calls k1  true _ A9.out (glob_below HGLOB.out (by repeat (first | (with_reducible first | exact HB.out | apply below_alloc | apply pw_below_drewN | apply below_drew1) | exact HB.out)))).mono ?_); rintro e w42 ⟨rfl, hb⟩; refine ⟨_, rfl, ?_⟩; have n0_ := Aside0.mk (blk_below (g := gb261) (o := .cells #[.int .u8 124, .int .u8 94, .int .u8 126, .int .u8 92, .int .u8 38, .string (⟨#[]⟩ : ByteArray), .string (⟨#[]⟩ : ByteArray), .string (⟨#[]⟩ : ByteArray), .string (⟨#[]⟩ : ByteArray), .string (⟨#[]⟩ : ByteArray), .string (⟨#[]⟩ : ByteArray), .string a1, .string x262012_1, .string (⟨#[80]⟩ : ByteArray), .string (⟨#[50, 46, 53]⟩ : ByteArray)] 27 (0, 0)) (by (with_reducible repeat (first | refine blk_drewN ?_ _ | refine blk_drew ?_ | refine blk_alloc ?_ _)); exact BK261.out) hb); have n1_ := Aside0.mk (below_step (by repeat (first | (with_reducible first | exact HB.out | apply below_alloc | apply pw_below_drewN | apply below_drew1 | refine below_set ?_ GE261.out) | exact HB.out)) hb); clear BK261; clear HB; have BK261 := n0_; have HB := n1_; clear n0_ n1_; (try clear hb); (try clear hb2); (try clear hk); (try clear hi)))
                  go_ret
                  exact ⟨by first | rfl | (simp [errW_none, errW_some] <;> rfl) | (simp [*, errW_none, errW_some] <;> rfl), by repeat (first | (with_reducible first | exact HB.out | apply below_alloc | apply pw_below_drewN | apply below_drew1 | refine below_set ?_ GE261.out) | exact HB.out)⟩
              · rw [if_neg c35] at H
                have c35b0 : ((t262 == 0) == false) = false := by simpa using c35
                (try (have c35b1 : decide ((t262 == 0) = false) = false := by simpa using c35))
                (try (have c35b2 : ((t262 == 0) == false) = false := by simpa using c35))
                (try (have c35b3 : ¬ ((t262 == 0) = false) := by simpa using c35))
                clear c35
                obtain rfl := Option.some.inj H
                have hcz43_0 : wr.cell? ⟨gb261, 0, none⟩ = some (.int .u8 124) := (blk_cell BK261.out 0).trans rfl
                have hcz43_1 : wr.cell? ⟨gb261, 1, none⟩ = some (.int .u8 94) := (blk_cell BK261.out 1).trans rfl
                have hcz43_2 : wr.cell? ⟨gb261, 2, none⟩ = some (.int .u8 126) := (blk_cell BK261.out 2).trans rfl
                have hcz43_3 : wr.cell? ⟨gb261, 3, none⟩ = some (.int .u8 92) := (blk_cell BK261.out 3).trans rfl
                have hcz43_4 : wr.cell? ⟨gb261, 4, none⟩ = some (.int .u8 38) := (blk_cell BK261.out 4).trans rfl
                have hcz43_5 : wr.cell? ⟨gb261, 5, none⟩ = some (.string (⟨#[]⟩ : ByteArray)) := (blk_cell BK261.out 5).trans rfl
                have hcz43_6 : wr.cell? ⟨gb261, 6, none⟩ = some (.string (⟨#[]⟩ : ByteArray)) := (blk_cell BK261.out 6).trans rfl
                have hcz43_7 : wr.cell? ⟨gb261, 7, none⟩ = some (.string (⟨#[]⟩ : ByteArray)) := (blk_cell BK261.out 7).trans rfl
                have hcz43_8 : wr.cell? ⟨gb261, 8, none⟩ = some (.string (⟨#[]⟩ : ByteArray)) := (blk_cell BK261.out 8).trans rfl
                have hcz43_9 : wr.cell? ⟨gb261, 9, none⟩ = some (.string (⟨#[]⟩ : ByteArray)) := (blk_cell BK261.out 9).trans rfl
                have hcz43_10 : wr.cell? ⟨gb261, 10, none⟩ = some (.string (⟨#[]⟩ : ByteArray)) := (blk_cell BK261.out 10).trans rfl
                have hcz43_11 : wr.cell? ⟨gb261, 11, none⟩ = some (.string a1) := (blk_cell BK261.out 11).trans rfl
                have hcz43_12 : wr.cell? ⟨gb261, 12, none⟩ = some (.string x262012_1) := (blk_cell BK261.out 12).trans rfl
                have hcz43_13 : wr.cell? ⟨gb261, 13, none⟩ = some (.string (⟨#[80]⟩ : ByteArray)) := (blk_cell BK261.out 13).trans rfl
                have hcz43_14 : wr.cell? ⟨gb261, 14, none⟩ = some (.string (⟨#[50, 46, 53]⟩ : ByteArray)) := (blk_cell BK261.out 14).trans rfl
                have hfz43_0 := blk_frozen BK261.out 0
                have hfz43_1 := blk_frozen BK261.out 1
                have hfz43_2 := blk_frozen BK261.out 2
                have hfz43_3 := blk_frozen BK261.out 3
                have hfz43_4 := blk_frozen BK261.out 4
                have hfz43_5 := blk_frozen BK261.out 5
                have hfz43_6 := blk_frozen BK261.out 6
                have hfz43_7 := blk_frozen BK261.out 7
                have hfz43_8 := blk_frozen BK261.out 8
                have hfz43_9 := blk_frozen BK261.out 9
                have hfz43_10 := blk_frozen BK261.out 10
                have hfz43_11 := blk_frozen BK261.out 11
                have hfz43_12 := blk_frozen BK261.out 12
                have hfz43_13 := blk_frozen BK261.out 13
                have hfz43_14 := blk_frozen BK261.out 14
                go_wp2_with (first | ((with_reducible refine gate_callee (f := 13) rfl ?_); refine goesL_ (some 21) rfl rfl Tryd.func13 (by kernel_rfl) rfl #[.agg #[.int .u8 124, .int .u8 94, .int .u8 126, .int .u8 92, .int .u8 38, .string (⟨#[]⟩ : ByteArray), .string (⟨#[]⟩ : ByteArray), .string (⟨#[]⟩ : ByteArray), .string (⟨#[]⟩ : ByteArray), .string (⟨#[]⟩ : ByteArray), .string (⟨#[]⟩ : ByteArray), .string a1, .string x262012_1, .string (⟨#[80]⟩ : ByteArray), .string (⟨#[50, 46, 53]⟩ : ByteArray)]] rfl (by (try simp only [List.map_toArray, List.map_cons, List.map_nil]); first | done | rfl | (simp only [List.length_drop, List.length_take]; rfl)) ?_; (with_reducible refine (msh_Check.calls k1 124 94 126 92 38 (⟨#[]⟩ : ByteArray) (⟨#[]⟩ : ByteArray) (⟨#[]⟩ : ByteArray) (⟨#[]⟩ : ByteArray) (⟨#[]⟩ : ByteArray) (⟨#[]⟩ : ByteArray) a1 x262012_1 (⟨#[80]⟩ : ByteArray) (⟨#[50, 46, 53]⟩ : ByteArray) t262 _ A8.out (glob_below HGLOB.out (by repeat (first | (with_reducible first | exact HB.out | apply below_alloc | apply pw_below_drewN | apply below_drew1) | exact HB.out)))).mono ?_); rintro e w44 ⟨rfl, hb⟩; refine ⟨_, rfl, ?_⟩; have n0_ := Aside0.mk (blk_below (g := gb261) (o := .cells #[.int .u8 124, .int .u8 94, .int .u8 126, .int .u8 92, .int .u8 38, .string (⟨#[]⟩ : ByteArray), .string (⟨#[]⟩ : ByteArray), .string (⟨#[]⟩ : ByteArray), .string (⟨#[]⟩ : ByteArray), .string (⟨#[]⟩ : ByteArray), .string (⟨#[]⟩ : ByteArray), .string a1, .string x262012_1, .string (⟨#[80]⟩ : ByteArray), .string (⟨#[50, 46, 53]⟩ : ByteArray)] 27 (0, 0)) (by (with_reducible repeat (first | refine blk_drewN ?_ _ | refine blk_drew ?_ | refine blk_alloc ?_ _)); exact BK261.out) hb); have n1_ := Aside0.mk (below_step (by repeat (first | (with_reducible first | exact HB.out | apply below_alloc | apply pw_below_drewN | apply below_drew1 | refine below_set ?_ GE261.out) | exact HB.out)) hb); clear BK261; clear HB; have BK261 := n0_; have HB := n1_; clear n0_ n1_; (try clear hb); (try clear hb2); (try clear hk); (try clear hi)) | ((with_reducible refine gate_callee (f := 10) rfl ?_); refine goesL_ (some 25) rfl rfl Tryd.func10 (by kernel_rfl) rfl #[] rfl (by (try simp only [List.map_toArray, List.map_cons, List.map_nil]); first | done | rfl | (simp only [List.length_drop, List.length_take]; rfl)) ?_; (with_reducible refine (lamplighterlaw09_alive.calls k1  true _ A9.out (glob_below HGLOB.out (by repeat (first | (with_reducible first | exact HB.out | apply below_alloc | apply pw_below_drewN | apply below_drew1) | exact HB.out)))).mono ?_); rintro e w45 ⟨rfl, hb⟩; refine ⟨_, rfl, ?_⟩; have n0_ := Aside0.mk (blk_below (g := gb261) (o := .cells #[.int .u8 124, .int .u8 94, .int .u8 126, .int .u8 92, .int .u8 38, .string (⟨#[]⟩ : ByteArray), .string (⟨#[]⟩ : ByteArray), .string (⟨#[]⟩ : ByteArray), .string (⟨#[]⟩ : ByteArray), .string (⟨#[]⟩ : ByteArray), .string (⟨#[]⟩ : ByteArray), .string a1, .string x262012_1, .string (⟨#[80]⟩ : ByteArray), .string (⟨#[50, 46, 53]⟩ : ByteArray)] 27 (0, 0)) (by (with_reducible repeat (first | refine blk_drewN ?_ _ | refine blk_drew ?_ | refine blk_alloc ?_ _)); exact BK261.out) hb); have n1_ := Aside0.mk (below_step (by repeat (first | (with_reducible first | exact HB.out | apply below_alloc | apply pw_below_drewN | apply below_drew1 | refine below_set ?_ GE261.out) | exact HB.out)) hb); clear BK261; clear HB; have BK261 := n0_; have HB := n1_; clear n0_ n1_; (try clear hb); (try clear hb2); (try clear hk); (try clear hi)))
                go_ret
                exact ⟨by first | rfl | (simp [errW_none, errW_some] <;> rfl) | (simp [*, errW_none, errW_some] <;> rfl), by repeat (first | (with_reducible first | exact HB.out | apply below_alloc | apply pw_below_drewN | apply below_drew1 | refine below_set ?_ GE261.out) | exact HB.out)⟩
        · replace c10 := Bool.eq_false_iff.mpr c10
          subst c10
          have H1 : (some false) = some r := by rw [if_neg (show ¬ (false = true) by decide)] at H; exact H
          clear H
          have H := H1
          clear H1
          obtain rfl := Option.some.inj H
          have hcz46_0 : wr.cell? ⟨gb261, 0, none⟩ = some (.int .u8 124) := (blk_cell BK261.out 0).trans rfl
          have hcz46_1 : wr.cell? ⟨gb261, 1, none⟩ = some (.int .u8 94) := (blk_cell BK261.out 1).trans rfl
          have hcz46_2 : wr.cell? ⟨gb261, 2, none⟩ = some (.int .u8 126) := (blk_cell BK261.out 2).trans rfl
          have hcz46_3 : wr.cell? ⟨gb261, 3, none⟩ = some (.int .u8 92) := (blk_cell BK261.out 3).trans rfl
          have hcz46_4 : wr.cell? ⟨gb261, 4, none⟩ = some (.int .u8 38) := (blk_cell BK261.out 4).trans rfl
          have hcz46_5 : wr.cell? ⟨gb261, 5, none⟩ = some (.string (⟨#[]⟩ : ByteArray)) := (blk_cell BK261.out 5).trans rfl
          have hcz46_6 : wr.cell? ⟨gb261, 6, none⟩ = some (.string (⟨#[]⟩ : ByteArray)) := (blk_cell BK261.out 6).trans rfl
          have hcz46_7 : wr.cell? ⟨gb261, 7, none⟩ = some (.string (⟨#[]⟩ : ByteArray)) := (blk_cell BK261.out 7).trans rfl
          have hcz46_8 : wr.cell? ⟨gb261, 8, none⟩ = some (.string (⟨#[]⟩ : ByteArray)) := (blk_cell BK261.out 8).trans rfl
          have hcz46_9 : wr.cell? ⟨gb261, 9, none⟩ = some (.string (⟨#[]⟩ : ByteArray)) := (blk_cell BK261.out 9).trans rfl
          have hcz46_10 : wr.cell? ⟨gb261, 10, none⟩ = some (.string (⟨#[]⟩ : ByteArray)) := (blk_cell BK261.out 10).trans rfl
          have hcz46_11 : wr.cell? ⟨gb261, 11, none⟩ = some (.string a1) := (blk_cell BK261.out 11).trans rfl
          have hcz46_12 : wr.cell? ⟨gb261, 12, none⟩ = some (.string x262012_1) := (blk_cell BK261.out 12).trans rfl
          have hcz46_13 : wr.cell? ⟨gb261, 13, none⟩ = some (.string (⟨#[80]⟩ : ByteArray)) := (blk_cell BK261.out 13).trans rfl
          have hcz46_14 : wr.cell? ⟨gb261, 14, none⟩ = some (.string (⟨#[50, 46, 53]⟩ : ByteArray)) := (blk_cell BK261.out 14).trans rfl
          have hfz46_0 := blk_frozen BK261.out 0
          have hfz46_1 := blk_frozen BK261.out 1
          have hfz46_2 := blk_frozen BK261.out 2
          have hfz46_3 := blk_frozen BK261.out 3
          have hfz46_4 := blk_frozen BK261.out 4
          have hfz46_5 := blk_frozen BK261.out 5
          have hfz46_6 := blk_frozen BK261.out 6
          have hfz46_7 := blk_frozen BK261.out 7
          have hfz46_8 := blk_frozen BK261.out 8
          have hfz46_9 := blk_frozen BK261.out 9
          have hfz46_10 := blk_frozen BK261.out 10
          have hfz46_11 := blk_frozen BK261.out 11
          have hfz46_12 := blk_frozen BK261.out 12
          have hfz46_13 := blk_frozen BK261.out 13
          have hfz46_14 := blk_frozen BK261.out 14
          go_wp2_with (first | ((with_reducible refine gate_callee (f := 13) rfl ?_); refine goesL_ (some 21) rfl rfl Tryd.func13 (by kernel_rfl) rfl #[.agg #[.int .u8 124, .int .u8 94, .int .u8 126, .int .u8 92, .int .u8 38, .string (⟨#[]⟩ : ByteArray), .string (⟨#[]⟩ : ByteArray), .string (⟨#[]⟩ : ByteArray), .string (⟨#[]⟩ : ByteArray), .string (⟨#[]⟩ : ByteArray), .string (⟨#[]⟩ : ByteArray), .string a1, .string x262012_1, .string (⟨#[80]⟩ : ByteArray), .string (⟨#[50, 46, 53]⟩ : ByteArray)]] rfl (by (try simp only [List.map_toArray, List.map_cons, List.map_nil]); first | done | rfl | (simp only [List.length_drop, List.length_take]; rfl)) ?_; (with_reducible refine (msh_Check.calls k1 124 94 126 92 38 (⟨#[]⟩ : ByteArray) (⟨#[]⟩ : ByteArray) (⟨#[]⟩ : ByteArray) (⟨#[]⟩ : ByteArray) (⟨#[]⟩ : ByteArray) (⟨#[]⟩ : ByteArray) a1 x262012_1 (⟨#[80]⟩ : ByteArray) (⟨#[50, 46, 53]⟩ : ByteArray) t262 _ A8.out (glob_below HGLOB.out (by repeat (first | (with_reducible first | exact HB.out | apply below_alloc | apply pw_below_drewN | apply below_drew1) | exact HB.out)))).mono ?_); rintro e w47 ⟨rfl, hb⟩; refine ⟨_, rfl, ?_⟩; have n0_ := Aside0.mk (blk_below (g := gb261) (o := .cells #[.int .u8 124, .int .u8 94, .int .u8 126, .int .u8 92, .int .u8 38, .string (⟨#[]⟩ : ByteArray), .string (⟨#[]⟩ : ByteArray), .string (⟨#[]⟩ : ByteArray), .string (⟨#[]⟩ : ByteArray), .string (⟨#[]⟩ : ByteArray), .string (⟨#[]⟩ : ByteArray), .string a1, .string x262012_1, .string (⟨#[80]⟩ : ByteArray), .string (⟨#[50, 46, 53]⟩ : ByteArray)] 27 (0, 0)) (by (with_reducible repeat (first | refine blk_drewN ?_ _ | refine blk_drew ?_ | refine blk_alloc ?_ _)); exact BK261.out) hb); have n1_ := Aside0.mk (below_step (by repeat (first | (with_reducible first | exact HB.out | apply below_alloc | apply pw_below_drewN | apply below_drew1 | refine below_set ?_ GE261.out) | exact HB.out)) hb); clear BK261; clear HB; have BK261 := n0_; have HB := n1_; clear n0_ n1_; (try clear hb); (try clear hb2); (try clear hk); (try clear hi)) | ((with_reducible refine gate_callee (f := 10) rfl ?_); refine goesL_ (some 25) rfl rfl Tryd.func10 (by kernel_rfl) rfl #[] rfl (by (try simp only [List.map_toArray, List.map_cons, List.map_nil]); first | done | rfl | (simp only [List.length_drop, List.length_take]; rfl)) ?_; (with_reducible refine (lamplighterlaw09_alive.calls k1  false _ A9.out (glob_below HGLOB.out (by repeat (first | (with_reducible first | exact HB.out | apply below_alloc | apply pw_below_drewN | apply below_drew1) | exact HB.out)))).mono ?_); rintro e w48 ⟨rfl, hb⟩; refine ⟨_, rfl, ?_⟩; have n0_ := Aside0.mk (blk_below (g := gb261) (o := .cells #[.int .u8 124, .int .u8 94, .int .u8 126, .int .u8 92, .int .u8 38, .string (⟨#[]⟩ : ByteArray), .string (⟨#[]⟩ : ByteArray), .string (⟨#[]⟩ : ByteArray), .string (⟨#[]⟩ : ByteArray), .string (⟨#[]⟩ : ByteArray), .string (⟨#[]⟩ : ByteArray), .string a1, .string x262012_1, .string (⟨#[80]⟩ : ByteArray), .string (⟨#[50, 46, 53]⟩ : ByteArray)] 27 (0, 0)) (by (with_reducible repeat (first | refine blk_drewN ?_ _ | refine blk_drew ?_ | refine blk_alloc ?_ _)); exact BK261.out) hb); have n1_ := Aside0.mk (below_step (by repeat (first | (with_reducible first | exact HB.out | apply below_alloc | apply pw_below_drewN | apply below_drew1 | refine below_set ?_ GE261.out) | exact HB.out)) hb); clear BK261; clear HB; have BK261 := n0_; have HB := n1_; clear n0_ n1_; (try clear hb); (try clear hb2); (try clear hk); (try clear hi)))
          go_ret
          exact ⟨by first | rfl | (simp [errW_none, errW_some] <;> rfl) | (simp [*, errW_none, errW_some] <;> rfl), by repeat (first | (with_reducible first | exact HB.out | apply below_alloc | apply pw_below_drewN | apply below_drew1 | refine below_set ?_ GE261.out) | exact HB.out)⟩

/-- THE ONE PURE STATEMENT of lamplighterlaw09_MshIds: yours. -/
def lamplighterlaw09_MshIds.Pure : Prop := ∀ (a0 : Int) (a1 : ByteArray), (Lit.int .u8 a0).wf = true → a1.size ≤ 140737488351232 → ∃ k, lamplighterlaw09_MshIds.f k a0 a1 = some true
theorem lamplighterlaw09_MshIds.walk (P : lamplighterlaw09_MshIds.Pure) (a0 : Int) (a1 : ByteArray) (w : World) (w0 : (Lit.int .u8 a0).wf = true) (w1 : a1.size ≤ 140737488351232) (hG : GlobOK w) :
    Calls Tryd.prog 4 #[.int .u8 a0, .string a1] w fun e w' => e = .returned (.bool true) ∧ Below w.heap.size w w' := by
  obtain ⟨k, h⟩ := P a0 a1 w0 w1
  refine (lamplighterlaw09_MshIds.calls k a0 a1 true w h hG).mono ?_
  rintro e w' ⟨rfl, hd⟩
  exact ⟨rfl, hd⟩

-- NOT PRINTED: function 30 (slices_Clone_string_string)

/-! ### msh_Versions: function 14 -/
def msh_Versions.f : Option (List ByteArray) := some versL
set_option maxHeartbeats 1000000 in
theorem msh_Versions.calls (r : List ByteArray) (w : World) (h : msh_Versions.f = some r) (hG : GlobOK w) :
    Calls Tryd.prog 14 #[] w fun e w' => ∃ v0_ : Value, e = .returned (v0_) ∧ Kd.R Kd.string 9 w' w.heap.size (fun _ => True) v0_ r ∧ Below w.heap.size w w' := by
  obtain rfl := Option.some.inj h
  have HG := Lib.hid hG
  clear hG h
  go_enter Tryd.func14, Tryd.ntmps14
  go_wp2_with fail
  refine (Tryd.slices_Clone_string 0 0 10 10 versL _ (by decide) (by decide) (fun j hj => by rw [Nat.zero_add]; exact HG.out j hj)).mono ?_
  rintro e w' ⟨v, rfl, ho, _, hb⟩
  go_wp2_with fail
  refine bodyPost_ret (v := v) (by simp [results, Tryd.results14, go_sem]) rfl ⟨v, rfl, Kd.R_of_own ?_ (fun _ _ => trivial), hb⟩
  exact ho


-- NOT PRINTED: function 5 (lamplighterlaw09_MshKnown)

/-! ### lamplighterlaw09_great: function 15 -/
def lamplighterlaw09_great.f (a0_0 : Int) (a0_1 : Int) (a0_2 : Int) (a0_3 : Int) (a0_4 : Int) (a0_5 : ByteArray) (a0_6 : ByteArray) (a0_7 : ByteArray) (a0_8 : ByteArray) (a0_9 : ByteArray) (a0_10 : ByteArray) (a0_11 : ByteArray) (a0_12 : ByteArray) (a0_13 : ByteArray) (a0_14 : ByteArray) : Option (Bool) := some (decide ((wrap64 ((wrap64 ((wrap64 ((wrap64 ((wrap64 ((wrap64 ((wrap64 ((wrap64 ((wrap64 ((a0_5.size : Int) + (a0_6.size : Int))) + (a0_7.size : Int))) + (a0_8.size : Int))) + (a0_9.size : Int))) + (a0_10.size : Int))) + (a0_11.size : Int))) + (a0_12.size : Int))) + (a0_13.size : Int))) + (a0_14.size : Int))) > 3000))
set_option maxHeartbeats 8000000 in
set_option maxRecDepth 100000 in
theorem lamplighterlaw09_great.calls (a0_0 : Int) (a0_1 : Int) (a0_2 : Int) (a0_3 : Int) (a0_4 : Int) (a0_5 : ByteArray) (a0_6 : ByteArray) (a0_7 : ByteArray) (a0_8 : ByteArray) (a0_9 : ByteArray) (a0_10 : ByteArray) (a0_11 : ByteArray) (a0_12 : ByteArray) (a0_13 : ByteArray) (a0_14 : ByteArray) (r : Bool) (w : World) (h : lamplighterlaw09_great.f a0_0 a0_1 a0_2 a0_3 a0_4 a0_5 a0_6 a0_7 a0_8 a0_9 a0_10 a0_11 a0_12 a0_13 a0_14 = some r) :
    Calls Tryd.prog 15 #[.agg #[.int .u8 a0_0, .int .u8 a0_1, .int .u8 a0_2, .int .u8 a0_3, .int .u8 a0_4, .string a0_5, .string a0_6, .string a0_7, .string a0_8, .string a0_9, .string a0_10, .string a0_11, .string a0_12, .string a0_13, .string a0_14]] w fun e w' => e = .returned (.bool r) ∧ Below w.heap.size w w' := by
  have hu27 := Tryd.underlying27
  have HB := Aside0.mk (Below.refl w.heap.size w)
  have H : (some (decide ((wrap64 ((wrap64 ((wrap64 ((wrap64 ((wrap64 ((wrap64 ((wrap64 ((wrap64 ((wrap64 ((a0_5.size : Int) + (a0_6.size : Int))) + (a0_7.size : Int))) + (a0_8.size : Int))) + (a0_9.size : Int))) + (a0_10.size : Int))) + (a0_11.size : Int))) + (a0_12.size : Int))) + (a0_13.size : Int))) + (a0_14.size : Int))) > 3000))) = some r := h
  clear h
  obtain rfl := Option.some.inj H
  go_enter Tryd.func15, Tryd.ntmps15
  go_wp2_with (first | ((with_reducible refine gate_dst (N := 1) rfl ?_); refine box_event ?hg (N := 1) ?hd (cs := #[.int .u8 a0_0, .int .u8 a0_1, .int .u8 a0_2, .int .u8 a0_3, .int .u8 a0_4, .string a0_5, .string a0_6, .string a0_7, .string a0_8, .string a0_9, .string a0_10, .string a0_11, .string a0_12, .string a0_13, .string a0_14]) (t := 27) ?hr ?_; (case hd => rfl); (case hg => rfl); (case hr => first | (go_simp; done) | (go_simp; rfl)); intro gb282 hg w2 hbox hb; have n0_ := Aside0.mk (below_step (by repeat (first | (with_reducible first | exact HB.out | apply below_alloc | apply pw_below_drewN | apply below_drew1) | exact HB.out)) hb); have n1_ := Aside0.mk (hbox); have n2_ := Aside0.mk ((by rw [hg]; exact (below_size (by repeat (first | (with_reducible first | exact HB.out | apply below_alloc | apply pw_below_drewN | apply below_drew1) | exact HB.out))) : w.heap.size ≤ gb282)); have n3_ := Aside0.mk ((by rw [hg]; exact (below_size (by repeat (first | (with_reducible first | exact HB.out | apply below_alloc | apply pw_below_drewN | apply below_drew1) | exact HB.out))) : w.heap.size ≤ gb282)); clear HB; have HB := n0_; have BK282 := n1_; have GW282 := n2_; have GE282 := n3_; clear n0_ n1_ n2_ n3_; clear hb hbox hg; have hcz3_0 : w2.cell? ⟨gb282, 0, none⟩ = some (.int .u8 a0_0) := (blk_cell BK282.out 0).trans rfl; have hcz3_1 : w2.cell? ⟨gb282, 1, none⟩ = some (.int .u8 a0_1) := (blk_cell BK282.out 1).trans rfl; have hcz3_2 : w2.cell? ⟨gb282, 2, none⟩ = some (.int .u8 a0_2) := (blk_cell BK282.out 2).trans rfl; have hcz3_3 : w2.cell? ⟨gb282, 3, none⟩ = some (.int .u8 a0_3) := (blk_cell BK282.out 3).trans rfl; have hcz3_4 : w2.cell? ⟨gb282, 4, none⟩ = some (.int .u8 a0_4) := (blk_cell BK282.out 4).trans rfl; have hcz3_5 : w2.cell? ⟨gb282, 5, none⟩ = some (.string a0_5) := (blk_cell BK282.out 5).trans rfl; have hcz3_6 : w2.cell? ⟨gb282, 6, none⟩ = some (.string a0_6) := (blk_cell BK282.out 6).trans rfl; have hcz3_7 : w2.cell? ⟨gb282, 7, none⟩ = some (.string a0_7) := (blk_cell BK282.out 7).trans rfl; have hcz3_8 : w2.cell? ⟨gb282, 8, none⟩ = some (.string a0_8) := (blk_cell BK282.out 8).trans rfl; have hcz3_9 : w2.cell? ⟨gb282, 9, none⟩ = some (.string a0_9) := (blk_cell BK282.out 9).trans rfl; have hcz3_10 : w2.cell? ⟨gb282, 10, none⟩ = some (.string a0_10) := (blk_cell BK282.out 10).trans rfl; have hcz3_11 : w2.cell? ⟨gb282, 11, none⟩ = some (.string a0_11) := (blk_cell BK282.out 11).trans rfl; have hcz3_12 : w2.cell? ⟨gb282, 12, none⟩ = some (.string a0_12) := (blk_cell BK282.out 12).trans rfl; have hcz3_13 : w2.cell? ⟨gb282, 13, none⟩ = some (.string a0_13) := (blk_cell BK282.out 13).trans rfl; have hcz3_14 : w2.cell? ⟨gb282, 14, none⟩ = some (.string a0_14) := (blk_cell BK282.out 14).trans rfl; have hfz3_0 := blk_frozen BK282.out 0; have hfz3_1 := blk_frozen BK282.out 1; have hfz3_2 := blk_frozen BK282.out 2; have hfz3_3 := blk_frozen BK282.out 3; have hfz3_4 := blk_frozen BK282.out 4; have hfz3_5 := blk_frozen BK282.out 5; have hfz3_6 := blk_frozen BK282.out 6; have hfz3_7 := blk_frozen BK282.out 7; have hfz3_8 := blk_frozen BK282.out 8; have hfz3_9 := blk_frozen BK282.out 9; have hfz3_10 := blk_frozen BK282.out 10; have hfz3_11 := blk_frozen BK282.out 11; have hfz3_12 := blk_frozen BK282.out 12; have hfz3_13 := blk_frozen BK282.out 13; have hfz3_14 := blk_frozen BK282.out 14))
  go_ret
  exact ⟨by first | rfl | (simp [errW_none, errW_some] <;> rfl) | (simp [*, errW_none, errW_some] <;> rfl), by repeat (first | (with_reducible first | exact HB.out | apply below_alloc | apply pw_below_drewN | apply below_drew1 | refine below_set ?_ GE282.out) | exact HB.out)⟩

/-! ### strings_Index: function 58 -/
def strings_Index.f (a0 : ByteArray) (a1 : ByteArray) : Option (Int) := (stringslite_Index.f a0 a1).bind fun t283 => (some t283)
set_option maxHeartbeats 8000000 in
set_option maxRecDepth 100000 in
theorem strings_Index.calls (a0 : ByteArray) (a1 : ByteArray) (r : Int) (w : World) (h : strings_Index.f a0 a1 = some r) :
    Calls Tryd.prog 58 #[.string a0, .string a1] w fun e w' => e = .returned (.int .i64 r) ∧ Drawn0 w w' := by
  have H : ((stringslite_Index.f a0 a1).bind fun t283 => (some t283)) = some r := h
  clear h
  replace H := Option.bind_eq_some_iff.mp H
  obtain ⟨t283, A30, H⟩ := H
  replace H : (some t283) = some r := H
  have A3 := Aside0.mk A30
  clear A30
  obtain rfl := Option.some.inj H
  go_enter Tryd.func58, Tryd.ntmps58
  go_wp2_with (first | ((with_reducible refine gate_callee (f := 72) rfl ?_); refine goesL_ (some 7) rfl rfl Tryd.func72 (by kernel_rfl) rfl #[.string a0, .string a1] rfl (by (try simp only [List.map_toArray, List.map_cons, List.map_nil]); first | done | rfl | (simp only [List.length_drop, List.length_take]; rfl)) ?_; (with_reducible refine (stringslite_Index.calls a0 a1 t283 _ A3.out).mono ?_); rintro e w' ⟨rfl, ⟨nd, rfl⟩⟩; refine ⟨_, rfl, ?_⟩))
  go_ret
  exact ⟨by first | rfl | (simp; done) | (simp [*]; done), by repeat (first | exact Drawn0.refl _ | apply Drawn0.step)⟩

/-! ### strings_Contains: function 32 -/
def strings_Contains.f (a0 : ByteArray) (a1 : ByteArray) : Option (Bool) := (strings_Index.f a0 a1).bind fun t284 => (some (decide (t284 ≥ 0)))
set_option maxHeartbeats 8000000 in
set_option maxRecDepth 100000 in
theorem strings_Contains.calls (a0 : ByteArray) (a1 : ByteArray) (r : Bool) (w : World) (h : strings_Contains.f a0 a1 = some r) :
    Calls Tryd.prog 32 #[.string a0, .string a1] w fun e w' => e = .returned (.bool r) ∧ Drawn0 w w' := by
  have H : ((strings_Index.f a0 a1).bind fun t284 => (some (decide (t284 ≥ 0)))) = some r := h
  clear h
  replace H := Option.bind_eq_some_iff.mp H
  obtain ⟨t284, A30, H⟩ := H
  replace H : (some (decide (t284 ≥ 0))) = some r := H
  have A3 := Aside0.mk A30
  clear A30
  obtain rfl := Option.some.inj H
  go_enter Tryd.func32, Tryd.ntmps32
  go_wp2_with (first | ((with_reducible refine gate_callee (f := 58) rfl ?_); refine goesL_ (some 7) rfl rfl Tryd.func58 (by kernel_rfl) rfl #[.string a0, .string a1] rfl (by (try simp only [List.map_toArray, List.map_cons, List.map_nil]); first | done | rfl | (simp only [List.length_drop, List.length_take]; rfl)) ?_; (with_reducible refine (strings_Index.calls a0 a1 t284 _ A3.out).mono ?_); rintro e w' ⟨rfl, ⟨nd, rfl⟩⟩; refine ⟨_, rfl, ?_⟩))
  go_ret
  exact ⟨by first | rfl | (simp; done) | (simp [*]; done), by repeat (first | exact Drawn0.refl _ | apply Drawn0.step)⟩

-- NOT PRINTED: function 89 (abi_NoEscape)

-- NOT PRINTED: function 84 (strings_Builder_copyCheck)

-- NOT PRINTED: function 90 (bytealg_MakeNoZero)

-- NOT PRINTED: function 85 (strings_Builder_grow)

-- NOT PRINTED: function 73 (strings_Builder_Grow)

-- NOT PRINTED: function 74 (strings_Builder_WriteString)

-- NOT PRINTED: function 75 (strings_Builder_String)

/-! ### strings_Join: function 59 -/
def strings_Join.f (l0 : List ByteArray) (a1 : ByteArray) : Option (ByteArray) := if l0.length ≤ 140737488355328 ∧ (Lib.join (l0.map (·.data.toList)) a1.data.toList).length ≤ 140737488355328 then some ⟨(Lib.join (l0.map (·.data.toList)) a1.data.toList).toArray⟩ else none
theorem strings_Join.calls (A0 : Option Addr) (c0 : Nat) (l0 : List ByteArray) (a1 : ByteArray) (r : ByteArray) (w : World) (hr0 : Kd.C Kd.string w A0 l0.length l0) (hc0 : l0.length ≤ c0) (h : strings_Join.f l0 a1 = some r) :
    Calls Tryd.prog 59 #[.slice A0 l0.length c0, .string a1] w fun e w' => e = .returned (.string r) ∧ Below w.heap.size w w' := by
  unfold strings_Join.f at h
  split at h
  · rename_i hb
    obtain rfl := Option.some.inj h
    cases hl : l0 with
    | nil =>
      refine (Tryd.strings_Join_none A0 c0 a1 w).mono ?_
      rintro e w' ⟨rfl, rfl⟩
      exact ⟨by simp [Lib.join], Below.refl _ _⟩
    | cons x t =>
      rw [hl] at hr0 hc0 hb
      have hcell : ∀ j : Nat, j < (x :: t).length → ∃ ad, A0 = some ad ∧ w.cell? (ad.add j) = some (.string (rdOf ByteArray.empty (x :: t) j)) := fun j hj => by
        obtain ⟨ad, e, hc⟩ := Kd.at_string hr0 (j : Int) (by omega) (by omega)
        exact ⟨ad, e, by simpa using hc⟩
      obtain ⟨ad, rfl, hc⟩ := hcell 0 (by simp)
      obtain ⟨b, o, sp⟩ := ad
      have hsp : sp = none := by
        cases sp with
        | none => rfl
        | some s =>
          exfalso
          have h0 : (⟨b, o, some s⟩ : Addr).add 0 = ⟨b, o, some s⟩ := by simp [Addr.add]
          rw [h0] at hc
          unfold World.cell? at hc
          split at hc
          · simp at hc
          · cases hc
      subst hsp
      refine Tryd.strings_Join b o c0 (x :: t) a1 w (fun j y hy => ?_) ?_ hb.1 hc0 hb.2
      · obtain ⟨hj, hy2⟩ := List.getElem?_eq_some_iff.1 hy
        obtain ⟨ad, e, hc2⟩ := hcell j hj
        cases e
        have ha : (⟨b, o, none⟩ : Addr).add j = ⟨b, o + j, none⟩ := by unfold Addr.add; split <;> simp_all
        rw [ha] at hc2
        rw [hc2, ← hy2]
        simp [rdOf, List.getElem?_eq_getElem hj]
      · have h0 : (⟨b, o, none⟩ : Addr).add 0 = ⟨b, o, none⟩ := by simp [Addr.add]
        rw [h0] at hc
        exact World.block_lt_of_cell? w ⟨b, o, none⟩ hc
  · cases h


/-! ### delim_Join: function 60 -/
def delim_Join.f (a0 : Int) (l1 : List ByteArray) : Option (ByteArray) := (strings_Join.f l1 (strOfNums (([a0] : List Int)))).bind fun t288 => (some t288)
set_option maxHeartbeats 8000000 in
set_option maxRecDepth 100000 in
theorem delim_Join.calls (a0 : Int) (A1 : Option Addr) (c1 : Nat) (l1 : List ByteArray) (r : ByteArray) (w : World) (hr1 : Kd.C Kd.string w A1 l1.length l1) (hc1 : l1.length ≤ c1) (h : delim_Join.f a0 l1 = some r) :
    Calls Tryd.prog 60 #[.int .u8 a0, .slice A1 l1.length c1] w fun e w' => e = .returned (.string r) ∧ Below w.heap.size w w' := by
  have HR1 := Aside0.mk hr1
  have HC1 := Aside0.mk hc1
  clear hr1 hc1
  have HB := Aside0.mk (Below.refl w.heap.size w)
  have H : ((strings_Join.f l1 (strOfNums (([a0] : List Int)))).bind fun t288 => (some t288)) = some r := h
  clear h
  obtain ⟨y285, hy285⟩ : ∃ y_ : List Int, y_ = (([a0] : List Int)) := ⟨_, rfl⟩
  replace H : ((strings_Join.f l1 (strOfNums y285)).bind fun t288 => (some t288)) = some r := by first | (rw [hy285]; with_reducible exact H) | (have H2_ := (Option.bind_some _ _).symm.trans H; rw [hy285]; with_reducible exact H2_) | (have H2_ := (Option.bind_some _ _).symm.trans H; with_reducible exact H2_) | with_reducible exact H | (rw [hy285]; exact H) | exact H
  have Ny285 := Aside0.mk hy285
  clear hy285
  replace H := Option.bind_eq_some_iff.mp H
  obtain ⟨t288, A30, H⟩ := H
  replace H : (some t288) = some r := H
  have A3 := Aside0.mk A30
  clear A30
  obtain rfl := Option.some.inj H
  go_enter Tryd.func60, Tryd.ntmps60
  go_wp2_with (first | ((with_reducible refine gate_dst (N := 7) rfl ?_); refine Kd.R_lit (Kd.int .u8) _ 5 ?hg (N := 7) ?hd (xs := ([a0] : List Int)) (inner := [.int .u8 a0]) (ok := fun _ => True) (okp := fun _ => True) ?hr ?hp (fun _ hk => hk) trivial (Below.refl _ _) (Nat.le_refl _) (by simp) ?_; (case hd => rfl); (case hg => rfl); (case hr => first | (go_simp; done) | (go_simp; rfl)); (case hp => exact (Reps.one (show Kd.M (Kd.int .u8) _ _ _ a0 [.int .u8 a0] from rfl) (Reps.none _ _))); intro v286 w4 ho5 hb hg_ hnew_; clear hg_ hnew_; (first | rw [← Ny285.out] at ho5 | (simp only [Int.reduceToNat] at ho5; rw [← Ny285.out] at ho5)); have n0_ := Aside0.mk (Kd.R_lower ho5 (below_size (by repeat (first | (with_reducible first | exact HB.out | apply below_alloc | apply pw_below_drewN | apply below_drew1) | exact HB.out)))); have n1_ := Aside0.mk (below_step (by repeat (first | (with_reducible first | exact HB.out | apply below_alloc | apply pw_below_drewN | apply below_drew1) | exact HB.out)) hb); clear HB; have HO287 := n0_; have HB := n1_; clear n0_ n1_; clear hb ho5; have hcv6 := own_string (P := Tryd.prog) Tryd.underlying22 Tryd.underlying5 Tryd.underlying9 (Kd.own_of_R HO287.out)) | ((with_reducible refine gate_callee (f := 59) rfl ?_); refine goesL_ (some 9) rfl rfl Tryd.func59 (by kernel_rfl) rfl #[.slice A1 l1.length c1, .string (strOfNums y285)] rfl (by (try simp only [List.map_toArray, List.map_cons, List.map_nil]); first | done | rfl | (simp only [List.length_drop, List.length_take]; rfl)) ?_; (with_reducible refine (strings_Join.calls _ _ l1 (strOfNums y285) t288 _ ?side1 ?side2 A3.out).mono ?_); (case side1 => repeat (first | exact (Kd.C_below HR1.out HB.out) | (with_reducible refine Kd.C_alloc ?_ _) | (with_reducible refine Kd.C_drewN ?_ _) | (with_reducible refine Kd.C_drew ?_))); (case side2 => exact HC1.out); rintro e w7 ⟨rfl, hb⟩; refine ⟨_, rfl, ?_⟩; have n0_ := Aside0.mk (Kd.R_below (by (with_reducible repeat (first | apply Kd.R_alloc | apply Kd.R_drewN | apply Kd.R_drew)); exact HO287.out) hb); have n1_ := Aside0.mk (below_step (by repeat (first | (with_reducible first | exact HB.out | apply below_alloc | apply pw_below_drewN | apply below_drew1) | exact HB.out)) hb); clear HO287; clear HB; have HO287 := n0_; have HB := n1_; clear n0_ n1_; (try clear hb); (try clear hb2); (try clear hk); (try clear hi)))
  go_ret
  exact ⟨by first | rfl | (simp [errW_none, errW_some] <;> rfl) | (simp [*, errW_none, errW_some] <;> rfl), by repeat (first | (with_reducible first | exact HB.out | apply below_alloc | apply pw_below_drewN | apply below_drew1) | exact HB.out)⟩

end Go.Proofs.YtbkalgkjkcfplaaDoor.PM
