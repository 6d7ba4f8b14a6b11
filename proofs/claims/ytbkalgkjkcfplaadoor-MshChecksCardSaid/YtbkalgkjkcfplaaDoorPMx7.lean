-- Written by a program of this work (the kit's print, with contracts of this work's own taken in) out of the translation. Not trusted: Lean checks it.
import Derived.Test.YtbkalgkjkcfplaaDoorPMx0
import Derived.Test.YtbkalgkjkcfplaaDoorPMx6
namespace Go.Proofs.YtbkalgkjkcfplaaDoor.PM
open Go.RowKit Go.Proofs.YtbkalgkjkcfplaaDoorW.PrintWords Go.Proofs.YtbkalgkjkcfplaaDoorW.PrintLast Go.Proofs.YtbkalgkjkcfplaaDoorW.PrintMore
attribute [local go_sem] max2_int min2_int max_two min_two max_three min_three max_four min_four   -- for this text's walks alone
set_option linter.unusedVariables false
set_option linter.unusedSimpArgs false

/-! ### lamplighterlaw09_MshIds: function 4 -/
def lamplighterlaw09_MshIds.l0 : Nat → Int → ByteArray → Int → Int → Int → Int → Int → Int → Int → ByteArray → ByteArray → ByteArray → ByteArray → ByteArray → ByteArray → ByteArray → ByteArray → ByteArray → ByteArray → Option (Bool)
 | 0, _, _, _, _, _, _, _, _, _, _, _, _, _, _, _, _, _, _, _ => none
 | k + 1, x0, x1, x12, x13, x168000, x168001, x168002, x168003, x168004, x168005, x168006, x168007, x168008, x168009, x168010, x168011, x168012, x168013, x168014 => if x13 < x12 then (if x168012.size + 1 ≤ 9223372036854775807 then (lamplighterlaw09_MshIds.l0 k x0 x1 x12 ((x13 + 1) % 256) x168000 x168001 x168002 x168003 x168004 x168005 x168006 x168007 x168008 x168009 x168010 x168011 (x168012 ++ (⟨#[55]⟩ : ByteArray)) x168013 x168014) else (none)) else ((msh_Check.f k x168000 x168001 x168002 x168003 x168004 x168005 x168006 x168007 x168008 x168009 x168010 x168011 x168012 x168013 x168014).bind fun t168 => ((lamplighterlaw09_alive.f k).bind fun t169 => (if t169 = true then (if x1.toList = ([] : List UInt8) then (if ((t168 == 0) == false) = true then (if t168 = 0 then (some true) else (some (t168 == 14))) else (some false)) else (if (wrap64 (Int.tmod x0 80)) ≥ 1 then (if ((t168 == 0) == (decide ((wrap64 (Int.tmod x0 80)) ≤ 50))) = true then (if t168 = 0 then (some true) else (some (t168 == 14))) else (some false)) else (if ((t168 == 0) == false) = true then (if t168 = 0 then (some true) else (some (t168 == 14))) else (some false)))) else (some false))))
def lamplighterlaw09_MshIds.f (k : Nat) (a0 : Int) (a1 : ByteArray) : Option (Bool) := lamplighterlaw09_MshIds.l0 k a0 a1 (Int.tmod a0 80) 0 124 94 126 92 38 (⟨#[]⟩ : ByteArray) (⟨#[]⟩ : ByteArray) (⟨#[]⟩ : ByteArray) (⟨#[]⟩ : ByteArray) (⟨#[]⟩ : ByteArray) (⟨#[]⟩ : ByteArray) a1 (⟨#[]⟩ : ByteArray) (⟨#[80]⟩ : ByteArray) (⟨#[50, 46, 53]⟩ : ByteArray)
theorem lamplighterlaw09_MshIds.mono_l : ∀ k, (∀ y0 y1 y2 y3 y4 y5 y6 y7 y8 y9 y10 y11 y12 y13 y14 y15 y16 y17 y18, LeO (lamplighterlaw09_MshIds.l0 k y0 y1 y2 y3 y4 y5 y6 y7 y8 y9 y10 y11 y12 y13 y14 y15 y16 y17 y18) (lamplighterlaw09_MshIds.l0 (k + 1) y0 y1 y2 y3 y4 y5 y6 y7 y8 y9 y10 y11 y12 y13 y14 y15 y16 y17 y18))
 | 0 => fun _ _ _ _ _ _ _ _ _ _ _ _ _ _ _ _ _ _ _ r h => by simp [lamplighterlaw09_MshIds.l0] at h
 | k + 1 => by
  have ih0 := lamplighterlaw09_MshIds.mono_l k
  ·intro y0 y1 y2 y3 y4 y5 y6 y7 y8 y9 y10 y11 y12 y13 y14 y15 y16 y17 y18
   unfold lamplighterlaw09_MshIds.l0
   repeat' first
   | (with_reducible exact ih0 _ _ _ _ _ _ _ _ _ _ _ _ _ _ _ _ _ _ _)
   | (with_reducible exact lamplighterlaw09_alive.mono _)
   | (with_reducible exact msh_Check.mono _ _ _ _ _ _ _ _ _ _ _ _ _ _ _ _)
   | (with_reducible exact LeO.refl _)
   | (with_reducible exact LeO.none _)
   | (with_reducible refine LeO.ite ?_ ?_)
   | (with_reducible refine LeO.bind ?_ (fun _ => ?_))
   | exact ih0 _ _ _ _ _ _ _ _ _ _ _ _ _ _ _ _ _ _ _
   | exact lamplighterlaw09_alive.mono _
   | exact msh_Check.mono _ _ _ _ _ _ _ _ _ _ _ _ _ _ _ _
   | exact LeO.none _
   | refine LeO.ite ?_ ?_
   | refine LeO.bind ?_ (fun _ => ?_)
theorem lamplighterlaw09_MshIds.mono : ∀ a0 a1 k, LeO (lamplighterlaw09_MshIds.f k a0 a1) (lamplighterlaw09_MshIds.f (k + 1) a0 a1) := by
 intro a0 a1 k
 have ih0 := lamplighterlaw09_MshIds.mono_l k
 unfold lamplighterlaw09_MshIds.f
 repeat' first
   | (with_reducible exact ih0 _ _ _ _ _ _ _ _ _ _ _ _ _ _ _ _ _ _ _)
   | (with_reducible exact lamplighterlaw09_alive.mono _)
   | (with_reducible exact msh_Check.mono _ _ _ _ _ _ _ _ _ _ _ _ _ _ _ _)
   | (with_reducible exact LeO.refl _)
   | (with_reducible exact LeO.none _)
   | (with_reducible refine LeO.ite ?_ ?_)
   | (with_reducible refine LeO.bind ?_ (fun _ => ?_))
   | exact ih0 _ _ _ _ _ _ _ _ _ _ _ _ _ _ _ _ _ _ _
   | exact lamplighterlaw09_alive.mono _
   | exact msh_Check.mono _ _ _ _ _ _ _ _ _ _ _ _ _ _ _ _
   | exact LeO.none _
   | refine LeO.ite ?_ ?_
   | refine LeO.bind ?_ (fun _ => ?_)
set_option maxHeartbeats 8000000 in
set_option maxRecDepth 100000 in
theorem lamplighterlaw09_MshIds.calls (k : Nat) (a0 : Int) (a1 : ByteArray) (r : Bool) (w : World) (h : lamplighterlaw09_MshIds.f k a0 a1 = some r) (hG : GlobOK w) :
  Calls Tryd.prog 4 #[.int .u8 a0, .string a1] w fun e w' => e = .returned (.bool r) ∧ Below w.heap.size w w' := by
 have HGLOB := Lib.hid hG
 clear hG
 have hu25 := Tryd.underlying25
 have hu27 := Tryd.underlying27
 have HB := Aside0.mk (Below.refl w.heap.size w)
 have H : (lamplighterlaw09_MshIds.l0 k a0 a1 (Int.tmod a0 80) 0 124 94 126 92 38 (⟨#[]⟩ : ByteArray) (⟨#[]⟩ : ByteArray) (⟨#[]⟩ : ByteArray) (⟨#[]⟩ : ByteArray) (⟨#[]⟩ : ByteArray) (⟨#[]⟩ : ByteArray) a1 (⟨#[]⟩ : ByteArray) (⟨#[80]⟩ : ByteArray) (⟨#[50, 46, 53]⟩ : ByteArray)) = some r := h
 clear h
 have H' := Aside0.mk H
 clear H
 go_enter Tryd.func4, Tryd.ntmps4
 go_wp2_with (first | ((with_reducible refine gate_dst (N := 5) rfl ?_); refine box_event ?hg (N := 5) ?hd (cs := #[.int .u8 0, .int .u8 0, .int .u8 0, .int .u8 0, .int .u8 0, .string (⟨#[]⟩ : ByteArray), .string (⟨#[]⟩ : ByteArray), .string (⟨#[]⟩ : ByteArray), .string (⟨#[]⟩ : ByteArray), .string (⟨#[]⟩ : ByteArray), .string (⟨#[]⟩ : ByteArray), .string (⟨#[]⟩ : ByteArray), .string (⟨#[]⟩ : ByteArray), .string (⟨#[]⟩ : ByteArray), .string (⟨#[]⟩ : ByteArray)]) (t := 27) ?hr ?_; (case hd => rfl); (case hg => rfl); (case hr => first | (go_simp; done) | (go_simp; rfl)); intro gb167 hg w3 hbox hb; have n0_ := Aside0.mk (below_step (by repeat (first | (with_reducible first | exact HB.out | apply below_alloc | apply pw_below_drewN | apply below_drew1) | exact HB.out)) hb); have n1_ := Aside0.mk (hbox); have n2_ := Aside0.mk ((by rw [hg]; exact (below_size (by repeat (first | (with_reducible first | exact HB.out | apply below_alloc | apply pw_below_drewN | apply below_drew1) | exact HB.out))) : w.heap.size ≤ gb167)); have n3_ := Aside0.mk ((by rw [hg]; exact (below_size (by repeat (first | (with_reducible first | exact HB.out | apply below_alloc | apply pw_below_drewN | apply below_drew1) | exact HB.out))) : w.heap.size ≤ gb167)); clear HB; have HB := n0_; have BK167 := n1_; have GW167 := n2_; have GE167 := n3_; clear n0_ n1_ n2_ n3_; clear hb hbox hg; have hcz4_0 : w3.cell? ⟨gb167, 0, none⟩ = some (.int .u8 0) := (blk_cell BK167.out 0).trans rfl; have hcz4_1 : w3.cell? ⟨gb167, 1, none⟩ = some (.int .u8 0) := (blk_cell BK167.out 1).trans rfl; have hcz4_2 : w3.cell? ⟨gb167, 2, none⟩ = some (.int .u8 0) := (blk_cell BK167.out 2).trans rfl; have hcz4_3 : w3.cell? ⟨gb167, 3, none⟩ = some (.int .u8 0) := (blk_cell BK167.out 3).trans rfl; have hcz4_4 : w3.cell? ⟨gb167, 4, none⟩ = some (.int .u8 0) := (blk_cell BK167.out 4).trans rfl; have hcz4_5 : w3.cell? ⟨gb167, 5, none⟩ = some (.string (⟨#[]⟩ : ByteArray)) := (blk_cell BK167.out 5).trans rfl; have hcz4_6 : w3.cell? ⟨gb167, 6, none⟩ = some (.string (⟨#[]⟩ : ByteArray)) := (blk_cell BK167.out 6).trans rfl; have hcz4_7 : w3.cell? ⟨gb167, 7, none⟩ = some (.string (⟨#[]⟩ : ByteArray)) := (blk_cell BK167.out 7).trans rfl; have hcz4_8 : w3.cell? ⟨gb167, 8, none⟩ = some (.string (⟨#[]⟩ : ByteArray)) := (blk_cell BK167.out 8).trans rfl; have hcz4_9 : w3.cell? ⟨gb167, 9, none⟩ = some (.string (⟨#[]⟩ : ByteArray)) := (blk_cell BK167.out 9).trans rfl; have hcz4_10 : w3.cell? ⟨gb167, 10, none⟩ = some (.string (⟨#[]⟩ : ByteArray)) := (blk_cell BK167.out 10).trans rfl; have hcz4_11 : w3.cell? ⟨gb167, 11, none⟩ = some (.string (⟨#[]⟩ : ByteArray)) := (blk_cell BK167.out 11).trans rfl; have hcz4_12 : w3.cell? ⟨gb167, 12, none⟩ = some (.string (⟨#[]⟩ : ByteArray)) := (blk_cell BK167.out 12).trans rfl; have hcz4_13 : w3.cell? ⟨gb167, 13, none⟩ = some (.string (⟨#[]⟩ : ByteArray)) := (blk_cell BK167.out 13).trans rfl; have hcz4_14 : w3.cell? ⟨gb167, 14, none⟩ = some (.string (⟨#[]⟩ : ByteArray)) := (blk_cell BK167.out 14).trans rfl; have hfz4_0 := blk_frozen BK167.out 0; have hfz4_1 := blk_frozen BK167.out 1; have hfz4_2 := blk_frozen BK167.out 2; have hfz4_3 := blk_frozen BK167.out 3; have hfz4_4 := blk_frozen BK167.out 4; have hfz4_5 := blk_frozen BK167.out 5; have hfz4_6 := blk_frozen BK167.out 6; have hfz4_7 := blk_frozen BK167.out 7; have hfz4_8 := blk_frozen BK167.out 8; have hfz4_9 := blk_frozen BK167.out 9; have hfz4_10 := blk_frozen BK167.out 10; have hfz4_11 := blk_frozen BK167.out 11; have hfz4_12 := blk_frozen BK167.out 12; have hfz4_13 := blk_frozen BK167.out 13; have hfz4_14 := blk_frozen BK167.out 14))
 go_loopg [13] k (fun kq v13 w' => ∃ (x13_1 : Int) (x168012_1 : ByteArray), v13 = .int .u8 x13_1 ∧ Aside0 (lamplighterlaw09_MshIds.l0 kq a0 a1 (Int.tmod a0 80) x13_1 124 94 126 92 38 (⟨#[]⟩ : ByteArray) (⟨#[]⟩ : ByteArray) (⟨#[]⟩ : ByteArray) (⟨#[]⟩ : ByteArray) (⟨#[]⟩ : ByteArray) (⟨#[]⟩ : ByteArray) a1 x168012_1 (⟨#[80]⟩ : ByteArray) (⟨#[50, 46, 53]⟩ : ByteArray) = some r) ∧ Aside0 (kq ≤ k) ∧ Aside0 (w'.heap[gb167]? = some (.cells #[.int .u8 124, .int .u8 94, .int .u8 126, .int .u8 92, .int .u8 38, .string (⟨#[]⟩ : ByteArray), .string (⟨#[]⟩ : ByteArray), .string (⟨#[]⟩ : ByteArray), .string (⟨#[]⟩ : ByteArray), .string (⟨#[]⟩ : ByteArray), .string (⟨#[]⟩ : ByteArray), .string a1, .string x168012_1, .string (⟨#[80]⟩ : ByteArray), .string (⟨#[50, 46, 53]⟩ : ByteArray)] 27 (0, 0))) ∧ Aside0 (Below w.heap.size w w'))
 case atStart => exact ⟨(0), ((⟨#[]⟩ : ByteArray)), (by first | rfl | (simp; done) | (simp [*]; done)), H', ⟨Nat.le_refl _⟩, ⟨by (with_reducible repeat (first | refine blk_drewN ?_ _ | refine blk_drew ?_ | refine blk_alloc ?_ _)); refine blk_put (cs := #[.int .u8 124, .int .u8 94, .int .u8 126, .int .u8 92, .int .u8 38, .string (⟨#[]⟩ : ByteArray), .string (⟨#[]⟩ : ByteArray), .string (⟨#[]⟩ : ByteArray), .string (⟨#[]⟩ : ByteArray), .string (⟨#[]⟩ : ByteArray), .string (⟨#[]⟩ : ByteArray), .string a1, .string (⟨#[]⟩ : ByteArray), .string (⟨#[80]⟩ : ByteArray), .string (⟨#[]⟩ : ByteArray)]) ?_ 14 _ rfl; (with_reducible repeat (first | refine blk_drewN ?_ _ | refine blk_drew ?_ | refine blk_alloc ?_ _)); refine blk_put (cs := #[.int .u8 124, .int .u8 94, .int .u8 126, .int .u8 92, .int .u8 38, .string (⟨#[]⟩ : ByteArray), .string (⟨#[]⟩ : ByteArray), .string (⟨#[]⟩ : ByteArray), .string (⟨#[]⟩ : ByteArray), .string (⟨#[]⟩ : ByteArray), .string (⟨#[]⟩ : ByteArray), .string a1, .string (⟨#[]⟩ : ByteArray), .string (⟨#[]⟩ : ByteArray), .string (⟨#[]⟩ : ByteArray)]) ?_ 13 _ rfl; (with_reducible repeat (first | refine blk_drewN ?_ _ | refine blk_drew ?_ | refine blk_alloc ?_ _)); refine blk_put (cs := #[.int .u8 124, .int .u8 94, .int .u8 126, .int .u8 92, .int .u8 38, .string (⟨#[]⟩ : ByteArray), .string (⟨#[]⟩ : ByteArray), .string (⟨#[]⟩ : ByteArray), .string (⟨#[]⟩ : ByteArray), .string (⟨#[]⟩ : ByteArray), .string (⟨#[]⟩ : ByteArray), .string a1, .string (⟨#[]⟩ : ByteArray), .string (⟨#[]⟩ : ByteArray), .string (⟨#[]⟩ : ByteArray)]) ?_ 12 _ rfl; (with_reducible repeat (first | refine blk_drewN ?_ _ | refine blk_drew ?_ | refine blk_alloc ?_ _)); refine blk_put (cs := #[.int .u8 124, .int .u8 94, .int .u8 126, .int .u8 92, .int .u8 38, .string (⟨#[]⟩ : ByteArray), .string (⟨#[]⟩ : ByteArray), .string (⟨#[]⟩ : ByteArray), .string (⟨#[]⟩ : ByteArray), .string (⟨#[]⟩ : ByteArray), .string (⟨#[]⟩ : ByteArray), .string (⟨#[]⟩ : ByteArray), .string (⟨#[]⟩ : ByteArray), .string (⟨#[]⟩ : ByteArray), .string (⟨#[]⟩ : ByteArray)]) ?_ 11 _ rfl; (with_reducible repeat (first | refine blk_drewN ?_ _ | refine blk_drew ?_ | refine blk_alloc ?_ _)); refine blk_put (cs := #[.int .u8 124, .int .u8 94, .int .u8 126, .int .u8 92, .int .u8 38, .string (⟨#[]⟩ : ByteArray), .string (⟨#[]⟩ : ByteArray), .string (⟨#[]⟩ : ByteArray), .string (⟨#[]⟩ : ByteArray), .string (⟨#[]⟩ : ByteArray), .string (⟨#[]⟩ : ByteArray), .string (⟨#[]⟩ : ByteArray), .string (⟨#[]⟩ : ByteArray), .string (⟨#[]⟩ : ByteArray), .string (⟨#[]⟩ : ByteArray)]) ?_ 10 _ rfl; (with_reducible repeat (first | refine blk_drewN ?_ _ | refine blk_drew ?_ | refine blk_alloc ?_ _)); refine blk_put (cs := #[.int .u8 124, .int .u8 94, .int .u8 126, .int .u8 92, .int .u8 38, .string (⟨#[]⟩ : ByteArray), .string (⟨#[]⟩ : ByteArray), .string (⟨#[]⟩ : ByteArray), .string (⟨#[]⟩ : ByteArray), .string (⟨#[]⟩ : ByteArray), .string (⟨#[]⟩ : ByteArray), .string (⟨#[]⟩ : ByteArray), .string (⟨#[]⟩ : ByteArray), .string (⟨#[]⟩ : ByteArray), .string (⟨#[]⟩ : ByteArray)]) ?_ 9 _ rfl; (with_reducible repeat (first | refine blk_drewN ?_ _ | refine blk_drew ?_ | refine blk_alloc ?_ _)); refine blk_put (cs := #[.int .u8 124, .int .u8 94, .int .u8 126, .int .u8 92, .int .u8 38, .string (⟨#[]⟩ : ByteArray), .string (⟨#[]⟩ : ByteArray), .string (⟨#[]⟩ : ByteArray), .string (⟨#[]⟩ : ByteArray), .string (⟨#[]⟩ : ByteArray), .string (⟨#[]⟩ : ByteArray), .string (⟨#[]⟩ : ByteArray), .string (⟨#[]⟩ : ByteArray), .string (⟨#[]⟩ : ByteArray), .string (⟨#[]⟩ : ByteArray)]) ?_ 8 _ rfl; (with_reducible repeat (first | refine blk_drewN ?_ _ | refine blk_drew ?_ | refine blk_alloc ?_ _)); refine blk_put (cs := #[.int .u8 124, .int .u8 94, .int .u8 126, .int .u8 92, .int .u8 38, .string (⟨#[]⟩ : ByteArray), .string (⟨#[]⟩ : ByteArray), .string (⟨#[]⟩ : ByteArray), .string (⟨#[]⟩ : ByteArray), .string (⟨#[]⟩ : ByteArray), .string (⟨#[]⟩ : ByteArray), .string (⟨#[]⟩ : ByteArray), .string (⟨#[]⟩ : ByteArray), .string (⟨#[]⟩ : ByteArray), .string (⟨#[]⟩ : ByteArray)]) ?_ 7 _ rfl; (with_reducible repeat (first | refine blk_drewN ?_ _ | refine blk_drew ?_ | refine blk_alloc ?_ _)); refine blk_put (cs := #[.int .u8 124, .int .u8 94, .int .u8 126, .int .u8 92, .int .u8 38, .string (⟨#[]⟩ : ByteArray), .string (⟨#[]⟩ : ByteArray), .string (⟨#[]⟩ : ByteArray), .string (⟨#[]⟩ : ByteArray), .string (⟨#[]⟩ : ByteArray), .string (⟨#[]⟩ : ByteArray), .string (⟨#[]⟩ : ByteArray), .string (⟨#[]⟩ : ByteArray), .string (⟨#[]⟩ : ByteArray), .string (⟨#[]⟩ : ByteArray)]) ?_ 6 _ rfl; (with_reducible repeat (first | refine blk_drewN ?_ _ | refine blk_drew ?_ | refine blk_alloc ?_ _)); refine blk_put (cs := #[.int .u8 124, .int .u8 94, .int .u8 126, .int .u8 92, .int .u8 38, .string (⟨#[]⟩ : ByteArray), .string (⟨#[]⟩ : ByteArray), .string (⟨#[]⟩ : ByteArray), .string (⟨#[]⟩ : ByteArray), .string (⟨#[]⟩ : ByteArray), .string (⟨#[]⟩ : ByteArray), .string (⟨#[]⟩ : ByteArray), .string (⟨#[]⟩ : ByteArray), .string (⟨#[]⟩ : ByteArray), .string (⟨#[]⟩ : ByteArray)]) ?_ 5 _ rfl; (with_reducible repeat (first | refine blk_drewN ?_ _ | refine blk_drew ?_ | refine blk_alloc ?_ _)); refine blk_put (cs := #[.int .u8 124, .int .u8 94, .int .u8 126, .int .u8 92, .int .u8 0, .string (⟨#[]⟩ : ByteArray), .string (⟨#[]⟩ : ByteArray), .string (⟨#[]⟩ : ByteArray), .string (⟨#[]⟩ : ByteArray), .string (⟨#[]⟩ : ByteArray), .string (⟨#[]⟩ : ByteArray), .string (⟨#[]⟩ : ByteArray), .string (⟨#[]⟩ : ByteArray), .string (⟨#[]⟩ : ByteArray), .string (⟨#[]⟩ : ByteArray)]) ?_ 4 _ rfl; (with_reducible repeat (first | refine blk_drewN ?_ _ | refine blk_drew ?_ | refine blk_alloc ?_ _)); refine blk_put (cs := #[.int .u8 124, .int .u8 94, .int .u8 126, .int .u8 0, .int .u8 0, .string (⟨#[]⟩ : ByteArray), .string (⟨#[]⟩ : ByteArray), .string (⟨#[]⟩ : ByteArray), .string (⟨#[]⟩ : ByteArray), .string (⟨#[]⟩ : ByteArray), .string (⟨#[]⟩ : ByteArray), .string (⟨#[]⟩ : ByteArray), .string (⟨#[]⟩ : ByteArray), .string (⟨#[]⟩ : ByteArray), .string (⟨#[]⟩ : ByteArray)]) ?_ 3 _ rfl; (with_reducible repeat (first | refine blk_drewN ?_ _ | refine blk_drew ?_ | refine blk_alloc ?_ _)); refine blk_put (cs := #[.int .u8 124, .int .u8 94, .int .u8 0, .int .u8 0, .int .u8 0, .string (⟨#[]⟩ : ByteArray), .string (⟨#[]⟩ : ByteArray), .string (⟨#[]⟩ : ByteArray), .string (⟨#[]⟩ : ByteArray), .string (⟨#[]⟩ : ByteArray), .string (⟨#[]⟩ : ByteArray), .string (⟨#[]⟩ : ByteArray), .string (⟨#[]⟩ : ByteArray), .string (⟨#[]⟩ : ByteArray), .string (⟨#[]⟩ : ByteArray)]) ?_ 2 _ rfl; (with_reducible repeat (first | refine blk_drewN ?_ _ | refine blk_drew ?_ | refine blk_alloc ?_ _)); refine blk_put (cs := #[.int .u8 124, .int .u8 0, .int .u8 0, .int .u8 0, .int .u8 0, .string (⟨#[]⟩ : ByteArray), .string (⟨#[]⟩ : ByteArray), .string (⟨#[]⟩ : ByteArray), .string (⟨#[]⟩ : ByteArray), .string (⟨#[]⟩ : ByteArray), .string (⟨#[]⟩ : ByteArray), .string (⟨#[]⟩ : ByteArray), .string (⟨#[]⟩ : ByteArray), .string (⟨#[]⟩ : ByteArray), .string (⟨#[]⟩ : ByteArray)]) ?_ 1 _ rfl; (with_reducible repeat (first | refine blk_drewN ?_ _ | refine blk_drew ?_ | refine blk_alloc ?_ _)); refine blk_put (cs := #[.int .u8 0, .int .u8 0, .int .u8 0, .int .u8 0, .int .u8 0, .string (⟨#[]⟩ : ByteArray), .string (⟨#[]⟩ : ByteArray), .string (⟨#[]⟩ : ByteArray), .string (⟨#[]⟩ : ByteArray), .string (⟨#[]⟩ : ByteArray), .string (⟨#[]⟩ : ByteArray), .string (⟨#[]⟩ : ByteArray), .string (⟨#[]⟩ : ByteArray), .string (⟨#[]⟩ : ByteArray), .string (⟨#[]⟩ : ByteArray)]) ?_ 0 _ rfl; (with_reducible repeat (first | refine blk_drewN ?_ _ | refine blk_drew ?_ | refine blk_alloc ?_ _)); exact BK167.out⟩, ⟨by repeat (first | (with_reducible first | exact HB.out | apply below_alloc | apply pw_below_drewN | apply below_drew1 | refine below_set ?_ GE167.out) | exact HB.out)⟩⟩
 case round =>
  clear H'
  try clear p2
  try clear c4
  try clear hcz4_0
  try clear hcz4_1
  try clear hcz4_10
  try clear hcz4_11
  try clear hcz4_12
  try clear hcz4_13
  try clear hcz4_14
  try clear hcz4_2
  try clear hcz4_3
  try clear hcz4_4
  try clear hcz4_5
  try clear hcz4_6
  try clear hcz4_7
  try clear hcz4_8
  try clear hcz4_9
  try clear hfz4_0
  try clear hfz4_1
  try clear hfz4_10
  try clear hfz4_11
  try clear hfz4_12
  try clear hfz4_13
  try clear hfz4_14
  try clear hfz4_2
  try clear hfz4_3
  try clear hfz4_4
  try clear hfz4_5
  try clear hfz4_6
  try clear hfz4_7
  try clear hfz4_8
  try clear hfz4_9
  obtain ⟨x13_1, x168012_1, rfl, HA, HK1, BK167, HB⟩ := hrel
  cases gk with
  | zero => exact absurd HA.out (by simp [lamplighterlaw09_MshIds.l0])
  | succ k1 =>
   have H := HA.out
   clear HA
   simp only [lamplighterlaw09_MshIds.l0] at H
   by_cases c5 : x13_1 < (Int.tmod a0 80)
   ·rw [if_pos c5] at H
    have c5b0 : decide (x13_1 < (Int.tmod a0 80)) = true := decide_eq_true c5
    clear c5
    by_cases c6 : x168012_1.size + 1 ≤ 9223372036854775807
    ·rw [if_pos c6] at H
     have c6b0 := eq_true c6
     have c6b1 : decide (x168012_1.size + 1 ≤ 9223372036854775807) = true := decide_eq_true c6
     try have c6b2 : (9223372036854775807 < x168012_1.size + 1) = False := eq_false (Nat.not_lt.2 c6)
     try (have c6b4 := c6b2; simp only [ByteArray.size_append] at c6b4)
     have H' := Aside0.mk H
     clear H
     have hcz7_0 : wr.cell? ⟨gb167, 0, none⟩ = some (.int .u8 124) := (blk_cell BK167.out 0).trans rfl
     have hcz7_1 : wr.cell? ⟨gb167, 1, none⟩ = some (.int .u8 94) := (blk_cell BK167.out 1).trans rfl
     have hcz7_2 : wr.cell? ⟨gb167, 2, none⟩ = some (.int .u8 126) := (blk_cell BK167.out 2).trans rfl
     have hcz7_3 : wr.cell? ⟨gb167, 3, none⟩ = some (.int .u8 92) := (blk_cell BK167.out 3).trans rfl
     have hcz7_4 : wr.cell? ⟨gb167, 4, none⟩ = some (.int .u8 38) := (blk_cell BK167.out 4).trans rfl
     have hcz7_5 : wr.cell? ⟨gb167, 5, none⟩ = some (.string (⟨#[]⟩ : ByteArray)) := (blk_cell BK167.out 5).trans rfl
     have hcz7_6 : wr.cell? ⟨gb167, 6, none⟩ = some (.string (⟨#[]⟩ : ByteArray)) := (blk_cell BK167.out 6).trans rfl
     have hcz7_7 : wr.cell? ⟨gb167, 7, none⟩ = some (.string (⟨#[]⟩ : ByteArray)) := (blk_cell BK167.out 7).trans rfl
     have hcz7_8 : wr.cell? ⟨gb167, 8, none⟩ = some (.string (⟨#[]⟩ : ByteArray)) := (blk_cell BK167.out 8).trans rfl
     have hcz7_9 : wr.cell? ⟨gb167, 9, none⟩ = some (.string (⟨#[]⟩ : ByteArray)) := (blk_cell BK167.out 9).trans rfl
     have hcz7_10 : wr.cell? ⟨gb167, 10, none⟩ = some (.string (⟨#[]⟩ : ByteArray)) := (blk_cell BK167.out 10).trans rfl
     have hcz7_11 : wr.cell? ⟨gb167, 11, none⟩ = some (.string a1) := (blk_cell BK167.out 11).trans rfl
     have hcz7_12 : wr.cell? ⟨gb167, 12, none⟩ = some (.string x168012_1) := (blk_cell BK167.out 12).trans rfl
     have hcz7_13 : wr.cell? ⟨gb167, 13, none⟩ = some (.string (⟨#[80]⟩ : ByteArray)) := (blk_cell BK167.out 13).trans rfl
     have hcz7_14 : wr.cell? ⟨gb167, 14, none⟩ = some (.string (⟨#[50, 46, 53]⟩ : ByteArray)) := (blk_cell BK167.out 14).trans rfl
     have hfz7_0 := blk_frozen BK167.out 0
     have hfz7_1 := blk_frozen BK167.out 1
     have hfz7_2 := blk_frozen BK167.out 2
     have hfz7_3 := blk_frozen BK167.out 3
     have hfz7_4 := blk_frozen BK167.out 4
     have hfz7_5 := blk_frozen BK167.out 5
     have hfz7_6 := blk_frozen BK167.out 6
     have hfz7_7 := blk_frozen BK167.out 7
     have hfz7_8 := blk_frozen BK167.out 8
     have hfz7_9 := blk_frozen BK167.out 9
     have hfz7_10 := blk_frozen BK167.out 10
     have hfz7_11 := blk_frozen BK167.out 11
     have hfz7_12 := blk_frozen BK167.out 12
     have hfz7_13 := blk_frozen BK167.out 13
     have hfz7_14 := blk_frozen BK167.out 14
     go_wp2
     go_roundg k1
     case measure => have := HK1.out; omega
     case rel => exact ⟨((x13_1 + 1) % 256), (x168012_1 ++ (⟨#[55]⟩ : ByteArray)), (by first | rfl | (simp; done) | (simp [*]; done)), H', ⟨by have := HK1.out; omega⟩, ⟨by (with_reducible repeat (first | refine blk_drewN ?_ _ | refine blk_drew ?_ | refine blk_alloc ?_ _)); refine blk_put (cs := #[.int .u8 124, .int .u8 94, .int .u8 126, .int .u8 92, .int .u8 38, .string (⟨#[]⟩ : ByteArray), .string (⟨#[]⟩ : ByteArray), .string (⟨#[]⟩ : ByteArray), .string (⟨#[]⟩ : ByteArray), .string (⟨#[]⟩ : ByteArray), .string (⟨#[]⟩ : ByteArray), .string a1, .string x168012_1, .string (⟨#[80]⟩ : ByteArray), .string (⟨#[50, 46, 53]⟩ : ByteArray)]) ?_ 12 _ rfl; (with_reducible repeat (first | refine blk_drewN ?_ _ | refine blk_drew ?_ | refine blk_alloc ?_ _)); exact BK167.out⟩, ⟨by repeat (first | (with_reducible first | exact HB.out | apply below_alloc | apply pw_below_drewN | apply below_drew1 | refine below_set ?_ GE167.out) | exact HB.out)⟩⟩
    ·rw [if_neg c6] at H
     exact absurd H (by simp)
   ·rw [if_neg c5] at H
    have c5b0 : decide (x13_1 < (Int.tmod a0 80)) = false := decide_eq_false c5
    clear c5
    replace H := Option.bind_eq_some_iff.mp H
    obtain ⟨t168, A80, H⟩ := H
    replace H : ((lamplighterlaw09_alive.f k1).bind fun t169 => (if t169 = true then (if a1.toList = ([] : List UInt8) then (if ((t168 == 0) == false) = true then (if t168 = 0 then (some true) else (some (t168 == 14))) else (some false)) else (if (wrap64 (Int.tmod a0 80)) ≥ 1 then (if ((t168 == 0) == (decide ((wrap64 (Int.tmod a0 80)) ≤ 50))) = true then (if t168 = 0 then (some true) else (some (t168 == 14))) else (some false)) else (if ((t168 == 0) == false) = true then (if t168 = 0 then (some true) else (some (t168 == 14))) else (some false)))) else (some false))) = some r := H
    have A8 := Aside0.mk A80
    clear A80
    replace H := Option.bind_eq_some_iff.mp H
    obtain ⟨t169, A90, H⟩ := H
    replace H : (if t169 = true then (if a1.toList = ([] : List UInt8) then (if ((t168 == 0) == false) = true then (if t168 = 0 then (some true) else (some (t168 == 14))) else (some false)) else (if (wrap64 (Int.tmod a0 80)) ≥ 1 then (if ((t168 == 0) == (decide ((wrap64 (Int.tmod a0 80)) ≤ 50))) = true then (if t168 = 0 then (some true) else (some (t168 == 14))) else (some false)) else (if ((t168 == 0) == false) = true then (if t168 = 0 then (some true) else (some (t168 == 14))) else (some false)))) else (some false)) = some r := H
    have A9 := Aside0.mk A90
    clear A90
    by_cases c10 : t169 = true
    ·subst c10
     have H1 : (if a1.toList = ([] : List UInt8) then (if ((t168 == 0) == false) = true then (if t168 = 0 then (some true) else (some (t168 == 14))) else (some false)) else (if (wrap64 (Int.tmod a0 80)) ≥ 1 then (if ((t168 == 0) == (decide ((wrap64 (Int.tmod a0 80)) ≤ 50))) = true then (if t168 = 0 then (some true) else (some (t168 == 14))) else (some false)) else (if ((t168 == 0) == false) = true then (if t168 = 0 then (some true) else (some (t168 == 14))) else (some false)))) = some r := by rw [if_pos rfl] at H; exact H
     clear H
     have H := H1
     clear H1
     by_cases c11 : a1.toList = ([] : List UInt8)
     ·rw [if_pos c11] at H
      have c11b0 : (a1.toList == ([] : List UInt8)) = true := beq_iff_eq.mpr c11
      have c11b1 : (a1.toList != ([] : List UInt8)) = false := bne_eq_false_iff_eq.mpr c11
      clear c11
      by_cases c12 : ((t168 == 0) == false) = true
      ·rw [if_pos c12] at H
       have c12b0 : ((t168 == 0) == false) = true := c12
       (try (have c12b1 : decide ((t168 == 0) = false) = true := by simpa using c12))
       (try (have c12b2 : ((t168 == 0) == false) = true := by simpa using c12))
       clear c12
       by_cases c13 : t168 = 0
       ·rw [if_pos c13] at H
        have c13b0 : (t168 == 0) = true := beq_iff_eq.mpr c13
        exact absurd c12b0 (by rw [c13b0]; decide)
       ·rw [if_neg c13] at H
        have c13b0 : (t168 == 0) = false := beq_eq_false_iff_ne.mpr c13
        have c13b1 : (t168 != 0) = true := bne_iff_ne.mpr c13
        obtain rfl := Option.some.inj H
        have hcz17_0 : wr.cell? ⟨gb167, 0, none⟩ = some (.int .u8 124) := (blk_cell BK167.out 0).trans rfl
        have hcz17_1 : wr.cell? ⟨gb167, 1, none⟩ = some (.int .u8 94) := (blk_cell BK167.out 1).trans rfl
        have hcz17_2 : wr.cell? ⟨gb167, 2, none⟩ = some (.int .u8 126) := (blk_cell BK167.out 2).trans rfl
        have hcz17_3 : wr.cell? ⟨gb167, 3, none⟩ = some (.int .u8 92) := (blk_cell BK167.out 3).trans rfl
        have hcz17_4 : wr.cell? ⟨gb167, 4, none⟩ = some (.int .u8 38) := (blk_cell BK167.out 4).trans rfl
        have hcz17_5 : wr.cell? ⟨gb167, 5, none⟩ = some (.string (⟨#[]⟩ : ByteArray)) := (blk_cell BK167.out 5).trans rfl
        have hcz17_6 : wr.cell? ⟨gb167, 6, none⟩ = some (.string (⟨#[]⟩ : ByteArray)) := (blk_cell BK167.out 6).trans rfl
        have hcz17_7 : wr.cell? ⟨gb167, 7, none⟩ = some (.string (⟨#[]⟩ : ByteArray)) := (blk_cell BK167.out 7).trans rfl
        have hcz17_8 : wr.cell? ⟨gb167, 8, none⟩ = some (.string (⟨#[]⟩ : ByteArray)) := (blk_cell BK167.out 8).trans rfl
        have hcz17_9 : wr.cell? ⟨gb167, 9, none⟩ = some (.string (⟨#[]⟩ : ByteArray)) := (blk_cell BK167.out 9).trans rfl
        have hcz17_10 : wr.cell? ⟨gb167, 10, none⟩ = some (.string (⟨#[]⟩ : ByteArray)) := (blk_cell BK167.out 10).trans rfl
        have hcz17_11 : wr.cell? ⟨gb167, 11, none⟩ = some (.string a1) := (blk_cell BK167.out 11).trans rfl
        have hcz17_12 : wr.cell? ⟨gb167, 12, none⟩ = some (.string x168012_1) := (blk_cell BK167.out 12).trans rfl
        have hcz17_13 : wr.cell? ⟨gb167, 13, none⟩ = some (.string (⟨#[80]⟩ : ByteArray)) := (blk_cell BK167.out 13).trans rfl
        have hcz17_14 : wr.cell? ⟨gb167, 14, none⟩ = some (.string (⟨#[50, 46, 53]⟩ : ByteArray)) := (blk_cell BK167.out 14).trans rfl
        have hfz17_0 := blk_frozen BK167.out 0
        have hfz17_1 := blk_frozen BK167.out 1
        have hfz17_2 := blk_frozen BK167.out 2
        have hfz17_3 := blk_frozen BK167.out 3
        have hfz17_4 := blk_frozen BK167.out 4
        have hfz17_5 := blk_frozen BK167.out 5
        have hfz17_6 := blk_frozen BK167.out 6
        have hfz17_7 := blk_frozen BK167.out 7
        have hfz17_8 := blk_frozen BK167.out 8
        have hfz17_9 := blk_frozen BK167.out 9
        have hfz17_10 := blk_frozen BK167.out 10
        have hfz17_11 := blk_frozen BK167.out 11
        have hfz17_12 := blk_frozen BK167.out 12
        have hfz17_13 := blk_frozen BK167.out 13
        have hfz17_14 := blk_frozen BK167.out 14
        go_wp2_with (first | ((with_reducible refine gate_callee (f := 13) rfl ?_); refine goesL_ (some 21) rfl rfl Tryd.func13 (by kernel_rfl) rfl #[.agg #[.int .u8 124, .int .u8 94, .int .u8 126, .int .u8 92, .int .u8 38, .string (⟨#[]⟩ : ByteArray), .string (⟨#[]⟩ : ByteArray), .string (⟨#[]⟩ : ByteArray), .string (⟨#[]⟩ : ByteArray), .string (⟨#[]⟩ : ByteArray), .string (⟨#[]⟩ : ByteArray), .string a1, .string x168012_1, .string (⟨#[80]⟩ : ByteArray), .string (⟨#[50, 46, 53]⟩ : ByteArray)]] rfl (by (try simp only [List.map_toArray, List.map_cons, List.map_nil]); first | done | rfl | (simp only [List.length_drop, List.length_take]; rfl)) ?_; (with_reducible refine (msh_Check.calls k1 124 94 126 92 38 (⟨#[]⟩ : ByteArray) (⟨#[]⟩ : ByteArray) (⟨#[]⟩ : ByteArray) (⟨#[]⟩ : ByteArray) (⟨#[]⟩ : ByteArray) (⟨#[]⟩ : ByteArray) a1 x168012_1 (⟨#[80]⟩ : ByteArray) (⟨#[50, 46, 53]⟩ : ByteArray) t168 _ A8.out (glob_below HGLOB.out (by repeat (first | (with_reducible first | exact HB.out | apply below_alloc | apply pw_below_drewN | apply below_drew1) | exact HB.out)))).mono ?_); rintro e w18 ⟨rfl, hb⟩; refine ⟨_, rfl, ?_⟩; have n0_ := Aside0.mk (blk_below (g := gb167) (o := .cells #[.int .u8 124, .int .u8 94, .int .u8 126, .int .u8 92, .int .u8 38, .string (⟨#[]⟩ : ByteArray), .string (⟨#[]⟩ : ByteArray), .string (⟨#[]⟩ : ByteArray), .string (⟨#[]⟩ : ByteArray), .string (⟨#[]⟩ : ByteArray), .string (⟨#[]⟩ : ByteArray), .string a1, .string x168012_1, .string (⟨#[80]⟩ : ByteArray), .string (⟨#[50, 46, 53]⟩ : ByteArray)] 27 (0, 0)) (by (with_reducible repeat (first | refine blk_drewN ?_ _ | refine blk_drew ?_ | refine blk_alloc ?_ _)); exact BK167.out) hb); have n1_ := Aside0.mk (below_step (by repeat (first | (with_reducible first | exact HB.out | apply below_alloc | apply pw_below_drewN | apply below_drew1 | refine below_set ?_ GE167.out) | exact HB.out)) hb); clear BK167; clear HB; have BK167 := n0_; have HB := n1_; clear n0_ n1_; (try clear hb); (try clear hb2); (try clear hk); (try clear hi)) | ((with_reducible refine gate_callee (f := 10) rfl ?_); refine goesL_ (some 25) rfl rfl Tryd.func10 (by kernel_rfl) rfl #[] rfl (by (try simp only [List.map_toArray, List.map_cons, List.map_nil]); first | done | rfl | (simp only [List.length_drop, List.length_take]; rfl)) ?_; (with_reducible refine (lamplighterlaw09_alive.calls k1  true _ A9.out (glob_below HGLOB.out (by repeat (first | (with_reducible first | exact HB.out | apply below_alloc | apply pw_below_drewN | apply below_drew1) | exact HB.out)))).mono ?_); rintro e w19 ⟨rfl, hb⟩; refine ⟨_, rfl, ?_⟩; have n0_ := Aside0.mk (blk_below (g := gb167) (o := .cells #[.int .u8 124, .int .u8 94, .int .u8 126, .int .u8 92, .int .u8 38, .string (⟨#[]⟩ : ByteArray), .string (⟨#[]⟩ : ByteArray), .string (⟨#[]⟩ : ByteArray), .string (⟨#[]⟩ : ByteArray), .string (⟨#[]⟩ : ByteArray), .string (⟨#[]⟩ : ByteArray), .string a1, .string x168012_1, .string (⟨#[80]⟩ : ByteArray), .string (⟨#[50, 46, 53]⟩ : ByteArray)] 27 (0, 0)) (by (with_reducible repeat (first | refine blk_drewN ?_ _ | refine blk_drew ?_ | refine blk_alloc ?_ _)); exact BK167.out) hb); have n1_ := Aside0.mk (below_step (by repeat (first | (with_reducible first | exact HB.out | apply below_alloc | apply pw_below_drewN | apply below_drew1 | refine below_set ?_ GE167.out) | exact HB.out)) hb); clear BK167; clear HB; have BK167 := n0_; have HB := n1_; clear n0_ n1_; (try clear hb); (try clear hb2); (try clear hk); (try clear hi)))
        go_ret
        exact ⟨by first | rfl | (simp [errW_none, errW_some] <;> rfl) | (simp [*, errW_none, errW_some] <;> rfl), by repeat (first | (with_reducible first | exact HB.out | apply below_alloc | apply pw_below_drewN | apply below_drew1 | refine below_set ?_ GE167.out) | exact HB.out)⟩
      ·rw [if_neg c12] at H
       have c12b0 : ((t168 == 0) == false) = false := by simpa using c12
       (try (have c12b1 : decide ((t168 == 0) = false) = false := by simpa using c12))
       (try (have c12b2 : ((t168 == 0) == false) = false := by simpa using c12))
       (try (have c12b3 : ¬ ((t168 == 0) = false) := by simpa using c12))
       clear c12
       obtain rfl := Option.some.inj H
       have hcz20_0 : wr.cell? ⟨gb167, 0, none⟩ = some (.int .u8 124) := (blk_cell BK167.out 0).trans rfl
       have hcz20_1 : wr.cell? ⟨gb167, 1, none⟩ = some (.int .u8 94) := (blk_cell BK167.out 1).trans rfl
       have hcz20_2 : wr.cell? ⟨gb167, 2, none⟩ = some (.int .u8 126) := (blk_cell BK167.out 2).trans rfl
       have hcz20_3 : wr.cell? ⟨gb167, 3, none⟩ = some (.int .u8 92) := (blk_cell BK167.out 3).trans rfl
       have hcz20_4 : wr.cell? ⟨gb167, 4, none⟩ = some (.int .u8 38) := (blk_cell BK167.out 4).trans rfl
       have hcz20_5 : wr.cell? ⟨gb167, 5, none⟩ = some (.string (⟨#[]⟩ : ByteArray)) := (blk_cell BK167.out 5).trans rfl
       have hcz20_6 : wr.cell? ⟨gb167, 6, none⟩ = some (.string (⟨#[]⟩ : ByteArray)) := (blk_cell BK167.out 6).trans rfl
       have hcz20_7 : wr.cell? ⟨gb167, 7, none⟩ = some (.string (⟨#[]⟩ : ByteArray)) := (blk_cell BK167.out 7).trans rfl
       have hcz20_8 : wr.cell? ⟨gb167, 8, none⟩ = some (.string (⟨#[]⟩ : ByteArray)) := (blk_cell BK167.out 8).trans rfl
       have hcz20_9 : wr.cell? ⟨gb167, 9, none⟩ = some (.string (⟨#[]⟩ : ByteArray)) := (blk_cell BK167.out 9).trans rfl
       have hcz20_10 : wr.cell? ⟨gb167, 10, none⟩ = some (.string (⟨#[]⟩ : ByteArray)) := (blk_cell BK167.out 10).trans rfl
       have hcz20_11 : wr.cell? ⟨gb167, 11, none⟩ = some (.string a1) := (blk_cell BK167.out 11).trans rfl
       have hcz20_12 : wr.cell? ⟨gb167, 12, none⟩ = some (.string x168012_1) := (blk_cell BK167.out 12).trans rfl
       have hcz20_13 : wr.cell? ⟨gb167, 13, none⟩ = some (.string (⟨#[80]⟩ : ByteArray)) := (blk_cell BK167.out 13).trans rfl
       have hcz20_14 : wr.cell? ⟨gb167, 14, none⟩ = some (.string (⟨#[50, 46, 53]⟩ : ByteArray)) := (blk_cell BK167.out 14).trans rfl
       have hfz20_0 := blk_frozen BK167.out 0
       have hfz20_1 := blk_frozen BK167.out 1
       have hfz20_2 := blk_frozen BK167.out 2
       have hfz20_3 := blk_frozen BK167.out 3
       have hfz20_4 := blk_frozen BK167.out 4
       have hfz20_5 := blk_frozen BK167.out 5
       have hfz20_6 := blk_frozen BK167.out 6
       have hfz20_7 := blk_frozen BK167.out 7
       have hfz20_8 := blk_frozen BK167.out 8
       have hfz20_9 := blk_frozen BK167.out 9
       have hfz20_10 := blk_frozen BK167.out 10
       have hfz20_11 := blk_frozen BK167.out 11
       have hfz20_12 := blk_frozen BK167.out 12
       have hfz20_13 := blk_frozen BK167.out 13
       have hfz20_14 := blk_frozen BK167.out 14
       go_wp2_with (first | ((with_reducible refine gate_callee (f := 13) rfl ?_); refine goesL_ (some 21) rfl rfl Tryd.func13 (by kernel_rfl) rfl #[.agg #[.int .u8 124, .int .u8 94, .int .u8 126, .int .u8 92, .int .u8 38, .string (⟨#[]⟩ : ByteArray), .string (⟨#[]⟩ : ByteArray), .string (⟨#[]⟩ : ByteArray), .string (⟨#[]⟩ : ByteArray), .string (⟨#[]⟩ : ByteArray), .string (⟨#[]⟩ : ByteArray), .string a1, .string x168012_1, .string (⟨#[80]⟩ : ByteArray), .string (⟨#[50, 46, 53]⟩ : ByteArray)]] rfl (by (try simp only [List.map_toArray, List.map_cons, List.map_nil]); first | done | rfl | (simp only [List.length_drop, List.length_take]; rfl)) ?_; (with_reducible refine (msh_Check.calls k1 124 94 126 92 38 (⟨#[]⟩ : ByteArray) (⟨#[]⟩ : ByteArray) (⟨#[]⟩ : ByteArray) (⟨#[]⟩ : ByteArray) (⟨#[]⟩ : ByteArray) (⟨#[]⟩ : ByteArray) a1 x168012_1 (⟨#[80]⟩ : ByteArray) (⟨#[50, 46, 53]⟩ : ByteArray) t168 _ A8.out (glob_below HGLOB.out (by repeat (first | (with_reducible first | exact HB.out | apply below_alloc | apply pw_below_drewN | apply below_drew1) | exact HB.out)))).mono ?_); rintro e w21 ⟨rfl, hb⟩; refine ⟨_, rfl, ?_⟩; have n0_ := Aside0.mk (blk_below (g := gb167) (o := .cells #[.int .u8 124, .int .u8 94, .int .u8 126, .int .u8 92, .int .u8 38, .string (⟨#[]⟩ : ByteArray), .string (⟨#[]⟩ : ByteArray), .string (⟨#[]⟩ : ByteArray), .string (⟨#[]⟩ : ByteArray), .string (⟨#[]⟩ : ByteArray), .string (⟨#[]⟩ : ByteArray), .string a1, .string x168012_1, .string (⟨#[80]⟩ : ByteArray), .string (⟨#[50, 46, 53]⟩ : ByteArray)] 27 (0, 0)) (by (with_reducible repeat (first | refine blk_drewN ?_ _ | refine blk_drew ?_ | refine blk_alloc ?_ _)); exact BK167.out) hb); have n1_ := Aside0.mk (below_step (by repeat (first | (with_reducible first | exact HB.out | apply below_alloc | apply pw_below_drewN | apply below_drew1 | refine below_set ?_ GE167.out) | exact HB.out)) hb); clear BK167; clear HB; have BK167 := n0_; have HB := n1_; clear n0_ n1_; (try clear hb); (try clear hb2); (try clear hk); (try clear hi)) | ((with_reducible refine gate_callee (f := 10) rfl ?_); refine goesL_ (some 25) rfl rfl Tryd.func10 (by kernel_rfl) rfl #[] rfl (by (try simp only [List.map_toArray, List.map_cons, List.map_nil]); first | done | rfl | (simp only [List.length_drop, List.length_take]; rfl)) ?_; (with_reducible refine (lamplighterlaw09_alive.calls k1  true _ A9.out (glob_below HGLOB.out (by repeat (first | (with_reducible first | exact HB.out | apply below_alloc | apply pw_below_drewN | apply below_drew1) | exact HB.out)))).mono ?_); rintro e w22 ⟨rfl, hb⟩; refine ⟨_, rfl, ?_⟩; have n0_ := Aside0.mk (blk_below (g := gb167) (o := .cells #[.int .u8 124, .int .u8 94, .int .u8 126, .int .u8 92, .int .u8 38, .string (⟨#[]⟩ : ByteArray), .string (⟨#[]⟩ : ByteArray), .string (⟨#[]⟩ : ByteArray), .string (⟨#[]⟩ : ByteArray), .string (⟨#[]⟩ : ByteArray), .string (⟨#[]⟩ : ByteArray), .string a1, .string x168012_1, .string (⟨#[80]⟩ : ByteArray), .string (⟨#[50, 46, 53]⟩ : ByteArray)] 27 (0, 0)) (by (with_reducible repeat (first | refine blk_drewN ?_ _ | refine blk_drew ?_ | refine blk_alloc ?_ _)); exact BK167.out) hb); have n1_ := Aside0.mk (below_step (by repeat (first | (with_reducible first | exact HB.out | apply below_alloc | apply pw_below_drewN | apply below_drew1 | refine below_set ?_ GE167.out) | exact HB.out)) hb); clear BK167; clear HB; have BK167 := n0_; have HB := n1_; clear n0_ n1_; (try clear hb); (try clear hb2); (try clear hk); (try clear hi)))
       go_ret
       exact ⟨by first | rfl | (simp [errW_none, errW_some] <;> rfl) | (simp [*, errW_none, errW_some] <;> rfl), by repeat (first | (with_reducible first | exact HB.out | apply below_alloc | apply pw_below_drewN | apply below_drew1 | refine below_set ?_ GE167.out) | exact HB.out)⟩
     ·rw [if_neg c11] at H
      have c11b0 : (a1.toList == ([] : List UInt8)) = false := beq_eq_false_iff_ne.mpr c11
      have c11b1 : (a1.toList != ([] : List UInt8)) = true := bne_iff_ne.mpr c11
      by_cases c23 : (wrap64 (Int.tmod a0 80)) ≥ 1
      ·rw [if_pos c23] at H
       have c23b0 : decide (1 ≤ (wrap64 (Int.tmod a0 80))) = true := decide_eq_true c23
       clear c23
       by_cases c24 : ((t168 == 0) == (decide ((wrap64 (Int.tmod a0 80)) ≤ 50))) = true
       ·rw [if_pos c24] at H
        have c24b0 : ((t168 == 0) == (decide ((wrap64 (Int.tmod a0 80)) ≤ 50))) = true := c24
        (try (have c24b1 : decide ((t168 == 0) = (decide ((wrap64 (Int.tmod a0 80)) ≤ 50))) = true := by simpa using c24))
        (try (have c24b2 : ((t168 == 0) == (decide ((wrap64 (Int.tmod a0 80)) ≤ 50))) = true := by simpa using c24))
        clear c24
        by_cases c25 : t168 = 0
        ·rw [if_pos c25] at H
         have c25b0 : (t168 == 0) = true := beq_iff_eq.mpr c25
         have hD : (decide ((wrap64 (Int.tmod a0 80)) ≤ 50)) = true := by
           rw [c25b0] at c24b0
           simpa using c24b0
         clear c24b0; (try clear c24b1); (try clear c24b2)
         have c25b1 : (t168 != 0) = false := bne_eq_false_iff_eq.mpr c25
         clear c25
         obtain rfl := Option.some.inj H
         have hcz26_0 : wr.cell? ⟨gb167, 0, none⟩ = some (.int .u8 124) := (blk_cell BK167.out 0).trans rfl
         have hcz26_1 : wr.cell? ⟨gb167, 1, none⟩ = some (.int .u8 94) := (blk_cell BK167.out 1).trans rfl
         have hcz26_2 : wr.cell? ⟨gb167, 2, none⟩ = some (.int .u8 126) := (blk_cell BK167.out 2).trans rfl
         have hcz26_3 : wr.cell? ⟨gb167, 3, none⟩ = some (.int .u8 92) := (blk_cell BK167.out 3).trans rfl
         have hcz26_4 : wr.cell? ⟨gb167, 4, none⟩ = some (.int .u8 38) := (blk_cell BK167.out 4).trans rfl
         have hcz26_5 : wr.cell? ⟨gb167, 5, none⟩ = some (.string (⟨#[]⟩ : ByteArray)) := (blk_cell BK167.out 5).trans rfl
         have hcz26_6 : wr.cell? ⟨gb167, 6, none⟩ = some (.string (⟨#[]⟩ : ByteArray)) := (blk_cell BK167.out 6).trans rfl
         have hcz26_7 : wr.cell? ⟨gb167, 7, none⟩ = some (.string (⟨#[]⟩ : ByteArray)) := (blk_cell BK167.out 7).trans rfl
         have hcz26_8 : wr.cell? ⟨gb167, 8, none⟩ = some (.string (⟨#[]⟩ : ByteArray)) := (blk_cell BK167.out 8).trans rfl
         have hcz26_9 : wr.cell? ⟨gb167, 9, none⟩ = some (.string (⟨#[]⟩ : ByteArray)) := (blk_cell BK167.out 9).trans rfl
         have hcz26_10 : wr.cell? ⟨gb167, 10, none⟩ = some (.string (⟨#[]⟩ : ByteArray)) := (blk_cell BK167.out 10).trans rfl
         have hcz26_11 : wr.cell? ⟨gb167, 11, none⟩ = some (.string a1) := (blk_cell BK167.out 11).trans rfl
         have hcz26_12 : wr.cell? ⟨gb167, 12, none⟩ = some (.string x168012_1) := (blk_cell BK167.out 12).trans rfl
         have hcz26_13 : wr.cell? ⟨gb167, 13, none⟩ = some (.string (⟨#[80]⟩ : ByteArray)) := (blk_cell BK167.out 13).trans rfl
         have hcz26_14 : wr.cell? ⟨gb167, 14, none⟩ = some (.string (⟨#[50, 46, 53]⟩ : ByteArray)) := (blk_cell BK167.out 14).trans rfl
         have hfz26_0 := blk_frozen BK167.out 0
         have hfz26_1 := blk_frozen BK167.out 1
         have hfz26_2 := blk_frozen BK167.out 2
         have hfz26_3 := blk_frozen BK167.out 3
         have hfz26_4 := blk_frozen BK167.out 4
         have hfz26_5 := blk_frozen BK167.out 5
         have hfz26_6 := blk_frozen BK167.out 6
         have hfz26_7 := blk_frozen BK167.out 7
         have hfz26_8 := blk_frozen BK167.out 8
         have hfz26_9 := blk_frozen BK167.out 9
         have hfz26_10 := blk_frozen BK167.out 10
         have hfz26_11 := blk_frozen BK167.out 11
         have hfz26_12 := blk_frozen BK167.out 12
         have hfz26_13 := blk_frozen BK167.out 13
         have hfz26_14 := blk_frozen BK167.out 14
         go_wp2_with (first | ((with_reducible refine gate_callee (f := 13) rfl ?_); refine goesL_ (some 21) rfl rfl Tryd.func13 (by kernel_rfl) rfl #[.agg #[.int .u8 124, .int .u8 94, .int .u8 126, .int .u8 92, .int .u8 38, .string (⟨#[]⟩ : ByteArray), .string (⟨#[]⟩ : ByteArray), .string (⟨#[]⟩ : ByteArray), .string (⟨#[]⟩ : ByteArray), .string (⟨#[]⟩ : ByteArray), .string (⟨#[]⟩ : ByteArray), .string a1, .string x168012_1, .string (⟨#[80]⟩ : ByteArray), .string (⟨#[50, 46, 53]⟩ : ByteArray)]] rfl (by (try simp only [List.map_toArray, List.map_cons, List.map_nil]); first | done | rfl | (simp only [List.length_drop, List.length_take]; rfl)) ?_; (with_reducible refine (msh_Check.calls k1 124 94 126 92 38 (⟨#[]⟩ : ByteArray) (⟨#[]⟩ : ByteArray) (⟨#[]⟩ : ByteArray) (⟨#[]⟩ : ByteArray) (⟨#[]⟩ : ByteArray) (⟨#[]⟩ : ByteArray) a1 x168012_1 (⟨#[80]⟩ : ByteArray) (⟨#[50, 46, 53]⟩ : ByteArray) t168 _ A8.out (glob_below HGLOB.out (by repeat (first | (with_reducible first | exact HB.out | apply below_alloc | apply pw_below_drewN | apply below_drew1) | exact HB.out)))).mono ?_); rintro e w27 ⟨rfl, hb⟩; refine ⟨_, rfl, ?_⟩; have n0_ := Aside0.mk (blk_below (g := gb167) (o := .cells #[.int .u8 124, .int .u8 94, .int .u8 126, .int .u8 92, .int .u8 38, .string (⟨#[]⟩ : ByteArray), .string (⟨#[]⟩ : ByteArray), .string (⟨#[]⟩ : ByteArray), .string (⟨#[]⟩ : ByteArray), .string (⟨#[]⟩ : ByteArray), .string (⟨#[]⟩ : ByteArray), .string a1, .string x168012_1, .string (⟨#[80]⟩ : ByteArray), .string (⟨#[50, 46, 53]⟩ : ByteArray)] 27 (0, 0)) (by (with_reducible repeat (first | refine blk_drewN ?_ _ | refine blk_drew ?_ | refine blk_alloc ?_ _)); exact BK167.out) hb); have n1_ := Aside0.mk (below_step (by repeat (first | (with_reducible first | exact HB.out | apply below_alloc | apply pw_below_drewN | apply below_drew1 | refine below_set ?_ GE167.out) | exact HB.out)) hb); clear BK167; clear HB; have BK167 := n0_; have HB := n1_; clear n0_ n1_; (try clear hb); (try clear hb2); (try clear hk); (try clear hi)) | ((with_reducible refine gate_callee (f := 10) rfl ?_); refine goesL_ (some 25) rfl rfl Tryd.func10 (by kernel_rfl) rfl #[] rfl (by (try simp only [List.map_toArray, List.map_cons, List.map_nil]); first | done | rfl | (simp only [List.length_drop, List.length_take]; rfl)) ?_; (with_reducible refine (lamplighterlaw09_alive.calls k1  true _ A9.out (glob_below HGLOB.out (by repeat (first | (with_reducible first | exact HB.out | apply below_alloc | apply pw_below_drewN | apply below_drew1) | exact HB.out)))).mono ?_); rintro e w28 ⟨rfl, hb⟩; refine ⟨_, rfl, ?_⟩; have n0_ := Aside0.mk (blk_below (g := gb167) (o := .cells #[.int .u8 124, .int .u8 94, .int .u8 126, .int .u8 92, .int .u8 38, .string (⟨#[]⟩ : ByteArray), .string (⟨#[]⟩ : ByteArray), .string (⟨#[]⟩ : ByteArray), .string (⟨#[]⟩ : ByteArray), .string (⟨#[]⟩ : ByteArray), .string (⟨#[]⟩ : ByteArray), .string a1, .string x168012_1, .string (⟨#[80]⟩ : ByteArray), .string (⟨#[50, 46, 53]⟩ : ByteArray)] 27 (0, 0)) (by (with_reducible repeat (first | refine blk_drewN ?_ _ | refine blk_drew ?_ | refine blk_alloc ?_ _)); exact BK167.out) hb); have n1_ := Aside0.mk (below_step (by repeat (first | (with_reducible first | exact HB.out | apply below_alloc | apply pw_below_drewN | apply below_drew1 | refine below_set ?_ GE167.out) | exact HB.out)) hb); clear BK167; clear HB; have BK167 := n0_; have HB := n1_; clear n0_ n1_; (try clear hb); (try clear hb2); (try clear hk); (try clear hi)))
         go_ret
         exact ⟨by first | rfl | (simp [errW_none, errW_some] <;> rfl) | (simp [*, errW_none, errW_some] <;> rfl), by repeat (first | (with_reducible first | exact HB.out | apply below_alloc | apply pw_below_drewN | apply below_drew1 | refine below_set ?_ GE167.out) | exact HB.out)⟩
        ·rw [if_neg c25] at H
         have c25b0 : (t168 == 0) = false := beq_eq_false_iff_ne.mpr c25
         have hD : (decide ((wrap64 (Int.tmod a0 80)) ≤ 50)) = false := by
           rw [c25b0] at c24b0
           simpa using c24b0
         clear c24b0; (try clear c24b1); (try clear c24b2)
         have c25b1 : (t168 != 0) = true := bne_iff_ne.mpr c25
         obtain rfl := Option.some.inj H
         have hcz29_0 : wr.cell? ⟨gb167, 0, none⟩ = some (.int .u8 124) := (blk_cell BK167.out 0).trans rfl
         have hcz29_1 : wr.cell? ⟨gb167, 1, none⟩ = some (.int .u8 94) := (blk_cell BK167.out 1).trans rfl
         have hcz29_2 : wr.cell? ⟨gb167, 2, none⟩ = some (.int .u8 126) := (blk_cell BK167.out 2).trans rfl
         have hcz29_3 : wr.cell? ⟨gb167, 3, none⟩ = some (.int .u8 92) := (blk_cell BK167.out 3).trans rfl
         have hcz29_4 : wr.cell? ⟨gb167, 4, none⟩ = some (.int .u8 38) := (blk_cell BK167.out 4).trans rfl
         have hcz29_5 : wr.cell? ⟨gb167, 5, none⟩ = some (.string (⟨#[]⟩ : ByteArray)) := (blk_cell BK167.out 5).trans rfl
         have hcz29_6 : wr.cell? ⟨gb167, 6, none⟩ = some (.string (⟨#[]⟩ : ByteArray)) := (blk_cell BK167.out 6).trans rfl
         have hcz29_7 : wr.cell? ⟨gb167, 7, none⟩ = some (.string (⟨#[]⟩ : ByteArray)) := (blk_cell BK167.out 7).trans rfl
         have hcz29_8 : wr.cell? ⟨gb167, 8, none⟩ = some (.string (⟨#[]⟩ : ByteArray)) := (blk_cell BK167.out 8).trans rfl
         have hcz29_9 : wr.cell? ⟨gb167, 9, none⟩ = some (.string (⟨#[]⟩ : ByteArray)) := (blk_cell BK167.out 9).trans rfl
         have hcz29_10 : wr.cell? ⟨gb167, 10, none⟩ = some (.string (⟨#[]⟩ : ByteArray)) := (blk_cell BK167.out 10).trans rfl
         have hcz29_11 : wr.cell? ⟨gb167, 11, none⟩ = some (.string a1) := (blk_cell BK167.out 11).trans rfl
         have hcz29_12 : wr.cell? ⟨gb167, 12, none⟩ = some (.string x168012_1) := (blk_cell BK167.out 12).trans rfl
         have hcz29_13 : wr.cell? ⟨gb167, 13, none⟩ = some (.string (⟨#[80]⟩ : ByteArray)) := (blk_cell BK167.out 13).trans rfl
         have hcz29_14 : wr.cell? ⟨gb167, 14, none⟩ = some (.string (⟨#[50, 46, 53]⟩ : ByteArray)) := (blk_cell BK167.out 14).trans rfl
         have hfz29_0 := blk_frozen BK167.out 0
         have hfz29_1 := blk_frozen BK167.out 1
         have hfz29_2 := blk_frozen BK167.out 2
         have hfz29_3 := blk_frozen BK167.out 3
         have hfz29_4 := blk_frozen BK167.out 4
         have hfz29_5 := blk_frozen BK167.out 5
         have hfz29_6 := blk_frozen BK167.out 6
         have hfz29_7 := blk_frozen BK167.out 7
         have hfz29_8 := blk_frozen BK167.out 8
         have hfz29_9 := blk_frozen BK167.out 9
         have hfz29_10 := blk_frozen BK167.out 10
         have hfz29_11 := blk_frozen BK167.out 11
         have hfz29_12 := blk_frozen BK167.out 12
         have hfz29_13 := blk_frozen BK167.out 13
         have hfz29_14 := blk_frozen BK167.out 14
         go_wp2_with (first | ((with_reducible refine gate_callee (f := 13) rfl ?_); refine goesL_ (some 21) rfl rfl Tryd.func13 (by kernel_rfl) rfl #[.agg #[.int .u8 124, .int .u8 94, .int .u8 126, .int .u8 92, .int .u8 38, .string (⟨#[]⟩ : ByteArray), .string (⟨#[]⟩ : ByteArray), .string (⟨#[]⟩ : ByteArray), .string (⟨#[]⟩ : ByteArray), .string (⟨#[]⟩ : ByteArray), .string (⟨#[]⟩ : ByteArray), .string a1, .string x168012_1, .string (⟨#[80]⟩ : ByteArray), .string (⟨#[50, 46, 53]⟩ : ByteArray)]] rfl (by (try simp only [List.map_toArray, List.map_cons, List.map_nil]); first | done | rfl | (simp only [List.length_drop, List.length_take]; rfl)) ?_; (with_reducible refine (msh_Check.calls k1 124 94 126 92 38 (⟨#[]⟩ : ByteArray) (⟨#[]⟩ : ByteArray) (⟨#[]⟩ : ByteArray) (⟨#[]⟩ : ByteArray) (⟨#[]⟩ : ByteArray) (⟨#[]⟩ : ByteArray) a1 x168012_1 (⟨#[80]⟩ : ByteArray) (⟨#[50, 46, 53]⟩ : ByteArray) t168 _ A8.out (glob_below HGLOB.out (by repeat (first | (with_reducible first | exact HB.out | apply below_alloc | apply pw_below_drewN | apply below_drew1) | exact HB.out)))).mono ?_); rintro e w30 ⟨rfl, hb⟩; refine ⟨_, rfl, ?_⟩; have n0_ := Aside0.mk (blk_below (g := gb167) (o := .cells #[.int .u8 124, .int .u8 94, .int .u8 126, .int .u8 92, .int .u8 38, .string (⟨#[]⟩ : ByteArray), .string (⟨#[]⟩ : ByteArray), .string (⟨#[]⟩ : ByteArray), .string (⟨#[]⟩ : ByteArray), .string (⟨#[]⟩ : ByteArray), .string (⟨#[]⟩ : ByteArray), .string a1, .string x168012_1, .string (⟨#[80]⟩ : ByteArray), .string (⟨#[50, 46, 53]⟩ : ByteArray)] 27 (0, 0)) (by (with_reducible repeat (first | refine blk_drewN ?_ _ | refine blk_drew ?_ | refine blk_alloc ?_ _)); exact BK167.out) hb); have n1_ := Aside0.mk (below_step (by repeat (first | (with_reducible first | exact HB.out | apply below_alloc | apply pw_below_drewN | apply below_drew1 | refine below_set ?_ GE167.out) | exact HB.out)) hb); clear BK167; clear HB; have BK167 := n0_; have HB := n1_; clear n0_ n1_; (try clear hb); (try clear hb2); (try clear hk); (try clear hi)) | ((with_reducible refine gate_callee (f := 10) rfl ?_); refine goesL_ (some 25) rfl rfl Tryd.func10 (by kernel_rfl) rfl #[] rfl (by (try simp only [List.map_toArray, List.map_cons, List.map_nil]); first | done | rfl | (simp only [List.length_drop, List.length_take]; rfl)) ?_; (with_reducible refine (lamplighterlaw09_alive.calls k1  true _ A9.out (glob_below HGLOB.out (by repeat (first | (with_reducible first | exact HB.out | apply below_alloc | apply pw_below_drewN | apply below_drew1) | exact HB.out)))).mono ?_); rintro e w31 ⟨rfl, hb⟩; refine ⟨_, rfl, ?_⟩; have n0_ := Aside0.mk (blk_below (g := gb167) (o := .cells #[.int .u8 124, .int .u8 94, .int .u8 126, .int .u8 92, .int .u8 38, .string (⟨#[]⟩ : ByteArray), .string (⟨#[]⟩ : ByteArray), .string (⟨#[]⟩ : ByteArray), .string (⟨#[]⟩ : ByteArray), .string (⟨#[]⟩ : ByteArray), .string (⟨#[]⟩ : ByteArray), .string a1, .string x168012_1, .string (⟨#[80]⟩ : ByteArray), .string (⟨#[50, 46, 53]⟩ : ByteArray)] 27 (0, 0)) (by (with_reducible repeat (first | refine blk_drewN ?_ _ | refine blk_drew ?_ | refine blk_alloc ?_ _)); exact BK167.out) hb); have n1_ := Aside0.mk (below_step (by repeat (first | (with_reducible first | exact HB.out | apply below_alloc | apply pw_below_drewN | apply below_drew1 | refine below_set ?_ GE167.out) | exact HB.out)) hb); clear BK167; clear HB; have BK167 := n0_; have HB := n1_; clear n0_ n1_; (try clear hb); (try clear hb2); (try clear hk); (try clear hi)))
         go_ret
         exact ⟨by first | rfl | (simp [errW_none, errW_some] <;> rfl) | (simp [*, errW_none, errW_some] <;> rfl), by repeat (first | (with_reducible first | exact HB.out | apply below_alloc | apply pw_below_drewN | apply below_drew1 | refine below_set ?_ GE167.out) | exact HB.out)⟩
       ·rw [if_neg c24] at H
        have c24b0 : ((t168 == 0) == (decide ((wrap64 (Int.tmod a0 80)) ≤ 50))) = false := by simpa using c24
        (try (have c24b1 : decide ((t168 == 0) = (decide ((wrap64 (Int.tmod a0 80)) ≤ 50))) = false := by simpa using c24))
        (try (have c24b2 : ((t168 == 0) == (decide ((wrap64 (Int.tmod a0 80)) ≤ 50))) = false := by simpa using c24))
        (try (have c24b3 : ¬ ((t168 == 0) = (decide ((wrap64 (Int.tmod a0 80)) ≤ 50))) := by simpa using c24))
        clear c24
        obtain rfl := Option.some.inj H
        have hcz32_0 : wr.cell? ⟨gb167, 0, none⟩ = some (.int .u8 124) := (blk_cell BK167.out 0).trans rfl
        have hcz32_1 : wr.cell? ⟨gb167, 1, none⟩ = some (.int .u8 94) := (blk_cell BK167.out 1).trans rfl
        have hcz32_2 : wr.cell? ⟨gb167, 2, none⟩ = some (.int .u8 126) := (blk_cell BK167.out 2).trans rfl
        have hcz32_3 : wr.cell? ⟨gb167, 3, none⟩ = some (.int .u8 92) := (blk_cell BK167.out 3).trans rfl
        have hcz32_4 : wr.cell? ⟨gb167, 4, none⟩ = some (.int .u8 38) := (blk_cell BK167.out 4).trans rfl
        have hcz32_5 : wr.cell? ⟨gb167, 5, none⟩ = some (.string (⟨#[]⟩ : ByteArray)) := (blk_cell BK167.out 5).trans rfl
        have hcz32_6 : wr.cell? ⟨gb167, 6, none⟩ = some (.string (⟨#[]⟩ : ByteArray)) := (blk_cell BK167.out 6).trans rfl
        have hcz32_7 : wr.cell? ⟨gb167, 7, none⟩ = some (.string (⟨#[]⟩ : ByteArray)) := (blk_cell BK167.out 7).trans rfl
        have hcz32_8 : wr.cell? ⟨gb167, 8, none⟩ = some (.string (⟨#[]⟩ : ByteArray)) := (blk_cell BK167.out 8).trans rfl
        have hcz32_9 : wr.cell? ⟨gb167, 9, none⟩ = some (.string (⟨#[]⟩ : ByteArray)) := (blk_cell BK167.out 9).trans rfl
        have hcz32_10 : wr.cell? ⟨gb167, 10, none⟩ = some (.string (⟨#[]⟩ : ByteArray)) := (blk_cell BK167.out 10).trans rfl
        have hcz32_11 : wr.cell? ⟨gb167, 11, none⟩ = some (.string a1) := (blk_cell BK167.out 11).trans rfl
        have hcz32_12 : wr.cell? ⟨gb167, 12, none⟩ = some (.string x168012_1) := (blk_cell BK167.out 12).trans rfl
        have hcz32_13 : wr.cell? ⟨gb167, 13, none⟩ = some (.string (⟨#[80]⟩ : ByteArray)) := (blk_cell BK167.out 13).trans rfl
        have hcz32_14 : wr.cell? ⟨gb167, 14, none⟩ = some (.string (⟨#[50, 46, 53]⟩ : ByteArray)) := (blk_cell BK167.out 14).trans rfl
        have hfz32_0 := blk_frozen BK167.out 0
        have hfz32_1 := blk_frozen BK167.out 1
        have hfz32_2 := blk_frozen BK167.out 2
        have hfz32_3 := blk_frozen BK167.out 3
        have hfz32_4 := blk_frozen BK167.out 4
        have hfz32_5 := blk_frozen BK167.out 5
        have hfz32_6 := blk_frozen BK167.out 6
        have hfz32_7 := blk_frozen BK167.out 7
        have hfz32_8 := blk_frozen BK167.out 8
        have hfz32_9 := blk_frozen BK167.out 9
        have hfz32_10 := blk_frozen BK167.out 10
        have hfz32_11 := blk_frozen BK167.out 11
        have hfz32_12 := blk_frozen BK167.out 12
        have hfz32_13 := blk_frozen BK167.out 13
        have hfz32_14 := blk_frozen BK167.out 14
        go_wp2_with (first | ((with_reducible refine gate_callee (f := 13) rfl ?_); refine goesL_ (some 21) rfl rfl Tryd.func13 (by kernel_rfl) rfl #[.agg #[.int .u8 124, .int .u8 94, .int .u8 126, .int .u8 92, .int .u8 38, .string (⟨#[]⟩ : ByteArray), .string (⟨#[]⟩ : ByteArray), .string (⟨#[]⟩ : ByteArray), .string (⟨#[]⟩ : ByteArray), .string (⟨#[]⟩ : ByteArray), .string (⟨#[]⟩ : ByteArray), .string a1, .string x168012_1, .string (⟨#[80]⟩ : ByteArray), .string (⟨#[50, 46, 53]⟩ : ByteArray)]] rfl (by (try simp only [List.map_toArray, List.map_cons, List.map_nil]); first | done | rfl | (simp only [List.length_drop, List.length_take]; rfl)) ?_; (with_reducible refine (msh_Check.calls k1 124 94 126 92 38 (⟨#[]⟩ : ByteArray) (⟨#[]⟩ : ByteArray) (⟨#[]⟩ : ByteArray) (⟨#[]⟩ : ByteArray) (⟨#[]⟩ : ByteArray) (⟨#[]⟩ : ByteArray) a1 x168012_1 (⟨#[80]⟩ : ByteArray) (⟨#[50, 46, 53]⟩ : ByteArray) t168 _ A8.out (glob_below HGLOB.out (by repeat (first | (with_reducible first | exact HB.out | apply below_alloc | apply pw_below_drewN | apply below_drew1) | exact HB.out)))).mono ?_); rintro e w33 ⟨rfl, hb⟩; refine ⟨_, rfl, ?_⟩; have n0_ := Aside0.mk (blk_below (g := gb167) (o := .cells #[.int .u8 124, .int .u8 94, .int .u8 126, .int .u8 92, .int .u8 38, .string (⟨#[]⟩ : ByteArray), .string (⟨#[]⟩ : ByteArray), .string (⟨#[]⟩ : ByteArray), .string (⟨#[]⟩ : ByteArray), .string (⟨#[]⟩ : ByteArray), .string (⟨#[]⟩ : ByteArray), .string a1, .string x168012_1, .string (⟨#[80]⟩ : ByteArray), .string (⟨#[50, 46, 53]⟩ : ByteArray)] 27 (0, 0)) (by (with_reducible repeat (first | refine blk_drewN ?_ _ | refine blk_drew ?_ | refine blk_alloc ?_ _)); exact BK167.out) hb); have n1_ := Aside0.mk (below_step (by repeat (first | (with_reducible first | exact HB.out | apply below_alloc | apply pw_below_drewN | apply below_drew1 | refine below_set ?_ GE167.out) | exact HB.out)) hb); clear BK167; clear HB; have BK167 := n0_; have HB := n1_; clear n0_ n1_; (try clear hb); (try clear hb2); (try clear hk); (try clear hi)) | ((with_reducible refine gate_callee (f := 10) rfl ?_); refine goesL_ (some 25) rfl rfl Tryd.func10 (by kernel_rfl) rfl #[] rfl (by (try simp only [List.map_toArray, List.map_cons, List.map_nil]); first | done | rfl | (simp only [List.length_drop, List.length_take]; rfl)) ?_; (with_reducible refine (lamplighterlaw09_alive.calls k1  true _ A9.out (glob_below HGLOB.out (by repeat (first | (with_reducible first | exact HB.out | apply below_alloc | apply pw_below_drewN | apply below_drew1) | exact HB.out)))).mono ?_); rintro e w34 ⟨rfl, hb⟩; refine ⟨_, rfl, ?_⟩; have n0_ := Aside0.mk (blk_below (g := gb167) (o := .cells #[.int .u8 124, .int .u8 94, .int .u8 126, .int .u8 92, .int .u8 38, .string (⟨#[]⟩ : ByteArray), .string (⟨#[]⟩ : ByteArray), .string (⟨#[]⟩ : ByteArray), .string (⟨#[]⟩ : ByteArray), .string (⟨#[]⟩ : ByteArray), .string (⟨#[]⟩ : ByteArray), .string a1, .string x168012_1, .string (⟨#[80]⟩ : ByteArray), .string (⟨#[50, 46, 53]⟩ : ByteArray)] 27 (0, 0)) (by (with_reducible repeat (first | refine blk_drewN ?_ _ | refine blk_drew ?_ | refine blk_alloc ?_ _)); exact BK167.out) hb); have n1_ := Aside0.mk (below_step (by repeat (first | (with_reducible first | exact HB.out | apply below_alloc | apply pw_below_drewN | apply below_drew1 | refine below_set ?_ GE167.out) | exact HB.out)) hb); clear BK167; clear HB; have BK167 := n0_; have HB := n1_; clear n0_ n1_; (try clear hb); (try clear hb2); (try clear hk); (try clear hi)))
        go_ret
        exact ⟨by first | rfl | (simp [errW_none, errW_some] <;> rfl) | (simp [*, errW_none, errW_some] <;> rfl), by repeat (first | (with_reducible first | exact HB.out | apply below_alloc | apply pw_below_drewN | apply below_drew1 | refine below_set ?_ GE167.out) | exact HB.out)⟩
      ·rw [if_neg c23] at H
       have c23b0 : decide (1 ≤ (wrap64 (Int.tmod a0 80))) = false := decide_eq_false c23
       clear c23
       by_cases c35 : ((t168 == 0) == false) = true
       ·rw [if_pos c35] at H
        have c35b0 : ((t168 == 0) == false) = true := c35
        (try (have c35b1 : decide ((t168 == 0) = false) = true := by simpa using c35))
        (try (have c35b2 : ((t168 == 0) == false) = true := by simpa using c35))
        clear c35
        by_cases c36 : t168 = 0
        ·rw [if_pos c36] at H
         have c36b0 : (t168 == 0) = true := beq_iff_eq.mpr c36
         exact absurd c35b0 (by rw [c36b0]; decide)
        ·rw [if_neg c36] at H
         have c36b0 : (t168 == 0) = false := beq_eq_false_iff_ne.mpr c36
         have c36b1 : (t168 != 0) = true := bne_iff_ne.mpr c36
         obtain rfl := Option.some.inj H
         have hcz40_0 : wr.cell? ⟨gb167, 0, none⟩ = some (.int .u8 124) := (blk_cell BK167.out 0).trans rfl
         have hcz40_1 : wr.cell? ⟨gb167, 1, none⟩ = some (.int .u8 94) := (blk_cell BK167.out 1).trans rfl
         have hcz40_2 : wr.cell? ⟨gb167, 2, none⟩ = some (.int .u8 126) := (blk_cell BK167.out 2).trans rfl
         have hcz40_3 : wr.cell? ⟨gb167, 3, none⟩ = some (.int .u8 92) := (blk_cell BK167.out 3).trans rfl
         have hcz40_4 : wr.cell? ⟨gb167, 4, none⟩ = some (.int .u8 38) := (blk_cell BK167.out 4).trans rfl
         have hcz40_5 : wr.cell? ⟨gb167, 5, none⟩ = some (.string (⟨#[]⟩ : ByteArray)) := (blk_cell BK167.out 5).trans rfl
         have hcz40_6 : wr.cell? ⟨gb167, 6, none⟩ = some (.string (⟨#[]⟩ : ByteArray)) := (blk_cell BK167.out 6).trans rfl
         have hcz40_7 : wr.cell? ⟨gb167, 7, none⟩ = some (.string (⟨#[]⟩ : ByteArray)) := (blk_cell BK167.out 7).trans rfl
         have hcz40_8 : wr.cell? ⟨gb167, 8, none⟩ = some (.string (⟨#[]⟩ : ByteArray)) := (blk_cell BK167.out 8).trans rfl
         have hcz40_9 : wr.cell? ⟨gb167, 9, none⟩ = some (.string (⟨#[]⟩ : ByteArray)) := (blk_cell BK167.out 9).trans rfl
         have hcz40_10 : wr.cell? ⟨gb167, 10, none⟩ = some (.string (⟨#[]⟩ : ByteArray)) := (blk_cell BK167.out 10).trans rfl
         have hcz40_11 : wr.cell? ⟨gb167, 11, none⟩ = some (.string a1) := (blk_cell BK167.out 11).trans rfl
         have hcz40_12 : wr.cell? ⟨gb167, 12, none⟩ = some (.string x168012_1) := (blk_cell BK167.out 12).trans rfl
         have hcz40_13 : wr.cell? ⟨gb167, 13, none⟩ = some (.string (⟨#[80]⟩ : ByteArray)) := (blk_cell BK167.out 13).trans rfl
         have hcz40_14 : wr.cell? ⟨gb167, 14, none⟩ = some (.string (⟨#[50, 46, 53]⟩ : ByteArray)) := (blk_cell BK167.out 14).trans rfl
         have hfz40_0 := blk_frozen BK167.out 0
         have hfz40_1 := blk_frozen BK167.out 1
         have hfz40_2 := blk_frozen BK167.out 2
         have hfz40_3 := blk_frozen BK167.out 3
         have hfz40_4 := blk_frozen BK167.out 4
         have hfz40_5 := blk_frozen BK167.out 5
         have hfz40_6 := blk_frozen BK167.out 6
         have hfz40_7 := blk_frozen BK167.out 7
         have hfz40_8 := blk_frozen BK167.out 8
         have hfz40_9 := blk_frozen BK167.out 9
         have hfz40_10 := blk_frozen BK167.out 10
         have hfz40_11 := blk_frozen BK167.out 11
         have hfz40_12 := blk_frozen BK167.out 12
         have hfz40_13 := blk_frozen BK167.out 13
         have hfz40_14 := blk_frozen BK167.out 14
         go_wp2_with (first | ((with_reducible refine gate_callee (f := 13) rfl ?_); refine goesL_ (some 21) rfl rfl Tryd.func13 (by kernel_rfl) rfl #[.agg #[.int .u8 124, .int .u8 94, .int .u8 126, .int .u8 92, .int .u8 38, .string (⟨#[]⟩ : ByteArray), .string (⟨#[]⟩ : ByteArray), .string (⟨#[]⟩ : ByteArray), .string (⟨#[]⟩ : ByteArray), .string (⟨#[]⟩ : ByteArray), .string (⟨#[]⟩ : ByteArray), .string a1, .string x168012_1, .string (⟨#[80]⟩ : ByteArray), .string (⟨#[50, 46, 53]⟩ : ByteArray)]] rfl (by (try simp only [List.map_toArray, List.map_cons, List.map_nil]); first | done | rfl | (simp only [List.length_drop, List.length_take]; rfl)) ?_; (with_reducible refine (msh_Check.calls k1 124 94 126 92 38 (⟨#[]⟩ : ByteArray) (⟨#[]⟩ : ByteArray) (⟨#[]⟩ : ByteArray) (⟨#[]⟩ : ByteArray) (⟨#[]⟩ : ByteArray) (⟨#[]⟩ : ByteArray) a1 x168012_1 (⟨#[80]⟩ : ByteArray) (⟨#[50, 46, 53]⟩ : ByteArray) t168 _ A8.out (glob_below HGLOB.out (by repeat (first | (with_reducible first | exact HB.out | apply below_alloc | apply pw_below_drewN | apply below_drew1) | exact HB.out)))).mono ?_); rintro e w41 ⟨rfl, hb⟩; refine ⟨_, rfl, ?_⟩; have n0_ := Aside0.mk (blk_below (g := gb167) (o := .cells #[.int .u8 124, .int .u8 94, .int .u8 126, .int .u8 92, .int .u8 38, .string (⟨#[]⟩ : ByteArray), .string (⟨#[]⟩ : ByteArray), .string (⟨#[]⟩ : ByteArray), .string (⟨#[]⟩ : ByteArray), .string (⟨#[]⟩ : ByteArray), .string (⟨#[]⟩ : ByteArray), .string a1, .string x168012_1, .string (⟨#[80]⟩ : ByteArray), .string (⟨#[50, 46, 53]⟩ : ByteArray)] 27 (0, 0)) (by (with_reducible repeat (first | refine blk_drewN ?_ _ | refine blk_drew ?_ | refine blk_alloc ?_ _)); exact BK167.out) hb); have n1_ := Aside0.mk (below_step (by repeat (first | (with_reducible first | exact HB.out | apply below_alloc | apply pw_below_drewN | apply below_drew1 | refine below_set ?_ GE167.out) | exact HB.out)) hb); clear BK167; clear HB; have BK167 := n0_; have HB := n1_; clear n0_ n1_; (try clear hb); (try clear hb2); (try clear hk); (try clear hi)) | ((with_reducible refine gate_callee (f := 10) rfl ?_); refine goesL_ (some 25) rfl rfl Tryd.func10 (by kernel_rfl) rfl #[] rfl (by (try simp only [List.map_toArray, List.map_cons, List.map_nil]); first | done | rfl | (simp only [List.length_drop, List.length_take]; rfl)) ?_; (with_reducible refine (lamplighterlaw09_alive.calls k1  true _ A9.out (glob_below HGLOB.out (by repeat (first | (with_reducible first | exact HB.out | apply below_alloc | apply pw_below_drewN | apply below_drew1) | exact HB.out)))).mono ?_); rintro e w42 ⟨rfl, hb⟩; refine ⟨_, rfl, ?_⟩; have n0_ := Aside0.mk (blk_below (g := gb167) (o := .cells #[.int .u8 124, .int .u8 94, .int .u8 126, .int .u8 92, .int .u8 38, .string (⟨#[]⟩ : ByteArray), .string (⟨#[]⟩ : ByteArray), .string (⟨#[]⟩ : ByteArray), .string (⟨#[]⟩ : ByteArray), .string (⟨#[]⟩ : ByteArray), .string (⟨#[]⟩ : ByteArray), .string a1, .string x168012_1, .string (⟨#[80]⟩ : ByteArray), .string (⟨#[50, 46, 53]⟩ : ByteArray)] 27 (0, 0)) (by (with_reducible repeat (first | refine blk_drewN ?_ _ | refine blk_drew ?_ | refine blk_alloc ?_ _)); exact BK167.out) hb); have n1_ := Aside0.mk (below_step (by repeat (first | (with_reducible first | exact HB.out | apply below_alloc | apply pw_below_drewN | apply below_drew1 | refine below_set ?_ GE167.out) | exact HB.out)) hb); clear BK167; clear HB; have BK167 := n0_; have HB := n1_; clear n0_ n1_; (try clear hb); (try clear hb2); (try clear hk); (try clear hi)))
         go_ret
         exact ⟨by first | rfl | (simp [errW_none, errW_some] <;> rfl) | (simp [*, errW_none, errW_some] <;> rfl), by repeat (first | (with_reducible first | exact HB.out | apply below_alloc | apply pw_below_drewN | apply below_drew1 | refine below_set ?_ GE167.out) | exact HB.out)⟩
       ·rw [if_neg c35] at H
        have c35b0 : ((t168 == 0) == false) = false := by simpa using c35
        (try (have c35b1 : decide ((t168 == 0) = false) = false := by simpa using c35))
        (try (have c35b2 : ((t168 == 0) == false) = false := by simpa using c35))
        (try (have c35b3 : ¬ ((t168 == 0) = false) := by simpa using c35))
        clear c35
        obtain rfl := Option.some.inj H
        have hcz43_0 : wr.cell? ⟨gb167, 0, none⟩ = some (.int .u8 124) := (blk_cell BK167.out 0).trans rfl
        have hcz43_1 : wr.cell? ⟨gb167, 1, none⟩ = some (.int .u8 94) := (blk_cell BK167.out 1).trans rfl
        have hcz43_2 : wr.cell? ⟨gb167, 2, none⟩ = some (.int .u8 126) := (blk_cell BK167.out 2).trans rfl
        have hcz43_3 : wr.cell? ⟨gb167, 3, none⟩ = some (.int .u8 92) := (blk_cell BK167.out 3).trans rfl
        have hcz43_4 : wr.cell? ⟨gb167, 4, none⟩ = some (.int .u8 38) := (blk_cell BK167.out 4).trans rfl
        have hcz43_5 : wr.cell? ⟨gb167, 5, none⟩ = some (.string (⟨#[]⟩ : ByteArray)) := (blk_cell BK167.out 5).trans rfl
        have hcz43_6 : wr.cell? ⟨gb167, 6, none⟩ = some (.string (⟨#[]⟩ : ByteArray)) := (blk_cell BK167.out 6).trans rfl
        have hcz43_7 : wr.cell? ⟨gb167, 7, none⟩ = some (.string (⟨#[]⟩ : ByteArray)) := (blk_cell BK167.out 7).trans rfl
        have hcz43_8 : wr.cell? ⟨gb167, 8, none⟩ = some (.string (⟨#[]⟩ : ByteArray)) := (blk_cell BK167.out 8).trans rfl
        have hcz43_9 : wr.cell? ⟨gb167, 9, none⟩ = some (.string (⟨#[]⟩ : ByteArray)) := (blk_cell BK167.out 9).trans rfl
        have hcz43_10 : wr.cell? ⟨gb167, 10, none⟩ = some (.string (⟨#[]⟩ : ByteArray)) := (blk_cell BK167.out 10).trans rfl
        have hcz43_11 : wr.cell? ⟨gb167, 11, none⟩ = some (.string a1) := (blk_cell BK167.out 11).trans rfl
        have hcz43_12 : wr.cell? ⟨gb167, 12, none⟩ = some (.string x168012_1) := (blk_cell BK167.out 12).trans rfl
        have hcz43_13 : wr.cell? ⟨gb167, 13, none⟩ = some (.string (⟨#[80]⟩ : ByteArray)) := (blk_cell BK167.out 13).trans rfl
        have hcz43_14 : wr.cell? ⟨gb167, 14, none⟩ = some (.string (⟨#[50, 46, 53]⟩ : ByteArray)) := (blk_cell BK167.out 14).trans rfl
        have hfz43_0 := blk_frozen BK167.out 0
        have hfz43_1 := blk_frozen BK167.out 1
        have hfz43_2 := blk_frozen BK167.out 2
        have hfz43_3 := blk_frozen BK167.out 3
        have hfz43_4 := blk_frozen BK167.out 4
        have hfz43_5 := blk_frozen BK167.out 5
        have hfz43_6 := blk_frozen BK167.out 6
        have hfz43_7 := blk_frozen BK167.out 7
        have hfz43_8 := blk_frozen BK167.out 8
        have hfz43_9 := blk_frozen BK167.out 9
        have hfz43_10 := blk_frozen BK167.out 10
        have hfz43_11 := blk_frozen BK167.out 11
        have hfz43_12 := blk_frozen BK167.out 12
        have hfz43_13 := blk_frozen BK167.out 13
        have hfz43_14 := blk_frozen BK167.out 14
        go_wp2_with (first | ((with_reducible refine gate_callee (f := 13) rfl ?_); refine goesL_ (some 21) rfl rfl Tryd.func13 (by kernel_rfl) rfl #[.agg #[.int .u8 124, .int .u8 94, .int .u8 126, .int .u8 92, .int .u8 38, .string (⟨#[]⟩ : ByteArray), .string (⟨#[]⟩ : ByteArray), .string (⟨#[]⟩ : ByteArray), .string (⟨#[]⟩ : ByteArray), .string (⟨#[]⟩ : ByteArray), .string (⟨#[]⟩ : ByteArray), .string a1, .string x168012_1, .string (⟨#[80]⟩ : ByteArray), .string (⟨#[50, 46, 53]⟩ : ByteArray)]] rfl (by (try simp only [List.map_toArray, List.map_cons, List.map_nil]); first | done | rfl | (simp only [List.length_drop, List.length_take]; rfl)) ?_; (with_reducible refine (msh_Check.calls k1 124 94 126 92 38 (⟨#[]⟩ : ByteArray) (⟨#[]⟩ : ByteArray) (⟨#[]⟩ : ByteArray) (⟨#[]⟩ : ByteArray) (⟨#[]⟩ : ByteArray) (⟨#[]⟩ : ByteArray) a1 x168012_1 (⟨#[80]⟩ : ByteArray) (⟨#[50, 46, 53]⟩ : ByteArray) t168 _ A8.out (glob_below HGLOB.out (by repeat (first | (with_reducible first | exact HB.out | apply below_alloc | apply pw_below_drewN | apply below_drew1) | exact HB.out)))).mono ?_); rintro e w44 ⟨rfl, hb⟩; refine ⟨_, rfl, ?_⟩; have n0_ := Aside0.mk (blk_below (g := gb167) (o := .cells #[.int .u8 124, .int .u8 94, .int .u8 126, .int .u8 92, .int .u8 38, .string (⟨#[]⟩ : ByteArray), .string (⟨#[]⟩ : ByteArray), .string (⟨#[]⟩ : ByteArray), .string (⟨#[]⟩ : ByteArray), .string (⟨#[]⟩ : ByteArray), .string (⟨#[]⟩ : ByteArray), .string a1, .string x168012_1, .string (⟨#[80]⟩ : ByteArray), .string (⟨#[50, 46, 53]⟩ : ByteArray)] 27 (0, 0)) (by (with_reducible repeat (first | refine blk_drewN ?_ _ | refine blk_drew ?_ | refine blk_alloc ?_ _)); exact BK167.out) hb); have n1_ := Aside0.mk (below_step (by repeat (first | (with_reducible first | exact HB.out | apply below_alloc | apply pw_below_drewN | apply below_drew1 | refine below_set ?_ GE167.out) | exact HB.out)) hb); clear BK167; clear HB; have BK167 := n0_; have HB := n1_; clear n0_ n1_; (try clear hb); (try clear hb2); (try clear hk); (try clear hi)) | ((with_reducible refine gate_callee (f := 10) rfl ?_); refine goesL_ (some 25) rfl rfl Tryd.func10 (by kernel_rfl) rfl #[] rfl (by (try simp only [List.map_toArray, List.map_cons, List.map_nil]); first | done | rfl | (simp only [List.length_drop, List.length_take]; rfl)) ?_; (with_reducible refine (lamplighterlaw09_alive.calls k1  true _ A9.out (glob_below HGLOB.out (by repeat (first | (with_reducible first | exact HB.out | apply below_alloc | apply pw_below_drewN | apply below_drew1) | exact HB.out)))).mono ?_); rintro e w45 ⟨rfl, hb⟩; refine ⟨_, rfl, ?_⟩; have n0_ := Aside0.mk (blk_below (g := gb167) (o := .cells #[.int .u8 124, .int .u8 94, .int .u8 126, .int .u8 92, .int .u8 38, .string (⟨#[]⟩ : ByteArray), .string (⟨#[]⟩ : ByteArray), .string (⟨#[]⟩ : ByteArray), .string (⟨#[]⟩ : ByteArray), .string (⟨#[]⟩ : ByteArray), .string (⟨#[]⟩ : ByteArray), .string a1, .string x168012_1, .string (⟨#[80]⟩ : ByteArray), .string (⟨#[50, 46, 53]⟩ : ByteArray)] 27 (0, 0)) (by (with_reducible repeat (first | refine blk_drewN ?_ _ | refine blk_drew ?_ | refine blk_alloc ?_ _)); exact BK167.out) hb); have n1_ := Aside0.mk (below_step (by repeat (first | (with_reducible first | exact HB.out | apply below_alloc | apply pw_below_drewN | apply below_drew1 | refine below_set ?_ GE167.out) | exact HB.out)) hb); clear BK167; clear HB; have BK167 := n0_; have HB := n1_; clear n0_ n1_; (try clear hb); (try clear hb2); (try clear hk); (try clear hi)))
        go_ret
        exact ⟨by first | rfl | (simp [errW_none, errW_some] <;> rfl) | (simp [*, errW_none, errW_some] <;> rfl), by repeat (first | (with_reducible first | exact HB.out | apply below_alloc | apply pw_below_drewN | apply below_drew1 | refine below_set ?_ GE167.out) | exact HB.out)⟩
    ·replace c10 := Bool.eq_false_iff.mpr c10
     subst c10
     have H1 : (some false) = some r := by rw [if_neg (show ¬ (false = true) by decide)] at H; exact H
     clear H
     have H := H1
     clear H1
     obtain rfl := Option.some.inj H
     have hcz46_0 : wr.cell? ⟨gb167, 0, none⟩ = some (.int .u8 124) := (blk_cell BK167.out 0).trans rfl
     have hcz46_1 : wr.cell? ⟨gb167, 1, none⟩ = some (.int .u8 94) := (blk_cell BK167.out 1).trans rfl
     have hcz46_2 : wr.cell? ⟨gb167, 2, none⟩ = some (.int .u8 126) := (blk_cell BK167.out 2).trans rfl
     have hcz46_3 : wr.cell? ⟨gb167, 3, none⟩ = some (.int .u8 92) := (blk_cell BK167.out 3).trans rfl
     have hcz46_4 : wr.cell? ⟨gb167, 4, none⟩ = some (.int .u8 38) := (blk_cell BK167.out 4).trans rfl
     have hcz46_5 : wr.cell? ⟨gb167, 5, none⟩ = some (.string (⟨#[]⟩ : ByteArray)) := (blk_cell BK167.out 5).trans rfl
     have hcz46_6 : wr.cell? ⟨gb167, 6, none⟩ = some (.string (⟨#[]⟩ : ByteArray)) := (blk_cell BK167.out 6).trans rfl
     have hcz46_7 : wr.cell? ⟨gb167, 7, none⟩ = some (.string (⟨#[]⟩ : ByteArray)) := (blk_cell BK167.out 7).trans rfl
     have hcz46_8 : wr.cell? ⟨gb167, 8, none⟩ = some (.string (⟨#[]⟩ : ByteArray)) := (blk_cell BK167.out 8).trans rfl
     have hcz46_9 : wr.cell? ⟨gb167, 9, none⟩ = some (.string (⟨#[]⟩ : ByteArray)) := (blk_cell BK167.out 9).trans rfl
     have hcz46_10 : wr.cell? ⟨gb167, 10, none⟩ = some (.string (⟨#[]⟩ : ByteArray)) := (blk_cell BK167.out 10).trans rfl
     have hcz46_11 : wr.cell? ⟨gb167, 11, none⟩ = some (.string a1) := (blk_cell BK167.out 11).trans rfl
     have hcz46_12 : wr.cell? ⟨gb167, 12, none⟩ = some (.string x168012_1) := (blk_cell BK167.out 12).trans rfl
     have hcz46_13 : wr.cell? ⟨gb167, 13, none⟩ = some (.string (⟨#[80]⟩ : ByteArray)) := (blk_cell BK167.out 13).trans rfl
     have hcz46_14 : wr.cell? ⟨gb167, 14, none⟩ = some (.string (⟨#[50, 46, 53]⟩ : ByteArray)) := (blk_cell BK167.out 14).trans rfl
     have hfz46_0 := blk_frozen BK167.out 0
     have hfz46_1 := blk_frozen BK167.out 1
     have hfz46_2 := blk_frozen BK167.out 2
     have hfz46_3 := blk_frozen BK167.out 3
     have hfz46_4 := blk_frozen BK167.out 4
     have hfz46_5 := blk_frozen BK167.out 5
     have hfz46_6 := blk_frozen BK167.out 6
     have hfz46_7 := blk_frozen BK167.out 7
     have hfz46_8 := blk_frozen BK167.out 8
     have hfz46_9 := blk_frozen BK167.out 9
     have hfz46_10 := blk_frozen BK167.out 10
     have hfz46_11 := blk_frozen BK167.out 11
     have hfz46_12 := blk_frozen BK167.out 12
     have hfz46_13 := blk_frozen BK167.out 13
     have hfz46_14 := blk_frozen BK167.out 14
     go_wp2_with (first | ((with_reducible refine gate_callee (f := 13) rfl ?_); refine goesL_ (some 21) rfl rfl Tryd.func13 (by kernel_rfl) rfl #[.agg #[.int .u8 124, .int .u8 94, .int .u8 126, .int .u8 92, .int .u8 38, .string (⟨#[]⟩ : ByteArray), .string (⟨#[]⟩ : ByteArray), .string (⟨#[]⟩ : ByteArray), .string (⟨#[]⟩ : ByteArray), .string (⟨#[]⟩ : ByteArray), .string (⟨#[]⟩ : ByteArray), .string a1, .string x168012_1, .string (⟨#[80]⟩ : ByteArray), .string (⟨#[50, 46, 53]⟩ : ByteArray)]] rfl (by (try simp only [List.map_toArray, List.map_cons, List.map_nil]); first | done | rfl | (simp only [List.length_drop, List.length_take]; rfl)) ?_; (with_reducible refine (msh_Check.calls k1 124 94 126 92 38 (⟨#[]⟩ : ByteArray) (⟨#[]⟩ : ByteArray) (⟨#[]⟩ : ByteArray) (⟨#[]⟩ : ByteArray) (⟨#[]⟩ : ByteArray) (⟨#[]⟩ : ByteArray) a1 x168012_1 (⟨#[80]⟩ : ByteArray) (⟨#[50, 46, 53]⟩ : ByteArray) t168 _ A8.out (glob_below HGLOB.out (by repeat (first | (with_reducible first | exact HB.out | apply below_alloc | apply pw_below_drewN | apply below_drew1) | exact HB.out)))).mono ?_); rintro e w47 ⟨rfl, hb⟩; refine ⟨_, rfl, ?_⟩; have n0_ := Aside0.mk (blk_below (g := gb167) (o := .cells #[.int .u8 124, .int .u8 94, .int .u8 126, .int .u8 92, .int .u8 38, .string (⟨#[]⟩ : ByteArray), .string (⟨#[]⟩ : ByteArray), .string (⟨#[]⟩ : ByteArray), .string (⟨#[]⟩ : ByteArray), .string (⟨#[]⟩ : ByteArray), .string (⟨#[]⟩ : ByteArray), .string a1, .string x168012_1, .string (⟨#[80]⟩ : ByteArray), .string (⟨#[50, 46, 53]⟩ : ByteArray)] 27 (0, 0)) (by (with_reducible repeat (first | refine blk_drewN ?_ _ | refine blk_drew ?_ | refine blk_alloc ?_ _)); exact BK167.out) hb); have n1_ := Aside0.mk (below_step (by repeat (first | (with_reducible first | exact HB.out | apply below_alloc | apply pw_below_drewN | apply below_drew1 | refine below_set ?_ GE167.out) | exact HB.out)) hb); clear BK167; clear HB; have BK167 := n0_; have HB := n1_; clear n0_ n1_; (try clear hb); (try clear hb2); (try clear hk); (try clear hi)) | ((with_reducible refine gate_callee (f := 10) rfl ?_); refine goesL_ (some 25) rfl rfl Tryd.func10 (by kernel_rfl) rfl #[] rfl (by (try simp only [List.map_toArray, List.map_cons, List.map_nil]); first | done | rfl | (simp only [List.length_drop, List.length_take]; rfl)) ?_; (with_reducible refine (lamplighterlaw09_alive.calls k1  false _ A9.out (glob_below HGLOB.out (by repeat (first | (with_reducible first | exact HB.out | apply below_alloc | apply pw_below_drewN | apply below_drew1) | exact HB.out)))).mono ?_); rintro e w48 ⟨rfl, hb⟩; refine ⟨_, rfl, ?_⟩; have n0_ := Aside0.mk (blk_below (g := gb167) (o := .cells #[.int .u8 124, .int .u8 94, .int .u8 126, .int .u8 92, .int .u8 38, .string (⟨#[]⟩ : ByteArray), .string (⟨#[]⟩ : ByteArray), .string (⟨#[]⟩ : ByteArray), .string (⟨#[]⟩ : ByteArray), .string (⟨#[]⟩ : ByteArray), .string (⟨#[]⟩ : ByteArray), .string a1, .string x168012_1, .string (⟨#[80]⟩ : ByteArray), .string (⟨#[50, 46, 53]⟩ : ByteArray)] 27 (0, 0)) (by (with_reducible repeat (first | refine blk_drewN ?_ _ | refine blk_drew ?_ | refine blk_alloc ?_ _)); exact BK167.out) hb); have n1_ := Aside0.mk (below_step (by repeat (first | (with_reducible first | exact HB.out | apply below_alloc | apply pw_below_drewN | apply below_drew1 | refine below_set ?_ GE167.out) | exact HB.out)) hb); clear BK167; clear HB; have BK167 := n0_; have HB := n1_; clear n0_ n1_; (try clear hb); (try clear hb2); (try clear hk); (try clear hi)))
     go_ret
     exact ⟨by first | rfl | (simp [errW_none, errW_some] <;> rfl) | (simp [*, errW_none, errW_some] <;> rfl), by repeat (first | (with_reducible first | exact HB.out | apply below_alloc | apply pw_below_drewN | apply below_drew1 | refine below_set ?_ GE167.out) | exact HB.out)⟩

/-- THE ONE PURE STATEMENT of lamplighterlaw09_MshIds: yours. -/
def lamplighterlaw09_MshIds.Pure : Prop := ∀ (a0 : Int) (a1 : ByteArray), (Lit.int .u8 a0).wf = true → a1.size ≤ 140737488351232 → ∃ k, lamplighterlaw09_MshIds.f k a0 a1 = some true
theorem lamplighterlaw09_MshIds.walk (P : lamplighterlaw09_MshIds.Pure) (a0 : Int) (a1 : ByteArray) (w : World) (w0 : (Lit.int .u8 a0).wf = true) (w1 : a1.size ≤ 140737488351232) (hG : GlobOK w) :
  Calls Tryd.prog 4 #[.int .u8 a0, .string a1] w fun e w' => e = .returned (.bool true) ∧ Below w.heap.size w w' := by
 obtain ⟨k, h⟩ := P a0 a1 w0 w1
 refine (lamplighterlaw09_MshIds.calls k a0 a1 true w h hG).mono ?_
 rintro e w' ⟨rfl, hd⟩
 exact ⟨rfl, hd⟩

/-! ### lamplighterref06_five: function 61 -/
def lamplighterref06_five.f (a0_0 : Int) (a0_1 : Int) (a0_2 : Int) (a0_3 : Int) (a0_4 : Int) : Option (List Int) := some (([a0_0, a0_1, a0_2, a0_3, a0_4] : List Int))
set_option maxHeartbeats 8000000 in
set_option maxRecDepth 100000 in
theorem lamplighterref06_five.calls (a0_0 : Int) (a0_1 : Int) (a0_2 : Int) (a0_3 : Int) (a0_4 : Int) (r : List Int) (w : World) (h : lamplighterref06_five.f a0_0 a0_1 a0_2 a0_3 a0_4 = some r) :
  Calls Tryd.prog 61 #[.agg #[.int .u8 a0_0, .int .u8 a0_1, .int .u8 a0_2, .int .u8 a0_3, .int .u8 a0_4]] w fun e w' => ∃ v0_ : Value, e = .returned (v0_) ∧ Kd.R (Kd.int .u8) 5 w' w.heap.size (fun _ => True) v0_ r ∧ Below w.heap.size w w' := by
 have hu25 := Tryd.underlying25
 have HB := Aside0.mk (Below.refl w.heap.size w)
 have H : (some (([a0_0, a0_1, a0_2, a0_3, a0_4] : List Int))) = some r := h
 clear h
 obtain ⟨y171, hy171⟩ : ∃ y_ : List Int, y_ = (([a0_0, a0_1, a0_2, a0_3, a0_4] : List Int)) := ⟨_, rfl⟩
 replace H : (some y171) = some r := by first | (rw [hy171]; with_reducible exact H) | (have H2_ := (Option.bind_some _ _).symm.trans H; rw [hy171]; with_reducible exact H2_) | (have H2_ := (Option.bind_some _ _).symm.trans H; with_reducible exact H2_) | with_reducible exact H | (rw [hy171]; exact H) | exact H
 have Ny171 := Aside0.mk hy171
 clear hy171
 obtain rfl := Option.some.inj H
 go_enter Tryd.func61, Tryd.ntmps61
 go_wp2_with (first | ((with_reducible refine gate_dst (N := 1) rfl ?_); refine box_event ?hg (N := 1) ?hd (cs := #[.int .u8 a0_0, .int .u8 a0_1, .int .u8 a0_2, .int .u8 a0_3, .int .u8 a0_4]) (t := 25) ?hr ?_; (case hd => rfl); (case hg => rfl); (case hr => first | (go_simp; done) | (go_simp; rfl)); intro gb170 hg w2 hbox hb; have n0_ := Aside0.mk (below_step (by repeat (first | (with_reducible first | exact HB.out | apply below_alloc | apply pw_below_drewN | apply below_drew1) | exact HB.out)) hb); have n1_ := Aside0.mk (hbox); have n2_ := Aside0.mk ((by rw [hg]; exact (below_size (by repeat (first | (with_reducible first | exact HB.out | apply below_alloc | apply pw_below_drewN | apply below_drew1) | exact HB.out))) : w.heap.size ≤ gb170)); have n3_ := Aside0.mk ((by rw [hg]; exact (below_size (by repeat (first | (with_reducible first | exact HB.out | apply below_alloc | apply pw_below_drewN | apply below_drew1) | exact HB.out))) : w.heap.size ≤ gb170)); clear HB; have HB := n0_; have BK170 := n1_; have GW170 := n2_; have GE170 := n3_; clear n0_ n1_ n2_ n3_; clear hb hbox hg; have hcz3_0 : w2.cell? ⟨gb170, 0, none⟩ = some (.int .u8 a0_0) := (blk_cell BK170.out 0).trans rfl; have hcz3_1 : w2.cell? ⟨gb170, 1, none⟩ = some (.int .u8 a0_1) := (blk_cell BK170.out 1).trans rfl; have hcz3_2 : w2.cell? ⟨gb170, 2, none⟩ = some (.int .u8 a0_2) := (blk_cell BK170.out 2).trans rfl; have hcz3_3 : w2.cell? ⟨gb170, 3, none⟩ = some (.int .u8 a0_3) := (blk_cell BK170.out 3).trans rfl; have hcz3_4 : w2.cell? ⟨gb170, 4, none⟩ = some (.int .u8 a0_4) := (blk_cell BK170.out 4).trans rfl; have hfz3_0 := blk_frozen BK170.out 0; have hfz3_1 := blk_frozen BK170.out 1; have hfz3_2 := blk_frozen BK170.out 2; have hfz3_3 := blk_frozen BK170.out 3; have hfz3_4 := blk_frozen BK170.out 4) | ((with_reducible refine gate_dst (N := 13) rfl ?_); refine Kd.R_lit (Kd.int .u8) _ 5 ?hg (N := 13) ?hd (xs := ([a0_0, a0_1, a0_2, a0_3, a0_4] : List Int)) (inner := [.int .u8 a0_0, .int .u8 a0_1, .int .u8 a0_2, .int .u8 a0_3, .int .u8 a0_4]) (ok := fun _ => True) (okp := fun _ => True) ?hr ?hp (fun _ hk => hk) trivial (Below.refl _ _) (Nat.le_refl _) (by simp) ?_; (case hd => rfl); (case hg => rfl); (case hr => first | (go_simp; done) | (go_simp; rfl)); (case hp => exact (Reps.one (show Kd.M (Kd.int .u8) _ _ _ a0_0 [.int .u8 a0_0] from rfl) (Reps.one (show Kd.M (Kd.int .u8) _ _ _ a0_1 [.int .u8 a0_1] from rfl) (Reps.one (show Kd.M (Kd.int .u8) _ _ _ a0_2 [.int .u8 a0_2] from rfl) (Reps.one (show Kd.M (Kd.int .u8) _ _ _ a0_3 [.int .u8 a0_3] from rfl) (Reps.one (show Kd.M (Kd.int .u8) _ _ _ a0_4 [.int .u8 a0_4] from rfl) (Reps.none _ _))))))); intro v172 w4 ho5 hb hg_ hnew_; clear hg_ hnew_; (first | rw [← Ny171.out] at ho5 | (simp only [Int.reduceToNat] at ho5; rw [← Ny171.out] at ho5)); have n0_ := Aside0.mk (Kd.R_lower ho5 (below_size (by repeat (first | (with_reducible first | exact HB.out | apply below_alloc | apply pw_below_drewN | apply below_drew1 | refine below_set ?_ GE170.out) | exact HB.out)))); have n1_ := Aside0.mk (blk_below (g := gb170) (o := .cells #[.int .u8 a0_0, .int .u8 a0_1, .int .u8 a0_2, .int .u8 a0_3, .int .u8 a0_4] 25 (0, 0)) (by (with_reducible repeat (first | refine blk_drewN ?_ _ | refine blk_drew ?_ | refine blk_alloc ?_ _)); exact BK170.out) hb); have n2_ := Aside0.mk (below_step (by repeat (first | (with_reducible first | exact HB.out | apply below_alloc | apply pw_below_drewN | apply below_drew1 | refine below_set ?_ GE170.out) | exact HB.out)) hb); clear BK170; clear HB; have HO173 := n0_; have BK170 := n1_; have HB := n2_; clear n0_ n1_ n2_; clear hb ho5))
 go_ret
 exact ⟨_, by first | rfl | (simp [errW_none, errW_some] <;> rfl) | (simp [*, errW_none, errW_some] <;> rfl), by (with_reducible repeat (first | apply Kd.R_alloc | apply Kd.R_drewN | apply Kd.R_drew)); exact HO173.out, by repeat (first | (with_reducible first | exact HB.out | apply below_alloc | apply pw_below_drewN | apply below_drew1 | refine below_set ?_ GE170.out) | exact HB.out)⟩

/-! ### lamplighterref06_sign: function 62 -/
def lamplighterref06_sign.f (a0 : Int) : Option (Bool) := if a0 ≥ 33 then (if a0 ≤ 126 then (if a0 ≥ 65 then (if a0 ≤ 90 then (some false) else (if a0 ≥ 97 then (if a0 ≤ 122 then (some false) else (if a0 ≥ 48 then (some (!(decide (a0 ≤ 57)))) else (some (!false)))) else (if a0 ≥ 48 then (some (!(decide (a0 ≤ 57)))) else (some (!false))))) else (if a0 ≥ 97 then (if a0 ≤ 122 then (some false) else (if a0 ≥ 48 then (some (!(decide (a0 ≤ 57)))) else (some (!false)))) else (if a0 ≥ 48 then (some (!(decide (a0 ≤ 57)))) else (some (!false))))) else (some false)) else (some false)
set_option maxHeartbeats 8000000 in
set_option maxRecDepth 100000 in
theorem lamplighterref06_sign.calls (a0 : Int) (r : Bool) (w : World) (h : lamplighterref06_sign.f a0 = some r) :
  Calls Tryd.prog 62 #[.int .u8 a0] w fun e w' => e = .returned (.bool r) ∧ Drawn0 w w' := by
 have H : (if a0 ≥ 33 then (if a0 ≤ 126 then (if a0 ≥ 65 then (if a0 ≤ 90 then (some false) else (if a0 ≥ 97 then (if a0 ≤ 122 then (some false) else (if a0 ≥ 48 then (some (!(decide (a0 ≤ 57)))) else (some (!false)))) else (if a0 ≥ 48 then (some (!(decide (a0 ≤ 57)))) else (some (!false))))) else (if a0 ≥ 97 then (if a0 ≤ 122 then (some false) else (if a0 ≥ 48 then (some (!(decide (a0 ≤ 57)))) else (some (!false)))) else (if a0 ≥ 48 then (some (!(decide (a0 ≤ 57)))) else (some (!false))))) else (some false)) else (some false)) = some r := h
 clear h
 by_cases c2 : a0 ≥ 33
 ·rw [if_pos c2] at H
  have c2b0 : decide (33 ≤ a0) = true := decide_eq_true c2
  clear c2
  by_cases c3 : a0 ≤ 126
  ·rw [if_pos c3] at H
   have c3b0 : decide (a0 ≤ 126) = true := decide_eq_true c3
   clear c3
   by_cases c4 : a0 ≥ 65
   ·rw [if_pos c4] at H
    have c4b0 : decide (65 ≤ a0) = true := decide_eq_true c4
    clear c4
    by_cases c5 : a0 ≤ 90
    ·rw [if_pos c5] at H
     have c5b0 : decide (a0 ≤ 90) = true := decide_eq_true c5
     clear c5
     obtain rfl := Option.some.inj H
     go_enter Tryd.func62, Tryd.ntmps62
     go_wp2
     go_ret
     exact ⟨by first | rfl | (simp; done) | (simp [*]; done), by repeat (first | exact Drawn0.refl _ | apply Drawn0.step)⟩
    ·rw [if_neg c5] at H
     have c5b0 : decide (a0 ≤ 90) = false := decide_eq_false c5
     clear c5
     by_cases c6 : a0 ≥ 97
     ·rw [if_pos c6] at H
      have c6b0 : decide (97 ≤ a0) = true := decide_eq_true c6
      clear c6
      by_cases c7 : a0 ≤ 122
      ·rw [if_pos c7] at H
       have c7b0 : decide (a0 ≤ 122) = true := decide_eq_true c7
       clear c7
       obtain rfl := Option.some.inj H
       go_enter Tryd.func62, Tryd.ntmps62
       go_wp2
       go_ret
       exact ⟨by first | rfl | (simp; done) | (simp [*]; done), by repeat (first | exact Drawn0.refl _ | apply Drawn0.step)⟩
      ·rw [if_neg c7] at H
       have c7b0 : decide (a0 ≤ 122) = false := decide_eq_false c7
       clear c7
       by_cases c8 : a0 ≥ 48
       ·rw [if_pos c8] at H
        have c8b0 : decide (48 ≤ a0) = true := decide_eq_true c8
        clear c8
        obtain rfl := Option.some.inj H
        go_enter Tryd.func62, Tryd.ntmps62
        go_wp2
        go_ret
        exact ⟨by first | rfl | (simp; done) | (simp [*]; done), by repeat (first | exact Drawn0.refl _ | apply Drawn0.step)⟩
       ·rw [if_neg c8] at H
        have c8b0 : decide (48 ≤ a0) = false := decide_eq_false c8
        clear c8
        obtain rfl := Option.some.inj H
        go_enter Tryd.func62, Tryd.ntmps62
        go_wp2
        go_ret
        exact ⟨by first | rfl | (simp; done) | (simp [*]; done), by repeat (first | exact Drawn0.refl _ | apply Drawn0.step)⟩
     ·rw [if_neg c6] at H
      have c6b0 : decide (97 ≤ a0) = false := decide_eq_false c6
      clear c6
      by_cases c9 : a0 ≥ 48
      ·rw [if_pos c9] at H
       have c9b0 : decide (48 ≤ a0) = true := decide_eq_true c9
       clear c9
       obtain rfl := Option.some.inj H
       go_enter Tryd.func62, Tryd.ntmps62
       go_wp2
       go_ret
       exact ⟨by first | rfl | (simp; done) | (simp [*]; done), by repeat (first | exact Drawn0.refl _ | apply Drawn0.step)⟩
      ·rw [if_neg c9] at H
       have c9b0 : decide (48 ≤ a0) = false := decide_eq_false c9
       clear c9
       obtain rfl := Option.some.inj H
       go_enter Tryd.func62, Tryd.ntmps62
       go_wp2
       go_ret
       exact ⟨by first | rfl | (simp; done) | (simp [*]; done), by repeat (first | exact Drawn0.refl _ | apply Drawn0.step)⟩
   ·rw [if_neg c4] at H
    have c4b0 : decide (65 ≤ a0) = false := decide_eq_false c4
    clear c4
    by_cases c10 : a0 ≥ 97
    ·rw [if_pos c10] at H
     have c10b0 : decide (97 ≤ a0) = true := decide_eq_true c10
     clear c10
     by_cases c11 : a0 ≤ 122
     ·rw [if_pos c11] at H
      have c11b0 : decide (a0 ≤ 122) = true := decide_eq_true c11
      clear c11
      obtain rfl := Option.some.inj H
      go_enter Tryd.func62, Tryd.ntmps62
      go_wp2
      go_ret
      exact ⟨by first | rfl | (simp; done) | (simp [*]; done), by repeat (first | exact Drawn0.refl _ | apply Drawn0.step)⟩
     ·rw [if_neg c11] at H
      have c11b0 : decide (a0 ≤ 122) = false := decide_eq_false c11
      clear c11
      by_cases c12 : a0 ≥ 48
      ·rw [if_pos c12] at H
       have c12b0 : decide (48 ≤ a0) = true := decide_eq_true c12
       clear c12
       obtain rfl := Option.some.inj H
       go_enter Tryd.func62, Tryd.ntmps62
       go_wp2
       go_ret
       exact ⟨by first | rfl | (simp; done) | (simp [*]; done), by repeat (first | exact Drawn0.refl _ | apply Drawn0.step)⟩
      ·rw [if_neg c12] at H
       have c12b0 : decide (48 ≤ a0) = false := decide_eq_false c12
       clear c12
       obtain rfl := Option.some.inj H
       go_enter Tryd.func62, Tryd.ntmps62
       go_wp2
       go_ret
       exact ⟨by first | rfl | (simp; done) | (simp [*]; done), by repeat (first | exact Drawn0.refl _ | apply Drawn0.step)⟩
    ·rw [if_neg c10] at H
     have c10b0 : decide (97 ≤ a0) = false := decide_eq_false c10
     clear c10
     by_cases c13 : a0 ≥ 48
     ·rw [if_pos c13] at H
      have c13b0 : decide (48 ≤ a0) = true := decide_eq_true c13
      clear c13
      obtain rfl := Option.some.inj H
      go_enter Tryd.func62, Tryd.ntmps62
      go_wp2
      go_ret
      exact ⟨by first | rfl | (simp; done) | (simp [*]; done), by repeat (first | exact Drawn0.refl _ | apply Drawn0.step)⟩
     ·rw [if_neg c13] at H
      have c13b0 : decide (48 ≤ a0) = false := decide_eq_false c13
      clear c13
      obtain rfl := Option.some.inj H
      go_enter Tryd.func62, Tryd.ntmps62
      go_wp2
      go_ret
      exact ⟨by first | rfl | (simp; done) | (simp [*]; done), by repeat (first | exact Drawn0.refl _ | apply Drawn0.step)⟩
  ·rw [if_neg c3] at H
   have c3b0 : decide (a0 ≤ 126) = false := decide_eq_false c3
   clear c3
   obtain rfl := Option.some.inj H
   go_enter Tryd.func62, Tryd.ntmps62
   go_wp2
   go_ret
   exact ⟨by first | rfl | (simp; done) | (simp [*]; done), by repeat (first | exact Drawn0.refl _ | apply Drawn0.step)⟩
 ·rw [if_neg c2] at H
  have c2b0 : decide (33 ≤ a0) = false := decide_eq_false c2
  clear c2
  obtain rfl := Option.some.inj H
  go_enter Tryd.func62, Tryd.ntmps62
  go_wp2
  go_ret
  exact ⟨by first | rfl | (simp; done) | (simp [*]; done), by repeat (first | exact Drawn0.refl _ | apply Drawn0.step)⟩

end Go.Proofs.YtbkalgkjkcfplaaDoor.PM
