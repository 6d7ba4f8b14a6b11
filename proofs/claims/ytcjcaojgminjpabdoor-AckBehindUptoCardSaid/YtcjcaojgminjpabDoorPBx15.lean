-- Written by a program of this work (the kit's print, with contracts of this work's own taken in) out of the translation. Not trusted: Lean checks it.
import Derived.Test.YtcjcaojgminjpabDoorPBx0
import Derived.Test.YtcjcaojgminjpabDoorPBx5
import Derived.Test.YtcjcaojgminjpabDoorPBx6
import Derived.Test.YtcjcaojgminjpabDoorPBx9
namespace Go.Proofs.YtcjcaojgminjpabDoor.PB
open Go.RowKit Go.Proofs.YtcjcaojgminjpabDoorW.PrintWords Go.Proofs.YtcjcaojgminjpabDoorW.PrintLast Go.Proofs.YtcjcaojgminjpabDoorW.PrintMore
set_option maxHeartbeats 8000000
set_option maxRecDepth 100000
attribute [local go_sem] max2_int min2_int max_two min_two max_three min_three max_four min_four   -- for this text's walks alone
set_option linter.unusedVariables false
set_option linter.unusedSimpArgs false

/-! ### ack_Read: function 19 -/
def ack_Read.j0 : Nat → List ByteArray → Bool → Int → Int → Int → Int → Int → ByteArray → ByteArray → ByteArray → ByteArray → ByteArray → ByteArray → ByteArray → ByteArray → ByteArray → ByteArray → Option (ByteArray × ByteArray × Int)
 | 0, _, _, _, _, _, _, _, _, _, _, _, _, _, _, _, _, _ => none
 | k + 1, x6, x28, x288000, x288001, x288002, x288003, x288004, x288005, x288006, x288007, x288008, x288009, x288010, x288011, x288012, x288013, x288014 => if x28 = true then (some ((⟨#[]⟩ : ByteArray), (⟨#[]⟩ : ByteArray), 10)) else (if 1 < (x6.length : Int) then ((segment_Field.f (rdOf ByteArray.empty x6 1) 1 x288000 x288001 x288002 x288003 x288004).bind fun bt295 => ((segment_Field.f (rdOf ByteArray.empty x6 1) 2 x288000 x288001 x288002 x288003 x288004).bind fun bt298 => ((ack_Known.f k bt295.1).bind fun t300 => (if t300 = true then (some (bt295.1, bt298.1, 0)) else (some ((⟨#[]⟩ : ByteArray), (⟨#[]⟩ : ByteArray), 17)))))) else (none))
def ack_Read.f (k : Nat) (l0 : List Int) : Option (ByteArray × ByteArray × Int) := (msh_Read.f k l0).bind fun bt271 => (if bt271.2.2.2.2.2.2.2.2.2.2.2.2.2.2.2 = 0 then ((segment_Split.f l0).bind fun t288 => (if (t288.length : Int) < 2 then (ack_Read.j0 k t288 true bt271.1 bt271.2.1 bt271.2.2.1 bt271.2.2.2.1 bt271.2.2.2.2.1 bt271.2.2.2.2.2.1 bt271.2.2.2.2.2.2.1 bt271.2.2.2.2.2.2.2.1 bt271.2.2.2.2.2.2.2.2.1 bt271.2.2.2.2.2.2.2.2.2.1 bt271.2.2.2.2.2.2.2.2.2.2.1 bt271.2.2.2.2.2.2.2.2.2.2.2.1 bt271.2.2.2.2.2.2.2.2.2.2.2.2.1 bt271.2.2.2.2.2.2.2.2.2.2.2.2.2.1 bt271.2.2.2.2.2.2.2.2.2.2.2.2.2.2.1) else (if 1 < (t288.length : Int) then ((segment_Name.f (rdOf ByteArray.empty t288 1)).bind fun t292 => (ack_Read.j0 k t288 (t292.toList != ([77, 83, 65] : List UInt8)) bt271.1 bt271.2.1 bt271.2.2.1 bt271.2.2.2.1 bt271.2.2.2.2.1 bt271.2.2.2.2.2.1 bt271.2.2.2.2.2.2.1 bt271.2.2.2.2.2.2.2.1 bt271.2.2.2.2.2.2.2.2.1 bt271.2.2.2.2.2.2.2.2.2.1 bt271.2.2.2.2.2.2.2.2.2.2.1 bt271.2.2.2.2.2.2.2.2.2.2.2.1 bt271.2.2.2.2.2.2.2.2.2.2.2.2.1 bt271.2.2.2.2.2.2.2.2.2.2.2.2.2.1 bt271.2.2.2.2.2.2.2.2.2.2.2.2.2.2.1)) else (none)))) else (some ((⟨#[]⟩ : ByteArray), (⟨#[]⟩ : ByteArray), bt271.2.2.2.2.2.2.2.2.2.2.2.2.2.2.2)))
theorem ack_Read.mono_l : ∀ k, (∀ y0 y1 y2 y3 y4 y5 y6 y7 y8 y9 y10 y11 y12 y13 y14 y15 y16, LeO (ack_Read.j0 k y0 y1 y2 y3 y4 y5 y6 y7 y8 y9 y10 y11 y12 y13 y14 y15 y16) (ack_Read.j0 (k + 1) y0 y1 y2 y3 y4 y5 y6 y7 y8 y9 y10 y11 y12 y13 y14 y15 y16))
 | 0 => fun _ _ _ _ _ _ _ _ _ _ _ _ _ _ _ _ _ r h => by simp [ack_Read.j0] at h
 | k + 1 => by
  have ih0 := ack_Read.mono_l k
  ·intro y0 y1 y2 y3 y4 y5 y6 y7 y8 y9 y10 y11 y12 y13 y14 y15 y16
   unfold ack_Read.j0
   repeat' first
   | (with_reducible exact ih0 _ _ _ _ _ _ _ _ _ _ _ _ _ _ _ _ _)
   | (with_reducible exact ack_Known.mono _ _)
   | (with_reducible exact msh_Read.mono _ _)
   | (with_reducible exact LeO.refl _)
   | (with_reducible exact LeO.none _)
   | (with_reducible refine LeO.ite ?_ ?_)
   | (with_reducible refine LeO.bind ?_ (fun _ => ?_))
   | exact ih0 _ _ _ _ _ _ _ _ _ _ _ _ _ _ _ _ _
   | exact ack_Known.mono _ _
   | exact msh_Read.mono _ _
   | exact LeO.none _
   | refine LeO.ite ?_ ?_
   | refine LeO.bind ?_ (fun _ => ?_)
theorem ack_Read.mono : ∀ a0 k, LeO (ack_Read.f k a0) (ack_Read.f (k + 1) a0) := by
 intro a0 k
 have ih0 := ack_Read.mono_l k
 unfold ack_Read.f
 repeat' first
   | (with_reducible exact ih0 _ _ _ _ _ _ _ _ _ _ _ _ _ _ _ _ _)
   | (with_reducible exact ack_Known.mono _ _)
   | (with_reducible exact msh_Read.mono _ _)
   | (with_reducible exact LeO.refl _)
   | (with_reducible exact LeO.none _)
   | (with_reducible refine LeO.ite ?_ ?_)
   | (with_reducible refine LeO.bind ?_ (fun _ => ?_))
   | exact ih0 _ _ _ _ _ _ _ _ _ _ _ _ _ _ _ _ _
   | exact ack_Known.mono _ _
   | exact msh_Read.mono _ _
   | exact LeO.none _
   | refine LeO.ite ?_ ?_
   | refine LeO.bind ?_ (fun _ => ?_)
def ack_Read.T8 : Bool × List (List Nat × List Nat) := (true, [([], []), ([0], [0]), ([1], [1]), ([], []), ([3], [3]), ([2, 4], [2, 4]), ([5], [5]), ([6], [6]), ([6], [6]), ([0, 1, 2, 3, 4, 5, 6, 7], []), ([9, 7, 5, 0, 1, 2, 3, 4, 5, 6, 7], [7, 9])])
def ack_Read.B8 : List Nat := [0, 1, 3, 0, 8, 31, 63, 127, 127, 255, 767]
theorem ack_Read.tab8 : rtab .any (opsOf Tryd.f19 8) = ack_Read.T8 := by kernel_rfl
theorem ack_Read.bits8 : waitsOk ack_Read.T8.2 ack_Read.B8 = true := by kernel_rfl
def ack_Read.T9 : Bool × List (List Nat × List Nat) := (true, [([], []), ([0], [0]), ([1], [1]), ([], []), ([3], [3]), ([2, 4], [2, 4]), ([5], [5]), ([6], [6]), ([6], [6]), ([0, 1, 2, 3, 4, 5, 6, 7], []), ([9, 7, 5, 0, 1, 2, 3, 4, 5, 6, 7], [7, 9])])
def ack_Read.B9 : List Nat := [0, 1, 3, 0, 8, 31, 63, 127, 127, 255, 767]
theorem ack_Read.tab9 : rtab .any (opsOf Tryd.f19 9) = ack_Read.T9 := by kernel_rfl
theorem ack_Read.bits9 : waitsOk ack_Read.T9.2 ack_Read.B9 = true := by kernel_rfl
theorem ack_Read.calls (k : Nat) (A0 : Option Addr) (c0 : Nat) (l0 : List Int) (r1 : ByteArray) (r2 : ByteArray) (r3 : Int) (w : World) (hr0 : Kd.C (Kd.int .u8) w A0 l0.length l0) (hc0 : l0.length ≤ c0) (h : ack_Read.f k l0 = some (r1, r2, r3)) (hGC : GlobC w) :
  Calls Tryd.prog 19 #[.slice A0 l0.length c0] w fun e w' => e = .returned (.tuple #[.agg #[.string r1, .string r2], .int .i64 r3]) ∧ Below w.heap.size w w' := by
 have HGLOC := Lib.hid hGC
 clear hGC
 have hu45 := Tryd.underlying45
 have hu25 := Tryd.underlying25
 have hu23 := Tryd.underlying23
 have HR0 := Aside0.mk hr0
 have HC0 := Aside0.mk hc0
 clear hr0 hc0
 have HB := Aside0.mk (Below.refl w.heap.size w)
 have H : ((msh_Read.f k l0).bind fun bt271 => (if bt271.2.2.2.2.2.2.2.2.2.2.2.2.2.2.2 = 0 then ((segment_Split.f l0).bind fun t288 => (if (t288.length : Int) < 2 then (ack_Read.j0 k t288 true bt271.1 bt271.2.1 bt271.2.2.1 bt271.2.2.2.1 bt271.2.2.2.2.1 bt271.2.2.2.2.2.1 bt271.2.2.2.2.2.2.1 bt271.2.2.2.2.2.2.2.1 bt271.2.2.2.2.2.2.2.2.1 bt271.2.2.2.2.2.2.2.2.2.1 bt271.2.2.2.2.2.2.2.2.2.2.1 bt271.2.2.2.2.2.2.2.2.2.2.2.1 bt271.2.2.2.2.2.2.2.2.2.2.2.2.1 bt271.2.2.2.2.2.2.2.2.2.2.2.2.2.1 bt271.2.2.2.2.2.2.2.2.2.2.2.2.2.2.1) else (if 1 < (t288.length : Int) then ((segment_Name.f (rdOf ByteArray.empty t288 1)).bind fun t292 => (ack_Read.j0 k t288 (t292.toList != ([77, 83, 65] : List UInt8)) bt271.1 bt271.2.1 bt271.2.2.1 bt271.2.2.2.1 bt271.2.2.2.2.1 bt271.2.2.2.2.2.1 bt271.2.2.2.2.2.2.1 bt271.2.2.2.2.2.2.2.1 bt271.2.2.2.2.2.2.2.2.1 bt271.2.2.2.2.2.2.2.2.2.1 bt271.2.2.2.2.2.2.2.2.2.2.1 bt271.2.2.2.2.2.2.2.2.2.2.2.1 bt271.2.2.2.2.2.2.2.2.2.2.2.2.1 bt271.2.2.2.2.2.2.2.2.2.2.2.2.2.1 bt271.2.2.2.2.2.2.2.2.2.2.2.2.2.2.1)) else (none)))) else (some ((⟨#[]⟩ : ByteArray), (⟨#[]⟩ : ByteArray), bt271.2.2.2.2.2.2.2.2.2.2.2.2.2.2.2)))) = some (r1, r2, r3) := h
 clear h
 replace H := Option.bind_eq_some_iff.mp H
 obtain ⟨⟨t271, t272, t273, t274, t275, t276, t277, t278, t279, t280, t281, t282, t283, t284, t285, t286⟩, A20, H⟩ := H
 replace H : (if t286 = 0 then ((segment_Split.f l0).bind fun t288 => (if (t288.length : Int) < 2 then (ack_Read.j0 k t288 true t271 t272 t273 t274 t275 t276 t277 t278 t279 t280 t281 t282 t283 t284 t285) else (if 1 < (t288.length : Int) then ((segment_Name.f (rdOf ByteArray.empty t288 1)).bind fun t292 => (ack_Read.j0 k t288 (t292.toList != ([77, 83, 65] : List UInt8)) t271 t272 t273 t274 t275 t276 t277 t278 t279 t280 t281 t282 t283 t284 t285)) else (none)))) else (some ((⟨#[]⟩ : ByteArray), (⟨#[]⟩ : ByteArray), t286))) = some (r1, r2, r3) := H
 have A2 := Aside0.mk A20
 clear A20
 by_cases c3 : t286 = 0
 ·rw [if_pos c3] at H
  have c3b0 : (t286 == 0) = true := beq_iff_eq.mpr c3
  have c3b1 : (t286 != 0) = false := bne_eq_false_iff_eq.mpr c3
  clear c3
  replace H := Option.bind_eq_some_iff.mp H
  obtain ⟨t288, A40, H⟩ := H
  replace H : (if (t288.length : Int) < 2 then (ack_Read.j0 k t288 true t271 t272 t273 t274 t275 t276 t277 t278 t279 t280 t281 t282 t283 t284 t285) else (if 1 < (t288.length : Int) then ((segment_Name.f (rdOf ByteArray.empty t288 1)).bind fun t292 => (ack_Read.j0 k t288 (t292.toList != ([77, 83, 65] : List UInt8)) t271 t272 t273 t274 t275 t276 t277 t278 t279 t280 t281 t282 t283 t284 t285)) else (none))) = some (r1, r2, r3) := H
  have A4 := Aside0.mk A40
  clear A40
  have HC5 := Aside0.mk H
  clear H
  go_enter Tryd.func19, Tryd.ntmps19
  go_upto_region 5 with (first | ((with_reducible refine gate_dst (N := 2) rfl ?_); refine box_event ?hg (N := 2) ?hd (cs := #[.string (⟨#[]⟩ : ByteArray), .string (⟨#[]⟩ : ByteArray)]) (t := 45) ?hr ?_; (case hd => rfl); (case hg => rfl); (case hr => first | (go_simp; done) | (go_simp; rfl)); intro gb270 hg w6 hbox hb; have n0_ := Aside0.mk (below_step (by repeat (first | (with_reducible first | exact HB.out | apply bA | apply bN | apply bD) | exact HB.out)) hb); have n1_ := Aside0.mk (hbox); have n2_ := Aside0.mk ((by rw [hg]; exact (below_size (by repeat (first | (with_reducible first | exact HB.out | apply bA | apply bN | apply bD) | exact HB.out))) : w.heap.size ≤ gb270)); have n3_ := Aside0.mk ((by rw [hg]; exact (below_size (by repeat (first | (with_reducible first | exact HB.out | apply bA | apply bN | apply bD) | exact HB.out))) : w.heap.size ≤ gb270)); clear HB; have HB := n0_; have BK270 := n1_; have GW270 := n2_; have GE270 := n3_; clear n0_ n1_ n2_ n3_; clear hb hbox hg) | ((with_reducible refine gate_callee (f := 12) rfl ?_); refine goesL_ (some 10) rfl rfl Tryd.func12 (by kernel_rfl) rfl #[.slice A0 l0.length c0] rfl (by (try simp only [List.map_toArray, List.map_cons, List.map_nil]); first | done | rfl | (simp only [List.length_drop, List.length_take]; rfl)) ?_; (with_reducible refine (msh_Read.calls k _ _ l0 t271 t272 t273 t274 t275 t276 t277 t278 t279 t280 t281 t282 t283 t284 t285 t286 _ ?side1 ?side2 A2.out).mono ?_); (case side1 => repeat (first | exact (Kd.C_below HR0.out HB.out) | (with_reducible refine Kd.C_alloc ?_ _) | (with_reducible refine Kd.C_drewN ?_ _) | (with_reducible refine Kd.C_drew ?_))); (case side2 => exact HC0.out); rintro e w7 ⟨rfl, hb⟩; refine ⟨_, rfl, ?_⟩; have n0_ := Aside0.mk (blk_below (g := gb270) (o := .cells #[.string (⟨#[]⟩ : ByteArray), .string (⟨#[]⟩ : ByteArray)] 45 (0, 0)) (by (with_reducible repeat (first | refine kN ?_ _ | refine kD ?_ | refine kA ?_ _)); exact BK270.out) hb); have n1_ := Aside0.mk (below_step (by repeat (first | (with_reducible first | exact HB.out | apply bA | apply bN | apply bD | refine below_set ?_ GE270.out) | exact HB.out)) hb); clear BK270; clear HB; have BK270 := n0_; have HB := n1_; clear n0_ n1_; (try clear hb)) | ((with_reducible refine gate_dst (N := 4) rfl ?_); refine box_event ?hg (N := 4) ?hd (cs := #[.int .u8 0, .int .u8 0, .int .u8 0, .int .u8 0, .int .u8 0, .string (⟨#[]⟩ : ByteArray), .string (⟨#[]⟩ : ByteArray), .string (⟨#[]⟩ : ByteArray), .string (⟨#[]⟩ : ByteArray), .string (⟨#[]⟩ : ByteArray), .string (⟨#[]⟩ : ByteArray), .string (⟨#[]⟩ : ByteArray), .string (⟨#[]⟩ : ByteArray), .string (⟨#[]⟩ : ByteArray), .string (⟨#[]⟩ : ByteArray)]) (t := 25) ?hr ?_; (case hd => rfl); (case hg => rfl); (case hr => first | (go_simp; done) | (go_simp; rfl)); intro gb287 hg w8 hbox hb; have n0_ := Aside0.mk (blk_below (g := gb270) (o := .cells #[.string (⟨#[]⟩ : ByteArray), .string (⟨#[]⟩ : ByteArray)] 45 (0, 0)) (by (with_reducible repeat (first | refine kN ?_ _ | refine kD ?_ | refine kA ?_ _)); exact BK270.out) hb); have n1_ := Aside0.mk (below_step (by repeat (first | (with_reducible first | exact HB.out | apply bA | apply bN | apply bD | refine below_set ?_ GE270.out) | exact HB.out)) hb); have n2_ := Aside0.mk (hbox); have n3_ := Aside0.mk ((by rw [hg]; exact (below_size (by repeat (first | (with_reducible first | exact HB.out | apply bA | apply bN | apply bD | refine below_set ?_ GE270.out) | exact HB.out))) : w.heap.size ≤ gb287)); have n4_ := Aside0.mk ((by rw [hg]; exact (below_size (by repeat (first | (with_reducible first | exact HB.out | apply bA | apply bN | apply bD | refine below_set ?_ GE270.out) | exact HB.out))) : w.heap.size ≤ gb287)); have n5_ := Aside0.mk ((by rw [hg]; exact Nat.ne_of_lt (blk_lt (g := gb270) (o := .cells #[.string (⟨#[]⟩ : ByteArray), .string (⟨#[]⟩ : ByteArray)] 45 (0, 0)) (by (with_reducible repeat (first | refine kN ?_ _ | refine kD ?_ | refine kA ?_ _)); exact BK270.out)) : gb270 ≠ gb287)); have n6_ := Aside0.mk ((by rw [hg]; exact Nat.ne_of_gt (blk_lt (g := gb270) (o := .cells #[.string (⟨#[]⟩ : ByteArray), .string (⟨#[]⟩ : ByteArray)] 45 (0, 0)) (by (with_reducible repeat (first | refine kN ?_ _ | refine kD ?_ | refine kA ?_ _)); exact BK270.out)) : gb287 ≠ gb270)); clear BK270; clear HB; have BK270 := n0_; have HB := n1_; have BK287 := n2_; have GW287 := n3_; have GE287 := n4_; have NB270_287 := n5_; have NB287_270 := n6_; clear n0_ n1_ n2_ n3_ n4_ n5_ n6_; clear hb hbox hg; have hnb9 := NB287_270.out; have hnc9 := NB270_287.out; have hcz10_0 : w8.cell? ⟨gb287, 0, none⟩ = some (.int .u8 0) := blk_cell BK287.out 0; have hcz10_1 : w8.cell? ⟨gb287, 1, none⟩ = some (.int .u8 0) := blk_cell BK287.out 1; have hcz10_2 : w8.cell? ⟨gb287, 2, none⟩ = some (.int .u8 0) := blk_cell BK287.out 2; have hcz10_3 : w8.cell? ⟨gb287, 3, none⟩ = some (.int .u8 0) := blk_cell BK287.out 3; have hcz10_4 : w8.cell? ⟨gb287, 4, none⟩ = some (.int .u8 0) := blk_cell BK287.out 4; have hcz10_5 : w8.cell? ⟨gb287, 5, none⟩ = some (.string (⟨#[]⟩ : ByteArray)) := blk_cell BK287.out 5; have hcz10_6 : w8.cell? ⟨gb287, 6, none⟩ = some (.string (⟨#[]⟩ : ByteArray)) := blk_cell BK287.out 6; have hcz10_7 : w8.cell? ⟨gb287, 7, none⟩ = some (.string (⟨#[]⟩ : ByteArray)) := blk_cell BK287.out 7; have hcz10_8 : w8.cell? ⟨gb287, 8, none⟩ = some (.string (⟨#[]⟩ : ByteArray)) := blk_cell BK287.out 8; have hcz10_9 : w8.cell? ⟨gb287, 9, none⟩ = some (.string (⟨#[]⟩ : ByteArray)) := blk_cell BK287.out 9; have hcz10_10 : w8.cell? ⟨gb287, 10, none⟩ = some (.string (⟨#[]⟩ : ByteArray)) := blk_cell BK287.out 10; have hcz10_11 : w8.cell? ⟨gb287, 11, none⟩ = some (.string (⟨#[]⟩ : ByteArray)) := blk_cell BK287.out 11; have hcz10_12 : w8.cell? ⟨gb287, 12, none⟩ = some (.string (⟨#[]⟩ : ByteArray)) := blk_cell BK287.out 12; have hcz10_13 : w8.cell? ⟨gb287, 13, none⟩ = some (.string (⟨#[]⟩ : ByteArray)) := blk_cell BK287.out 13; have hcz10_14 : w8.cell? ⟨gb287, 14, none⟩ = some (.string (⟨#[]⟩ : ByteArray)) := blk_cell BK287.out 14; have hfz10_0 := blk_frozen BK287.out 0; have hfz10_1 := blk_frozen BK287.out 1; have hfz10_2 := blk_frozen BK287.out 2; have hfz10_3 := blk_frozen BK287.out 3; have hfz10_4 := blk_frozen BK287.out 4; have hfz10_5 := blk_frozen BK287.out 5; have hfz10_6 := blk_frozen BK287.out 6; have hfz10_7 := blk_frozen BK287.out 7; have hfz10_8 := blk_frozen BK287.out 8; have hfz10_9 := blk_frozen BK287.out 9; have hfz10_10 := blk_frozen BK287.out 10; have hfz10_11 := blk_frozen BK287.out 11; have hfz10_12 := blk_frozen BK287.out 12; have hfz10_13 := blk_frozen BK287.out 13; have hfz10_14 := blk_frozen BK287.out 14) | ((with_reducible refine gate_callee (f := 31) rfl ?_); refine goesL_ (some 18) rfl rfl Tryd.func31 (by kernel_rfl) rfl #[.slice A0 l0.length c0] rfl (by (try simp only [List.map_toArray, List.map_cons, List.map_nil]); first | done | rfl | (simp only [List.length_drop, List.length_take]; rfl)) ?_; (with_reducible refine (segment_Split.calls _ _ l0 t288 _ ?side1 ?side2 A4.out).mono ?_); (case side1 => exact Kd.C_below HR0.out (by repeat (first | (with_reducible first | exact HB.out | apply bA | apply bN | apply bD | refine below_set ?_ GE270.out | refine below_set ?_ GE287.out) | exact HB.out))); (case side2 => exact HC0.out); rintro e w11 ⟨v289, rfl, ho0, hb⟩; refine ⟨_, rfl, ?_⟩; have n0_ := Aside0.mk (Kd.R_lower ho0 (below_size (by repeat (first | (with_reducible first | exact HB.out | apply bA | apply bN | apply bD | refine below_set ?_ GE270.out | refine below_set ?_ GE287.out) | exact HB.out)))); have n1_ := Aside0.mk (blk_below (g := gb270) (o := .cells #[.string (⟨#[]⟩ : ByteArray), .string (⟨#[]⟩ : ByteArray)] 45 (0, 0)) (by (with_reducible repeat (first | refine kN ?_ _ | refine kD ?_ | refine kA ?_ _)); refine blk_far ?_ NB270_287.out _; (with_reducible repeat (first | refine kN ?_ _ | refine kD ?_ | refine kA ?_ _)); refine blk_far ?_ NB270_287.out _; (with_reducible repeat (first | refine kN ?_ _ | refine kD ?_ | refine kA ?_ _)); refine blk_far ?_ NB270_287.out _; (with_reducible repeat (first | refine kN ?_ _ | refine kD ?_ | refine kA ?_ _)); refine blk_far ?_ NB270_287.out _; (with_reducible repeat (first | refine kN ?_ _ | refine kD ?_ | refine kA ?_ _)); refine blk_far ?_ NB270_287.out _; (with_reducible repeat (first | refine kN ?_ _ | refine kD ?_ | refine kA ?_ _)); refine blk_far ?_ NB270_287.out _; (with_reducible repeat (first | refine kN ?_ _ | refine kD ?_ | refine kA ?_ _)); refine blk_far ?_ NB270_287.out _; (with_reducible repeat (first | refine kN ?_ _ | refine kD ?_ | refine kA ?_ _)); refine blk_far ?_ NB270_287.out _; (with_reducible repeat (first | refine kN ?_ _ | refine kD ?_ | refine kA ?_ _)); refine blk_far ?_ NB270_287.out _; (with_reducible repeat (first | refine kN ?_ _ | refine kD ?_ | refine kA ?_ _)); refine blk_far ?_ NB270_287.out _; (with_reducible repeat (first | refine kN ?_ _ | refine kD ?_ | refine kA ?_ _)); refine blk_far ?_ NB270_287.out _; (with_reducible repeat (first | refine kN ?_ _ | refine kD ?_ | refine kA ?_ _)); refine blk_far ?_ NB270_287.out _; (with_reducible repeat (first | refine kN ?_ _ | refine kD ?_ | refine kA ?_ _)); refine blk_far ?_ NB270_287.out _; (with_reducible repeat (first | refine kN ?_ _ | refine kD ?_ | refine kA ?_ _)); refine blk_far ?_ NB270_287.out _; (with_reducible repeat (first | refine kN ?_ _ | refine kD ?_ | refine kA ?_ _)); refine blk_far ?_ NB270_287.out _; (with_reducible repeat (first | refine kN ?_ _ | refine kD ?_ | refine kA ?_ _)); exact BK270.out) hb); have n2_ := Aside0.mk (blk_below (g := gb287) (o := .cells #[.int .u8 t271, .int .u8 t272, .int .u8 t273, .int .u8 t274, .int .u8 t275, .string t276, .string t277, .string t278, .string t279, .string t280, .string t281, .string t282, .string t283, .string t284, .string t285] 25 (0, 0)) (by (with_reducible repeat (first | refine kN ?_ _ | refine kD ?_ | refine kA ?_ _)); refine blk_put (cs := #[.int .u8 t271, .int .u8 t272, .int .u8 t273, .int .u8 t274, .int .u8 t275, .string t276, .string t277, .string t278, .string t279, .string t280, .string t281, .string t282, .string t283, .string t284, .string (⟨#[]⟩ : ByteArray)]) ?_ 14 _ rfl; (with_reducible repeat (first | refine kN ?_ _ | refine kD ?_ | refine kA ?_ _)); refine blk_put (cs := #[.int .u8 t271, .int .u8 t272, .int .u8 t273, .int .u8 t274, .int .u8 t275, .string t276, .string t277, .string t278, .string t279, .string t280, .string t281, .string t282, .string t283, .string (⟨#[]⟩ : ByteArray), .string (⟨#[]⟩ : ByteArray)]) ?_ 13 _ rfl; (with_reducible repeat (first | refine kN ?_ _ | refine kD ?_ | refine kA ?_ _)); refine blk_put (cs := #[.int .u8 t271, .int .u8 t272, .int .u8 t273, .int .u8 t274, .int .u8 t275, .string t276, .string t277, .string t278, .string t279, .string t280, .string t281, .string t282, .string (⟨#[]⟩ : ByteArray), .string (⟨#[]⟩ : ByteArray), .string (⟨#[]⟩ : ByteArray)]) ?_ 12 _ rfl; (with_reducible repeat (first | refine kN ?_ _ | refine kD ?_ | refine kA ?_ _)); refine blk_put (cs := #[.int .u8 t271, .int .u8 t272, .int .u8 t273, .int .u8 t274, .int .u8 t275, .string t276, .string t277, .string t278, .string t279, .string t280, .string t281, .string (⟨#[]⟩ : ByteArray), .string (⟨#[]⟩ : ByteArray), .string (⟨#[]⟩ : ByteArray), .string (⟨#[]⟩ : ByteArray)]) ?_ 11 _ rfl; (with_reducible repeat (first | refine kN ?_ _ | refine kD ?_ | refine kA ?_ _)); refine blk_put (cs := #[.int .u8 t271, .int .u8 t272, .int .u8 t273, .int .u8 t274, .int .u8 t275, .string t276, .string t277, .string t278, .string t279, .string t280, .string (⟨#[]⟩ : ByteArray), .string (⟨#[]⟩ : ByteArray), .string (⟨#[]⟩ : ByteArray), .string (⟨#[]⟩ : ByteArray), .string (⟨#[]⟩ : ByteArray)]) ?_ 10 _ rfl; (with_reducible repeat (first | refine kN ?_ _ | refine kD ?_ | refine kA ?_ _)); refine blk_put (cs := #[.int .u8 t271, .int .u8 t272, .int .u8 t273, .int .u8 t274, .int .u8 t275, .string t276, .string t277, .string t278, .string t279, .string (⟨#[]⟩ : ByteArray), .string (⟨#[]⟩ : ByteArray), .string (⟨#[]⟩ : ByteArray), .string (⟨#[]⟩ : ByteArray), .string (⟨#[]⟩ : ByteArray), .string (⟨#[]⟩ : ByteArray)]) ?_ 9 _ rfl; (with_reducible repeat (first | refine kN ?_ _ | refine kD ?_ | refine kA ?_ _)); refine blk_put (cs := #[.int .u8 t271, .int .u8 t272, .int .u8 t273, .int .u8 t274, .int .u8 t275, .string t276, .string t277, .string t278, .string (⟨#[]⟩ : ByteArray), .string (⟨#[]⟩ : ByteArray), .string (⟨#[]⟩ : ByteArray), .string (⟨#[]⟩ : ByteArray), .string (⟨#[]⟩ : ByteArray), .string (⟨#[]⟩ : ByteArray), .string (⟨#[]⟩ : ByteArray)]) ?_ 8 _ rfl; (with_reducible repeat (first | refine kN ?_ _ | refine kD ?_ | refine kA ?_ _)); refine blk_put (cs := #[.int .u8 t271, .int .u8 t272, .int .u8 t273, .int .u8 t274, .int .u8 t275, .string t276, .string t277, .string (⟨#[]⟩ : ByteArray), .string (⟨#[]⟩ : ByteArray), .string (⟨#[]⟩ : ByteArray), .string (⟨#[]⟩ : ByteArray), .string (⟨#[]⟩ : ByteArray), .string (⟨#[]⟩ : ByteArray), .string (⟨#[]⟩ : ByteArray), .string (⟨#[]⟩ : ByteArray)]) ?_ 7 _ rfl; (with_reducible repeat (first | refine kN ?_ _ | refine kD ?_ | refine kA ?_ _)); refine blk_put (cs := #[.int .u8 t271, .int .u8 t272, .int .u8 t273, .int .u8 t274, .int .u8 t275, .string t276, .string (⟨#[]⟩ : ByteArray), .string (⟨#[]⟩ : ByteArray), .string (⟨#[]⟩ : ByteArray), .string (⟨#[]⟩ : ByteArray), .string (⟨#[]⟩ : ByteArray), .string (⟨#[]⟩ : ByteArray), .string (⟨#[]⟩ : ByteArray), .string (⟨#[]⟩ : ByteArray), .string (⟨#[]⟩ : ByteArray)]) ?_ 6 _ rfl; (with_reducible repeat (first | refine kN ?_ _ | refine kD ?_ | refine kA ?_ _)); refine blk_put (cs := #[.int .u8 t271, .int .u8 t272, .int .u8 t273, .int .u8 t274, .int .u8 t275, .string (⟨#[]⟩ : ByteArray), .string (⟨#[]⟩ : ByteArray), .string (⟨#[]⟩ : ByteArray), .string (⟨#[]⟩ : ByteArray), .string (⟨#[]⟩ : ByteArray), .string (⟨#[]⟩ : ByteArray), .string (⟨#[]⟩ : ByteArray), .string (⟨#[]⟩ : ByteArray), .string (⟨#[]⟩ : ByteArray), .string (⟨#[]⟩ : ByteArray)]) ?_ 5 _ rfl; (with_reducible repeat (first | refine kN ?_ _ | refine kD ?_ | refine kA ?_ _)); refine blk_put (cs := #[.int .u8 t271, .int .u8 t272, .int .u8 t273, .int .u8 t274, .int .u8 0, .string (⟨#[]⟩ : ByteArray), .string (⟨#[]⟩ : ByteArray), .string (⟨#[]⟩ : ByteArray), .string (⟨#[]⟩ : ByteArray), .string (⟨#[]⟩ : ByteArray), .string (⟨#[]⟩ : ByteArray), .string (⟨#[]⟩ : ByteArray), .string (⟨#[]⟩ : ByteArray), .string (⟨#[]⟩ : ByteArray), .string (⟨#[]⟩ : ByteArray)]) ?_ 4 _ rfl; (with_reducible repeat (first | refine kN ?_ _ | refine kD ?_ | refine kA ?_ _)); refine blk_put (cs := #[.int .u8 t271, .int .u8 t272, .int .u8 t273, .int .u8 0, .int .u8 0, .string (⟨#[]⟩ : ByteArray), .string (⟨#[]⟩ : ByteArray), .string (⟨#[]⟩ : ByteArray), .string (⟨#[]⟩ : ByteArray), .string (⟨#[]⟩ : ByteArray), .string (⟨#[]⟩ : ByteArray), .string (⟨#[]⟩ : ByteArray), .string (⟨#[]⟩ : ByteArray), .string (⟨#[]⟩ : ByteArray), .string (⟨#[]⟩ : ByteArray)]) ?_ 3 _ rfl; (with_reducible repeat (first | refine kN ?_ _ | refine kD ?_ | refine kA ?_ _)); refine blk_put (cs := #[.int .u8 t271, .int .u8 t272, .int .u8 0, .int .u8 0, .int .u8 0, .string (⟨#[]⟩ : ByteArray), .string (⟨#[]⟩ : ByteArray), .string (⟨#[]⟩ : ByteArray), .string (⟨#[]⟩ : ByteArray), .string (⟨#[]⟩ : ByteArray), .string (⟨#[]⟩ : ByteArray), .string (⟨#[]⟩ : ByteArray), .string (⟨#[]⟩ : ByteArray), .string (⟨#[]⟩ : ByteArray), .string (⟨#[]⟩ : ByteArray)]) ?_ 2 _ rfl; (with_reducible repeat (first | refine kN ?_ _ | refine kD ?_ | refine kA ?_ _)); refine blk_put (cs := #[.int .u8 t271, .int .u8 0, .int .u8 0, .int .u8 0, .int .u8 0, .string (⟨#[]⟩ : ByteArray), .string (⟨#[]⟩ : ByteArray), .string (⟨#[]⟩ : ByteArray), .string (⟨#[]⟩ : ByteArray), .string (⟨#[]⟩ : ByteArray), .string (⟨#[]⟩ : ByteArray), .string (⟨#[]⟩ : ByteArray), .string (⟨#[]⟩ : ByteArray), .string (⟨#[]⟩ : ByteArray), .string (⟨#[]⟩ : ByteArray)]) ?_ 1 _ rfl; (with_reducible repeat (first | refine kN ?_ _ | refine kD ?_ | refine kA ?_ _)); refine blk_put (cs := #[.int .u8 0, .int .u8 0, .int .u8 0, .int .u8 0, .int .u8 0, .string (⟨#[]⟩ : ByteArray), .string (⟨#[]⟩ : ByteArray), .string (⟨#[]⟩ : ByteArray), .string (⟨#[]⟩ : ByteArray), .string (⟨#[]⟩ : ByteArray), .string (⟨#[]⟩ : ByteArray), .string (⟨#[]⟩ : ByteArray), .string (⟨#[]⟩ : ByteArray), .string (⟨#[]⟩ : ByteArray), .string (⟨#[]⟩ : ByteArray)]) ?_ 0 _ rfl; (with_reducible repeat (first | refine kN ?_ _ | refine kD ?_ | refine kA ?_ _)); exact BK287.out) hb); have n3_ := Aside0.mk (below_step (by repeat (first | (with_reducible first | exact HB.out | apply bA | apply bN | apply bD | refine below_set ?_ GE270.out | refine below_set ?_ GE287.out) | exact HB.out)) hb); clear BK270; clear BK287; clear HB; have HO290 := n0_; have BK270 := n1_; have BK287 := n2_; have HB := n3_; clear n0_ n1_ n2_ n3_; (try clear hb); (try clear ho0)))
  (try simp only [Act.put, sA_, s0_, s1_])
  go_cut [28] (fun v28 wc => ∃ (kq : Nat) (x28_4 : Bool), v28 = .bool x28_4 ∧ Aside0 (ack_Read.j0 kq t288 x28_4 t271 t272 t273 t274 t275 t276 t277 t278 t279 t280 t281 t282 t283 t284 t285 = some (r1, r2, r3)) ∧ Aside0 (kq ≤ k) ∧ Aside0 (Kd.R Kd.string 9 wc w.heap.size (fun _ => True) v289 t288) ∧ Aside0 (wc.heap[gb270]? = some (.cells #[.string (⟨#[]⟩ : ByteArray), .string (⟨#[]⟩ : ByteArray)] 45 (0, 0))) ∧ Aside0 (wc.heap[gb287]? = some (.cells #[.int .u8 t271, .int .u8 t272, .int .u8 t273, .int .u8 t274, .int .u8 t275, .string t276, .string t277, .string t278, .string t279, .string t280, .string t281, .string t282, .string t283, .string t284, .string t285] 25 (0, 0))) ∧ Aside0 (Below w.heap.size w wc))
  case first =>
   have H := HC5.out
   clear HC5
   by_cases c12 : (t288.length : Int) < 2
   ·rw [if_pos c12] at H
    have c12b0 : decide ((t288.length : Int) < 2) = true := decide_eq_true c12
    have c12b1 : decide (t288.length < 2) = true := decide_eq_true (by omega)
    clear c12
    (first | rw [c12b0] | (simp only [i64_w, i32_w]; rw [c12b0]) | skip)
    have H' := Aside0.mk H
    clear H
    obtain ⟨Ao13, co13, eo13⟩ := Kd.R_slice HO290.out
    subst eo13
    go_wp2
    go_meet
    case rel => exact ⟨_, (true), (by first | rfl | (simp; done) | (simp [*]; done)), H', ⟨by first | omega | exact Nat.le_refl _⟩, ⟨by (with_reducible repeat (first | apply Kd.R_alloc | apply Kd.R_drewN | apply Kd.R_drew)); exact HO290.out⟩, ⟨by (with_reducible repeat (first | refine kN ?_ _ | refine kD ?_ | refine kA ?_ _)); exact BK270.out⟩, ⟨by (with_reducible repeat (first | refine kN ?_ _ | refine kD ?_ | refine kA ?_ _)); exact BK287.out⟩, ⟨by repeat (first | (with_reducible first | exact HB.out | apply bA | apply bN | apply bD | refine below_set ?_ GE270.out | refine below_set ?_ GE287.out) | exact HB.out)⟩⟩
   ·rw [if_neg c12] at H
    have c12b0 : decide ((t288.length : Int) < 2) = false := decide_eq_false c12
    have c12b1 : decide (t288.length < 2) = false := decide_eq_false (by omega)
    clear c12
    (first | rw [c12b0] | (simp only [i64_w, i32_w]; rw [c12b0]) | skip)
    by_cases c14 : 1 < (t288.length : Int)
    ·rw [if_pos c14] at H
     have c14b0 : decide (1 < (t288.length : Int)) = true := decide_eq_true c14
     have c14b1 : decide (1 < t288.length) = true := decide_eq_true (by omega)
     clear c14
     replace H := Option.bind_eq_some_iff.mp H
     obtain ⟨t292, A150, H⟩ := H
     replace H : (ack_Read.j0 k t288 (t292.toList != ([77, 83, 65] : List UInt8)) t271 t272 t273 t274 t275 t276 t277 t278 t279 t280 t281 t282 t283 t284 t285) = some (r1, r2, r3) := H
     have A15 := Aside0.mk A150
     clear A150
     have H' := Aside0.mk H
     clear H
     obtain ⟨Ao16, co16, eo16⟩ := Kd.R_slice HO290.out
     subst eo16
     have p291 : 0 ≤ (1 : Int) := (by omega)
     have q291 : 1 < (t288.length : Int) := of_decide_eq_true (by first | (with_reducible assumption) | assumption)
     obtain ⟨ad291, e291, hx291_0⟩ := Kd.at_string (Kd.R_reads' HO290.out).2.2 1 p291 q291
     cases e291
     (try simp only [show (1 : Int).toNat = 1 from rfl, Nat.reduceMul, Nat.reduceEqDiff, Go.Addr.add, ↓reduceIte] at hx291_0)
     have qi291 : (1 < t288.length) = True := eq_true (by omega)
     (try rw [show ((1 : Int)).toNat = 1 from rfl] at hx291_0)
     replace p291 := eq_true p291
     replace q291 := eq_true q291
     go_wp2_with (first | (go_at_call 41; (with_reducible refine (segment_Name.calls (rdOf ByteArray.empty t288 1) t292 _ A15.out).mono ?_); rintro e w17 ⟨rfl, hb⟩; have n0_ := Aside0.mk (Kd.R_below (by (with_reducible repeat (first | apply Kd.R_alloc | apply Kd.R_drewN | apply Kd.R_drew)); exact HO290.out) hb); have n1_ := Aside0.mk (blk_below (g := gb270) (o := .cells #[.string (⟨#[]⟩ : ByteArray), .string (⟨#[]⟩ : ByteArray)] 45 (0, 0)) (by (with_reducible repeat (first | refine kN ?_ _ | refine kD ?_ | refine kA ?_ _)); exact BK270.out) hb); have n2_ := Aside0.mk (blk_below (g := gb287) (o := .cells #[.int .u8 t271, .int .u8 t272, .int .u8 t273, .int .u8 t274, .int .u8 t275, .string t276, .string t277, .string t278, .string t279, .string t280, .string t281, .string t282, .string t283, .string t284, .string t285] 25 (0, 0)) (by (with_reducible repeat (first | refine kN ?_ _ | refine kD ?_ | refine kA ?_ _)); exact BK287.out) hb); have n3_ := Aside0.mk (below_step (by repeat (first | (with_reducible first | exact HB.out | apply bA | apply bN | apply bD | refine below_set ?_ GE270.out | refine below_set ?_ GE287.out) | exact HB.out)) hb); clear HO290; clear BK270; clear BK287; clear HB; have HO290 := n0_; have BK270 := n1_; have BK287 := n2_; have HB := n3_; clear n0_ n1_ n2_ n3_; (try clear hb)))
     go_meet
     case rel => exact ⟨_, ((t292.toList != ([77, 83, 65] : List UInt8))), (by first | rfl | (simp; done) | (simp [*]; done)), H', ⟨by first | omega | exact Nat.le_refl _⟩, ⟨by (with_reducible repeat (first | apply Kd.R_alloc | apply Kd.R_drewN | apply Kd.R_drew)); exact HO290.out⟩, ⟨by (with_reducible repeat (first | refine kN ?_ _ | refine kD ?_ | refine kA ?_ _)); exact BK270.out⟩, ⟨by (with_reducible repeat (first | refine kN ?_ _ | refine kD ?_ | refine kA ?_ _)); exact BK287.out⟩, ⟨by repeat (first | (with_reducible first | exact HB.out | apply bA | apply bN | apply bD | refine below_set ?_ GE270.out | refine below_set ?_ GE287.out) | exact HB.out)⟩⟩
    ·rw [if_neg c14] at H
     exact absurd H (by simp)
  case rest =>
   clear HC5
   try clear c1
   try clear p2
   try clear q2
   try clear hx2
   try clear qi2
   try clear c3
   try clear c3b0
   try clear c3b1
   try clear c9
   try clear c12
   try clear c12b0
   try clear c12b1
   try clear c14
   try clear c14b0
   try clear c14b1
   try clear hcz10_0
   try clear hcz10_1
   try clear hcz10_10
   try clear hcz10_11
   try clear hcz10_12
   try clear hcz10_13
   try clear hcz10_14
   try clear hcz10_2
   try clear hcz10_3
   try clear hcz10_4
   try clear hcz10_5
   try clear hcz10_6
   try clear hcz10_7
   try clear hcz10_8
   try clear hcz10_9
   try clear hfz10_0
   try clear hfz10_1
   try clear hfz10_10
   try clear hfz10_11
   try clear hfz10_12
   try clear hfz10_13
   try clear hfz10_14
   try clear hfz10_2
   try clear hfz10_3
   try clear hfz10_4
   try clear hfz10_5
   try clear hfz10_6
   try clear hfz10_7
   try clear hfz10_8
   try clear hfz10_9
   try clear hx291_0
   try clear p291
   try clear q291
   obtain ⟨kq, x28_4, rfl, HA, HJ4, HO_6, BK270, BK287, HB⟩ := hcut
   cases kq with
   | zero => exact absurd HA.out (by simp [ack_Read.j0])
   | succ kj4 =>
    have H := HA.out
    clear HA
    simp only [ack_Read.j0] at H
    by_cases c18 : x28_4 = true
    ·subst c18
     have H1 : (some ((⟨#[]⟩ : ByteArray), (⟨#[]⟩ : ByteArray), 10)) = some (r1, r2, r3) := by rw [if_pos rfl] at H; exact H
     clear H
     have H := H1
     clear H1
     simp only [Option.some.injEq, Prod.mk.injEq] at H
     obtain ⟨rfl, rfl, rfl⟩ := H
     have hnb19 := NB270_287.out
     have hnc19 := NB287_270.out
     have hcz20_0 : wc.cell? ⟨gb270, 0, none⟩ = some (.string (⟨#[]⟩ : ByteArray)) := blk_cell BK270.out 0
     have hcz20_1 : wc.cell? ⟨gb270, 1, none⟩ = some (.string (⟨#[]⟩ : ByteArray)) := blk_cell BK270.out 1
     have hfz20_0 := blk_frozen BK270.out 0
     have hfz20_1 := blk_frozen BK270.out 1
     go_wp2
     refine bodyPost_ret (results_ct rfl _ _ gb270 45 #[.string (⟨#[]⟩ : ByteArray), .string (⟨#[]⟩ : ByteArray)] (0, 0) _ rfl (by (with_reducible repeat (first | refine kN ?_ _ | refine kD ?_ | refine kA ?_ _)); refine blk_put (cs := #[.string (⟨#[]⟩ : ByteArray), .string (⟨#[]⟩ : ByteArray)]) ?_ 1 _ rfl; (with_reducible repeat (first | refine kN ?_ _ | refine kD ?_ | refine kA ?_ _)); refine blk_put (cs := #[.string (⟨#[]⟩ : ByteArray), .string (⟨#[]⟩ : ByteArray)]) ?_ 0 _ rfl; (with_reducible repeat (first | refine kN ?_ _ | refine kD ?_ | refine kA ?_ _)); exact BK270.out) Tryd.underlying45 rfl (by kernel_rfl)) rfl ?_
     exact ⟨by first | rfl | (simp [errW_none, errW_some] <;> rfl) | (simp [*, errW_none, errW_some] <;> rfl), by repeat (first | (with_reducible first | exact HB.out | apply bA | apply bN | apply bD | refine below_set ?_ GE270.out | refine below_set ?_ GE287.out) | exact HB.out)⟩
    ·replace c18 := Bool.eq_false_iff.mpr c18
     subst c18
     have H1 : (if 1 < (t288.length : Int) then ((segment_Field.f (rdOf ByteArray.empty t288 1) 1 t271 t272 t273 t274 t275).bind fun bt295 => ((segment_Field.f (rdOf ByteArray.empty t288 1) 2 t271 t272 t273 t274 t275).bind fun bt298 => ((ack_Known.f kj4 bt295.1).bind fun t300 => (if t300 = true then (some (bt295.1, bt298.1, 0)) else (some ((⟨#[]⟩ : ByteArray), (⟨#[]⟩ : ByteArray), 17)))))) else (none)) = some (r1, r2, r3) := by rw [if_neg (show ¬ (false = true) by decide)] at H; exact H
     clear H
     have H := H1
     clear H1
     by_cases c21 : 1 < (t288.length : Int)
     ·rw [if_pos c21] at H
      have c21b0 : decide (1 < (t288.length : Int)) = true := decide_eq_true c21
      have c21b1 : decide (1 < t288.length) = true := decide_eq_true (by omega)
      clear c21
      replace H := Option.bind_eq_some_iff.mp H
      obtain ⟨⟨t295, t296⟩, A220, H⟩ := H
      replace H : ((segment_Field.f (rdOf ByteArray.empty t288 1) 2 t271 t272 t273 t274 t275).bind fun bt298 => ((ack_Known.f kj4 t295).bind fun t300 => (if t300 = true then (some (t295, bt298.1, 0)) else (some ((⟨#[]⟩ : ByteArray), (⟨#[]⟩ : ByteArray), 17))))) = some (r1, r2, r3) := H
      have A22 := Aside0.mk A220
      clear A220
      replace H := Option.bind_eq_some_iff.mp H
      obtain ⟨⟨t298, t299⟩, A230, H⟩ := H
      replace H : ((ack_Known.f kj4 t295).bind fun t300 => (if t300 = true then (some (t295, t298, 0)) else (some ((⟨#[]⟩ : ByteArray), (⟨#[]⟩ : ByteArray), 17)))) = some (r1, r2, r3) := H
      have A23 := Aside0.mk A230
      clear A230
      replace H := Option.bind_eq_some_iff.mp H
      obtain ⟨t300, A240, H⟩ := H
      replace H : (if t300 = true then (some (t295, t298, 0)) else (some ((⟨#[]⟩ : ByteArray), (⟨#[]⟩ : ByteArray), 17))) = some (r1, r2, r3) := H
      have A24 := Aside0.mk A240
      clear A240
      by_cases c25 : t300 = true
      ·subst c25
       have H1 : (some (t295, t298, 0)) = some (r1, r2, r3) := by rw [if_pos rfl] at H; exact H
       clear H
       have H := H1
       clear H1
       simp only [Option.some.injEq, Prod.mk.injEq] at H
       obtain ⟨rfl, rfl, rfl⟩ := H
       try go_wp2_with (first | ((with_reducible refine gate_dst (N := 7) rfl ?_); refine box_event ?hg (N := 7) ?hd (cs := #[.string (⟨#[]⟩ : ByteArray), .string (⟨#[]⟩ : ByteArray)]) (t := 45) ?hr ?_; (case hd => rfl); (case hg => rfl); (case hr => first | (go_simp; done) | (go_simp; rfl)); intro gb293 hg w26 hbox hb; have n0_ := Aside0.mk (Kd.R_below (by (with_reducible repeat (first | apply Kd.R_alloc | apply Kd.R_drewN | apply Kd.R_drew)); exact HO_6.out) hb); have n1_ := Aside0.mk (blk_below (g := gb270) (o := .cells #[.string (⟨#[]⟩ : ByteArray), .string (⟨#[]⟩ : ByteArray)] 45 (0, 0)) (by (with_reducible repeat (first | refine kN ?_ _ | refine kD ?_ | refine kA ?_ _)); exact BK270.out) hb); have n2_ := Aside0.mk (blk_below (g := gb287) (o := .cells #[.int .u8 t271, .int .u8 t272, .int .u8 t273, .int .u8 t274, .int .u8 t275, .string t276, .string t277, .string t278, .string t279, .string t280, .string t281, .string t282, .string t283, .string t284, .string t285] 25 (0, 0)) (by (with_reducible repeat (first | refine kN ?_ _ | refine kD ?_ | refine kA ?_ _)); exact BK287.out) hb); have n3_ := Aside0.mk (below_step (by repeat (first | (with_reducible first | exact HB.out | apply bA | apply bN | apply bD | refine below_set ?_ GE270.out | refine below_set ?_ GE287.out) | exact HB.out)) hb); have n4_ := Aside0.mk (hbox); have n5_ := Aside0.mk ((by rw [hg]; exact (below_size (by repeat (first | (with_reducible first | exact HB.out | apply bA | apply bN | apply bD | refine below_set ?_ GE270.out | refine below_set ?_ GE287.out) | exact HB.out))) : w.heap.size ≤ gb293)); have n6_ := Aside0.mk ((by rw [hg]; exact (below_size (by repeat (first | (with_reducible first | exact HB.out | apply bA | apply bN | apply bD | refine below_set ?_ GE270.out | refine below_set ?_ GE287.out) | exact HB.out))) : w.heap.size ≤ gb293)); have n7_ := Aside0.mk ((by rw [hg]; exact Nat.ne_of_lt (blk_lt (g := gb270) (o := .cells #[.string (⟨#[]⟩ : ByteArray), .string (⟨#[]⟩ : ByteArray)] 45 (0, 0)) (by (with_reducible repeat (first | refine kN ?_ _ | refine kD ?_ | refine kA ?_ _)); exact BK270.out)) : gb270 ≠ gb293)); have n8_ := Aside0.mk ((by rw [hg]; exact Nat.ne_of_gt (blk_lt (g := gb270) (o := .cells #[.string (⟨#[]⟩ : ByteArray), .string (⟨#[]⟩ : ByteArray)] 45 (0, 0)) (by (with_reducible repeat (first | refine kN ?_ _ | refine kD ?_ | refine kA ?_ _)); exact BK270.out)) : gb293 ≠ gb270)); have n9_ := Aside0.mk ((by rw [hg]; exact Nat.ne_of_lt (blk_lt (g := gb287) (o := .cells #[.int .u8 t271, .int .u8 t272, .int .u8 t273, .int .u8 t274, .int .u8 t275, .string t276, .string t277, .string t278, .string t279, .string t280, .string t281, .string t282, .string t283, .string t284, .string t285] 25 (0, 0)) (by (with_reducible repeat (first | refine kN ?_ _ | refine kD ?_ | refine kA ?_ _)); exact BK287.out)) : gb287 ≠ gb293)); have n10_ := Aside0.mk ((by rw [hg]; exact Nat.ne_of_gt (blk_lt (g := gb287) (o := .cells #[.int .u8 t271, .int .u8 t272, .int .u8 t273, .int .u8 t274, .int .u8 t275, .string t276, .string t277, .string t278, .string t279, .string t280, .string t281, .string t282, .string t283, .string t284, .string t285] 25 (0, 0)) (by (with_reducible repeat (first | refine kN ?_ _ | refine kD ?_ | refine kA ?_ _)); exact BK287.out)) : gb293 ≠ gb287)); clear HO_6; clear BK270; clear BK287; clear HB; have HO_6 := n0_; have BK270 := n1_; have BK287 := n2_; have HB := n3_; have BK293 := n4_; have GW293 := n5_; have GE293 := n6_; have NB270_293 := n7_; have NB293_270 := n8_; have NB287_293 := n9_; have NB293_287 := n10_; clear n0_ n1_ n2_ n3_ n4_ n5_ n6_ n7_ n8_ n9_ n10_; clear hb hbox hg))
       have n0_ := Aside0.mk (Kd.R_drew HO_6.out)
       have n1_ := Aside0.mk (blk_drew BK270.out)
       have n2_ := Aside0.mk (blk_drew BK287.out)
       have n3_ := Aside0.mk (blk_drew BK293.out)
       have n4_ := Aside0.mk (below_drew1 HB.out)
       clear HO_6
       clear BK270
       clear BK287
       clear BK293
       clear HB
       have HO_6 := n0_
       have BK270 := n1_
       have BK287 := n2_
       have BK293 := n3_
       have HB := n4_
       clear n0_ n1_ n2_ n3_ n4_
       obtain ⟨Ao28, co28, eo28⟩ := Kd.R_slice HO_6.out
       (first | subst eo28 | (injection eo28 with f1_ f2_ f3_; have f4_ := f1_.symm; have f5_ := f3_.symm; clear f1_ f2_ f3_; subst f4_; subst f5_))
       have p294 : 0 ≤ (1 : Int) := (by omega)
       have q294 : 1 < (t288.length : Int) := of_decide_eq_true (by first | (with_reducible assumption) | assumption)
       obtain ⟨ad294, e294, hx294_0⟩ := Kd.at_string (Kd.R_reads' HO_6.out).2.2 1 p294 q294
       cases e294
       (try simp only [show (1 : Int).toNat = 1 from rfl, Nat.reduceMul, Nat.reduceEqDiff, Go.Addr.add, ↓reduceIte] at hx294_0)
       have qi294 : (1 < t288.length) = True := eq_true (by omega)
       (try rw [show ((1 : Int)).toNat = 1 from rfl] at hx294_0)
       replace p294 := eq_true p294
       replace q294 := eq_true q294
       refine start_ (n := 11) (S := fun w' => w'.cell? ⟨gb287, 0, none⟩ = some (.int .u8 t271) ∧ w'.cell? ⟨gb287, 1, none⟩ = some (.int .u8 t272) ∧ w'.cell? ⟨gb287, 2, none⟩ = some (.int .u8 t273) ∧ w'.cell? ⟨gb287, 3, none⟩ = some (.int .u8 t274) ∧ w'.cell? ⟨gb287, 4, none⟩ = some (.int .u8 t275) ∧ w'.cell? ⟨gb287, 5, none⟩ = some (.string t276) ∧ w'.cell? ⟨gb287, 6, none⟩ = some (.string t277) ∧ w'.cell? ⟨gb287, 7, none⟩ = some (.string t278) ∧ w'.cell? ⟨gb287, 8, none⟩ = some (.string t279) ∧ w'.cell? ⟨gb287, 9, none⟩ = some (.string t280) ∧ w'.cell? ⟨gb287, 10, none⟩ = some (.string t281) ∧ w'.cell? ⟨gb287, 11, none⟩ = some (.string t282) ∧ w'.cell? ⟨gb287, 12, none⟩ = some (.string t283) ∧ w'.cell? ⟨gb287, 13, none⟩ = some (.string t284) ∧ w'.cell? ⟨gb287, 14, none⟩ = some (.string t285) ∧ w'.cell? ⟨ad294.block, ad294.off + 1, none⟩ = some (.string (rdOf ByteArray.empty t288 1))) (ds := []) #[false, false, false, false, false, false, false, false, false, false, false] (by kernel_rfl) rfl rfl ⟨blk_cell BK287.out 0, blk_cell BK287.out 1, blk_cell BK287.out 2, blk_cell BK287.out 3, blk_cell BK287.out 4, blk_cell BK287.out 5, blk_cell BK287.out 6, blk_cell BK287.out 7, blk_cell BK287.out 8, blk_cell BK287.out 9, blk_cell BK287.out 10, blk_cell BK287.out 11, blk_cell BK287.out 12, blk_cell BK287.out 13, blk_cell BK287.out 14, hx294_0⟩ (fun hHeld => ?_); refine with_tabW ack_Read.tab8 ack_Read.bits8 (fun HT_ HW_ => ?_)
       generalize w26.drew = w27 at HO_6 BK270 BK287 BK293 HB hx294_0 hHeld ⊢
       refine pure_ (i := 0) (N := some 31) (v := ?_) (a' := ?_) #[true, false, false, false, false, false, false, false, false, false, false] rfl rfl (any_of HT_.out (by kernel_rfl)) (fun _ _ _ h => h) (Or.inl ⟨by rfl, ?_⟩) ?_ ?_
       rotate_left
       ·intro w'
        go_simp
        with_reducible rfl
       rotate_left
       ·simp only [Act.put, sA_, s0_, s1_, i64_w, i32_w]
        rfl
       refine pure_ (i := 1) (N := some 32) (v := ?_) (a' := ?_) #[true, true, false, false, false, false, false, false, false, false, false] rfl rfl (any_of HT_.out (by kernel_rfl)) (fun _ _ _ h => h) (Or.inl ⟨by rfl, ?_⟩) ?_ ?_
       rotate_left
       ·intro w'
        go_simp
        with_reducible rfl
       rotate_left
       ·simp only [Act.put, sA_, s0_, s1_, i64_w, i32_w]
        rfl
       refine pure_ (i := 3) (N := some 34) (v := ?_) (a' := ?_) #[true, true, false, true, false, false, false, false, false, false, false] rfl rfl (any_of HT_.out (by kernel_rfl)) (fun _ _ _ h => h) (Or.inl ⟨by rfl, ?_⟩) ?_ ?_
       rotate_left
       ·intro w'
        go_simp
        with_reducible rfl
       rotate_left
       ·simp only [Act.put, sA_, s0_, s1_, i64_w, i32_w]
        rfl
       refine take_ (i := 2) (N := some 33) (v := ?_) (a' := ?_) #[true, true, true, true, false, false, false, false, false, false, false] rfl rfl (take_ofW HT_.out HW_.out (by kernel_rfl)) (fun _ _ _ h => h) (Or.inl ⟨by rfl, ?_⟩) hHeld ?_ ?_
       rotate_left
       ·rintro w' ⟨s0, s1, s2, s3, s4, s5, s6, s7, s8, s9, s10, s11, s12, s13, s14, s15⟩
        go_simp
        with_reducible rfl
       rotate_left
       ·simp only [Act.put, sA_, s0_, s1_, i64_w, i32_w]
        rfl
       refine take_ (i := 4) (N := some 35) (v := ?_) (a' := ?_) #[true, true, true, true, true, false, false, false, false, false, false] rfl rfl (take_ofW HT_.out HW_.out (by kernel_rfl)) (fun _ _ _ h => h) (Or.inl ⟨by rfl, ?_⟩) hHeld ?_ ?_
       rotate_left
       ·rintro w' ⟨s0, s1, s2, s3, s4, s5, s6, s7, s8, s9, s10, s11, s12, s13, s14, s15⟩
        go_simp
        with_reducible rfl
       rotate_left
       ·simp only [Act.put, sA_, s0_, s1_, i64_w, i32_w]
        rfl
       refine one_ (i := 5) (N := some 36) #[true, true, true, true, true, true, false, false, false, false, false] rfl rfl (one_of HT_.out (by kernel_rfl)) (by decide) (fun K hK => ?_)
       refine goes_ Tryd.func32 (by kernel_rfl) rfl #[.string (rdOf ByteArray.empty t288 1), .int .i64 1, .agg #[.int .u8 t271, .int .u8 t272, .int .u8 t273, .int .u8 t274, .int .u8 t275]] (by rfl) rfl rfl (by (try simp only [List.map_toArray, List.map_cons, List.map_nil]); first | done | rfl | (simp only [List.length_drop, List.length_take]; rfl)) ?_
       with_reducible refine (segment_Field.calls (rdOf ByteArray.empty t288 1) 1 t271 t272 t273 t274 t275 t295 t296 _ A22.out).mono ?_
       rintro e w29 ⟨rfl, hb⟩
       have HS15_ := (hb.cell (World.block_lt_of_cell? _ _ (hHeld.2.2.2.2.2.2.2.2.2.2.2.2.2.2.2))).trans (hHeld.2.2.2.2.2.2.2.2.2.2.2.2.2.2.2)
       refine ⟨_, rfl, ?_⟩
       have n0_ := Aside0.mk (Kd.R_below (by (with_reducible repeat (first | apply Kd.R_alloc | apply Kd.R_drewN | apply Kd.R_drew)); exact HO_6.out) hb)
       have n1_ := Aside0.mk (blk_below (g := gb270) (o := .cells #[.string (⟨#[]⟩ : ByteArray), .string (⟨#[]⟩ : ByteArray)] 45 (0, 0)) (by (with_reducible repeat (first | refine kN ?_ _ | refine kD ?_ | refine kA ?_ _)); exact BK270.out) hb)
       have n2_ := Aside0.mk (blk_below (g := gb287) (o := .cells #[.int .u8 t271, .int .u8 t272, .int .u8 t273, .int .u8 t274, .int .u8 t275, .string t276, .string t277, .string t278, .string t279, .string t280, .string t281, .string t282, .string t283, .string t284, .string t285] 25 (0, 0)) (by (with_reducible repeat (first | refine kN ?_ _ | refine kD ?_ | refine kA ?_ _)); exact BK287.out) hb)
       have n3_ := Aside0.mk (blk_below (g := gb293) (o := .cells #[.string (⟨#[]⟩ : ByteArray), .string (⟨#[]⟩ : ByteArray)] 45 (0, 0)) (by (with_reducible repeat (first | refine kN ?_ _ | refine kD ?_ | refine kA ?_ _)); exact BK293.out) hb)
       have n4_ := Aside0.mk (below_step (by repeat (first | (with_reducible first | exact HB.out | apply bA | apply bN | apply bD | refine below_set ?_ GE270.out | refine below_set ?_ GE287.out | refine below_set ?_ GE293.out) | exact HB.out)) hb)
       clear HO_6
       clear BK270
       clear BK287
       clear BK293
       clear HB
       have HO_6 := n0_
       have BK270 := n1_
       have BK287 := n2_
       have BK293 := n3_
       have HB := n4_
       clear n0_ n1_ n2_ n3_ n4_
       (try clear hb)
       (try clear hb2)
       (try clear hk)
       (try clear hi)
       refine hK.out _ _ ⟨blk_cell BK287.out 0, blk_cell BK287.out 1, blk_cell BK287.out 2, blk_cell BK287.out 3, blk_cell BK287.out 4, blk_cell BK287.out 5, blk_cell BK287.out 6, blk_cell BK287.out 7, blk_cell BK287.out 8, blk_cell BK287.out 9, blk_cell BK287.out 10, blk_cell BK287.out 11, blk_cell BK287.out 12, blk_cell BK287.out 13, blk_cell BK287.out 14, HS15_⟩ (fun hHeld => ?_)
       clear hK K
       refine norm_ (a' := ?_) ?_ ?_
       rotate_left
       ·show Act.put _ (some 36) _ = _
        simp only [Act.put, sA_, s0_, s1_, i64_w, i32_w]
        rfl
       refine pure_ (i := 6) (N := some 30) (v := ?_) (a' := ?_) #[true, true, true, true, true, true, true, false, false, false, false] rfl rfl (any_of HT_.out (by kernel_rfl)) (fun _ _ _ h => h) (Or.inl ⟨by rfl, ?_⟩) ?_ ?_
       rotate_left
       ·intro w'
        go_simp
        with_reducible rfl
       rotate_left
       ·simp only [Act.put, sA_, s0_, s1_, i64_w, i32_w]
        rfl
       refine pure_ (i := 7) (N := some 37) (v := ?_) (a' := ?_) #[true, true, true, true, true, true, true, true, false, false, false] rfl rfl (any_of HT_.out (by kernel_rfl)) (fun _ _ _ h => h) (Or.inl ⟨by rfl, ?_⟩) ?_ ?_
       rotate_left
       ·intro w'
        go_simp
        with_reducible rfl
       rotate_left
       ·simp only [Act.put, sA_, s0_, s1_, i64_w, i32_w]
        rfl
       refine pure_ (i := 8) (N := some 38) (v := ?_) (a' := ?_) #[true, true, true, true, true, true, true, true, true, false, false] rfl rfl (any_of HT_.out (by kernel_rfl)) (fun _ _ _ h => h) (Or.inl ⟨by rfl, ?_⟩) ?_ ?_
       rotate_left
       ·intro w'
        go_simp
        with_reducible rfl
       rotate_left
       ·simp only [Act.put, sA_, s0_, s1_, i64_w, i32_w]
        rfl
       refine pure_ (i := 9) (N := some 39) (v := ?_) (a' := ?_) #[true, true, true, true, true, true, true, true, true, true, false] rfl rfl (any_of HT_.out (by kernel_rfl)) (fun _ _ _ h => h) (Or.inl ⟨by rfl, ?_⟩) ?_ ?_
       rotate_left
       ·intro w'
        go_simp
        with_reducible rfl
       rotate_left
       ·simp only [Act.put, sA_, s0_, s1_, i64_w, i32_w]
        rfl
       refine one_ (i := 10) (N := none) #[true, true, true, true, true, true, true, true, true, true, true] rfl rfl (one_of HT_.out (by kernel_rfl)) (by decide) (fun K hK => ?_)
       have hs30 : w29.cell? ⟨gb293, 0, none⟩ = some (.string (⟨#[]⟩ : ByteArray)) := blk_cell BK293.out 0
       have hfs30 := blk_frozen BK293.out 0
       have hns30_0 := NB270_293.out
       have hns30_1 := NB287_293.out
       have hms30_0 := NB293_270.out
       have hms30_1 := NB293_287.out
       refine skip_ (w1 := ?_) (by rfl) rfl ?_ ?_
       rotate_left
       ·go_simp
        rfl
       refine hK.out _ _ ⟨((cF (p := ⟨gb293, _, none⟩) NB287_293.out _).trans (hHeld.1)), ((cF (p := ⟨gb293, _, none⟩) NB287_293.out _).trans (hHeld.2.1)), ((cF (p := ⟨gb293, _, none⟩) NB287_293.out _).trans (hHeld.2.2.1)), ((cF (p := ⟨gb293, _, none⟩) NB287_293.out _).trans (hHeld.2.2.2.1)), ((cF (p := ⟨gb293, _, none⟩) NB287_293.out _).trans (hHeld.2.2.2.2.1)), ((cF (p := ⟨gb293, _, none⟩) NB287_293.out _).trans (hHeld.2.2.2.2.2.1)), ((cF (p := ⟨gb293, _, none⟩) NB287_293.out _).trans (hHeld.2.2.2.2.2.2.1)), ((cF (p := ⟨gb293, _, none⟩) NB287_293.out _).trans (hHeld.2.2.2.2.2.2.2.1)), ((cF (p := ⟨gb293, _, none⟩) NB287_293.out _).trans (hHeld.2.2.2.2.2.2.2.2.1)), ((cF (p := ⟨gb293, _, none⟩) NB287_293.out _).trans (hHeld.2.2.2.2.2.2.2.2.2.1)), ((cF (p := ⟨gb293, _, none⟩) NB287_293.out _).trans (hHeld.2.2.2.2.2.2.2.2.2.2.1)), ((cF (p := ⟨gb293, _, none⟩) NB287_293.out _).trans (hHeld.2.2.2.2.2.2.2.2.2.2.2.1)), ((cF (p := ⟨gb293, _, none⟩) NB287_293.out _).trans (hHeld.2.2.2.2.2.2.2.2.2.2.2.2.1)), ((cF (p := ⟨gb293, _, none⟩) NB287_293.out _).trans (hHeld.2.2.2.2.2.2.2.2.2.2.2.2.2.1)), ((cF (p := ⟨gb293, _, none⟩) NB287_293.out _).trans (hHeld.2.2.2.2.2.2.2.2.2.2.2.2.2.2.1)), ((cF (p := ⟨gb293, _, none⟩) (by first | exact Kd.own_blk (Kd.R_ne HO_6.out BK293.out (by decide)) | (rw [add_block]; exact Kd.own_blk (Kd.R_ne HO_6.out BK293.out (by decide))) | (show (Addr.add _ _).block ≠ _; rw [add_block]; exact Kd.own_blk (Kd.R_ne HO_6.out BK293.out (by decide))) | (dsimp only; exact Kd.own_blk (Kd.R_ne HO_6.out BK293.out (by decide)))) _).trans (hHeld.2.2.2.2.2.2.2.2.2.2.2.2.2.2.2))⟩ (fun hHeld => ?_)
       clear hK K
       refine done_ (done_of HT_.out (by kernel_rfl)) ?_
       try go_wp2
       have n0_ : Aside0 (Kd.R Kd.string 9 (w29.setCell ⟨gb293, 0, none⟩ (.string t295)) w.heap.size (fun _ => True) (.slice (some ad294) t288.length co28) t288) := ⟨by (with_reducible repeat (first | apply Kd.R_alloc | apply Kd.R_drewN | apply Kd.R_drew)); exact Kd.R_mono (Kd.R_far (p := ⟨gb293, 0, none⟩) (Kd.R_types HO_6.out BK293.out (by decide)) (fun _ hk => hk.2) (.string t295)) (fun _ hk => trivial)⟩
       have n1_ : Aside0 ((w29.setCell ⟨gb293, 0, none⟩ (.string t295)).heap[gb270]? = some (.cells #[.string (⟨#[]⟩ : ByteArray), .string (⟨#[]⟩ : ByteArray)] 45 (0, 0))) := ⟨by (with_reducible repeat (first | refine kN ?_ _ | refine kD ?_ | refine kA ?_ _)); refine blk_far ?_ NB270_293.out _; (with_reducible repeat (first | refine kN ?_ _ | refine kD ?_ | refine kA ?_ _)); exact BK270.out⟩
       have n2_ : Aside0 ((w29.setCell ⟨gb293, 0, none⟩ (.string t295)).heap[gb287]? = some (.cells #[.int .u8 t271, .int .u8 t272, .int .u8 t273, .int .u8 t274, .int .u8 t275, .string t276, .string t277, .string t278, .string t279, .string t280, .string t281, .string t282, .string t283, .string t284, .string t285] 25 (0, 0))) := ⟨by (with_reducible repeat (first | refine kN ?_ _ | refine kD ?_ | refine kA ?_ _)); refine blk_far ?_ NB287_293.out _; (with_reducible repeat (first | refine kN ?_ _ | refine kD ?_ | refine kA ?_ _)); exact BK287.out⟩
       have n3_ : Aside0 ((w29.setCell ⟨gb293, 0, none⟩ (.string t295)).heap[gb293]? = some (.cells #[.string t295, .string (⟨#[]⟩ : ByteArray)] 45 (0, 0))) := ⟨by (with_reducible repeat (first | refine kN ?_ _ | refine kD ?_ | refine kA ?_ _)); refine blk_put (cs := #[.string (⟨#[]⟩ : ByteArray), .string (⟨#[]⟩ : ByteArray)]) ?_ 0 _ rfl; (with_reducible repeat (first | refine kN ?_ _ | refine kD ?_ | refine kA ?_ _)); exact BK293.out⟩
       have n4_ : Aside0 (Below w.heap.size w (w29.setCell ⟨gb293, 0, none⟩ (.string t295))) := ⟨by repeat (first | (with_reducible first | exact HB.out | apply bA | apply bN | apply bD | refine below_set ?_ GE270.out | refine below_set ?_ GE287.out | refine below_set ?_ GE293.out) | exact HB.out)⟩
       (try clear HO_6)
       (try clear BK270)
       (try clear BK287)
       (try clear BK293)
       (try clear HB)
       generalize (w29.setCell ⟨gb293, 0, none⟩ (.string t295)) = w31 at n0_ n1_ n2_ n3_ n4_ ⊢
       have HO_6 := n0_
       have BK270 := n1_
       have BK287 := n2_
       have BK293 := n3_
       have HB := n4_
       clear n0_ n1_ n2_ n3_ n4_
       have n0_ := Aside0.mk (Kd.R_drew HO_6.out)
       have n1_ := Aside0.mk (blk_drew BK270.out)
       have n2_ := Aside0.mk (blk_drew BK287.out)
       have n3_ := Aside0.mk (blk_drew BK293.out)
       have n4_ := Aside0.mk (below_drew1 HB.out)
       clear HO_6
       clear BK270
       clear BK287
       clear BK293
       clear HB
       have HO_6 := n0_
       have BK270 := n1_
       have BK287 := n2_
       have BK293 := n3_
       have HB := n4_
       clear n0_ n1_ n2_ n3_ n4_
       have p297 : 0 ≤ (1 : Int) := (by omega)
       have q297 : 1 < (t288.length : Int) := of_decide_eq_true (by first | (with_reducible assumption) | assumption)
       obtain ⟨ad297, e297, hx297_0⟩ := Kd.at_string (Kd.R_reads' HO_6.out).2.2 1 p297 q297
       obtain rfl : ad294 = ad297 := (by injection e297)
       (try simp only [show (1 : Int).toNat = 1 from rfl, Nat.reduceMul, Nat.reduceEqDiff, Go.Addr.add, ↓reduceIte] at hx297_0)
       have qi297 : (1 < t288.length) = True := eq_true (by omega)
       (try rw [show ((1 : Int)).toNat = 1 from rfl] at hx297_0)
       replace p297 := eq_true p297
       replace q297 := eq_true q297
       refine start_ (n := 11) (S := fun w' => w'.cell? ⟨gb287, 0, none⟩ = some (.int .u8 t271) ∧ w'.cell? ⟨gb287, 1, none⟩ = some (.int .u8 t272) ∧ w'.cell? ⟨gb287, 2, none⟩ = some (.int .u8 t273) ∧ w'.cell? ⟨gb287, 3, none⟩ = some (.int .u8 t274) ∧ w'.cell? ⟨gb287, 4, none⟩ = some (.int .u8 t275) ∧ w'.cell? ⟨gb287, 5, none⟩ = some (.string t276) ∧ w'.cell? ⟨gb287, 6, none⟩ = some (.string t277) ∧ w'.cell? ⟨gb287, 7, none⟩ = some (.string t278) ∧ w'.cell? ⟨gb287, 8, none⟩ = some (.string t279) ∧ w'.cell? ⟨gb287, 9, none⟩ = some (.string t280) ∧ w'.cell? ⟨gb287, 10, none⟩ = some (.string t281) ∧ w'.cell? ⟨gb287, 11, none⟩ = some (.string t282) ∧ w'.cell? ⟨gb287, 12, none⟩ = some (.string t283) ∧ w'.cell? ⟨gb287, 13, none⟩ = some (.string t284) ∧ w'.cell? ⟨gb287, 14, none⟩ = some (.string t285) ∧ w'.cell? ⟨ad294.block, ad294.off + 1, none⟩ = some (.string (rdOf ByteArray.empty t288 1))) (ds := []) #[false, false, false, false, false, false, false, false, false, false, false] (by kernel_rfl) rfl rfl ⟨blk_cell BK287.out 0, blk_cell BK287.out 1, blk_cell BK287.out 2, blk_cell BK287.out 3, blk_cell BK287.out 4, blk_cell BK287.out 5, blk_cell BK287.out 6, blk_cell BK287.out 7, blk_cell BK287.out 8, blk_cell BK287.out 9, blk_cell BK287.out 10, blk_cell BK287.out 11, blk_cell BK287.out 12, blk_cell BK287.out 13, blk_cell BK287.out 14, hx297_0⟩ (fun hHeld => ?_); refine with_tabW ack_Read.tab9 ack_Read.bits9 (fun HT_ HW_ => ?_)
       generalize w31.drew = w32 at HO_6 BK270 BK287 BK293 HB hx297_0 hHeld ⊢
       refine pure_ (i := 0) (N := some 41) (v := ?_) (a' := ?_) #[true, false, false, false, false, false, false, false, false, false, false] rfl rfl (any_of HT_.out (by kernel_rfl)) (fun _ _ _ h => h) (Or.inl ⟨by rfl, ?_⟩) ?_ ?_
       rotate_left
       ·intro w'
        go_simp
        with_reducible rfl
       rotate_left
       ·simp only [Act.put, sA_, s0_, s1_, i64_w, i32_w]
        rfl
       refine pure_ (i := 1) (N := some 42) (v := ?_) (a' := ?_) #[true, true, false, false, false, false, false, false, false, false, false] rfl rfl (any_of HT_.out (by kernel_rfl)) (fun _ _ _ h => h) (Or.inl ⟨by rfl, ?_⟩) ?_ ?_
       rotate_left
       ·intro w'
        go_simp
        with_reducible rfl
       rotate_left
       ·simp only [Act.put, sA_, s0_, s1_, i64_w, i32_w]
        rfl
       refine pure_ (i := 3) (N := some 44) (v := ?_) (a' := ?_) #[true, true, false, true, false, false, false, false, false, false, false] rfl rfl (any_of HT_.out (by kernel_rfl)) (fun _ _ _ h => h) (Or.inl ⟨by rfl, ?_⟩) ?_ ?_
       rotate_left
       ·intro w'
        go_simp
        with_reducible rfl
       rotate_left
       ·simp only [Act.put, sA_, s0_, s1_, i64_w, i32_w]
        rfl
       refine take_ (i := 2) (N := some 43) (v := ?_) (a' := ?_) #[true, true, true, true, false, false, false, false, false, false, false] rfl rfl (take_ofW HT_.out HW_.out (by kernel_rfl)) (fun _ _ _ h => h) (Or.inl ⟨by rfl, ?_⟩) hHeld ?_ ?_
       rotate_left
       ·rintro w' ⟨s0, s1, s2, s3, s4, s5, s6, s7, s8, s9, s10, s11, s12, s13, s14, s15⟩
        go_simp
        with_reducible rfl
       rotate_left
       ·simp only [Act.put, sA_, s0_, s1_, i64_w, i32_w]
        rfl
       refine take_ (i := 4) (N := some 45) (v := ?_) (a' := ?_) #[true, true, true, true, true, false, false, false, false, false, false] rfl rfl (take_ofW HT_.out HW_.out (by kernel_rfl)) (fun _ _ _ h => h) (Or.inl ⟨by rfl, ?_⟩) hHeld ?_ ?_
       rotate_left
       ·rintro w' ⟨s0, s1, s2, s3, s4, s5, s6, s7, s8, s9, s10, s11, s12, s13, s14, s15⟩
        go_simp
        with_reducible rfl
       rotate_left
       ·simp only [Act.put, sA_, s0_, s1_, i64_w, i32_w]
        rfl
       refine one_ (i := 5) (N := some 46) #[true, true, true, true, true, true, false, false, false, false, false] rfl rfl (one_of HT_.out (by kernel_rfl)) (by decide) (fun K hK => ?_)
       refine goes_ Tryd.func32 (by kernel_rfl) rfl #[.string (rdOf ByteArray.empty t288 1), .int .i64 2, .agg #[.int .u8 t271, .int .u8 t272, .int .u8 t273, .int .u8 t274, .int .u8 t275]] (by rfl) rfl rfl (by (try simp only [List.map_toArray, List.map_cons, List.map_nil]); first | done | rfl | (simp only [List.length_drop, List.length_take]; rfl)) ?_
       with_reducible refine (segment_Field.calls (rdOf ByteArray.empty t288 1) 2 t271 t272 t273 t274 t275 t298 t299 _ A23.out).mono ?_
       rintro e w33 ⟨rfl, hb⟩
       have HS15_ := (hb.cell (World.block_lt_of_cell? _ _ (hHeld.2.2.2.2.2.2.2.2.2.2.2.2.2.2.2))).trans (hHeld.2.2.2.2.2.2.2.2.2.2.2.2.2.2.2)
       refine ⟨_, rfl, ?_⟩
       have n0_ := Aside0.mk (Kd.R_below (by (with_reducible repeat (first | apply Kd.R_alloc | apply Kd.R_drewN | apply Kd.R_drew)); exact HO_6.out) hb)
       have n1_ := Aside0.mk (blk_below (g := gb270) (o := .cells #[.string (⟨#[]⟩ : ByteArray), .string (⟨#[]⟩ : ByteArray)] 45 (0, 0)) (by (with_reducible repeat (first | refine kN ?_ _ | refine kD ?_ | refine kA ?_ _)); exact BK270.out) hb)
       have n2_ := Aside0.mk (blk_below (g := gb287) (o := .cells #[.int .u8 t271, .int .u8 t272, .int .u8 t273, .int .u8 t274, .int .u8 t275, .string t276, .string t277, .string t278, .string t279, .string t280, .string t281, .string t282, .string t283, .string t284, .string t285] 25 (0, 0)) (by (with_reducible repeat (first | refine kN ?_ _ | refine kD ?_ | refine kA ?_ _)); exact BK287.out) hb)
       have n3_ := Aside0.mk (blk_below (g := gb293) (o := .cells #[.string t295, .string (⟨#[]⟩ : ByteArray)] 45 (0, 0)) (by (with_reducible repeat (first | refine kN ?_ _ | refine kD ?_ | refine kA ?_ _)); exact BK293.out) hb)
       have n4_ := Aside0.mk (below_step (by repeat (first | (with_reducible first | exact HB.out | apply bA | apply bN | apply bD | refine below_set ?_ GE270.out | refine below_set ?_ GE287.out | refine below_set ?_ GE293.out) | exact HB.out)) hb)
       clear HO_6
       clear BK270
       clear BK287
       clear BK293
       clear HB
       have HO_6 := n0_
       have BK270 := n1_
       have BK287 := n2_
       have BK293 := n3_
       have HB := n4_
       clear n0_ n1_ n2_ n3_ n4_
       (try clear hb)
       (try clear hb2)
       (try clear hk)
       (try clear hi)
       refine hK.out _ _ ⟨blk_cell BK287.out 0, blk_cell BK287.out 1, blk_cell BK287.out 2, blk_cell BK287.out 3, blk_cell BK287.out 4, blk_cell BK287.out 5, blk_cell BK287.out 6, blk_cell BK287.out 7, blk_cell BK287.out 8, blk_cell BK287.out 9, blk_cell BK287.out 10, blk_cell BK287.out 11, blk_cell BK287.out 12, blk_cell BK287.out 13, blk_cell BK287.out 14, HS15_⟩ (fun hHeld => ?_)
       clear hK K
       refine norm_ (a' := ?_) ?_ ?_
       rotate_left
       ·show Act.put _ (some 46) _ = _
        simp only [Act.put, sA_, s0_, s1_, i64_w, i32_w]
        rfl
       refine pure_ (i := 6) (N := some 40) (v := ?_) (a' := ?_) #[true, true, true, true, true, true, true, false, false, false, false] rfl rfl (any_of HT_.out (by kernel_rfl)) (fun _ _ _ h => h) (Or.inl ⟨by rfl, ?_⟩) ?_ ?_
       rotate_left
       ·intro w'
        go_simp
        with_reducible rfl
       rotate_left
       ·simp only [Act.put, sA_, s0_, s1_, i64_w, i32_w]
        rfl
       refine pure_ (i := 7) (N := some 47) (v := ?_) (a' := ?_) #[true, true, true, true, true, true, true, true, false, false, false] rfl rfl (any_of HT_.out (by kernel_rfl)) (fun _ _ _ h => h) (Or.inl ⟨by rfl, ?_⟩) ?_ ?_
       rotate_left
       ·intro w'
        go_simp
        with_reducible rfl
       rotate_left
       ·simp only [Act.put, sA_, s0_, s1_, i64_w, i32_w]
        rfl
       refine pure_ (i := 8) (N := some 48) (v := ?_) (a' := ?_) #[true, true, true, true, true, true, true, true, true, false, false] rfl rfl (any_of HT_.out (by kernel_rfl)) (fun _ _ _ h => h) (Or.inl ⟨by rfl, ?_⟩) ?_ ?_
       rotate_left
       ·intro w'
        go_simp
        with_reducible rfl
       rotate_left
       ·simp only [Act.put, sA_, s0_, s1_, i64_w, i32_w]
        rfl
       refine pure_ (i := 9) (N := some 49) (v := ?_) (a' := ?_) #[true, true, true, true, true, true, true, true, true, true, false] rfl rfl (any_of HT_.out (by kernel_rfl)) (fun _ _ _ h => h) (Or.inl ⟨by rfl, ?_⟩) ?_ ?_
       rotate_left
       ·intro w'
        go_simp
        with_reducible rfl
       rotate_left
       ·simp only [Act.put, sA_, s0_, s1_, i64_w, i32_w]
        rfl
       refine one_ (i := 10) (N := none) #[true, true, true, true, true, true, true, true, true, true, true] rfl rfl (one_of HT_.out (by kernel_rfl)) (by decide) (fun K hK => ?_)
       have hs34 : w33.cell? ⟨gb293, 1, none⟩ = some (.string (⟨#[]⟩ : ByteArray)) := blk_cell BK293.out 1
       have hfs34 := blk_frozen BK293.out 1
       have hns34_0 := NB270_293.out
       have hns34_1 := NB287_293.out
       have hms34_0 := NB293_270.out
       have hms34_1 := NB293_287.out
       refine skip_ (w1 := ?_) (by rfl) rfl ?_ ?_
       rotate_left
       ·go_simp
        rfl
       refine hK.out _ _ ⟨((cF (p := ⟨gb293, _, none⟩) NB287_293.out _).trans (hHeld.1)), ((cF (p := ⟨gb293, _, none⟩) NB287_293.out _).trans (hHeld.2.1)), ((cF (p := ⟨gb293, _, none⟩) NB287_293.out _).trans (hHeld.2.2.1)), ((cF (p := ⟨gb293, _, none⟩) NB287_293.out _).trans (hHeld.2.2.2.1)), ((cF (p := ⟨gb293, _, none⟩) NB287_293.out _).trans (hHeld.2.2.2.2.1)), ((cF (p := ⟨gb293, _, none⟩) NB287_293.out _).trans (hHeld.2.2.2.2.2.1)), ((cF (p := ⟨gb293, _, none⟩) NB287_293.out _).trans (hHeld.2.2.2.2.2.2.1)), ((cF (p := ⟨gb293, _, none⟩) NB287_293.out _).trans (hHeld.2.2.2.2.2.2.2.1)), ((cF (p := ⟨gb293, _, none⟩) NB287_293.out _).trans (hHeld.2.2.2.2.2.2.2.2.1)), ((cF (p := ⟨gb293, _, none⟩) NB287_293.out _).trans (hHeld.2.2.2.2.2.2.2.2.2.1)), ((cF (p := ⟨gb293, _, none⟩) NB287_293.out _).trans (hHeld.2.2.2.2.2.2.2.2.2.2.1)), ((cF (p := ⟨gb293, _, none⟩) NB287_293.out _).trans (hHeld.2.2.2.2.2.2.2.2.2.2.2.1)), ((cF (p := ⟨gb293, _, none⟩) NB287_293.out _).trans (hHeld.2.2.2.2.2.2.2.2.2.2.2.2.1)), ((cF (p := ⟨gb293, _, none⟩) NB287_293.out _).trans (hHeld.2.2.2.2.2.2.2.2.2.2.2.2.2.1)), ((cF (p := ⟨gb293, _, none⟩) NB287_293.out _).trans (hHeld.2.2.2.2.2.2.2.2.2.2.2.2.2.2.1)), ((cF (p := ⟨gb293, _, none⟩) (by first | exact Kd.own_blk (Kd.R_ne HO_6.out BK293.out (by decide)) | (rw [add_block]; exact Kd.own_blk (Kd.R_ne HO_6.out BK293.out (by decide))) | (show (Addr.add _ _).block ≠ _; rw [add_block]; exact Kd.own_blk (Kd.R_ne HO_6.out BK293.out (by decide))) | (dsimp only; exact Kd.own_blk (Kd.R_ne HO_6.out BK293.out (by decide)))) _).trans (hHeld.2.2.2.2.2.2.2.2.2.2.2.2.2.2.2))⟩ (fun hHeld => ?_)
       clear hK K
       refine done_ (done_of HT_.out (by kernel_rfl)) ?_
       have hnb35 := NB293_270.out
       have hnc35 := NB270_293.out
       have hnb36 := NB293_287.out
       have hnc36 := NB287_293.out
       have hcz37_0 : w33.cell? ⟨gb293, 0, none⟩ = some (.string t295) := blk_cell BK293.out 0
       have hcz37_1 : w33.cell? ⟨gb293, 1, none⟩ = some (.string (⟨#[]⟩ : ByteArray)) := blk_cell BK293.out 1
       have hfz37_0 := blk_frozen BK293.out 0
       have hfz37_1 := blk_frozen BK293.out 1
       try go_wp2_with (first | ((with_reducible refine gate_callee (f := 23) rfl ?_); refine goesL_ (some 52) rfl rfl Tryd.func23 (by kernel_rfl) rfl #[.string t295] rfl (by (try simp only [List.map_toArray, List.map_cons, List.map_nil]); first | done | rfl | (simp only [List.length_drop, List.length_take]; rfl)) ?_; (with_reducible refine (ack_Known.calls kj4 t295 true _ A24.out (globc_below HGLOC.out (by repeat (first | (with_reducible first | exact HB.out | apply bA | apply bN | apply bD | refine below_set ?_ GE270.out | refine below_set ?_ GE287.out | refine below_set ?_ GE293.out) | exact HB.out)))).mono ?_); rintro e w' ⟨rfl, ⟨nd, rfl⟩⟩; refine ⟨_, rfl, ?_⟩; have hnb38 := NB270_287.out; have hnc38 := NB287_270.out; have hcz39_0 : w33.cell? ⟨gb270, 0, none⟩ = some (.string (⟨#[]⟩ : ByteArray)) := blk_cell BK270.out 0; have hcz39_1 : w33.cell? ⟨gb270, 1, none⟩ = some (.string (⟨#[]⟩ : ByteArray)) := blk_cell BK270.out 1; have hfz39_0 := blk_frozen BK270.out 0; have hfz39_1 := blk_frozen BK270.out 1))
       refine bodyPost_ret (results_ct rfl _ _ gb270 45 #[.string t295, .string t298] (0, 0) _ rfl (by (with_reducible repeat (first | refine kN ?_ _ | refine kD ?_ | refine kA ?_ _)); refine blk_put (cs := #[.string t295, .string (⟨#[]⟩ : ByteArray)]) ?_ 1 _ rfl; (with_reducible repeat (first | refine kN ?_ _ | refine kD ?_ | refine kA ?_ _)); refine blk_put (cs := #[.string (⟨#[]⟩ : ByteArray), .string (⟨#[]⟩ : ByteArray)]) ?_ 0 _ rfl; (with_reducible repeat (first | refine kN ?_ _ | refine kD ?_ | refine kA ?_ _)); refine blk_far ?_ NB270_293.out _; (with_reducible repeat (first | refine kN ?_ _ | refine kD ?_ | refine kA ?_ _)); exact BK270.out) Tryd.underlying45 rfl (by kernel_rfl)) rfl ?_
       exact ⟨by first | rfl | (simp [errW_none, errW_some] <;> rfl) | (simp [*, errW_none, errW_some] <;> rfl), by repeat (first | (with_reducible first | exact HB.out | apply bA | apply bN | apply bD | refine below_set ?_ GE270.out | refine below_set ?_ GE287.out | refine below_set ?_ GE293.out) | exact HB.out)⟩
      ·replace c25 := Bool.eq_false_iff.mpr c25
       subst c25
       have H1 : (some ((⟨#[]⟩ : ByteArray), (⟨#[]⟩ : ByteArray), 17)) = some (r1, r2, r3) := by rw [if_neg (show ¬ (false = true) by decide)] at H; exact H
       clear H
       have H := H1
       clear H1
       simp only [Option.some.injEq, Prod.mk.injEq] at H
       obtain ⟨rfl, rfl, rfl⟩ := H
       try go_wp2_with (first | ((with_reducible refine gate_dst (N := 7) rfl ?_); refine box_event ?hg (N := 7) ?hd (cs := #[.string (⟨#[]⟩ : ByteArray), .string (⟨#[]⟩ : ByteArray)]) (t := 45) ?hr ?_; (case hd => rfl); (case hg => rfl); (case hr => first | (go_simp; done) | (go_simp; rfl)); intro gb293 hg w40 hbox hb; have n0_ := Aside0.mk (Kd.R_below (by (with_reducible repeat (first | apply Kd.R_alloc | apply Kd.R_drewN | apply Kd.R_drew)); exact HO_6.out) hb); have n1_ := Aside0.mk (blk_below (g := gb270) (o := .cells #[.string (⟨#[]⟩ : ByteArray), .string (⟨#[]⟩ : ByteArray)] 45 (0, 0)) (by (with_reducible repeat (first | refine kN ?_ _ | refine kD ?_ | refine kA ?_ _)); exact BK270.out) hb); have n2_ := Aside0.mk (blk_below (g := gb287) (o := .cells #[.int .u8 t271, .int .u8 t272, .int .u8 t273, .int .u8 t274, .int .u8 t275, .string t276, .string t277, .string t278, .string t279, .string t280, .string t281, .string t282, .string t283, .string t284, .string t285] 25 (0, 0)) (by (with_reducible repeat (first | refine kN ?_ _ | refine kD ?_ | refine kA ?_ _)); exact BK287.out) hb); have n3_ := Aside0.mk (below_step (by repeat (first | (with_reducible first | exact HB.out | apply bA | apply bN | apply bD | refine below_set ?_ GE270.out | refine below_set ?_ GE287.out) | exact HB.out)) hb); have n4_ := Aside0.mk (hbox); have n5_ := Aside0.mk ((by rw [hg]; exact (below_size (by repeat (first | (with_reducible first | exact HB.out | apply bA | apply bN | apply bD | refine below_set ?_ GE270.out | refine below_set ?_ GE287.out) | exact HB.out))) : w.heap.size ≤ gb293)); have n6_ := Aside0.mk ((by rw [hg]; exact (below_size (by repeat (first | (with_reducible first | exact HB.out | apply bA | apply bN | apply bD | refine below_set ?_ GE270.out | refine below_set ?_ GE287.out) | exact HB.out))) : w.heap.size ≤ gb293)); have n7_ := Aside0.mk ((by rw [hg]; exact Nat.ne_of_lt (blk_lt (g := gb270) (o := .cells #[.string (⟨#[]⟩ : ByteArray), .string (⟨#[]⟩ : ByteArray)] 45 (0, 0)) (by (with_reducible repeat (first | refine kN ?_ _ | refine kD ?_ | refine kA ?_ _)); exact BK270.out)) : gb270 ≠ gb293)); have n8_ := Aside0.mk ((by rw [hg]; exact Nat.ne_of_gt (blk_lt (g := gb270) (o := .cells #[.string (⟨#[]⟩ : ByteArray), .string (⟨#[]⟩ : ByteArray)] 45 (0, 0)) (by (with_reducible repeat (first | refine kN ?_ _ | refine kD ?_ | refine kA ?_ _)); exact BK270.out)) : gb293 ≠ gb270)); have n9_ := Aside0.mk ((by rw [hg]; exact Nat.ne_of_lt (blk_lt (g := gb287) (o := .cells #[.int .u8 t271, .int .u8 t272, .int .u8 t273, .int .u8 t274, .int .u8 t275, .string t276, .string t277, .string t278, .string t279, .string t280, .string t281, .string t282, .string t283, .string t284, .string t285] 25 (0, 0)) (by (with_reducible repeat (first | refine kN ?_ _ | refine kD ?_ | refine kA ?_ _)); exact BK287.out)) : gb287 ≠ gb293)); have n10_ := Aside0.mk ((by rw [hg]; exact Nat.ne_of_gt (blk_lt (g := gb287) (o := .cells #[.int .u8 t271, .int .u8 t272, .int .u8 t273, .int .u8 t274, .int .u8 t275, .string t276, .string t277, .string t278, .string t279, .string t280, .string t281, .string t282, .string t283, .string t284, .string t285] 25 (0, 0)) (by (with_reducible repeat (first | refine kN ?_ _ | refine kD ?_ | refine kA ?_ _)); exact BK287.out)) : gb293 ≠ gb287)); clear HO_6; clear BK270; clear BK287; clear HB; have HO_6 := n0_; have BK270 := n1_; have BK287 := n2_; have HB := n3_; have BK293 := n4_; have GW293 := n5_; have GE293 := n6_; have NB270_293 := n7_; have NB293_270 := n8_; have NB287_293 := n9_; have NB293_287 := n10_; clear n0_ n1_ n2_ n3_ n4_ n5_ n6_ n7_ n8_ n9_ n10_; clear hb hbox hg))
       have n0_ := Aside0.mk (Kd.R_drew HO_6.out)
       have n1_ := Aside0.mk (blk_drew BK270.out)
       have n2_ := Aside0.mk (blk_drew BK287.out)
       have n3_ := Aside0.mk (blk_drew BK293.out)
       have n4_ := Aside0.mk (below_drew1 HB.out)
       clear HO_6
       clear BK270
       clear BK287
       clear BK293
       clear HB
       have HO_6 := n0_
       have BK270 := n1_
       have BK287 := n2_
       have BK293 := n3_
       have HB := n4_
       clear n0_ n1_ n2_ n3_ n4_
       obtain ⟨Ao42, co42, eo42⟩ := Kd.R_slice HO_6.out
       (first | subst eo42 | (injection eo42 with f1_ f2_ f3_; have f4_ := f1_.symm; have f5_ := f3_.symm; clear f1_ f2_ f3_; subst f4_; subst f5_))
       have p294 : 0 ≤ (1 : Int) := (by omega)
       have q294 : 1 < (t288.length : Int) := of_decide_eq_true (by first | (with_reducible assumption) | assumption)
       obtain ⟨ad294, e294, hx294_0⟩ := Kd.at_string (Kd.R_reads' HO_6.out).2.2 1 p294 q294
       cases e294
       (try simp only [show (1 : Int).toNat = 1 from rfl, Nat.reduceMul, Nat.reduceEqDiff, Go.Addr.add, ↓reduceIte] at hx294_0)
       have qi294 : (1 < t288.length) = True := eq_true (by omega)
       (try rw [show ((1 : Int)).toNat = 1 from rfl] at hx294_0)
       replace p294 := eq_true p294
       replace q294 := eq_true q294
       refine start_ (n := 11) (S := fun w' => w'.cell? ⟨gb287, 0, none⟩ = some (.int .u8 t271) ∧ w'.cell? ⟨gb287, 1, none⟩ = some (.int .u8 t272) ∧ w'.cell? ⟨gb287, 2, none⟩ = some (.int .u8 t273) ∧ w'.cell? ⟨gb287, 3, none⟩ = some (.int .u8 t274) ∧ w'.cell? ⟨gb287, 4, none⟩ = some (.int .u8 t275) ∧ w'.cell? ⟨gb287, 5, none⟩ = some (.string t276) ∧ w'.cell? ⟨gb287, 6, none⟩ = some (.string t277) ∧ w'.cell? ⟨gb287, 7, none⟩ = some (.string t278) ∧ w'.cell? ⟨gb287, 8, none⟩ = some (.string t279) ∧ w'.cell? ⟨gb287, 9, none⟩ = some (.string t280) ∧ w'.cell? ⟨gb287, 10, none⟩ = some (.string t281) ∧ w'.cell? ⟨gb287, 11, none⟩ = some (.string t282) ∧ w'.cell? ⟨gb287, 12, none⟩ = some (.string t283) ∧ w'.cell? ⟨gb287, 13, none⟩ = some (.string t284) ∧ w'.cell? ⟨gb287, 14, none⟩ = some (.string t285) ∧ w'.cell? ⟨ad294.block, ad294.off + 1, none⟩ = some (.string (rdOf ByteArray.empty t288 1))) (ds := []) #[false, false, false, false, false, false, false, false, false, false, false] (by kernel_rfl) rfl rfl ⟨blk_cell BK287.out 0, blk_cell BK287.out 1, blk_cell BK287.out 2, blk_cell BK287.out 3, blk_cell BK287.out 4, blk_cell BK287.out 5, blk_cell BK287.out 6, blk_cell BK287.out 7, blk_cell BK287.out 8, blk_cell BK287.out 9, blk_cell BK287.out 10, blk_cell BK287.out 11, blk_cell BK287.out 12, blk_cell BK287.out 13, blk_cell BK287.out 14, hx294_0⟩ (fun hHeld => ?_); refine with_tabW ack_Read.tab8 ack_Read.bits8 (fun HT_ HW_ => ?_)
       generalize w40.drew = w41 at HO_6 BK270 BK287 BK293 HB hx294_0 hHeld ⊢
       refine pure_ (i := 0) (N := some 31) (v := ?_) (a' := ?_) #[true, false, false, false, false, false, false, false, false, false, false] rfl rfl (any_of HT_.out (by kernel_rfl)) (fun _ _ _ h => h) (Or.inl ⟨by rfl, ?_⟩) ?_ ?_
       rotate_left
       ·intro w'
        go_simp
        with_reducible rfl
       rotate_left
       ·simp only [Act.put, sA_, s0_, s1_, i64_w, i32_w]
        rfl
       refine pure_ (i := 1) (N := some 32) (v := ?_) (a' := ?_) #[true, true, false, false, false, false, false, false, false, false, false] rfl rfl (any_of HT_.out (by kernel_rfl)) (fun _ _ _ h => h) (Or.inl ⟨by rfl, ?_⟩) ?_ ?_
       rotate_left
       ·intro w'
        go_simp
        with_reducible rfl
       rotate_left
       ·simp only [Act.put, sA_, s0_, s1_, i64_w, i32_w]
        rfl
       refine pure_ (i := 3) (N := some 34) (v := ?_) (a' := ?_) #[true, true, false, true, false, false, false, false, false, false, false] rfl rfl (any_of HT_.out (by kernel_rfl)) (fun _ _ _ h => h) (Or.inl ⟨by rfl, ?_⟩) ?_ ?_
       rotate_left
       ·intro w'
        go_simp
        with_reducible rfl
       rotate_left
       ·simp only [Act.put, sA_, s0_, s1_, i64_w, i32_w]
        rfl
       refine take_ (i := 2) (N := some 33) (v := ?_) (a' := ?_) #[true, true, true, true, false, false, false, false, false, false, false] rfl rfl (take_ofW HT_.out HW_.out (by kernel_rfl)) (fun _ _ _ h => h) (Or.inl ⟨by rfl, ?_⟩) hHeld ?_ ?_
       rotate_left
       ·rintro w' ⟨s0, s1, s2, s3, s4, s5, s6, s7, s8, s9, s10, s11, s12, s13, s14, s15⟩
        go_simp
        with_reducible rfl
       rotate_left
       ·simp only [Act.put, sA_, s0_, s1_, i64_w, i32_w]
        rfl
       refine take_ (i := 4) (N := some 35) (v := ?_) (a' := ?_) #[true, true, true, true, true, false, false, false, false, false, false] rfl rfl (take_ofW HT_.out HW_.out (by kernel_rfl)) (fun _ _ _ h => h) (Or.inl ⟨by rfl, ?_⟩) hHeld ?_ ?_
       rotate_left
       ·rintro w' ⟨s0, s1, s2, s3, s4, s5, s6, s7, s8, s9, s10, s11, s12, s13, s14, s15⟩
        go_simp
        with_reducible rfl
       rotate_left
       ·simp only [Act.put, sA_, s0_, s1_, i64_w, i32_w]
        rfl
       refine one_ (i := 5) (N := some 36) #[true, true, true, true, true, true, false, false, false, false, false] rfl rfl (one_of HT_.out (by kernel_rfl)) (by decide) (fun K hK => ?_)
       refine goes_ Tryd.func32 (by kernel_rfl) rfl #[.string (rdOf ByteArray.empty t288 1), .int .i64 1, .agg #[.int .u8 t271, .int .u8 t272, .int .u8 t273, .int .u8 t274, .int .u8 t275]] (by rfl) rfl rfl (by (try simp only [List.map_toArray, List.map_cons, List.map_nil]); first | done | rfl | (simp only [List.length_drop, List.length_take]; rfl)) ?_
       with_reducible refine (segment_Field.calls (rdOf ByteArray.empty t288 1) 1 t271 t272 t273 t274 t275 t295 t296 _ A22.out).mono ?_
       rintro e w43 ⟨rfl, hb⟩
       have HS15_ := (hb.cell (World.block_lt_of_cell? _ _ (hHeld.2.2.2.2.2.2.2.2.2.2.2.2.2.2.2))).trans (hHeld.2.2.2.2.2.2.2.2.2.2.2.2.2.2.2)
       refine ⟨_, rfl, ?_⟩
       have n0_ := Aside0.mk (Kd.R_below (by (with_reducible repeat (first | apply Kd.R_alloc | apply Kd.R_drewN | apply Kd.R_drew)); exact HO_6.out) hb)
       have n1_ := Aside0.mk (blk_below (g := gb270) (o := .cells #[.string (⟨#[]⟩ : ByteArray), .string (⟨#[]⟩ : ByteArray)] 45 (0, 0)) (by (with_reducible repeat (first | refine kN ?_ _ | refine kD ?_ | refine kA ?_ _)); exact BK270.out) hb)
       have n2_ := Aside0.mk (blk_below (g := gb287) (o := .cells #[.int .u8 t271, .int .u8 t272, .int .u8 t273, .int .u8 t274, .int .u8 t275, .string t276, .string t277, .string t278, .string t279, .string t280, .string t281, .string t282, .string t283, .string t284, .string t285] 25 (0, 0)) (by (with_reducible repeat (first | refine kN ?_ _ | refine kD ?_ | refine kA ?_ _)); exact BK287.out) hb)
       have n3_ := Aside0.mk (blk_below (g := gb293) (o := .cells #[.string (⟨#[]⟩ : ByteArray), .string (⟨#[]⟩ : ByteArray)] 45 (0, 0)) (by (with_reducible repeat (first | refine kN ?_ _ | refine kD ?_ | refine kA ?_ _)); exact BK293.out) hb)
       have n4_ := Aside0.mk (below_step (by repeat (first | (with_reducible first | exact HB.out | apply bA | apply bN | apply bD | refine below_set ?_ GE270.out | refine below_set ?_ GE287.out | refine below_set ?_ GE293.out) | exact HB.out)) hb)
       clear HO_6
       clear BK270
       clear BK287
       clear BK293
       clear HB
       have HO_6 := n0_
       have BK270 := n1_
       have BK287 := n2_
       have BK293 := n3_
       have HB := n4_
       clear n0_ n1_ n2_ n3_ n4_
       (try clear hb)
       (try clear hb2)
       (try clear hk)
       (try clear hi)
       refine hK.out _ _ ⟨blk_cell BK287.out 0, blk_cell BK287.out 1, blk_cell BK287.out 2, blk_cell BK287.out 3, blk_cell BK287.out 4, blk_cell BK287.out 5, blk_cell BK287.out 6, blk_cell BK287.out 7, blk_cell BK287.out 8, blk_cell BK287.out 9, blk_cell BK287.out 10, blk_cell BK287.out 11, blk_cell BK287.out 12, blk_cell BK287.out 13, blk_cell BK287.out 14, HS15_⟩ (fun hHeld => ?_)
       clear hK K
       refine norm_ (a' := ?_) ?_ ?_
       rotate_left
       ·show Act.put _ (some 36) _ = _
        simp only [Act.put, sA_, s0_, s1_, i64_w, i32_w]
        rfl
       refine pure_ (i := 6) (N := some 30) (v := ?_) (a' := ?_) #[true, true, true, true, true, true, true, false, false, false, false] rfl rfl (any_of HT_.out (by kernel_rfl)) (fun _ _ _ h => h) (Or.inl ⟨by rfl, ?_⟩) ?_ ?_
       rotate_left
       ·intro w'
        go_simp
        with_reducible rfl
       rotate_left
       ·simp only [Act.put, sA_, s0_, s1_, i64_w, i32_w]
        rfl
       refine pure_ (i := 7) (N := some 37) (v := ?_) (a' := ?_) #[true, true, true, true, true, true, true, true, false, false, false] rfl rfl (any_of HT_.out (by kernel_rfl)) (fun _ _ _ h => h) (Or.inl ⟨by rfl, ?_⟩) ?_ ?_
       rotate_left
       ·intro w'
        go_simp
        with_reducible rfl
       rotate_left
       ·simp only [Act.put, sA_, s0_, s1_, i64_w, i32_w]
        rfl
       refine pure_ (i := 8) (N := some 38) (v := ?_) (a' := ?_) #[true, true, true, true, true, true, true, true, true, false, false] rfl rfl (any_of HT_.out (by kernel_rfl)) (fun _ _ _ h => h) (Or.inl ⟨by rfl, ?_⟩) ?_ ?_
       rotate_left
       ·intro w'
        go_simp
        with_reducible rfl
       rotate_left
       ·simp only [Act.put, sA_, s0_, s1_, i64_w, i32_w]
        rfl
       refine pure_ (i := 9) (N := some 39) (v := ?_) (a' := ?_) #[true, true, true, true, true, true, true, true, true, true, false] rfl rfl (any_of HT_.out (by kernel_rfl)) (fun _ _ _ h => h) (Or.inl ⟨by rfl, ?_⟩) ?_ ?_
       rotate_left
       ·intro w'
        go_simp
        with_reducible rfl
       rotate_left
       ·simp only [Act.put, sA_, s0_, s1_, i64_w, i32_w]
        rfl
       refine one_ (i := 10) (N := none) #[true, true, true, true, true, true, true, true, true, true, true] rfl rfl (one_of HT_.out (by kernel_rfl)) (by decide) (fun K hK => ?_)
       have hs44 : w43.cell? ⟨gb293, 0, none⟩ = some (.string (⟨#[]⟩ : ByteArray)) := blk_cell BK293.out 0
       have hfs44 := blk_frozen BK293.out 0
       have hns44_0 := NB270_293.out
       have hns44_1 := NB287_293.out
       have hms44_0 := NB293_270.out
       have hms44_1 := NB293_287.out
       refine skip_ (w1 := ?_) (by rfl) rfl ?_ ?_
       rotate_left
       ·go_simp
        rfl
       refine hK.out _ _ ⟨((cF (p := ⟨gb293, _, none⟩) NB287_293.out _).trans (hHeld.1)), ((cF (p := ⟨gb293, _, none⟩) NB287_293.out _).trans (hHeld.2.1)), ((cF (p := ⟨gb293, _, none⟩) NB287_293.out _).trans (hHeld.2.2.1)), ((cF (p := ⟨gb293, _, none⟩) NB287_293.out _).trans (hHeld.2.2.2.1)), ((cF (p := ⟨gb293, _, none⟩) NB287_293.out _).trans (hHeld.2.2.2.2.1)), ((cF (p := ⟨gb293, _, none⟩) NB287_293.out _).trans (hHeld.2.2.2.2.2.1)), ((cF (p := ⟨gb293, _, none⟩) NB287_293.out _).trans (hHeld.2.2.2.2.2.2.1)), ((cF (p := ⟨gb293, _, none⟩) NB287_293.out _).trans (hHeld.2.2.2.2.2.2.2.1)), ((cF (p := ⟨gb293, _, none⟩) NB287_293.out _).trans (hHeld.2.2.2.2.2.2.2.2.1)), ((cF (p := ⟨gb293, _, none⟩) NB287_293.out _).trans (hHeld.2.2.2.2.2.2.2.2.2.1)), ((cF (p := ⟨gb293, _, none⟩) NB287_293.out _).trans (hHeld.2.2.2.2.2.2.2.2.2.2.1)), ((cF (p := ⟨gb293, _, none⟩) NB287_293.out _).trans (hHeld.2.2.2.2.2.2.2.2.2.2.2.1)), ((cF (p := ⟨gb293, _, none⟩) NB287_293.out _).trans (hHeld.2.2.2.2.2.2.2.2.2.2.2.2.1)), ((cF (p := ⟨gb293, _, none⟩) NB287_293.out _).trans (hHeld.2.2.2.2.2.2.2.2.2.2.2.2.2.1)), ((cF (p := ⟨gb293, _, none⟩) NB287_293.out _).trans (hHeld.2.2.2.2.2.2.2.2.2.2.2.2.2.2.1)), ((cF (p := ⟨gb293, _, none⟩) (by first | exact Kd.own_blk (Kd.R_ne HO_6.out BK293.out (by decide)) | (rw [add_block]; exact Kd.own_blk (Kd.R_ne HO_6.out BK293.out (by decide))) | (show (Addr.add _ _).block ≠ _; rw [add_block]; exact Kd.own_blk (Kd.R_ne HO_6.out BK293.out (by decide))) | (dsimp only; exact Kd.own_blk (Kd.R_ne HO_6.out BK293.out (by decide)))) _).trans (hHeld.2.2.2.2.2.2.2.2.2.2.2.2.2.2.2))⟩ (fun hHeld => ?_)
       clear hK K
       refine done_ (done_of HT_.out (by kernel_rfl)) ?_
       try go_wp2
       have n0_ : Aside0 (Kd.R Kd.string 9 (w43.setCell ⟨gb293, 0, none⟩ (.string t295)) w.heap.size (fun _ => True) (.slice (some ad294) t288.length co42) t288) := ⟨by (with_reducible repeat (first | apply Kd.R_alloc | apply Kd.R_drewN | apply Kd.R_drew)); exact Kd.R_mono (Kd.R_far (p := ⟨gb293, 0, none⟩) (Kd.R_types HO_6.out BK293.out (by decide)) (fun _ hk => hk.2) (.string t295)) (fun _ hk => trivial)⟩
       have n1_ : Aside0 ((w43.setCell ⟨gb293, 0, none⟩ (.string t295)).heap[gb270]? = some (.cells #[.string (⟨#[]⟩ : ByteArray), .string (⟨#[]⟩ : ByteArray)] 45 (0, 0))) := ⟨by (with_reducible repeat (first | refine kN ?_ _ | refine kD ?_ | refine kA ?_ _)); refine blk_far ?_ NB270_293.out _; (with_reducible repeat (first | refine kN ?_ _ | refine kD ?_ | refine kA ?_ _)); exact BK270.out⟩
       have n2_ : Aside0 ((w43.setCell ⟨gb293, 0, none⟩ (.string t295)).heap[gb287]? = some (.cells #[.int .u8 t271, .int .u8 t272, .int .u8 t273, .int .u8 t274, .int .u8 t275, .string t276, .string t277, .string t278, .string t279, .string t280, .string t281, .string t282, .string t283, .string t284, .string t285] 25 (0, 0))) := ⟨by (with_reducible repeat (first | refine kN ?_ _ | refine kD ?_ | refine kA ?_ _)); refine blk_far ?_ NB287_293.out _; (with_reducible repeat (first | refine kN ?_ _ | refine kD ?_ | refine kA ?_ _)); exact BK287.out⟩
       have n3_ : Aside0 ((w43.setCell ⟨gb293, 0, none⟩ (.string t295)).heap[gb293]? = some (.cells #[.string t295, .string (⟨#[]⟩ : ByteArray)] 45 (0, 0))) := ⟨by (with_reducible repeat (first | refine kN ?_ _ | refine kD ?_ | refine kA ?_ _)); refine blk_put (cs := #[.string (⟨#[]⟩ : ByteArray), .string (⟨#[]⟩ : ByteArray)]) ?_ 0 _ rfl; (with_reducible repeat (first | refine kN ?_ _ | refine kD ?_ | refine kA ?_ _)); exact BK293.out⟩
       have n4_ : Aside0 (Below w.heap.size w (w43.setCell ⟨gb293, 0, none⟩ (.string t295))) := ⟨by repeat (first | (with_reducible first | exact HB.out | apply bA | apply bN | apply bD | refine below_set ?_ GE270.out | refine below_set ?_ GE287.out | refine below_set ?_ GE293.out) | exact HB.out)⟩
       (try clear HO_6)
       (try clear BK270)
       (try clear BK287)
       (try clear BK293)
       (try clear HB)
       generalize (w43.setCell ⟨gb293, 0, none⟩ (.string t295)) = w45 at n0_ n1_ n2_ n3_ n4_ ⊢
       have HO_6 := n0_
       have BK270 := n1_
       have BK287 := n2_
       have BK293 := n3_
       have HB := n4_
       clear n0_ n1_ n2_ n3_ n4_
       have n0_ := Aside0.mk (Kd.R_drew HO_6.out)
       have n1_ := Aside0.mk (blk_drew BK270.out)
       have n2_ := Aside0.mk (blk_drew BK287.out)
       have n3_ := Aside0.mk (blk_drew BK293.out)
       have n4_ := Aside0.mk (below_drew1 HB.out)
       clear HO_6
       clear BK270
       clear BK287
       clear BK293
       clear HB
       have HO_6 := n0_
       have BK270 := n1_
       have BK287 := n2_
       have BK293 := n3_
       have HB := n4_
       clear n0_ n1_ n2_ n3_ n4_
       have p297 : 0 ≤ (1 : Int) := (by omega)
       have q297 : 1 < (t288.length : Int) := of_decide_eq_true (by first | (with_reducible assumption) | assumption)
       obtain ⟨ad297, e297, hx297_0⟩ := Kd.at_string (Kd.R_reads' HO_6.out).2.2 1 p297 q297
       obtain rfl : ad294 = ad297 := (by injection e297)
       (try simp only [show (1 : Int).toNat = 1 from rfl, Nat.reduceMul, Nat.reduceEqDiff, Go.Addr.add, ↓reduceIte] at hx297_0)
       have qi297 : (1 < t288.length) = True := eq_true (by omega)
       (try rw [show ((1 : Int)).toNat = 1 from rfl] at hx297_0)
       replace p297 := eq_true p297
       replace q297 := eq_true q297
       refine start_ (n := 11) (S := fun w' => w'.cell? ⟨gb287, 0, none⟩ = some (.int .u8 t271) ∧ w'.cell? ⟨gb287, 1, none⟩ = some (.int .u8 t272) ∧ w'.cell? ⟨gb287, 2, none⟩ = some (.int .u8 t273) ∧ w'.cell? ⟨gb287, 3, none⟩ = some (.int .u8 t274) ∧ w'.cell? ⟨gb287, 4, none⟩ = some (.int .u8 t275) ∧ w'.cell? ⟨gb287, 5, none⟩ = some (.string t276) ∧ w'.cell? ⟨gb287, 6, none⟩ = some (.string t277) ∧ w'.cell? ⟨gb287, 7, none⟩ = some (.string t278) ∧ w'.cell? ⟨gb287, 8, none⟩ = some (.string t279) ∧ w'.cell? ⟨gb287, 9, none⟩ = some (.string t280) ∧ w'.cell? ⟨gb287, 10, none⟩ = some (.string t281) ∧ w'.cell? ⟨gb287, 11, none⟩ = some (.string t282) ∧ w'.cell? ⟨gb287, 12, none⟩ = some (.string t283) ∧ w'.cell? ⟨gb287, 13, none⟩ = some (.string t284) ∧ w'.cell? ⟨gb287, 14, none⟩ = some (.string t285) ∧ w'.cell? ⟨ad294.block, ad294.off + 1, none⟩ = some (.string (rdOf ByteArray.empty t288 1))) (ds := []) #[false, false, false, false, false, false, false, false, false, false, false] (by kernel_rfl) rfl rfl ⟨blk_cell BK287.out 0, blk_cell BK287.out 1, blk_cell BK287.out 2, blk_cell BK287.out 3, blk_cell BK287.out 4, blk_cell BK287.out 5, blk_cell BK287.out 6, blk_cell BK287.out 7, blk_cell BK287.out 8, blk_cell BK287.out 9, blk_cell BK287.out 10, blk_cell BK287.out 11, blk_cell BK287.out 12, blk_cell BK287.out 13, blk_cell BK287.out 14, hx297_0⟩ (fun hHeld => ?_); refine with_tabW ack_Read.tab9 ack_Read.bits9 (fun HT_ HW_ => ?_)
       generalize w45.drew = w46 at HO_6 BK270 BK287 BK293 HB hx297_0 hHeld ⊢
       refine pure_ (i := 0) (N := some 41) (v := ?_) (a' := ?_) #[true, false, false, false, false, false, false, false, false, false, false] rfl rfl (any_of HT_.out (by kernel_rfl)) (fun _ _ _ h => h) (Or.inl ⟨by rfl, ?_⟩) ?_ ?_
       rotate_left
       ·intro w'
        go_simp
        with_reducible rfl
       rotate_left
       ·simp only [Act.put, sA_, s0_, s1_, i64_w, i32_w]
        rfl
       refine pure_ (i := 1) (N := some 42) (v := ?_) (a' := ?_) #[true, true, false, false, false, false, false, false, false, false, false] rfl rfl (any_of HT_.out (by kernel_rfl)) (fun _ _ _ h => h) (Or.inl ⟨by rfl, ?_⟩) ?_ ?_
       rotate_left
       ·intro w'
        go_simp
        with_reducible rfl
       rotate_left
       ·simp only [Act.put, sA_, s0_, s1_, i64_w, i32_w]
        rfl
       refine pure_ (i := 3) (N := some 44) (v := ?_) (a' := ?_) #[true, true, false, true, false, false, false, false, false, false, false] rfl rfl (any_of HT_.out (by kernel_rfl)) (fun _ _ _ h => h) (Or.inl ⟨by rfl, ?_⟩) ?_ ?_
       rotate_left
       ·intro w'
        go_simp
        with_reducible rfl
       rotate_left
       ·simp only [Act.put, sA_, s0_, s1_, i64_w, i32_w]
        rfl
       refine take_ (i := 2) (N := some 43) (v := ?_) (a' := ?_) #[true, true, true, true, false, false, false, false, false, false, false] rfl rfl (take_ofW HT_.out HW_.out (by kernel_rfl)) (fun _ _ _ h => h) (Or.inl ⟨by rfl, ?_⟩) hHeld ?_ ?_
       rotate_left
       ·rintro w' ⟨s0, s1, s2, s3, s4, s5, s6, s7, s8, s9, s10, s11, s12, s13, s14, s15⟩
        go_simp
        with_reducible rfl
       rotate_left
       ·simp only [Act.put, sA_, s0_, s1_, i64_w, i32_w]
        rfl
       refine take_ (i := 4) (N := some 45) (v := ?_) (a' := ?_) #[true, true, true, true, true, false, false, false, false, false, false] rfl rfl (take_ofW HT_.out HW_.out (by kernel_rfl)) (fun _ _ _ h => h) (Or.inl ⟨by rfl, ?_⟩) hHeld ?_ ?_
       rotate_left
       ·rintro w' ⟨s0, s1, s2, s3, s4, s5, s6, s7, s8, s9, s10, s11, s12, s13, s14, s15⟩
        go_simp
        with_reducible rfl
       rotate_left
       ·simp only [Act.put, sA_, s0_, s1_, i64_w, i32_w]
        rfl
       refine one_ (i := 5) (N := some 46) #[true, true, true, true, true, true, false, false, false, false, false] rfl rfl (one_of HT_.out (by kernel_rfl)) (by decide) (fun K hK => ?_)
       refine goes_ Tryd.func32 (by kernel_rfl) rfl #[.string (rdOf ByteArray.empty t288 1), .int .i64 2, .agg #[.int .u8 t271, .int .u8 t272, .int .u8 t273, .int .u8 t274, .int .u8 t275]] (by rfl) rfl rfl (by (try simp only [List.map_toArray, List.map_cons, List.map_nil]); first | done | rfl | (simp only [List.length_drop, List.length_take]; rfl)) ?_
       with_reducible refine (segment_Field.calls (rdOf ByteArray.empty t288 1) 2 t271 t272 t273 t274 t275 t298 t299 _ A23.out).mono ?_
       rintro e w47 ⟨rfl, hb⟩
       have HS15_ := (hb.cell (World.block_lt_of_cell? _ _ (hHeld.2.2.2.2.2.2.2.2.2.2.2.2.2.2.2))).trans (hHeld.2.2.2.2.2.2.2.2.2.2.2.2.2.2.2)
       refine ⟨_, rfl, ?_⟩
       have n0_ := Aside0.mk (Kd.R_below (by (with_reducible repeat (first | apply Kd.R_alloc | apply Kd.R_drewN | apply Kd.R_drew)); exact HO_6.out) hb)
       have n1_ := Aside0.mk (blk_below (g := gb270) (o := .cells #[.string (⟨#[]⟩ : ByteArray), .string (⟨#[]⟩ : ByteArray)] 45 (0, 0)) (by (with_reducible repeat (first | refine kN ?_ _ | refine kD ?_ | refine kA ?_ _)); exact BK270.out) hb)
       have n2_ := Aside0.mk (blk_below (g := gb287) (o := .cells #[.int .u8 t271, .int .u8 t272, .int .u8 t273, .int .u8 t274, .int .u8 t275, .string t276, .string t277, .string t278, .string t279, .string t280, .string t281, .string t282, .string t283, .string t284, .string t285] 25 (0, 0)) (by (with_reducible repeat (first | refine kN ?_ _ | refine kD ?_ | refine kA ?_ _)); exact BK287.out) hb)
       have n3_ := Aside0.mk (blk_below (g := gb293) (o := .cells #[.string t295, .string (⟨#[]⟩ : ByteArray)] 45 (0, 0)) (by (with_reducible repeat (first | refine kN ?_ _ | refine kD ?_ | refine kA ?_ _)); exact BK293.out) hb)
       have n4_ := Aside0.mk (below_step (by repeat (first | (with_reducible first | exact HB.out | apply bA | apply bN | apply bD | refine below_set ?_ GE270.out | refine below_set ?_ GE287.out | refine below_set ?_ GE293.out) | exact HB.out)) hb)
       clear HO_6
       clear BK270
       clear BK287
       clear BK293
       clear HB
       have HO_6 := n0_
       have BK270 := n1_
       have BK287 := n2_
       have BK293 := n3_
       have HB := n4_
       clear n0_ n1_ n2_ n3_ n4_
       (try clear hb)
       (try clear hb2)
       (try clear hk)
       (try clear hi)
       refine hK.out _ _ ⟨blk_cell BK287.out 0, blk_cell BK287.out 1, blk_cell BK287.out 2, blk_cell BK287.out 3, blk_cell BK287.out 4, blk_cell BK287.out 5, blk_cell BK287.out 6, blk_cell BK287.out 7, blk_cell BK287.out 8, blk_cell BK287.out 9, blk_cell BK287.out 10, blk_cell BK287.out 11, blk_cell BK287.out 12, blk_cell BK287.out 13, blk_cell BK287.out 14, HS15_⟩ (fun hHeld => ?_)
       clear hK K
       refine norm_ (a' := ?_) ?_ ?_
       rotate_left
       ·show Act.put _ (some 46) _ = _
        simp only [Act.put, sA_, s0_, s1_, i64_w, i32_w]
        rfl
       refine pure_ (i := 6) (N := some 40) (v := ?_) (a' := ?_) #[true, true, true, true, true, true, true, false, false, false, false] rfl rfl (any_of HT_.out (by kernel_rfl)) (fun _ _ _ h => h) (Or.inl ⟨by rfl, ?_⟩) ?_ ?_
       rotate_left
       ·intro w'
        go_simp
        with_reducible rfl
       rotate_left
       ·simp only [Act.put, sA_, s0_, s1_, i64_w, i32_w]
        rfl
       refine pure_ (i := 7) (N := some 47) (v := ?_) (a' := ?_) #[true, true, true, true, true, true, true, true, false, false, false] rfl rfl (any_of HT_.out (by kernel_rfl)) (fun _ _ _ h => h) (Or.inl ⟨by rfl, ?_⟩) ?_ ?_
       rotate_left
       ·intro w'
        go_simp
        with_reducible rfl
       rotate_left
       ·simp only [Act.put, sA_, s0_, s1_, i64_w, i32_w]
        rfl
       refine pure_ (i := 8) (N := some 48) (v := ?_) (a' := ?_) #[true, true, true, true, true, true, true, true, true, false, false] rfl rfl (any_of HT_.out (by kernel_rfl)) (fun _ _ _ h => h) (Or.inl ⟨by rfl, ?_⟩) ?_ ?_
       rotate_left
       ·intro w'
        go_simp
        with_reducible rfl
       rotate_left
       ·simp only [Act.put, sA_, s0_, s1_, i64_w, i32_w]
        rfl
       refine pure_ (i := 9) (N := some 49) (v := ?_) (a' := ?_) #[true, true, true, true, true, true, true, true, true, true, false] rfl rfl (any_of HT_.out (by kernel_rfl)) (fun _ _ _ h => h) (Or.inl ⟨by rfl, ?_⟩) ?_ ?_
       rotate_left
       ·intro w'
        go_simp
        with_reducible rfl
       rotate_left
       ·simp only [Act.put, sA_, s0_, s1_, i64_w, i32_w]
        rfl
       refine one_ (i := 10) (N := none) #[true, true, true, true, true, true, true, true, true, true, true] rfl rfl (one_of HT_.out (by kernel_rfl)) (by decide) (fun K hK => ?_)
       have hs48 : w47.cell? ⟨gb293, 1, none⟩ = some (.string (⟨#[]⟩ : ByteArray)) := blk_cell BK293.out 1
       have hfs48 := blk_frozen BK293.out 1
       have hns48_0 := NB270_293.out
       have hns48_1 := NB287_293.out
       have hms48_0 := NB293_270.out
       have hms48_1 := NB293_287.out
       refine skip_ (w1 := ?_) (by rfl) rfl ?_ ?_
       rotate_left
       ·go_simp
        rfl
       refine hK.out _ _ ⟨((cF (p := ⟨gb293, _, none⟩) NB287_293.out _).trans (hHeld.1)), ((cF (p := ⟨gb293, _, none⟩) NB287_293.out _).trans (hHeld.2.1)), ((cF (p := ⟨gb293, _, none⟩) NB287_293.out _).trans (hHeld.2.2.1)), ((cF (p := ⟨gb293, _, none⟩) NB287_293.out _).trans (hHeld.2.2.2.1)), ((cF (p := ⟨gb293, _, none⟩) NB287_293.out _).trans (hHeld.2.2.2.2.1)), ((cF (p := ⟨gb293, _, none⟩) NB287_293.out _).trans (hHeld.2.2.2.2.2.1)), ((cF (p := ⟨gb293, _, none⟩) NB287_293.out _).trans (hHeld.2.2.2.2.2.2.1)), ((cF (p := ⟨gb293, _, none⟩) NB287_293.out _).trans (hHeld.2.2.2.2.2.2.2.1)), ((cF (p := ⟨gb293, _, none⟩) NB287_293.out _).trans (hHeld.2.2.2.2.2.2.2.2.1)), ((cF (p := ⟨gb293, _, none⟩) NB287_293.out _).trans (hHeld.2.2.2.2.2.2.2.2.2.1)), ((cF (p := ⟨gb293, _, none⟩) NB287_293.out _).trans (hHeld.2.2.2.2.2.2.2.2.2.2.1)), ((cF (p := ⟨gb293, _, none⟩) NB287_293.out _).trans (hHeld.2.2.2.2.2.2.2.2.2.2.2.1)), ((cF (p := ⟨gb293, _, none⟩) NB287_293.out _).trans (hHeld.2.2.2.2.2.2.2.2.2.2.2.2.1)), ((cF (p := ⟨gb293, _, none⟩) NB287_293.out _).trans (hHeld.2.2.2.2.2.2.2.2.2.2.2.2.2.1)), ((cF (p := ⟨gb293, _, none⟩) NB287_293.out _).trans (hHeld.2.2.2.2.2.2.2.2.2.2.2.2.2.2.1)), ((cF (p := ⟨gb293, _, none⟩) (by first | exact Kd.own_blk (Kd.R_ne HO_6.out BK293.out (by decide)) | (rw [add_block]; exact Kd.own_blk (Kd.R_ne HO_6.out BK293.out (by decide))) | (show (Addr.add _ _).block ≠ _; rw [add_block]; exact Kd.own_blk (Kd.R_ne HO_6.out BK293.out (by decide))) | (dsimp only; exact Kd.own_blk (Kd.R_ne HO_6.out BK293.out (by decide)))) _).trans (hHeld.2.2.2.2.2.2.2.2.2.2.2.2.2.2.2))⟩ (fun hHeld => ?_)
       clear hK K
       refine done_ (done_of HT_.out (by kernel_rfl)) ?_
       have hnb49 := NB293_270.out
       have hnc49 := NB270_293.out
       have hnb50 := NB293_287.out
       have hnc50 := NB287_293.out
       have hcz51_0 : w47.cell? ⟨gb293, 0, none⟩ = some (.string t295) := blk_cell BK293.out 0
       have hcz51_1 : w47.cell? ⟨gb293, 1, none⟩ = some (.string (⟨#[]⟩ : ByteArray)) := blk_cell BK293.out 1
       have hfz51_0 := blk_frozen BK293.out 0
       have hfz51_1 := blk_frozen BK293.out 1
       try go_wp2_with (first | ((with_reducible refine gate_callee (f := 23) rfl ?_); refine goesL_ (some 52) rfl rfl Tryd.func23 (by kernel_rfl) rfl #[.string t295] rfl (by (try simp only [List.map_toArray, List.map_cons, List.map_nil]); first | done | rfl | (simp only [List.length_drop, List.length_take]; rfl)) ?_; (with_reducible refine (ack_Known.calls kj4 t295 false _ A24.out (globc_below HGLOC.out (by repeat (first | (with_reducible first | exact HB.out | apply bA | apply bN | apply bD | refine below_set ?_ GE270.out | refine below_set ?_ GE287.out | refine below_set ?_ GE293.out) | exact HB.out)))).mono ?_); rintro e w' ⟨rfl, ⟨nd, rfl⟩⟩; refine ⟨_, rfl, ?_⟩; have hnb52 := NB270_287.out; have hnc52 := NB287_270.out; have hcz53_0 : w47.cell? ⟨gb270, 0, none⟩ = some (.string (⟨#[]⟩ : ByteArray)) := blk_cell BK270.out 0; have hcz53_1 : w47.cell? ⟨gb270, 1, none⟩ = some (.string (⟨#[]⟩ : ByteArray)) := blk_cell BK270.out 1; have hfz53_0 := blk_frozen BK270.out 0; have hfz53_1 := blk_frozen BK270.out 1))
       refine bodyPost_ret (results_ct rfl _ _ gb270 45 #[.string (⟨#[]⟩ : ByteArray), .string (⟨#[]⟩ : ByteArray)] (0, 0) _ rfl (by (with_reducible repeat (first | refine kN ?_ _ | refine kD ?_ | refine kA ?_ _)); refine blk_put (cs := #[.string (⟨#[]⟩ : ByteArray), .string (⟨#[]⟩ : ByteArray)]) ?_ 1 _ rfl; (with_reducible repeat (first | refine kN ?_ _ | refine kD ?_ | refine kA ?_ _)); refine blk_put (cs := #[.string (⟨#[]⟩ : ByteArray), .string (⟨#[]⟩ : ByteArray)]) ?_ 0 _ rfl; (with_reducible repeat (first | refine kN ?_ _ | refine kD ?_ | refine kA ?_ _)); refine blk_far ?_ NB270_293.out _; (with_reducible repeat (first | refine kN ?_ _ | refine kD ?_ | refine kA ?_ _)); exact BK270.out) Tryd.underlying45 rfl (by kernel_rfl)) rfl ?_
       exact ⟨by first | rfl | (simp [errW_none, errW_some] <;> rfl) | (simp [*, errW_none, errW_some] <;> rfl), by repeat (first | (with_reducible first | exact HB.out | apply bA | apply bN | apply bD | refine below_set ?_ GE270.out | refine below_set ?_ GE287.out | refine below_set ?_ GE293.out) | exact HB.out)⟩
     ·rw [if_neg c21] at H
      exact absurd H (by simp)
 ·rw [if_neg c3] at H
  have c3b0 : (t286 == 0) = false := beq_eq_false_iff_ne.mpr c3
  have c3b1 : (t286 != 0) = true := bne_iff_ne.mpr c3
  simp only [Option.some.injEq, Prod.mk.injEq] at H
  obtain ⟨rfl, rfl, rfl⟩ := H
  go_enter Tryd.func19, Tryd.ntmps19
  go_wp2_with (first | ((with_reducible refine gate_dst (N := 2) rfl ?_); refine box_event ?hg (N := 2) ?hd (cs := #[.string (⟨#[]⟩ : ByteArray), .string (⟨#[]⟩ : ByteArray)]) (t := 45) ?hr ?_; (case hd => rfl); (case hg => rfl); (case hr => first | (go_simp; done) | (go_simp; rfl)); intro gb270 hg w54 hbox hb; have n0_ := Aside0.mk (below_step (by repeat (first | (with_reducible first | exact HB.out | apply bA | apply bN | apply bD) | exact HB.out)) hb); have n1_ := Aside0.mk (hbox); have n2_ := Aside0.mk ((by rw [hg]; exact (below_size (by repeat (first | (with_reducible first | exact HB.out | apply bA | apply bN | apply bD) | exact HB.out))) : w.heap.size ≤ gb270)); have n3_ := Aside0.mk ((by rw [hg]; exact (below_size (by repeat (first | (with_reducible first | exact HB.out | apply bA | apply bN | apply bD) | exact HB.out))) : w.heap.size ≤ gb270)); clear HB; have HB := n0_; have BK270 := n1_; have GW270 := n2_; have GE270 := n3_; clear n0_ n1_ n2_ n3_; clear hb hbox hg) | ((with_reducible refine gate_callee (f := 12) rfl ?_); refine goesL_ (some 10) rfl rfl Tryd.func12 (by kernel_rfl) rfl #[.slice A0 l0.length c0] rfl (by (try simp only [List.map_toArray, List.map_cons, List.map_nil]); first | done | rfl | (simp only [List.length_drop, List.length_take]; rfl)) ?_; (with_reducible refine (msh_Read.calls k _ _ l0 t271 t272 t273 t274 t275 t276 t277 t278 t279 t280 t281 t282 t283 t284 t285 t286 _ ?side1 ?side2 A2.out).mono ?_); (case side1 => repeat (first | exact (Kd.C_below HR0.out HB.out) | (with_reducible refine Kd.C_alloc ?_ _) | (with_reducible refine Kd.C_drewN ?_ _) | (with_reducible refine Kd.C_drew ?_))); (case side2 => exact HC0.out); rintro e w55 ⟨rfl, hb⟩; refine ⟨_, rfl, ?_⟩; have n0_ := Aside0.mk (blk_below (g := gb270) (o := .cells #[.string (⟨#[]⟩ : ByteArray), .string (⟨#[]⟩ : ByteArray)] 45 (0, 0)) (by (with_reducible repeat (first | refine kN ?_ _ | refine kD ?_ | refine kA ?_ _)); exact BK270.out) hb); have n1_ := Aside0.mk (below_step (by repeat (first | (with_reducible first | exact HB.out | apply bA | apply bN | apply bD | refine below_set ?_ GE270.out) | exact HB.out)) hb); clear BK270; clear HB; have BK270 := n0_; have HB := n1_; clear n0_ n1_; (try clear hb)) | ((with_reducible refine gate_dst (N := 4) rfl ?_); refine box_event ?hg (N := 4) ?hd (cs := #[.int .u8 0, .int .u8 0, .int .u8 0, .int .u8 0, .int .u8 0, .string (⟨#[]⟩ : ByteArray), .string (⟨#[]⟩ : ByteArray), .string (⟨#[]⟩ : ByteArray), .string (⟨#[]⟩ : ByteArray), .string (⟨#[]⟩ : ByteArray), .string (⟨#[]⟩ : ByteArray), .string (⟨#[]⟩ : ByteArray), .string (⟨#[]⟩ : ByteArray), .string (⟨#[]⟩ : ByteArray), .string (⟨#[]⟩ : ByteArray)]) (t := 25) ?hr ?_; (case hd => rfl); (case hg => rfl); (case hr => first | (go_simp; done) | (go_simp; rfl)); intro gb287 hg w56 hbox hb; have n0_ := Aside0.mk (blk_below (g := gb270) (o := .cells #[.string (⟨#[]⟩ : ByteArray), .string (⟨#[]⟩ : ByteArray)] 45 (0, 0)) (by (with_reducible repeat (first | refine kN ?_ _ | refine kD ?_ | refine kA ?_ _)); exact BK270.out) hb); have n1_ := Aside0.mk (below_step (by repeat (first | (with_reducible first | exact HB.out | apply bA | apply bN | apply bD | refine below_set ?_ GE270.out) | exact HB.out)) hb); have n2_ := Aside0.mk (hbox); have n3_ := Aside0.mk ((by rw [hg]; exact (below_size (by repeat (first | (with_reducible first | exact HB.out | apply bA | apply bN | apply bD | refine below_set ?_ GE270.out) | exact HB.out))) : w.heap.size ≤ gb287)); have n4_ := Aside0.mk ((by rw [hg]; exact (below_size (by repeat (first | (with_reducible first | exact HB.out | apply bA | apply bN | apply bD | refine below_set ?_ GE270.out) | exact HB.out))) : w.heap.size ≤ gb287)); have n5_ := Aside0.mk ((by rw [hg]; exact Nat.ne_of_lt (blk_lt (g := gb270) (o := .cells #[.string (⟨#[]⟩ : ByteArray), .string (⟨#[]⟩ : ByteArray)] 45 (0, 0)) (by (with_reducible repeat (first | refine kN ?_ _ | refine kD ?_ | refine kA ?_ _)); exact BK270.out)) : gb270 ≠ gb287)); have n6_ := Aside0.mk ((by rw [hg]; exact Nat.ne_of_gt (blk_lt (g := gb270) (o := .cells #[.string (⟨#[]⟩ : ByteArray), .string (⟨#[]⟩ : ByteArray)] 45 (0, 0)) (by (with_reducible repeat (first | refine kN ?_ _ | refine kD ?_ | refine kA ?_ _)); exact BK270.out)) : gb287 ≠ gb270)); clear BK270; clear HB; have BK270 := n0_; have HB := n1_; have BK287 := n2_; have GW287 := n3_; have GE287 := n4_; have NB270_287 := n5_; have NB287_270 := n6_; clear n0_ n1_ n2_ n3_ n4_ n5_ n6_; clear hb hbox hg; have hnb57 := NB287_270.out; have hnc57 := NB270_287.out; have hcz58_0 : w56.cell? ⟨gb287, 0, none⟩ = some (.int .u8 0) := blk_cell BK287.out 0; have hcz58_1 : w56.cell? ⟨gb287, 1, none⟩ = some (.int .u8 0) := blk_cell BK287.out 1; have hcz58_2 : w56.cell? ⟨gb287, 2, none⟩ = some (.int .u8 0) := blk_cell BK287.out 2; have hcz58_3 : w56.cell? ⟨gb287, 3, none⟩ = some (.int .u8 0) := blk_cell BK287.out 3; have hcz58_4 : w56.cell? ⟨gb287, 4, none⟩ = some (.int .u8 0) := blk_cell BK287.out 4; have hcz58_5 : w56.cell? ⟨gb287, 5, none⟩ = some (.string (⟨#[]⟩ : ByteArray)) := blk_cell BK287.out 5; have hcz58_6 : w56.cell? ⟨gb287, 6, none⟩ = some (.string (⟨#[]⟩ : ByteArray)) := blk_cell BK287.out 6; have hcz58_7 : w56.cell? ⟨gb287, 7, none⟩ = some (.string (⟨#[]⟩ : ByteArray)) := blk_cell BK287.out 7; have hcz58_8 : w56.cell? ⟨gb287, 8, none⟩ = some (.string (⟨#[]⟩ : ByteArray)) := blk_cell BK287.out 8; have hcz58_9 : w56.cell? ⟨gb287, 9, none⟩ = some (.string (⟨#[]⟩ : ByteArray)) := blk_cell BK287.out 9; have hcz58_10 : w56.cell? ⟨gb287, 10, none⟩ = some (.string (⟨#[]⟩ : ByteArray)) := blk_cell BK287.out 10; have hcz58_11 : w56.cell? ⟨gb287, 11, none⟩ = some (.string (⟨#[]⟩ : ByteArray)) := blk_cell BK287.out 11; have hcz58_12 : w56.cell? ⟨gb287, 12, none⟩ = some (.string (⟨#[]⟩ : ByteArray)) := blk_cell BK287.out 12; have hcz58_13 : w56.cell? ⟨gb287, 13, none⟩ = some (.string (⟨#[]⟩ : ByteArray)) := blk_cell BK287.out 13; have hcz58_14 : w56.cell? ⟨gb287, 14, none⟩ = some (.string (⟨#[]⟩ : ByteArray)) := blk_cell BK287.out 14; have hfz58_0 := blk_frozen BK287.out 0; have hfz58_1 := blk_frozen BK287.out 1; have hfz58_2 := blk_frozen BK287.out 2; have hfz58_3 := blk_frozen BK287.out 3; have hfz58_4 := blk_frozen BK287.out 4; have hfz58_5 := blk_frozen BK287.out 5; have hfz58_6 := blk_frozen BK287.out 6; have hfz58_7 := blk_frozen BK287.out 7; have hfz58_8 := blk_frozen BK287.out 8; have hfz58_9 := blk_frozen BK287.out 9; have hfz58_10 := blk_frozen BK287.out 10; have hfz58_11 := blk_frozen BK287.out 11; have hfz58_12 := blk_frozen BK287.out 12; have hfz58_13 := blk_frozen BK287.out 13; have hfz58_14 := blk_frozen BK287.out 14; have hcz59_0 : w56.cell? ⟨gb270, 0, none⟩ = some (.string (⟨#[]⟩ : ByteArray)) := blk_cell BK270.out 0; have hcz59_1 : w56.cell? ⟨gb270, 1, none⟩ = some (.string (⟨#[]⟩ : ByteArray)) := blk_cell BK270.out 1; have hfz59_0 := blk_frozen BK270.out 0; have hfz59_1 := blk_frozen BK270.out 1))
  refine bodyPost_ret (results_ct rfl _ _ gb270 45 #[.string (⟨#[]⟩ : ByteArray), .string (⟨#[]⟩ : ByteArray)] (0, 0) _ rfl (by (with_reducible repeat (first | refine kN ?_ _ | refine kD ?_ | refine kA ?_ _)); refine blk_put (cs := #[.string (⟨#[]⟩ : ByteArray), .string (⟨#[]⟩ : ByteArray)]) ?_ 1 _ rfl; (with_reducible repeat (first | refine kN ?_ _ | refine kD ?_ | refine kA ?_ _)); refine blk_put (cs := #[.string (⟨#[]⟩ : ByteArray), .string (⟨#[]⟩ : ByteArray)]) ?_ 0 _ rfl; (with_reducible repeat (first | refine kN ?_ _ | refine kD ?_ | refine kA ?_ _)); refine blk_far ?_ NB270_287.out _; (with_reducible repeat (first | refine kN ?_ _ | refine kD ?_ | refine kA ?_ _)); refine blk_far ?_ NB270_287.out _; (with_reducible repeat (first | refine kN ?_ _ | refine kD ?_ | refine kA ?_ _)); refine blk_far ?_ NB270_287.out _; (with_reducible repeat (first | refine kN ?_ _ | refine kD ?_ | refine kA ?_ _)); refine blk_far ?_ NB270_287.out _; (with_reducible repeat (first | refine kN ?_ _ | refine kD ?_ | refine kA ?_ _)); refine blk_far ?_ NB270_287.out _; (with_reducible repeat (first | refine kN ?_ _ | refine kD ?_ | refine kA ?_ _)); refine blk_far ?_ NB270_287.out _; (with_reducible repeat (first | refine kN ?_ _ | refine kD ?_ | refine kA ?_ _)); refine blk_far ?_ NB270_287.out _; (with_reducible repeat (first | refine kN ?_ _ | refine kD ?_ | refine kA ?_ _)); refine blk_far ?_ NB270_287.out _; (with_reducible repeat (first | refine kN ?_ _ | refine kD ?_ | refine kA ?_ _)); refine blk_far ?_ NB270_287.out _; (with_reducible repeat (first | refine kN ?_ _ | refine kD ?_ | refine kA ?_ _)); refine blk_far ?_ NB270_287.out _; (with_reducible repeat (first | refine kN ?_ _ | refine kD ?_ | refine kA ?_ _)); refine blk_far ?_ NB270_287.out _; (with_reducible repeat (first | refine kN ?_ _ | refine kD ?_ | refine kA ?_ _)); refine blk_far ?_ NB270_287.out _; (with_reducible repeat (first | refine kN ?_ _ | refine kD ?_ | refine kA ?_ _)); refine blk_far ?_ NB270_287.out _; (with_reducible repeat (first | refine kN ?_ _ | refine kD ?_ | refine kA ?_ _)); refine blk_far ?_ NB270_287.out _; (with_reducible repeat (first | refine kN ?_ _ | refine kD ?_ | refine kA ?_ _)); refine blk_far ?_ NB270_287.out _; (with_reducible repeat (first | refine kN ?_ _ | refine kD ?_ | refine kA ?_ _)); exact BK270.out) Tryd.underlying45 rfl (by kernel_rfl)) rfl ?_
  exact ⟨by first | rfl | (simp [errW_none, errW_some] <;> rfl) | (simp [*, errW_none, errW_some] <;> rfl), by repeat (first | (with_reducible first | exact HB.out | apply bA | apply bN | apply bD | refine below_set ?_ GE270.out | refine below_set ?_ GE287.out) | exact HB.out)⟩

end Go.Proofs.YtcjcaojgminjpabDoor.PB
