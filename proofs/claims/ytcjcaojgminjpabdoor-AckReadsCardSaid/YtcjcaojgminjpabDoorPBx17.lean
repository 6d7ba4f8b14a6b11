-- Written by a program of this work (the kit's print, with contracts of this work's own taken in) out of the translation. Not trusted: Lean checks it.
import Derived.Test.YtcjcaojgminjpabDoorPBx0
import Derived.Test.YtcjcaojgminjpabDoorPBx10
import Derived.Test.YtcjcaojgminjpabDoorPBx12
import Derived.Test.YtcjcaojgminjpabDoorPBx13
import Derived.Test.YtcjcaojgminjpabDoorPBx16
namespace Go.Proofs.YtcjcaojgminjpabDoor.PB
open Go.RowKit Go.Proofs.YtcjcaojgminjpabDoorW.PrintWords Go.Proofs.YtcjcaojgminjpabDoorW.PrintLast Go.Proofs.YtcjcaojgminjpabDoorW.PrintMore
set_option maxHeartbeats 8000000
set_option maxRecDepth 100000
attribute [local go_sem] max2_int min2_int max_two min_two max_three min_three max_four min_four   -- for this text's walks alone
set_option linter.unusedVariables false
set_option linter.unusedSimpArgs false

/-! ### lamplighterref10_Read: function 20 -/
def lamplighterref10_Read.j0 : Nat → List ByteArray → Bool → Int → Int → Int → Int → Int → ByteArray → ByteArray → ByteArray → ByteArray → ByteArray → ByteArray → ByteArray → ByteArray → ByteArray → ByteArray → Option (ByteArray × ByteArray × Int)
 | 0, _, _, _, _, _, _, _, _, _, _, _, _, _, _, _, _, _ => none
 | k + 1, x6, x31, x324000, x324001, x324002, x324003, x324004, x324005, x324006, x324007, x324008, x324009, x324010, x324011, x324012, x324013, x324014 => if x31 = true then (some ((⟨#[]⟩ : ByteArray), (⟨#[]⟩ : ByteArray), 10)) else (if 1 < (x6.length : Int) then ((lamplighterref08_Field.f k (rdOf ByteArray.empty x6 1) 1 x324000 x324001 x324002 x324003 x324004).bind fun bt330 => ((lamplighterref08_Field.f k (rdOf ByteArray.empty x6 1) 2 x324000 x324001 x324002 x324003 x324004).bind fun bt333 => ((lamplighterref10_Known.f bt330.1).bind fun t335 => (if t335 = true then (some (bt330.1, bt333.1, 0)) else (some ((⟨#[]⟩ : ByteArray), (⟨#[]⟩ : ByteArray), 17)))))) else (none))
def lamplighterref10_Read.f (k : Nat) (l0 : List Int) : Option (ByteArray × ByteArray × Int) := (lamplighterref09_Read.f k l0).bind fun bt307 => (if bt307.2.2.2.2.2.2.2.2.2.2.2.2.2.2.2 = 0 then ((lamplighterref08_Split.f k l0).bind fun t324 => (if (t324.length : Int) < 2 then (lamplighterref10_Read.j0 k t324 true bt307.1 bt307.2.1 bt307.2.2.1 bt307.2.2.2.1 bt307.2.2.2.2.1 bt307.2.2.2.2.2.1 bt307.2.2.2.2.2.2.1 bt307.2.2.2.2.2.2.2.1 bt307.2.2.2.2.2.2.2.2.1 bt307.2.2.2.2.2.2.2.2.2.1 bt307.2.2.2.2.2.2.2.2.2.2.1 bt307.2.2.2.2.2.2.2.2.2.2.2.1 bt307.2.2.2.2.2.2.2.2.2.2.2.2.1 bt307.2.2.2.2.2.2.2.2.2.2.2.2.2.1 bt307.2.2.2.2.2.2.2.2.2.2.2.2.2.2.1) else (if 1 < (t324.length : Int) then ((lamplighterref08_Name.f (rdOf ByteArray.empty t324 1)).bind fun t328 => (lamplighterref10_Read.j0 k t324 (t328.toList != ([77, 83, 65] : List UInt8)) bt307.1 bt307.2.1 bt307.2.2.1 bt307.2.2.2.1 bt307.2.2.2.2.1 bt307.2.2.2.2.2.1 bt307.2.2.2.2.2.2.1 bt307.2.2.2.2.2.2.2.1 bt307.2.2.2.2.2.2.2.2.1 bt307.2.2.2.2.2.2.2.2.2.1 bt307.2.2.2.2.2.2.2.2.2.2.1 bt307.2.2.2.2.2.2.2.2.2.2.2.1 bt307.2.2.2.2.2.2.2.2.2.2.2.2.1 bt307.2.2.2.2.2.2.2.2.2.2.2.2.2.1 bt307.2.2.2.2.2.2.2.2.2.2.2.2.2.2.1)) else (none)))) else (some ((⟨#[]⟩ : ByteArray), (⟨#[]⟩ : ByteArray), bt307.2.2.2.2.2.2.2.2.2.2.2.2.2.2.2)))
theorem lamplighterref10_Read.mono_l : ∀ k, (∀ y0 y1 y2 y3 y4 y5 y6 y7 y8 y9 y10 y11 y12 y13 y14 y15 y16, LeO (lamplighterref10_Read.j0 k y0 y1 y2 y3 y4 y5 y6 y7 y8 y9 y10 y11 y12 y13 y14 y15 y16) (lamplighterref10_Read.j0 (k + 1) y0 y1 y2 y3 y4 y5 y6 y7 y8 y9 y10 y11 y12 y13 y14 y15 y16))
 | 0 => fun _ _ _ _ _ _ _ _ _ _ _ _ _ _ _ _ _ r h => by simp [lamplighterref10_Read.j0] at h
 | k + 1 => by
  have ih0 := lamplighterref10_Read.mono_l k
  ·intro y0 y1 y2 y3 y4 y5 y6 y7 y8 y9 y10 y11 y12 y13 y14 y15 y16
   unfold lamplighterref10_Read.j0
   repeat' first
   | (with_reducible exact ih0 _ _ _ _ _ _ _ _ _ _ _ _ _ _ _ _ _)
   | (with_reducible exact lamplighterref08_Field.mono _ _ _ _ _ _ _ _)
   | (with_reducible exact lamplighterref08_Split.mono _ _)
   | (with_reducible exact lamplighterref09_Read.mono _ _)
   | (with_reducible exact LeO.refl _)
   | (with_reducible exact LeO.none _)
   | (with_reducible refine LeO.ite ?_ ?_)
   | (with_reducible refine LeO.bind ?_ (fun _ => ?_))
   | exact ih0 _ _ _ _ _ _ _ _ _ _ _ _ _ _ _ _ _
   | exact lamplighterref08_Field.mono _ _ _ _ _ _ _ _
   | exact lamplighterref08_Split.mono _ _
   | exact lamplighterref09_Read.mono _ _
   | exact LeO.none _
   | refine LeO.ite ?_ ?_
   | refine LeO.bind ?_ (fun _ => ?_)
theorem lamplighterref10_Read.mono : ∀ a0 k, LeO (lamplighterref10_Read.f k a0) (lamplighterref10_Read.f (k + 1) a0) := by
 intro a0 k
 have ih0 := lamplighterref10_Read.mono_l k
 unfold lamplighterref10_Read.f
 repeat' first
   | (with_reducible exact ih0 _ _ _ _ _ _ _ _ _ _ _ _ _ _ _ _ _)
   | (with_reducible exact lamplighterref08_Field.mono _ _ _ _ _ _ _ _)
   | (with_reducible exact lamplighterref08_Split.mono _ _)
   | (with_reducible exact lamplighterref09_Read.mono _ _)
   | (with_reducible exact LeO.refl _)
   | (with_reducible exact LeO.none _)
   | (with_reducible refine LeO.ite ?_ ?_)
   | (with_reducible refine LeO.bind ?_ (fun _ => ?_))
   | exact ih0 _ _ _ _ _ _ _ _ _ _ _ _ _ _ _ _ _
   | exact lamplighterref08_Field.mono _ _ _ _ _ _ _ _
   | exact lamplighterref08_Split.mono _ _
   | exact lamplighterref09_Read.mono _ _
   | exact LeO.none _
   | refine LeO.ite ?_ ?_
   | refine LeO.bind ?_ (fun _ => ?_)
def lamplighterref10_Read.T7 : Bool × List (List Nat × List Nat) := (true, [([], []), ([0], [0]), ([1], [1]), ([], []), ([3], [3]), ([2, 4], [2, 4]), ([5], [5]), ([6], [6]), ([6], [6]), ([7, 5, 0, 1, 2, 3, 4, 5, 6, 7], [7]), ([8, 9, 0, 1, 2, 3, 4, 5, 6, 7, 8, 9], [8])])
def lamplighterref10_Read.B7 : List Nat := [0, 1, 3, 0, 8, 31, 63, 127, 127, 255, 1023]
theorem lamplighterref10_Read.tab7 : rtab .any (opsOf Tryd.f20 7) = lamplighterref10_Read.T7 := by kernel_rfl
theorem lamplighterref10_Read.bits7 : waitsOk lamplighterref10_Read.T7.2 lamplighterref10_Read.B7 = true := by kernel_rfl
def lamplighterref10_Read.T8 : Bool × List (List Nat × List Nat) := (true, [([], []), ([0], [0]), ([1], [1]), ([], []), ([3], [3]), ([2, 4], [2, 4]), ([5], [5]), ([6], [6]), ([6], [6]), ([7, 5, 0, 1, 2, 3, 4, 5, 6, 7], [7]), ([8, 9, 0, 1, 2, 3, 4, 5, 6, 7, 8, 9], [8])])
def lamplighterref10_Read.B8 : List Nat := [0, 1, 3, 0, 8, 31, 63, 127, 127, 255, 1023]
theorem lamplighterref10_Read.tab8 : rtab .any (opsOf Tryd.f20 8) = lamplighterref10_Read.T8 := by kernel_rfl
theorem lamplighterref10_Read.bits8 : waitsOk lamplighterref10_Read.T8.2 lamplighterref10_Read.B8 = true := by kernel_rfl
theorem lamplighterref10_Read.calls (k : Nat) (A0 : Option Addr) (c0 : Nat) (l0 : List Int) (r1 : ByteArray) (r2 : ByteArray) (r3 : Int) (w : World) (hr0 : Kd.C (Kd.int .u8) w A0 l0.length l0) (hc0 : l0.length ≤ c0) (h : lamplighterref10_Read.f k l0 = some (r1, r2, r3)) :
  Calls Tryd.prog 20 #[.slice A0 l0.length c0] w fun e w' => e = .returned (.tuple #[.agg #[.string r1, .string r2], .int .i64 r3]) ∧ Below w.heap.size w w' := by
 have hu45 := Tryd.underlying45
 have hu25 := Tryd.underlying25
 have hu23 := Tryd.underlying23
 have HR0 := Aside0.mk hr0
 have HC0 := Aside0.mk hc0
 clear hr0 hc0
 have HB := Aside0.mk (Below.refl w.heap.size w)
 have H : ((lamplighterref09_Read.f k l0).bind fun bt307 => (if bt307.2.2.2.2.2.2.2.2.2.2.2.2.2.2.2 = 0 then ((lamplighterref08_Split.f k l0).bind fun t324 => (if (t324.length : Int) < 2 then (lamplighterref10_Read.j0 k t324 true bt307.1 bt307.2.1 bt307.2.2.1 bt307.2.2.2.1 bt307.2.2.2.2.1 bt307.2.2.2.2.2.1 bt307.2.2.2.2.2.2.1 bt307.2.2.2.2.2.2.2.1 bt307.2.2.2.2.2.2.2.2.1 bt307.2.2.2.2.2.2.2.2.2.1 bt307.2.2.2.2.2.2.2.2.2.2.1 bt307.2.2.2.2.2.2.2.2.2.2.2.1 bt307.2.2.2.2.2.2.2.2.2.2.2.2.1 bt307.2.2.2.2.2.2.2.2.2.2.2.2.2.1 bt307.2.2.2.2.2.2.2.2.2.2.2.2.2.2.1) else (if 1 < (t324.length : Int) then ((lamplighterref08_Name.f (rdOf ByteArray.empty t324 1)).bind fun t328 => (lamplighterref10_Read.j0 k t324 (t328.toList != ([77, 83, 65] : List UInt8)) bt307.1 bt307.2.1 bt307.2.2.1 bt307.2.2.2.1 bt307.2.2.2.2.1 bt307.2.2.2.2.2.1 bt307.2.2.2.2.2.2.1 bt307.2.2.2.2.2.2.2.1 bt307.2.2.2.2.2.2.2.2.1 bt307.2.2.2.2.2.2.2.2.2.1 bt307.2.2.2.2.2.2.2.2.2.2.1 bt307.2.2.2.2.2.2.2.2.2.2.2.1 bt307.2.2.2.2.2.2.2.2.2.2.2.2.1 bt307.2.2.2.2.2.2.2.2.2.2.2.2.2.1 bt307.2.2.2.2.2.2.2.2.2.2.2.2.2.2.1)) else (none)))) else (some ((⟨#[]⟩ : ByteArray), (⟨#[]⟩ : ByteArray), bt307.2.2.2.2.2.2.2.2.2.2.2.2.2.2.2)))) = some (r1, r2, r3) := h
 clear h
 replace H := Option.bind_eq_some_iff.mp H
 obtain ⟨⟨t307, t308, t309, t310, t311, t312, t313, t314, t315, t316, t317, t318, t319, t320, t321, t322⟩, A20, H⟩ := H
 replace H : (if t322 = 0 then ((lamplighterref08_Split.f k l0).bind fun t324 => (if (t324.length : Int) < 2 then (lamplighterref10_Read.j0 k t324 true t307 t308 t309 t310 t311 t312 t313 t314 t315 t316 t317 t318 t319 t320 t321) else (if 1 < (t324.length : Int) then ((lamplighterref08_Name.f (rdOf ByteArray.empty t324 1)).bind fun t328 => (lamplighterref10_Read.j0 k t324 (t328.toList != ([77, 83, 65] : List UInt8)) t307 t308 t309 t310 t311 t312 t313 t314 t315 t316 t317 t318 t319 t320 t321)) else (none)))) else (some ((⟨#[]⟩ : ByteArray), (⟨#[]⟩ : ByteArray), t322))) = some (r1, r2, r3) := H
 have A2 := Aside0.mk A20
 clear A20
 by_cases c3 : t322 = 0
 ·rw [if_pos c3] at H
  have c3b0 : (t322 == 0) = true := beq_iff_eq.mpr c3
  have c3b1 : (t322 != 0) = false := bne_eq_false_iff_eq.mpr c3
  clear c3
  replace H := Option.bind_eq_some_iff.mp H
  obtain ⟨t324, A40, H⟩ := H
  replace H : (if (t324.length : Int) < 2 then (lamplighterref10_Read.j0 k t324 true t307 t308 t309 t310 t311 t312 t313 t314 t315 t316 t317 t318 t319 t320 t321) else (if 1 < (t324.length : Int) then ((lamplighterref08_Name.f (rdOf ByteArray.empty t324 1)).bind fun t328 => (lamplighterref10_Read.j0 k t324 (t328.toList != ([77, 83, 65] : List UInt8)) t307 t308 t309 t310 t311 t312 t313 t314 t315 t316 t317 t318 t319 t320 t321)) else (none))) = some (r1, r2, r3) := H
  have A4 := Aside0.mk A40
  clear A40
  have HC5 := Aside0.mk H
  clear H
  go_enter Tryd.func20, Tryd.ntmps20
  go_upto_region 5 with (first | ((with_reducible refine gate_dst (N := 2) rfl ?_); refine box_event ?hg (N := 2) ?hd (cs := #[.string (⟨#[]⟩ : ByteArray), .string (⟨#[]⟩ : ByteArray)]) (t := 45) ?hr ?_; (case hd => rfl); (case hg => rfl); (case hr => first | (go_simp; done) | (go_simp; rfl)); intro gb306 hg w6 hbox hb; have n0_ := Aside0.mk (below_step (by repeat (first | (with_reducible first | exact HB.out | apply bA | apply bN | apply bD) | exact HB.out)) hb); have n1_ := Aside0.mk (hbox); have n2_ := Aside0.mk ((by rw [hg]; exact (below_size (by repeat (first | (with_reducible first | exact HB.out | apply bA | apply bN | apply bD) | exact HB.out))) : w.heap.size ≤ gb306)); have n3_ := Aside0.mk ((by rw [hg]; exact (below_size (by repeat (first | (with_reducible first | exact HB.out | apply bA | apply bN | apply bD) | exact HB.out))) : w.heap.size ≤ gb306)); clear HB; have HB := n0_; have BK306 := n1_; have GW306 := n2_; have GE306 := n3_; clear n0_ n1_ n2_ n3_; clear hb hbox hg) | ((with_reducible refine gate_callee (f := 40) rfl ?_); refine goesL_ (some 13) rfl rfl Tryd.func40 (by kernel_rfl) rfl #[.slice A0 l0.length c0] rfl (by (try simp only [List.map_toArray, List.map_cons, List.map_nil]); first | done | rfl | (simp only [List.length_drop, List.length_take]; rfl)) ?_; (with_reducible refine (lamplighterref09_Read.calls k _ _ l0 t307 t308 t309 t310 t311 t312 t313 t314 t315 t316 t317 t318 t319 t320 t321 t322 _ ?side1 ?side2 A2.out).mono ?_); (case side1 => repeat (first | exact (Kd.C_below HR0.out HB.out) | (with_reducible refine Kd.C_alloc ?_ _) | (with_reducible refine Kd.C_drewN ?_ _) | (with_reducible refine Kd.C_drew ?_))); (case side2 => exact HC0.out); rintro e w7 ⟨rfl, hb⟩; refine ⟨_, rfl, ?_⟩; have n0_ := Aside0.mk (blk_below (g := gb306) (o := .cells #[.string (⟨#[]⟩ : ByteArray), .string (⟨#[]⟩ : ByteArray)] 45 (0, 0)) (by (with_reducible repeat (first | refine kN ?_ _ | refine kD ?_ | refine kA ?_ _)); exact BK306.out) hb); have n1_ := Aside0.mk (below_step (by repeat (first | (with_reducible first | exact HB.out | apply bA | apply bN | apply bD | refine below_set ?_ GE306.out) | exact HB.out)) hb); clear BK306; clear HB; have BK306 := n0_; have HB := n1_; clear n0_ n1_; (try clear hb)) | ((with_reducible refine gate_dst (N := 4) rfl ?_); refine box_event ?hg (N := 4) ?hd (cs := #[.int .u8 0, .int .u8 0, .int .u8 0, .int .u8 0, .int .u8 0, .string (⟨#[]⟩ : ByteArray), .string (⟨#[]⟩ : ByteArray), .string (⟨#[]⟩ : ByteArray), .string (⟨#[]⟩ : ByteArray), .string (⟨#[]⟩ : ByteArray), .string (⟨#[]⟩ : ByteArray), .string (⟨#[]⟩ : ByteArray), .string (⟨#[]⟩ : ByteArray), .string (⟨#[]⟩ : ByteArray), .string (⟨#[]⟩ : ByteArray)]) (t := 25) ?hr ?_; (case hd => rfl); (case hg => rfl); (case hr => first | (go_simp; done) | (go_simp; rfl)); intro gb323 hg w8 hbox hb; have n0_ := Aside0.mk (blk_below (g := gb306) (o := .cells #[.string (⟨#[]⟩ : ByteArray), .string (⟨#[]⟩ : ByteArray)] 45 (0, 0)) (by (with_reducible repeat (first | refine kN ?_ _ | refine kD ?_ | refine kA ?_ _)); exact BK306.out) hb); have n1_ := Aside0.mk (below_step (by repeat (first | (with_reducible first | exact HB.out | apply bA | apply bN | apply bD | refine below_set ?_ GE306.out) | exact HB.out)) hb); have n2_ := Aside0.mk (hbox); have n3_ := Aside0.mk ((by rw [hg]; exact (below_size (by repeat (first | (with_reducible first | exact HB.out | apply bA | apply bN | apply bD | refine below_set ?_ GE306.out) | exact HB.out))) : w.heap.size ≤ gb323)); have n4_ := Aside0.mk ((by rw [hg]; exact (below_size (by repeat (first | (with_reducible first | exact HB.out | apply bA | apply bN | apply bD | refine below_set ?_ GE306.out) | exact HB.out))) : w.heap.size ≤ gb323)); have n5_ := Aside0.mk ((by rw [hg]; exact Nat.ne_of_lt (blk_lt (g := gb306) (o := .cells #[.string (⟨#[]⟩ : ByteArray), .string (⟨#[]⟩ : ByteArray)] 45 (0, 0)) (by (with_reducible repeat (first | refine kN ?_ _ | refine kD ?_ | refine kA ?_ _)); exact BK306.out)) : gb306 ≠ gb323)); have n6_ := Aside0.mk ((by rw [hg]; exact Nat.ne_of_gt (blk_lt (g := gb306) (o := .cells #[.string (⟨#[]⟩ : ByteArray), .string (⟨#[]⟩ : ByteArray)] 45 (0, 0)) (by (with_reducible repeat (first | refine kN ?_ _ | refine kD ?_ | refine kA ?_ _)); exact BK306.out)) : gb323 ≠ gb306)); clear BK306; clear HB; have BK306 := n0_; have HB := n1_; have BK323 := n2_; have GW323 := n3_; have GE323 := n4_; have NB306_323 := n5_; have NB323_306 := n6_; clear n0_ n1_ n2_ n3_ n4_ n5_ n6_; clear hb hbox hg; have hnb9 := NB323_306.out; have hnc9 := NB306_323.out; have hcz10_0 : w8.cell? ⟨gb323, 0, none⟩ = some (.int .u8 0) := blk_cell BK323.out 0; have hcz10_1 : w8.cell? ⟨gb323, 1, none⟩ = some (.int .u8 0) := blk_cell BK323.out 1; have hcz10_2 : w8.cell? ⟨gb323, 2, none⟩ = some (.int .u8 0) := blk_cell BK323.out 2; have hcz10_3 : w8.cell? ⟨gb323, 3, none⟩ = some (.int .u8 0) := blk_cell BK323.out 3; have hcz10_4 : w8.cell? ⟨gb323, 4, none⟩ = some (.int .u8 0) := blk_cell BK323.out 4; have hcz10_5 : w8.cell? ⟨gb323, 5, none⟩ = some (.string (⟨#[]⟩ : ByteArray)) := blk_cell BK323.out 5; have hcz10_6 : w8.cell? ⟨gb323, 6, none⟩ = some (.string (⟨#[]⟩ : ByteArray)) := blk_cell BK323.out 6; have hcz10_7 : w8.cell? ⟨gb323, 7, none⟩ = some (.string (⟨#[]⟩ : ByteArray)) := blk_cell BK323.out 7; have hcz10_8 : w8.cell? ⟨gb323, 8, none⟩ = some (.string (⟨#[]⟩ : ByteArray)) := blk_cell BK323.out 8; have hcz10_9 : w8.cell? ⟨gb323, 9, none⟩ = some (.string (⟨#[]⟩ : ByteArray)) := blk_cell BK323.out 9; have hcz10_10 : w8.cell? ⟨gb323, 10, none⟩ = some (.string (⟨#[]⟩ : ByteArray)) := blk_cell BK323.out 10; have hcz10_11 : w8.cell? ⟨gb323, 11, none⟩ = some (.string (⟨#[]⟩ : ByteArray)) := blk_cell BK323.out 11; have hcz10_12 : w8.cell? ⟨gb323, 12, none⟩ = some (.string (⟨#[]⟩ : ByteArray)) := blk_cell BK323.out 12; have hcz10_13 : w8.cell? ⟨gb323, 13, none⟩ = some (.string (⟨#[]⟩ : ByteArray)) := blk_cell BK323.out 13; have hcz10_14 : w8.cell? ⟨gb323, 14, none⟩ = some (.string (⟨#[]⟩ : ByteArray)) := blk_cell BK323.out 14; have hfz10_0 := blk_frozen BK323.out 0; have hfz10_1 := blk_frozen BK323.out 1; have hfz10_2 := blk_frozen BK323.out 2; have hfz10_3 := blk_frozen BK323.out 3; have hfz10_4 := blk_frozen BK323.out 4; have hfz10_5 := blk_frozen BK323.out 5; have hfz10_6 := blk_frozen BK323.out 6; have hfz10_7 := blk_frozen BK323.out 7; have hfz10_8 := blk_frozen BK323.out 8; have hfz10_9 := blk_frozen BK323.out 9; have hfz10_10 := blk_frozen BK323.out 10; have hfz10_11 := blk_frozen BK323.out 11; have hfz10_12 := blk_frozen BK323.out 12; have hfz10_13 := blk_frozen BK323.out 13; have hfz10_14 := blk_frozen BK323.out 14) | ((with_reducible refine gate_callee (f := 42) rfl ?_); refine goesL_ (some 21) rfl rfl Tryd.func42 (by kernel_rfl) rfl #[.slice A0 l0.length c0] rfl (by (try simp only [List.map_toArray, List.map_cons, List.map_nil]); first | done | rfl | (simp only [List.length_drop, List.length_take]; rfl)) ?_; (with_reducible refine (lamplighterref08_Split.calls k _ _ l0 t324 _ ?side1 ?side2 A4.out).mono ?_); (case side1 => exact Kd.C_below HR0.out (by repeat (first | (with_reducible first | exact HB.out | apply bA | apply bN | apply bD | refine below_set ?_ GE306.out | refine below_set ?_ GE323.out) | exact HB.out))); (case side2 => exact HC0.out); rintro e w11 ⟨v325, rfl, ho0, hb⟩; refine ⟨_, rfl, ?_⟩; have n0_ := Aside0.mk (Kd.R_lower ho0 (below_size (by repeat (first | (with_reducible first | exact HB.out | apply bA | apply bN | apply bD | refine below_set ?_ GE306.out | refine below_set ?_ GE323.out) | exact HB.out)))); have n1_ := Aside0.mk (blk_below (g := gb306) (o := .cells #[.string (⟨#[]⟩ : ByteArray), .string (⟨#[]⟩ : ByteArray)] 45 (0, 0)) (by (with_reducible repeat (first | refine kN ?_ _ | refine kD ?_ | refine kA ?_ _)); refine blk_far ?_ NB306_323.out _; (with_reducible repeat (first | refine kN ?_ _ | refine kD ?_ | refine kA ?_ _)); refine blk_far ?_ NB306_323.out _; (with_reducible repeat (first | refine kN ?_ _ | refine kD ?_ | refine kA ?_ _)); refine blk_far ?_ NB306_323.out _; (with_reducible repeat (first | refine kN ?_ _ | refine kD ?_ | refine kA ?_ _)); refine blk_far ?_ NB306_323.out _; (with_reducible repeat (first | refine kN ?_ _ | refine kD ?_ | refine kA ?_ _)); refine blk_far ?_ NB306_323.out _; (with_reducible repeat (first | refine kN ?_ _ | refine kD ?_ | refine kA ?_ _)); refine blk_far ?_ NB306_323.out _; (with_reducible repeat (first | refine kN ?_ _ | refine kD ?_ | refine kA ?_ _)); refine blk_far ?_ NB306_323.out _; (with_reducible repeat (first | refine kN ?_ _ | refine kD ?_ | refine kA ?_ _)); refine blk_far ?_ NB306_323.out _; (with_reducible repeat (first | refine kN ?_ _ | refine kD ?_ | refine kA ?_ _)); refine blk_far ?_ NB306_323.out _; (with_reducible repeat (first | refine kN ?_ _ | refine kD ?_ | refine kA ?_ _)); refine blk_far ?_ NB306_323.out _; (with_reducible repeat (first | refine kN ?_ _ | refine kD ?_ | refine kA ?_ _)); refine blk_far ?_ NB306_323.out _; (with_reducible repeat (first | refine kN ?_ _ | refine kD ?_ | refine kA ?_ _)); refine blk_far ?_ NB306_323.out _; (with_reducible repeat (first | refine kN ?_ _ | refine kD ?_ | refine kA ?_ _)); refine blk_far ?_ NB306_323.out _; (with_reducible repeat (first | refine kN ?_ _ | refine kD ?_ | refine kA ?_ _)); refine blk_far ?_ NB306_323.out _; (with_reducible repeat (first | refine kN ?_ _ | refine kD ?_ | refine kA ?_ _)); refine blk_far ?_ NB306_323.out _; (with_reducible repeat (first | refine kN ?_ _ | refine kD ?_ | refine kA ?_ _)); exact BK306.out) hb); have n2_ := Aside0.mk (blk_below (g := gb323) (o := .cells #[.int .u8 t307, .int .u8 t308, .int .u8 t309, .int .u8 t310, .int .u8 t311, .string t312, .string t313, .string t314, .string t315, .string t316, .string t317, .string t318, .string t319, .string t320, .string t321] 25 (0, 0)) (by (with_reducible repeat (first | refine kN ?_ _ | refine kD ?_ | refine kA ?_ _)); refine blk_put (cs := #[.int .u8 t307, .int .u8 t308, .int .u8 t309, .int .u8 t310, .int .u8 t311, .string t312, .string t313, .string t314, .string t315, .string t316, .string t317, .string t318, .string t319, .string t320, .string (⟨#[]⟩ : ByteArray)]) ?_ 14 _ rfl; (with_reducible repeat (first | refine kN ?_ _ | refine kD ?_ | refine kA ?_ _)); refine blk_put (cs := #[.int .u8 t307, .int .u8 t308, .int .u8 t309, .int .u8 t310, .int .u8 t311, .string t312, .string t313, .string t314, .string t315, .string t316, .string t317, .string t318, .string t319, .string (⟨#[]⟩ : ByteArray), .string (⟨#[]⟩ : ByteArray)]) ?_ 13 _ rfl; (with_reducible repeat (first | refine kN ?_ _ | refine kD ?_ | refine kA ?_ _)); refine blk_put (cs := #[.int .u8 t307, .int .u8 t308, .int .u8 t309, .int .u8 t310, .int .u8 t311, .string t312, .string t313, .string t314, .string t315, .string t316, .string t317, .string t318, .string (⟨#[]⟩ : ByteArray), .string (⟨#[]⟩ : ByteArray), .string (⟨#[]⟩ : ByteArray)]) ?_ 12 _ rfl; (with_reducible repeat (first | refine kN ?_ _ | refine kD ?_ | refine kA ?_ _)); refine blk_put (cs := #[.int .u8 t307, .int .u8 t308, .int .u8 t309, .int .u8 t310, .int .u8 t311, .string t312, .string t313, .string t314, .string t315, .string t316, .string t317, .string (⟨#[]⟩ : ByteArray), .string (⟨#[]⟩ : ByteArray), .string (⟨#[]⟩ : ByteArray), .string (⟨#[]⟩ : ByteArray)]) ?_ 11 _ rfl; (with_reducible repeat (first | refine kN ?_ _ | refine kD ?_ | refine kA ?_ _)); refine blk_put (cs := #[.int .u8 t307, .int .u8 t308, .int .u8 t309, .int .u8 t310, .int .u8 t311, .string t312, .string t313, .string t314, .string t315, .string t316, .string (⟨#[]⟩ : ByteArray), .string (⟨#[]⟩ : ByteArray), .string (⟨#[]⟩ : ByteArray), .string (⟨#[]⟩ : ByteArray), .string (⟨#[]⟩ : ByteArray)]) ?_ 10 _ rfl; (with_reducible repeat (first | refine kN ?_ _ | refine kD ?_ | refine kA ?_ _)); refine blk_put (cs := #[.int .u8 t307, .int .u8 t308, .int .u8 t309, .int .u8 t310, .int .u8 t311, .string t312, .string t313, .string t314, .string t315, .string (⟨#[]⟩ : ByteArray), .string (⟨#[]⟩ : ByteArray), .string (⟨#[]⟩ : ByteArray), .string (⟨#[]⟩ : ByteArray), .string (⟨#[]⟩ : ByteArray), .string (⟨#[]⟩ : ByteArray)]) ?_ 9 _ rfl; (with_reducible repeat (first | refine kN ?_ _ | refine kD ?_ | refine kA ?_ _)); refine blk_put (cs := #[.int .u8 t307, .int .u8 t308, .int .u8 t309, .int .u8 t310, .int .u8 t311, .string t312, .string t313, .string t314, .string (⟨#[]⟩ : ByteArray), .string (⟨#[]⟩ : ByteArray), .string (⟨#[]⟩ : ByteArray), .string (⟨#[]⟩ : ByteArray), .string (⟨#[]⟩ : ByteArray), .string (⟨#[]⟩ : ByteArray), .string (⟨#[]⟩ : ByteArray)]) ?_ 8 _ rfl; (with_reducible repeat (first | refine kN ?_ _ | refine kD ?_ | refine kA ?_ _)); refine blk_put (cs := #[.int .u8 t307, .int .u8 t308, .int .u8 t309, .int .u8 t310, .int .u8 t311, .string t312, .string t313, .string (⟨#[]⟩ : ByteArray), .string (⟨#[]⟩ : ByteArray), .string (⟨#[]⟩ : ByteArray), .string (⟨#[]⟩ : ByteArray), .string (⟨#[]⟩ : ByteArray), .string (⟨#[]⟩ : ByteArray), .string (⟨#[]⟩ : ByteArray), .string (⟨#[]⟩ : ByteArray)]) ?_ 7 _ rfl; (with_reducible repeat (first | refine kN ?_ _ | refine kD ?_ | refine kA ?_ _)); refine blk_put (cs := #[.int .u8 t307, .int .u8 t308, .int .u8 t309, .int .u8 t310, .int .u8 t311, .string t312, .string (⟨#[]⟩ : ByteArray), .string (⟨#[]⟩ : ByteArray), .string (⟨#[]⟩ : ByteArray), .string (⟨#[]⟩ : ByteArray), .string (⟨#[]⟩ : ByteArray), .string (⟨#[]⟩ : ByteArray), .string (⟨#[]⟩ : ByteArray), .string (⟨#[]⟩ : ByteArray), .string (⟨#[]⟩ : ByteArray)]) ?_ 6 _ rfl; (with_reducible repeat (first | refine kN ?_ _ | refine kD ?_ | refine kA ?_ _)); refine blk_put (cs := #[.int .u8 t307, .int .u8 t308, .int .u8 t309, .int .u8 t310, .int .u8 t311, .string (⟨#[]⟩ : ByteArray), .string (⟨#[]⟩ : ByteArray), .string (⟨#[]⟩ : ByteArray), .string (⟨#[]⟩ : ByteArray), .string (⟨#[]⟩ : ByteArray), .string (⟨#[]⟩ : ByteArray), .string (⟨#[]⟩ : ByteArray), .string (⟨#[]⟩ : ByteArray), .string (⟨#[]⟩ : ByteArray), .string (⟨#[]⟩ : ByteArray)]) ?_ 5 _ rfl; (with_reducible repeat (first | refine kN ?_ _ | refine kD ?_ | refine kA ?_ _)); refine blk_put (cs := #[.int .u8 t307, .int .u8 t308, .int .u8 t309, .int .u8 t310, .int .u8 0, .string (⟨#[]⟩ : ByteArray), .string (⟨#[]⟩ : ByteArray), .string (⟨#[]⟩ : ByteArray), .string (⟨#[]⟩ : ByteArray), .string (⟨#[]⟩ : ByteArray), .string (⟨#[]⟩ : ByteArray), .string (⟨#[]⟩ : ByteArray), .string (⟨#[]⟩ : ByteArray), .string (⟨#[]⟩ : ByteArray), .string (⟨#[]⟩ : ByteArray)]) ?_ 4 _ rfl; (with_reducible repeat (first | refine kN ?_ _ | refine kD ?_ | refine kA ?_ _)); refine blk_put (cs := #[.int .u8 t307, .int .u8 t308, .int .u8 t309, .int .u8 0, .int .u8 0, .string (⟨#[]⟩ : ByteArray), .string (⟨#[]⟩ : ByteArray), .string (⟨#[]⟩ : ByteArray), .string (⟨#[]⟩ : ByteArray), .string (⟨#[]⟩ : ByteArray), .string (⟨#[]⟩ : ByteArray), .string (⟨#[]⟩ : ByteArray), .string (⟨#[]⟩ : ByteArray), .string (⟨#[]⟩ : ByteArray), .string (⟨#[]⟩ : ByteArray)]) ?_ 3 _ rfl; (with_reducible repeat (first | refine kN ?_ _ | refine kD ?_ | refine kA ?_ _)); refine blk_put (cs := #[.int .u8 t307, .int .u8 t308, .int .u8 0, .int .u8 0, .int .u8 0, .string (⟨#[]⟩ : ByteArray), .string (⟨#[]⟩ : ByteArray), .string (⟨#[]⟩ : ByteArray), .string (⟨#[]⟩ : ByteArray), .string (⟨#[]⟩ : ByteArray), .string (⟨#[]⟩ : ByteArray), .string (⟨#[]⟩ : ByteArray), .string (⟨#[]⟩ : ByteArray), .string (⟨#[]⟩ : ByteArray), .string (⟨#[]⟩ : ByteArray)]) ?_ 2 _ rfl; (with_reducible repeat (first | refine kN ?_ _ | refine kD ?_ | refine kA ?_ _)); refine blk_put (cs := #[.int .u8 t307, .int .u8 0, .int .u8 0, .int .u8 0, .int .u8 0, .string (⟨#[]⟩ : ByteArray), .string (⟨#[]⟩ : ByteArray), .string (⟨#[]⟩ : ByteArray), .string (⟨#[]⟩ : ByteArray), .string (⟨#[]⟩ : ByteArray), .string (⟨#[]⟩ : ByteArray), .string (⟨#[]⟩ : ByteArray), .string (⟨#[]⟩ : ByteArray), .string (⟨#[]⟩ : ByteArray), .string (⟨#[]⟩ : ByteArray)]) ?_ 1 _ rfl; (with_reducible repeat (first | refine kN ?_ _ | refine kD ?_ | refine kA ?_ _)); refine blk_put (cs := #[.int .u8 0, .int .u8 0, .int .u8 0, .int .u8 0, .int .u8 0, .string (⟨#[]⟩ : ByteArray), .string (⟨#[]⟩ : ByteArray), .string (⟨#[]⟩ : ByteArray), .string (⟨#[]⟩ : ByteArray), .string (⟨#[]⟩ : ByteArray), .string (⟨#[]⟩ : ByteArray), .string (⟨#[]⟩ : ByteArray), .string (⟨#[]⟩ : ByteArray), .string (⟨#[]⟩ : ByteArray), .string (⟨#[]⟩ : ByteArray)]) ?_ 0 _ rfl; (with_reducible repeat (first | refine kN ?_ _ | refine kD ?_ | refine kA ?_ _)); exact BK323.out) hb); have n3_ := Aside0.mk (below_step (by repeat (first | (with_reducible first | exact HB.out | apply bA | apply bN | apply bD | refine below_set ?_ GE306.out | refine below_set ?_ GE323.out) | exact HB.out)) hb); clear BK306; clear BK323; clear HB; have HO326 := n0_; have BK306 := n1_; have BK323 := n2_; have HB := n3_; clear n0_ n1_ n2_ n3_; (try clear hb); (try clear ho0)))
  (try simp only [Act.put, sA_, s0_, s1_])
  go_cut [31] (fun v31 wc => ∃ (kq : Nat) (x31_4 : Bool), v31 = .bool x31_4 ∧ Aside0 (lamplighterref10_Read.j0 kq t324 x31_4 t307 t308 t309 t310 t311 t312 t313 t314 t315 t316 t317 t318 t319 t320 t321 = some (r1, r2, r3)) ∧ Aside0 (kq ≤ k) ∧ Aside0 (Kd.R Kd.string 9 wc w.heap.size (fun _ => True) v325 t324) ∧ Aside0 (wc.heap[gb306]? = some (.cells #[.string (⟨#[]⟩ : ByteArray), .string (⟨#[]⟩ : ByteArray)] 45 (0, 0))) ∧ Aside0 (wc.heap[gb323]? = some (.cells #[.int .u8 t307, .int .u8 t308, .int .u8 t309, .int .u8 t310, .int .u8 t311, .string t312, .string t313, .string t314, .string t315, .string t316, .string t317, .string t318, .string t319, .string t320, .string t321] 25 (0, 0))) ∧ Aside0 (Below w.heap.size w wc))
  case first =>
   have H := HC5.out
   clear HC5
   by_cases c12 : (t324.length : Int) < 2
   ·rw [if_pos c12] at H
    have c12b0 : decide ((t324.length : Int) < 2) = true := decide_eq_true c12
    have c12b1 : decide (t324.length < 2) = true := decide_eq_true (by omega)
    clear c12
    (first | rw [c12b0] | (simp only [i64_w, i32_w]; rw [c12b0]) | skip)
    have H' := Aside0.mk H
    clear H
    obtain ⟨Ao13, co13, eo13⟩ := Kd.R_slice HO326.out
    subst eo13
    go_wp2
    go_meet
    case rel => exact ⟨_, (true), (by first | rfl | (simp; done) | (simp [*]; done)), H', ⟨by first | omega | exact Nat.le_refl _⟩, ⟨by (with_reducible repeat (first | apply Kd.R_alloc | apply Kd.R_drewN | apply Kd.R_drew)); exact HO326.out⟩, ⟨by (with_reducible repeat (first | refine kN ?_ _ | refine kD ?_ | refine kA ?_ _)); exact BK306.out⟩, ⟨by (with_reducible repeat (first | refine kN ?_ _ | refine kD ?_ | refine kA ?_ _)); exact BK323.out⟩, ⟨by repeat (first | (with_reducible first | exact HB.out | apply bA | apply bN | apply bD | refine below_set ?_ GE306.out | refine below_set ?_ GE323.out) | exact HB.out)⟩⟩
   ·rw [if_neg c12] at H
    have c12b0 : decide ((t324.length : Int) < 2) = false := decide_eq_false c12
    have c12b1 : decide (t324.length < 2) = false := decide_eq_false (by omega)
    clear c12
    (first | rw [c12b0] | (simp only [i64_w, i32_w]; rw [c12b0]) | skip)
    by_cases c14 : 1 < (t324.length : Int)
    ·rw [if_pos c14] at H
     have c14b0 : decide (1 < (t324.length : Int)) = true := decide_eq_true c14
     have c14b1 : decide (1 < t324.length) = true := decide_eq_true (by omega)
     clear c14
     replace H := Option.bind_eq_some_iff.mp H
     obtain ⟨t328, A150, H⟩ := H
     replace H : (lamplighterref10_Read.j0 k t324 (t328.toList != ([77, 83, 65] : List UInt8)) t307 t308 t309 t310 t311 t312 t313 t314 t315 t316 t317 t318 t319 t320 t321) = some (r1, r2, r3) := H
     have A15 := Aside0.mk A150
     clear A150
     have H' := Aside0.mk H
     clear H
     obtain ⟨Ao16, co16, eo16⟩ := Kd.R_slice HO326.out
     subst eo16
     have p327 : 0 ≤ (1 : Int) := (by omega)
     have q327 : 1 < (t324.length : Int) := of_decide_eq_true (by first | (with_reducible assumption) | assumption)
     obtain ⟨ad327, e327, hx327_0⟩ := Kd.at_string (Kd.R_reads' HO326.out).2.2 1 p327 q327
     cases e327
     (try simp only [show (1 : Int).toNat = 1 from rfl, Nat.reduceMul, Nat.reduceEqDiff, Go.Addr.add, ↓reduceIte] at hx327_0)
     have qi327 : (1 < t324.length) = True := eq_true (by omega)
     (try rw [show ((1 : Int)).toNat = 1 from rfl] at hx327_0)
     replace p327 := eq_true p327
     replace q327 := eq_true q327
     go_wp2_with (first | (go_at_call 43; (with_reducible refine (lamplighterref08_Name.calls (rdOf ByteArray.empty t324 1) t328 _ A15.out).mono ?_); rintro e w' ⟨rfl, ⟨nd, rfl⟩⟩))
     go_meet
     case rel => exact ⟨_, ((t328.toList != ([77, 83, 65] : List UInt8))), (by first | rfl | (simp; done) | (simp [*]; done)), H', ⟨by first | omega | exact Nat.le_refl _⟩, ⟨by (with_reducible repeat (first | apply Kd.R_alloc | apply Kd.R_drewN | apply Kd.R_drew)); exact HO326.out⟩, ⟨by (with_reducible repeat (first | refine kN ?_ _ | refine kD ?_ | refine kA ?_ _)); exact BK306.out⟩, ⟨by (with_reducible repeat (first | refine kN ?_ _ | refine kD ?_ | refine kA ?_ _)); exact BK323.out⟩, ⟨by repeat (first | (with_reducible first | exact HB.out | apply bA | apply bN | apply bD | refine below_set ?_ GE306.out | refine below_set ?_ GE323.out) | exact HB.out)⟩⟩
    ·rw [if_neg c14] at H
     exact absurd H (by simp)
  case rest =>
   clear HC5
   try clear c1
   try clear c2
   try clear p2
   try clear c3
   try clear c3b0
   try clear c3b1
   try clear p3
   try clear q3
   try clear hx3
   try clear qi3
   try clear c4
   try clear c9
   try clear c12
   try clear c12b0
   try clear c12b1
   try clear c14
   try clear c14b0
   try clear c14b1
   try clear hcz10_0
   try clear hcz10_1
   try clear hcz10_10
   try clear hcz10_11
   try clear hcz10_12
   try clear hcz10_13
   try clear hcz10_14
   try clear hcz10_2
   try clear hcz10_3
   try clear hcz10_4
   try clear hcz10_5
   try clear hcz10_6
   try clear hcz10_7
   try clear hcz10_8
   try clear hcz10_9
   try clear hfz10_0
   try clear hfz10_1
   try clear hfz10_10
   try clear hfz10_11
   try clear hfz10_12
   try clear hfz10_13
   try clear hfz10_14
   try clear hfz10_2
   try clear hfz10_3
   try clear hfz10_4
   try clear hfz10_5
   try clear hfz10_6
   try clear hfz10_7
   try clear hfz10_8
   try clear hfz10_9
   try clear hx327_0
   try clear p327
   try clear q327
   obtain ⟨kq, x31_4, rfl, HA, HJ4, HO_6, BK306, BK323, HB⟩ := hcut
   cases kq with
   | zero => exact absurd HA.out (by simp [lamplighterref10_Read.j0])
   | succ kj4 =>
    have H := HA.out
    clear HA
    simp only [lamplighterref10_Read.j0] at H
    by_cases c17 : x31_4 = true
    ·subst c17
     have H1 : (some ((⟨#[]⟩ : ByteArray), (⟨#[]⟩ : ByteArray), 10)) = some (r1, r2, r3) := by rw [if_pos rfl] at H; exact H
     clear H
     have H := H1
     clear H1
     simp only [Option.some.injEq, Prod.mk.injEq] at H
     obtain ⟨rfl, rfl, rfl⟩ := H
     have hnb18 := NB306_323.out
     have hnc18 := NB323_306.out
     have hcz19_0 : wc.cell? ⟨gb306, 0, none⟩ = some (.string (⟨#[]⟩ : ByteArray)) := blk_cell BK306.out 0
     have hcz19_1 : wc.cell? ⟨gb306, 1, none⟩ = some (.string (⟨#[]⟩ : ByteArray)) := blk_cell BK306.out 1
     have hfz19_0 := blk_frozen BK306.out 0
     have hfz19_1 := blk_frozen BK306.out 1
     go_wp2
     refine bodyPost_ret (results_ct rfl _ _ gb306 45 #[.string (⟨#[]⟩ : ByteArray), .string (⟨#[]⟩ : ByteArray)] (0, 0) _ rfl (by (with_reducible repeat (first | refine kN ?_ _ | refine kD ?_ | refine kA ?_ _)); refine blk_put (cs := #[.string (⟨#[]⟩ : ByteArray), .string (⟨#[]⟩ : ByteArray)]) ?_ 1 _ rfl; (with_reducible repeat (first | refine kN ?_ _ | refine kD ?_ | refine kA ?_ _)); refine blk_put (cs := #[.string (⟨#[]⟩ : ByteArray), .string (⟨#[]⟩ : ByteArray)]) ?_ 0 _ rfl; (with_reducible repeat (first | refine kN ?_ _ | refine kD ?_ | refine kA ?_ _)); exact BK306.out) Tryd.underlying45 rfl (by kernel_rfl)) rfl ?_
     exact ⟨by first | rfl | (simp [errW_none, errW_some] <;> rfl) | (simp [*, errW_none, errW_some] <;> rfl), by repeat (first | (with_reducible first | exact HB.out | apply bA | apply bN | apply bD | refine below_set ?_ GE306.out | refine below_set ?_ GE323.out) | exact HB.out)⟩
    ·replace c17 := Bool.eq_false_iff.mpr c17
     subst c17
     have H1 : (if 1 < (t324.length : Int) then ((lamplighterref08_Field.f kj4 (rdOf ByteArray.empty t324 1) 1 t307 t308 t309 t310 t311).bind fun bt330 => ((lamplighterref08_Field.f kj4 (rdOf ByteArray.empty t324 1) 2 t307 t308 t309 t310 t311).bind fun bt333 => ((lamplighterref10_Known.f bt330.1).bind fun t335 => (if t335 = true then (some (bt330.1, bt333.1, 0)) else (some ((⟨#[]⟩ : ByteArray), (⟨#[]⟩ : ByteArray), 17)))))) else (none)) = some (r1, r2, r3) := by rw [if_neg (show ¬ (false = true) by decide)] at H; exact H
     clear H
     have H := H1
     clear H1
     by_cases c20 : 1 < (t324.length : Int)
     ·rw [if_pos c20] at H
      have c20b0 : decide (1 < (t324.length : Int)) = true := decide_eq_true c20
      have c20b1 : decide (1 < t324.length) = true := decide_eq_true (by omega)
      clear c20
      replace H := Option.bind_eq_some_iff.mp H
      obtain ⟨⟨t330, t331⟩, A210, H⟩ := H
      replace H : ((lamplighterref08_Field.f kj4 (rdOf ByteArray.empty t324 1) 2 t307 t308 t309 t310 t311).bind fun bt333 => ((lamplighterref10_Known.f t330).bind fun t335 => (if t335 = true then (some (t330, bt333.1, 0)) else (some ((⟨#[]⟩ : ByteArray), (⟨#[]⟩ : ByteArray), 17))))) = some (r1, r2, r3) := H
      have A21 := Aside0.mk A210
      clear A210
      replace H := Option.bind_eq_some_iff.mp H
      obtain ⟨⟨t333, t334⟩, A220, H⟩ := H
      replace H : ((lamplighterref10_Known.f t330).bind fun t335 => (if t335 = true then (some (t330, t333, 0)) else (some ((⟨#[]⟩ : ByteArray), (⟨#[]⟩ : ByteArray), 17)))) = some (r1, r2, r3) := H
      have A22 := Aside0.mk A220
      clear A220
      replace H := Option.bind_eq_some_iff.mp H
      obtain ⟨t335, A230, H⟩ := H
      replace H : (if t335 = true then (some (t330, t333, 0)) else (some ((⟨#[]⟩ : ByteArray), (⟨#[]⟩ : ByteArray), 17))) = some (r1, r2, r3) := H
      have A23 := Aside0.mk A230
      clear A230
      by_cases c24 : t335 = true
      ·subst c24
       have H1 : (some (t330, t333, 0)) = some (r1, r2, r3) := by rw [if_pos rfl] at H; exact H
       clear H
       have H := H1
       clear H1
       simp only [Option.some.injEq, Prod.mk.injEq] at H
       obtain ⟨rfl, rfl, rfl⟩ := H
       try go_wp2
       have n0_ := Aside0.mk (Kd.R_drew HO_6.out)
       have n1_ := Aside0.mk (blk_drew BK306.out)
       have n2_ := Aside0.mk (blk_drew BK323.out)
       have n3_ := Aside0.mk (below_drew1 HB.out)
       clear HO_6
       clear BK306
       clear BK323
       clear HB
       have HO_6 := n0_
       have BK306 := n1_
       have BK323 := n2_
       have HB := n3_
       clear n0_ n1_ n2_ n3_
       obtain ⟨Ao26, co26, eo26⟩ := Kd.R_slice HO_6.out
       (first | subst eo26 | (injection eo26 with f1_ f2_ f3_; have f4_ := f1_.symm; have f5_ := f3_.symm; clear f1_ f2_ f3_; subst f4_; subst f5_))
       have p329 : 0 ≤ (1 : Int) := (by omega)
       have q329 : 1 < (t324.length : Int) := of_decide_eq_true (by first | (with_reducible assumption) | assumption)
       obtain ⟨ad329, e329, hx329_0⟩ := Kd.at_string (Kd.R_reads' HO_6.out).2.2 1 p329 q329
       cases e329
       (try simp only [show (1 : Int).toNat = 1 from rfl, Nat.reduceMul, Nat.reduceEqDiff, Go.Addr.add, ↓reduceIte] at hx329_0)
       have qi329 : (1 < t324.length) = True := eq_true (by omega)
       (try rw [show ((1 : Int)).toNat = 1 from rfl] at hx329_0)
       replace p329 := eq_true p329
       replace q329 := eq_true q329
       refine start_ (n := 11) (S := fun w' => w'.cell? ⟨gb323, 0, none⟩ = some (.int .u8 t307) ∧ w'.cell? ⟨gb323, 1, none⟩ = some (.int .u8 t308) ∧ w'.cell? ⟨gb323, 2, none⟩ = some (.int .u8 t309) ∧ w'.cell? ⟨gb323, 3, none⟩ = some (.int .u8 t310) ∧ w'.cell? ⟨gb323, 4, none⟩ = some (.int .u8 t311) ∧ w'.cell? ⟨gb323, 5, none⟩ = some (.string t312) ∧ w'.cell? ⟨gb323, 6, none⟩ = some (.string t313) ∧ w'.cell? ⟨gb323, 7, none⟩ = some (.string t314) ∧ w'.cell? ⟨gb323, 8, none⟩ = some (.string t315) ∧ w'.cell? ⟨gb323, 9, none⟩ = some (.string t316) ∧ w'.cell? ⟨gb323, 10, none⟩ = some (.string t317) ∧ w'.cell? ⟨gb323, 11, none⟩ = some (.string t318) ∧ w'.cell? ⟨gb323, 12, none⟩ = some (.string t319) ∧ w'.cell? ⟨gb323, 13, none⟩ = some (.string t320) ∧ w'.cell? ⟨gb323, 14, none⟩ = some (.string t321) ∧ w'.cell? ⟨ad329.block, ad329.off + 1, none⟩ = some (.string (rdOf ByteArray.empty t324 1))) (ds := []) #[false, false, false, false, false, false, false, false, false, false, false] (by kernel_rfl) rfl rfl ⟨blk_cell BK323.out 0, blk_cell BK323.out 1, blk_cell BK323.out 2, blk_cell BK323.out 3, blk_cell BK323.out 4, blk_cell BK323.out 5, blk_cell BK323.out 6, blk_cell BK323.out 7, blk_cell BK323.out 8, blk_cell BK323.out 9, blk_cell BK323.out 10, blk_cell BK323.out 11, blk_cell BK323.out 12, blk_cell BK323.out 13, blk_cell BK323.out 14, hx329_0⟩ (fun hHeld => ?_); refine with_tabW lamplighterref10_Read.tab7 lamplighterref10_Read.bits7 (fun HT_ HW_ => ?_)
       generalize wc.drew = w25 at HO_6 BK306 BK323 HB hx329_0 hHeld ⊢
       refine pure_ (i := 0) (N := some 34) (v := ?_) (a' := ?_) #[true, false, false, false, false, false, false, false, false, false, false] rfl rfl (any_of HT_.out (by kernel_rfl)) (fun _ _ _ h => h) (Or.inl ⟨by rfl, ?_⟩) ?_ ?_
       rotate_left
       ·intro w'
        go_simp
        with_reducible rfl
       rotate_left
       ·simp only [Act.put, sA_, s0_, s1_, i64_w, i32_w]
        rfl
       refine pure_ (i := 1) (N := some 35) (v := ?_) (a' := ?_) #[true, true, false, false, false, false, false, false, false, false, false] rfl rfl (any_of HT_.out (by kernel_rfl)) (fun _ _ _ h => h) (Or.inl ⟨by rfl, ?_⟩) ?_ ?_
       rotate_left
       ·intro w'
        go_simp
        with_reducible rfl
       rotate_left
       ·simp only [Act.put, sA_, s0_, s1_, i64_w, i32_w]
        rfl
       refine pure_ (i := 3) (N := some 37) (v := ?_) (a' := ?_) #[true, true, false, true, false, false, false, false, false, false, false] rfl rfl (any_of HT_.out (by kernel_rfl)) (fun _ _ _ h => h) (Or.inl ⟨by rfl, ?_⟩) ?_ ?_
       rotate_left
       ·intro w'
        go_simp
        with_reducible rfl
       rotate_left
       ·simp only [Act.put, sA_, s0_, s1_, i64_w, i32_w]
        rfl
       refine take_ (i := 2) (N := some 36) (v := ?_) (a' := ?_) #[true, true, true, true, false, false, false, false, false, false, false] rfl rfl (take_ofW HT_.out HW_.out (by kernel_rfl)) (fun _ _ _ h => h) (Or.inl ⟨by rfl, ?_⟩) hHeld ?_ ?_
       rotate_left
       ·rintro w' ⟨s0, s1, s2, s3, s4, s5, s6, s7, s8, s9, s10, s11, s12, s13, s14, s15⟩
        go_simp
        with_reducible rfl
       rotate_left
       ·simp only [Act.put, sA_, s0_, s1_, i64_w, i32_w]
        rfl
       refine take_ (i := 4) (N := some 38) (v := ?_) (a' := ?_) #[true, true, true, true, true, false, false, false, false, false, false] rfl rfl (take_ofW HT_.out HW_.out (by kernel_rfl)) (fun _ _ _ h => h) (Or.inl ⟨by rfl, ?_⟩) hHeld ?_ ?_
       rotate_left
       ·rintro w' ⟨s0, s1, s2, s3, s4, s5, s6, s7, s8, s9, s10, s11, s12, s13, s14, s15⟩
        go_simp
        with_reducible rfl
       rotate_left
       ·simp only [Act.put, sA_, s0_, s1_, i64_w, i32_w]
        rfl
       refine one_ (i := 5) (N := some 39) #[true, true, true, true, true, true, false, false, false, false, false] rfl rfl (one_of HT_.out (by kernel_rfl)) (by decide) (fun K hK => ?_)
       refine goes_ Tryd.func44 (by kernel_rfl) rfl #[.string (rdOf ByteArray.empty t324 1), .int .i64 1, .agg #[.int .u8 t307, .int .u8 t308, .int .u8 t309, .int .u8 t310, .int .u8 t311]] (by rfl) rfl rfl (by (try simp only [List.map_toArray, List.map_cons, List.map_nil]); first | done | rfl | (simp only [List.length_drop, List.length_take]; rfl)) ?_
       with_reducible refine (lamplighterref08_Field.calls kj4 (rdOf ByteArray.empty t324 1) 1 t307 t308 t309 t310 t311 t330 t331 _ A21.out).mono ?_
       rintro e w27 ⟨rfl, hb⟩
       have HS15_ := (hb.cell (World.block_lt_of_cell? _ _ (hHeld.2.2.2.2.2.2.2.2.2.2.2.2.2.2.2))).trans (hHeld.2.2.2.2.2.2.2.2.2.2.2.2.2.2.2)
       refine ⟨_, rfl, ?_⟩
       have n0_ := Aside0.mk (Kd.R_below (by (with_reducible repeat (first | apply Kd.R_alloc | apply Kd.R_drewN | apply Kd.R_drew)); exact HO_6.out) hb)
       have n1_ := Aside0.mk (blk_below (g := gb306) (o := .cells #[.string (⟨#[]⟩ : ByteArray), .string (⟨#[]⟩ : ByteArray)] 45 (0, 0)) (by (with_reducible repeat (first | refine kN ?_ _ | refine kD ?_ | refine kA ?_ _)); exact BK306.out) hb)
       have n2_ := Aside0.mk (blk_below (g := gb323) (o := .cells #[.int .u8 t307, .int .u8 t308, .int .u8 t309, .int .u8 t310, .int .u8 t311, .string t312, .string t313, .string t314, .string t315, .string t316, .string t317, .string t318, .string t319, .string t320, .string t321] 25 (0, 0)) (by (with_reducible repeat (first | refine kN ?_ _ | refine kD ?_ | refine kA ?_ _)); exact BK323.out) hb)
       have n3_ := Aside0.mk (below_step (by repeat (first | (with_reducible first | exact HB.out | apply bA | apply bN | apply bD | refine below_set ?_ GE306.out | refine below_set ?_ GE323.out) | exact HB.out)) hb)
       clear HO_6
       clear BK306
       clear BK323
       clear HB
       have HO_6 := n0_
       have BK306 := n1_
       have BK323 := n2_
       have HB := n3_
       clear n0_ n1_ n2_ n3_
       (try clear hb)
       (try clear hb2)
       (try clear hk)
       (try clear hi)
       refine hK.out _ _ ⟨blk_cell BK323.out 0, blk_cell BK323.out 1, blk_cell BK323.out 2, blk_cell BK323.out 3, blk_cell BK323.out 4, blk_cell BK323.out 5, blk_cell BK323.out 6, blk_cell BK323.out 7, blk_cell BK323.out 8, blk_cell BK323.out 9, blk_cell BK323.out 10, blk_cell BK323.out 11, blk_cell BK323.out 12, blk_cell BK323.out 13, blk_cell BK323.out 14, HS15_⟩ (fun hHeld => ?_)
       clear hK K
       refine norm_ (a' := ?_) ?_ ?_
       rotate_left
       ·show Act.put _ (some 39) _ = _
        simp only [Act.put, sA_, s0_, s1_, i64_w, i32_w]
        rfl
       refine pure_ (i := 6) (N := some 33) (v := ?_) (a' := ?_) #[true, true, true, true, true, true, true, false, false, false, false] rfl rfl (any_of HT_.out (by kernel_rfl)) (fun _ _ _ h => h) (Or.inl ⟨by rfl, ?_⟩) ?_ ?_
       rotate_left
       ·intro w'
        go_simp
        with_reducible rfl
       rotate_left
       ·simp only [Act.put, sA_, s0_, s1_, i64_w, i32_w]
        rfl
       refine pure_ (i := 7) (N := some 40) (v := ?_) (a' := ?_) #[true, true, true, true, true, true, true, true, false, false, false] rfl rfl (any_of HT_.out (by kernel_rfl)) (fun _ _ _ h => h) (Or.inl ⟨by rfl, ?_⟩) ?_ ?_
       rotate_left
       ·intro w'
        go_simp
        with_reducible rfl
       rotate_left
       ·simp only [Act.put, sA_, s0_, s1_, i64_w, i32_w]
        rfl
       refine pure_ (i := 8) (N := some 41) (v := ?_) (a' := ?_) #[true, true, true, true, true, true, true, true, true, false, false] rfl rfl (any_of HT_.out (by kernel_rfl)) (fun _ _ _ h => h) (Or.inl ⟨by rfl, ?_⟩) ?_ ?_
       rotate_left
       ·intro w'
        go_simp
        with_reducible rfl
       rotate_left
       ·simp only [Act.put, sA_, s0_, s1_, i64_w, i32_w]
        rfl
       refine pure_ (i := 9) (N := some 7) (v := ?_) (a' := ?_) #[true, true, true, true, true, true, true, true, true, true, false] rfl rfl (any_of HT_.out (by kernel_rfl)) (fun _ _ _ h => h) (Or.inl ⟨by rfl, ?_⟩) ?_ ?_
       rotate_left
       ·intro w'
        go_simp
        with_reducible rfl
       rotate_left
       ·simp only [Act.put, sA_, s0_, s1_, i64_w, i32_w]
        rfl
       refine pure_ (i := 10) (N := some 8) (v := ?_) (a' := ?_) #[true, true, true, true, true, true, true, true, true, true, true] rfl rfl (any_of HT_.out (by kernel_rfl)) (fun _ _ _ h => h) (Or.inl ⟨by rfl, ?_⟩) ?_ ?_
       rotate_left
       ·intro w'
        go_simp
        with_reducible rfl
       rotate_left
       ·simp only [Act.put, sA_, s0_, s1_, i64_w, i32_w]
        rfl
       refine done_ (done_of HT_.out (by kernel_rfl)) ?_
       try go_wp2
       have n0_ := Aside0.mk (Kd.R_drew HO_6.out)
       have n1_ := Aside0.mk (blk_drew BK306.out)
       have n2_ := Aside0.mk (blk_drew BK323.out)
       have n3_ := Aside0.mk (below_drew1 HB.out)
       clear HO_6
       clear BK306
       clear BK323
       clear HB
       have HO_6 := n0_
       have BK306 := n1_
       have BK323 := n2_
       have HB := n3_
       clear n0_ n1_ n2_ n3_
       have p332 : 0 ≤ (1 : Int) := (by omega)
       have q332 : 1 < (t324.length : Int) := of_decide_eq_true (by first | (with_reducible assumption) | assumption)
       obtain ⟨ad332, e332, hx332_0⟩ := Kd.at_string (Kd.R_reads' HO_6.out).2.2 1 p332 q332
       obtain rfl : ad329 = ad332 := (by injection e332)
       (try simp only [show (1 : Int).toNat = 1 from rfl, Nat.reduceMul, Nat.reduceEqDiff, Go.Addr.add, ↓reduceIte] at hx332_0)
       have qi332 : (1 < t324.length) = True := eq_true (by omega)
       (try rw [show ((1 : Int)).toNat = 1 from rfl] at hx332_0)
       replace p332 := eq_true p332
       replace q332 := eq_true q332
       refine start_ (n := 11) (S := fun w' => w'.cell? ⟨gb323, 0, none⟩ = some (.int .u8 t307) ∧ w'.cell? ⟨gb323, 1, none⟩ = some (.int .u8 t308) ∧ w'.cell? ⟨gb323, 2, none⟩ = some (.int .u8 t309) ∧ w'.cell? ⟨gb323, 3, none⟩ = some (.int .u8 t310) ∧ w'.cell? ⟨gb323, 4, none⟩ = some (.int .u8 t311) ∧ w'.cell? ⟨gb323, 5, none⟩ = some (.string t312) ∧ w'.cell? ⟨gb323, 6, none⟩ = some (.string t313) ∧ w'.cell? ⟨gb323, 7, none⟩ = some (.string t314) ∧ w'.cell? ⟨gb323, 8, none⟩ = some (.string t315) ∧ w'.cell? ⟨gb323, 9, none⟩ = some (.string t316) ∧ w'.cell? ⟨gb323, 10, none⟩ = some (.string t317) ∧ w'.cell? ⟨gb323, 11, none⟩ = some (.string t318) ∧ w'.cell? ⟨gb323, 12, none⟩ = some (.string t319) ∧ w'.cell? ⟨gb323, 13, none⟩ = some (.string t320) ∧ w'.cell? ⟨gb323, 14, none⟩ = some (.string t321) ∧ w'.cell? ⟨ad329.block, ad329.off + 1, none⟩ = some (.string (rdOf ByteArray.empty t324 1))) (ds := []) #[false, false, false, false, false, false, false, false, false, false, false] (by kernel_rfl) rfl rfl ⟨blk_cell BK323.out 0, blk_cell BK323.out 1, blk_cell BK323.out 2, blk_cell BK323.out 3, blk_cell BK323.out 4, blk_cell BK323.out 5, blk_cell BK323.out 6, blk_cell BK323.out 7, blk_cell BK323.out 8, blk_cell BK323.out 9, blk_cell BK323.out 10, blk_cell BK323.out 11, blk_cell BK323.out 12, blk_cell BK323.out 13, blk_cell BK323.out 14, hx332_0⟩ (fun hHeld => ?_); refine with_tabW lamplighterref10_Read.tab8 lamplighterref10_Read.bits8 (fun HT_ HW_ => ?_)
       generalize w27.drew = w28 at HO_6 BK306 BK323 HB hx332_0 hHeld ⊢
       refine pure_ (i := 0) (N := some 43) (v := ?_) (a' := ?_) #[true, false, false, false, false, false, false, false, false, false, false] rfl rfl (any_of HT_.out (by kernel_rfl)) (fun _ _ _ h => h) (Or.inl ⟨by rfl, ?_⟩) ?_ ?_
       rotate_left
       ·intro w'
        go_simp
        with_reducible rfl
       rotate_left
       ·simp only [Act.put, sA_, s0_, s1_, i64_w, i32_w]
        rfl
       refine pure_ (i := 1) (N := some 44) (v := ?_) (a' := ?_) #[true, true, false, false, false, false, false, false, false, false, false] rfl rfl (any_of HT_.out (by kernel_rfl)) (fun _ _ _ h => h) (Or.inl ⟨by rfl, ?_⟩) ?_ ?_
       rotate_left
       ·intro w'
        go_simp
        with_reducible rfl
       rotate_left
       ·simp only [Act.put, sA_, s0_, s1_, i64_w, i32_w]
        rfl
       refine pure_ (i := 3) (N := some 46) (v := ?_) (a' := ?_) #[true, true, false, true, false, false, false, false, false, false, false] rfl rfl (any_of HT_.out (by kernel_rfl)) (fun _ _ _ h => h) (Or.inl ⟨by rfl, ?_⟩) ?_ ?_
       rotate_left
       ·intro w'
        go_simp
        with_reducible rfl
       rotate_left
       ·simp only [Act.put, sA_, s0_, s1_, i64_w, i32_w]
        rfl
       refine take_ (i := 2) (N := some 45) (v := ?_) (a' := ?_) #[true, true, true, true, false, false, false, false, false, false, false] rfl rfl (take_ofW HT_.out HW_.out (by kernel_rfl)) (fun _ _ _ h => h) (Or.inl ⟨by rfl, ?_⟩) hHeld ?_ ?_
       rotate_left
       ·rintro w' ⟨s0, s1, s2, s3, s4, s5, s6, s7, s8, s9, s10, s11, s12, s13, s14, s15⟩
        go_simp
        with_reducible rfl
       rotate_left
       ·simp only [Act.put, sA_, s0_, s1_, i64_w, i32_w]
        rfl
       refine take_ (i := 4) (N := some 47) (v := ?_) (a' := ?_) #[true, true, true, true, true, false, false, false, false, false, false] rfl rfl (take_ofW HT_.out HW_.out (by kernel_rfl)) (fun _ _ _ h => h) (Or.inl ⟨by rfl, ?_⟩) hHeld ?_ ?_
       rotate_left
       ·rintro w' ⟨s0, s1, s2, s3, s4, s5, s6, s7, s8, s9, s10, s11, s12, s13, s14, s15⟩
        go_simp
        with_reducible rfl
       rotate_left
       ·simp only [Act.put, sA_, s0_, s1_, i64_w, i32_w]
        rfl
       refine one_ (i := 5) (N := some 48) #[true, true, true, true, true, true, false, false, false, false, false] rfl rfl (one_of HT_.out (by kernel_rfl)) (by decide) (fun K hK => ?_)
       refine goes_ Tryd.func44 (by kernel_rfl) rfl #[.string (rdOf ByteArray.empty t324 1), .int .i64 2, .agg #[.int .u8 t307, .int .u8 t308, .int .u8 t309, .int .u8 t310, .int .u8 t311]] (by rfl) rfl rfl (by (try simp only [List.map_toArray, List.map_cons, List.map_nil]); first | done | rfl | (simp only [List.length_drop, List.length_take]; rfl)) ?_
       with_reducible refine (lamplighterref08_Field.calls kj4 (rdOf ByteArray.empty t324 1) 2 t307 t308 t309 t310 t311 t333 t334 _ A22.out).mono ?_
       rintro e w29 ⟨rfl, hb⟩
       have HS15_ := (hb.cell (World.block_lt_of_cell? _ _ (hHeld.2.2.2.2.2.2.2.2.2.2.2.2.2.2.2))).trans (hHeld.2.2.2.2.2.2.2.2.2.2.2.2.2.2.2)
       refine ⟨_, rfl, ?_⟩
       have n0_ := Aside0.mk (Kd.R_below (by (with_reducible repeat (first | apply Kd.R_alloc | apply Kd.R_drewN | apply Kd.R_drew)); exact HO_6.out) hb)
       have n1_ := Aside0.mk (blk_below (g := gb306) (o := .cells #[.string (⟨#[]⟩ : ByteArray), .string (⟨#[]⟩ : ByteArray)] 45 (0, 0)) (by (with_reducible repeat (first | refine kN ?_ _ | refine kD ?_ | refine kA ?_ _)); exact BK306.out) hb)
       have n2_ := Aside0.mk (blk_below (g := gb323) (o := .cells #[.int .u8 t307, .int .u8 t308, .int .u8 t309, .int .u8 t310, .int .u8 t311, .string t312, .string t313, .string t314, .string t315, .string t316, .string t317, .string t318, .string t319, .string t320, .string t321] 25 (0, 0)) (by (with_reducible repeat (first | refine kN ?_ _ | refine kD ?_ | refine kA ?_ _)); exact BK323.out) hb)
       have n3_ := Aside0.mk (below_step (by repeat (first | (with_reducible first | exact HB.out | apply bA | apply bN | apply bD | refine below_set ?_ GE306.out | refine below_set ?_ GE323.out) | exact HB.out)) hb)
       clear HO_6
       clear BK306
       clear BK323
       clear HB
       have HO_6 := n0_
       have BK306 := n1_
       have BK323 := n2_
       have HB := n3_
       clear n0_ n1_ n2_ n3_
       (try clear hb)
       (try clear hb2)
       (try clear hk)
       (try clear hi)
       refine hK.out _ _ ⟨blk_cell BK323.out 0, blk_cell BK323.out 1, blk_cell BK323.out 2, blk_cell BK323.out 3, blk_cell BK323.out 4, blk_cell BK323.out 5, blk_cell BK323.out 6, blk_cell BK323.out 7, blk_cell BK323.out 8, blk_cell BK323.out 9, blk_cell BK323.out 10, blk_cell BK323.out 11, blk_cell BK323.out 12, blk_cell BK323.out 13, blk_cell BK323.out 14, HS15_⟩ (fun hHeld => ?_)
       clear hK K
       refine norm_ (a' := ?_) ?_ ?_
       rotate_left
       ·show Act.put _ (some 48) _ = _
        simp only [Act.put, sA_, s0_, s1_, i64_w, i32_w]
        rfl
       refine pure_ (i := 6) (N := some 42) (v := ?_) (a' := ?_) #[true, true, true, true, true, true, true, false, false, false, false] rfl rfl (any_of HT_.out (by kernel_rfl)) (fun _ _ _ h => h) (Or.inl ⟨by rfl, ?_⟩) ?_ ?_
       rotate_left
       ·intro w'
        go_simp
        with_reducible rfl
       rotate_left
       ·simp only [Act.put, sA_, s0_, s1_, i64_w, i32_w]
        rfl
       refine pure_ (i := 7) (N := some 49) (v := ?_) (a' := ?_) #[true, true, true, true, true, true, true, true, false, false, false] rfl rfl (any_of HT_.out (by kernel_rfl)) (fun _ _ _ h => h) (Or.inl ⟨by rfl, ?_⟩) ?_ ?_
       rotate_left
       ·intro w'
        go_simp
        with_reducible rfl
       rotate_left
       ·simp only [Act.put, sA_, s0_, s1_, i64_w, i32_w]
        rfl
       refine pure_ (i := 8) (N := some 50) (v := ?_) (a' := ?_) #[true, true, true, true, true, true, true, true, true, false, false] rfl rfl (any_of HT_.out (by kernel_rfl)) (fun _ _ _ h => h) (Or.inl ⟨by rfl, ?_⟩) ?_ ?_
       rotate_left
       ·intro w'
        go_simp
        with_reducible rfl
       rotate_left
       ·simp only [Act.put, sA_, s0_, s1_, i64_w, i32_w]
        rfl
       refine pure_ (i := 9) (N := some 9) (v := ?_) (a' := ?_) #[true, true, true, true, true, true, true, true, true, true, false] rfl rfl (any_of HT_.out (by kernel_rfl)) (fun _ _ _ h => h) (Or.inl ⟨by rfl, ?_⟩) ?_ ?_
       rotate_left
       ·intro w'
        go_simp
        with_reducible rfl
       rotate_left
       ·simp only [Act.put, sA_, s0_, s1_, i64_w, i32_w]
        rfl
       refine pure_ (i := 10) (N := some 10) (v := ?_) (a' := ?_) #[true, true, true, true, true, true, true, true, true, true, true] rfl rfl (any_of HT_.out (by kernel_rfl)) (fun _ _ _ h => h) (Or.inl ⟨by rfl, ?_⟩) ?_ ?_
       rotate_left
       ·intro w'
        go_simp
        with_reducible rfl
       rotate_left
       ·simp only [Act.put, sA_, s0_, s1_, i64_w, i32_w]
        rfl
       refine done_ (done_of HT_.out (by kernel_rfl)) ?_
       try go_wp2_with (first | ((with_reducible refine gate_callee (f := 45) rfl ?_); refine goesL_ (some 52) rfl rfl Tryd.func45 (by kernel_rfl) rfl #[.string t330] rfl (by (try simp only [List.map_toArray, List.map_cons, List.map_nil]); first | done | rfl | (simp only [List.length_drop, List.length_take]; rfl)) ?_; (with_reducible refine (lamplighterref10_Known.calls t330 true _ A23.out).mono ?_); rintro e w' ⟨rfl, ⟨nd, rfl⟩⟩; refine ⟨_, rfl, ?_⟩; (try (rw [drewN_self w29]; generalize hq_ : World.drewN w29 _ = w29; have n0_ : Aside0 (Kd.R Kd.string 9 w29 w.heap.size (fun _ => True) (.slice (some ad329) t324.length co26) t324) := ⟨by rw [← hq_]; exact (by (with_reducible repeat (first | apply Kd.R_alloc | apply Kd.R_drewN | apply Kd.R_drew)); exact HO_6.out)⟩; have n1_ : Aside0 (w29.heap[gb306]? = some (.cells #[.string (⟨#[]⟩ : ByteArray), .string (⟨#[]⟩ : ByteArray)] 45 (0, 0))) := ⟨by rw [← hq_]; exact (by (with_reducible repeat (first | refine kN ?_ _ | refine kD ?_ | refine kA ?_ _)); exact BK306.out)⟩; have n2_ : Aside0 (w29.heap[gb323]? = some (.cells #[.int .u8 t307, .int .u8 t308, .int .u8 t309, .int .u8 t310, .int .u8 t311, .string t312, .string t313, .string t314, .string t315, .string t316, .string t317, .string t318, .string t319, .string t320, .string t321] 25 (0, 0))) := ⟨by rw [← hq_]; exact (by (with_reducible repeat (first | refine kN ?_ _ | refine kD ?_ | refine kA ?_ _)); exact BK323.out)⟩; have n3_ : Aside0 (Below w.heap.size w w29) := ⟨by rw [← hq_]; exact (by repeat (first | (with_reducible first | exact HB.out | apply bA | apply bN | apply bD | refine below_set ?_ GE306.out | refine below_set ?_ GE323.out) | exact HB.out))⟩; clear HO_6 BK306 BK323 HB hq_; have HO_6 := n0_; have BK306 := n1_; have BK323 := n2_; have HB := n3_; clear n0_ n1_ n2_ n3_)); have hnb30 := NB306_323.out; have hnc30 := NB323_306.out; have hcz31_0 : w29.cell? ⟨gb306, 0, none⟩ = some (.string (⟨#[]⟩ : ByteArray)) := blk_cell BK306.out 0; have hcz31_1 : w29.cell? ⟨gb306, 1, none⟩ = some (.string (⟨#[]⟩ : ByteArray)) := blk_cell BK306.out 1; have hfz31_0 := blk_frozen BK306.out 0; have hfz31_1 := blk_frozen BK306.out 1))
       refine bodyPost_ret (results_ct rfl _ _ gb306 45 #[.string t330, .string t333] (0, 0) _ rfl (by (with_reducible repeat (first | refine kN ?_ _ | refine kD ?_ | refine kA ?_ _)); refine blk_put (cs := #[.string t330, .string (⟨#[]⟩ : ByteArray)]) ?_ 1 _ rfl; (with_reducible repeat (first | refine kN ?_ _ | refine kD ?_ | refine kA ?_ _)); refine blk_put (cs := #[.string (⟨#[]⟩ : ByteArray), .string (⟨#[]⟩ : ByteArray)]) ?_ 0 _ rfl; (with_reducible repeat (first | refine kN ?_ _ | refine kD ?_ | refine kA ?_ _)); exact BK306.out) Tryd.underlying45 rfl (by kernel_rfl)) rfl ?_
       exact ⟨by first | rfl | (simp [errW_none, errW_some] <;> rfl) | (simp [*, errW_none, errW_some] <;> rfl), by repeat (first | (with_reducible first | exact HB.out | apply bA | apply bN | apply bD | refine below_set ?_ GE306.out | refine below_set ?_ GE323.out) | exact HB.out)⟩
      ·replace c24 := Bool.eq_false_iff.mpr c24
       subst c24
       have H1 : (some ((⟨#[]⟩ : ByteArray), (⟨#[]⟩ : ByteArray), 17)) = some (r1, r2, r3) := by rw [if_neg (show ¬ (false = true) by decide)] at H; exact H
       clear H
       have H := H1
       clear H1
       simp only [Option.some.injEq, Prod.mk.injEq] at H
       obtain ⟨rfl, rfl, rfl⟩ := H
       try go_wp2
       have n0_ := Aside0.mk (Kd.R_drew HO_6.out)
       have n1_ := Aside0.mk (blk_drew BK306.out)
       have n2_ := Aside0.mk (blk_drew BK323.out)
       have n3_ := Aside0.mk (below_drew1 HB.out)
       clear HO_6
       clear BK306
       clear BK323
       clear HB
       have HO_6 := n0_
       have BK306 := n1_
       have BK323 := n2_
       have HB := n3_
       clear n0_ n1_ n2_ n3_
       obtain ⟨Ao33, co33, eo33⟩ := Kd.R_slice HO_6.out
       (first | subst eo33 | (injection eo33 with f1_ f2_ f3_; have f4_ := f1_.symm; have f5_ := f3_.symm; clear f1_ f2_ f3_; subst f4_; subst f5_))
       have p329 : 0 ≤ (1 : Int) := (by omega)
       have q329 : 1 < (t324.length : Int) := of_decide_eq_true (by first | (with_reducible assumption) | assumption)
       obtain ⟨ad329, e329, hx329_0⟩ := Kd.at_string (Kd.R_reads' HO_6.out).2.2 1 p329 q329
       cases e329
       (try simp only [show (1 : Int).toNat = 1 from rfl, Nat.reduceMul, Nat.reduceEqDiff, Go.Addr.add, ↓reduceIte] at hx329_0)
       have qi329 : (1 < t324.length) = True := eq_true (by omega)
       (try rw [show ((1 : Int)).toNat = 1 from rfl] at hx329_0)
       replace p329 := eq_true p329
       replace q329 := eq_true q329
       refine start_ (n := 11) (S := fun w' => w'.cell? ⟨gb323, 0, none⟩ = some (.int .u8 t307) ∧ w'.cell? ⟨gb323, 1, none⟩ = some (.int .u8 t308) ∧ w'.cell? ⟨gb323, 2, none⟩ = some (.int .u8 t309) ∧ w'.cell? ⟨gb323, 3, none⟩ = some (.int .u8 t310) ∧ w'.cell? ⟨gb323, 4, none⟩ = some (.int .u8 t311) ∧ w'.cell? ⟨gb323, 5, none⟩ = some (.string t312) ∧ w'.cell? ⟨gb323, 6, none⟩ = some (.string t313) ∧ w'.cell? ⟨gb323, 7, none⟩ = some (.string t314) ∧ w'.cell? ⟨gb323, 8, none⟩ = some (.string t315) ∧ w'.cell? ⟨gb323, 9, none⟩ = some (.string t316) ∧ w'.cell? ⟨gb323, 10, none⟩ = some (.string t317) ∧ w'.cell? ⟨gb323, 11, none⟩ = some (.string t318) ∧ w'.cell? ⟨gb323, 12, none⟩ = some (.string t319) ∧ w'.cell? ⟨gb323, 13, none⟩ = some (.string t320) ∧ w'.cell? ⟨gb323, 14, none⟩ = some (.string t321) ∧ w'.cell? ⟨ad329.block, ad329.off + 1, none⟩ = some (.string (rdOf ByteArray.empty t324 1))) (ds := []) #[false, false, false, false, false, false, false, false, false, false, false] (by kernel_rfl) rfl rfl ⟨blk_cell BK323.out 0, blk_cell BK323.out 1, blk_cell BK323.out 2, blk_cell BK323.out 3, blk_cell BK323.out 4, blk_cell BK323.out 5, blk_cell BK323.out 6, blk_cell BK323.out 7, blk_cell BK323.out 8, blk_cell BK323.out 9, blk_cell BK323.out 10, blk_cell BK323.out 11, blk_cell BK323.out 12, blk_cell BK323.out 13, blk_cell BK323.out 14, hx329_0⟩ (fun hHeld => ?_); refine with_tabW lamplighterref10_Read.tab7 lamplighterref10_Read.bits7 (fun HT_ HW_ => ?_)
       generalize wc.drew = w32 at HO_6 BK306 BK323 HB hx329_0 hHeld ⊢
       refine pure_ (i := 0) (N := some 34) (v := ?_) (a' := ?_) #[true, false, false, false, false, false, false, false, false, false, false] rfl rfl (any_of HT_.out (by kernel_rfl)) (fun _ _ _ h => h) (Or.inl ⟨by rfl, ?_⟩) ?_ ?_
       rotate_left
       ·intro w'
        go_simp
        with_reducible rfl
       rotate_left
       ·simp only [Act.put, sA_, s0_, s1_, i64_w, i32_w]
        rfl
       refine pure_ (i := 1) (N := some 35) (v := ?_) (a' := ?_) #[true, true, false, false, false, false, false, false, false, false, false] rfl rfl (any_of HT_.out (by kernel_rfl)) (fun _ _ _ h => h) (Or.inl ⟨by rfl, ?_⟩) ?_ ?_
       rotate_left
       ·intro w'
        go_simp
        with_reducible rfl
       rotate_left
       ·simp only [Act.put, sA_, s0_, s1_, i64_w, i32_w]
        rfl
       refine pure_ (i := 3) (N := some 37) (v := ?_) (a' := ?_) #[true, true, false, true, false, false, false, false, false, false, false] rfl rfl (any_of HT_.out (by kernel_rfl)) (fun _ _ _ h => h) (Or.inl ⟨by rfl, ?_⟩) ?_ ?_
       rotate_left
       ·intro w'
        go_simp
        with_reducible rfl
       rotate_left
       ·simp only [Act.put, sA_, s0_, s1_, i64_w, i32_w]
        rfl
       refine take_ (i := 2) (N := some 36) (v := ?_) (a' := ?_) #[true, true, true, true, false, false, false, false, false, false, false] rfl rfl (take_ofW HT_.out HW_.out (by kernel_rfl)) (fun _ _ _ h => h) (Or.inl ⟨by rfl, ?_⟩) hHeld ?_ ?_
       rotate_left
       ·rintro w' ⟨s0, s1, s2, s3, s4, s5, s6, s7, s8, s9, s10, s11, s12, s13, s14, s15⟩
        go_simp
        with_reducible rfl
       rotate_left
       ·simp only [Act.put, sA_, s0_, s1_, i64_w, i32_w]
        rfl
       refine take_ (i := 4) (N := some 38) (v := ?_) (a' := ?_) #[true, true, true, true, true, false, false, false, false, false, false] rfl rfl (take_ofW HT_.out HW_.out (by kernel_rfl)) (fun _ _ _ h => h) (Or.inl ⟨by rfl, ?_⟩) hHeld ?_ ?_
       rotate_left
       ·rintro w' ⟨s0, s1, s2, s3, s4, s5, s6, s7, s8, s9, s10, s11, s12, s13, s14, s15⟩
        go_simp
        with_reducible rfl
       rotate_left
       ·simp only [Act.put, sA_, s0_, s1_, i64_w, i32_w]
        rfl
       refine one_ (i := 5) (N := some 39) #[true, true, true, true, true, true, false, false, false, false, false] rfl rfl (one_of HT_.out (by kernel_rfl)) (by decide) (fun K hK => ?_)
       refine goes_ Tryd.func44 (by kernel_rfl) rfl #[.string (rdOf ByteArray.empty t324 1), .int .i64 1, .agg #[.int .u8 t307, .int .u8 t308, .int .u8 t309, .int .u8 t310, .int .u8 t311]] (by rfl) rfl rfl (by (try simp only [List.map_toArray, List.map_cons, List.map_nil]); first | done | rfl | (simp only [List.length_drop, List.length_take]; rfl)) ?_
       with_reducible refine (lamplighterref08_Field.calls kj4 (rdOf ByteArray.empty t324 1) 1 t307 t308 t309 t310 t311 t330 t331 _ A21.out).mono ?_
       rintro e w34 ⟨rfl, hb⟩
       have HS15_ := (hb.cell (World.block_lt_of_cell? _ _ (hHeld.2.2.2.2.2.2.2.2.2.2.2.2.2.2.2))).trans (hHeld.2.2.2.2.2.2.2.2.2.2.2.2.2.2.2)
       refine ⟨_, rfl, ?_⟩
       have n0_ := Aside0.mk (Kd.R_below (by (with_reducible repeat (first | apply Kd.R_alloc | apply Kd.R_drewN | apply Kd.R_drew)); exact HO_6.out) hb)
       have n1_ := Aside0.mk (blk_below (g := gb306) (o := .cells #[.string (⟨#[]⟩ : ByteArray), .string (⟨#[]⟩ : ByteArray)] 45 (0, 0)) (by (with_reducible repeat (first | refine kN ?_ _ | refine kD ?_ | refine kA ?_ _)); exact BK306.out) hb)
       have n2_ := Aside0.mk (blk_below (g := gb323) (o := .cells #[.int .u8 t307, .int .u8 t308, .int .u8 t309, .int .u8 t310, .int .u8 t311, .string t312, .string t313, .string t314, .string t315, .string t316, .string t317, .string t318, .string t319, .string t320, .string t321] 25 (0, 0)) (by (with_reducible repeat (first | refine kN ?_ _ | refine kD ?_ | refine kA ?_ _)); exact BK323.out) hb)
       have n3_ := Aside0.mk (below_step (by repeat (first | (with_reducible first | exact HB.out | apply bA | apply bN | apply bD | refine below_set ?_ GE306.out | refine below_set ?_ GE323.out) | exact HB.out)) hb)
       clear HO_6
       clear BK306
       clear BK323
       clear HB
       have HO_6 := n0_
       have BK306 := n1_
       have BK323 := n2_
       have HB := n3_
       clear n0_ n1_ n2_ n3_
       (try clear hb)
       (try clear hb2)
       (try clear hk)
       (try clear hi)
       refine hK.out _ _ ⟨blk_cell BK323.out 0, blk_cell BK323.out 1, blk_cell BK323.out 2, blk_cell BK323.out 3, blk_cell BK323.out 4, blk_cell BK323.out 5, blk_cell BK323.out 6, blk_cell BK323.out 7, blk_cell BK323.out 8, blk_cell BK323.out 9, blk_cell BK323.out 10, blk_cell BK323.out 11, blk_cell BK323.out 12, blk_cell BK323.out 13, blk_cell BK323.out 14, HS15_⟩ (fun hHeld => ?_)
       clear hK K
       refine norm_ (a' := ?_) ?_ ?_
       rotate_left
       ·show Act.put _ (some 39) _ = _
        simp only [Act.put, sA_, s0_, s1_, i64_w, i32_w]
        rfl
       refine pure_ (i := 6) (N := some 33) (v := ?_) (a' := ?_) #[true, true, true, true, true, true, true, false, false, false, false] rfl rfl (any_of HT_.out (by kernel_rfl)) (fun _ _ _ h => h) (Or.inl ⟨by rfl, ?_⟩) ?_ ?_
       rotate_left
       ·intro w'
        go_simp
        with_reducible rfl
       rotate_left
       ·simp only [Act.put, sA_, s0_, s1_, i64_w, i32_w]
        rfl
       refine pure_ (i := 7) (N := some 40) (v := ?_) (a' := ?_) #[true, true, true, true, true, true, true, true, false, false, false] rfl rfl (any_of HT_.out (by kernel_rfl)) (fun _ _ _ h => h) (Or.inl ⟨by rfl, ?_⟩) ?_ ?_
       rotate_left
       ·intro w'
        go_simp
        with_reducible rfl
       rotate_left
       ·simp only [Act.put, sA_, s0_, s1_, i64_w, i32_w]
        rfl
       refine pure_ (i := 8) (N := some 41) (v := ?_) (a' := ?_) #[true, true, true, true, true, true, true, true, true, false, false] rfl rfl (any_of HT_.out (by kernel_rfl)) (fun _ _ _ h => h) (Or.inl ⟨by rfl, ?_⟩) ?_ ?_
       rotate_left
       ·intro w'
        go_simp
        with_reducible rfl
       rotate_left
       ·simp only [Act.put, sA_, s0_, s1_, i64_w, i32_w]
        rfl
       refine pure_ (i := 9) (N := some 7) (v := ?_) (a' := ?_) #[true, true, true, true, true, true, true, true, true, true, false] rfl rfl (any_of HT_.out (by kernel_rfl)) (fun _ _ _ h => h) (Or.inl ⟨by rfl, ?_⟩) ?_ ?_
       rotate_left
       ·intro w'
        go_simp
        with_reducible rfl
       rotate_left
       ·simp only [Act.put, sA_, s0_, s1_, i64_w, i32_w]
        rfl
       refine pure_ (i := 10) (N := some 8) (v := ?_) (a' := ?_) #[true, true, true, true, true, true, true, true, true, true, true] rfl rfl (any_of HT_.out (by kernel_rfl)) (fun _ _ _ h => h) (Or.inl ⟨by rfl, ?_⟩) ?_ ?_
       rotate_left
       ·intro w'
        go_simp
        with_reducible rfl
       rotate_left
       ·simp only [Act.put, sA_, s0_, s1_, i64_w, i32_w]
        rfl
       refine done_ (done_of HT_.out (by kernel_rfl)) ?_
       try go_wp2
       have n0_ := Aside0.mk (Kd.R_drew HO_6.out)
       have n1_ := Aside0.mk (blk_drew BK306.out)
       have n2_ := Aside0.mk (blk_drew BK323.out)
       have n3_ := Aside0.mk (below_drew1 HB.out)
       clear HO_6
       clear BK306
       clear BK323
       clear HB
       have HO_6 := n0_
       have BK306 := n1_
       have BK323 := n2_
       have HB := n3_
       clear n0_ n1_ n2_ n3_
       have p332 : 0 ≤ (1 : Int) := (by omega)
       have q332 : 1 < (t324.length : Int) := of_decide_eq_true (by first | (with_reducible assumption) | assumption)
       obtain ⟨ad332, e332, hx332_0⟩ := Kd.at_string (Kd.R_reads' HO_6.out).2.2 1 p332 q332
       obtain rfl : ad329 = ad332 := (by injection e332)
       (try simp only [show (1 : Int).toNat = 1 from rfl, Nat.reduceMul, Nat.reduceEqDiff, Go.Addr.add, ↓reduceIte] at hx332_0)
       have qi332 : (1 < t324.length) = True := eq_true (by omega)
       (try rw [show ((1 : Int)).toNat = 1 from rfl] at hx332_0)
       replace p332 := eq_true p332
       replace q332 := eq_true q332
       refine start_ (n := 11) (S := fun w' => w'.cell? ⟨gb323, 0, none⟩ = some (.int .u8 t307) ∧ w'.cell? ⟨gb323, 1, none⟩ = some (.int .u8 t308) ∧ w'.cell? ⟨gb323, 2, none⟩ = some (.int .u8 t309) ∧ w'.cell? ⟨gb323, 3, none⟩ = some (.int .u8 t310) ∧ w'.cell? ⟨gb323, 4, none⟩ = some (.int .u8 t311) ∧ w'.cell? ⟨gb323, 5, none⟩ = some (.string t312) ∧ w'.cell? ⟨gb323, 6, none⟩ = some (.string t313) ∧ w'.cell? ⟨gb323, 7, none⟩ = some (.string t314) ∧ w'.cell? ⟨gb323, 8, none⟩ = some (.string t315) ∧ w'.cell? ⟨gb323, 9, none⟩ = some (.string t316) ∧ w'.cell? ⟨gb323, 10, none⟩ = some (.string t317) ∧ w'.cell? ⟨gb323, 11, none⟩ = some (.string t318) ∧ w'.cell? ⟨gb323, 12, none⟩ = some (.string t319) ∧ w'.cell? ⟨gb323, 13, none⟩ = some (.string t320) ∧ w'.cell? ⟨gb323, 14, none⟩ = some (.string t321) ∧ w'.cell? ⟨ad329.block, ad329.off + 1, none⟩ = some (.string (rdOf ByteArray.empty t324 1))) (ds := []) #[false, false, false, false, false, false, false, false, false, false, false] (by kernel_rfl) rfl rfl ⟨blk_cell BK323.out 0, blk_cell BK323.out 1, blk_cell BK323.out 2, blk_cell BK323.out 3, blk_cell BK323.out 4, blk_cell BK323.out 5, blk_cell BK323.out 6, blk_cell BK323.out 7, blk_cell BK323.out 8, blk_cell BK323.out 9, blk_cell BK323.out 10, blk_cell BK323.out 11, blk_cell BK323.out 12, blk_cell BK323.out 13, blk_cell BK323.out 14, hx332_0⟩ (fun hHeld => ?_); refine with_tabW lamplighterref10_Read.tab8 lamplighterref10_Read.bits8 (fun HT_ HW_ => ?_)
       generalize w34.drew = w35 at HO_6 BK306 BK323 HB hx332_0 hHeld ⊢
       refine pure_ (i := 0) (N := some 43) (v := ?_) (a' := ?_) #[true, false, false, false, false, false, false, false, false, false, false] rfl rfl (any_of HT_.out (by kernel_rfl)) (fun _ _ _ h => h) (Or.inl ⟨by rfl, ?_⟩) ?_ ?_
       rotate_left
       ·intro w'
        go_simp
        with_reducible rfl
       rotate_left
       ·simp only [Act.put, sA_, s0_, s1_, i64_w, i32_w]
        rfl
       refine pure_ (i := 1) (N := some 44) (v := ?_) (a' := ?_) #[true, true, false, false, false, false, false, false, false, false, false] rfl rfl (any_of HT_.out (by kernel_rfl)) (fun _ _ _ h => h) (Or.inl ⟨by rfl, ?_⟩) ?_ ?_
       rotate_left
       ·intro w'
        go_simp
        with_reducible rfl
       rotate_left
       ·simp only [Act.put, sA_, s0_, s1_, i64_w, i32_w]
        rfl
       refine pure_ (i := 3) (N := some 46) (v := ?_) (a' := ?_) #[true, true, false, true, false, false, false, false, false, false, false] rfl rfl (any_of HT_.out (by kernel_rfl)) (fun _ _ _ h => h) (Or.inl ⟨by rfl, ?_⟩) ?_ ?_
       rotate_left
       ·intro w'
        go_simp
        with_reducible rfl
       rotate_left
       ·simp only [Act.put, sA_, s0_, s1_, i64_w, i32_w]
        rfl
       refine take_ (i := 2) (N := some 45) (v := ?_) (a' := ?_) #[true, true, true, true, false, false, false, false, false, false, false] rfl rfl (take_ofW HT_.out HW_.out (by kernel_rfl)) (fun _ _ _ h => h) (Or.inl ⟨by rfl, ?_⟩) hHeld ?_ ?_
       rotate_left
       ·rintro w' ⟨s0, s1, s2, s3, s4, s5, s6, s7, s8, s9, s10, s11, s12, s13, s14, s15⟩
        go_simp
        with_reducible rfl
       rotate_left
       ·simp only [Act.put, sA_, s0_, s1_, i64_w, i32_w]
        rfl
       refine take_ (i := 4) (N := some 47) (v := ?_) (a' := ?_) #[true, true, true, true, true, false, false, false, false, false, false] rfl rfl (take_ofW HT_.out HW_.out (by kernel_rfl)) (fun _ _ _ h => h) (Or.inl ⟨by rfl, ?_⟩) hHeld ?_ ?_
       rotate_left
       ·rintro w' ⟨s0, s1, s2, s3, s4, s5, s6, s7, s8, s9, s10, s11, s12, s13, s14, s15⟩
        go_simp
        with_reducible rfl
       rotate_left
       ·simp only [Act.put, sA_, s0_, s1_, i64_w, i32_w]
        rfl
       refine one_ (i := 5) (N := some 48) #[true, true, true, true, true, true, false, false, false, false, false] rfl rfl (one_of HT_.out (by kernel_rfl)) (by decide) (fun K hK => ?_)
       refine goes_ Tryd.func44 (by kernel_rfl) rfl #[.string (rdOf ByteArray.empty t324 1), .int .i64 2, .agg #[.int .u8 t307, .int .u8 t308, .int .u8 t309, .int .u8 t310, .int .u8 t311]] (by rfl) rfl rfl (by (try simp only [List.map_toArray, List.map_cons, List.map_nil]); first | done | rfl | (simp only [List.length_drop, List.length_take]; rfl)) ?_
       with_reducible refine (lamplighterref08_Field.calls kj4 (rdOf ByteArray.empty t324 1) 2 t307 t308 t309 t310 t311 t333 t334 _ A22.out).mono ?_
       rintro e w36 ⟨rfl, hb⟩
       have HS15_ := (hb.cell (World.block_lt_of_cell? _ _ (hHeld.2.2.2.2.2.2.2.2.2.2.2.2.2.2.2))).trans (hHeld.2.2.2.2.2.2.2.2.2.2.2.2.2.2.2)
       refine ⟨_, rfl, ?_⟩
       have n0_ := Aside0.mk (Kd.R_below (by (with_reducible repeat (first | apply Kd.R_alloc | apply Kd.R_drewN | apply Kd.R_drew)); exact HO_6.out) hb)
       have n1_ := Aside0.mk (blk_below (g := gb306) (o := .cells #[.string (⟨#[]⟩ : ByteArray), .string (⟨#[]⟩ : ByteArray)] 45 (0, 0)) (by (with_reducible repeat (first | refine kN ?_ _ | refine kD ?_ | refine kA ?_ _)); exact BK306.out) hb)
       have n2_ := Aside0.mk (blk_below (g := gb323) (o := .cells #[.int .u8 t307, .int .u8 t308, .int .u8 t309, .int .u8 t310, .int .u8 t311, .string t312, .string t313, .string t314, .string t315, .string t316, .string t317, .string t318, .string t319, .string t320, .string t321] 25 (0, 0)) (by (with_reducible repeat (first | refine kN ?_ _ | refine kD ?_ | refine kA ?_ _)); exact BK323.out) hb)
       have n3_ := Aside0.mk (below_step (by repeat (first | (with_reducible first | exact HB.out | apply bA | apply bN | apply bD | refine below_set ?_ GE306.out | refine below_set ?_ GE323.out) | exact HB.out)) hb)
       clear HO_6
       clear BK306
       clear BK323
       clear HB
       have HO_6 := n0_
       have BK306 := n1_
       have BK323 := n2_
       have HB := n3_
       clear n0_ n1_ n2_ n3_
       (try clear hb)
       (try clear hb2)
       (try clear hk)
       (try clear hi)
       refine hK.out _ _ ⟨blk_cell BK323.out 0, blk_cell BK323.out 1, blk_cell BK323.out 2, blk_cell BK323.out 3, blk_cell BK323.out 4, blk_cell BK323.out 5, blk_cell BK323.out 6, blk_cell BK323.out 7, blk_cell BK323.out 8, blk_cell BK323.out 9, blk_cell BK323.out 10, blk_cell BK323.out 11, blk_cell BK323.out 12, blk_cell BK323.out 13, blk_cell BK323.out 14, HS15_⟩ (fun hHeld => ?_)
       clear hK K
       refine norm_ (a' := ?_) ?_ ?_
       rotate_left
       ·show Act.put _ (some 48) _ = _
        simp only [Act.put, sA_, s0_, s1_, i64_w, i32_w]
        rfl
       refine pure_ (i := 6) (N := some 42) (v := ?_) (a' := ?_) #[true, true, true, true, true, true, true, false, false, false, false] rfl rfl (any_of HT_.out (by kernel_rfl)) (fun _ _ _ h => h) (Or.inl ⟨by rfl, ?_⟩) ?_ ?_
       rotate_left
       ·intro w'
        go_simp
        with_reducible rfl
       rotate_left
       ·simp only [Act.put, sA_, s0_, s1_, i64_w, i32_w]
        rfl
       refine pure_ (i := 7) (N := some 49) (v := ?_) (a' := ?_) #[true, true, true, true, true, true, true, true, false, false, false] rfl rfl (any_of HT_.out (by kernel_rfl)) (fun _ _ _ h => h) (Or.inl ⟨by rfl, ?_⟩) ?_ ?_
       rotate_left
       ·intro w'
        go_simp
        with_reducible rfl
       rotate_left
       ·simp only [Act.put, sA_, s0_, s1_, i64_w, i32_w]
        rfl
       refine pure_ (i := 8) (N := some 50) (v := ?_) (a' := ?_) #[true, true, true, true, true, true, true, true, true, false, false] rfl rfl (any_of HT_.out (by kernel_rfl)) (fun _ _ _ h => h) (Or.inl ⟨by rfl, ?_⟩) ?_ ?_
       rotate_left
       ·intro w'
        go_simp
        with_reducible rfl
       rotate_left
       ·simp only [Act.put, sA_, s0_, s1_, i64_w, i32_w]
        rfl
       refine pure_ (i := 9) (N := some 9) (v := ?_) (a' := ?_) #[true, true, true, true, true, true, true, true, true, true, false] rfl rfl (any_of HT_.out (by kernel_rfl)) (fun _ _ _ h => h) (Or.inl ⟨by rfl, ?_⟩) ?_ ?_
       rotate_left
       ·intro w'
        go_simp
        with_reducible rfl
       rotate_left
       ·simp only [Act.put, sA_, s0_, s1_, i64_w, i32_w]
        rfl
       refine pure_ (i := 10) (N := some 10) (v := ?_) (a' := ?_) #[true, true, true, true, true, true, true, true, true, true, true] rfl rfl (any_of HT_.out (by kernel_rfl)) (fun _ _ _ h => h) (Or.inl ⟨by rfl, ?_⟩) ?_ ?_
       rotate_left
       ·intro w'
        go_simp
        with_reducible rfl
       rotate_left
       ·simp only [Act.put, sA_, s0_, s1_, i64_w, i32_w]
        rfl
       refine done_ (done_of HT_.out (by kernel_rfl)) ?_
       try go_wp2_with (first | ((with_reducible refine gate_callee (f := 45) rfl ?_); refine goesL_ (some 52) rfl rfl Tryd.func45 (by kernel_rfl) rfl #[.string t330] rfl (by (try simp only [List.map_toArray, List.map_cons, List.map_nil]); first | done | rfl | (simp only [List.length_drop, List.length_take]; rfl)) ?_; (with_reducible refine (lamplighterref10_Known.calls t330 false _ A23.out).mono ?_); rintro e w' ⟨rfl, ⟨nd, rfl⟩⟩; refine ⟨_, rfl, ?_⟩; (try (rw [drewN_self w36]; generalize hq_ : World.drewN w36 _ = w36; have n0_ : Aside0 (Kd.R Kd.string 9 w36 w.heap.size (fun _ => True) (.slice (some ad329) t324.length co33) t324) := ⟨by rw [← hq_]; exact (by (with_reducible repeat (first | apply Kd.R_alloc | apply Kd.R_drewN | apply Kd.R_drew)); exact HO_6.out)⟩; have n1_ : Aside0 (w36.heap[gb306]? = some (.cells #[.string (⟨#[]⟩ : ByteArray), .string (⟨#[]⟩ : ByteArray)] 45 (0, 0))) := ⟨by rw [← hq_]; exact (by (with_reducible repeat (first | refine kN ?_ _ | refine kD ?_ | refine kA ?_ _)); exact BK306.out)⟩; have n2_ : Aside0 (w36.heap[gb323]? = some (.cells #[.int .u8 t307, .int .u8 t308, .int .u8 t309, .int .u8 t310, .int .u8 t311, .string t312, .string t313, .string t314, .string t315, .string t316, .string t317, .string t318, .string t319, .string t320, .string t321] 25 (0, 0))) := ⟨by rw [← hq_]; exact (by (with_reducible repeat (first | refine kN ?_ _ | refine kD ?_ | refine kA ?_ _)); exact BK323.out)⟩; have n3_ : Aside0 (Below w.heap.size w w36) := ⟨by rw [← hq_]; exact (by repeat (first | (with_reducible first | exact HB.out | apply bA | apply bN | apply bD | refine below_set ?_ GE306.out | refine below_set ?_ GE323.out) | exact HB.out))⟩; clear HO_6 BK306 BK323 HB hq_; have HO_6 := n0_; have BK306 := n1_; have BK323 := n2_; have HB := n3_; clear n0_ n1_ n2_ n3_)); have hnb37 := NB306_323.out; have hnc37 := NB323_306.out; have hcz38_0 : w36.cell? ⟨gb306, 0, none⟩ = some (.string (⟨#[]⟩ : ByteArray)) := blk_cell BK306.out 0; have hcz38_1 : w36.cell? ⟨gb306, 1, none⟩ = some (.string (⟨#[]⟩ : ByteArray)) := blk_cell BK306.out 1; have hfz38_0 := blk_frozen BK306.out 0; have hfz38_1 := blk_frozen BK306.out 1))
       refine bodyPost_ret (results_ct rfl _ _ gb306 45 #[.string (⟨#[]⟩ : ByteArray), .string (⟨#[]⟩ : ByteArray)] (0, 0) _ rfl (by (with_reducible repeat (first | refine kN ?_ _ | refine kD ?_ | refine kA ?_ _)); refine blk_put (cs := #[.string (⟨#[]⟩ : ByteArray), .string (⟨#[]⟩ : ByteArray)]) ?_ 1 _ rfl; (with_reducible repeat (first | refine kN ?_ _ | refine kD ?_ | refine kA ?_ _)); refine blk_put (cs := #[.string (⟨#[]⟩ : ByteArray), .string (⟨#[]⟩ : ByteArray)]) ?_ 0 _ rfl; (with_reducible repeat (first | refine kN ?_ _ | refine kD ?_ | refine kA ?_ _)); exact BK306.out) Tryd.underlying45 rfl (by kernel_rfl)) rfl ?_
       exact ⟨by first | rfl | (simp [errW_none, errW_some] <;> rfl) | (simp [*, errW_none, errW_some] <;> rfl), by repeat (first | (with_reducible first | exact HB.out | apply bA | apply bN | apply bD | refine below_set ?_ GE306.out | refine below_set ?_ GE323.out) | exact HB.out)⟩
     ·rw [if_neg c20] at H
      exact absurd H (by simp)
 ·rw [if_neg c3] at H
  have c3b0 : (t322 == 0) = false := beq_eq_false_iff_ne.mpr c3
  have c3b1 : (t322 != 0) = true := bne_iff_ne.mpr c3
  simp only [Option.some.injEq, Prod.mk.injEq] at H
  obtain ⟨rfl, rfl, rfl⟩ := H
  go_enter Tryd.func20, Tryd.ntmps20
  go_wp2_with (first | ((with_reducible refine gate_dst (N := 2) rfl ?_); refine box_event ?hg (N := 2) ?hd (cs := #[.string (⟨#[]⟩ : ByteArray), .string (⟨#[]⟩ : ByteArray)]) (t := 45) ?hr ?_; (case hd => rfl); (case hg => rfl); (case hr => first | (go_simp; done) | (go_simp; rfl)); intro gb306 hg w39 hbox hb; have n0_ := Aside0.mk (below_step (by repeat (first | (with_reducible first | exact HB.out | apply bA | apply bN | apply bD) | exact HB.out)) hb); have n1_ := Aside0.mk (hbox); have n2_ := Aside0.mk ((by rw [hg]; exact (below_size (by repeat (first | (with_reducible first | exact HB.out | apply bA | apply bN | apply bD) | exact HB.out))) : w.heap.size ≤ gb306)); have n3_ := Aside0.mk ((by rw [hg]; exact (below_size (by repeat (first | (with_reducible first | exact HB.out | apply bA | apply bN | apply bD) | exact HB.out))) : w.heap.size ≤ gb306)); clear HB; have HB := n0_; have BK306 := n1_; have GW306 := n2_; have GE306 := n3_; clear n0_ n1_ n2_ n3_; clear hb hbox hg) | ((with_reducible refine gate_callee (f := 40) rfl ?_); refine goesL_ (some 13) rfl rfl Tryd.func40 (by kernel_rfl) rfl #[.slice A0 l0.length c0] rfl (by (try simp only [List.map_toArray, List.map_cons, List.map_nil]); first | done | rfl | (simp only [List.length_drop, List.length_take]; rfl)) ?_; (with_reducible refine (lamplighterref09_Read.calls k _ _ l0 t307 t308 t309 t310 t311 t312 t313 t314 t315 t316 t317 t318 t319 t320 t321 t322 _ ?side1 ?side2 A2.out).mono ?_); (case side1 => repeat (first | exact (Kd.C_below HR0.out HB.out) | (with_reducible refine Kd.C_alloc ?_ _) | (with_reducible refine Kd.C_drewN ?_ _) | (with_reducible refine Kd.C_drew ?_))); (case side2 => exact HC0.out); rintro e w40 ⟨rfl, hb⟩; refine ⟨_, rfl, ?_⟩; have n0_ := Aside0.mk (blk_below (g := gb306) (o := .cells #[.string (⟨#[]⟩ : ByteArray), .string (⟨#[]⟩ : ByteArray)] 45 (0, 0)) (by (with_reducible repeat (first | refine kN ?_ _ | refine kD ?_ | refine kA ?_ _)); exact BK306.out) hb); have n1_ := Aside0.mk (below_step (by repeat (first | (with_reducible first | exact HB.out | apply bA | apply bN | apply bD | refine below_set ?_ GE306.out) | exact HB.out)) hb); clear BK306; clear HB; have BK306 := n0_; have HB := n1_; clear n0_ n1_; (try clear hb)) | ((with_reducible refine gate_dst (N := 4) rfl ?_); refine box_event ?hg (N := 4) ?hd (cs := #[.int .u8 0, .int .u8 0, .int .u8 0, .int .u8 0, .int .u8 0, .string (⟨#[]⟩ : ByteArray), .string (⟨#[]⟩ : ByteArray), .string (⟨#[]⟩ : ByteArray), .string (⟨#[]⟩ : ByteArray), .string (⟨#[]⟩ : ByteArray), .string (⟨#[]⟩ : ByteArray), .string (⟨#[]⟩ : ByteArray), .string (⟨#[]⟩ : ByteArray), .string (⟨#[]⟩ : ByteArray), .string (⟨#[]⟩ : ByteArray)]) (t := 25) ?hr ?_; (case hd => rfl); (case hg => rfl); (case hr => first | (go_simp; done) | (go_simp; rfl)); intro gb323 hg w41 hbox hb; have n0_ := Aside0.mk (blk_below (g := gb306) (o := .cells #[.string (⟨#[]⟩ : ByteArray), .string (⟨#[]⟩ : ByteArray)] 45 (0, 0)) (by (with_reducible repeat (first | refine kN ?_ _ | refine kD ?_ | refine kA ?_ _)); exact BK306.out) hb); have n1_ := Aside0.mk (below_step (by repeat (first | (with_reducible first | exact HB.out | apply bA | apply bN | apply bD | refine below_set ?_ GE306.out) | exact HB.out)) hb); have n2_ := Aside0.mk (hbox); have n3_ := Aside0.mk ((by rw [hg]; exact (below_size (by repeat (first | (with_reducible first | exact HB.out | apply bA | apply bN | apply bD | refine below_set ?_ GE306.out) | exact HB.out))) : w.heap.size ≤ gb323)); have n4_ := Aside0.mk ((by rw [hg]; exact (below_size (by repeat (first | (with_reducible first | exact HB.out | apply bA | apply bN | apply bD | refine below_set ?_ GE306.out) | exact HB.out))) : w.heap.size ≤ gb323)); have n5_ := Aside0.mk ((by rw [hg]; exact Nat.ne_of_lt (blk_lt (g := gb306) (o := .cells #[.string (⟨#[]⟩ : ByteArray), .string (⟨#[]⟩ : ByteArray)] 45 (0, 0)) (by (with_reducible repeat (first | refine kN ?_ _ | refine kD ?_ | refine kA ?_ _)); exact BK306.out)) : gb306 ≠ gb323)); have n6_ := Aside0.mk ((by rw [hg]; exact Nat.ne_of_gt (blk_lt (g := gb306) (o := .cells #[.string (⟨#[]⟩ : ByteArray), .string (⟨#[]⟩ : ByteArray)] 45 (0, 0)) (by (with_reducible repeat (first | refine kN ?_ _ | refine kD ?_ | refine kA ?_ _)); exact BK306.out)) : gb323 ≠ gb306)); clear BK306; clear HB; have BK306 := n0_; have HB := n1_; have BK323 := n2_; have GW323 := n3_; have GE323 := n4_; have NB306_323 := n5_; have NB323_306 := n6_; clear n0_ n1_ n2_ n3_ n4_ n5_ n6_; clear hb hbox hg; have hnb42 := NB323_306.out; have hnc42 := NB306_323.out; have hcz43_0 : w41.cell? ⟨gb323, 0, none⟩ = some (.int .u8 0) := blk_cell BK323.out 0; have hcz43_1 : w41.cell? ⟨gb323, 1, none⟩ = some (.int .u8 0) := blk_cell BK323.out 1; have hcz43_2 : w41.cell? ⟨gb323, 2, none⟩ = some (.int .u8 0) := blk_cell BK323.out 2; have hcz43_3 : w41.cell? ⟨gb323, 3, none⟩ = some (.int .u8 0) := blk_cell BK323.out 3; have hcz43_4 : w41.cell? ⟨gb323, 4, none⟩ = some (.int .u8 0) := blk_cell BK323.out 4; have hcz43_5 : w41.cell? ⟨gb323, 5, none⟩ = some (.string (⟨#[]⟩ : ByteArray)) := blk_cell BK323.out 5; have hcz43_6 : w41.cell? ⟨gb323, 6, none⟩ = some (.string (⟨#[]⟩ : ByteArray)) := blk_cell BK323.out 6; have hcz43_7 : w41.cell? ⟨gb323, 7, none⟩ = some (.string (⟨#[]⟩ : ByteArray)) := blk_cell BK323.out 7; have hcz43_8 : w41.cell? ⟨gb323, 8, none⟩ = some (.string (⟨#[]⟩ : ByteArray)) := blk_cell BK323.out 8; have hcz43_9 : w41.cell? ⟨gb323, 9, none⟩ = some (.string (⟨#[]⟩ : ByteArray)) := blk_cell BK323.out 9; have hcz43_10 : w41.cell? ⟨gb323, 10, none⟩ = some (.string (⟨#[]⟩ : ByteArray)) := blk_cell BK323.out 10; have hcz43_11 : w41.cell? ⟨gb323, 11, none⟩ = some (.string (⟨#[]⟩ : ByteArray)) := blk_cell BK323.out 11; have hcz43_12 : w41.cell? ⟨gb323, 12, none⟩ = some (.string (⟨#[]⟩ : ByteArray)) := blk_cell BK323.out 12; have hcz43_13 : w41.cell? ⟨gb323, 13, none⟩ = some (.string (⟨#[]⟩ : ByteArray)) := blk_cell BK323.out 13; have hcz43_14 : w41.cell? ⟨gb323, 14, none⟩ = some (.string (⟨#[]⟩ : ByteArray)) := blk_cell BK323.out 14; have hfz43_0 := blk_frozen BK323.out 0; have hfz43_1 := blk_frozen BK323.out 1; have hfz43_2 := blk_frozen BK323.out 2; have hfz43_3 := blk_frozen BK323.out 3; have hfz43_4 := blk_frozen BK323.out 4; have hfz43_5 := blk_frozen BK323.out 5; have hfz43_6 := blk_frozen BK323.out 6; have hfz43_7 := blk_frozen BK323.out 7; have hfz43_8 := blk_frozen BK323.out 8; have hfz43_9 := blk_frozen BK323.out 9; have hfz43_10 := blk_frozen BK323.out 10; have hfz43_11 := blk_frozen BK323.out 11; have hfz43_12 := blk_frozen BK323.out 12; have hfz43_13 := blk_frozen BK323.out 13; have hfz43_14 := blk_frozen BK323.out 14; have hcz44_0 : w41.cell? ⟨gb306, 0, none⟩ = some (.string (⟨#[]⟩ : ByteArray)) := blk_cell BK306.out 0; have hcz44_1 : w41.cell? ⟨gb306, 1, none⟩ = some (.string (⟨#[]⟩ : ByteArray)) := blk_cell BK306.out 1; have hfz44_0 := blk_frozen BK306.out 0; have hfz44_1 := blk_frozen BK306.out 1))
  refine bodyPost_ret (results_ct rfl _ _ gb306 45 #[.string (⟨#[]⟩ : ByteArray), .string (⟨#[]⟩ : ByteArray)] (0, 0) _ rfl (by (with_reducible repeat (first | refine kN ?_ _ | refine kD ?_ | refine kA ?_ _)); refine blk_put (cs := #[.string (⟨#[]⟩ : ByteArray), .string (⟨#[]⟩ : ByteArray)]) ?_ 1 _ rfl; (with_reducible repeat (first | refine kN ?_ _ | refine kD ?_ | refine kA ?_ _)); refine blk_put (cs := #[.string (⟨#[]⟩ : ByteArray), .string (⟨#[]⟩ : ByteArray)]) ?_ 0 _ rfl; (with_reducible repeat (first | refine kN ?_ _ | refine kD ?_ | refine kA ?_ _)); refine blk_far ?_ NB306_323.out _; (with_reducible repeat (first | refine kN ?_ _ | refine kD ?_ | refine kA ?_ _)); refine blk_far ?_ NB306_323.out _; (with_reducible repeat (first | refine kN ?_ _ | refine kD ?_ | refine kA ?_ _)); refine blk_far ?_ NB306_323.out _; (with_reducible repeat (first | refine kN ?_ _ | refine kD ?_ | refine kA ?_ _)); refine blk_far ?_ NB306_323.out _; (with_reducible repeat (first | refine kN ?_ _ | refine kD ?_ | refine kA ?_ _)); refine blk_far ?_ NB306_323.out _; (with_reducible repeat (first | refine kN ?_ _ | refine kD ?_ | refine kA ?_ _)); refine blk_far ?_ NB306_323.out _; (with_reducible repeat (first | refine kN ?_ _ | refine kD ?_ | refine kA ?_ _)); refine blk_far ?_ NB306_323.out _; (with_reducible repeat (first | refine kN ?_ _ | refine kD ?_ | refine kA ?_ _)); refine blk_far ?_ NB306_323.out _; (with_reducible repeat (first | refine kN ?_ _ | refine kD ?_ | refine kA ?_ _)); refine blk_far ?_ NB306_323.out _; (with_reducible repeat (first | refine kN ?_ _ | refine kD ?_ | refine kA ?_ _)); refine blk_far ?_ NB306_323.out _; (with_reducible repeat (first | refine kN ?_ _ | refine kD ?_ | refine kA ?_ _)); refine blk_far ?_ NB306_323.out _; (with_reducible repeat (first | refine kN ?_ _ | refine kD ?_ | refine kA ?_ _)); refine blk_far ?_ NB306_323.out _; (with_reducible repeat (first | refine kN ?_ _ | refine kD ?_ | refine kA ?_ _)); refine blk_far ?_ NB306_323.out _; (with_reducible repeat (first | refine kN ?_ _ | refine kD ?_ | refine kA ?_ _)); refine blk_far ?_ NB306_323.out _; (with_reducible repeat (first | refine kN ?_ _ | refine kD ?_ | refine kA ?_ _)); refine blk_far ?_ NB306_323.out _; (with_reducible repeat (first | refine kN ?_ _ | refine kD ?_ | refine kA ?_ _)); exact BK306.out) Tryd.underlying45 rfl (by kernel_rfl)) rfl ?_
  exact ⟨by first | rfl | (simp [errW_none, errW_some] <;> rfl) | (simp [*, errW_none, errW_some] <;> rfl), by repeat (first | (with_reducible first | exact HB.out | apply bA | apply bN | apply bD | refine below_set ?_ GE306.out | refine below_set ?_ GE323.out) | exact HB.out)⟩

end Go.Proofs.YtcjcaojgminjpabDoor.PB
