-- Written by a program of this work (the kit's print, with contracts of this work's own taken in) out of the translation. Not trusted: Lean checks it.
import Derived.Test.YtcjcaojgminjpabDoorPBx0
import Derived.Test.YtcjcaojgminjpabDoorPBx1
import Derived.Test.YtcjcaojgminjpabDoorPBx2
import Derived.Test.YtcjcaojgminjpabDoorPBx6
import Derived.Test.YtcjcaojgminjpabDoorPBx9
import Derived.Test.YtcjcaojgminjpabDoorPBx14
import Derived.Test.YtcjcaojgminjpabDoorPBx15
import Derived.Test.YtcjcaojgminjpabDoorPBx19
namespace Go.Proofs.YtcjcaojgminjpabDoor.PB
open Go.RowKit Go.Proofs.YtcjcaojgminjpabDoorW.PrintWords Go.Proofs.YtcjcaojgminjpabDoorW.PrintLast Go.Proofs.YtcjcaojgminjpabDoorW.PrintMore
set_option maxHeartbeats 8000000
set_option maxRecDepth 100000
attribute [local go_sem] max2_int min2_int max_two min_two max_three min_three max_four min_four   -- for this text's walks alone
set_option linter.unusedVariables false
set_option linter.unusedSimpArgs false

attribute [local go_sem high] eqA23 eqA45
-- NOT PRINTED: function 36 (slices_Clone_string_string)

/-! ### ack_Codes: function 24 -/
def ack_Codes.f : Option (List ByteArray) := some codesL
theorem ack_Codes.calls (r : List ByteArray) (w : World) (h : ack_Codes.f = some r) (hGC : GlobC w) :
  Calls Tryd.prog 24 #[] w fun e w' => ∃ v0_ : Value, e = .returned (v0_) ∧ Kd.R Kd.string 9 w' w.heap.size (fun _ => True) v0_ r ∧ Below w.heap.size w w' := by
 obtain rfl := Option.some.inj h
 have HG := Lib.hid hGC
 clear hGC h
 go_enter Tryd.func24, Tryd.ntmps24
 go_wp2_with fail
 refine (Tryd.slices_Clone_string 1 0 3 3 codesL _ (by decide) (by decide) (fun j hj => by rw [Nat.zero_add]; exact HG.out j hj)).mono ?_
 rintro e w' ⟨v, rfl, ho, _, hb⟩
 go_wp2_with fail
 refine bodyPost_ret (v := v) (by simp [results, Tryd.results24, go_sem]) rfl ⟨v, rfl, Kd.R_of_own ?_ (fun _ _ => trivial), hb⟩
 exact ho


/-! ### lamplighterlaw10_AckBack: function 8 -/
def lamplighterlaw10_AckBack.j0 : Nat → Int → List ByteArray → Bool → Int → Int → Int → Int → Int → ByteArray → ByteArray → ByteArray → ByteArray → ByteArray → ByteArray → ByteArray → ByteArray → ByteArray → ByteArray → Option (Bool)
 | 0, _, _, _, _, _, _, _, _, _, _, _, _, _, _, _, _, _, _ => none
 | k + 1, x1, x5, x24, x381000, x381001, x381002, x381003, x381004, x381005, x381006, x381007, x381008, x381009, x381010, x381011, x381012, x381013, x381014 => if x24 = true then ((lamplighterlaw10_alive.f k).bind fun t386 => (some t386)) else (if (x5.length : Int) = 0 then (none) else (if 0 ≤ (Int.tmod (wrap64 (x1)) (x5.length : Int)) then (if (Int.tmod (wrap64 (x1)) (x5.length : Int)) < (x5.length : Int) then ((ack_Build.f k x381000 x381001 x381002 x381003 x381004 x381005 x381006 x381007 x381008 x381009 x381010 x381011 x381012 x381013 x381014 (rdOf ByteArray.empty x5 (Int.tmod (wrap64 (x1)) (x5.length : Int)))).bind fun bt388 => (if bt388.2 = 0 then ((ack_Read.f k bt388.1).bind fun bt392 => ((msh_Read.f k bt388.1).bind fun bt396 => (if bt392.2.2 = 0 then (if (bt392.1.toList == ((rdOf ByteArray.empty x5 (Int.tmod (wrap64 (x1)) (x5.length : Int))).toList) && (bt392.2.1.toList == x381012.toList)) = true then (if bt396.2.2.2.2.2.2.2.2.2.2.2.2.2.2.2 = 0 then (if (bt396.1 == x381000 && (bt396.2.1 == x381001 && (bt396.2.2.1 == x381002 && (bt396.2.2.2.1 == x381003 && (bt396.2.2.2.2.1 == x381004))))) = true then (if bt396.2.2.2.2.2.1.toList = x381007.toList then (if bt396.2.2.2.2.2.2.2.2.1.toList = x381006.toList then (if bt396.2.2.2.2.2.2.2.2.2.2.2.2.1.toList = x381012.toList then (some (bt396.2.2.2.2.2.2.2.2.2.2.2.1.toList == ([65, 67, 75] : List UInt8))) else (some false)) else (some false)) else (some false)) else (some false)) else (some false)) else (some false)) else (some false)))) else (if (bt388.1.length : Int) = 0 then (if bt388.2 = 11 then (some true) else (some (bt388.2 == 10))) else (some false)))) else (none)) else (none)))
def lamplighterlaw10_AckBack.f (k : Nat) (a0_0 : Int) (a0_1 : Int) (a0_2 : Int) (a0_3 : Int) (a0_4 : Int) (a0_5 : ByteArray) (a0_6 : ByteArray) (a0_7 : ByteArray) (a0_8 : ByteArray) (a0_9 : ByteArray) (a0_10 : ByteArray) (a0_11 : ByteArray) (a0_12 : ByteArray) (a0_13 : ByteArray) (a0_14 : ByteArray) (a1 : Int) : Option (Bool) := (ack_Codes.f).bind fun t381 => ((lamplighterlaw10_great.f a0_0 a0_1 a0_2 a0_3 a0_4 a0_5 a0_6 a0_7 a0_8 a0_9 a0_10 a0_11 a0_12 a0_13 a0_14).bind fun t384 => (if t384 = true then (lamplighterlaw10_AckBack.j0 k a1 t381 true a0_0 a0_1 a0_2 a0_3 a0_4 a0_5 a0_6 a0_7 a0_8 a0_9 a0_10 a0_11 a0_12 a0_13 a0_14) else ((lamplighterlaw10_alive.f k).bind fun t385 => (if t385 = true then (lamplighterlaw10_AckBack.j0 k a1 t381 ((t381.length : Int) == 0) a0_0 a0_1 a0_2 a0_3 a0_4 a0_5 a0_6 a0_7 a0_8 a0_9 a0_10 a0_11 a0_12 a0_13 a0_14) else (lamplighterlaw10_AckBack.j0 k a1 t381 true a0_0 a0_1 a0_2 a0_3 a0_4 a0_5 a0_6 a0_7 a0_8 a0_9 a0_10 a0_11 a0_12 a0_13 a0_14)))))
theorem lamplighterlaw10_AckBack.mono_l : ∀ k, (∀ y0 y1 y2 y3 y4 y5 y6 y7 y8 y9 y10 y11 y12 y13 y14 y15 y16 y17, LeO (lamplighterlaw10_AckBack.j0 k y0 y1 y2 y3 y4 y5 y6 y7 y8 y9 y10 y11 y12 y13 y14 y15 y16 y17) (lamplighterlaw10_AckBack.j0 (k + 1) y0 y1 y2 y3 y4 y5 y6 y7 y8 y9 y10 y11 y12 y13 y14 y15 y16 y17))
 | 0 => fun _ _ _ _ _ _ _ _ _ _ _ _ _ _ _ _ _ _ r h => by simp [lamplighterlaw10_AckBack.j0] at h
 | k + 1 => by
  have ih0 := lamplighterlaw10_AckBack.mono_l k
  ·intro y0 y1 y2 y3 y4 y5 y6 y7 y8 y9 y10 y11 y12 y13 y14 y15 y16 y17
   unfold lamplighterlaw10_AckBack.j0
   repeat' first
   | (with_reducible exact ih0 _ _ _ _ _ _ _ _ _ _ _ _ _ _ _ _ _ _)
   | (with_reducible exact ack_Build.mono _ _ _ _ _ _ _ _ _ _ _ _ _ _ _ _ _)
   | (with_reducible exact ack_Read.mono _ _)
   | (with_reducible exact lamplighterlaw10_alive.mono _)
   | (with_reducible exact msh_Read.mono _ _)
   | (with_reducible exact LeO.refl _)
   | (with_reducible exact LeO.none _)
   | (with_reducible refine LeO.ite ?_ ?_)
   | (with_reducible refine LeO.bind ?_ (fun _ => ?_))
   | exact ih0 _ _ _ _ _ _ _ _ _ _ _ _ _ _ _ _ _ _
   | exact ack_Build.mono _ _ _ _ _ _ _ _ _ _ _ _ _ _ _ _ _
   | exact ack_Read.mono _ _
   | exact lamplighterlaw10_alive.mono _
   | exact msh_Read.mono _ _
   | exact LeO.none _
   | refine LeO.ite ?_ ?_
   | refine LeO.bind ?_ (fun _ => ?_)
theorem lamplighterlaw10_AckBack.mono : ∀ a0 a1 a2 a3 a4 a5 a6 a7 a8 a9 a10 a11 a12 a13 a14 a15 k, LeO (lamplighterlaw10_AckBack.f k a0 a1 a2 a3 a4 a5 a6 a7 a8 a9 a10 a11 a12 a13 a14 a15) (lamplighterlaw10_AckBack.f (k + 1) a0 a1 a2 a3 a4 a5 a6 a7 a8 a9 a10 a11 a12 a13 a14 a15) := by
 intro a0 a1 a2 a3 a4 a5 a6 a7 a8 a9 a10 a11 a12 a13 a14 a15 k
 have ih0 := lamplighterlaw10_AckBack.mono_l k
 unfold lamplighterlaw10_AckBack.f
 repeat' first
   | (with_reducible exact ih0 _ _ _ _ _ _ _ _ _ _ _ _ _ _ _ _ _ _)
   | (with_reducible exact ack_Build.mono _ _ _ _ _ _ _ _ _ _ _ _ _ _ _ _ _)
   | (with_reducible exact ack_Read.mono _ _)
   | (with_reducible exact lamplighterlaw10_alive.mono _)
   | (with_reducible exact msh_Read.mono _ _)
   | (with_reducible exact LeO.refl _)
   | (with_reducible exact LeO.none _)
   | (with_reducible refine LeO.ite ?_ ?_)
   | (with_reducible refine LeO.bind ?_ (fun _ => ?_))
   | exact ih0 _ _ _ _ _ _ _ _ _ _ _ _ _ _ _ _ _ _
   | exact ack_Build.mono _ _ _ _ _ _ _ _ _ _ _ _ _ _ _ _ _
   | exact ack_Read.mono _ _
   | exact lamplighterlaw10_alive.mono _
   | exact msh_Read.mono _ _
   | exact LeO.none _
   | refine LeO.ite ?_ ?_
   | refine LeO.bind ?_ (fun _ => ?_)
theorem lamplighterlaw10_AckBack.calls (k : Nat) (a0_0 : Int) (a0_1 : Int) (a0_2 : Int) (a0_3 : Int) (a0_4 : Int) (a0_5 : ByteArray) (a0_6 : ByteArray) (a0_7 : ByteArray) (a0_8 : ByteArray) (a0_9 : ByteArray) (a0_10 : ByteArray) (a0_11 : ByteArray) (a0_12 : ByteArray) (a0_13 : ByteArray) (a0_14 : ByteArray) (a1 : Int) (r : Bool) (w : World) (h : lamplighterlaw10_AckBack.f k a0_0 a0_1 a0_2 a0_3 a0_4 a0_5 a0_6 a0_7 a0_8 a0_9 a0_10 a0_11 a0_12 a0_13 a0_14 a1 = some r) (hrt : r = true) (hGC : GlobC w) :
  Calls Tryd.prog 8 #[.agg #[.int .u8 a0_0, .int .u8 a0_1, .int .u8 a0_2, .int .u8 a0_3, .int .u8 a0_4, .string a0_5, .string a0_6, .string a0_7, .string a0_8, .string a0_9, .string a0_10, .string a0_11, .string a0_12, .string a0_13, .string a0_14], .int .u8 a1] w fun e w' => e = .returned (.bool r) ∧ Below w.heap.size w w' := by
 have HGLOC := Lib.hid hGC
 clear hGC
 have hu25 := Tryd.underlying25
 have hu45 := Tryd.underlying45
 have hu23 := Tryd.underlying23
 have HB := Aside0.mk (Below.refl w.heap.size w)
 have H : ((ack_Codes.f).bind fun t381 => ((lamplighterlaw10_great.f a0_0 a0_1 a0_2 a0_3 a0_4 a0_5 a0_6 a0_7 a0_8 a0_9 a0_10 a0_11 a0_12 a0_13 a0_14).bind fun t384 => (if t384 = true then (lamplighterlaw10_AckBack.j0 k a1 t381 true a0_0 a0_1 a0_2 a0_3 a0_4 a0_5 a0_6 a0_7 a0_8 a0_9 a0_10 a0_11 a0_12 a0_13 a0_14) else ((lamplighterlaw10_alive.f k).bind fun t385 => (if t385 = true then (lamplighterlaw10_AckBack.j0 k a1 t381 ((t381.length : Int) == 0) a0_0 a0_1 a0_2 a0_3 a0_4 a0_5 a0_6 a0_7 a0_8 a0_9 a0_10 a0_11 a0_12 a0_13 a0_14) else (lamplighterlaw10_AckBack.j0 k a1 t381 true a0_0 a0_1 a0_2 a0_3 a0_4 a0_5 a0_6 a0_7 a0_8 a0_9 a0_10 a0_11 a0_12 a0_13 a0_14)))))) = some r := h
 clear h
 replace H := Option.bind_eq_some_iff.mp H
 obtain ⟨t381, A30, H⟩ := H
 replace H : ((lamplighterlaw10_great.f a0_0 a0_1 a0_2 a0_3 a0_4 a0_5 a0_6 a0_7 a0_8 a0_9 a0_10 a0_11 a0_12 a0_13 a0_14).bind fun t384 => (if t384 = true then (lamplighterlaw10_AckBack.j0 k a1 t381 true a0_0 a0_1 a0_2 a0_3 a0_4 a0_5 a0_6 a0_7 a0_8 a0_9 a0_10 a0_11 a0_12 a0_13 a0_14) else ((lamplighterlaw10_alive.f k).bind fun t385 => (if t385 = true then (lamplighterlaw10_AckBack.j0 k a1 t381 ((t381.length : Int) == 0) a0_0 a0_1 a0_2 a0_3 a0_4 a0_5 a0_6 a0_7 a0_8 a0_9 a0_10 a0_11 a0_12 a0_13 a0_14) else (lamplighterlaw10_AckBack.j0 k a1 t381 true a0_0 a0_1 a0_2 a0_3 a0_4 a0_5 a0_6 a0_7 a0_8 a0_9 a0_10 a0_11 a0_12 a0_13 a0_14))))) = some r := H
 have A3 := Aside0.mk A30
 clear A30
 have HC4 := Aside0.mk H
 clear H
 go_enter Tryd.func8, Tryd.ntmps8
 go_upto_region 2 with (first | ((with_reducible refine gate_dst (N := 2) rfl ?_); (try (refine gate_guard (by rfl) ?_; dsimp only)); refine box_event ?hg (N := 2) ?hd (cs := #[.int .u8 a0_0, .int .u8 a0_1, .int .u8 a0_2, .int .u8 a0_3, .int .u8 a0_4, .string a0_5, .string a0_6, .string a0_7, .string a0_8, .string a0_9, .string a0_10, .string a0_11, .string a0_12, .string a0_13, .string a0_14]) (t := 25) ?hr ?_; (case hd => rfl); (case hg => rfl); (case hr => first | (go_simp; done) | (go_simp; rfl)); intro gb380 hg w5 hbox hb; have n0_ := Aside0.mk (below_step (by repeat (first | (with_reducible first | exact HB.out | apply bA | apply bN | apply bD) | exact HB.out)) hb); have n1_ := Aside0.mk (hbox); have n2_ := Aside0.mk ((by rw [hg]; exact (below_size (by repeat (first | (with_reducible first | exact HB.out | apply bA | apply bN | apply bD) | exact HB.out))) : w.heap.size ≤ gb380)); have n3_ := Aside0.mk ((by rw [hg]; exact (below_size (by repeat (first | (with_reducible first | exact HB.out | apply bA | apply bN | apply bD) | exact HB.out))) : w.heap.size ≤ gb380)); clear HB; have HB := n0_; have BK380 := n1_; have GW380 := n2_; have GE380 := n3_; clear n0_ n1_ n2_ n3_; clear hb hbox hg) | ((with_reducible refine gate_callee (f := 24) rfl ?_); refine goesL_ (some 13) rfl rfl Tryd.func24 (by kernel_rfl) rfl #[] rfl (by (try simp only [List.map_toArray, List.map_cons, List.map_nil]); first | done | rfl | (simp only [List.length_drop, List.length_take]; rfl)) ?_; (with_reducible refine (ack_Codes.calls  t381 _ A3.out (globc_below HGLOC.out (by repeat (first | (with_reducible first | exact HB.out | apply bA | apply bN | apply bD | refine below_set ?_ GE380.out) | exact HB.out)))).mono ?_); rintro e w6 ⟨v382, rfl, ho0, hb⟩; refine ⟨_, rfl, ?_⟩; have n0_ := Aside0.mk (Kd.R_lower ho0 (below_size (by repeat (first | (with_reducible first | exact HB.out | apply bA | apply bN | apply bD | refine below_set ?_ GE380.out) | exact HB.out)))); have n1_ := Aside0.mk (blk_below (g := gb380) (o := .cells #[.int .u8 a0_0, .int .u8 a0_1, .int .u8 a0_2, .int .u8 a0_3, .int .u8 a0_4, .string a0_5, .string a0_6, .string a0_7, .string a0_8, .string a0_9, .string a0_10, .string a0_11, .string a0_12, .string a0_13, .string a0_14] 25 (0, 0)) (by (with_reducible repeat (first | refine kN ?_ _ | refine kD ?_ | refine kA ?_ _)); exact BK380.out) hb); have n2_ := Aside0.mk (below_step (by repeat (first | (with_reducible first | exact HB.out | apply bA | apply bN | apply bD | refine below_set ?_ GE380.out) | exact HB.out)) hb); clear BK380; clear HB; have HO383 := n0_; have BK380 := n1_; have HB := n2_; clear n0_ n1_ n2_; (try clear hb); (try clear ho0)))
 (try simp only [Act.put, sA_, s0_, s1_])
 go_cut [24] (fun v24 wc => ∃ (kq : Nat) (x24_3 : Bool), v24 = .bool x24_3 ∧ Aside0 (lamplighterlaw10_AckBack.j0 kq a1 t381 x24_3 a0_0 a0_1 a0_2 a0_3 a0_4 a0_5 a0_6 a0_7 a0_8 a0_9 a0_10 a0_11 a0_12 a0_13 a0_14 = some r) ∧ Aside0 (kq ≤ k) ∧ Aside0 (Kd.R Kd.string 9 wc w.heap.size (fun _ => True) v382 t381) ∧ Aside0 (wc.heap[gb380]? = some (.cells #[.int .u8 a0_0, .int .u8 a0_1, .int .u8 a0_2, .int .u8 a0_3, .int .u8 a0_4, .string a0_5, .string a0_6, .string a0_7, .string a0_8, .string a0_9, .string a0_10, .string a0_11, .string a0_12, .string a0_13, .string a0_14] 25 (0, 0))) ∧ Aside0 (Below w.heap.size w wc))
 case first =>
  have H := HC4.out
  clear HC4
  replace H := Option.bind_eq_some_iff.mp H
  obtain ⟨t384, A70, H⟩ := H
  replace H : (if t384 = true then (lamplighterlaw10_AckBack.j0 k a1 t381 true a0_0 a0_1 a0_2 a0_3 a0_4 a0_5 a0_6 a0_7 a0_8 a0_9 a0_10 a0_11 a0_12 a0_13 a0_14) else ((lamplighterlaw10_alive.f k).bind fun t385 => (if t385 = true then (lamplighterlaw10_AckBack.j0 k a1 t381 ((t381.length : Int) == 0) a0_0 a0_1 a0_2 a0_3 a0_4 a0_5 a0_6 a0_7 a0_8 a0_9 a0_10 a0_11 a0_12 a0_13 a0_14) else (lamplighterlaw10_AckBack.j0 k a1 t381 true a0_0 a0_1 a0_2 a0_3 a0_4 a0_5 a0_6 a0_7 a0_8 a0_9 a0_10 a0_11 a0_12 a0_13 a0_14)))) = some r := H
  have A7 := Aside0.mk A70
  clear A70
  by_cases c8 : t384 = true
  ·subst c8
   have H1 : (lamplighterlaw10_AckBack.j0 k a1 t381 true a0_0 a0_1 a0_2 a0_3 a0_4 a0_5 a0_6 a0_7 a0_8 a0_9 a0_10 a0_11 a0_12 a0_13 a0_14) = some r := by rw [if_pos rfl] at H; exact H
   clear H
   have H := H1
   clear H1
   have H' := Aside0.mk H
   clear H
   have hcz9_0 : w6.cell? ⟨gb380, 0, none⟩ = some (.int .u8 a0_0) := blk_cell BK380.out 0
   have hcz9_1 : w6.cell? ⟨gb380, 1, none⟩ = some (.int .u8 a0_1) := blk_cell BK380.out 1
   have hcz9_2 : w6.cell? ⟨gb380, 2, none⟩ = some (.int .u8 a0_2) := blk_cell BK380.out 2
   have hcz9_3 : w6.cell? ⟨gb380, 3, none⟩ = some (.int .u8 a0_3) := blk_cell BK380.out 3
   have hcz9_4 : w6.cell? ⟨gb380, 4, none⟩ = some (.int .u8 a0_4) := blk_cell BK380.out 4
   have hcz9_5 : w6.cell? ⟨gb380, 5, none⟩ = some (.string a0_5) := blk_cell BK380.out 5
   have hcz9_6 : w6.cell? ⟨gb380, 6, none⟩ = some (.string a0_6) := blk_cell BK380.out 6
   have hcz9_7 : w6.cell? ⟨gb380, 7, none⟩ = some (.string a0_7) := blk_cell BK380.out 7
   have hcz9_8 : w6.cell? ⟨gb380, 8, none⟩ = some (.string a0_8) := blk_cell BK380.out 8
   have hcz9_9 : w6.cell? ⟨gb380, 9, none⟩ = some (.string a0_9) := blk_cell BK380.out 9
   have hcz9_10 : w6.cell? ⟨gb380, 10, none⟩ = some (.string a0_10) := blk_cell BK380.out 10
   have hcz9_11 : w6.cell? ⟨gb380, 11, none⟩ = some (.string a0_11) := blk_cell BK380.out 11
   have hcz9_12 : w6.cell? ⟨gb380, 12, none⟩ = some (.string a0_12) := blk_cell BK380.out 12
   have hcz9_13 : w6.cell? ⟨gb380, 13, none⟩ = some (.string a0_13) := blk_cell BK380.out 13
   have hcz9_14 : w6.cell? ⟨gb380, 14, none⟩ = some (.string a0_14) := blk_cell BK380.out 14
   have hfz9_0 := blk_frozen BK380.out 0
   have hfz9_1 := blk_frozen BK380.out 1
   have hfz9_2 := blk_frozen BK380.out 2
   have hfz9_3 := blk_frozen BK380.out 3
   have hfz9_4 := blk_frozen BK380.out 4
   have hfz9_5 := blk_frozen BK380.out 5
   have hfz9_6 := blk_frozen BK380.out 6
   have hfz9_7 := blk_frozen BK380.out 7
   have hfz9_8 := blk_frozen BK380.out 8
   have hfz9_9 := blk_frozen BK380.out 9
   have hfz9_10 := blk_frozen BK380.out 10
   have hfz9_11 := blk_frozen BK380.out 11
   have hfz9_12 := blk_frozen BK380.out 12
   have hfz9_13 := blk_frozen BK380.out 13
   have hfz9_14 := blk_frozen BK380.out 14
   go_wp2_with (first | ((with_reducible refine gate_callee (f := 22) rfl ?_); refine goesL_ (some 15) rfl rfl Tryd.func22 (by kernel_rfl) rfl #[.agg #[.int .u8 a0_0, .int .u8 a0_1, .int .u8 a0_2, .int .u8 a0_3, .int .u8 a0_4, .string a0_5, .string a0_6, .string a0_7, .string a0_8, .string a0_9, .string a0_10, .string a0_11, .string a0_12, .string a0_13, .string a0_14]] rfl (by (try simp only [List.map_toArray, List.map_cons, List.map_nil]); first | done | rfl | (simp only [List.length_drop, List.length_take]; rfl)) ?_; (with_reducible refine (lamplighterlaw10_great.calls a0_0 a0_1 a0_2 a0_3 a0_4 a0_5 a0_6 a0_7 a0_8 a0_9 a0_10 a0_11 a0_12 a0_13 a0_14 true _ A7.out).mono ?_); rintro e w10 ⟨rfl, hb⟩; refine ⟨_, rfl, ?_⟩; have n0_ := Aside0.mk (Kd.R_below (by (with_reducible repeat (first | apply Kd.R_alloc | apply Kd.R_drewN | apply Kd.R_drew)); exact HO383.out) hb); have n1_ := Aside0.mk (blk_below (g := gb380) (o := .cells #[.int .u8 a0_0, .int .u8 a0_1, .int .u8 a0_2, .int .u8 a0_3, .int .u8 a0_4, .string a0_5, .string a0_6, .string a0_7, .string a0_8, .string a0_9, .string a0_10, .string a0_11, .string a0_12, .string a0_13, .string a0_14] 25 (0, 0)) (by (with_reducible repeat (first | refine kN ?_ _ | refine kD ?_ | refine kA ?_ _)); exact BK380.out) hb); have n2_ := Aside0.mk (below_step (by repeat (first | (with_reducible first | exact HB.out | apply bA | apply bN | apply bD | refine below_set ?_ GE380.out) | exact HB.out)) hb); clear HO383; clear BK380; clear HB; have HO383 := n0_; have BK380 := n1_; have HB := n2_; clear n0_ n1_ n2_; (try clear hb)))
   go_meet
   case rel => exact ⟨_, (true), (by first | rfl | (simp; done) | (simp [*]; done)), H', ⟨by first | omega | exact Nat.le_refl _⟩, ⟨by (with_reducible repeat (first | apply Kd.R_alloc | apply Kd.R_drewN | apply Kd.R_drew)); exact HO383.out⟩, ⟨by (with_reducible repeat (first | refine kN ?_ _ | refine kD ?_ | refine kA ?_ _)); exact BK380.out⟩, ⟨by repeat (first | (with_reducible first | exact HB.out | apply bA | apply bN | apply bD | refine below_set ?_ GE380.out) | exact HB.out)⟩⟩
  ·replace c8 := Bool.eq_false_iff.mpr c8
   subst c8
   have H1 : ((lamplighterlaw10_alive.f k).bind fun t385 => (if t385 = true then (lamplighterlaw10_AckBack.j0 k a1 t381 ((t381.length : Int) == 0) a0_0 a0_1 a0_2 a0_3 a0_4 a0_5 a0_6 a0_7 a0_8 a0_9 a0_10 a0_11 a0_12 a0_13 a0_14) else (lamplighterlaw10_AckBack.j0 k a1 t381 true a0_0 a0_1 a0_2 a0_3 a0_4 a0_5 a0_6 a0_7 a0_8 a0_9 a0_10 a0_11 a0_12 a0_13 a0_14))) = some r := by rw [if_neg (show ¬ (false = true) by decide)] at H; exact H
   clear H
   have H := H1
   clear H1
   replace H := Option.bind_eq_some_iff.mp H
   obtain ⟨t385, A110, H⟩ := H
   replace H : (if t385 = true then (lamplighterlaw10_AckBack.j0 k a1 t381 ((t381.length : Int) == 0) a0_0 a0_1 a0_2 a0_3 a0_4 a0_5 a0_6 a0_7 a0_8 a0_9 a0_10 a0_11 a0_12 a0_13 a0_14) else (lamplighterlaw10_AckBack.j0 k a1 t381 true a0_0 a0_1 a0_2 a0_3 a0_4 a0_5 a0_6 a0_7 a0_8 a0_9 a0_10 a0_11 a0_12 a0_13 a0_14)) = some r := H
   have A11 := Aside0.mk A110
   clear A110
   by_cases c12 : t385 = true
   ·subst c12
    have H1 : (lamplighterlaw10_AckBack.j0 k a1 t381 ((t381.length : Int) == 0) a0_0 a0_1 a0_2 a0_3 a0_4 a0_5 a0_6 a0_7 a0_8 a0_9 a0_10 a0_11 a0_12 a0_13 a0_14) = some r := by rw [if_pos rfl] at H; exact H
    clear H
    have H := H1
    clear H1
    have H' := Aside0.mk H
    clear H
    have hcz13_0 : w6.cell? ⟨gb380, 0, none⟩ = some (.int .u8 a0_0) := blk_cell BK380.out 0
    have hcz13_1 : w6.cell? ⟨gb380, 1, none⟩ = some (.int .u8 a0_1) := blk_cell BK380.out 1
    have hcz13_2 : w6.cell? ⟨gb380, 2, none⟩ = some (.int .u8 a0_2) := blk_cell BK380.out 2
    have hcz13_3 : w6.cell? ⟨gb380, 3, none⟩ = some (.int .u8 a0_3) := blk_cell BK380.out 3
    have hcz13_4 : w6.cell? ⟨gb380, 4, none⟩ = some (.int .u8 a0_4) := blk_cell BK380.out 4
    have hcz13_5 : w6.cell? ⟨gb380, 5, none⟩ = some (.string a0_5) := blk_cell BK380.out 5
    have hcz13_6 : w6.cell? ⟨gb380, 6, none⟩ = some (.string a0_6) := blk_cell BK380.out 6
    have hcz13_7 : w6.cell? ⟨gb380, 7, none⟩ = some (.string a0_7) := blk_cell BK380.out 7
    have hcz13_8 : w6.cell? ⟨gb380, 8, none⟩ = some (.string a0_8) := blk_cell BK380.out 8
    have hcz13_9 : w6.cell? ⟨gb380, 9, none⟩ = some (.string a0_9) := blk_cell BK380.out 9
    have hcz13_10 : w6.cell? ⟨gb380, 10, none⟩ = some (.string a0_10) := blk_cell BK380.out 10
    have hcz13_11 : w6.cell? ⟨gb380, 11, none⟩ = some (.string a0_11) := blk_cell BK380.out 11
    have hcz13_12 : w6.cell? ⟨gb380, 12, none⟩ = some (.string a0_12) := blk_cell BK380.out 12
    have hcz13_13 : w6.cell? ⟨gb380, 13, none⟩ = some (.string a0_13) := blk_cell BK380.out 13
    have hcz13_14 : w6.cell? ⟨gb380, 14, none⟩ = some (.string a0_14) := blk_cell BK380.out 14
    have hfz13_0 := blk_frozen BK380.out 0
    have hfz13_1 := blk_frozen BK380.out 1
    have hfz13_2 := blk_frozen BK380.out 2
    have hfz13_3 := blk_frozen BK380.out 3
    have hfz13_4 := blk_frozen BK380.out 4
    have hfz13_5 := blk_frozen BK380.out 5
    have hfz13_6 := blk_frozen BK380.out 6
    have hfz13_7 := blk_frozen BK380.out 7
    have hfz13_8 := blk_frozen BK380.out 8
    have hfz13_9 := blk_frozen BK380.out 9
    have hfz13_10 := blk_frozen BK380.out 10
    have hfz13_11 := blk_frozen BK380.out 11
    have hfz13_12 := blk_frozen BK380.out 12
    have hfz13_13 := blk_frozen BK380.out 13
    have hfz13_14 := blk_frozen BK380.out 14
    go_wp2_with (first | ((with_reducible refine gate_callee (f := 22) rfl ?_); refine goesL_ (some 15) rfl rfl Tryd.func22 (by kernel_rfl) rfl #[.agg #[.int .u8 a0_0, .int .u8 a0_1, .int .u8 a0_2, .int .u8 a0_3, .int .u8 a0_4, .string a0_5, .string a0_6, .string a0_7, .string a0_8, .string a0_9, .string a0_10, .string a0_11, .string a0_12, .string a0_13, .string a0_14]] rfl (by (try simp only [List.map_toArray, List.map_cons, List.map_nil]); first | done | rfl | (simp only [List.length_drop, List.length_take]; rfl)) ?_; (with_reducible refine (lamplighterlaw10_great.calls a0_0 a0_1 a0_2 a0_3 a0_4 a0_5 a0_6 a0_7 a0_8 a0_9 a0_10 a0_11 a0_12 a0_13 a0_14 false _ A7.out).mono ?_); rintro e w14 ⟨rfl, hb⟩; refine ⟨_, rfl, ?_⟩; have n0_ := Aside0.mk (Kd.R_below (by (with_reducible repeat (first | apply Kd.R_alloc | apply Kd.R_drewN | apply Kd.R_drew)); exact HO383.out) hb); have n1_ := Aside0.mk (blk_below (g := gb380) (o := .cells #[.int .u8 a0_0, .int .u8 a0_1, .int .u8 a0_2, .int .u8 a0_3, .int .u8 a0_4, .string a0_5, .string a0_6, .string a0_7, .string a0_8, .string a0_9, .string a0_10, .string a0_11, .string a0_12, .string a0_13, .string a0_14] 25 (0, 0)) (by (with_reducible repeat (first | refine kN ?_ _ | refine kD ?_ | refine kA ?_ _)); exact BK380.out) hb); have n2_ := Aside0.mk (below_step (by repeat (first | (with_reducible first | exact HB.out | apply bA | apply bN | apply bD | refine below_set ?_ GE380.out) | exact HB.out)) hb); clear HO383; clear BK380; clear HB; have HO383 := n0_; have BK380 := n1_; have HB := n2_; clear n0_ n1_ n2_; (try clear hb)) | (go_at_call 18; (with_reducible refine (lamplighterlaw10_alive.calls k  true _ A11.out (globc_below HGLOC.out (by repeat (first | (with_reducible first | exact HB.out | apply bA | apply bN | apply bD | refine below_set ?_ GE380.out) | exact HB.out)))).mono ?_); rintro e w15 ⟨rfl, hb⟩; have n0_ := Aside0.mk (Kd.R_below (by (with_reducible repeat (first | apply Kd.R_alloc | apply Kd.R_drewN | apply Kd.R_drew)); exact HO383.out) hb); have n1_ := Aside0.mk (blk_below (g := gb380) (o := .cells #[.int .u8 a0_0, .int .u8 a0_1, .int .u8 a0_2, .int .u8 a0_3, .int .u8 a0_4, .string a0_5, .string a0_6, .string a0_7, .string a0_8, .string a0_9, .string a0_10, .string a0_11, .string a0_12, .string a0_13, .string a0_14] 25 (0, 0)) (by (with_reducible repeat (first | refine kN ?_ _ | refine kD ?_ | refine kA ?_ _)); exact BK380.out) hb); have n2_ := Aside0.mk (below_step (by repeat (first | (with_reducible first | exact HB.out | apply bA | apply bN | apply bD | refine below_set ?_ GE380.out) | exact HB.out)) hb); clear HO383; clear BK380; clear HB; have HO383 := n0_; have BK380 := n1_; have HB := n2_; clear n0_ n1_ n2_; (try clear hb); obtain ⟨Ao16, co16, eo16⟩ := Kd.R_slice HO383.out; subst eo16))
    go_meet
    case rel => exact ⟨_, (((t381.length : Int) == 0)), (by first | rfl | (simp; done) | (simp [*]; done)), H', ⟨by first | omega | exact Nat.le_refl _⟩, ⟨by (with_reducible repeat (first | apply Kd.R_alloc | apply Kd.R_drewN | apply Kd.R_drew)); exact HO383.out⟩, ⟨by (with_reducible repeat (first | refine kN ?_ _ | refine kD ?_ | refine kA ?_ _)); exact BK380.out⟩, ⟨by repeat (first | (with_reducible first | exact HB.out | apply bA | apply bN | apply bD | refine below_set ?_ GE380.out) | exact HB.out)⟩⟩
   ·replace c12 := Bool.eq_false_iff.mpr c12
    subst c12
    have H1 : (lamplighterlaw10_AckBack.j0 k a1 t381 true a0_0 a0_1 a0_2 a0_3 a0_4 a0_5 a0_6 a0_7 a0_8 a0_9 a0_10 a0_11 a0_12 a0_13 a0_14) = some r := by rw [if_neg (show ¬ (false = true) by decide)] at H; exact H
    clear H
    have H := H1
    clear H1
    have H' := Aside0.mk H
    clear H
    have hcz17_0 : w6.cell? ⟨gb380, 0, none⟩ = some (.int .u8 a0_0) := blk_cell BK380.out 0
    have hcz17_1 : w6.cell? ⟨gb380, 1, none⟩ = some (.int .u8 a0_1) := blk_cell BK380.out 1
    have hcz17_2 : w6.cell? ⟨gb380, 2, none⟩ = some (.int .u8 a0_2) := blk_cell BK380.out 2
    have hcz17_3 : w6.cell? ⟨gb380, 3, none⟩ = some (.int .u8 a0_3) := blk_cell BK380.out 3
    have hcz17_4 : w6.cell? ⟨gb380, 4, none⟩ = some (.int .u8 a0_4) := blk_cell BK380.out 4
    have hcz17_5 : w6.cell? ⟨gb380, 5, none⟩ = some (.string a0_5) := blk_cell BK380.out 5
    have hcz17_6 : w6.cell? ⟨gb380, 6, none⟩ = some (.string a0_6) := blk_cell BK380.out 6
    have hcz17_7 : w6.cell? ⟨gb380, 7, none⟩ = some (.string a0_7) := blk_cell BK380.out 7
    have hcz17_8 : w6.cell? ⟨gb380, 8, none⟩ = some (.string a0_8) := blk_cell BK380.out 8
    have hcz17_9 : w6.cell? ⟨gb380, 9, none⟩ = some (.string a0_9) := blk_cell BK380.out 9
    have hcz17_10 : w6.cell? ⟨gb380, 10, none⟩ = some (.string a0_10) := blk_cell BK380.out 10
    have hcz17_11 : w6.cell? ⟨gb380, 11, none⟩ = some (.string a0_11) := blk_cell BK380.out 11
    have hcz17_12 : w6.cell? ⟨gb380, 12, none⟩ = some (.string a0_12) := blk_cell BK380.out 12
    have hcz17_13 : w6.cell? ⟨gb380, 13, none⟩ = some (.string a0_13) := blk_cell BK380.out 13
    have hcz17_14 : w6.cell? ⟨gb380, 14, none⟩ = some (.string a0_14) := blk_cell BK380.out 14
    have hfz17_0 := blk_frozen BK380.out 0
    have hfz17_1 := blk_frozen BK380.out 1
    have hfz17_2 := blk_frozen BK380.out 2
    have hfz17_3 := blk_frozen BK380.out 3
    have hfz17_4 := blk_frozen BK380.out 4
    have hfz17_5 := blk_frozen BK380.out 5
    have hfz17_6 := blk_frozen BK380.out 6
    have hfz17_7 := blk_frozen BK380.out 7
    have hfz17_8 := blk_frozen BK380.out 8
    have hfz17_9 := blk_frozen BK380.out 9
    have hfz17_10 := blk_frozen BK380.out 10
    have hfz17_11 := blk_frozen BK380.out 11
    have hfz17_12 := blk_frozen BK380.out 12
    have hfz17_13 := blk_frozen BK380.out 13
    have hfz17_14 := blk_frozen BK380.out 14
    go_wp2_with (first | ((with_reducible refine gate_callee (f := 22) rfl ?_); refine goesL_ (some 15) rfl rfl Tryd.func22 (by kernel_rfl) rfl #[.agg #[.int .u8 a0_0, .int .u8 a0_1, .int .u8 a0_2, .int .u8 a0_3, .int .u8 a0_4, .string a0_5, .string a0_6, .string a0_7, .string a0_8, .string a0_9, .string a0_10, .string a0_11, .string a0_12, .string a0_13, .string a0_14]] rfl (by (try simp only [List.map_toArray, List.map_cons, List.map_nil]); first | done | rfl | (simp only [List.length_drop, List.length_take]; rfl)) ?_; (with_reducible refine (lamplighterlaw10_great.calls a0_0 a0_1 a0_2 a0_3 a0_4 a0_5 a0_6 a0_7 a0_8 a0_9 a0_10 a0_11 a0_12 a0_13 a0_14 false _ A7.out).mono ?_); rintro e w18 ⟨rfl, hb⟩; refine ⟨_, rfl, ?_⟩; have n0_ := Aside0.mk (Kd.R_below (by (with_reducible repeat (first | apply Kd.R_alloc | apply Kd.R_drewN | apply Kd.R_drew)); exact HO383.out) hb); have n1_ := Aside0.mk (blk_below (g := gb380) (o := .cells #[.int .u8 a0_0, .int .u8 a0_1, .int .u8 a0_2, .int .u8 a0_3, .int .u8 a0_4, .string a0_5, .string a0_6, .string a0_7, .string a0_8, .string a0_9, .string a0_10, .string a0_11, .string a0_12, .string a0_13, .string a0_14] 25 (0, 0)) (by (with_reducible repeat (first | refine kN ?_ _ | refine kD ?_ | refine kA ?_ _)); exact BK380.out) hb); have n2_ := Aside0.mk (below_step (by repeat (first | (with_reducible first | exact HB.out | apply bA | apply bN | apply bD | refine below_set ?_ GE380.out) | exact HB.out)) hb); clear HO383; clear BK380; clear HB; have HO383 := n0_; have BK380 := n1_; have HB := n2_; clear n0_ n1_ n2_; (try clear hb)) | (go_at_call 18; (with_reducible refine (lamplighterlaw10_alive.calls k  false _ A11.out (globc_below HGLOC.out (by repeat (first | (with_reducible first | exact HB.out | apply bA | apply bN | apply bD | refine below_set ?_ GE380.out) | exact HB.out)))).mono ?_); rintro e w19 ⟨rfl, hb⟩; have n0_ := Aside0.mk (Kd.R_below (by (with_reducible repeat (first | apply Kd.R_alloc | apply Kd.R_drewN | apply Kd.R_drew)); exact HO383.out) hb); have n1_ := Aside0.mk (blk_below (g := gb380) (o := .cells #[.int .u8 a0_0, .int .u8 a0_1, .int .u8 a0_2, .int .u8 a0_3, .int .u8 a0_4, .string a0_5, .string a0_6, .string a0_7, .string a0_8, .string a0_9, .string a0_10, .string a0_11, .string a0_12, .string a0_13, .string a0_14] 25 (0, 0)) (by (with_reducible repeat (first | refine kN ?_ _ | refine kD ?_ | refine kA ?_ _)); exact BK380.out) hb); have n2_ := Aside0.mk (below_step (by repeat (first | (with_reducible first | exact HB.out | apply bA | apply bN | apply bD | refine below_set ?_ GE380.out) | exact HB.out)) hb); clear HO383; clear BK380; clear HB; have HO383 := n0_; have BK380 := n1_; have HB := n2_; clear n0_ n1_ n2_; (try clear hb)))
    go_meet
    case rel => exact ⟨_, (true), (by first | rfl | (simp; done) | (simp [*]; done)), H', ⟨by first | omega | exact Nat.le_refl _⟩, ⟨by (with_reducible repeat (first | apply Kd.R_alloc | apply Kd.R_drewN | apply Kd.R_drew)); exact HO383.out⟩, ⟨by (with_reducible repeat (first | refine kN ?_ _ | refine kD ?_ | refine kA ?_ _)); exact BK380.out⟩, ⟨by repeat (first | (with_reducible first | exact HB.out | apply bA | apply bN | apply bD | refine below_set ?_ GE380.out) | exact HB.out)⟩⟩
 case rest =>
  clear HC4
  try clear c1
  try clear c2
  try clear p2
  try clear c8
  try clear c12
  try clear hcz13_0
  try clear hcz13_1
  try clear hcz13_10
  try clear hcz13_11
  try clear hcz13_12
  try clear hcz13_13
  try clear hcz13_14
  try clear hcz13_2
  try clear hcz13_3
  try clear hcz13_4
  try clear hcz13_5
  try clear hcz13_6
  try clear hcz13_7
  try clear hcz13_8
  try clear hcz13_9
  try clear hcz17_0
  try clear hcz17_1
  try clear hcz17_10
  try clear hcz17_11
  try clear hcz17_12
  try clear hcz17_13
  try clear hcz17_14
  try clear hcz17_2
  try clear hcz17_3
  try clear hcz17_4
  try clear hcz17_5
  try clear hcz17_6
  try clear hcz17_7
  try clear hcz17_8
  try clear hcz17_9
  try clear hcz9_0
  try clear hcz9_1
  try clear hcz9_10
  try clear hcz9_11
  try clear hcz9_12
  try clear hcz9_13
  try clear hcz9_14
  try clear hcz9_2
  try clear hcz9_3
  try clear hcz9_4
  try clear hcz9_5
  try clear hcz9_6
  try clear hcz9_7
  try clear hcz9_8
  try clear hcz9_9
  try clear hfz13_0
  try clear hfz13_1
  try clear hfz13_10
  try clear hfz13_11
  try clear hfz13_12
  try clear hfz13_13
  try clear hfz13_14
  try clear hfz13_2
  try clear hfz13_3
  try clear hfz13_4
  try clear hfz13_5
  try clear hfz13_6
  try clear hfz13_7
  try clear hfz13_8
  try clear hfz13_9
  try clear hfz17_0
  try clear hfz17_1
  try clear hfz17_10
  try clear hfz17_11
  try clear hfz17_12
  try clear hfz17_13
  try clear hfz17_14
  try clear hfz17_2
  try clear hfz17_3
  try clear hfz17_4
  try clear hfz17_5
  try clear hfz17_6
  try clear hfz17_7
  try clear hfz17_8
  try clear hfz17_9
  try clear hfz9_0
  try clear hfz9_1
  try clear hfz9_10
  try clear hfz9_11
  try clear hfz9_12
  try clear hfz9_13
  try clear hfz9_14
  try clear hfz9_2
  try clear hfz9_3
  try clear hfz9_4
  try clear hfz9_5
  try clear hfz9_6
  try clear hfz9_7
  try clear hfz9_8
  try clear hfz9_9
  obtain ⟨kq, x24_3, rfl, HA, HJ3, HO_5, BK380, HB⟩ := hcut
  cases kq with
  | zero => exact absurd HA.out (by simp [lamplighterlaw10_AckBack.j0])
  | succ kj3 =>
   have H := HA.out
   clear HA
   simp only [lamplighterlaw10_AckBack.j0] at H
   by_cases c20 : x24_3 = true
   ·subst c20
    have H1 : ((lamplighterlaw10_alive.f kj3).bind fun t386 => (some t386)) = some r := by rw [if_pos rfl] at H; exact H
    clear H
    have H := H1
    clear H1
    replace H := Option.bind_eq_some_iff.mp H
    obtain ⟨t386, A210, H⟩ := H
    replace H : (some t386) = some r := H
    have A21 := Aside0.mk A210
    clear A210
    obtain rfl := Option.some.inj H
    clear hrt
    go_wp2_with (first | ((with_reducible refine gate_callee (f := 18) rfl ?_); refine goesL_ (some 25) rfl rfl Tryd.func18 (by kernel_rfl) rfl #[] rfl (by (try simp only [List.map_toArray, List.map_cons, List.map_nil]); first | done | rfl | (simp only [List.length_drop, List.length_take]; rfl)) ?_; (with_reducible refine (lamplighterlaw10_alive.calls kj3  t386 _ A21.out (globc_below HGLOC.out (by repeat (first | (with_reducible first | exact HB.out | apply bA | apply bN | apply bD | refine below_set ?_ GE380.out) | exact HB.out)))).mono ?_); rintro e w22 ⟨rfl, hb⟩; refine ⟨_, rfl, ?_⟩; have n0_ := Aside0.mk (Kd.R_below (by (with_reducible repeat (first | apply Kd.R_alloc | apply Kd.R_drewN | apply Kd.R_drew)); exact HO_5.out) hb); have n1_ := Aside0.mk (blk_below (g := gb380) (o := .cells #[.int .u8 a0_0, .int .u8 a0_1, .int .u8 a0_2, .int .u8 a0_3, .int .u8 a0_4, .string a0_5, .string a0_6, .string a0_7, .string a0_8, .string a0_9, .string a0_10, .string a0_11, .string a0_12, .string a0_13, .string a0_14] 25 (0, 0)) (by (with_reducible repeat (first | refine kN ?_ _ | refine kD ?_ | refine kA ?_ _)); exact BK380.out) hb); have n2_ := Aside0.mk (below_step (by repeat (first | (with_reducible first | exact HB.out | apply bA | apply bN | apply bD | refine below_set ?_ GE380.out) | exact HB.out)) hb); clear HO_5; clear BK380; clear HB; have HO_5 := n0_; have BK380 := n1_; have HB := n2_; clear n0_ n1_ n2_; (try clear hb)))
    go_ret
    exact ⟨by first | rfl | (simp [errW_none, errW_some] <;> rfl) | (simp [*, errW_none, errW_some] <;> rfl), by repeat (first | (with_reducible first | exact HB.out | apply bA | apply bN | apply bD | refine below_set ?_ GE380.out) | exact HB.out)⟩
   ·replace c20 := Bool.eq_false_iff.mpr c20
    subst c20
    have H1 : (if (t381.length : Int) = 0 then (none) else (if 0 ≤ (Int.tmod (wrap64 (a1)) (t381.length : Int)) then (if (Int.tmod (wrap64 (a1)) (t381.length : Int)) < (t381.length : Int) then ((ack_Build.f kj3 a0_0 a0_1 a0_2 a0_3 a0_4 a0_5 a0_6 a0_7 a0_8 a0_9 a0_10 a0_11 a0_12 a0_13 a0_14 (rdOf ByteArray.empty t381 (Int.tmod (wrap64 (a1)) (t381.length : Int)))).bind fun bt388 => (if bt388.2 = 0 then ((ack_Read.f kj3 bt388.1).bind fun bt392 => ((msh_Read.f kj3 bt388.1).bind fun bt396 => (if bt392.2.2 = 0 then (if (bt392.1.toList == ((rdOf ByteArray.empty t381 (Int.tmod (wrap64 (a1)) (t381.length : Int))).toList) && (bt392.2.1.toList == a0_12.toList)) = true then (if bt396.2.2.2.2.2.2.2.2.2.2.2.2.2.2.2 = 0 then (if (bt396.1 == a0_0 && (bt396.2.1 == a0_1 && (bt396.2.2.1 == a0_2 && (bt396.2.2.2.1 == a0_3 && (bt396.2.2.2.2.1 == a0_4))))) = true then (if bt396.2.2.2.2.2.1.toList = a0_7.toList then (if bt396.2.2.2.2.2.2.2.2.1.toList = a0_6.toList then (if bt396.2.2.2.2.2.2.2.2.2.2.2.2.1.toList = a0_12.toList then (some (bt396.2.2.2.2.2.2.2.2.2.2.2.1.toList == ([65, 67, 75] : List UInt8))) else (some false)) else (some false)) else (some false)) else (some false)) else (some false)) else (some false)) else (some false)))) else (if (bt388.1.length : Int) = 0 then (if bt388.2 = 11 then (some true) else (some (bt388.2 == 10))) else (some false)))) else (none)) else (none))) = some r := by rw [if_neg (show ¬ (false = true) by decide)] at H; exact H
    clear H
    have H := H1
    clear H1
    by_cases c23 : (t381.length : Int) = 0
    ·rw [if_pos c23] at H
     exact absurd H (by simp)
    ·rw [if_neg c23] at H
     have c23b0 : ((t381.length : Int) == 0) = false := beq_eq_false_iff_ne.mpr c23
     have c23b1 : ((t381.length : Int) != 0) = true := bne_iff_ne.mpr c23
     have c23b2 : ¬ (t381 = []) := fun h_ => c23 (by rw [h_]; rfl)
     obtain ⟨ji24, hji24⟩ : ∃ j_ : Int, (Int.tmod (wrap64 (a1)) (t381.length : Int)) = j_ := ⟨_, rfl⟩
     replace H : (if 0 ≤ (ji24) then (if (ji24) < (t381.length : Int) then ((ack_Build.f kj3 a0_0 a0_1 a0_2 a0_3 a0_4 a0_5 a0_6 a0_7 a0_8 a0_9 a0_10 a0_11 a0_12 a0_13 a0_14 (rdOf ByteArray.empty t381 (ji24))).bind fun bt388 => (if bt388.2 = 0 then ((ack_Read.f kj3 bt388.1).bind fun bt392 => ((msh_Read.f kj3 bt388.1).bind fun bt396 => (if bt392.2.2 = 0 then (if (bt392.1.toList == ((rdOf ByteArray.empty t381 (ji24)).toList) && (bt392.2.1.toList == a0_12.toList)) = true then (if bt396.2.2.2.2.2.2.2.2.2.2.2.2.2.2.2 = 0 then (if (bt396.1 == a0_0 && (bt396.2.1 == a0_1 && (bt396.2.2.1 == a0_2 && (bt396.2.2.2.1 == a0_3 && (bt396.2.2.2.2.1 == a0_4))))) = true then (if bt396.2.2.2.2.2.1.toList = a0_7.toList then (if bt396.2.2.2.2.2.2.2.2.1.toList = a0_6.toList then (if bt396.2.2.2.2.2.2.2.2.2.2.2.2.1.toList = a0_12.toList then (some (bt396.2.2.2.2.2.2.2.2.2.2.2.1.toList == ([65, 67, 75] : List UInt8))) else (some false)) else (some false)) else (some false)) else (some false)) else (some false)) else (some false)) else (some false)))) else (if (bt388.1.length : Int) = 0 then (if bt388.2 = 11 then (some true) else (some (bt388.2 == 10))) else (some false)))) else (none)) else (none)) = some r := by first | (rw [hji24] at H; exact H) | (simp only [hji24] at H ⊢; exact H)
     by_cases c25 : 0 ≤ (ji24)
     ·rw [if_pos c25] at H
      have c25b0 : decide (0 ≤ (ji24)) = true := decide_eq_true c25
      clear c25
      by_cases c26 : (ji24) < (t381.length : Int)
      ·rw [if_pos c26] at H
       have c26b0 : decide ((ji24) < (t381.length : Int)) = true := decide_eq_true c26
       clear c26
       replace H := Option.bind_eq_some_iff.mp H
       obtain ⟨⟨t388, t391⟩, A270, H⟩ := H
       replace H : (if t391 = 0 then ((ack_Read.f kj3 t388).bind fun bt392 => ((msh_Read.f kj3 t388).bind fun bt396 => (if bt392.2.2 = 0 then (if (bt392.1.toList == ((rdOf ByteArray.empty t381 (ji24)).toList) && (bt392.2.1.toList == a0_12.toList)) = true then (if bt396.2.2.2.2.2.2.2.2.2.2.2.2.2.2.2 = 0 then (if (bt396.1 == a0_0 && (bt396.2.1 == a0_1 && (bt396.2.2.1 == a0_2 && (bt396.2.2.2.1 == a0_3 && (bt396.2.2.2.2.1 == a0_4))))) = true then (if bt396.2.2.2.2.2.1.toList = a0_7.toList then (if bt396.2.2.2.2.2.2.2.2.1.toList = a0_6.toList then (if bt396.2.2.2.2.2.2.2.2.2.2.2.2.1.toList = a0_12.toList then (some (bt396.2.2.2.2.2.2.2.2.2.2.2.1.toList == ([65, 67, 75] : List UInt8))) else (some false)) else (some false)) else (some false)) else (some false)) else (some false)) else (some false)) else (some false)))) else (if (t388.length : Int) = 0 then (if t391 = 11 then (some true) else (some (t391 == 10))) else (some false))) = some r := H
       have A27 := Aside0.mk A270
       clear A270
       by_cases c28 : t391 = 0
       ·rw [if_pos c28] at H
        have c28b0 : (t391 == 0) = true := beq_iff_eq.mpr c28
        have c28b1 : (t391 != 0) = false := bne_eq_false_iff_eq.mpr c28
        clear c28
        replace H := Option.bind_eq_some_iff.mp H
        obtain ⟨⟨t392, t393, t394⟩, A290, H⟩ := H
        replace H : ((msh_Read.f kj3 t388).bind fun bt396 => (if t394 = 0 then (if (t392.toList == ((rdOf ByteArray.empty t381 (ji24)).toList) && (t393.toList == a0_12.toList)) = true then (if bt396.2.2.2.2.2.2.2.2.2.2.2.2.2.2.2 = 0 then (if (bt396.1 == a0_0 && (bt396.2.1 == a0_1 && (bt396.2.2.1 == a0_2 && (bt396.2.2.2.1 == a0_3 && (bt396.2.2.2.2.1 == a0_4))))) = true then (if bt396.2.2.2.2.2.1.toList = a0_7.toList then (if bt396.2.2.2.2.2.2.2.2.1.toList = a0_6.toList then (if bt396.2.2.2.2.2.2.2.2.2.2.2.2.1.toList = a0_12.toList then (some (bt396.2.2.2.2.2.2.2.2.2.2.2.1.toList == ([65, 67, 75] : List UInt8))) else (some false)) else (some false)) else (some false)) else (some false)) else (some false)) else (some false)) else (some false))) = some r := H
        have A29 := Aside0.mk A290
        clear A290
        replace H := Option.bind_eq_some_iff.mp H
        obtain ⟨⟨t396, t397, t398, t399, t400, t401, t402, t403, t404, t405, t406, t407, t408, t409, t410, t411⟩, A300, H⟩ := H
        replace H : (if t394 = 0 then (if (t392.toList == ((rdOf ByteArray.empty t381 (ji24)).toList) && (t393.toList == a0_12.toList)) = true then (if t411 = 0 then (if (t396 == a0_0 && (t397 == a0_1 && (t398 == a0_2 && (t399 == a0_3 && (t400 == a0_4))))) = true then (if t401.toList = a0_7.toList then (if t404.toList = a0_6.toList then (if t408.toList = a0_12.toList then (some (t407.toList == ([65, 67, 75] : List UInt8))) else (some false)) else (some false)) else (some false)) else (some false)) else (some false)) else (some false)) else (some false)) = some r := H
        have A30 := Aside0.mk A300
        clear A300
        by_cases c31 : t394 = 0
        ·rw [if_pos c31] at H
         have c31b0 : (t394 == 0) = true := beq_iff_eq.mpr c31
         have c31b1 : (t394 != 0) = false := bne_eq_false_iff_eq.mpr c31
         clear c31
         by_cases c32 : (t392.toList == ((rdOf ByteArray.empty t381 (ji24)).toList) && (t393.toList == a0_12.toList)) = true
         ·rw [if_pos c32] at H
          have c32b0 : (t392.toList == ((rdOf ByteArray.empty t381 (ji24)).toList) && (t393.toList == a0_12.toList)) = true := c32
          (try (have c32b1 : decide (t392.toList = ((rdOf ByteArray.empty t381 (ji24)).toList) && (t393.toList == a0_12.toList)) = true := by simpa using c32))
          (try (have c32b2 : (t392.toList == ((rdOf ByteArray.empty t381 (ji24)).toList) && (t393.toList == a0_12.toList)) = true := by simpa using c32))
          clear c32
          by_cases c33 : t411 = 0
          ·rw [if_pos c33] at H
           have c33b0 : (t411 == 0) = true := beq_iff_eq.mpr c33
           have c33b1 : (t411 != 0) = false := bne_eq_false_iff_eq.mpr c33
           clear c33
           by_cases c34 : (t396 == a0_0 && (t397 == a0_1 && (t398 == a0_2 && (t399 == a0_3 && (t400 == a0_4))))) = true
           ·rw [if_pos c34] at H
            have c34b0 : (t396 == a0_0 && (t397 == a0_1 && (t398 == a0_2 && (t399 == a0_3 && (t400 == a0_4))))) = true := c34
            (try (have c34b1 : decide (t396 = a0_0 && (t397 == a0_1 && (t398 == a0_2 && (t399 == a0_3 && (t400 == a0_4))))) = true := by simpa using c34))
            (try (have c34b2 : (t396 == a0_0 && (t397 == a0_1 && (t398 == a0_2 && (t399 == a0_3 && (t400 == a0_4))))) = true := by simpa using c34))
            clear c34
            by_cases c35 : t401.toList = a0_7.toList
            ·rw [if_pos c35] at H
             have c35b0 : (t401.toList == a0_7.toList) = true := beq_iff_eq.mpr c35
             have c35b1 : (t401.toList != a0_7.toList) = false := bne_eq_false_iff_eq.mpr c35
             clear c35
             by_cases c36 : t404.toList = a0_6.toList
             ·rw [if_pos c36] at H
              have c36b0 : (t404.toList == a0_6.toList) = true := beq_iff_eq.mpr c36
              have c36b1 : (t404.toList != a0_6.toList) = false := bne_eq_false_iff_eq.mpr c36
              clear c36
              by_cases c37 : t408.toList = a0_12.toList
              ·rw [if_pos c37] at H
               have c37b0 : (t408.toList == a0_12.toList) = true := beq_iff_eq.mpr c37
               have c37b1 : (t408.toList != a0_12.toList) = false := bne_eq_false_iff_eq.mpr c37
               clear c37
               obtain rfl := Option.some.inj H
               clear hrt
               obtain ⟨Ao38, co38, eo38⟩ := Kd.R_slice HO_5.out
               subst eo38
               have p387 : 0 ≤ ((ji24) : Int) := of_decide_eq_true (by first | (with_reducible assumption) | assumption)
               have q387 : (ji24) < (t381.length : Int) := of_decide_eq_true (by first | (with_reducible assumption) | assumption)
               obtain ⟨ad387, e387, hx387_0⟩ := Kd.at_string (Kd.R_reads' HO_5.out).2.2 (ji24) p387 q387
               cases e387
               replace p387 := eq_true p387
               replace q387 := eq_true q387
               have hcz39_0 : wc.cell? ⟨gb380, 0, none⟩ = some (.int .u8 a0_0) := blk_cell BK380.out 0
               have hcz39_1 : wc.cell? ⟨gb380, 1, none⟩ = some (.int .u8 a0_1) := blk_cell BK380.out 1
               have hcz39_2 : wc.cell? ⟨gb380, 2, none⟩ = some (.int .u8 a0_2) := blk_cell BK380.out 2
               have hcz39_3 : wc.cell? ⟨gb380, 3, none⟩ = some (.int .u8 a0_3) := blk_cell BK380.out 3
               have hcz39_4 : wc.cell? ⟨gb380, 4, none⟩ = some (.int .u8 a0_4) := blk_cell BK380.out 4
               have hcz39_5 : wc.cell? ⟨gb380, 5, none⟩ = some (.string a0_5) := blk_cell BK380.out 5
               have hcz39_6 : wc.cell? ⟨gb380, 6, none⟩ = some (.string a0_6) := blk_cell BK380.out 6
               have hcz39_7 : wc.cell? ⟨gb380, 7, none⟩ = some (.string a0_7) := blk_cell BK380.out 7
               have hcz39_8 : wc.cell? ⟨gb380, 8, none⟩ = some (.string a0_8) := blk_cell BK380.out 8
               have hcz39_9 : wc.cell? ⟨gb380, 9, none⟩ = some (.string a0_9) := blk_cell BK380.out 9
               have hcz39_10 : wc.cell? ⟨gb380, 10, none⟩ = some (.string a0_10) := blk_cell BK380.out 10
               have hcz39_11 : wc.cell? ⟨gb380, 11, none⟩ = some (.string a0_11) := blk_cell BK380.out 11
               have hcz39_12 : wc.cell? ⟨gb380, 12, none⟩ = some (.string a0_12) := blk_cell BK380.out 12
               have hcz39_13 : wc.cell? ⟨gb380, 13, none⟩ = some (.string a0_13) := blk_cell BK380.out 13
               have hcz39_14 : wc.cell? ⟨gb380, 14, none⟩ = some (.string a0_14) := blk_cell BK380.out 14
               have hfz39_0 := blk_frozen BK380.out 0
               have hfz39_1 := blk_frozen BK380.out 1
               have hfz39_2 := blk_frozen BK380.out 2
               have hfz39_3 := blk_frozen BK380.out 3
               have hfz39_4 := blk_frozen BK380.out 4
               have hfz39_5 := blk_frozen BK380.out 5
               have hfz39_6 := blk_frozen BK380.out 6
               have hfz39_7 := blk_frozen BK380.out 7
               have hfz39_8 := blk_frozen BK380.out 8
               have hfz39_9 := blk_frozen BK380.out 9
               have hfz39_10 := blk_frozen BK380.out 10
               have hfz39_11 := blk_frozen BK380.out 11
               have hfz39_12 := blk_frozen BK380.out 12
               have hfz39_13 := blk_frozen BK380.out 13
               have hfz39_14 := blk_frozen BK380.out 14
               go_wp2_with (first | ((with_reducible refine gate_callee (f := 21) rfl ?_); refine goesL_ (some 37) rfl rfl Tryd.func21 (by kernel_rfl) rfl #[.agg #[.int .u8 a0_0, .int .u8 a0_1, .int .u8 a0_2, .int .u8 a0_3, .int .u8 a0_4, .string a0_5, .string a0_6, .string a0_7, .string a0_8, .string a0_9, .string a0_10, .string a0_11, .string a0_12, .string a0_13, .string a0_14], .string (rdOf ByteArray.empty t381 (ji24))] rfl (by (try simp only [List.map_toArray, List.map_cons, List.map_nil]); first | done | (simp only [hji24]; rfl) | rfl | (simp only [List.length_drop, List.length_take]; rfl)) ?_; (with_reducible refine (ack_Build.calls kj3 a0_0 a0_1 a0_2 a0_3 a0_4 a0_5 a0_6 a0_7 a0_8 a0_9 a0_10 a0_11 a0_12 a0_13 a0_14 (rdOf ByteArray.empty t381 (ji24)) t388 t391 _ A27.out (globc_below HGLOC.out (by repeat (first | (with_reducible first | exact HB.out | apply bA | apply bN | apply bD | refine below_set ?_ GE380.out) | exact HB.out)))).mono ?_); rintro e w40 ⟨v389, rfl, ho0, hb⟩; refine ⟨_, rfl, ?_⟩; have n0_ := Aside0.mk (Kd.R_below (by (with_reducible repeat (first | apply Kd.R_alloc | apply Kd.R_drewN | apply Kd.R_drew)); exact HO_5.out) hb); have n1_ := Aside0.mk (Kd.R_lower ho0 (below_size (by repeat (first | (with_reducible first | exact HB.out | apply bA | apply bN | apply bD | refine below_set ?_ GE380.out) | exact HB.out)))); have n2_ := Aside0.mk (blk_below (g := gb380) (o := .cells #[.int .u8 a0_0, .int .u8 a0_1, .int .u8 a0_2, .int .u8 a0_3, .int .u8 a0_4, .string a0_5, .string a0_6, .string a0_7, .string a0_8, .string a0_9, .string a0_10, .string a0_11, .string a0_12, .string a0_13, .string a0_14] 25 (0, 0)) (by (with_reducible repeat (first | refine kN ?_ _ | refine kD ?_ | refine kA ?_ _)); exact BK380.out) hb); have n3_ := Aside0.mk (below_step (by repeat (first | (with_reducible first | exact HB.out | apply bA | apply bN | apply bD | refine below_set ?_ GE380.out) | exact HB.out)) hb); clear HO_5; clear BK380; clear HB; have HO_5 := n0_; have HO390 := n1_; have BK380 := n2_; have HB := n3_; clear n0_ n1_ n2_ n3_; (try clear hb); (try clear ho0); obtain ⟨Ao41, co41, eo41⟩ := Kd.R_slice HO390.out; subst eo41) | ((with_reducible refine gate_callee (f := 19) rfl ?_); refine goesL_ (some 55) rfl rfl Tryd.func19 (by kernel_rfl) rfl #[.slice Ao41 t388.length co41] rfl (by (try simp only [List.map_toArray, List.map_cons, List.map_nil]); first | done | rfl | (simp only [List.length_drop, List.length_take]; rfl)) ?_; (with_reducible refine (ack_Read.calls kj3 _ _ t388 t392 t393 t394 _ ?side1 ?side2 A29.out (globc_below HGLOC.out (by repeat (first | (with_reducible first | exact HB.out | apply bA | apply bN | apply bD | refine below_set ?_ GE380.out) | exact HB.out)))).mono ?_); (case side1 => repeat (first | exact (Kd.R_reads' HO390.out).2.2 | (with_reducible refine Kd.C_alloc ?_ _) | (with_reducible refine Kd.C_drewN ?_ _) | (with_reducible refine Kd.C_drew ?_))); (case side2 => exact (Kd.R_reads' HO390.out).2.1); rintro e w42 ⟨rfl, hb⟩; refine ⟨_, rfl, ?_⟩; have n0_ := Aside0.mk (Kd.R_below (by (with_reducible repeat (first | apply Kd.R_alloc | apply Kd.R_drewN | apply Kd.R_drew)); exact HO_5.out) hb); have n1_ := Aside0.mk (Kd.R_below (by (with_reducible repeat (first | apply Kd.R_alloc | apply Kd.R_drewN | apply Kd.R_drew)); exact HO390.out) hb); have n2_ := Aside0.mk (blk_below (g := gb380) (o := .cells #[.int .u8 a0_0, .int .u8 a0_1, .int .u8 a0_2, .int .u8 a0_3, .int .u8 a0_4, .string a0_5, .string a0_6, .string a0_7, .string a0_8, .string a0_9, .string a0_10, .string a0_11, .string a0_12, .string a0_13, .string a0_14] 25 (0, 0)) (by (with_reducible repeat (first | refine kN ?_ _ | refine kD ?_ | refine kA ?_ _)); exact BK380.out) hb); have n3_ := Aside0.mk (below_step (by repeat (first | (with_reducible first | exact HB.out | apply bA | apply bN | apply bD | refine below_set ?_ GE380.out) | exact HB.out)) hb); clear HO_5; clear HO390; clear BK380; clear HB; have HO_5 := n0_; have HO390 := n1_; have BK380 := n2_; have HB := n3_; clear n0_ n1_ n2_ n3_; (try clear hb)) | ((with_reducible refine gate_dst (N := 9) rfl ?_); (try (refine gate_guard (by rfl) ?_; dsimp only)); refine box_event ?hg (N := 9) ?hd (cs := #[.string (⟨#[]⟩ : ByteArray), .string (⟨#[]⟩ : ByteArray)]) (t := 45) ?hr ?_; (case hd => rfl); (case hg => rfl); (case hr => first | (go_simp; done) | (go_simp; rfl)); intro gb395 hg w43 hbox hb; have n0_ := Aside0.mk (Kd.R_below (by (with_reducible repeat (first | apply Kd.R_alloc | apply Kd.R_drewN | apply Kd.R_drew)); exact HO_5.out) hb); have n1_ := Aside0.mk (Kd.R_below (by (with_reducible repeat (first | apply Kd.R_alloc | apply Kd.R_drewN | apply Kd.R_drew)); exact HO390.out) hb); have n2_ := Aside0.mk (blk_below (g := gb380) (o := .cells #[.int .u8 a0_0, .int .u8 a0_1, .int .u8 a0_2, .int .u8 a0_3, .int .u8 a0_4, .string a0_5, .string a0_6, .string a0_7, .string a0_8, .string a0_9, .string a0_10, .string a0_11, .string a0_12, .string a0_13, .string a0_14] 25 (0, 0)) (by (with_reducible repeat (first | refine kN ?_ _ | refine kD ?_ | refine kA ?_ _)); exact BK380.out) hb); have n3_ := Aside0.mk (below_step (by repeat (first | (with_reducible first | exact HB.out | apply bA | apply bN | apply bD | refine below_set ?_ GE380.out) | exact HB.out)) hb); have n4_ := Aside0.mk (hbox); have n5_ := Aside0.mk ((by rw [hg]; exact (below_size (by repeat (first | (with_reducible first | exact HB.out | apply bA | apply bN | apply bD | refine below_set ?_ GE380.out) | exact HB.out))) : w.heap.size ≤ gb395)); have n6_ := Aside0.mk ((by rw [hg]; exact (below_size (by repeat (first | (with_reducible first | exact HB.out | apply bA | apply bN | apply bD | refine below_set ?_ GE380.out) | exact HB.out))) : w.heap.size ≤ gb395)); have n7_ := Aside0.mk ((by rw [hg]; exact Nat.ne_of_lt (blk_lt (g := gb380) (o := .cells #[.int .u8 a0_0, .int .u8 a0_1, .int .u8 a0_2, .int .u8 a0_3, .int .u8 a0_4, .string a0_5, .string a0_6, .string a0_7, .string a0_8, .string a0_9, .string a0_10, .string a0_11, .string a0_12, .string a0_13, .string a0_14] 25 (0, 0)) (by (with_reducible repeat (first | refine kN ?_ _ | refine kD ?_ | refine kA ?_ _)); exact BK380.out)) : gb380 ≠ gb395)); have n8_ := Aside0.mk ((by rw [hg]; exact Nat.ne_of_gt (blk_lt (g := gb380) (o := .cells #[.int .u8 a0_0, .int .u8 a0_1, .int .u8 a0_2, .int .u8 a0_3, .int .u8 a0_4, .string a0_5, .string a0_6, .string a0_7, .string a0_8, .string a0_9, .string a0_10, .string a0_11, .string a0_12, .string a0_13, .string a0_14] 25 (0, 0)) (by (with_reducible repeat (first | refine kN ?_ _ | refine kD ?_ | refine kA ?_ _)); exact BK380.out)) : gb395 ≠ gb380)); clear HO_5; clear HO390; clear BK380; clear HB; have HO_5 := n0_; have HO390 := n1_; have BK380 := n2_; have HB := n3_; have BK395 := n4_; have GW395 := n5_; have GE395 := n6_; have NB380_395 := n7_; have NB395_380 := n8_; clear n0_ n1_ n2_ n3_ n4_ n5_ n6_ n7_ n8_; clear hb hbox hg; have hnb44 := NB395_380.out; have hnc44 := NB380_395.out; have hcz45_0 : w43.cell? ⟨gb395, 0, none⟩ = some (.string (⟨#[]⟩ : ByteArray)) := blk_cell BK395.out 0; have hcz45_1 : w43.cell? ⟨gb395, 1, none⟩ = some (.string (⟨#[]⟩ : ByteArray)) := blk_cell BK395.out 1; have hfz45_0 := blk_frozen BK395.out 0; have hfz45_1 := blk_frozen BK395.out 1) | ((with_reducible refine gate_callee (f := 12) rfl ?_); refine goesL_ (some 60) rfl rfl Tryd.func12 (by kernel_rfl) rfl #[.slice Ao41 t388.length co41] rfl (by (try simp only [List.map_toArray, List.map_cons, List.map_nil]); first | done | rfl | (simp only [List.length_drop, List.length_take]; rfl)) ?_; (with_reducible refine (msh_Read.calls kj3 _ _ t388 t396 t397 t398 t399 t400 t401 t402 t403 t404 t405 t406 t407 t408 t409 t410 t411 _ ?side1 ?side2 A30.out).mono ?_); (case side1 => refine (Kd.R_reads' (e := 5) (base := w.heap.size) (ok := fun k_ => True) (n := t388.length) (c := co41) ?_).2.2; exact (by (with_reducible repeat (first | apply Kd.R_alloc | apply Kd.R_drewN | apply Kd.R_drew)); exact (Kd.R_mono (Kd.R_far (p := ⟨gb395, 1, none⟩) (Kd.R_far (p := ⟨gb395, 0, none⟩) (Kd.R_types HO390.out BK395.out (by decide)) (fun _ hk => hk.2) (.string t392)) (fun _ hk => hk.2) (.string t393)) (fun _ h_ => h_.1)))); (case side2 => exact (Kd.R_reads' HO390.out).2.1); rintro e w46 ⟨rfl, hb⟩; refine ⟨_, rfl, ?_⟩; have n0_ := Aside0.mk (Kd.R_below (by (with_reducible repeat (first | apply Kd.R_alloc | apply Kd.R_drewN | apply Kd.R_drew)); exact (Kd.R_mono (Kd.R_far (p := ⟨gb395, 1, none⟩) (Kd.R_far (p := ⟨gb395, 0, none⟩) (Kd.R_types HO_5.out BK395.out (by decide)) (fun _ hk => hk.2) (.string t392)) (fun _ hk => hk.2) (.string t393)) (fun _ h_ => h_.1))) hb); have n1_ := Aside0.mk (Kd.R_below (by (with_reducible repeat (first | apply Kd.R_alloc | apply Kd.R_drewN | apply Kd.R_drew)); exact (Kd.R_mono (Kd.R_far (p := ⟨gb395, 1, none⟩) (Kd.R_far (p := ⟨gb395, 0, none⟩) (Kd.R_types HO390.out BK395.out (by decide)) (fun _ hk => hk.2) (.string t392)) (fun _ hk => hk.2) (.string t393)) (fun _ h_ => h_.1))) hb); have n2_ := Aside0.mk (blk_below (g := gb380) (o := .cells #[.int .u8 a0_0, .int .u8 a0_1, .int .u8 a0_2, .int .u8 a0_3, .int .u8 a0_4, .string a0_5, .string a0_6, .string a0_7, .string a0_8, .string a0_9, .string a0_10, .string a0_11, .string a0_12, .string a0_13, .string a0_14] 25 (0, 0)) (by (with_reducible repeat (first | refine kN ?_ _ | refine kD ?_ | refine kA ?_ _)); refine blk_far ?_ NB380_395.out _; (with_reducible repeat (first | refine kN ?_ _ | refine kD ?_ | refine kA ?_ _)); refine blk_far ?_ NB380_395.out _; (with_reducible repeat (first | refine kN ?_ _ | refine kD ?_ | refine kA ?_ _)); exact BK380.out) hb); have n3_ := Aside0.mk (blk_below (g := gb395) (o := .cells #[.string t392, .string t393] 45 (0, 0)) (by (with_reducible repeat (first | refine kN ?_ _ | refine kD ?_ | refine kA ?_ _)); refine blk_put (cs := #[.string t392, .string (⟨#[]⟩ : ByteArray)]) ?_ 1 _ rfl; (with_reducible repeat (first | refine kN ?_ _ | refine kD ?_ | refine kA ?_ _)); refine blk_put (cs := #[.string (⟨#[]⟩ : ByteArray), .string (⟨#[]⟩ : ByteArray)]) ?_ 0 _ rfl; (with_reducible repeat (first | refine kN ?_ _ | refine kD ?_ | refine kA ?_ _)); exact BK395.out) hb); have n4_ := Aside0.mk (below_step (by repeat (first | (with_reducible first | exact HB.out | apply bA | apply bN | apply bD | refine below_set ?_ GE380.out | refine below_set ?_ GE395.out) | exact HB.out)) hb); clear HO_5; clear HO390; clear BK380; clear BK395; clear HB; have HO_5 := n0_; have HO390 := n1_; have BK380 := n2_; have BK395 := n3_; have HB := n4_; clear n0_ n1_ n2_ n3_ n4_; (try clear hb)) | ((with_reducible refine gate_dst (N := 11) rfl ?_); (try (refine gate_guard (by rfl) ?_; dsimp only)); refine box_event ?hg (N := 11) ?hd (cs := #[.int .u8 0, .int .u8 0, .int .u8 0, .int .u8 0, .int .u8 0, .string (⟨#[]⟩ : ByteArray), .string (⟨#[]⟩ : ByteArray), .string (⟨#[]⟩ : ByteArray), .string (⟨#[]⟩ : ByteArray), .string (⟨#[]⟩ : ByteArray), .string (⟨#[]⟩ : ByteArray), .string (⟨#[]⟩ : ByteArray), .string (⟨#[]⟩ : ByteArray), .string (⟨#[]⟩ : ByteArray), .string (⟨#[]⟩ : ByteArray)]) (t := 25) ?hr ?_; (case hd => rfl); (case hg => rfl); (case hr => first | (go_simp; done) | (go_simp; rfl)); intro gb412 hg w47 hbox hb; have n0_ := Aside0.mk (Kd.R_below (by (with_reducible repeat (first | apply Kd.R_alloc | apply Kd.R_drewN | apply Kd.R_drew)); exact HO_5.out) hb); have n1_ := Aside0.mk (Kd.R_below (by (with_reducible repeat (first | apply Kd.R_alloc | apply Kd.R_drewN | apply Kd.R_drew)); exact HO390.out) hb); have n2_ := Aside0.mk (blk_below (g := gb380) (o := .cells #[.int .u8 a0_0, .int .u8 a0_1, .int .u8 a0_2, .int .u8 a0_3, .int .u8 a0_4, .string a0_5, .string a0_6, .string a0_7, .string a0_8, .string a0_9, .string a0_10, .string a0_11, .string a0_12, .string a0_13, .string a0_14] 25 (0, 0)) (by (with_reducible repeat (first | refine kN ?_ _ | refine kD ?_ | refine kA ?_ _)); exact BK380.out) hb); have n3_ := Aside0.mk (blk_below (g := gb395) (o := .cells #[.string t392, .string t393] 45 (0, 0)) (by (with_reducible repeat (first | refine kN ?_ _ | refine kD ?_ | refine kA ?_ _)); exact BK395.out) hb); have n4_ := Aside0.mk (below_step (by repeat (first | (with_reducible first | exact HB.out | apply bA | apply bN | apply bD | refine below_set ?_ GE380.out | refine below_set ?_ GE395.out) | exact HB.out)) hb); have n5_ := Aside0.mk (hbox); have n6_ := Aside0.mk ((by rw [hg]; exact (below_size (by repeat (first | (with_reducible first | exact HB.out | apply bA | apply bN | apply bD | refine below_set ?_ GE380.out | refine below_set ?_ GE395.out) | exact HB.out))) : w.heap.size ≤ gb412)); have n7_ := Aside0.mk ((by rw [hg]; exact (below_size (by repeat (first | (with_reducible first | exact HB.out | apply bA | apply bN | apply bD | refine below_set ?_ GE380.out | refine below_set ?_ GE395.out) | exact HB.out))) : w.heap.size ≤ gb412)); have n8_ := Aside0.mk ((by rw [hg]; exact Nat.ne_of_lt (blk_lt (g := gb380) (o := .cells #[.int .u8 a0_0, .int .u8 a0_1, .int .u8 a0_2, .int .u8 a0_3, .int .u8 a0_4, .string a0_5, .string a0_6, .string a0_7, .string a0_8, .string a0_9, .string a0_10, .string a0_11, .string a0_12, .string a0_13, .string a0_14] 25 (0, 0)) (by (with_reducible repeat (first | refine kN ?_ _ | refine kD ?_ | refine kA ?_ _)); exact BK380.out)) : gb380 ≠ gb412)); have n9_ := Aside0.mk ((by rw [hg]; exact Nat.ne_of_gt (blk_lt (g := gb380) (o := .cells #[.int .u8 a0_0, .int .u8 a0_1, .int .u8 a0_2, .int .u8 a0_3, .int .u8 a0_4, .string a0_5, .string a0_6, .string a0_7, .string a0_8, .string a0_9, .string a0_10, .string a0_11, .string a0_12, .string a0_13, .string a0_14] 25 (0, 0)) (by (with_reducible repeat (first | refine kN ?_ _ | refine kD ?_ | refine kA ?_ _)); exact BK380.out)) : gb412 ≠ gb380)); have n10_ := Aside0.mk ((by rw [hg]; exact Nat.ne_of_lt (blk_lt (g := gb395) (o := .cells #[.string t392, .string t393] 45 (0, 0)) (by (with_reducible repeat (first | refine kN ?_ _ | refine kD ?_ | refine kA ?_ _)); exact BK395.out)) : gb395 ≠ gb412)); have n11_ := Aside0.mk ((by rw [hg]; exact Nat.ne_of_gt (blk_lt (g := gb395) (o := .cells #[.string t392, .string t393] 45 (0, 0)) (by (with_reducible repeat (first | refine kN ?_ _ | refine kD ?_ | refine kA ?_ _)); exact BK395.out)) : gb412 ≠ gb395)); clear HO_5; clear HO390; clear BK380; clear BK395; clear HB; have HO_5 := n0_; have HO390 := n1_; have BK380 := n2_; have BK395 := n3_; have HB := n4_; have BK412 := n5_; have GW412 := n6_; have GE412 := n7_; have NB380_412 := n8_; have NB412_380 := n9_; have NB395_412 := n10_; have NB412_395 := n11_; clear n0_ n1_ n2_ n3_ n4_ n5_ n6_ n7_ n8_ n9_ n10_ n11_; clear hb hbox hg; have hnb48 := NB412_380.out; have hnc48 := NB380_412.out; have hnb49 := NB412_395.out; have hnc49 := NB395_412.out; have hcz50_0 : w47.cell? ⟨gb412, 0, none⟩ = some (.int .u8 0) := blk_cell BK412.out 0; have hcz50_1 : w47.cell? ⟨gb412, 1, none⟩ = some (.int .u8 0) := blk_cell BK412.out 1; have hcz50_2 : w47.cell? ⟨gb412, 2, none⟩ = some (.int .u8 0) := blk_cell BK412.out 2; have hcz50_3 : w47.cell? ⟨gb412, 3, none⟩ = some (.int .u8 0) := blk_cell BK412.out 3; have hcz50_4 : w47.cell? ⟨gb412, 4, none⟩ = some (.int .u8 0) := blk_cell BK412.out 4; have hcz50_5 : w47.cell? ⟨gb412, 5, none⟩ = some (.string (⟨#[]⟩ : ByteArray)) := blk_cell BK412.out 5; have hcz50_6 : w47.cell? ⟨gb412, 6, none⟩ = some (.string (⟨#[]⟩ : ByteArray)) := blk_cell BK412.out 6; have hcz50_7 : w47.cell? ⟨gb412, 7, none⟩ = some (.string (⟨#[]⟩ : ByteArray)) := blk_cell BK412.out 7; have hcz50_8 : w47.cell? ⟨gb412, 8, none⟩ = some (.string (⟨#[]⟩ : ByteArray)) := blk_cell BK412.out 8; have hcz50_9 : w47.cell? ⟨gb412, 9, none⟩ = some (.string (⟨#[]⟩ : ByteArray)) := blk_cell BK412.out 9; have hcz50_10 : w47.cell? ⟨gb412, 10, none⟩ = some (.string (⟨#[]⟩ : ByteArray)) := blk_cell BK412.out 10; have hcz50_11 : w47.cell? ⟨gb412, 11, none⟩ = some (.string (⟨#[]⟩ : ByteArray)) := blk_cell BK412.out 11; have hcz50_12 : w47.cell? ⟨gb412, 12, none⟩ = some (.string (⟨#[]⟩ : ByteArray)) := blk_cell BK412.out 12; have hcz50_13 : w47.cell? ⟨gb412, 13, none⟩ = some (.string (⟨#[]⟩ : ByteArray)) := blk_cell BK412.out 13; have hcz50_14 : w47.cell? ⟨gb412, 14, none⟩ = some (.string (⟨#[]⟩ : ByteArray)) := blk_cell BK412.out 14; have hfz50_0 := blk_frozen BK412.out 0; have hfz50_1 := blk_frozen BK412.out 1; have hfz50_2 := blk_frozen BK412.out 2; have hfz50_3 := blk_frozen BK412.out 3; have hfz50_4 := blk_frozen BK412.out 4; have hfz50_5 := blk_frozen BK412.out 5; have hfz50_6 := blk_frozen BK412.out 6; have hfz50_7 := blk_frozen BK412.out 7; have hfz50_8 := blk_frozen BK412.out 8; have hfz50_9 := blk_frozen BK412.out 9; have hfz50_10 := blk_frozen BK412.out 10; have hfz50_11 := blk_frozen BK412.out 11; have hfz50_12 := blk_frozen BK412.out 12; have hfz50_13 := blk_frozen BK412.out 13; have hfz50_14 := blk_frozen BK412.out 14; have hcz51_0 : w47.cell? ⟨gb395, 0, none⟩ = some (.string t392) := blk_cell BK395.out 0; have hcz51_1 : w47.cell? ⟨gb395, 1, none⟩ = some (.string t393) := blk_cell BK395.out 1; have hfz51_0 := blk_frozen BK395.out 0; have hfz51_1 := blk_frozen BK395.out 1; have hcz52_0 : w47.cell? ⟨gb380, 0, none⟩ = some (.int .u8 a0_0) := blk_cell BK380.out 0; have hcz52_1 : w47.cell? ⟨gb380, 1, none⟩ = some (.int .u8 a0_1) := blk_cell BK380.out 1; have hcz52_2 : w47.cell? ⟨gb380, 2, none⟩ = some (.int .u8 a0_2) := blk_cell BK380.out 2; have hcz52_3 : w47.cell? ⟨gb380, 3, none⟩ = some (.int .u8 a0_3) := blk_cell BK380.out 3; have hcz52_4 : w47.cell? ⟨gb380, 4, none⟩ = some (.int .u8 a0_4) := blk_cell BK380.out 4; have hcz52_5 : w47.cell? ⟨gb380, 5, none⟩ = some (.string a0_5) := blk_cell BK380.out 5; have hcz52_6 : w47.cell? ⟨gb380, 6, none⟩ = some (.string a0_6) := blk_cell BK380.out 6; have hcz52_7 : w47.cell? ⟨gb380, 7, none⟩ = some (.string a0_7) := blk_cell BK380.out 7; have hcz52_8 : w47.cell? ⟨gb380, 8, none⟩ = some (.string a0_8) := blk_cell BK380.out 8; have hcz52_9 : w47.cell? ⟨gb380, 9, none⟩ = some (.string a0_9) := blk_cell BK380.out 9; have hcz52_10 : w47.cell? ⟨gb380, 10, none⟩ = some (.string a0_10) := blk_cell BK380.out 10; have hcz52_11 : w47.cell? ⟨gb380, 11, none⟩ = some (.string a0_11) := blk_cell BK380.out 11; have hcz52_12 : w47.cell? ⟨gb380, 12, none⟩ = some (.string a0_12) := blk_cell BK380.out 12; have hcz52_13 : w47.cell? ⟨gb380, 13, none⟩ = some (.string a0_13) := blk_cell BK380.out 13; have hcz52_14 : w47.cell? ⟨gb380, 14, none⟩ = some (.string a0_14) := blk_cell BK380.out 14; have hfz52_0 := blk_frozen BK380.out 0; have hfz52_1 := blk_frozen BK380.out 1; have hfz52_2 := blk_frozen BK380.out 2; have hfz52_3 := blk_frozen BK380.out 3; have hfz52_4 := blk_frozen BK380.out 4; have hfz52_5 := blk_frozen BK380.out 5; have hfz52_6 := blk_frozen BK380.out 6; have hfz52_7 := blk_frozen BK380.out 7; have hfz52_8 := blk_frozen BK380.out 8; have hfz52_9 := blk_frozen BK380.out 9; have hfz52_10 := blk_frozen BK380.out 10; have hfz52_11 := blk_frozen BK380.out 11; have hfz52_12 := blk_frozen BK380.out 12; have hfz52_13 := blk_frozen BK380.out 13; have hfz52_14 := blk_frozen BK380.out 14))
               go_ret
               exact ⟨by first | rfl | (simp [errW_none, errW_some] <;> rfl) | (simp only [← hji24]; first | rfl | (simp [errW_none, errW_some] <;> rfl)) | (simp [*, errW_none, errW_some] <;> rfl), by repeat (first | (with_reducible first | exact HB.out | apply bA | apply bN | apply bD | refine below_set ?_ GE380.out | refine below_set ?_ GE395.out | refine below_set ?_ GE412.out) | exact HB.out)⟩
              ·rw [if_neg c37] at H
               have c37b0 : (t408.toList == a0_12.toList) = false := beq_eq_false_iff_ne.mpr c37
               have c37b1 : (t408.toList != a0_12.toList) = true := bne_iff_ne.mpr c37
               obtain rfl := Option.some.inj H
               cases hrt
             ·rw [if_neg c36] at H
              have c36b0 : (t404.toList == a0_6.toList) = false := beq_eq_false_iff_ne.mpr c36
              have c36b1 : (t404.toList != a0_6.toList) = true := bne_iff_ne.mpr c36
              obtain rfl := Option.some.inj H
              cases hrt
            ·rw [if_neg c35] at H
             have c35b0 : (t401.toList == a0_7.toList) = false := beq_eq_false_iff_ne.mpr c35
             have c35b1 : (t401.toList != a0_7.toList) = true := bne_iff_ne.mpr c35
             obtain rfl := Option.some.inj H
             cases hrt
           ·rw [if_neg c34] at H
            have c34b0 : (t396 == a0_0 && (t397 == a0_1 && (t398 == a0_2 && (t399 == a0_3 && (t400 == a0_4))))) = false := by simpa using c34
            (try (have c34b1 : decide (t396 = a0_0 && (t397 == a0_1 && (t398 == a0_2 && (t399 == a0_3 && (t400 == a0_4))))) = false := by simpa using c34))
            (try (have c34b2 : (t396 == a0_0 && (t397 == a0_1 && (t398 == a0_2 && (t399 == a0_3 && (t400 == a0_4))))) = false := by simpa using c34))
            (try (have c34b3 : ¬ (t396 = a0_0 && (t397 == a0_1 && (t398 == a0_2 && (t399 == a0_3 && (t400 == a0_4))))) := by simpa using c34))
            clear c34
            obtain rfl := Option.some.inj H
            cases hrt
          ·rw [if_neg c33] at H
           have c33b0 : (t411 == 0) = false := beq_eq_false_iff_ne.mpr c33
           have c33b1 : (t411 != 0) = true := bne_iff_ne.mpr c33
           obtain rfl := Option.some.inj H
           cases hrt
         ·rw [if_neg c32] at H
          have c32b0 : (t392.toList == ((rdOf ByteArray.empty t381 (ji24)).toList) && (t393.toList == a0_12.toList)) = false := by simpa using c32
          (try (have c32b1 : decide (t392.toList = ((rdOf ByteArray.empty t381 (ji24)).toList) && (t393.toList == a0_12.toList)) = false := by simpa using c32))
          (try (have c32b2 : (t392.toList == ((rdOf ByteArray.empty t381 (ji24)).toList) && (t393.toList == a0_12.toList)) = false := by simpa using c32))
          (try (have c32b3 : ¬ (t392.toList = ((rdOf ByteArray.empty t381 (ji24)).toList) && (t393.toList == a0_12.toList)) := by simpa using c32))
          clear c32
          obtain rfl := Option.some.inj H
          cases hrt
        ·rw [if_neg c31] at H
         have c31b0 : (t394 == 0) = false := beq_eq_false_iff_ne.mpr c31
         have c31b1 : (t394 != 0) = true := bne_iff_ne.mpr c31
         obtain rfl := Option.some.inj H
         cases hrt
       ·rw [if_neg c28] at H
        have c28b0 : (t391 == 0) = false := beq_eq_false_iff_ne.mpr c28
        have c28b1 : (t391 != 0) = true := bne_iff_ne.mpr c28
        by_cases c156 : (t388.length : Int) = 0
        ·rw [if_pos c156] at H
         have c156b0 : ((t388.length : Int) == 0) = true := beq_iff_eq.mpr c156
         have c156b1 : ((t388.length : Int) != 0) = false := bne_eq_false_iff_eq.mpr c156
         clear c156
         by_cases c157 : t391 = 11
         ·rw [if_pos c157] at H
          have c157b0 : (t391 == 11) = true := beq_iff_eq.mpr c157
          have c157b1 : (t391 != 11) = false := bne_eq_false_iff_eq.mpr c157
          clear c157
          obtain rfl := Option.some.inj H
          clear hrt
          obtain ⟨Ao158, co158, eo158⟩ := Kd.R_slice HO_5.out
          subst eo158
          have p387 : 0 ≤ ((ji24) : Int) := of_decide_eq_true (by first | (with_reducible assumption) | assumption)
          have q387 : (ji24) < (t381.length : Int) := of_decide_eq_true (by first | (with_reducible assumption) | assumption)
          obtain ⟨ad387, e387, hx387_0⟩ := Kd.at_string (Kd.R_reads' HO_5.out).2.2 (ji24) p387 q387
          cases e387
          replace p387 := eq_true p387
          replace q387 := eq_true q387
          have hcz159_0 : wc.cell? ⟨gb380, 0, none⟩ = some (.int .u8 a0_0) := blk_cell BK380.out 0
          have hcz159_1 : wc.cell? ⟨gb380, 1, none⟩ = some (.int .u8 a0_1) := blk_cell BK380.out 1
          have hcz159_2 : wc.cell? ⟨gb380, 2, none⟩ = some (.int .u8 a0_2) := blk_cell BK380.out 2
          have hcz159_3 : wc.cell? ⟨gb380, 3, none⟩ = some (.int .u8 a0_3) := blk_cell BK380.out 3
          have hcz159_4 : wc.cell? ⟨gb380, 4, none⟩ = some (.int .u8 a0_4) := blk_cell BK380.out 4
          have hcz159_5 : wc.cell? ⟨gb380, 5, none⟩ = some (.string a0_5) := blk_cell BK380.out 5
          have hcz159_6 : wc.cell? ⟨gb380, 6, none⟩ = some (.string a0_6) := blk_cell BK380.out 6
          have hcz159_7 : wc.cell? ⟨gb380, 7, none⟩ = some (.string a0_7) := blk_cell BK380.out 7
          have hcz159_8 : wc.cell? ⟨gb380, 8, none⟩ = some (.string a0_8) := blk_cell BK380.out 8
          have hcz159_9 : wc.cell? ⟨gb380, 9, none⟩ = some (.string a0_9) := blk_cell BK380.out 9
          have hcz159_10 : wc.cell? ⟨gb380, 10, none⟩ = some (.string a0_10) := blk_cell BK380.out 10
          have hcz159_11 : wc.cell? ⟨gb380, 11, none⟩ = some (.string a0_11) := blk_cell BK380.out 11
          have hcz159_12 : wc.cell? ⟨gb380, 12, none⟩ = some (.string a0_12) := blk_cell BK380.out 12
          have hcz159_13 : wc.cell? ⟨gb380, 13, none⟩ = some (.string a0_13) := blk_cell BK380.out 13
          have hcz159_14 : wc.cell? ⟨gb380, 14, none⟩ = some (.string a0_14) := blk_cell BK380.out 14
          have hfz159_0 := blk_frozen BK380.out 0
          have hfz159_1 := blk_frozen BK380.out 1
          have hfz159_2 := blk_frozen BK380.out 2
          have hfz159_3 := blk_frozen BK380.out 3
          have hfz159_4 := blk_frozen BK380.out 4
          have hfz159_5 := blk_frozen BK380.out 5
          have hfz159_6 := blk_frozen BK380.out 6
          have hfz159_7 := blk_frozen BK380.out 7
          have hfz159_8 := blk_frozen BK380.out 8
          have hfz159_9 := blk_frozen BK380.out 9
          have hfz159_10 := blk_frozen BK380.out 10
          have hfz159_11 := blk_frozen BK380.out 11
          have hfz159_12 := blk_frozen BK380.out 12
          have hfz159_13 := blk_frozen BK380.out 13
          have hfz159_14 := blk_frozen BK380.out 14
          go_wp2_with (first | ((with_reducible refine gate_callee (f := 21) rfl ?_); refine goesL_ (some 37) rfl rfl Tryd.func21 (by kernel_rfl) rfl #[.agg #[.int .u8 a0_0, .int .u8 a0_1, .int .u8 a0_2, .int .u8 a0_3, .int .u8 a0_4, .string a0_5, .string a0_6, .string a0_7, .string a0_8, .string a0_9, .string a0_10, .string a0_11, .string a0_12, .string a0_13, .string a0_14], .string (rdOf ByteArray.empty t381 (ji24))] rfl (by (try simp only [List.map_toArray, List.map_cons, List.map_nil]); first | done | (simp only [hji24]; rfl) | rfl | (simp only [List.length_drop, List.length_take]; rfl)) ?_; (with_reducible refine (ack_Build.calls kj3 a0_0 a0_1 a0_2 a0_3 a0_4 a0_5 a0_6 a0_7 a0_8 a0_9 a0_10 a0_11 a0_12 a0_13 a0_14 (rdOf ByteArray.empty t381 (ji24)) t388 t391 _ A27.out (globc_below HGLOC.out (by repeat (first | (with_reducible first | exact HB.out | apply bA | apply bN | apply bD | refine below_set ?_ GE380.out) | exact HB.out)))).mono ?_); rintro e w160 ⟨v389, rfl, ho0, hb⟩; refine ⟨_, rfl, ?_⟩; have n0_ := Aside0.mk (Kd.R_below (by (with_reducible repeat (first | apply Kd.R_alloc | apply Kd.R_drewN | apply Kd.R_drew)); exact HO_5.out) hb); have n1_ := Aside0.mk (Kd.R_lower ho0 (below_size (by repeat (first | (with_reducible first | exact HB.out | apply bA | apply bN | apply bD | refine below_set ?_ GE380.out) | exact HB.out)))); have n2_ := Aside0.mk (blk_below (g := gb380) (o := .cells #[.int .u8 a0_0, .int .u8 a0_1, .int .u8 a0_2, .int .u8 a0_3, .int .u8 a0_4, .string a0_5, .string a0_6, .string a0_7, .string a0_8, .string a0_9, .string a0_10, .string a0_11, .string a0_12, .string a0_13, .string a0_14] 25 (0, 0)) (by (with_reducible repeat (first | refine kN ?_ _ | refine kD ?_ | refine kA ?_ _)); exact BK380.out) hb); have n3_ := Aside0.mk (below_step (by repeat (first | (with_reducible first | exact HB.out | apply bA | apply bN | apply bD | refine below_set ?_ GE380.out) | exact HB.out)) hb); clear HO_5; clear BK380; clear HB; have HO_5 := n0_; have HO390 := n1_; have BK380 := n2_; have HB := n3_; clear n0_ n1_ n2_ n3_; (try clear hb); (try clear ho0); obtain ⟨Ao161, co161, eo161⟩ := Kd.R_slice HO390.out; subst eo161))
          go_ret
          exact ⟨by first | rfl | (simp [errW_none, errW_some] <;> rfl) | (simp only [← hji24]; first | rfl | (simp [errW_none, errW_some] <;> rfl)) | (simp [*, errW_none, errW_some] <;> rfl), by repeat (first | (with_reducible first | exact HB.out | apply bA | apply bN | apply bD | refine below_set ?_ GE380.out) | exact HB.out)⟩
         ·rw [if_neg c157] at H
          have c157b0 : (t391 == 11) = false := beq_eq_false_iff_ne.mpr c157
          have c157b1 : (t391 != 11) = true := bne_iff_ne.mpr c157
          obtain rfl := Option.some.inj H
          clear hrt
          obtain ⟨Ao162, co162, eo162⟩ := Kd.R_slice HO_5.out
          subst eo162
          have p387 : 0 ≤ ((ji24) : Int) := of_decide_eq_true (by first | (with_reducible assumption) | assumption)
          have q387 : (ji24) < (t381.length : Int) := of_decide_eq_true (by first | (with_reducible assumption) | assumption)
          obtain ⟨ad387, e387, hx387_0⟩ := Kd.at_string (Kd.R_reads' HO_5.out).2.2 (ji24) p387 q387
          cases e387
          replace p387 := eq_true p387
          replace q387 := eq_true q387
          have hcz163_0 : wc.cell? ⟨gb380, 0, none⟩ = some (.int .u8 a0_0) := blk_cell BK380.out 0
          have hcz163_1 : wc.cell? ⟨gb380, 1, none⟩ = some (.int .u8 a0_1) := blk_cell BK380.out 1
          have hcz163_2 : wc.cell? ⟨gb380, 2, none⟩ = some (.int .u8 a0_2) := blk_cell BK380.out 2
          have hcz163_3 : wc.cell? ⟨gb380, 3, none⟩ = some (.int .u8 a0_3) := blk_cell BK380.out 3
          have hcz163_4 : wc.cell? ⟨gb380, 4, none⟩ = some (.int .u8 a0_4) := blk_cell BK380.out 4
          have hcz163_5 : wc.cell? ⟨gb380, 5, none⟩ = some (.string a0_5) := blk_cell BK380.out 5
          have hcz163_6 : wc.cell? ⟨gb380, 6, none⟩ = some (.string a0_6) := blk_cell BK380.out 6
          have hcz163_7 : wc.cell? ⟨gb380, 7, none⟩ = some (.string a0_7) := blk_cell BK380.out 7
          have hcz163_8 : wc.cell? ⟨gb380, 8, none⟩ = some (.string a0_8) := blk_cell BK380.out 8
          have hcz163_9 : wc.cell? ⟨gb380, 9, none⟩ = some (.string a0_9) := blk_cell BK380.out 9
          have hcz163_10 : wc.cell? ⟨gb380, 10, none⟩ = some (.string a0_10) := blk_cell BK380.out 10
          have hcz163_11 : wc.cell? ⟨gb380, 11, none⟩ = some (.string a0_11) := blk_cell BK380.out 11
          have hcz163_12 : wc.cell? ⟨gb380, 12, none⟩ = some (.string a0_12) := blk_cell BK380.out 12
          have hcz163_13 : wc.cell? ⟨gb380, 13, none⟩ = some (.string a0_13) := blk_cell BK380.out 13
          have hcz163_14 : wc.cell? ⟨gb380, 14, none⟩ = some (.string a0_14) := blk_cell BK380.out 14
          have hfz163_0 := blk_frozen BK380.out 0
          have hfz163_1 := blk_frozen BK380.out 1
          have hfz163_2 := blk_frozen BK380.out 2
          have hfz163_3 := blk_frozen BK380.out 3
          have hfz163_4 := blk_frozen BK380.out 4
          have hfz163_5 := blk_frozen BK380.out 5
          have hfz163_6 := blk_frozen BK380.out 6
          have hfz163_7 := blk_frozen BK380.out 7
          have hfz163_8 := blk_frozen BK380.out 8
          have hfz163_9 := blk_frozen BK380.out 9
          have hfz163_10 := blk_frozen BK380.out 10
          have hfz163_11 := blk_frozen BK380.out 11
          have hfz163_12 := blk_frozen BK380.out 12
          have hfz163_13 := blk_frozen BK380.out 13
          have hfz163_14 := blk_frozen BK380.out 14
          go_wp2_with (first | ((with_reducible refine gate_callee (f := 21) rfl ?_); refine goesL_ (some 37) rfl rfl Tryd.func21 (by kernel_rfl) rfl #[.agg #[.int .u8 a0_0, .int .u8 a0_1, .int .u8 a0_2, .int .u8 a0_3, .int .u8 a0_4, .string a0_5, .string a0_6, .string a0_7, .string a0_8, .string a0_9, .string a0_10, .string a0_11, .string a0_12, .string a0_13, .string a0_14], .string (rdOf ByteArray.empty t381 (ji24))] rfl (by (try simp only [List.map_toArray, List.map_cons, List.map_nil]); first | done | (simp only [hji24]; rfl) | rfl | (simp only [List.length_drop, List.length_take]; rfl)) ?_; (with_reducible refine (ack_Build.calls kj3 a0_0 a0_1 a0_2 a0_3 a0_4 a0_5 a0_6 a0_7 a0_8 a0_9 a0_10 a0_11 a0_12 a0_13 a0_14 (rdOf ByteArray.empty t381 (ji24)) t388 t391 _ A27.out (globc_below HGLOC.out (by repeat (first | (with_reducible first | exact HB.out | apply bA | apply bN | apply bD | refine below_set ?_ GE380.out) | exact HB.out)))).mono ?_); rintro e w164 ⟨v389, rfl, ho0, hb⟩; refine ⟨_, rfl, ?_⟩; have n0_ := Aside0.mk (Kd.R_below (by (with_reducible repeat (first | apply Kd.R_alloc | apply Kd.R_drewN | apply Kd.R_drew)); exact HO_5.out) hb); have n1_ := Aside0.mk (Kd.R_lower ho0 (below_size (by repeat (first | (with_reducible first | exact HB.out | apply bA | apply bN | apply bD | refine below_set ?_ GE380.out) | exact HB.out)))); have n2_ := Aside0.mk (blk_below (g := gb380) (o := .cells #[.int .u8 a0_0, .int .u8 a0_1, .int .u8 a0_2, .int .u8 a0_3, .int .u8 a0_4, .string a0_5, .string a0_6, .string a0_7, .string a0_8, .string a0_9, .string a0_10, .string a0_11, .string a0_12, .string a0_13, .string a0_14] 25 (0, 0)) (by (with_reducible repeat (first | refine kN ?_ _ | refine kD ?_ | refine kA ?_ _)); exact BK380.out) hb); have n3_ := Aside0.mk (below_step (by repeat (first | (with_reducible first | exact HB.out | apply bA | apply bN | apply bD | refine below_set ?_ GE380.out) | exact HB.out)) hb); clear HO_5; clear BK380; clear HB; have HO_5 := n0_; have HO390 := n1_; have BK380 := n2_; have HB := n3_; clear n0_ n1_ n2_ n3_; (try clear hb); (try clear ho0); obtain ⟨Ao165, co165, eo165⟩ := Kd.R_slice HO390.out; subst eo165))
          go_ret
          exact ⟨by first | rfl | (simp [errW_none, errW_some] <;> rfl) | (simp only [← hji24]; first | rfl | (simp [errW_none, errW_some] <;> rfl)) | (simp [*, errW_none, errW_some] <;> rfl), by repeat (first | (with_reducible first | exact HB.out | apply bA | apply bN | apply bD | refine below_set ?_ GE380.out) | exact HB.out)⟩
        ·rw [if_neg c156] at H
         have c156b0 : ((t388.length : Int) == 0) = false := beq_eq_false_iff_ne.mpr c156
         have c156b1 : ((t388.length : Int) != 0) = true := bne_iff_ne.mpr c156
         have c156b2 : ¬ (t388 = []) := fun h_ => c156 (by rw [h_]; rfl)
         obtain rfl := Option.some.inj H
         cases hrt
      ·rw [if_neg c26] at H
       exact absurd H (by simp)
     ·rw [if_neg c25] at H
      exact absurd H (by simp)

end Go.Proofs.YtcjcaojgminjpabDoor.PB
