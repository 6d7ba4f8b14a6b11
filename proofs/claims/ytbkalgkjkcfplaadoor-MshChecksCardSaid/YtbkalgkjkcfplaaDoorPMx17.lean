-- Written by a program of this work (the kit's print, with contracts of this work's own taken in) out of the translation. Not trusted: Lean checks it.
import Derived.Test.YtbkalgkjkcfplaaDoorPMx0
import Derived.Test.YtbkalgkjkcfplaaDoorPMx15
import Derived.Test.YtbkalgkjkcfplaaDoorPMx16
namespace Go.Proofs.YtbkalgkjkcfplaaDoor.PM
open Go.RowKit Go.Proofs.YtbkalgkjkcfplaaDoorW.PrintWords Go.Proofs.YtbkalgkjkcfplaaDoorW.PrintLast Go.Proofs.YtbkalgkjkcfplaaDoorW.PrintMore
attribute [local go_sem] max2_int min2_int max_two min_two max_three min_three max_four min_four   -- for this text's walks alone
set_option linter.unusedVariables false
set_option linter.unusedSimpArgs false

/-! ### lamplighterref09_Check: function 19 -/
mutual
def lamplighterref09_Check.j0 : Nat → Bool → Int → Int → Int → Int → Int → ByteArray → ByteArray → ByteArray → ByteArray → ByteArray → ByteArray → ByteArray → ByteArray → ByteArray → ByteArray → Option (Int)
 | 0, _, _, _, _, _, _, _, _, _, _, _, _, _, _, _, _ => none
 | k + 1, x21, x461000, x461001, x461002, x461003, x461004, x461005, x461006, x461007, x461008, x461009, x461010, x461011, x461012, x461013, x461014 => if x21 = true then (some 14) else ((lamplighterref09_first.f k x461014 x461000 x461001 x461002 x461003 x461004).bind fun t461 => ((lamplighterref09_Versions.f).bind fun t462 => (lamplighterref09_Check.l0 k t461 false t462 0 x461000 x461001 x461002 x461003 x461004 x461005 x461006 x461007 x461008 x461009 x461010 x461011 x461012 x461013 x461014)))
def lamplighterref09_Check.l0 : Nat → ByteArray → Bool → List ByteArray → Int → Int → Int → Int → Int → Int → ByteArray → ByteArray → ByteArray → ByteArray → ByteArray → ByteArray → ByteArray → ByteArray → ByteArray → ByteArray → Option (Int)
 | 0, _, _, _, _, _, _, _, _, _, _, _, _, _, _, _, _, _, _, _ => none
 | k + 1, x3, x4, x5, x6, x461000, x461001, x461002, x461003, x461004, x461005, x461006, x461007, x461008, x461009, x461010, x461011, x461012, x461013, x461014 => if x6 < (x5.length : Int) then (if 0 ≤ x6 then (if (rdOf ByteArray.empty x5 x6).toList = x3.toList then (lamplighterref09_Check.l0 k x3 true x5 (wrap64 (x6 + 1)) x461000 x461001 x461002 x461003 x461004 x461005 x461006 x461007 x461008 x461009 x461010 x461011 x461012 x461013 x461014) else (lamplighterref09_Check.l0 k x3 x4 x5 (wrap64 (x6 + 1)) x461000 x461001 x461002 x461003 x461004 x461005 x461006 x461007 x461008 x461009 x461010 x461011 x461012 x461013 x461014)) else (none)) else (if x4 = true then ((lamplighterref09_first.f k x461013 x461000 x461001 x461002 x461003 x461004).bind fun t466 => (if t466.toList = ([80] : List UInt8) then (some 0) else (if t466.toList = ([68] : List UInt8) then (some 0) else (if t466.toList = ([84] : List UInt8) then (some 0) else (some 13))))) else (some 12))
end
def lamplighterref09_Check.f (k : Nat) (a0_0 : Int) (a0_1 : Int) (a0_2 : Int) (a0_3 : Int) (a0_4 : Int) (a0_5 : ByteArray) (a0_6 : ByteArray) (a0_7 : ByteArray) (a0_8 : ByteArray) (a0_9 : ByteArray) (a0_10 : ByteArray) (a0_11 : ByteArray) (a0_12 : ByteArray) (a0_13 : ByteArray) (a0_14 : ByteArray) : Option (Int) := if a0_11.toList = ([] : List UInt8) then (lamplighterref09_Check.j0 k true a0_0 a0_1 a0_2 a0_3 a0_4 a0_5 a0_6 a0_7 a0_8 a0_9 a0_10 a0_11 a0_12 a0_13 a0_14) else (if a0_12.toList = ([] : List UInt8) then (lamplighterref09_Check.j0 k true a0_0 a0_1 a0_2 a0_3 a0_4 a0_5 a0_6 a0_7 a0_8 a0_9 a0_10 a0_11 a0_12 a0_13 a0_14) else (lamplighterref09_Check.j0 k (decide ((a0_12.size : Int) > 50)) a0_0 a0_1 a0_2 a0_3 a0_4 a0_5 a0_6 a0_7 a0_8 a0_9 a0_10 a0_11 a0_12 a0_13 a0_14))
theorem lamplighterref09_Check.mono_l : ∀ k, (∀ y0 y1 y2 y3 y4 y5 y6 y7 y8 y9 y10 y11 y12 y13 y14 y15, LeO (lamplighterref09_Check.j0 k y0 y1 y2 y3 y4 y5 y6 y7 y8 y9 y10 y11 y12 y13 y14 y15) (lamplighterref09_Check.j0 (k + 1) y0 y1 y2 y3 y4 y5 y6 y7 y8 y9 y10 y11 y12 y13 y14 y15)) ∧ (∀ y0 y1 y2 y3 y4 y5 y6 y7 y8 y9 y10 y11 y12 y13 y14 y15 y16 y17 y18, LeO (lamplighterref09_Check.l0 k y0 y1 y2 y3 y4 y5 y6 y7 y8 y9 y10 y11 y12 y13 y14 y15 y16 y17 y18) (lamplighterref09_Check.l0 (k + 1) y0 y1 y2 y3 y4 y5 y6 y7 y8 y9 y10 y11 y12 y13 y14 y15 y16 y17 y18))
 | 0 => ⟨fun _ _ _ _ _ _ _ _ _ _ _ _ _ _ _ _ r h => by simp [lamplighterref09_Check.j0] at h, fun _ _ _ _ _ _ _ _ _ _ _ _ _ _ _ _ _ _ _ r h => by simp [lamplighterref09_Check.l0] at h⟩
 | k + 1 => by
  obtain ⟨ih0, ih1⟩ := lamplighterref09_Check.mono_l k
  refine ⟨?_, ?_⟩
  ·intro y0 y1 y2 y3 y4 y5 y6 y7 y8 y9 y10 y11 y12 y13 y14 y15
   unfold lamplighterref09_Check.j0
   repeat' first
   | (with_reducible exact ih0 _ _ _ _ _ _ _ _ _ _ _ _ _ _ _ _)
   | (with_reducible exact ih1 _ _ _ _ _ _ _ _ _ _ _ _ _ _ _ _ _ _ _)
   | (with_reducible exact lamplighterref09_first.mono _ _ _ _ _ _ _)
   | (with_reducible exact LeO.refl _)
   | (with_reducible exact LeO.none _)
   | (with_reducible refine LeO.ite ?_ ?_)
   | (with_reducible refine LeO.bind ?_ (fun _ => ?_))
   | exact ih0 _ _ _ _ _ _ _ _ _ _ _ _ _ _ _ _
   | exact ih1 _ _ _ _ _ _ _ _ _ _ _ _ _ _ _ _ _ _ _
   | exact lamplighterref09_first.mono _ _ _ _ _ _ _
   | exact LeO.none _
   | refine LeO.ite ?_ ?_
   | refine LeO.bind ?_ (fun _ => ?_)
  ·intro y0 y1 y2 y3 y4 y5 y6 y7 y8 y9 y10 y11 y12 y13 y14 y15 y16 y17 y18
   unfold lamplighterref09_Check.l0
   repeat' first
   | (with_reducible exact ih0 _ _ _ _ _ _ _ _ _ _ _ _ _ _ _ _)
   | (with_reducible exact ih1 _ _ _ _ _ _ _ _ _ _ _ _ _ _ _ _ _ _ _)
   | (with_reducible exact lamplighterref09_first.mono _ _ _ _ _ _ _)
   | (with_reducible exact LeO.refl _)
   | (with_reducible exact LeO.none _)
   | (with_reducible refine LeO.ite ?_ ?_)
   | (with_reducible refine LeO.bind ?_ (fun _ => ?_))
   | exact ih0 _ _ _ _ _ _ _ _ _ _ _ _ _ _ _ _
   | exact ih1 _ _ _ _ _ _ _ _ _ _ _ _ _ _ _ _ _ _ _
   | exact lamplighterref09_first.mono _ _ _ _ _ _ _
   | exact LeO.none _
   | refine LeO.ite ?_ ?_
   | refine LeO.bind ?_ (fun _ => ?_)
theorem lamplighterref09_Check.mono : ∀ a0 a1 a2 a3 a4 a5 a6 a7 a8 a9 a10 a11 a12 a13 a14 k, LeO (lamplighterref09_Check.f k a0 a1 a2 a3 a4 a5 a6 a7 a8 a9 a10 a11 a12 a13 a14) (lamplighterref09_Check.f (k + 1) a0 a1 a2 a3 a4 a5 a6 a7 a8 a9 a10 a11 a12 a13 a14) := by
 intro a0 a1 a2 a3 a4 a5 a6 a7 a8 a9 a10 a11 a12 a13 a14 k
 obtain ⟨ih0, ih1⟩ := lamplighterref09_Check.mono_l k
 unfold lamplighterref09_Check.f
 repeat' first
   | (with_reducible exact ih0 _ _ _ _ _ _ _ _ _ _ _ _ _ _ _ _)
   | (with_reducible exact ih1 _ _ _ _ _ _ _ _ _ _ _ _ _ _ _ _ _ _ _)
   | (with_reducible exact lamplighterref09_first.mono _ _ _ _ _ _ _)
   | (with_reducible exact LeO.refl _)
   | (with_reducible exact LeO.none _)
   | (with_reducible refine LeO.ite ?_ ?_)
   | (with_reducible refine LeO.bind ?_ (fun _ => ?_))
   | exact ih0 _ _ _ _ _ _ _ _ _ _ _ _ _ _ _ _
   | exact ih1 _ _ _ _ _ _ _ _ _ _ _ _ _ _ _ _ _ _ _
   | exact lamplighterref09_first.mono _ _ _ _ _ _ _
   | exact LeO.none _
   | refine LeO.ite ?_ ?_
   | refine LeO.bind ?_ (fun _ => ?_)
set_option maxHeartbeats 8000000 in
set_option maxRecDepth 100000 in
theorem lamplighterref09_Check.calls (k : Nat) (a0_0 : Int) (a0_1 : Int) (a0_2 : Int) (a0_3 : Int) (a0_4 : Int) (a0_5 : ByteArray) (a0_6 : ByteArray) (a0_7 : ByteArray) (a0_8 : ByteArray) (a0_9 : ByteArray) (a0_10 : ByteArray) (a0_11 : ByteArray) (a0_12 : ByteArray) (a0_13 : ByteArray) (a0_14 : ByteArray) (r : Int) (w : World) (h : lamplighterref09_Check.f k a0_0 a0_1 a0_2 a0_3 a0_4 a0_5 a0_6 a0_7 a0_8 a0_9 a0_10 a0_11 a0_12 a0_13 a0_14 = some r) :
  Calls Tryd.prog 19 #[.agg #[.int .u8 a0_0, .int .u8 a0_1, .int .u8 a0_2, .int .u8 a0_3, .int .u8 a0_4, .string a0_5, .string a0_6, .string a0_7, .string a0_8, .string a0_9, .string a0_10, .string a0_11, .string a0_12, .string a0_13, .string a0_14]] w fun e w' => e = .returned (.int .i64 r) ∧ Below w.heap.size w w' := by
 have hu27 := Tryd.underlying27
 have hu25 := Tryd.underlying25
 have HB := Aside0.mk (Below.refl w.heap.size w)
 have H : (if a0_11.toList = ([] : List UInt8) then (lamplighterref09_Check.j0 k true a0_0 a0_1 a0_2 a0_3 a0_4 a0_5 a0_6 a0_7 a0_8 a0_9 a0_10 a0_11 a0_12 a0_13 a0_14) else (if a0_12.toList = ([] : List UInt8) then (lamplighterref09_Check.j0 k true a0_0 a0_1 a0_2 a0_3 a0_4 a0_5 a0_6 a0_7 a0_8 a0_9 a0_10 a0_11 a0_12 a0_13 a0_14) else (lamplighterref09_Check.j0 k (decide ((a0_12.size : Int) > 50)) a0_0 a0_1 a0_2 a0_3 a0_4 a0_5 a0_6 a0_7 a0_8 a0_9 a0_10 a0_11 a0_12 a0_13 a0_14))) = some r := h
 clear h
 have HC2 := Aside0.mk H
 clear H
 go_enter Tryd.func19, Tryd.ntmps19
 go_upto_region 1 with (first | ((with_reducible refine gate_dst (N := 1) rfl ?_); (try (refine gate_guard (by rfl) ?_; dsimp only)); refine box_event ?hg (N := 1) ?hd (cs := #[.int .u8 a0_0, .int .u8 a0_1, .int .u8 a0_2, .int .u8 a0_3, .int .u8 a0_4, .string a0_5, .string a0_6, .string a0_7, .string a0_8, .string a0_9, .string a0_10, .string a0_11, .string a0_12, .string a0_13, .string a0_14]) (t := 27) ?hr ?_; (case hd => rfl); (case hg => rfl); (case hr => first | (go_simp; done) | (go_simp; rfl)); intro gb460 hg w3 hbox hb; have n0_ := Aside0.mk (below_step (by repeat (first | (with_reducible first | exact HB.out | apply below_alloc | apply pw_below_drewN | apply below_drew1) | exact HB.out)) hb); have n1_ := Aside0.mk (hbox); have n2_ := Aside0.mk ((by rw [hg]; exact (below_size (by repeat (first | (with_reducible first | exact HB.out | apply below_alloc | apply pw_below_drewN | apply below_drew1) | exact HB.out))) : w.heap.size ≤ gb460)); have n3_ := Aside0.mk ((by rw [hg]; exact (below_size (by repeat (first | (with_reducible first | exact HB.out | apply below_alloc | apply pw_below_drewN | apply below_drew1) | exact HB.out))) : w.heap.size ≤ gb460)); clear HB; have HB := n0_; have BK460 := n1_; have GW460 := n2_; have GE460 := n3_; clear n0_ n1_ n2_ n3_; clear hb hbox hg))
 (try simp only [Act.put, List.setIfInBounds_toArray, List.set_cons_zero, List.set_cons_succ])
 go_cut [21] (fun v21 wc => ∃ (kq : Nat) (x21_1 : Bool), v21 = .bool x21_1 ∧ Aside0 (lamplighterref09_Check.j0 kq x21_1 a0_0 a0_1 a0_2 a0_3 a0_4 a0_5 a0_6 a0_7 a0_8 a0_9 a0_10 a0_11 a0_12 a0_13 a0_14 = some r) ∧ Aside0 (kq ≤ k) ∧ Aside0 (wc.heap[gb460]? = some (.cells #[.int .u8 a0_0, .int .u8 a0_1, .int .u8 a0_2, .int .u8 a0_3, .int .u8 a0_4, .string a0_5, .string a0_6, .string a0_7, .string a0_8, .string a0_9, .string a0_10, .string a0_11, .string a0_12, .string a0_13, .string a0_14] 27 (0, 0))) ∧ Aside0 (Below w.heap.size w wc))
 case first =>
  have H := HC2.out
  clear HC2
  by_cases c4 : a0_11.toList = ([] : List UInt8)
  ·rw [if_pos c4] at H
   have c4b0 : (a0_11.toList == ([] : List UInt8)) = true := beq_iff_eq.mpr c4
   have c4b1 : (a0_11.toList != ([] : List UInt8)) = false := bne_eq_false_iff_eq.mpr c4
   clear c4
   (first | rw [c4b0] | (simp only [i64_w, i32_w]; rw [c4b0]) | skip)
   have H' := Aside0.mk H
   clear H
   have hcz5_0 : w3.cell? ⟨gb460, 0, none⟩ = some (.int .u8 a0_0) := (blk_cell BK460.out 0).trans rfl
   have hcz5_1 : w3.cell? ⟨gb460, 1, none⟩ = some (.int .u8 a0_1) := (blk_cell BK460.out 1).trans rfl
   have hcz5_2 : w3.cell? ⟨gb460, 2, none⟩ = some (.int .u8 a0_2) := (blk_cell BK460.out 2).trans rfl
   have hcz5_3 : w3.cell? ⟨gb460, 3, none⟩ = some (.int .u8 a0_3) := (blk_cell BK460.out 3).trans rfl
   have hcz5_4 : w3.cell? ⟨gb460, 4, none⟩ = some (.int .u8 a0_4) := (blk_cell BK460.out 4).trans rfl
   have hcz5_5 : w3.cell? ⟨gb460, 5, none⟩ = some (.string a0_5) := (blk_cell BK460.out 5).trans rfl
   have hcz5_6 : w3.cell? ⟨gb460, 6, none⟩ = some (.string a0_6) := (blk_cell BK460.out 6).trans rfl
   have hcz5_7 : w3.cell? ⟨gb460, 7, none⟩ = some (.string a0_7) := (blk_cell BK460.out 7).trans rfl
   have hcz5_8 : w3.cell? ⟨gb460, 8, none⟩ = some (.string a0_8) := (blk_cell BK460.out 8).trans rfl
   have hcz5_9 : w3.cell? ⟨gb460, 9, none⟩ = some (.string a0_9) := (blk_cell BK460.out 9).trans rfl
   have hcz5_10 : w3.cell? ⟨gb460, 10, none⟩ = some (.string a0_10) := (blk_cell BK460.out 10).trans rfl
   have hcz5_11 : w3.cell? ⟨gb460, 11, none⟩ = some (.string a0_11) := (blk_cell BK460.out 11).trans rfl
   have hcz5_12 : w3.cell? ⟨gb460, 12, none⟩ = some (.string a0_12) := (blk_cell BK460.out 12).trans rfl
   have hcz5_13 : w3.cell? ⟨gb460, 13, none⟩ = some (.string a0_13) := (blk_cell BK460.out 13).trans rfl
   have hcz5_14 : w3.cell? ⟨gb460, 14, none⟩ = some (.string a0_14) := (blk_cell BK460.out 14).trans rfl
   have hfz5_0 := blk_frozen BK460.out 0
   have hfz5_1 := blk_frozen BK460.out 1
   have hfz5_2 := blk_frozen BK460.out 2
   have hfz5_3 := blk_frozen BK460.out 3
   have hfz5_4 := blk_frozen BK460.out 4
   have hfz5_5 := blk_frozen BK460.out 5
   have hfz5_6 := blk_frozen BK460.out 6
   have hfz5_7 := blk_frozen BK460.out 7
   have hfz5_8 := blk_frozen BK460.out 8
   have hfz5_9 := blk_frozen BK460.out 9
   have hfz5_10 := blk_frozen BK460.out 10
   have hfz5_11 := blk_frozen BK460.out 11
   have hfz5_12 := blk_frozen BK460.out 12
   have hfz5_13 := blk_frozen BK460.out 13
   have hfz5_14 := blk_frozen BK460.out 14
   go_wp2
   go_meet
   case rel => exact ⟨_, (true), (by first | rfl | (simp; done) | (simp [*]; done)), H', ⟨by first | omega | exact Nat.le_refl _⟩, ⟨by (with_reducible repeat (first | refine blk_drewN ?_ _ | refine blk_drew ?_ | refine blk_alloc ?_ _)); exact BK460.out⟩, ⟨by repeat (first | (with_reducible first | exact HB.out | apply below_alloc | apply pw_below_drewN | apply below_drew1 | refine below_set ?_ GE460.out) | exact HB.out)⟩⟩
  ·rw [if_neg c4] at H
   have c4b0 : (a0_11.toList == ([] : List UInt8)) = false := beq_eq_false_iff_ne.mpr c4
   have c4b1 : (a0_11.toList != ([] : List UInt8)) = true := bne_iff_ne.mpr c4
   (first | rw [c4b0] | (simp only [i64_w, i32_w]; rw [c4b0]) | skip)
   by_cases c6 : a0_12.toList = ([] : List UInt8)
   ·rw [if_pos c6] at H
    have c6b0 : (a0_12.toList == ([] : List UInt8)) = true := beq_iff_eq.mpr c6
    have c6b1 : (a0_12.toList != ([] : List UInt8)) = false := bne_eq_false_iff_eq.mpr c6
    clear c6
    have H' := Aside0.mk H
    clear H
    have hcz7_0 : w3.cell? ⟨gb460, 0, none⟩ = some (.int .u8 a0_0) := (blk_cell BK460.out 0).trans rfl
    have hcz7_1 : w3.cell? ⟨gb460, 1, none⟩ = some (.int .u8 a0_1) := (blk_cell BK460.out 1).trans rfl
    have hcz7_2 : w3.cell? ⟨gb460, 2, none⟩ = some (.int .u8 a0_2) := (blk_cell BK460.out 2).trans rfl
    have hcz7_3 : w3.cell? ⟨gb460, 3, none⟩ = some (.int .u8 a0_3) := (blk_cell BK460.out 3).trans rfl
    have hcz7_4 : w3.cell? ⟨gb460, 4, none⟩ = some (.int .u8 a0_4) := (blk_cell BK460.out 4).trans rfl
    have hcz7_5 : w3.cell? ⟨gb460, 5, none⟩ = some (.string a0_5) := (blk_cell BK460.out 5).trans rfl
    have hcz7_6 : w3.cell? ⟨gb460, 6, none⟩ = some (.string a0_6) := (blk_cell BK460.out 6).trans rfl
    have hcz7_7 : w3.cell? ⟨gb460, 7, none⟩ = some (.string a0_7) := (blk_cell BK460.out 7).trans rfl
    have hcz7_8 : w3.cell? ⟨gb460, 8, none⟩ = some (.string a0_8) := (blk_cell BK460.out 8).trans rfl
    have hcz7_9 : w3.cell? ⟨gb460, 9, none⟩ = some (.string a0_9) := (blk_cell BK460.out 9).trans rfl
    have hcz7_10 : w3.cell? ⟨gb460, 10, none⟩ = some (.string a0_10) := (blk_cell BK460.out 10).trans rfl
    have hcz7_11 : w3.cell? ⟨gb460, 11, none⟩ = some (.string a0_11) := (blk_cell BK460.out 11).trans rfl
    have hcz7_12 : w3.cell? ⟨gb460, 12, none⟩ = some (.string a0_12) := (blk_cell BK460.out 12).trans rfl
    have hcz7_13 : w3.cell? ⟨gb460, 13, none⟩ = some (.string a0_13) := (blk_cell BK460.out 13).trans rfl
    have hcz7_14 : w3.cell? ⟨gb460, 14, none⟩ = some (.string a0_14) := (blk_cell BK460.out 14).trans rfl
    have hfz7_0 := blk_frozen BK460.out 0
    have hfz7_1 := blk_frozen BK460.out 1
    have hfz7_2 := blk_frozen BK460.out 2
    have hfz7_3 := blk_frozen BK460.out 3
    have hfz7_4 := blk_frozen BK460.out 4
    have hfz7_5 := blk_frozen BK460.out 5
    have hfz7_6 := blk_frozen BK460.out 6
    have hfz7_7 := blk_frozen BK460.out 7
    have hfz7_8 := blk_frozen BK460.out 8
    have hfz7_9 := blk_frozen BK460.out 9
    have hfz7_10 := blk_frozen BK460.out 10
    have hfz7_11 := blk_frozen BK460.out 11
    have hfz7_12 := blk_frozen BK460.out 12
    have hfz7_13 := blk_frozen BK460.out 13
    have hfz7_14 := blk_frozen BK460.out 14
    go_wp2
    go_meet
    case rel => exact ⟨_, (true), (by first | rfl | (simp; done) | (simp [*]; done)), H', ⟨by first | omega | exact Nat.le_refl _⟩, ⟨by (with_reducible repeat (first | refine blk_drewN ?_ _ | refine blk_drew ?_ | refine blk_alloc ?_ _)); exact BK460.out⟩, ⟨by repeat (first | (with_reducible first | exact HB.out | apply below_alloc | apply pw_below_drewN | apply below_drew1 | refine below_set ?_ GE460.out) | exact HB.out)⟩⟩
   ·rw [if_neg c6] at H
    have c6b0 : (a0_12.toList == ([] : List UInt8)) = false := beq_eq_false_iff_ne.mpr c6
    have c6b1 : (a0_12.toList != ([] : List UInt8)) = true := bne_iff_ne.mpr c6
    have H' := Aside0.mk H
    clear H
    have hcz8_0 : w3.cell? ⟨gb460, 0, none⟩ = some (.int .u8 a0_0) := (blk_cell BK460.out 0).trans rfl
    have hcz8_1 : w3.cell? ⟨gb460, 1, none⟩ = some (.int .u8 a0_1) := (blk_cell BK460.out 1).trans rfl
    have hcz8_2 : w3.cell? ⟨gb460, 2, none⟩ = some (.int .u8 a0_2) := (blk_cell BK460.out 2).trans rfl
    have hcz8_3 : w3.cell? ⟨gb460, 3, none⟩ = some (.int .u8 a0_3) := (blk_cell BK460.out 3).trans rfl
    have hcz8_4 : w3.cell? ⟨gb460, 4, none⟩ = some (.int .u8 a0_4) := (blk_cell BK460.out 4).trans rfl
    have hcz8_5 : w3.cell? ⟨gb460, 5, none⟩ = some (.string a0_5) := (blk_cell BK460.out 5).trans rfl
    have hcz8_6 : w3.cell? ⟨gb460, 6, none⟩ = some (.string a0_6) := (blk_cell BK460.out 6).trans rfl
    have hcz8_7 : w3.cell? ⟨gb460, 7, none⟩ = some (.string a0_7) := (blk_cell BK460.out 7).trans rfl
    have hcz8_8 : w3.cell? ⟨gb460, 8, none⟩ = some (.string a0_8) := (blk_cell BK460.out 8).trans rfl
    have hcz8_9 : w3.cell? ⟨gb460, 9, none⟩ = some (.string a0_9) := (blk_cell BK460.out 9).trans rfl
    have hcz8_10 : w3.cell? ⟨gb460, 10, none⟩ = some (.string a0_10) := (blk_cell BK460.out 10).trans rfl
    have hcz8_11 : w3.cell? ⟨gb460, 11, none⟩ = some (.string a0_11) := (blk_cell BK460.out 11).trans rfl
    have hcz8_12 : w3.cell? ⟨gb460, 12, none⟩ = some (.string a0_12) := (blk_cell BK460.out 12).trans rfl
    have hcz8_13 : w3.cell? ⟨gb460, 13, none⟩ = some (.string a0_13) := (blk_cell BK460.out 13).trans rfl
    have hcz8_14 : w3.cell? ⟨gb460, 14, none⟩ = some (.string a0_14) := (blk_cell BK460.out 14).trans rfl
    have hfz8_0 := blk_frozen BK460.out 0
    have hfz8_1 := blk_frozen BK460.out 1
    have hfz8_2 := blk_frozen BK460.out 2
    have hfz8_3 := blk_frozen BK460.out 3
    have hfz8_4 := blk_frozen BK460.out 4
    have hfz8_5 := blk_frozen BK460.out 5
    have hfz8_6 := blk_frozen BK460.out 6
    have hfz8_7 := blk_frozen BK460.out 7
    have hfz8_8 := blk_frozen BK460.out 8
    have hfz8_9 := blk_frozen BK460.out 9
    have hfz8_10 := blk_frozen BK460.out 10
    have hfz8_11 := blk_frozen BK460.out 11
    have hfz8_12 := blk_frozen BK460.out 12
    have hfz8_13 := blk_frozen BK460.out 13
    have hfz8_14 := blk_frozen BK460.out 14
    go_wp2
    go_meet
    case rel => exact ⟨_, (decide ((a0_12.size : Int) > 50)), (by first | rfl | (simp; done) | (simp [*]; done)), H', ⟨by first | omega | exact Nat.le_refl _⟩, ⟨by (with_reducible repeat (first | refine blk_drewN ?_ _ | refine blk_drew ?_ | refine blk_alloc ?_ _)); exact BK460.out⟩, ⟨by repeat (first | (with_reducible first | exact HB.out | apply below_alloc | apply pw_below_drewN | apply below_drew1 | refine below_set ?_ GE460.out) | exact HB.out)⟩⟩
 case rest =>
  clear HC2
  try clear c1
  try clear p2
  try clear c4
  try clear c4b0
  try clear c4b1
  try clear c6
  try clear c6b0
  try clear c6b1
  try clear hcz5_0
  try clear hcz5_1
  try clear hcz5_10
  try clear hcz5_11
  try clear hcz5_12
  try clear hcz5_13
  try clear hcz5_14
  try clear hcz5_2
  try clear hcz5_3
  try clear hcz5_4
  try clear hcz5_5
  try clear hcz5_6
  try clear hcz5_7
  try clear hcz5_8
  try clear hcz5_9
  try clear hcz7_0
  try clear hcz7_1
  try clear hcz7_10
  try clear hcz7_11
  try clear hcz7_12
  try clear hcz7_13
  try clear hcz7_14
  try clear hcz7_2
  try clear hcz7_3
  try clear hcz7_4
  try clear hcz7_5
  try clear hcz7_6
  try clear hcz7_7
  try clear hcz7_8
  try clear hcz7_9
  try clear hcz8_0
  try clear hcz8_1
  try clear hcz8_10
  try clear hcz8_11
  try clear hcz8_12
  try clear hcz8_13
  try clear hcz8_14
  try clear hcz8_2
  try clear hcz8_3
  try clear hcz8_4
  try clear hcz8_5
  try clear hcz8_6
  try clear hcz8_7
  try clear hcz8_8
  try clear hcz8_9
  try clear hfz5_0
  try clear hfz5_1
  try clear hfz5_10
  try clear hfz5_11
  try clear hfz5_12
  try clear hfz5_13
  try clear hfz5_14
  try clear hfz5_2
  try clear hfz5_3
  try clear hfz5_4
  try clear hfz5_5
  try clear hfz5_6
  try clear hfz5_7
  try clear hfz5_8
  try clear hfz5_9
  try clear hfz7_0
  try clear hfz7_1
  try clear hfz7_10
  try clear hfz7_11
  try clear hfz7_12
  try clear hfz7_13
  try clear hfz7_14
  try clear hfz7_2
  try clear hfz7_3
  try clear hfz7_4
  try clear hfz7_5
  try clear hfz7_6
  try clear hfz7_7
  try clear hfz7_8
  try clear hfz7_9
  try clear hfz8_0
  try clear hfz8_1
  try clear hfz8_10
  try clear hfz8_11
  try clear hfz8_12
  try clear hfz8_13
  try clear hfz8_14
  try clear hfz8_2
  try clear hfz8_3
  try clear hfz8_4
  try clear hfz8_5
  try clear hfz8_6
  try clear hfz8_7
  try clear hfz8_8
  try clear hfz8_9
  obtain ⟨kq, x21_1, rfl, HA, HJ1, BK460, HB⟩ := hcut
  cases kq with
  | zero => exact absurd HA.out (by simp [lamplighterref09_Check.j0])
  | succ kj1 =>
   have H := HA.out
   clear HA
   simp only [lamplighterref09_Check.j0] at H
   by_cases c9 : x21_1 = true
   ·subst c9
    have H1 : (some 14) = some r := by rw [if_pos rfl] at H; exact H
    clear H
    have H := H1
    clear H1
    obtain rfl := Option.some.inj H
    go_wp2
    go_ret
    exact ⟨by first | rfl | (simp [errW_none, errW_some] <;> rfl) | (simp [*, errW_none, errW_some] <;> rfl), by repeat (first | (with_reducible first | exact HB.out | apply below_alloc | apply pw_below_drewN | apply below_drew1 | refine below_set ?_ GE460.out) | exact HB.out)⟩
   ·replace c9 := Bool.eq_false_iff.mpr c9
    subst c9
    have H1 : ((lamplighterref09_first.f kj1 a0_14 a0_0 a0_1 a0_2 a0_3 a0_4).bind fun t461 => ((lamplighterref09_Versions.f).bind fun t462 => (lamplighterref09_Check.l0 kj1 t461 false t462 0 a0_0 a0_1 a0_2 a0_3 a0_4 a0_5 a0_6 a0_7 a0_8 a0_9 a0_10 a0_11 a0_12 a0_13 a0_14))) = some r := by rw [if_neg (show ¬ (false = true) by decide)] at H; exact H
    clear H
    have H := H1
    clear H1
    replace H := Option.bind_eq_some_iff.mp H
    obtain ⟨t461, A100, H⟩ := H
    replace H : ((lamplighterref09_Versions.f).bind fun t462 => (lamplighterref09_Check.l0 kj1 t461 false t462 0 a0_0 a0_1 a0_2 a0_3 a0_4 a0_5 a0_6 a0_7 a0_8 a0_9 a0_10 a0_11 a0_12 a0_13 a0_14)) = some r := H
    have A10 := Aside0.mk A100
    clear A100
    replace H := Option.bind_eq_some_iff.mp H
    obtain ⟨t462, A110, H⟩ := H
    replace H : (lamplighterref09_Check.l0 kj1 t461 false t462 0 a0_0 a0_1 a0_2 a0_3 a0_4 a0_5 a0_6 a0_7 a0_8 a0_9 a0_10 a0_11 a0_12 a0_13 a0_14) = some r := H
    have A11 := Aside0.mk A110
    clear A110
    have H' := Aside0.mk H
    clear H
    have hcz12_0 : wc.cell? ⟨gb460, 0, none⟩ = some (.int .u8 a0_0) := (blk_cell BK460.out 0).trans rfl
    have hcz12_1 : wc.cell? ⟨gb460, 1, none⟩ = some (.int .u8 a0_1) := (blk_cell BK460.out 1).trans rfl
    have hcz12_2 : wc.cell? ⟨gb460, 2, none⟩ = some (.int .u8 a0_2) := (blk_cell BK460.out 2).trans rfl
    have hcz12_3 : wc.cell? ⟨gb460, 3, none⟩ = some (.int .u8 a0_3) := (blk_cell BK460.out 3).trans rfl
    have hcz12_4 : wc.cell? ⟨gb460, 4, none⟩ = some (.int .u8 a0_4) := (blk_cell BK460.out 4).trans rfl
    have hcz12_5 : wc.cell? ⟨gb460, 5, none⟩ = some (.string a0_5) := (blk_cell BK460.out 5).trans rfl
    have hcz12_6 : wc.cell? ⟨gb460, 6, none⟩ = some (.string a0_6) := (blk_cell BK460.out 6).trans rfl
    have hcz12_7 : wc.cell? ⟨gb460, 7, none⟩ = some (.string a0_7) := (blk_cell BK460.out 7).trans rfl
    have hcz12_8 : wc.cell? ⟨gb460, 8, none⟩ = some (.string a0_8) := (blk_cell BK460.out 8).trans rfl
    have hcz12_9 : wc.cell? ⟨gb460, 9, none⟩ = some (.string a0_9) := (blk_cell BK460.out 9).trans rfl
    have hcz12_10 : wc.cell? ⟨gb460, 10, none⟩ = some (.string a0_10) := (blk_cell BK460.out 10).trans rfl
    have hcz12_11 : wc.cell? ⟨gb460, 11, none⟩ = some (.string a0_11) := (blk_cell BK460.out 11).trans rfl
    have hcz12_12 : wc.cell? ⟨gb460, 12, none⟩ = some (.string a0_12) := (blk_cell BK460.out 12).trans rfl
    have hcz12_13 : wc.cell? ⟨gb460, 13, none⟩ = some (.string a0_13) := (blk_cell BK460.out 13).trans rfl
    have hcz12_14 : wc.cell? ⟨gb460, 14, none⟩ = some (.string a0_14) := (blk_cell BK460.out 14).trans rfl
    have hfz12_0 := blk_frozen BK460.out 0
    have hfz12_1 := blk_frozen BK460.out 1
    have hfz12_2 := blk_frozen BK460.out 2
    have hfz12_3 := blk_frozen BK460.out 3
    have hfz12_4 := blk_frozen BK460.out 4
    have hfz12_5 := blk_frozen BK460.out 5
    have hfz12_6 := blk_frozen BK460.out 6
    have hfz12_7 := blk_frozen BK460.out 7
    have hfz12_8 := blk_frozen BK460.out 8
    have hfz12_9 := blk_frozen BK460.out 9
    have hfz12_10 := blk_frozen BK460.out 10
    have hfz12_11 := blk_frozen BK460.out 11
    have hfz12_12 := blk_frozen BK460.out 12
    have hfz12_13 := blk_frozen BK460.out 13
    have hfz12_14 := blk_frozen BK460.out 14
    go_wp2_with (first | ((with_reducible refine gate_callee (f := 37) rfl ?_); refine goesL_ (some 26) rfl rfl Tryd.func37 (by kernel_rfl) rfl #[.string a0_14, .agg #[.int .u8 a0_0, .int .u8 a0_1, .int .u8 a0_2, .int .u8 a0_3, .int .u8 a0_4]] rfl (by (try simp only [List.map_toArray, List.map_cons, List.map_nil]); first | done | rfl | (simp only [List.length_drop, List.length_take]; rfl)) ?_; (with_reducible refine (lamplighterref09_first.calls kj1 a0_14 a0_0 a0_1 a0_2 a0_3 a0_4 t461 _ A10.out).mono ?_); rintro e w13 ⟨rfl, hb⟩; refine ⟨_, rfl, ?_⟩; have n0_ := Aside0.mk (blk_below (g := gb460) (o := .cells #[.int .u8 a0_0, .int .u8 a0_1, .int .u8 a0_2, .int .u8 a0_3, .int .u8 a0_4, .string a0_5, .string a0_6, .string a0_7, .string a0_8, .string a0_9, .string a0_10, .string a0_11, .string a0_12, .string a0_13, .string a0_14] 27 (0, 0)) (by (with_reducible repeat (first | refine blk_drewN ?_ _ | refine blk_drew ?_ | refine blk_alloc ?_ _)); exact BK460.out) hb); have n1_ := Aside0.mk (below_step (by repeat (first | (with_reducible first | exact HB.out | apply below_alloc | apply pw_below_drewN | apply below_drew1 | refine below_set ?_ GE460.out) | exact HB.out)) hb); clear BK460; clear HB; have BK460 := n0_; have HB := n1_; clear n0_ n1_; (try clear hb); (try clear hb2); (try clear hk); (try clear hi)) | ((with_reducible refine gate_callee (f := 18) rfl ?_); refine goesL_ (some 27) rfl rfl Tryd.func18 (by kernel_rfl) rfl #[] rfl (by (try simp only [List.map_toArray, List.map_cons, List.map_nil]); first | done | rfl | (simp only [List.length_drop, List.length_take]; rfl)) ?_; (with_reducible refine (lamplighterref09_Versions.calls  t462 _ A11.out).mono ?_); rintro e w14 ⟨v463, rfl, ho0, hb⟩; refine ⟨_, rfl, ?_⟩; have n0_ := Aside0.mk (Kd.R_lower ho0 (below_size (by repeat (first | (with_reducible first | exact HB.out | apply below_alloc | apply pw_below_drewN | apply below_drew1 | refine below_set ?_ GE460.out) | exact HB.out)))); have n1_ := Aside0.mk (blk_below (g := gb460) (o := .cells #[.int .u8 a0_0, .int .u8 a0_1, .int .u8 a0_2, .int .u8 a0_3, .int .u8 a0_4, .string a0_5, .string a0_6, .string a0_7, .string a0_8, .string a0_9, .string a0_10, .string a0_11, .string a0_12, .string a0_13, .string a0_14] 27 (0, 0)) (by (with_reducible repeat (first | refine blk_drewN ?_ _ | refine blk_drew ?_ | refine blk_alloc ?_ _)); exact BK460.out) hb); have n2_ := Aside0.mk (below_step (by repeat (first | (with_reducible first | exact HB.out | apply below_alloc | apply pw_below_drewN | apply below_drew1 | refine below_set ?_ GE460.out) | exact HB.out)) hb); clear BK460; clear HB; have HO464 := n0_; have BK460 := n1_; have HB := n2_; clear n0_ n1_ n2_; (try clear hb); (try clear hb2); (try clear hk); (try clear hi); (try clear ho0)))
    go_loopg [4, 6] kj1 (fun kq v4 v6 w' => ∃ (x4_2 : Bool) (x6_2 : Int), v4 = .bool x4_2 ∧ v6 = .int .i64 x6_2 ∧ Aside0 (lamplighterref09_Check.l0 kq t461 x4_2 t462 x6_2 a0_0 a0_1 a0_2 a0_3 a0_4 a0_5 a0_6 a0_7 a0_8 a0_9 a0_10 a0_11 a0_12 a0_13 a0_14 = some r) ∧ Aside0 (kq ≤ kj1) ∧ Aside0 (Kd.R Kd.string 9 w' w.heap.size (fun _ => True) v463 t462) ∧ Aside0 (w'.heap[gb460]? = some (.cells #[.int .u8 a0_0, .int .u8 a0_1, .int .u8 a0_2, .int .u8 a0_3, .int .u8 a0_4, .string a0_5, .string a0_6, .string a0_7, .string a0_8, .string a0_9, .string a0_10, .string a0_11, .string a0_12, .string a0_13, .string a0_14] 27 (0, 0))) ∧ Aside0 (Below w.heap.size w w'))
    case atStart => exact ⟨(false), (0), (by first | rfl | (simp; done) | (simp [*]; done)), (by first | rfl | (simp; done) | (simp [*]; done)), H', ⟨Nat.le_refl _⟩, ⟨by (with_reducible repeat (first | apply Kd.R_alloc | apply Kd.R_drewN | apply Kd.R_drew)); exact HO464.out⟩, ⟨by (with_reducible repeat (first | refine blk_drewN ?_ _ | refine blk_drew ?_ | refine blk_alloc ?_ _)); exact BK460.out⟩, ⟨by repeat (first | (with_reducible first | exact HB.out | apply below_alloc | apply pw_below_drewN | apply below_drew1 | refine below_set ?_ GE460.out) | exact HB.out)⟩⟩
    case round =>
     clear H'
     try clear c1
     try clear p2
     try clear c3
     try clear c4
     try clear c4b0
     try clear c4b1
     try clear c6
     try clear c6b0
     try clear c6b1
     try clear c9
     try clear hcz12_0
     try clear hcz12_1
     try clear hcz12_10
     try clear hcz12_11
     try clear hcz12_12
     try clear hcz12_13
     try clear hcz12_14
     try clear hcz12_2
     try clear hcz12_3
     try clear hcz12_4
     try clear hcz12_5
     try clear hcz12_6
     try clear hcz12_7
     try clear hcz12_8
     try clear hcz12_9
     try clear hcz5_0
     try clear hcz5_1
     try clear hcz5_10
     try clear hcz5_11
     try clear hcz5_12
     try clear hcz5_13
     try clear hcz5_14
     try clear hcz5_2
     try clear hcz5_3
     try clear hcz5_4
     try clear hcz5_5
     try clear hcz5_6
     try clear hcz5_7
     try clear hcz5_8
     try clear hcz5_9
     try clear hcz7_0
     try clear hcz7_1
     try clear hcz7_10
     try clear hcz7_11
     try clear hcz7_12
     try clear hcz7_13
     try clear hcz7_14
     try clear hcz7_2
     try clear hcz7_3
     try clear hcz7_4
     try clear hcz7_5
     try clear hcz7_6
     try clear hcz7_7
     try clear hcz7_8
     try clear hcz7_9
     try clear hcz8_0
     try clear hcz8_1
     try clear hcz8_10
     try clear hcz8_11
     try clear hcz8_12
     try clear hcz8_13
     try clear hcz8_14
     try clear hcz8_2
     try clear hcz8_3
     try clear hcz8_4
     try clear hcz8_5
     try clear hcz8_6
     try clear hcz8_7
     try clear hcz8_8
     try clear hcz8_9
     try clear hfz12_0
     try clear hfz12_1
     try clear hfz12_10
     try clear hfz12_11
     try clear hfz12_12
     try clear hfz12_13
     try clear hfz12_14
     try clear hfz12_2
     try clear hfz12_3
     try clear hfz12_4
     try clear hfz12_5
     try clear hfz12_6
     try clear hfz12_7
     try clear hfz12_8
     try clear hfz12_9
     try clear hfz5_0
     try clear hfz5_1
     try clear hfz5_10
     try clear hfz5_11
     try clear hfz5_12
     try clear hfz5_13
     try clear hfz5_14
     try clear hfz5_2
     try clear hfz5_3
     try clear hfz5_4
     try clear hfz5_5
     try clear hfz5_6
     try clear hfz5_7
     try clear hfz5_8
     try clear hfz5_9
     try clear hfz7_0
     try clear hfz7_1
     try clear hfz7_10
     try clear hfz7_11
     try clear hfz7_12
     try clear hfz7_13
     try clear hfz7_14
     try clear hfz7_2
     try clear hfz7_3
     try clear hfz7_4
     try clear hfz7_5
     try clear hfz7_6
     try clear hfz7_7
     try clear hfz7_8
     try clear hfz7_9
     try clear hfz8_0
     try clear hfz8_1
     try clear hfz8_10
     try clear hfz8_11
     try clear hfz8_12
     try clear hfz8_13
     try clear hfz8_14
     try clear hfz8_2
     try clear hfz8_3
     try clear hfz8_4
     try clear hfz8_5
     try clear hfz8_6
     try clear hfz8_7
     try clear hfz8_8
     try clear hfz8_9
     try clear p2
     obtain ⟨x4_2, x6_2, rfl, rfl, HA, HK2, HO_5, BK460, HB⟩ := hrel
     cases gk with
     | zero => exact absurd HA.out (by simp [lamplighterref09_Check.l0])
     | succ k2 =>
      have H := HA.out
      clear HA
      simp only [lamplighterref09_Check.l0] at H
      by_cases c15 : x6_2 < (t462.length : Int)
      ·rw [if_pos c15] at H
       have c15b0 : decide (x6_2 < (t462.length : Int)) = true := decide_eq_true c15
       clear c15
       by_cases c16 : 0 ≤ x6_2
       ·rw [if_pos c16] at H
        have c16b0 : decide (0 ≤ x6_2) = true := decide_eq_true c16
        clear c16
        by_cases c17 : (rdOf ByteArray.empty t462 x6_2).toList = t461.toList
        ·rw [if_pos c17] at H
         have c17b0 : ((rdOf ByteArray.empty t462 x6_2).toList == t461.toList) = true := beq_iff_eq.mpr c17
         have c17b1 : ((rdOf ByteArray.empty t462 x6_2).toList != t461.toList) = false := bne_eq_false_iff_eq.mpr c17
         clear c17
         have H' := Aside0.mk H
         clear H
         obtain ⟨Ao18, co18, eo18⟩ := Kd.R_slice HO_5.out
         subst eo18
         have p465 : 0 ≤ (x6_2 : Int) := of_decide_eq_true (by first | (with_reducible assumption) | assumption)
         have q465 : x6_2 < (t462.length : Int) := of_decide_eq_true (by first | (with_reducible assumption) | assumption)
         obtain ⟨ad465, e465, hx465_0⟩ := Kd.at_string (Kd.R_reads' HO_5.out).2.2 x6_2 p465 q465
         cases e465
         replace p465 := eq_true p465
         replace q465 := eq_true q465
         go_wp2
         go_roundg k2
         case measure => have := HJ1.out; have := HK2.out; omega
         case rel => exact ⟨(true), (wrap64 (x6_2 + 1)), (by first | rfl | (simp; done) | (simp [*]; done)), (by first | rfl | (simp; done) | (simp [*]; done)), H', ⟨by have := HJ1.out; have := HK2.out; omega⟩, ⟨by (with_reducible repeat (first | apply Kd.R_alloc | apply Kd.R_drewN | apply Kd.R_drew)); exact HO_5.out⟩, ⟨by (with_reducible repeat (first | refine blk_drewN ?_ _ | refine blk_drew ?_ | refine blk_alloc ?_ _)); exact BK460.out⟩, ⟨by repeat (first | (with_reducible first | exact HB.out | apply below_alloc | apply pw_below_drewN | apply below_drew1 | refine below_set ?_ GE460.out) | exact HB.out)⟩⟩
        ·rw [if_neg c17] at H
         have c17b0 : ((rdOf ByteArray.empty t462 x6_2).toList == t461.toList) = false := beq_eq_false_iff_ne.mpr c17
         have c17b1 : ((rdOf ByteArray.empty t462 x6_2).toList != t461.toList) = true := bne_iff_ne.mpr c17
         have H' := Aside0.mk H
         clear H
         obtain ⟨Ao19, co19, eo19⟩ := Kd.R_slice HO_5.out
         subst eo19
         have p465 : 0 ≤ (x6_2 : Int) := of_decide_eq_true (by first | (with_reducible assumption) | assumption)
         have q465 : x6_2 < (t462.length : Int) := of_decide_eq_true (by first | (with_reducible assumption) | assumption)
         obtain ⟨ad465, e465, hx465_0⟩ := Kd.at_string (Kd.R_reads' HO_5.out).2.2 x6_2 p465 q465
         cases e465
         replace p465 := eq_true p465
         replace q465 := eq_true q465
         go_wp2
         go_roundg k2
         case measure => have := HJ1.out; have := HK2.out; omega
         case rel => exact ⟨(x4_2), (wrap64 (x6_2 + 1)), (by first | rfl | (simp; done) | (simp [*]; done)), (by first | rfl | (simp; done) | (simp [*]; done)), H', ⟨by have := HJ1.out; have := HK2.out; omega⟩, ⟨by (with_reducible repeat (first | apply Kd.R_alloc | apply Kd.R_drewN | apply Kd.R_drew)); exact HO_5.out⟩, ⟨by (with_reducible repeat (first | refine blk_drewN ?_ _ | refine blk_drew ?_ | refine blk_alloc ?_ _)); exact BK460.out⟩, ⟨by repeat (first | (with_reducible first | exact HB.out | apply below_alloc | apply pw_below_drewN | apply below_drew1 | refine below_set ?_ GE460.out) | exact HB.out)⟩⟩
       ·rw [if_neg c16] at H
        exact absurd H (by simp)
      ·rw [if_neg c15] at H
       have c15b0 : decide (x6_2 < (t462.length : Int)) = false := decide_eq_false c15
       clear c15
       by_cases c20 : x4_2 = true
       ·subst c20
        have H1 : ((lamplighterref09_first.f k2 a0_13 a0_0 a0_1 a0_2 a0_3 a0_4).bind fun t466 => (if t466.toList = ([80] : List UInt8) then (some 0) else (if t466.toList = ([68] : List UInt8) then (some 0) else (if t466.toList = ([84] : List UInt8) then (some 0) else (some 13))))) = some r := by rw [if_pos rfl] at H; exact H
        clear H
        have H := H1
        clear H1
        replace H := Option.bind_eq_some_iff.mp H
        obtain ⟨t466, A210, H⟩ := H
        replace H : (if t466.toList = ([80] : List UInt8) then (some 0) else (if t466.toList = ([68] : List UInt8) then (some 0) else (if t466.toList = ([84] : List UInt8) then (some 0) else (some 13)))) = some r := H
        have A21 := Aside0.mk A210
        clear A210
        by_cases c22 : t466.toList = ([80] : List UInt8)
        ·rw [if_pos c22] at H
         have c22b0 : (t466.toList == ([80] : List UInt8)) = true := beq_iff_eq.mpr c22
         have c22b1 : (t466.toList != ([80] : List UInt8)) = false := bne_eq_false_iff_eq.mpr c22
         clear c22
         obtain rfl := Option.some.inj H
         obtain ⟨Ao23, co23, eo23⟩ := Kd.R_slice HO_5.out
         subst eo23
         have hcz24_0 : wr.cell? ⟨gb460, 0, none⟩ = some (.int .u8 a0_0) := (blk_cell BK460.out 0).trans rfl
         have hcz24_1 : wr.cell? ⟨gb460, 1, none⟩ = some (.int .u8 a0_1) := (blk_cell BK460.out 1).trans rfl
         have hcz24_2 : wr.cell? ⟨gb460, 2, none⟩ = some (.int .u8 a0_2) := (blk_cell BK460.out 2).trans rfl
         have hcz24_3 : wr.cell? ⟨gb460, 3, none⟩ = some (.int .u8 a0_3) := (blk_cell BK460.out 3).trans rfl
         have hcz24_4 : wr.cell? ⟨gb460, 4, none⟩ = some (.int .u8 a0_4) := (blk_cell BK460.out 4).trans rfl
         have hcz24_5 : wr.cell? ⟨gb460, 5, none⟩ = some (.string a0_5) := (blk_cell BK460.out 5).trans rfl
         have hcz24_6 : wr.cell? ⟨gb460, 6, none⟩ = some (.string a0_6) := (blk_cell BK460.out 6).trans rfl
         have hcz24_7 : wr.cell? ⟨gb460, 7, none⟩ = some (.string a0_7) := (blk_cell BK460.out 7).trans rfl
         have hcz24_8 : wr.cell? ⟨gb460, 8, none⟩ = some (.string a0_8) := (blk_cell BK460.out 8).trans rfl
         have hcz24_9 : wr.cell? ⟨gb460, 9, none⟩ = some (.string a0_9) := (blk_cell BK460.out 9).trans rfl
         have hcz24_10 : wr.cell? ⟨gb460, 10, none⟩ = some (.string a0_10) := (blk_cell BK460.out 10).trans rfl
         have hcz24_11 : wr.cell? ⟨gb460, 11, none⟩ = some (.string a0_11) := (blk_cell BK460.out 11).trans rfl
         have hcz24_12 : wr.cell? ⟨gb460, 12, none⟩ = some (.string a0_12) := (blk_cell BK460.out 12).trans rfl
         have hcz24_13 : wr.cell? ⟨gb460, 13, none⟩ = some (.string a0_13) := (blk_cell BK460.out 13).trans rfl
         have hcz24_14 : wr.cell? ⟨gb460, 14, none⟩ = some (.string a0_14) := (blk_cell BK460.out 14).trans rfl
         have hfz24_0 := blk_frozen BK460.out 0
         have hfz24_1 := blk_frozen BK460.out 1
         have hfz24_2 := blk_frozen BK460.out 2
         have hfz24_3 := blk_frozen BK460.out 3
         have hfz24_4 := blk_frozen BK460.out 4
         have hfz24_5 := blk_frozen BK460.out 5
         have hfz24_6 := blk_frozen BK460.out 6
         have hfz24_7 := blk_frozen BK460.out 7
         have hfz24_8 := blk_frozen BK460.out 8
         have hfz24_9 := blk_frozen BK460.out 9
         have hfz24_10 := blk_frozen BK460.out 10
         have hfz24_11 := blk_frozen BK460.out 11
         have hfz24_12 := blk_frozen BK460.out 12
         have hfz24_13 := blk_frozen BK460.out 13
         have hfz24_14 := blk_frozen BK460.out 14
         go_wp2_with (first | ((with_reducible refine gate_callee (f := 37) rfl ?_); refine goesL_ (some 46) rfl rfl Tryd.func37 (by kernel_rfl) rfl #[.string a0_13, .agg #[.int .u8 a0_0, .int .u8 a0_1, .int .u8 a0_2, .int .u8 a0_3, .int .u8 a0_4]] rfl (by (try simp only [List.map_toArray, List.map_cons, List.map_nil]); first | done | rfl | (simp only [List.length_drop, List.length_take]; rfl)) ?_; (with_reducible refine (lamplighterref09_first.calls k2 a0_13 a0_0 a0_1 a0_2 a0_3 a0_4 t466 _ A21.out).mono ?_); rintro e w25 ⟨rfl, hb⟩; refine ⟨_, rfl, ?_⟩; have n0_ := Aside0.mk (Kd.R_below (by (with_reducible repeat (first | apply Kd.R_alloc | apply Kd.R_drewN | apply Kd.R_drew)); exact HO_5.out) hb); have n1_ := Aside0.mk (blk_below (g := gb460) (o := .cells #[.int .u8 a0_0, .int .u8 a0_1, .int .u8 a0_2, .int .u8 a0_3, .int .u8 a0_4, .string a0_5, .string a0_6, .string a0_7, .string a0_8, .string a0_9, .string a0_10, .string a0_11, .string a0_12, .string a0_13, .string a0_14] 27 (0, 0)) (by (with_reducible repeat (first | refine blk_drewN ?_ _ | refine blk_drew ?_ | refine blk_alloc ?_ _)); exact BK460.out) hb); have n2_ := Aside0.mk (below_step (by repeat (first | (with_reducible first | exact HB.out | apply below_alloc | apply pw_below_drewN | apply below_drew1 | refine below_set ?_ GE460.out) | exact HB.out)) hb); clear HO_5; clear BK460; clear HB; have HO_5 := n0_; have BK460 := n1_; have HB := n2_; clear n0_ n1_ n2_; (try clear hb); (try clear hb2); (try clear hk); (try clear hi)))
         go_ret
         exact ⟨by first | rfl | (simp [errW_none, errW_some] <;> rfl) | (simp [*, errW_none, errW_some] <;> rfl), by repeat (first | (with_reducible first | exact HB.out | apply below_alloc | apply pw_below_drewN | apply below_drew1 | refine below_set ?_ GE460.out) | exact HB.out)⟩
        ·rw [if_neg c22] at H
         have c22b0 : (t466.toList == ([80] : List UInt8)) = false := beq_eq_false_iff_ne.mpr c22
         have c22b1 : (t466.toList != ([80] : List UInt8)) = true := bne_iff_ne.mpr c22
         by_cases c26 : t466.toList = ([68] : List UInt8)
         ·rw [if_pos c26] at H
          have c26b0 : (t466.toList == ([68] : List UInt8)) = true := beq_iff_eq.mpr c26
          have c26b1 : (t466.toList != ([68] : List UInt8)) = false := bne_eq_false_iff_eq.mpr c26
          clear c26
          obtain rfl := Option.some.inj H
          obtain ⟨Ao27, co27, eo27⟩ := Kd.R_slice HO_5.out
          subst eo27
          have hcz28_0 : wr.cell? ⟨gb460, 0, none⟩ = some (.int .u8 a0_0) := (blk_cell BK460.out 0).trans rfl
          have hcz28_1 : wr.cell? ⟨gb460, 1, none⟩ = some (.int .u8 a0_1) := (blk_cell BK460.out 1).trans rfl
          have hcz28_2 : wr.cell? ⟨gb460, 2, none⟩ = some (.int .u8 a0_2) := (blk_cell BK460.out 2).trans rfl
          have hcz28_3 : wr.cell? ⟨gb460, 3, none⟩ = some (.int .u8 a0_3) := (blk_cell BK460.out 3).trans rfl
          have hcz28_4 : wr.cell? ⟨gb460, 4, none⟩ = some (.int .u8 a0_4) := (blk_cell BK460.out 4).trans rfl
          have hcz28_5 : wr.cell? ⟨gb460, 5, none⟩ = some (.string a0_5) := (blk_cell BK460.out 5).trans rfl
          have hcz28_6 : wr.cell? ⟨gb460, 6, none⟩ = some (.string a0_6) := (blk_cell BK460.out 6).trans rfl
          have hcz28_7 : wr.cell? ⟨gb460, 7, none⟩ = some (.string a0_7) := (blk_cell BK460.out 7).trans rfl
          have hcz28_8 : wr.cell? ⟨gb460, 8, none⟩ = some (.string a0_8) := (blk_cell BK460.out 8).trans rfl
          have hcz28_9 : wr.cell? ⟨gb460, 9, none⟩ = some (.string a0_9) := (blk_cell BK460.out 9).trans rfl
          have hcz28_10 : wr.cell? ⟨gb460, 10, none⟩ = some (.string a0_10) := (blk_cell BK460.out 10).trans rfl
          have hcz28_11 : wr.cell? ⟨gb460, 11, none⟩ = some (.string a0_11) := (blk_cell BK460.out 11).trans rfl
          have hcz28_12 : wr.cell? ⟨gb460, 12, none⟩ = some (.string a0_12) := (blk_cell BK460.out 12).trans rfl
          have hcz28_13 : wr.cell? ⟨gb460, 13, none⟩ = some (.string a0_13) := (blk_cell BK460.out 13).trans rfl
          have hcz28_14 : wr.cell? ⟨gb460, 14, none⟩ = some (.string a0_14) := (blk_cell BK460.out 14).trans rfl
          have hfz28_0 := blk_frozen BK460.out 0
          have hfz28_1 := blk_frozen BK460.out 1
          have hfz28_2 := blk_frozen BK460.out 2
          have hfz28_3 := blk_frozen BK460.out 3
          have hfz28_4 := blk_frozen BK460.out 4
          have hfz28_5 := blk_frozen BK460.out 5
          have hfz28_6 := blk_frozen BK460.out 6
          have hfz28_7 := blk_frozen BK460.out 7
          have hfz28_8 := blk_frozen BK460.out 8
          have hfz28_9 := blk_frozen BK460.out 9
          have hfz28_10 := blk_frozen BK460.out 10
          have hfz28_11 := blk_frozen BK460.out 11
          have hfz28_12 := blk_frozen BK460.out 12
          have hfz28_13 := blk_frozen BK460.out 13
          have hfz28_14 := blk_frozen BK460.out 14
          go_wp2_with (first | ((with_reducible refine gate_callee (f := 37) rfl ?_); refine goesL_ (some 46) rfl rfl Tryd.func37 (by kernel_rfl) rfl #[.string a0_13, .agg #[.int .u8 a0_0, .int .u8 a0_1, .int .u8 a0_2, .int .u8 a0_3, .int .u8 a0_4]] rfl (by (try simp only [List.map_toArray, List.map_cons, List.map_nil]); first | done | rfl | (simp only [List.length_drop, List.length_take]; rfl)) ?_; (with_reducible refine (lamplighterref09_first.calls k2 a0_13 a0_0 a0_1 a0_2 a0_3 a0_4 t466 _ A21.out).mono ?_); rintro e w29 ⟨rfl, hb⟩; refine ⟨_, rfl, ?_⟩; have n0_ := Aside0.mk (Kd.R_below (by (with_reducible repeat (first | apply Kd.R_alloc | apply Kd.R_drewN | apply Kd.R_drew)); exact HO_5.out) hb); have n1_ := Aside0.mk (blk_below (g := gb460) (o := .cells #[.int .u8 a0_0, .int .u8 a0_1, .int .u8 a0_2, .int .u8 a0_3, .int .u8 a0_4, .string a0_5, .string a0_6, .string a0_7, .string a0_8, .string a0_9, .string a0_10, .string a0_11, .string a0_12, .string a0_13, .string a0_14] 27 (0, 0)) (by (with_reducible repeat (first | refine blk_drewN ?_ _ | refine blk_drew ?_ | refine blk_alloc ?_ _)); exact BK460.out) hb); have n2_ := Aside0.mk (below_step (by repeat (first | (with_reducible first | exact HB.out | apply below_alloc | apply pw_below_drewN | apply below_drew1 | refine below_set ?_ GE460.out) | exact HB.out)) hb); clear HO_5; clear BK460; clear HB; have HO_5 := n0_; have BK460 := n1_; have HB := n2_; clear n0_ n1_ n2_; (try clear hb); (try clear hb2); (try clear hk); (try clear hi)))
          go_ret
          exact ⟨by first | rfl | (simp [errW_none, errW_some] <;> rfl) | (simp [*, errW_none, errW_some] <;> rfl), by repeat (first | (with_reducible first | exact HB.out | apply below_alloc | apply pw_below_drewN | apply below_drew1 | refine below_set ?_ GE460.out) | exact HB.out)⟩
         ·rw [if_neg c26] at H
          have c26b0 : (t466.toList == ([68] : List UInt8)) = false := beq_eq_false_iff_ne.mpr c26
          have c26b1 : (t466.toList != ([68] : List UInt8)) = true := bne_iff_ne.mpr c26
          by_cases c30 : t466.toList = ([84] : List UInt8)
          ·rw [if_pos c30] at H
           have c30b0 : (t466.toList == ([84] : List UInt8)) = true := beq_iff_eq.mpr c30
           have c30b1 : (t466.toList != ([84] : List UInt8)) = false := bne_eq_false_iff_eq.mpr c30
           clear c30
           obtain rfl := Option.some.inj H
           obtain ⟨Ao31, co31, eo31⟩ := Kd.R_slice HO_5.out
           subst eo31
           have hcz32_0 : wr.cell? ⟨gb460, 0, none⟩ = some (.int .u8 a0_0) := (blk_cell BK460.out 0).trans rfl
           have hcz32_1 : wr.cell? ⟨gb460, 1, none⟩ = some (.int .u8 a0_1) := (blk_cell BK460.out 1).trans rfl
           have hcz32_2 : wr.cell? ⟨gb460, 2, none⟩ = some (.int .u8 a0_2) := (blk_cell BK460.out 2).trans rfl
           have hcz32_3 : wr.cell? ⟨gb460, 3, none⟩ = some (.int .u8 a0_3) := (blk_cell BK460.out 3).trans rfl
           have hcz32_4 : wr.cell? ⟨gb460, 4, none⟩ = some (.int .u8 a0_4) := (blk_cell BK460.out 4).trans rfl
           have hcz32_5 : wr.cell? ⟨gb460, 5, none⟩ = some (.string a0_5) := (blk_cell BK460.out 5).trans rfl
           have hcz32_6 : wr.cell? ⟨gb460, 6, none⟩ = some (.string a0_6) := (blk_cell BK460.out 6).trans rfl
           have hcz32_7 : wr.cell? ⟨gb460, 7, none⟩ = some (.string a0_7) := (blk_cell BK460.out 7).trans rfl
           have hcz32_8 : wr.cell? ⟨gb460, 8, none⟩ = some (.string a0_8) := (blk_cell BK460.out 8).trans rfl
           have hcz32_9 : wr.cell? ⟨gb460, 9, none⟩ = some (.string a0_9) := (blk_cell BK460.out 9).trans rfl
           have hcz32_10 : wr.cell? ⟨gb460, 10, none⟩ = some (.string a0_10) := (blk_cell BK460.out 10).trans rfl
           have hcz32_11 : wr.cell? ⟨gb460, 11, none⟩ = some (.string a0_11) := (blk_cell BK460.out 11).trans rfl
           have hcz32_12 : wr.cell? ⟨gb460, 12, none⟩ = some (.string a0_12) := (blk_cell BK460.out 12).trans rfl
           have hcz32_13 : wr.cell? ⟨gb460, 13, none⟩ = some (.string a0_13) := (blk_cell BK460.out 13).trans rfl
           have hcz32_14 : wr.cell? ⟨gb460, 14, none⟩ = some (.string a0_14) := (blk_cell BK460.out 14).trans rfl
           have hfz32_0 := blk_frozen BK460.out 0
           have hfz32_1 := blk_frozen BK460.out 1
           have hfz32_2 := blk_frozen BK460.out 2
           have hfz32_3 := blk_frozen BK460.out 3
           have hfz32_4 := blk_frozen BK460.out 4
           have hfz32_5 := blk_frozen BK460.out 5
           have hfz32_6 := blk_frozen BK460.out 6
           have hfz32_7 := blk_frozen BK460.out 7
           have hfz32_8 := blk_frozen BK460.out 8
           have hfz32_9 := blk_frozen BK460.out 9
           have hfz32_10 := blk_frozen BK460.out 10
           have hfz32_11 := blk_frozen BK460.out 11
           have hfz32_12 := blk_frozen BK460.out 12
           have hfz32_13 := blk_frozen BK460.out 13
           have hfz32_14 := blk_frozen BK460.out 14
           go_wp2_with (first | ((with_reducible refine gate_callee (f := 37) rfl ?_); refine goesL_ (some 46) rfl rfl Tryd.func37 (by kernel_rfl) rfl #[.string a0_13, .agg #[.int .u8 a0_0, .int .u8 a0_1, .int .u8 a0_2, .int .u8 a0_3, .int .u8 a0_4]] rfl (by (try simp only [List.map_toArray, List.map_cons, List.map_nil]); first | done | rfl | (simp only [List.length_drop, List.length_take]; rfl)) ?_; (with_reducible refine (lamplighterref09_first.calls k2 a0_13 a0_0 a0_1 a0_2 a0_3 a0_4 t466 _ A21.out).mono ?_); rintro e w33 ⟨rfl, hb⟩; refine ⟨_, rfl, ?_⟩; have n0_ := Aside0.mk (Kd.R_below (by (with_reducible repeat (first | apply Kd.R_alloc | apply Kd.R_drewN | apply Kd.R_drew)); exact HO_5.out) hb); have n1_ := Aside0.mk (blk_below (g := gb460) (o := .cells #[.int .u8 a0_0, .int .u8 a0_1, .int .u8 a0_2, .int .u8 a0_3, .int .u8 a0_4, .string a0_5, .string a0_6, .string a0_7, .string a0_8, .string a0_9, .string a0_10, .string a0_11, .string a0_12, .string a0_13, .string a0_14] 27 (0, 0)) (by (with_reducible repeat (first | refine blk_drewN ?_ _ | refine blk_drew ?_ | refine blk_alloc ?_ _)); exact BK460.out) hb); have n2_ := Aside0.mk (below_step (by repeat (first | (with_reducible first | exact HB.out | apply below_alloc | apply pw_below_drewN | apply below_drew1 | refine below_set ?_ GE460.out) | exact HB.out)) hb); clear HO_5; clear BK460; clear HB; have HO_5 := n0_; have BK460 := n1_; have HB := n2_; clear n0_ n1_ n2_; (try clear hb); (try clear hb2); (try clear hk); (try clear hi)))
           go_ret
           exact ⟨by first | rfl | (simp [errW_none, errW_some] <;> rfl) | (simp [*, errW_none, errW_some] <;> rfl), by repeat (first | (with_reducible first | exact HB.out | apply below_alloc | apply pw_below_drewN | apply below_drew1 | refine below_set ?_ GE460.out) | exact HB.out)⟩
          ·rw [if_neg c30] at H
           have c30b0 : (t466.toList == ([84] : List UInt8)) = false := beq_eq_false_iff_ne.mpr c30
           have c30b1 : (t466.toList != ([84] : List UInt8)) = true := bne_iff_ne.mpr c30
           obtain rfl := Option.some.inj H
           obtain ⟨Ao34, co34, eo34⟩ := Kd.R_slice HO_5.out
           subst eo34
           have hcz35_0 : wr.cell? ⟨gb460, 0, none⟩ = some (.int .u8 a0_0) := (blk_cell BK460.out 0).trans rfl
           have hcz35_1 : wr.cell? ⟨gb460, 1, none⟩ = some (.int .u8 a0_1) := (blk_cell BK460.out 1).trans rfl
           have hcz35_2 : wr.cell? ⟨gb460, 2, none⟩ = some (.int .u8 a0_2) := (blk_cell BK460.out 2).trans rfl
           have hcz35_3 : wr.cell? ⟨gb460, 3, none⟩ = some (.int .u8 a0_3) := (blk_cell BK460.out 3).trans rfl
           have hcz35_4 : wr.cell? ⟨gb460, 4, none⟩ = some (.int .u8 a0_4) := (blk_cell BK460.out 4).trans rfl
           have hcz35_5 : wr.cell? ⟨gb460, 5, none⟩ = some (.string a0_5) := (blk_cell BK460.out 5).trans rfl
           have hcz35_6 : wr.cell? ⟨gb460, 6, none⟩ = some (.string a0_6) := (blk_cell BK460.out 6).trans rfl
           have hcz35_7 : wr.cell? ⟨gb460, 7, none⟩ = some (.string a0_7) := (blk_cell BK460.out 7).trans rfl
           have hcz35_8 : wr.cell? ⟨gb460, 8, none⟩ = some (.string a0_8) := (blk_cell BK460.out 8).trans rfl
           have hcz35_9 : wr.cell? ⟨gb460, 9, none⟩ = some (.string a0_9) := (blk_cell BK460.out 9).trans rfl
           have hcz35_10 : wr.cell? ⟨gb460, 10, none⟩ = some (.string a0_10) := (blk_cell BK460.out 10).trans rfl
           have hcz35_11 : wr.cell? ⟨gb460, 11, none⟩ = some (.string a0_11) := (blk_cell BK460.out 11).trans rfl
           have hcz35_12 : wr.cell? ⟨gb460, 12, none⟩ = some (.string a0_12) := (blk_cell BK460.out 12).trans rfl
           have hcz35_13 : wr.cell? ⟨gb460, 13, none⟩ = some (.string a0_13) := (blk_cell BK460.out 13).trans rfl
           have hcz35_14 : wr.cell? ⟨gb460, 14, none⟩ = some (.string a0_14) := (blk_cell BK460.out 14).trans rfl
           have hfz35_0 := blk_frozen BK460.out 0
           have hfz35_1 := blk_frozen BK460.out 1
           have hfz35_2 := blk_frozen BK460.out 2
           have hfz35_3 := blk_frozen BK460.out 3
           have hfz35_4 := blk_frozen BK460.out 4
           have hfz35_5 := blk_frozen BK460.out 5
           have hfz35_6 := blk_frozen BK460.out 6
           have hfz35_7 := blk_frozen BK460.out 7
           have hfz35_8 := blk_frozen BK460.out 8
           have hfz35_9 := blk_frozen BK460.out 9
           have hfz35_10 := blk_frozen BK460.out 10
           have hfz35_11 := blk_frozen BK460.out 11
           have hfz35_12 := blk_frozen BK460.out 12
           have hfz35_13 := blk_frozen BK460.out 13
           have hfz35_14 := blk_frozen BK460.out 14
           go_wp2_with (first | ((with_reducible refine gate_callee (f := 37) rfl ?_); refine goesL_ (some 46) rfl rfl Tryd.func37 (by kernel_rfl) rfl #[.string a0_13, .agg #[.int .u8 a0_0, .int .u8 a0_1, .int .u8 a0_2, .int .u8 a0_3, .int .u8 a0_4]] rfl (by (try simp only [List.map_toArray, List.map_cons, List.map_nil]); first | done | rfl | (simp only [List.length_drop, List.length_take]; rfl)) ?_; (with_reducible refine (lamplighterref09_first.calls k2 a0_13 a0_0 a0_1 a0_2 a0_3 a0_4 t466 _ A21.out).mono ?_); rintro e w36 ⟨rfl, hb⟩; refine ⟨_, rfl, ?_⟩; have n0_ := Aside0.mk (Kd.R_below (by (with_reducible repeat (first | apply Kd.R_alloc | apply Kd.R_drewN | apply Kd.R_drew)); exact HO_5.out) hb); have n1_ := Aside0.mk (blk_below (g := gb460) (o := .cells #[.int .u8 a0_0, .int .u8 a0_1, .int .u8 a0_2, .int .u8 a0_3, .int .u8 a0_4, .string a0_5, .string a0_6, .string a0_7, .string a0_8, .string a0_9, .string a0_10, .string a0_11, .string a0_12, .string a0_13, .string a0_14] 27 (0, 0)) (by (with_reducible repeat (first | refine blk_drewN ?_ _ | refine blk_drew ?_ | refine blk_alloc ?_ _)); exact BK460.out) hb); have n2_ := Aside0.mk (below_step (by repeat (first | (with_reducible first | exact HB.out | apply below_alloc | apply pw_below_drewN | apply below_drew1 | refine below_set ?_ GE460.out) | exact HB.out)) hb); clear HO_5; clear BK460; clear HB; have HO_5 := n0_; have BK460 := n1_; have HB := n2_; clear n0_ n1_ n2_; (try clear hb); (try clear hb2); (try clear hk); (try clear hi)))
           go_ret
           exact ⟨by first | rfl | (simp [errW_none, errW_some] <;> rfl) | (simp [*, errW_none, errW_some] <;> rfl), by repeat (first | (with_reducible first | exact HB.out | apply below_alloc | apply pw_below_drewN | apply below_drew1 | refine below_set ?_ GE460.out) | exact HB.out)⟩
       ·replace c20 := Bool.eq_false_iff.mpr c20
        subst c20
        have H1 : (some 12) = some r := by rw [if_neg (show ¬ (false = true) by decide)] at H; exact H
        clear H
        have H := H1
        clear H1
        obtain rfl := Option.some.inj H
        obtain ⟨Ao37, co37, eo37⟩ := Kd.R_slice HO_5.out
        subst eo37
        go_wp2
        go_ret
        exact ⟨by first | rfl | (simp [errW_none, errW_some] <;> rfl) | (simp [*, errW_none, errW_some] <;> rfl), by repeat (first | (with_reducible first | exact HB.out | apply below_alloc | apply pw_below_drewN | apply below_drew1 | refine below_set ?_ GE460.out) | exact HB.out)⟩

end Go.Proofs.YtbkalgkjkcfplaaDoor.PM
