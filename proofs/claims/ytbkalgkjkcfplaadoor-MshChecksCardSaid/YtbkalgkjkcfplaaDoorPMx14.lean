-- Written by a program of this work (the kit's print, with contracts of this work's own taken in) out of the translation. Not trusted: Lean checks it.
import Derived.Test.YtbkalgkjkcfplaaDoorPMx0
namespace Go.Proofs.YtbkalgkjkcfplaaDoor.PM
open Go.RowKit Go.Proofs.YtbkalgkjkcfplaaDoorW.PrintWords Go.Proofs.YtbkalgkjkcfplaaDoorW.PrintLast Go.Proofs.YtbkalgkjkcfplaaDoorW.PrintMore
attribute [local go_sem] max2_int min2_int max_two min_two max_three min_three max_four min_four   -- for this text's walks alone
set_option linter.unusedVariables false
set_option linter.unusedSimpArgs false

/-! ### lamplighterref08_Make: function 36 -/
def lamplighterref08_Make.l0 : Nat → ByteArray → List ByteArray → ByteArray → Int → Int → Int → Int → Int → Int → Option (ByteArray)
 | 0, _, _, _, _, _, _, _, _, _ => none
 | k + 1, x1, x2, x7, x8, x392000, x392001, x392002, x392003, x392004 => if x8 < (x2.length : Int) then (if x1.toList = ([77, 83, 72] : List UInt8) then (if x8 > 1 then ((some (([x392000] : List Int) : List Int)).bind fun y392 => (if x7.size + (strOfNums y392).size ≤ 9223372036854775807 then (if 0 ≤ x8 then (if (x7 ++ (strOfNums y392)).size + (rdOf ByteArray.empty x2 x8).size ≤ 9223372036854775807 then (lamplighterref08_Make.l0 k x1 x2 ((x7 ++ (strOfNums y392)) ++ (rdOf ByteArray.empty x2 x8)) (wrap64 (x8 + 1)) x392000 x392001 x392002 x392003 x392004) else (none)) else (none)) else (none))) else (if 0 ≤ x8 then (if x7.size + (rdOf ByteArray.empty x2 x8).size ≤ 9223372036854775807 then (lamplighterref08_Make.l0 k x1 x2 (x7 ++ (rdOf ByteArray.empty x2 x8)) (wrap64 (x8 + 1)) x392000 x392001 x392002 x392003 x392004) else (none)) else (none))) else ((some (([x392000] : List Int) : List Int)).bind fun y397 => (if x7.size + (strOfNums y397).size ≤ 9223372036854775807 then (if 0 ≤ x8 then (if (x7 ++ (strOfNums y397)).size + (rdOf ByteArray.empty x2 x8).size ≤ 9223372036854775807 then (lamplighterref08_Make.l0 k x1 x2 ((x7 ++ (strOfNums y397)) ++ (rdOf ByteArray.empty x2 x8)) (wrap64 (x8 + 1)) x392000 x392001 x392002 x392003 x392004) else (none)) else (none)) else (none)))) else (some x7)
def lamplighterref08_Make.f (k : Nat) (a0_0 : Int) (a0_1 : Int) (a0_2 : Int) (a0_3 : Int) (a0_4 : Int) (a1 : ByteArray) (l2 : List ByteArray) : Option (ByteArray) := lamplighterref08_Make.l0 k a1 l2 a1 0 a0_0 a0_1 a0_2 a0_3 a0_4
theorem lamplighterref08_Make.mono_l : ∀ k, (∀ y0 y1 y2 y3 y4 y5 y6 y7 y8, LeO (lamplighterref08_Make.l0 k y0 y1 y2 y3 y4 y5 y6 y7 y8) (lamplighterref08_Make.l0 (k + 1) y0 y1 y2 y3 y4 y5 y6 y7 y8))
 | 0 => fun _ _ _ _ _ _ _ _ _ r h => by simp [lamplighterref08_Make.l0] at h
 | k + 1 => by
  have ih0 := lamplighterref08_Make.mono_l k
  ·intro y0 y1 y2 y3 y4 y5 y6 y7 y8
   unfold lamplighterref08_Make.l0
   repeat' first
   | (with_reducible exact ih0 _ _ _ _ _ _ _ _ _)
   | (with_reducible exact LeO.refl _)
   | (with_reducible exact LeO.none _)
   | (with_reducible refine LeO.ite ?_ ?_)
   | (with_reducible refine LeO.bind ?_ (fun _ => ?_))
   | exact ih0 _ _ _ _ _ _ _ _ _
   | exact LeO.none _
   | refine LeO.ite ?_ ?_
   | refine LeO.bind ?_ (fun _ => ?_)
theorem lamplighterref08_Make.mono : ∀ a0 a1 a2 a3 a4 a5 a6 k, LeO (lamplighterref08_Make.f k a0 a1 a2 a3 a4 a5 a6) (lamplighterref08_Make.f (k + 1) a0 a1 a2 a3 a4 a5 a6) := by
 intro a0 a1 a2 a3 a4 a5 a6 k
 have ih0 := lamplighterref08_Make.mono_l k
 unfold lamplighterref08_Make.f
 repeat' first
   | (with_reducible exact ih0 _ _ _ _ _ _ _ _ _)
   | (with_reducible exact LeO.refl _)
   | (with_reducible exact LeO.none _)
   | (with_reducible refine LeO.ite ?_ ?_)
   | (with_reducible refine LeO.bind ?_ (fun _ => ?_))
   | exact ih0 _ _ _ _ _ _ _ _ _
   | exact LeO.none _
   | refine LeO.ite ?_ ?_
   | refine LeO.bind ?_ (fun _ => ?_)
set_option maxHeartbeats 8000000 in
set_option maxRecDepth 100000 in
theorem lamplighterref08_Make.calls (k : Nat) (a0_0 : Int) (a0_1 : Int) (a0_2 : Int) (a0_3 : Int) (a0_4 : Int) (a1 : ByteArray) (A2 : Option Addr) (c2 : Nat) (l2 : List ByteArray) (r : ByteArray) (w : World) (hr2 : Kd.C Kd.string w A2 l2.length l2) (hc2 : l2.length ≤ c2) (h : lamplighterref08_Make.f k a0_0 a0_1 a0_2 a0_3 a0_4 a1 l2 = some r) :
  Calls Tryd.prog 36 #[.agg #[.int .u8 a0_0, .int .u8 a0_1, .int .u8 a0_2, .int .u8 a0_3, .int .u8 a0_4], .string a1, .slice A2 l2.length c2] w fun e w' => e = .returned (.string r) ∧ Below w.heap.size w w' := by
 have hu25 := Tryd.underlying25
 have HR2 := Aside0.mk hr2
 have HC2 := Aside0.mk hc2
 clear hr2 hc2
 have HB := Aside0.mk (Below.refl w.heap.size w)
 have H : (lamplighterref08_Make.l0 k a1 l2 a1 0 a0_0 a0_1 a0_2 a0_3 a0_4) = some r := h
 clear h
 have H' := Aside0.mk H
 clear H
 go_enter Tryd.func36, Tryd.ntmps36
 go_wp2_with (first | ((with_reducible refine gate_dst (N := 3) rfl ?_); refine box_event ?hg (N := 3) ?hd (cs := #[.int .u8 a0_0, .int .u8 a0_1, .int .u8 a0_2, .int .u8 a0_3, .int .u8 a0_4]) (t := 25) ?hr ?_; (case hd => rfl); (case hg => rfl); (case hr => first | (go_simp; done) | (go_simp; rfl)); intro gb391 hg w4 hbox hb; have n0_ := Aside0.mk (below_step (by repeat (first | (with_reducible first | exact HB.out | apply below_alloc | apply pw_below_drewN | apply below_drew1) | exact HB.out)) hb); have n1_ := Aside0.mk (hbox); have n2_ := Aside0.mk ((by rw [hg]; exact (below_size (by repeat (first | (with_reducible first | exact HB.out | apply below_alloc | apply pw_below_drewN | apply below_drew1) | exact HB.out))) : w.heap.size ≤ gb391)); have n3_ := Aside0.mk ((by rw [hg]; exact (below_size (by repeat (first | (with_reducible first | exact HB.out | apply below_alloc | apply pw_below_drewN | apply below_drew1) | exact HB.out))) : w.heap.size ≤ gb391)); clear HB; have HB := n0_; have BK391 := n1_; have GW391 := n2_; have GE391 := n3_; clear n0_ n1_ n2_ n3_; clear hb hbox hg))
 go_loopg [7, 8] k (fun kq v7 v8 w' => ∃ (x7_1 : ByteArray) (x8_1 : Int), v7 = .string x7_1 ∧ v8 = .int .i64 x8_1 ∧ Aside0 (lamplighterref08_Make.l0 kq a1 l2 x7_1 x8_1 a0_0 a0_1 a0_2 a0_3 a0_4 = some r) ∧ Aside0 (kq ≤ k) ∧ Aside0 (w'.heap[gb391]? = some (.cells #[.int .u8 a0_0, .int .u8 a0_1, .int .u8 a0_2, .int .u8 a0_3, .int .u8 a0_4] 25 (0, 0))) ∧ Aside0 (Below w.heap.size w w'))
 case atStart => exact ⟨(a1), (0), (by first | rfl | (simp; done) | (simp [*]; done)), (by first | rfl | (simp; done) | (simp [*]; done)), H', ⟨Nat.le_refl _⟩, ⟨by (with_reducible repeat (first | refine blk_drewN ?_ _ | refine blk_drew ?_ | refine blk_alloc ?_ _)); exact BK391.out⟩, ⟨by repeat (first | (with_reducible first | exact HB.out | apply below_alloc | apply pw_below_drewN | apply below_drew1 | refine below_set ?_ GE391.out) | exact HB.out)⟩⟩
 case round =>
  clear H'
  try clear c2
  try clear p2
  try clear c3
  obtain ⟨x7_1, x8_1, rfl, rfl, HA, HK1, BK391, HB⟩ := hrel
  cases gk with
  | zero => exact absurd HA.out (by simp [lamplighterref08_Make.l0])
  | succ k1 =>
   have H := HA.out
   clear HA
   simp only [lamplighterref08_Make.l0] at H
   by_cases c5 : x8_1 < (l2.length : Int)
   ·rw [if_pos c5] at H
    have c5b0 : decide (x8_1 < (l2.length : Int)) = true := decide_eq_true c5
    clear c5
    by_cases c6 : a1.toList = ([77, 83, 72] : List UInt8)
    ·rw [if_pos c6] at H
     have c6b0 : (a1.toList == ([77, 83, 72] : List UInt8)) = true := beq_iff_eq.mpr c6
     have c6b1 : (a1.toList != ([77, 83, 72] : List UInt8)) = false := bne_eq_false_iff_eq.mpr c6
     clear c6
     by_cases c7 : x8_1 > 1
     ·rw [if_pos c7] at H
      have c7b0 : decide (1 < x8_1) = true := decide_eq_true c7
      clear c7
      obtain ⟨y392, hy392⟩ : ∃ y_ : List Int, y_ = (([a0_0] : List Int)) := ⟨_, rfl⟩
      replace H : (if x7_1.size + (strOfNums y392).size ≤ 9223372036854775807 then (if 0 ≤ x8_1 then (if (x7_1 ++ (strOfNums y392)).size + (rdOf ByteArray.empty l2 x8_1).size ≤ 9223372036854775807 then (lamplighterref08_Make.l0 k1 a1 l2 ((x7_1 ++ (strOfNums y392)) ++ (rdOf ByteArray.empty l2 x8_1)) (wrap64 (x8_1 + 1)) a0_0 a0_1 a0_2 a0_3 a0_4) else (none)) else (none)) else (none)) = some r := by first | (rw [hy392]; with_reducible exact H) | (have H2_ := (Option.bind_some _ _).symm.trans H; rw [hy392]; with_reducible exact H2_) | (have H2_ := (Option.bind_some _ _).symm.trans H; with_reducible exact H2_) | with_reducible exact H | (rw [hy392]; exact H) | exact H
      have Ny392 := Aside0.mk hy392
      clear hy392
      by_cases c8 : x7_1.size + (strOfNums y392).size ≤ 9223372036854775807
      ·rw [if_pos c8] at H
       have c8b0 := eq_true c8
       have c8b1 : decide (x7_1.size + (strOfNums y392).size ≤ 9223372036854775807) = true := decide_eq_true c8
       try have c8b2 : (9223372036854775807 < x7_1.size + (strOfNums y392).size) = False := eq_false (Nat.not_lt.2 c8)
       try (have c8b4 := c8b2; simp only [ByteArray.size_append] at c8b4)
       by_cases c9 : 0 ≤ x8_1
       ·rw [if_pos c9] at H
        have c9b0 : decide (0 ≤ x8_1) = true := decide_eq_true c9
        clear c9
        by_cases c10 : (x7_1 ++ (strOfNums y392)).size + (rdOf ByteArray.empty l2 x8_1).size ≤ 9223372036854775807
        ·rw [if_pos c10] at H
         have c10b0 := eq_true c10
         have c10b1 : decide ((x7_1 ++ (strOfNums y392)).size + (rdOf ByteArray.empty l2 x8_1).size ≤ 9223372036854775807) = true := decide_eq_true c10
         try have c10b2 : (9223372036854775807 < (x7_1 ++ (strOfNums y392)).size + (rdOf ByteArray.empty l2 x8_1).size) = False := eq_false (Nat.not_lt.2 c10)
         try (have c10b4 := c10b2; simp only [ByteArray.size_append] at c10b4)
         have H' := Aside0.mk H
         clear H
         have hcz11_0 : wr.cell? ⟨gb391, 0, none⟩ = some (.int .u8 a0_0) := (blk_cell BK391.out 0).trans rfl
         have hcz11_1 : wr.cell? ⟨gb391, 1, none⟩ = some (.int .u8 a0_1) := (blk_cell BK391.out 1).trans rfl
         have hcz11_2 : wr.cell? ⟨gb391, 2, none⟩ = some (.int .u8 a0_2) := (blk_cell BK391.out 2).trans rfl
         have hcz11_3 : wr.cell? ⟨gb391, 3, none⟩ = some (.int .u8 a0_3) := (blk_cell BK391.out 3).trans rfl
         have hcz11_4 : wr.cell? ⟨gb391, 4, none⟩ = some (.int .u8 a0_4) := (blk_cell BK391.out 4).trans rfl
         have hfz11_0 := blk_frozen BK391.out 0
         have hfz11_1 := blk_frozen BK391.out 1
         have hfz11_2 := blk_frozen BK391.out 2
         have hfz11_3 := blk_frozen BK391.out 3
         have hfz11_4 := blk_frozen BK391.out 4
         go_wp2_with (first | ((with_reducible refine gate_dst (N := 25) rfl ?_); refine Kd.R_lit (Kd.int .u8) _ 5 ?hg (N := 25) ?hd (xs := ([a0_0] : List Int)) (inner := [.int .u8 a0_0]) (ok := fun _ => True) (okp := fun _ => True) ?hr ?hp (fun _ hk => hk) trivial (Below.refl _ _) (Nat.le_refl _) (by simp) ?_; (case hd => rfl); (case hg => rfl); (case hr => first | (go_simp; done) | (go_simp; rfl)); (case hp => exact (Reps.one (show Kd.M (Kd.int .u8) _ _ _ a0_0 [.int .u8 a0_0] from rfl) (Reps.none _ _))); intro v393 w12 ho13 hb hg_ hnew_; clear hg_ hnew_; (first | rw [← Ny392.out] at ho13 | (simp only [Int.reduceToNat] at ho13; rw [← Ny392.out] at ho13)); have n0_ := Aside0.mk (Kd.R_lower ho13 (below_size (by repeat (first | (with_reducible first | exact HB.out | apply below_alloc | apply pw_below_drewN | apply below_drew1 | refine below_set ?_ GE391.out) | exact HB.out)))); have n1_ := Aside0.mk (blk_below (g := gb391) (o := .cells #[.int .u8 a0_0, .int .u8 a0_1, .int .u8 a0_2, .int .u8 a0_3, .int .u8 a0_4] 25 (0, 0)) (by (with_reducible repeat (first | refine blk_drewN ?_ _ | refine blk_drew ?_ | refine blk_alloc ?_ _)); exact BK391.out) hb); have n2_ := Aside0.mk (below_step (by repeat (first | (with_reducible first | exact HB.out | apply below_alloc | apply pw_below_drewN | apply below_drew1 | refine below_set ?_ GE391.out) | exact HB.out)) hb); clear BK391; clear HB; have HO394 := n0_; have BK391 := n1_; have HB := n2_; clear n0_ n1_ n2_; clear hb ho13; have hcv14 := own_string (P := Tryd.prog) Tryd.underlying22 Tryd.underlying5 Tryd.underlying9 (Kd.own_of_R HO394.out); have p395 : 0 ≤ (x8_1 : Int) := of_decide_eq_true (by first | (with_reducible assumption) | assumption); have q395 : x8_1 < (l2.length : Int) := of_decide_eq_true (by first | (with_reducible assumption) | assumption); obtain ⟨ad395, e395, hx395_0⟩ := Kd.at_string HR2.out x8_1 p395 q395; cases e395; replace hx395_0 := (HB.out.cell (World.block_lt_of_cell? w _ hx395_0)).trans hx395_0; replace p395 := eq_true p395; replace q395 := eq_true q395))
         go_roundg k1
         case measure => have := HK1.out; omega
         case rel => exact ⟨((x7_1 ++ (strOfNums y392)) ++ (rdOf ByteArray.empty l2 x8_1)), (wrap64 (x8_1 + 1)), (by first | rfl | (simp; done) | (simp [*]; done)), (by first | rfl | (simp; done) | (simp [*]; done)), H', ⟨by have := HK1.out; omega⟩, ⟨by (with_reducible repeat (first | refine blk_drewN ?_ _ | refine blk_drew ?_ | refine blk_alloc ?_ _)); exact BK391.out⟩, ⟨by repeat (first | (with_reducible first | exact HB.out | apply below_alloc | apply pw_below_drewN | apply below_drew1 | refine below_set ?_ GE391.out) | exact HB.out)⟩⟩
        ·rw [if_neg c10] at H
         exact absurd H (by simp)
       ·rw [if_neg c9] at H
        exact absurd H (by simp)
      ·rw [if_neg c8] at H
       exact absurd H (by simp)
     ·rw [if_neg c7] at H
      have c7b0 : decide (1 < x8_1) = false := decide_eq_false c7
      clear c7
      by_cases c15 : 0 ≤ x8_1
      ·rw [if_pos c15] at H
       have c15b0 : decide (0 ≤ x8_1) = true := decide_eq_true c15
       clear c15
       by_cases c16 : x7_1.size + (rdOf ByteArray.empty l2 x8_1).size ≤ 9223372036854775807
       ·rw [if_pos c16] at H
        have c16b0 := eq_true c16
        have c16b1 : decide (x7_1.size + (rdOf ByteArray.empty l2 x8_1).size ≤ 9223372036854775807) = true := decide_eq_true c16
        try have c16b2 : (9223372036854775807 < x7_1.size + (rdOf ByteArray.empty l2 x8_1).size) = False := eq_false (Nat.not_lt.2 c16)
        try (have c16b4 := c16b2; simp only [ByteArray.size_append] at c16b4)
        have H' := Aside0.mk H
        clear H
        have p396 : 0 ≤ (x8_1 : Int) := of_decide_eq_true (by first | (with_reducible assumption) | assumption)
        have q396 : x8_1 < (l2.length : Int) := of_decide_eq_true (by first | (with_reducible assumption) | assumption)
        obtain ⟨ad396, e396, hx396_0⟩ := Kd.at_string HR2.out x8_1 p396 q396
        cases e396
        replace hx396_0 := (HB.out.cell (World.block_lt_of_cell? w _ hx396_0)).trans hx396_0
        replace p396 := eq_true p396
        replace q396 := eq_true q396
        go_wp2
        go_roundg k1
        case measure => have := HK1.out; omega
        case rel => exact ⟨(x7_1 ++ (rdOf ByteArray.empty l2 x8_1)), (wrap64 (x8_1 + 1)), (by first | rfl | (simp; done) | (simp [*]; done)), (by first | rfl | (simp; done) | (simp [*]; done)), H', ⟨by have := HK1.out; omega⟩, ⟨by (with_reducible repeat (first | refine blk_drewN ?_ _ | refine blk_drew ?_ | refine blk_alloc ?_ _)); exact BK391.out⟩, ⟨by repeat (first | (with_reducible first | exact HB.out | apply below_alloc | apply pw_below_drewN | apply below_drew1 | refine below_set ?_ GE391.out) | exact HB.out)⟩⟩
       ·rw [if_neg c16] at H
        exact absurd H (by simp)
      ·rw [if_neg c15] at H
       exact absurd H (by simp)
    ·rw [if_neg c6] at H
     have c6b0 : (a1.toList == ([77, 83, 72] : List UInt8)) = false := beq_eq_false_iff_ne.mpr c6
     have c6b1 : (a1.toList != ([77, 83, 72] : List UInt8)) = true := bne_iff_ne.mpr c6
     obtain ⟨y397, hy397⟩ : ∃ y_ : List Int, y_ = (([a0_0] : List Int)) := ⟨_, rfl⟩
     replace H : (if x7_1.size + (strOfNums y397).size ≤ 9223372036854775807 then (if 0 ≤ x8_1 then (if (x7_1 ++ (strOfNums y397)).size + (rdOf ByteArray.empty l2 x8_1).size ≤ 9223372036854775807 then (lamplighterref08_Make.l0 k1 a1 l2 ((x7_1 ++ (strOfNums y397)) ++ (rdOf ByteArray.empty l2 x8_1)) (wrap64 (x8_1 + 1)) a0_0 a0_1 a0_2 a0_3 a0_4) else (none)) else (none)) else (none)) = some r := by first | (rw [hy397]; with_reducible exact H) | (have H2_ := (Option.bind_some _ _).symm.trans H; rw [hy397]; with_reducible exact H2_) | (have H2_ := (Option.bind_some _ _).symm.trans H; with_reducible exact H2_) | with_reducible exact H | (rw [hy397]; exact H) | exact H
     have Ny397 := Aside0.mk hy397
     clear hy397
     by_cases c17 : x7_1.size + (strOfNums y397).size ≤ 9223372036854775807
     ·rw [if_pos c17] at H
      have c17b0 := eq_true c17
      have c17b1 : decide (x7_1.size + (strOfNums y397).size ≤ 9223372036854775807) = true := decide_eq_true c17
      try have c17b2 : (9223372036854775807 < x7_1.size + (strOfNums y397).size) = False := eq_false (Nat.not_lt.2 c17)
      try (have c17b4 := c17b2; simp only [ByteArray.size_append] at c17b4)
      by_cases c18 : 0 ≤ x8_1
      ·rw [if_pos c18] at H
       have c18b0 : decide (0 ≤ x8_1) = true := decide_eq_true c18
       clear c18
       by_cases c19 : (x7_1 ++ (strOfNums y397)).size + (rdOf ByteArray.empty l2 x8_1).size ≤ 9223372036854775807
       ·rw [if_pos c19] at H
        have c19b0 := eq_true c19
        have c19b1 : decide ((x7_1 ++ (strOfNums y397)).size + (rdOf ByteArray.empty l2 x8_1).size ≤ 9223372036854775807) = true := decide_eq_true c19
        try have c19b2 : (9223372036854775807 < (x7_1 ++ (strOfNums y397)).size + (rdOf ByteArray.empty l2 x8_1).size) = False := eq_false (Nat.not_lt.2 c19)
        try (have c19b4 := c19b2; simp only [ByteArray.size_append] at c19b4)
        have H' := Aside0.mk H
        clear H
        have hcz20_0 : wr.cell? ⟨gb391, 0, none⟩ = some (.int .u8 a0_0) := (blk_cell BK391.out 0).trans rfl
        have hcz20_1 : wr.cell? ⟨gb391, 1, none⟩ = some (.int .u8 a0_1) := (blk_cell BK391.out 1).trans rfl
        have hcz20_2 : wr.cell? ⟨gb391, 2, none⟩ = some (.int .u8 a0_2) := (blk_cell BK391.out 2).trans rfl
        have hcz20_3 : wr.cell? ⟨gb391, 3, none⟩ = some (.int .u8 a0_3) := (blk_cell BK391.out 3).trans rfl
        have hcz20_4 : wr.cell? ⟨gb391, 4, none⟩ = some (.int .u8 a0_4) := (blk_cell BK391.out 4).trans rfl
        have hfz20_0 := blk_frozen BK391.out 0
        have hfz20_1 := blk_frozen BK391.out 1
        have hfz20_2 := blk_frozen BK391.out 2
        have hfz20_3 := blk_frozen BK391.out 3
        have hfz20_4 := blk_frozen BK391.out 4
        go_wp2_with (first | ((with_reducible refine gate_dst (N := 25) rfl ?_); refine Kd.R_lit (Kd.int .u8) _ 5 ?hg (N := 25) ?hd (xs := ([a0_0] : List Int)) (inner := [.int .u8 a0_0]) (ok := fun _ => True) (okp := fun _ => True) ?hr ?hp (fun _ hk => hk) trivial (Below.refl _ _) (Nat.le_refl _) (by simp) ?_; (case hd => rfl); (case hg => rfl); (case hr => first | (go_simp; done) | (go_simp; rfl)); (case hp => exact (Reps.one (show Kd.M (Kd.int .u8) _ _ _ a0_0 [.int .u8 a0_0] from rfl) (Reps.none _ _))); intro v398 w21 ho22 hb hg_ hnew_; clear hg_ hnew_; (first | rw [← Ny397.out] at ho22 | (simp only [Int.reduceToNat] at ho22; rw [← Ny397.out] at ho22)); have n0_ := Aside0.mk (Kd.R_lower ho22 (below_size (by repeat (first | (with_reducible first | exact HB.out | apply below_alloc | apply pw_below_drewN | apply below_drew1 | refine below_set ?_ GE391.out) | exact HB.out)))); have n1_ := Aside0.mk (blk_below (g := gb391) (o := .cells #[.int .u8 a0_0, .int .u8 a0_1, .int .u8 a0_2, .int .u8 a0_3, .int .u8 a0_4] 25 (0, 0)) (by (with_reducible repeat (first | refine blk_drewN ?_ _ | refine blk_drew ?_ | refine blk_alloc ?_ _)); exact BK391.out) hb); have n2_ := Aside0.mk (below_step (by repeat (first | (with_reducible first | exact HB.out | apply below_alloc | apply pw_below_drewN | apply below_drew1 | refine below_set ?_ GE391.out) | exact HB.out)) hb); clear BK391; clear HB; have HO399 := n0_; have BK391 := n1_; have HB := n2_; clear n0_ n1_ n2_; clear hb ho22; have hcv23 := own_string (P := Tryd.prog) Tryd.underlying22 Tryd.underlying5 Tryd.underlying9 (Kd.own_of_R HO399.out); have p400 : 0 ≤ (x8_1 : Int) := of_decide_eq_true (by first | (with_reducible assumption) | assumption); have q400 : x8_1 < (l2.length : Int) := of_decide_eq_true (by first | (with_reducible assumption) | assumption); obtain ⟨ad400, e400, hx400_0⟩ := Kd.at_string HR2.out x8_1 p400 q400; cases e400; replace hx400_0 := (HB.out.cell (World.block_lt_of_cell? w _ hx400_0)).trans hx400_0; replace p400 := eq_true p400; replace q400 := eq_true q400))
        go_roundg k1
        case measure => have := HK1.out; omega
        case rel => exact ⟨((x7_1 ++ (strOfNums y397)) ++ (rdOf ByteArray.empty l2 x8_1)), (wrap64 (x8_1 + 1)), (by first | rfl | (simp; done) | (simp [*]; done)), (by first | rfl | (simp; done) | (simp [*]; done)), H', ⟨by have := HK1.out; omega⟩, ⟨by (with_reducible repeat (first | refine blk_drewN ?_ _ | refine blk_drew ?_ | refine blk_alloc ?_ _)); exact BK391.out⟩, ⟨by repeat (first | (with_reducible first | exact HB.out | apply below_alloc | apply pw_below_drewN | apply below_drew1 | refine below_set ?_ GE391.out) | exact HB.out)⟩⟩
       ·rw [if_neg c19] at H
        exact absurd H (by simp)
      ·rw [if_neg c18] at H
       exact absurd H (by simp)
     ·rw [if_neg c17] at H
      exact absurd H (by simp)
   ·rw [if_neg c5] at H
    have c5b0 : decide (x8_1 < (l2.length : Int)) = false := decide_eq_false c5
    clear c5
    obtain rfl := Option.some.inj H
    go_wp2
    go_ret
    exact ⟨by first | rfl | (simp [errW_none, errW_some] <;> rfl) | (simp [*, errW_none, errW_some] <;> rfl), by repeat (first | (with_reducible first | exact HB.out | apply below_alloc | apply pw_below_drewN | apply below_drew1 | refine below_set ?_ GE391.out) | exact HB.out)⟩

end Go.Proofs.YtbkalgkjkcfplaaDoor.PM
