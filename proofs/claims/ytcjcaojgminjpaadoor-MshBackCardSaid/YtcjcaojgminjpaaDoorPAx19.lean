-- Written by a program of this work (the kit's print, with contracts of this work's own taken in) out of the translation. Not trusted: Lean checks it.
import Derived.Test.YtcjcaojgminjpaaDoorPAx0
namespace Go.Proofs.YtcjcaojgminjpaaDoor.PA
open Go.RowKit Go.Proofs.YtcjcaojgminjpaaDoorW.PrintWords Go.Proofs.YtcjcaojgminjpaaDoorW.PrintLast Go.Proofs.YtcjcaojgminjpaaDoorW.PrintMore
attribute [local go_sem] max2_int min2_int max_two min_two max_three min_three max_four min_four   -- for this text's walks alone
set_option linter.unusedVariables false
set_option linter.unusedSimpArgs false

/-! ### lamplighterref08_Make: function 28 -/
def lamplighterref08_Make.l0 : Nat → ByteArray → List ByteArray → ByteArray → Int → Int → Int → Int → Int → Int → Option (ByteArray)
  | 0, _, _, _, _, _, _, _, _, _ => none
  | k + 1, x1, x2, x7, x8, x365000, x365001, x365002, x365003, x365004 => if x8 < (x2.length : Int) then (if x1.toList = ([77, 83, 72] : List UInt8) then (if x8 > 1 then ((some (([x365000] : List Int) : List Int)).bind fun y365 => (if x7.size + (strOfNums y365).size ≤ 9223372036854775807 then (if 0 ≤ x8 then (if (x7 ++ (strOfNums y365)).size + (rdOf ByteArray.empty x2 x8).size ≤ 9223372036854775807 then (lamplighterref08_Make.l0 k x1 x2 ((x7 ++ (strOfNums y365)) ++ (rdOf ByteArray.empty x2 x8)) (wrap64 (x8 + 1)) x365000 x365001 x365002 x365003 x365004) else (none)) else (none)) else (none))) else (if 0 ≤ x8 then (if x7.size + (rdOf ByteArray.empty x2 x8).size ≤ 9223372036854775807 then (lamplighterref08_Make.l0 k x1 x2 (x7 ++ (rdOf ByteArray.empty x2 x8)) (wrap64 (x8 + 1)) x365000 x365001 x365002 x365003 x365004) else (none)) else (none))) else ((some (([x365000] : List Int) : List Int)).bind fun y370 => (if x7.size + (strOfNums y370).size ≤ 9223372036854775807 then (if 0 ≤ x8 then (if (x7 ++ (strOfNums y370)).size + (rdOf ByteArray.empty x2 x8).size ≤ 9223372036854775807 then (lamplighterref08_Make.l0 k x1 x2 ((x7 ++ (strOfNums y370)) ++ (rdOf ByteArray.empty x2 x8)) (wrap64 (x8 + 1)) x365000 x365001 x365002 x365003 x365004) else (none)) else (none)) else (none)))) else (some x7)
def lamplighterref08_Make.f (k : Nat) (a0_0 : Int) (a0_1 : Int) (a0_2 : Int) (a0_3 : Int) (a0_4 : Int) (a1 : ByteArray) (l2 : List ByteArray) : Option (ByteArray) := lamplighterref08_Make.l0 k a1 l2 a1 0 a0_0 a0_1 a0_2 a0_3 a0_4
theorem lamplighterref08_Make.mono_l : ∀ k, (∀ y0 y1 y2 y3 y4 y5 y6 y7 y8, LeO (lamplighterref08_Make.l0 k y0 y1 y2 y3 y4 y5 y6 y7 y8) (lamplighterref08_Make.l0 (k + 1) y0 y1 y2 y3 y4 y5 y6 y7 y8))
  | 0 => fun _ _ _ _ _ _ _ _ _ r h => by simp [lamplighterref08_Make.l0] at h
  | k + 1 => by
    have ih0 := lamplighterref08_Make.mono_l k
    · intro y0 y1 y2 y3 y4 y5 y6 y7 y8
      unfold lamplighterref08_Make.l0
      repeat' first
      | (with_reducible exact ih0 _ _ _ _ _ _ _ _ _)
      | (with_reducible exact LeO.refl _)
      | (with_reducible exact LeO.none _)
      | (with_reducible refine LeO.ite ?_ ?_)
      | (with_reducible refine LeO.bind ?_ (fun _ => ?_))
      | exact ih0 _ _ _ _ _ _ _ _ _
      | exact LeO.none _
      | refine LeO.ite ?_ ?_
      | refine LeO.bind ?_ (fun _ => ?_)
theorem lamplighterref08_Make.mono : ∀ a0 a1 a2 a3 a4 a5 a6 k, LeO (lamplighterref08_Make.f k a0 a1 a2 a3 a4 a5 a6) (lamplighterref08_Make.f (k + 1) a0 a1 a2 a3 a4 a5 a6) := by
  intro a0 a1 a2 a3 a4 a5 a6 k
  have ih0 := lamplighterref08_Make.mono_l k
  unfold lamplighterref08_Make.f
  repeat' first
      | (with_reducible exact ih0 _ _ _ _ _ _ _ _ _)
      | (with_reducible exact LeO.refl _)
      | (with_reducible exact LeO.none _)
      | (with_reducible refine LeO.ite ?_ ?_)
      | (with_reducible refine LeO.bind ?_ (fun _ => ?_))
      | exact ih0 _ _ _ _ _ _ _ _ _
      | exact LeO.none _
      | refine LeO.ite ?_ ?_
      | refine LeO.bind ?_ (fun _ => ?_)
set_option maxHeartbeats 8000000 in
set_option maxRecDepth 100000 in
theorem lamplighterref08_Make.calls (k : Nat) (a0_0 : Int) (a0_1 : Int) (a0_2 : Int) (a0_3 : Int) (a0_4 : Int) (a1 : ByteArray) (A2 : Option Addr) (c2 : Nat) (l2 : List ByteArray) (r : ByteArray) (w : World) (hr2 : Kd.C Kd.string w A2 l2.length l2) (hc2 : l2.length ≤ c2) (h : lamplighterref08_Make.f k a0_0 a0_1 a0_2 a0_3 a0_4 a1 l2 = some r) :
    Calls Tryd.prog 28 #[.agg #[.int .u8 a0_0, .int .u8 a0_1, .int .u8 a0_2, .int .u8 a0_3, .int .u8 a0_4], .string a1, .slice A2 l2.length c2] w fun e w' => e = .returned (.string r) ∧ Below w.heap.size w w' := by
  have hu23 := Tryd.underlying23
  have HR2 := Aside0.mk hr2
  have HC2 := Aside0.mk hc2
  clear hr2 hc2
  have HB := Aside0.mk (Below.refl w.heap.size w)
  have H : (lamplighterref08_Make.l0 k a1 l2 a1 0 a0_0 a0_1 a0_2 a0_3 a0_4) = some r := h
  clear h
  have H' := Aside0.mk H
  clear H
  go_enter Tryd.func28, Tryd.ntmps28
  go_wp2_with (first | ((with_reducible refine gate_dst (N := 3) rfl ?_); refine box_event ?hg (N := 3) ?hd (cs := #[.int .u8 a0_0, .int .u8 a0_1, .int .u8 a0_2, .int .u8 a0_3, .int .u8 a0_4]) (t := 23) ?hr ?_; (case hd => rfl); (case hg => rfl); (case hr => first | (go_simp; done) | (go_simp; rfl)); intro gb364 hg w4 hbox hb; have n0_ := Aside0.mk (below_step (by repeat (first | (with_reducible first | exact HB.out | apply below_alloc | apply pw_below_drewN | apply below_drew1) | exact HB.out)) hb); have n1_ := Aside0.mk (hbox); have n2_ := Aside0.mk ((by rw [hg]; exact (below_size (by repeat (first | (with_reducible first | exact HB.out | apply below_alloc | apply pw_below_drewN | apply below_drew1) | exact HB.out))) : w.heap.size ≤ gb364)); have n3_ := Aside0.mk ((by rw [hg]; exact (below_size (by repeat (first | (with_reducible first | exact HB.out | apply below_alloc | apply pw_below_drewN | apply below_drew1) | exact HB.out))) : w.heap.size ≤ gb364)); clear HB; have HB := n0_; have BK364 := n1_; have GW364 := n2_; have GE364 := n3_; clear n0_ n1_ n2_ n3_; clear hb hbox hg))
  go_loopg [7, 8] k (fun kq v7 v8 w' => ∃ (x7_1 : ByteArray) (x8_1 : Int), v7 = .string x7_1 ∧ v8 = .int .i64 x8_1 ∧ Aside0 (lamplighterref08_Make.l0 kq a1 l2 x7_1 x8_1 a0_0 a0_1 a0_2 a0_3 a0_4 = some r) ∧ Aside0 (kq ≤ k) ∧ Aside0 (w'.heap[gb364]? = some (.cells #[.int .u8 a0_0, .int .u8 a0_1, .int .u8 a0_2, .int .u8 a0_3, .int .u8 a0_4] 23 (0, 0))) ∧ Aside0 (Below w.heap.size w w'))
  case atStart => exact ⟨(a1), (0), (by first | rfl | (simp; done) | (simp [*]; done)), (by first | rfl | (simp; done) | (simp [*]; done)), H', ⟨Nat.le_refl _⟩, ⟨by (with_reducible repeat (first | refine blk_drewN ?_ _ | refine blk_drew ?_ | refine blk_alloc ?_ _)); exact BK364.out⟩, ⟨by repeat (first | (with_reducible first | exact HB.out | apply below_alloc | apply pw_below_drewN | apply below_drew1 | refine below_set ?_ GE364.out) | exact HB.out)⟩⟩
  case round =>
    clear H'
    try clear c2
    try clear p2
    obtain ⟨x7_1, x8_1, rfl, rfl, HA, HK1, BK364, HB⟩ := hrel
    cases gk with
    | zero => exact absurd HA.out (by simp [lamplighterref08_Make.l0])
    | succ k1 =>
      have H := HA.out
      clear HA
      simp only [lamplighterref08_Make.l0] at H
      by_cases c5 : x8_1 < (l2.length : Int)
      · rw [if_pos c5] at H
        have c5b0 : decide (x8_1 < (l2.length : Int)) = true := decide_eq_true c5
        clear c5
        by_cases c6 : a1.toList = ([77, 83, 72] : List UInt8)
        · rw [if_pos c6] at H
          have c6b0 : (a1.toList == ([77, 83, 72] : List UInt8)) = true := beq_iff_eq.mpr c6
          have c6b1 : (a1.toList != ([77, 83, 72] : List UInt8)) = false := bne_eq_false_iff_eq.mpr c6
          clear c6
          by_cases c7 : x8_1 > 1
          · rw [if_pos c7] at H
            have c7b0 : decide (1 < x8_1) = true := decide_eq_true c7
            clear c7
            obtain ⟨y365, hy365⟩ : ∃ y_ : List Int, y_ = (([a0_0] : List Int)) := ⟨_, rfl⟩
            replace H : (if x7_1.size + (strOfNums y365).size ≤ 9223372036854775807 then (if 0 ≤ x8_1 then (if (x7_1 ++ (strOfNums y365)).size + (rdOf ByteArray.empty l2 x8_1).size ≤ 9223372036854775807 then (lamplighterref08_Make.l0 k1 a1 l2 ((x7_1 ++ (strOfNums y365)) ++ (rdOf ByteArray.empty l2 x8_1)) (wrap64 (x8_1 + 1)) a0_0 a0_1 a0_2 a0_3 a0_4) else (none)) else (none)) else (none)) = some r := by first | (rw [hy365]; with_reducible exact H) | (have H2_ := (Option.bind_some _ _).symm.trans H; rw [hy365]; with_reducible exact H2_) | (have H2_ := (Option.bind_some _ _).symm.trans H; with_reducible exact H2_) | with_reducible exact H | (rw [hy365]; exact H) | exact H
            have Ny365 := Aside0.mk hy365
            clear hy365
            by_cases c8 : x7_1.size + (strOfNums y365).size ≤ 9223372036854775807
            · rw [if_pos c8] at H
              have c8b0 := eq_true c8
              have c8b1 : decide (x7_1.size + (strOfNums y365).size ≤ 9223372036854775807) = true := decide_eq_true c8
              try have c8b2 : (9223372036854775807 < x7_1.size + (strOfNums y365).size) = False := eq_false (Nat.not_lt.2 c8)
              try (have c8b4 := c8b2; simp only [ByteArray.size_append] at c8b4)
              by_cases c9 : 0 ≤ x8_1
              · rw [if_pos c9] at H
                have c9b0 : decide (0 ≤ x8_1) = true := decide_eq_true c9
                clear c9
                by_cases c10 : (x7_1 ++ (strOfNums y365)).size + (rdOf ByteArray.empty l2 x8_1).size ≤ 9223372036854775807
                · rw [if_pos c10] at H
                  have c10b0 := eq_true c10
                  have c10b1 : decide ((x7_1 ++ (strOfNums y365)).size + (rdOf ByteArray.empty l2 x8_1).size ≤ 9223372036854775807) = true := decide_eq_true c10
                  try have c10b2 : (9223372036854775807 < (x7_1 ++ (strOfNums y365)).size + (rdOf ByteArray.empty l2 x8_1).size) = False := eq_false (Nat.not_lt.2 c10)
                  try (have c10b4 := c10b2; simp only [ByteArray.size_append] at c10b4)
                  have H' := Aside0.mk H
                  clear H
                  have hcz11_0 : wr.cell? ⟨gb364, 0, none⟩ = some (.int .u8 a0_0) := (blk_cell BK364.out 0).trans rfl
                  have hcz11_1 : wr.cell? ⟨gb364, 1, none⟩ = some (.int .u8 a0_1) := (blk_cell BK364.out 1).trans rfl
                  have hcz11_2 : wr.cell? ⟨gb364, 2, none⟩ = some (.int .u8 a0_2) := (blk_cell BK364.out 2).trans rfl
                  have hcz11_3 : wr.cell? ⟨gb364, 3, none⟩ = some (.int .u8 a0_3) := (blk_cell BK364.out 3).trans rfl
                  have hcz11_4 : wr.cell? ⟨gb364, 4, none⟩ = some (.int .u8 a0_4) := (blk_cell BK364.out 4).trans rfl
                  have hfz11_0 := blk_frozen BK364.out 0
                  have hfz11_1 := blk_frozen BK364.out 1
                  have hfz11_2 := blk_frozen BK364.out 2
                  have hfz11_3 := blk_frozen BK364.out 3
                  have hfz11_4 := blk_frozen BK364.out 4
                  go_wp2_with (first | ((with_reducible refine gate_dst (N := 25) rfl ?_); refine Kd.R_lit (Kd.int .u8) _ 5 ?hg (N := 25) ?hd (xs := ([a0_0] : List Int)) (inner := [.int .u8 a0_0]) (ok := fun _ => True) (okp := fun _ => True) ?hr ?hp (fun _ hk => hk) trivial (Below.refl _ _) (Nat.le_refl _) (by simp) ?_; (case hd => rfl); (case hg => rfl); (case hr => first | (go_simp; done) | (go_simp; rfl)); (case hp => exact (Reps.one (show Kd.M (Kd.int .u8) _ _ _ a0_0 [.int .u8 a0_0] from rfl) (Reps.none _ _))); intro v366 w12 ho13 hb hg_ hnew_; clear hg_ hnew_; (first | rw [← Ny365.out] at ho13 | (simp only [Int.reduceToNat] at ho13; rw [← Ny365.out] at ho13)); have n0_ := Aside0.mk (Kd.R_lower ho13 (below_size (by repeat (first | (with_reducible first | exact HB.out | apply below_alloc | apply pw_below_drewN | apply below_drew1 | refine below_set ?_ GE364.out) | exact HB.out)))); have n1_ := Aside0.mk (blk_below (g := gb364) (o := .cells #[.int .u8 a0_0, .int .u8 a0_1, .int .u8 a0_2, .int .u8 a0_3, .int .u8 a0_4] 23 (0, 0)) (by (with_reducible repeat (first | refine blk_drewN ?_ _ | refine blk_drew ?_ | refine blk_alloc ?_ _)); exact BK364.out) hb); have n2_ := Aside0.mk (below_step (by repeat (first | (with_reducible first | exact HB.out | apply below_alloc | apply pw_below_drewN | apply below_drew1 | refine below_set ?_ GE364.out) | exact HB.out)) hb); clear BK364; clear HB; have HO367 := n0_; have BK364 := n1_; have HB := n2_; clear n0_ n1_ n2_; clear hb ho13; have hcv14 := own_string (P := Tryd.prog) Tryd.underlying28 Tryd.underlying5 Tryd.underlying9 (Kd.own_of_R HO367.out); have p368 : 0 ≤ (x8_1 : Int) := of_decide_eq_true (by first | (with_reducible assumption) | assumption); have q368 : x8_1 < (l2.length : Int) := of_decide_eq_true (by first | (with_reducible assumption) | assumption); obtain ⟨ad368, e368, hx368_0⟩ := Kd.at_string HR2.out x8_1 p368 q368; cases e368; replace hx368_0 := (HB.out.cell (World.block_lt_of_cell? w _ hx368_0)).trans hx368_0; replace p368 := eq_true p368; replace q368 := eq_true q368))
                  go_roundg k1
                  case measure => have := HK1.out; omega
                  case rel => exact ⟨((x7_1 ++ (strOfNums y365)) ++ (rdOf ByteArray.empty l2 x8_1)), (wrap64 (x8_1 + 1)), (by first | rfl | (simp; done) | (simp [*]; done)), (by first | rfl | (simp; done) | (simp [*]; done)), H', ⟨by have := HK1.out; omega⟩, ⟨by (with_reducible repeat (first | refine blk_drewN ?_ _ | refine blk_drew ?_ | refine blk_alloc ?_ _)); exact BK364.out⟩, ⟨by repeat (first | (with_reducible first | exact HB.out | apply below_alloc | apply pw_below_drewN | apply below_drew1 | refine below_set ?_ GE364.out) | exact HB.out)⟩⟩
                · rw [if_neg c10] at H
                  exact absurd H (by simp)
              · rw [if_neg c9] at H
                exact absurd H (by simp)
            · rw [if_neg c8] at H
              exact absurd H (by simp)
          · rw [if_neg c7] at H
            have c7b0 : decide (1 < x8_1) = false := decide_eq_false c7
            clear c7
            by_cases c15 : 0 ≤ x8_1
            · rw [if_pos c15] at H
              have c15b0 : decide (0 ≤ x8_1) = true := decide_eq_true c15
              clear c15
              by_cases c16 : x7_1.size + (rdOf ByteArray.empty l2 x8_1).size ≤ 9223372036854775807
              · rw [if_pos c16] at H
                have c16b0 := eq_true c16
                have c16b1 : decide (x7_1.size + (rdOf ByteArray.empty l2 x8_1).size ≤ 9223372036854775807) = true := decide_eq_true c16
                try have c16b2 : (9223372036854775807 < x7_1.size + (rdOf ByteArray.empty l2 x8_1).size) = False := eq_false (Nat.not_lt.2 c16)
                try (have c16b4 := c16b2; simp only [ByteArray.size_append] at c16b4)
                have H' := Aside0.mk H
                clear H
                have p369 : 0 ≤ (x8_1 : Int) := of_decide_eq_true (by first | (with_reducible assumption) | assumption)
                have q369 : x8_1 < (l2.length : Int) := of_decide_eq_true (by first | (with_reducible assumption) | assumption)
                obtain ⟨ad369, e369, hx369_0⟩ := Kd.at_string HR2.out x8_1 p369 q369
                cases e369
                replace hx369_0 := (HB.out.cell (World.block_lt_of_cell? w _ hx369_0)).trans hx369_0
                replace p369 := eq_true p369
                replace q369 := eq_true q369
                go_wp2
                go_roundg k1
                case measure => have := HK1.out; omega
                case rel => exact ⟨(x7_1 ++ (rdOf ByteArray.empty l2 x8_1)), (wrap64 (x8_1 + 1)), (by first | rfl | (simp; done) | (simp [*]; done)), (by first | rfl | (simp; done) | (simp [*]; done)), H', ⟨by have := HK1.out; omega⟩, ⟨by (with_reducible repeat (first | refine blk_drewN ?_ _ | refine blk_drew ?_ | refine blk_alloc ?_ _)); exact BK364.out⟩, ⟨by repeat (first | (with_reducible first | exact HB.out | apply below_alloc | apply pw_below_drewN | apply below_drew1 | refine below_set ?_ GE364.out) | exact HB.out)⟩⟩
              · rw [if_neg c16] at H
                exact absurd H (by simp)
            · rw [if_neg c15] at H
              exact absurd H (by simp)
        · rw [if_neg c6] at H
          have c6b0 : (a1.toList == ([77, 83, 72] : List UInt8)) = false := beq_eq_false_iff_ne.mpr c6
          have c6b1 : (a1.toList != ([77, 83, 72] : List UInt8)) = true := bne_iff_ne.mpr c6
          obtain ⟨y370, hy370⟩ : ∃ y_ : List Int, y_ = (([a0_0] : List Int)) := ⟨_, rfl⟩
          replace H : (if x7_1.size + (strOfNums y370).size ≤ 9223372036854775807 then (if 0 ≤ x8_1 then (if (x7_1 ++ (strOfNums y370)).size + (rdOf ByteArray.empty l2 x8_1).size ≤ 9223372036854775807 then (lamplighterref08_Make.l0 k1 a1 l2 ((x7_1 ++ (strOfNums y370)) ++ (rdOf ByteArray.empty l2 x8_1)) (wrap64 (x8_1 + 1)) a0_0 a0_1 a0_2 a0_3 a0_4) else (none)) else (none)) else (none)) = some r := by first | (rw [hy370]; with_reducible exact H) | (have H2_ := (Option.bind_some _ _).symm.trans H; rw [hy370]; with_reducible exact H2_) | (have H2_ := (Option.bind_some _ _).symm.trans H; with_reducible exact H2_) | with_reducible exact H | (rw [hy370]; exact H) | exact H
          have Ny370 := Aside0.mk hy370
          clear hy370
          by_cases c17 : x7_1.size + (strOfNums y370).size ≤ 9223372036854775807
          · rw [if_pos c17] at H
            have c17b0 := eq_true c17
            have c17b1 : decide (x7_1.size + (strOfNums y370).size ≤ 9223372036854775807) = true := decide_eq_true c17
            try have c17b2 : (9223372036854775807 < x7_1.size + (strOfNums y370).size) = False := eq_false (Nat.not_lt.2 c17)
            try (have c17b4 := c17b2; simp only [ByteArray.size_append] at c17b4)
            by_cases c18 : 0 ≤ x8_1
            · rw [if_pos c18] at H
              have c18b0 : decide (0 ≤ x8_1) = true := decide_eq_true c18
              clear c18
              by_cases c19 : (x7_1 ++ (strOfNums y370)).size + (rdOf ByteArray.empty l2 x8_1).size ≤ 9223372036854775807
              · rw [if_pos c19] at H
                have c19b0 := eq_true c19
                have c19b1 : decide ((x7_1 ++ (strOfNums y370)).size + (rdOf ByteArray.empty l2 x8_1).size ≤ 9223372036854775807) = true := decide_eq_true c19
                try have c19b2 : (9223372036854775807 < (x7_1 ++ (strOfNums y370)).size + (rdOf ByteArray.empty l2 x8_1).size) = False := eq_false (Nat.not_lt.2 c19)
                try (have c19b4 := c19b2; simp only [ByteArray.size_append] at c19b4)
                have H' := Aside0.mk H
                clear H
                have hcz20_0 : wr.cell? ⟨gb364, 0, none⟩ = some (.int .u8 a0_0) := (blk_cell BK364.out 0).trans rfl
                have hcz20_1 : wr.cell? ⟨gb364, 1, none⟩ = some (.int .u8 a0_1) := (blk_cell BK364.out 1).trans rfl
                have hcz20_2 : wr.cell? ⟨gb364, 2, none⟩ = some (.int .u8 a0_2) := (blk_cell BK364.out 2).trans rfl
                have hcz20_3 : wr.cell? ⟨gb364, 3, none⟩ = some (.int .u8 a0_3) := (blk_cell BK364.out 3).trans rfl
                have hcz20_4 : wr.cell? ⟨gb364, 4, none⟩ = some (.int .u8 a0_4) := (blk_cell BK364.out 4).trans rfl
                have hfz20_0 := blk_frozen BK364.out 0
                have hfz20_1 := blk_frozen BK364.out 1
                have hfz20_2 := blk_frozen BK364.out 2
                have hfz20_3 := blk_frozen BK364.out 3
                have hfz20_4 := blk_frozen BK364.out 4
                go_wp2_with (first | ((with_reducible refine gate_dst (N := 25) rfl ?_); refine Kd.R_lit (Kd.int .u8) _ 5 ?hg (N := 25) ?hd (xs := ([a0_0] : List Int)) (inner := [.int .u8 a0_0]) (ok := fun _ => True) (okp := fun _ => True) ?hr ?hp (fun _ hk => hk) trivial (Below.refl _ _) (Nat.le_refl _) (by simp) ?_; (case hd => rfl); (case hg => rfl); (case hr => first | (go_simp; done) | (go_simp; rfl)); (case hp => exact (Reps.one (show Kd.M (Kd.int .u8) _ _ _ a0_0 [.int .u8 a0_0] from rfl) (Reps.none _ _))); intro v371 w21 ho22 hb hg_ hnew_; clear hg_ hnew_; (first | rw [← Ny370.out] at ho22 | (simp only [Int.reduceToNat] at ho22; rw [← Ny370.out] at ho22)); have n0_ := Aside0.mk (Kd.R_lower ho22 (below_size (by repeat (first | (with_reducible first | exact HB.out | apply below_alloc | apply pw_below_drewN | apply below_drew1 | refine below_set ?_ GE364.out) | exact HB.out)))); have n1_ := Aside0.mk (blk_below (g := gb364) (o := .cells #[.int .u8 a0_0, .int .u8 a0_1, .int .u8 a0_2, .int .u8 a0_3, .int .u8 a0_4] 23 (0, 0)) (by (with_reducible repeat (first | refine blk_drewN ?_ _ | refine blk_drew ?_ | refine blk_alloc ?_ _)); exact BK364.out) hb); have n2_ := Aside0.mk (below_step (by repeat (first | (with_reducible first | exact HB.out | apply below_alloc | apply pw_below_drewN | apply below_drew1 | refine below_set ?_ GE364.out) | exact HB.out)) hb); clear BK364; clear HB; have HO372 := n0_; have BK364 := n1_; have HB := n2_; clear n0_ n1_ n2_; clear hb ho22; have hcv23 := own_string (P := Tryd.prog) Tryd.underlying28 Tryd.underlying5 Tryd.underlying9 (Kd.own_of_R HO372.out); have p373 : 0 ≤ (x8_1 : Int) := of_decide_eq_true (by first | (with_reducible assumption) | assumption); have q373 : x8_1 < (l2.length : Int) := of_decide_eq_true (by first | (with_reducible assumption) | assumption); obtain ⟨ad373, e373, hx373_0⟩ := Kd.at_string HR2.out x8_1 p373 q373; cases e373; replace hx373_0 := (HB.out.cell (World.block_lt_of_cell? w _ hx373_0)).trans hx373_0; replace p373 := eq_true p373; replace q373 := eq_true q373))
                go_roundg k1
                case measure => have := HK1.out; omega
                case rel => exact ⟨((x7_1 ++ (strOfNums y370)) ++ (rdOf ByteArray.empty l2 x8_1)), (wrap64 (x8_1 + 1)), (by first | rfl | (simp; done) | (simp [*]; done)), (by first | rfl | (simp; done) | (simp [*]; done)), H', ⟨by have := HK1.out; omega⟩, ⟨by (with_reducible repeat (first | refine blk_drewN ?_ _ | refine blk_drew ?_ | refine blk_alloc ?_ _)); exact BK364.out⟩, ⟨by repeat (first | (with_reducible first | exact HB.out | apply below_alloc | apply pw_below_drewN | apply below_drew1 | refine below_set ?_ GE364.out) | exact HB.out)⟩⟩
              · rw [if_neg c19] at H
                exact absurd H (by simp)
            · rw [if_neg c18] at H
              exact absurd H (by simp)
          · rw [if_neg c17] at H
            exact absurd H (by simp)
      · rw [if_neg c5] at H
        have c5b0 : decide (x8_1 < (l2.length : Int)) = false := decide_eq_false c5
        clear c5
        obtain rfl := Option.some.inj H
        go_wp2
        go_ret
        exact ⟨by first | rfl | (simp [errW_none, errW_some] <;> rfl) | (simp [*, errW_none, errW_some] <;> rfl), by repeat (first | (with_reducible first | exact HB.out | apply below_alloc | apply pw_below_drewN | apply below_drew1 | refine below_set ?_ GE364.out) | exact HB.out)⟩

/-! ### lamplighterref09_texts: function 45 -/
def lamplighterref09_texts.f (a0_0 : Int) (a0_1 : Int) (a0_2 : Int) (a0_3 : Int) (a0_4 : Int) (a0_5 : ByteArray) (a0_6 : ByteArray) (a0_7 : ByteArray) (a0_8 : ByteArray) (a0_9 : ByteArray) (a0_10 : ByteArray) (a0_11 : ByteArray) (a0_12 : ByteArray) (a0_13 : ByteArray) (a0_14 : ByteArray) : Option (List ByteArray) := some (([a0_5, a0_6, a0_7, a0_8, a0_9, a0_10, a0_11, a0_12, a0_13, a0_14] : List ByteArray))
set_option maxHeartbeats 8000000 in
set_option maxRecDepth 100000 in
theorem lamplighterref09_texts.calls (a0_0 : Int) (a0_1 : Int) (a0_2 : Int) (a0_3 : Int) (a0_4 : Int) (a0_5 : ByteArray) (a0_6 : ByteArray) (a0_7 : ByteArray) (a0_8 : ByteArray) (a0_9 : ByteArray) (a0_10 : ByteArray) (a0_11 : ByteArray) (a0_12 : ByteArray) (a0_13 : ByteArray) (a0_14 : ByteArray) (r : List ByteArray) (w : World) (h : lamplighterref09_texts.f a0_0 a0_1 a0_2 a0_3 a0_4 a0_5 a0_6 a0_7 a0_8 a0_9 a0_10 a0_11 a0_12 a0_13 a0_14 = some r) :
    Calls Tryd.prog 45 #[.agg #[.int .u8 a0_0, .int .u8 a0_1, .int .u8 a0_2, .int .u8 a0_3, .int .u8 a0_4, .string a0_5, .string a0_6, .string a0_7, .string a0_8, .string a0_9, .string a0_10, .string a0_11, .string a0_12, .string a0_13, .string a0_14]] w fun e w' => ∃ v0_ : Value, e = .returned (v0_) ∧ Kd.R Kd.string 9 w' w.heap.size (fun _ => True) v0_ r ∧ Below w.heap.size w w' := by
  have hu25 := Tryd.underlying25
  have HB := Aside0.mk (Below.refl w.heap.size w)
  have H : (some (([a0_5, a0_6, a0_7, a0_8, a0_9, a0_10, a0_11, a0_12, a0_13, a0_14] : List ByteArray))) = some r := h
  clear h
  obtain ⟨y375, hy375⟩ : ∃ y_ : List ByteArray, y_ = (([a0_5, a0_6, a0_7, a0_8, a0_9, a0_10, a0_11, a0_12, a0_13, a0_14] : List ByteArray)) := ⟨_, rfl⟩
  replace H : (some y375) = some r := by first | (rw [hy375]; with_reducible exact H) | (have H2_ := (Option.bind_some _ _).symm.trans H; rw [hy375]; with_reducible exact H2_) | (have H2_ := (Option.bind_some _ _).symm.trans H; with_reducible exact H2_) | with_reducible exact H | (rw [hy375]; exact H) | exact H
  have Ny375 := Aside0.mk hy375
  clear hy375
  obtain rfl := Option.some.inj H
  go_enter Tryd.func45, Tryd.ntmps45
  go_wp2_with (first | ((with_reducible refine gate_dst (N := 1) rfl ?_); refine box_event ?hg (N := 1) ?hd (cs := #[.int .u8 a0_0, .int .u8 a0_1, .int .u8 a0_2, .int .u8 a0_3, .int .u8 a0_4, .string a0_5, .string a0_6, .string a0_7, .string a0_8, .string a0_9, .string a0_10, .string a0_11, .string a0_12, .string a0_13, .string a0_14]) (t := 25) ?hr ?_; (case hd => rfl); (case hg => rfl); (case hr => first | (go_simp; done) | (go_simp; rfl)); intro gb374 hg w2 hbox hb; have n0_ := Aside0.mk (below_step (by repeat (first | (with_reducible first | exact HB.out | apply below_alloc | apply pw_below_drewN | apply below_drew1) | exact HB.out)) hb); have n1_ := Aside0.mk (hbox); have n2_ := Aside0.mk ((by rw [hg]; exact (below_size (by repeat (first | (with_reducible first | exact HB.out | apply below_alloc | apply pw_below_drewN | apply below_drew1) | exact HB.out))) : w.heap.size ≤ gb374)); have n3_ := Aside0.mk ((by rw [hg]; exact (below_size (by repeat (first | (with_reducible first | exact HB.out | apply below_alloc | apply pw_below_drewN | apply below_drew1) | exact HB.out))) : w.heap.size ≤ gb374)); clear HB; have HB := n0_; have BK374 := n1_; have GW374 := n2_; have GE374 := n3_; clear n0_ n1_ n2_ n3_; clear hb hbox hg; have hcz3_0 : w2.cell? ⟨gb374, 0, none⟩ = some (.int .u8 a0_0) := (blk_cell BK374.out 0).trans rfl; have hcz3_1 : w2.cell? ⟨gb374, 1, none⟩ = some (.int .u8 a0_1) := (blk_cell BK374.out 1).trans rfl; have hcz3_2 : w2.cell? ⟨gb374, 2, none⟩ = some (.int .u8 a0_2) := (blk_cell BK374.out 2).trans rfl; have hcz3_3 : w2.cell? ⟨gb374, 3, none⟩ = some (.int .u8 a0_3) := (blk_cell BK374.out 3).trans rfl; have hcz3_4 : w2.cell? ⟨gb374, 4, none⟩ = some (.int .u8 a0_4) := (blk_cell BK374.out 4).trans rfl; have hcz3_5 : w2.cell? ⟨gb374, 5, none⟩ = some (.string a0_5) := (blk_cell BK374.out 5).trans rfl; have hcz3_6 : w2.cell? ⟨gb374, 6, none⟩ = some (.string a0_6) := (blk_cell BK374.out 6).trans rfl; have hcz3_7 : w2.cell? ⟨gb374, 7, none⟩ = some (.string a0_7) := (blk_cell BK374.out 7).trans rfl; have hcz3_8 : w2.cell? ⟨gb374, 8, none⟩ = some (.string a0_8) := (blk_cell BK374.out 8).trans rfl; have hcz3_9 : w2.cell? ⟨gb374, 9, none⟩ = some (.string a0_9) := (blk_cell BK374.out 9).trans rfl; have hcz3_10 : w2.cell? ⟨gb374, 10, none⟩ = some (.string a0_10) := (blk_cell BK374.out 10).trans rfl; have hcz3_11 : w2.cell? ⟨gb374, 11, none⟩ = some (.string a0_11) := (blk_cell BK374.out 11).trans rfl; have hcz3_12 : w2.cell? ⟨gb374, 12, none⟩ = some (.string a0_12) := (blk_cell BK374.out 12).trans rfl; have hcz3_13 : w2.cell? ⟨gb374, 13, none⟩ = some (.string a0_13) := (blk_cell BK374.out 13).trans rfl; have hcz3_14 : w2.cell? ⟨gb374, 14, none⟩ = some (.string a0_14) := (blk_cell BK374.out 14).trans rfl; have hfz3_0 := blk_frozen BK374.out 0; have hfz3_1 := blk_frozen BK374.out 1; have hfz3_2 := blk_frozen BK374.out 2; have hfz3_3 := blk_frozen BK374.out 3; have hfz3_4 := blk_frozen BK374.out 4; have hfz3_5 := blk_frozen BK374.out 5; have hfz3_6 := blk_frozen BK374.out 6; have hfz3_7 := blk_frozen BK374.out 7; have hfz3_8 := blk_frozen BK374.out 8; have hfz3_9 := blk_frozen BK374.out 9; have hfz3_10 := blk_frozen BK374.out 10; have hfz3_11 := blk_frozen BK374.out 11; have hfz3_12 := blk_frozen BK374.out 12; have hfz3_13 := blk_frozen BK374.out 13; have hfz3_14 := blk_frozen BK374.out 14) | ((with_reducible refine gate_dst (N := 23) rfl ?_); refine Kd.R_lit Kd.string _ 9 ?hg (N := 23) ?hd (xs := ([a0_5, a0_6, a0_7, a0_8, a0_9, a0_10, a0_11, a0_12, a0_13, a0_14] : List ByteArray)) (inner := [.string a0_5, .string a0_6, .string a0_7, .string a0_8, .string a0_9, .string a0_10, .string a0_11, .string a0_12, .string a0_13, .string a0_14]) (ok := fun _ => True) (okp := fun _ => True) ?hr ?hp (fun _ hk => hk) trivial (Below.refl _ _) (Nat.le_refl _) (by simp) ?_; (case hd => rfl); (case hg => rfl); (case hr => first | (go_simp; done) | (go_simp; rfl)); (case hp => exact (Reps.one (show Kd.M Kd.string _ _ _ a0_5 [.string a0_5] from rfl) (Reps.one (show Kd.M Kd.string _ _ _ a0_6 [.string a0_6] from rfl) (Reps.one (show Kd.M Kd.string _ _ _ a0_7 [.string a0_7] from rfl) (Reps.one (show Kd.M Kd.string _ _ _ a0_8 [.string a0_8] from rfl) (Reps.one (show Kd.M Kd.string _ _ _ a0_9 [.string a0_9] from rfl) (Reps.one (show Kd.M Kd.string _ _ _ a0_10 [.string a0_10] from rfl) (Reps.one (show Kd.M Kd.string _ _ _ a0_11 [.string a0_11] from rfl) (Reps.one (show Kd.M Kd.string _ _ _ a0_12 [.string a0_12] from rfl) (Reps.one (show Kd.M Kd.string _ _ _ a0_13 [.string a0_13] from rfl) (Reps.one (show Kd.M Kd.string _ _ _ a0_14 [.string a0_14] from rfl) (Reps.none _ _)))))))))))); intro v376 w4 ho5 hb hg_ hnew_; clear hg_ hnew_; (first | rw [← Ny375.out] at ho5 | (simp only [Int.reduceToNat] at ho5; rw [← Ny375.out] at ho5)); have n0_ := Aside0.mk (Kd.R_lower ho5 (below_size (by repeat (first | (with_reducible first | exact HB.out | apply below_alloc | apply pw_below_drewN | apply below_drew1 | refine below_set ?_ GE374.out) | exact HB.out)))); have n1_ := Aside0.mk (blk_below (g := gb374) (o := .cells #[.int .u8 a0_0, .int .u8 a0_1, .int .u8 a0_2, .int .u8 a0_3, .int .u8 a0_4, .string a0_5, .string a0_6, .string a0_7, .string a0_8, .string a0_9, .string a0_10, .string a0_11, .string a0_12, .string a0_13, .string a0_14] 25 (0, 0)) (by (with_reducible repeat (first | refine blk_drewN ?_ _ | refine blk_drew ?_ | refine blk_alloc ?_ _)); exact BK374.out) hb); have n2_ := Aside0.mk (below_step (by repeat (first | (with_reducible first | exact HB.out | apply below_alloc | apply pw_below_drewN | apply below_drew1 | refine below_set ?_ GE374.out) | exact HB.out)) hb); clear BK374; clear HB; have HO377 := n0_; have BK374 := n1_; have HB := n2_; clear n0_ n1_ n2_; clear hb ho5))
  go_ret
  exact ⟨_, by first | rfl | (simp [errW_none, errW_some] <;> rfl) | (simp [*, errW_none, errW_some] <;> rfl), by (with_reducible repeat (first | apply Kd.R_alloc | apply Kd.R_drewN | apply Kd.R_drew)); exact HO377.out, by repeat (first | (with_reducible first | exact HB.out | apply below_alloc | apply pw_below_drewN | apply below_drew1 | refine below_set ?_ GE374.out) | exact HB.out)⟩

end Go.Proofs.YtcjcaojgminjpaaDoor.PA
