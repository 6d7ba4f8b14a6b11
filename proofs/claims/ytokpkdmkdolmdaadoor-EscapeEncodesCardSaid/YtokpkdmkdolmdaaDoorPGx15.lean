-- Written by a program of this work (the kit's print, with contracts of this work's own taken in) out of the translation. Not trusted: Lean checks it.
import Derived.Test.YtokpkdmkdolmdaaDoorPGx0
import Derived.Test.YtokpkdmkdolmdaaDoorPGx13
namespace Go.Proofs.YtokpkdmkdolmdaaDoor.PG
open Go.RowKit Go.Proofs.YtokpkdmkdolmdaaDoorW.PrintWords Go.Proofs.YtokpkdmkdolmdaaDoorW.PrintLast Go.Proofs.YtokpkdmkdolmdaaDoorW.PrintMore
attribute [local go_sem] max2_int min2_int max_two min_two max_three min_three max_four min_four   -- for this text's walks alone
set_option linter.unusedVariables false
set_option linter.unusedSimpArgs false

/-! ### lamplighterref07_Encode: function 17 -/
def lamplighterref07_Encode.l0 : Nat → ByteArray → ByteArray → ByteArray → Int → Int → Int → Int → Int → Int → Option (ByteArray)
  | 0, _, _, _, _, _, _, _, _, _ => none
  | k + 1, x0, x5, x6, x7, x221000, x221001, x221002, x221003, x221004 => if x7 < (x0.size : Int) then (if 0 ≤ x7 then ((lamplighterref07_letter.f (bt x0 x7) x221000 x221001 x221002 x221003 x221004).bind fun t224 => (if t224 = 0 then (if (bt x0 x7) = 11 then (if x6.size + x5.size ≤ 9223372036854775807 then (if (x6 ++ x5).size + 3 ≤ 9223372036854775807 then (if ((x6 ++ x5) ++ (⟨#[88, 48, 66]⟩ : ByteArray)).size + x5.size ≤ 9223372036854775807 then (lamplighterref07_Encode.l0 k x0 x5 (((x6 ++ x5) ++ (⟨#[88, 48, 66]⟩ : ByteArray)) ++ x5) (wrap64 (x7 + 1)) x221000 x221001 x221002 x221003 x221004) else (none)) else (none)) else (none)) else (if (bt x0 x7) = 13 then (if x6.size + x5.size ≤ 9223372036854775807 then (if (x6 ++ x5).size + 3 ≤ 9223372036854775807 then (if ((x6 ++ x5) ++ (⟨#[88, 48, 68]⟩ : ByteArray)).size + x5.size ≤ 9223372036854775807 then (lamplighterref07_Encode.l0 k x0 x5 (((x6 ++ x5) ++ (⟨#[88, 48, 68]⟩ : ByteArray)) ++ x5) (wrap64 (x7 + 1)) x221000 x221001 x221002 x221003 x221004) else (none)) else (none)) else (none)) else (if (bt x0 x7) = 28 then (if x6.size + x5.size ≤ 9223372036854775807 then (if (x6 ++ x5).size + 3 ≤ 9223372036854775807 then (if ((x6 ++ x5) ++ (⟨#[88, 49, 67]⟩ : ByteArray)).size + x5.size ≤ 9223372036854775807 then (lamplighterref07_Encode.l0 k x0 x5 (((x6 ++ x5) ++ (⟨#[88, 49, 67]⟩ : ByteArray)) ++ x5) (wrap64 (x7 + 1)) x221000 x221001 x221002 x221003 x221004) else (none)) else (none)) else (none)) else (if x7 ≤ (wrap64 (x7 + 1)) then (if (wrap64 (x7 + 1)) ≤ (x0.size : Int) then (if x6.size + (x0.extract (x7 : Int).toNat ((wrap64 (x7 + 1)) : Int).toNat).size ≤ 9223372036854775807 then (lamplighterref07_Encode.l0 k x0 x5 (x6 ++ (x0.extract (x7 : Int).toNat ((wrap64 (x7 + 1)) : Int).toNat)) (wrap64 (x7 + 1)) x221000 x221001 x221002 x221003 x221004) else (none)) else (none)) else (none))))) else (if x6.size + x5.size ≤ 9223372036854775807 then ((some (([t224] : List Int) : List Int)).bind fun y225 => (if (x6 ++ x5).size + (strOfNums y225).size ≤ 9223372036854775807 then (if ((x6 ++ x5) ++ (strOfNums y225)).size + x5.size ≤ 9223372036854775807 then (lamplighterref07_Encode.l0 k x0 x5 (((x6 ++ x5) ++ (strOfNums y225)) ++ x5) (wrap64 (x7 + 1)) x221000 x221001 x221002 x221003 x221004) else (none)) else (none))) else (none)))) else (none)) else (some x6)
def lamplighterref07_Encode.f (k : Nat) (a0 : ByteArray) (a1_0 : Int) (a1_1 : Int) (a1_2 : Int) (a1_3 : Int) (a1_4 : Int) : Option (ByteArray) := lamplighterref07_Encode.l0 k a0 (strOfNums (([a1_3] : List Int))) (⟨#[]⟩ : ByteArray) 0 a1_0 a1_1 a1_2 a1_3 a1_4
theorem lamplighterref07_Encode.mono_l : ∀ k, (∀ y0 y1 y2 y3 y4 y5 y6 y7 y8, LeO (lamplighterref07_Encode.l0 k y0 y1 y2 y3 y4 y5 y6 y7 y8) (lamplighterref07_Encode.l0 (k + 1) y0 y1 y2 y3 y4 y5 y6 y7 y8))
  | 0 => fun _ _ _ _ _ _ _ _ _ r h => by simp [lamplighterref07_Encode.l0] at h
  | k + 1 => by
    have ih0 := lamplighterref07_Encode.mono_l k
    · intro y0 y1 y2 y3 y4 y5 y6 y7 y8
      unfold lamplighterref07_Encode.l0
      repeat' first
      | (with_reducible exact ih0 _ _ _ _ _ _ _ _ _)
      | (with_reducible exact LeO.refl _)
      | (with_reducible exact LeO.none _)
      | (with_reducible refine LeO.ite ?_ ?_)
      | (with_reducible refine LeO.bind ?_ (fun _ => ?_))
      | exact ih0 _ _ _ _ _ _ _ _ _
      | exact LeO.none _
      | refine LeO.ite ?_ ?_
      | refine LeO.bind ?_ (fun _ => ?_)
theorem lamplighterref07_Encode.mono : ∀ a0 a1 a2 a3 a4 a5 k, LeO (lamplighterref07_Encode.f k a0 a1 a2 a3 a4 a5) (lamplighterref07_Encode.f (k + 1) a0 a1 a2 a3 a4 a5) := by
  intro a0 a1 a2 a3 a4 a5 k
  have ih0 := lamplighterref07_Encode.mono_l k
  unfold lamplighterref07_Encode.f
  repeat' first
      | (with_reducible exact ih0 _ _ _ _ _ _ _ _ _)
      | (with_reducible exact LeO.refl _)
      | (with_reducible exact LeO.none _)
      | (with_reducible refine LeO.ite ?_ ?_)
      | (with_reducible refine LeO.bind ?_ (fun _ => ?_))
      | exact ih0 _ _ _ _ _ _ _ _ _
      | exact LeO.none _
      | refine LeO.ite ?_ ?_
      | refine LeO.bind ?_ (fun _ => ?_)
set_option maxHeartbeats 8000000 in
set_option maxRecDepth 100000 in
theorem lamplighterref07_Encode.calls (k : Nat) (a0 : ByteArray) (a1_0 : Int) (a1_1 : Int) (a1_2 : Int) (a1_3 : Int) (a1_4 : Int) (r : ByteArray) (w : World) (h : lamplighterref07_Encode.f k a0 a1_0 a1_1 a1_2 a1_3 a1_4 = some r) :
    Calls Tryd.prog 17 #[.string a0, .agg #[.int .u8 a1_0, .int .u8 a1_1, .int .u8 a1_2, .int .u8 a1_3, .int .u8 a1_4]] w fun e w' => e = .returned (.string r) ∧ Below w.heap.size w w' := by
  have hu23 := Tryd.underlying23
  have HB := Aside0.mk (Below.refl w.heap.size w)
  have H : (lamplighterref07_Encode.l0 k a0 (strOfNums (([a1_3] : List Int))) (⟨#[]⟩ : ByteArray) 0 a1_0 a1_1 a1_2 a1_3 a1_4) = some r := h
  clear h
  obtain ⟨y221, hy221⟩ : ∃ y_ : List Int, y_ = (([a1_3] : List Int)) := ⟨_, rfl⟩
  replace H : (lamplighterref07_Encode.l0 k a0 (strOfNums y221) (⟨#[]⟩ : ByteArray) 0 a1_0 a1_1 a1_2 a1_3 a1_4) = some r := by first | (rw [hy221]; with_reducible exact H) | (have H2_ := (Option.bind_some _ _).symm.trans H; rw [hy221]; with_reducible exact H2_) | (have H2_ := (Option.bind_some _ _).symm.trans H; with_reducible exact H2_) | with_reducible exact H | (rw [hy221]; exact H) | exact H
  have Ny221 := Aside0.mk hy221
  clear hy221
  have H' := Aside0.mk H
  clear H
  go_enter Tryd.func17, Tryd.ntmps17
  go_wp2_with (first | ((with_reducible refine gate_dst (N := 3) rfl ?_); refine box_event ?hg (N := 3) ?hd (cs := #[.int .u8 a1_0, .int .u8 a1_1, .int .u8 a1_2, .int .u8 a1_3, .int .u8 a1_4]) (t := 23) ?hr ?_; (case hd => rfl); (case hg => rfl); (case hr => first | (go_simp; done) | (go_simp; rfl)); intro gb220 hg w3 hbox hb; have n0_ := Aside0.mk (below_step (by repeat (first | (with_reducible first | exact HB.out | apply below_alloc | apply pw_below_drewN | apply below_drew1) | exact HB.out)) hb); have n1_ := Aside0.mk (hbox); have n2_ := Aside0.mk ((by rw [hg]; exact (below_size (by repeat (first | (with_reducible first | exact HB.out | apply below_alloc | apply pw_below_drewN | apply below_drew1) | exact HB.out))) : w.heap.size ≤ gb220)); have n3_ := Aside0.mk ((by rw [hg]; exact (below_size (by repeat (first | (with_reducible first | exact HB.out | apply below_alloc | apply pw_below_drewN | apply below_drew1) | exact HB.out))) : w.heap.size ≤ gb220)); clear HB; have HB := n0_; have BK220 := n1_; have GW220 := n2_; have GE220 := n3_; clear n0_ n1_ n2_ n3_; clear hb hbox hg; have hcz4_0 : w3.cell? ⟨gb220, 0, none⟩ = some (.int .u8 a1_0) := (blk_cell BK220.out 0).trans rfl; have hcz4_1 : w3.cell? ⟨gb220, 1, none⟩ = some (.int .u8 a1_1) := (blk_cell BK220.out 1).trans rfl; have hcz4_2 : w3.cell? ⟨gb220, 2, none⟩ = some (.int .u8 a1_2) := (blk_cell BK220.out 2).trans rfl; have hcz4_3 : w3.cell? ⟨gb220, 3, none⟩ = some (.int .u8 a1_3) := (blk_cell BK220.out 3).trans rfl; have hcz4_4 : w3.cell? ⟨gb220, 4, none⟩ = some (.int .u8 a1_4) := (blk_cell BK220.out 4).trans rfl; have hfz4_0 := blk_frozen BK220.out 0; have hfz4_1 := blk_frozen BK220.out 1; have hfz4_2 := blk_frozen BK220.out 2; have hfz4_3 := blk_frozen BK220.out 3; have hfz4_4 := blk_frozen BK220.out 4) | ((with_reducible refine gate_dst (N := 11) rfl ?_); refine Kd.R_lit (Kd.int .u8) _ 5 ?hg (N := 11) ?hd (xs := ([a1_3] : List Int)) (inner := [.int .u8 a1_3]) (ok := fun _ => True) (okp := fun _ => True) ?hr ?hp (fun _ hk => hk) trivial (Below.refl _ _) (Nat.le_refl _) (by simp) ?_; (case hd => rfl); (case hg => rfl); (case hr => first | (go_simp; done) | (go_simp; rfl)); (case hp => exact (Reps.one (show Kd.M (Kd.int .u8) _ _ _ a1_3 [.int .u8 a1_3] from rfl) (Reps.none _ _))); intro v222 w5 ho6 hb hg_ hnew_; clear hg_ hnew_; (first | rw [← Ny221.out] at ho6 | (simp only [Int.reduceToNat] at ho6; rw [← Ny221.out] at ho6)); have n0_ := Aside0.mk (Kd.R_lower ho6 (below_size (by repeat (first | (with_reducible first | exact HB.out | apply below_alloc | apply pw_below_drewN | apply below_drew1 | refine below_set ?_ GE220.out) | exact HB.out)))); have n1_ := Aside0.mk (blk_below (g := gb220) (o := .cells #[.int .u8 a1_0, .int .u8 a1_1, .int .u8 a1_2, .int .u8 a1_3, .int .u8 a1_4] 23 (0, 0)) (by (with_reducible repeat (first | refine blk_drewN ?_ _ | refine blk_drew ?_ | refine blk_alloc ?_ _)); exact BK220.out) hb); have n2_ := Aside0.mk (below_step (by repeat (first | (with_reducible first | exact HB.out | apply below_alloc | apply pw_below_drewN | apply below_drew1 | refine below_set ?_ GE220.out) | exact HB.out)) hb); clear BK220; clear HB; have HO223 := n0_; have BK220 := n1_; have HB := n2_; clear n0_ n1_ n2_; clear hb ho6; have hcv7 := own_string (P := Tryd.prog) Tryd.underlying31 Tryd.underlying5 Tryd.underlying9 (Kd.own_of_R HO223.out)))
  go_loopg [6, 7] k (fun kq v6 v7 w' => ∃ (x6_1 : ByteArray) (x7_1 : Int), v6 = .string x6_1 ∧ v7 = .int .i64 x7_1 ∧ Aside0 (lamplighterref07_Encode.l0 kq a0 (strOfNums y221) x6_1 x7_1 a1_0 a1_1 a1_2 a1_3 a1_4 = some r) ∧ Aside0 (kq ≤ k) ∧ Aside0 (w'.heap[gb220]? = some (.cells #[.int .u8 a1_0, .int .u8 a1_1, .int .u8 a1_2, .int .u8 a1_3, .int .u8 a1_4] 23 (0, 0))) ∧ Aside0 (Below w.heap.size w w'))
  case atStart => exact ⟨((⟨#[]⟩ : ByteArray)), (0), (by first | rfl | (simp; done) | (simp [*]; done)), (by first | rfl | (simp; done) | (simp [*]; done)), H', ⟨Nat.le_refl _⟩, ⟨by (with_reducible repeat (first | refine blk_drewN ?_ _ | refine blk_drew ?_ | refine blk_alloc ?_ _)); exact BK220.out⟩, ⟨by repeat (first | (with_reducible first | exact HB.out | apply below_alloc | apply pw_below_drewN | apply below_drew1 | refine below_set ?_ GE220.out) | exact HB.out)⟩⟩
  case round =>
    clear H'
    try clear c1
    try clear p2
    try clear hcv7
    try clear hcz4_0
    try clear hcz4_1
    try clear hcz4_2
    try clear hcz4_3
    try clear hcz4_4
    try clear hfz4_0
    try clear hfz4_1
    try clear hfz4_2
    try clear hfz4_3
    try clear hfz4_4
    obtain ⟨x6_1, x7_1, rfl, rfl, HA, HK1, BK220, HB⟩ := hrel
    cases gk with
    | zero => exact absurd HA.out (by simp [lamplighterref07_Encode.l0])
    | succ k1 =>
      have H := HA.out
      clear HA
      simp only [lamplighterref07_Encode.l0] at H
      by_cases c8 : x7_1 < (a0.size : Int)
      · rw [if_pos c8] at H
        have c8b0 : decide (x7_1 < (a0.size : Int)) = true := decide_eq_true c8
        clear c8
        by_cases c9 : 0 ≤ x7_1
        · rw [if_pos c9] at H
          have c9b0 : decide (0 ≤ x7_1) = true := decide_eq_true c9
          clear c9
          replace H := Option.bind_eq_some_iff.mp H
          obtain ⟨t224, A110, H⟩ := H
          replace H : (if t224 = 0 then (if (bt a0 x7_1) = 11 then (if x6_1.size + (strOfNums y221).size ≤ 9223372036854775807 then (if (x6_1 ++ (strOfNums y221)).size + 3 ≤ 9223372036854775807 then (if ((x6_1 ++ (strOfNums y221)) ++ (⟨#[88, 48, 66]⟩ : ByteArray)).size + (strOfNums y221).size ≤ 9223372036854775807 then (lamplighterref07_Encode.l0 k1 a0 (strOfNums y221) (((x6_1 ++ (strOfNums y221)) ++ (⟨#[88, 48, 66]⟩ : ByteArray)) ++ (strOfNums y221)) (wrap64 (x7_1 + 1)) a1_0 a1_1 a1_2 a1_3 a1_4) else (none)) else (none)) else (none)) else (if (bt a0 x7_1) = 13 then (if x6_1.size + (strOfNums y221).size ≤ 9223372036854775807 then (if (x6_1 ++ (strOfNums y221)).size + 3 ≤ 9223372036854775807 then (if ((x6_1 ++ (strOfNums y221)) ++ (⟨#[88, 48, 68]⟩ : ByteArray)).size + (strOfNums y221).size ≤ 9223372036854775807 then (lamplighterref07_Encode.l0 k1 a0 (strOfNums y221) (((x6_1 ++ (strOfNums y221)) ++ (⟨#[88, 48, 68]⟩ : ByteArray)) ++ (strOfNums y221)) (wrap64 (x7_1 + 1)) a1_0 a1_1 a1_2 a1_3 a1_4) else (none)) else (none)) else (none)) else (if (bt a0 x7_1) = 28 then (if x6_1.size + (strOfNums y221).size ≤ 9223372036854775807 then (if (x6_1 ++ (strOfNums y221)).size + 3 ≤ 9223372036854775807 then (if ((x6_1 ++ (strOfNums y221)) ++ (⟨#[88, 49, 67]⟩ : ByteArray)).size + (strOfNums y221).size ≤ 9223372036854775807 then (lamplighterref07_Encode.l0 k1 a0 (strOfNums y221) (((x6_1 ++ (strOfNums y221)) ++ (⟨#[88, 49, 67]⟩ : ByteArray)) ++ (strOfNums y221)) (wrap64 (x7_1 + 1)) a1_0 a1_1 a1_2 a1_3 a1_4) else (none)) else (none)) else (none)) else (if x7_1 ≤ (wrap64 (x7_1 + 1)) then (if (wrap64 (x7_1 + 1)) ≤ (a0.size : Int) then (if x6_1.size + (a0.extract (x7_1 : Int).toNat ((wrap64 (x7_1 + 1)) : Int).toNat).size ≤ 9223372036854775807 then (lamplighterref07_Encode.l0 k1 a0 (strOfNums y221) (x6_1 ++ (a0.extract (x7_1 : Int).toNat ((wrap64 (x7_1 + 1)) : Int).toNat)) (wrap64 (x7_1 + 1)) a1_0 a1_1 a1_2 a1_3 a1_4) else (none)) else (none)) else (none))))) else (if x6_1.size + (strOfNums y221).size ≤ 9223372036854775807 then ((some (([t224] : List Int) : List Int)).bind fun y225 => (if (x6_1 ++ (strOfNums y221)).size + (strOfNums y225).size ≤ 9223372036854775807 then (if ((x6_1 ++ (strOfNums y221)) ++ (strOfNums y225)).size + (strOfNums y221).size ≤ 9223372036854775807 then (lamplighterref07_Encode.l0 k1 a0 (strOfNums y221) (((x6_1 ++ (strOfNums y221)) ++ (strOfNums y225)) ++ (strOfNums y221)) (wrap64 (x7_1 + 1)) a1_0 a1_1 a1_2 a1_3 a1_4) else (none)) else (none))) else (none))) = some r := H
          have A11 := Aside0.mk A110
          clear A110
          by_cases c12 : t224 = 0
          · rw [if_pos c12] at H
            have c12b0 : (t224 == 0) = true := beq_iff_eq.mpr c12
            have c12b1 : (t224 != 0) = false := bne_eq_false_iff_eq.mpr c12
            clear c12
            by_cases c14 : (bt a0 x7_1) = 11
            · rw [if_pos c14] at H
              have c14b0 : ((bt a0 x7_1) == 11) = true := beq_iff_eq.mpr c14
              have c14b1 : ((bt a0 x7_1) != 11) = false := bne_eq_false_iff_eq.mpr c14
              clear c14
              by_cases c15 : x6_1.size + (strOfNums y221).size ≤ 9223372036854775807
              · rw [if_pos c15] at H
                have c15b0 := eq_true c15
                have c15b1 : decide (x6_1.size + (strOfNums y221).size ≤ 9223372036854775807) = true := decide_eq_true c15
                try have c15b2 : (9223372036854775807 < x6_1.size + (strOfNums y221).size) = False := eq_false (Nat.not_lt.2 c15)
                try (have c15b4 := c15b2; simp only [ByteArray.size_append] at c15b4)
                by_cases c16 : (x6_1 ++ (strOfNums y221)).size + 3 ≤ 9223372036854775807
                · rw [if_pos c16] at H
                  have c16b0 := eq_true c16
                  have c16b1 : decide ((x6_1 ++ (strOfNums y221)).size + 3 ≤ 9223372036854775807) = true := decide_eq_true c16
                  try have c16b2 : (9223372036854775807 < (x6_1 ++ (strOfNums y221)).size + 3) = False := eq_false (Nat.not_lt.2 c16)
                  try (have c16b4 := c16b2; simp only [ByteArray.size_append] at c16b4)
                  by_cases c17 : ((x6_1 ++ (strOfNums y221)) ++ (⟨#[88, 48, 66]⟩ : ByteArray)).size + (strOfNums y221).size ≤ 9223372036854775807
                  · rw [if_pos c17] at H
                    have c17b0 := eq_true c17
                    have c17b1 : decide (((x6_1 ++ (strOfNums y221)) ++ (⟨#[88, 48, 66]⟩ : ByteArray)).size + (strOfNums y221).size ≤ 9223372036854775807) = true := decide_eq_true c17
                    try have c17b2 : (9223372036854775807 < ((x6_1 ++ (strOfNums y221)) ++ (⟨#[88, 48, 66]⟩ : ByteArray)).size + (strOfNums y221).size) = False := eq_false (Nat.not_lt.2 c17)
                    try (have c17b4 := c17b2; simp only [ByteArray.size_append] at c17b4)
                    have H' := Aside0.mk H
                    clear H
                    try go_wp2
                    have n0_ := Aside0.mk (blk_drew BK220.out)
                    have n1_ := Aside0.mk (below_drew1 HB.out)
                    clear BK220
                    clear HB
                    have BK220 := n0_
                    have HB := n1_
                    clear n0_ n1_
                    have p10 : 0 ≤ (x7_1 : Int) := of_decide_eq_true (by first | (with_reducible assumption) | assumption)
                    have q10 : x7_1 < (a0.size : Int) := of_decide_eq_true (by first | (with_reducible assumption) | assumption)
                    have hx10 := bt_at a0 x7_1
                    replace p10 := eq_true p10
                    replace q10 := eq_true q10
                    refine start_ (n := 6) (S := fun w' => w'.cell? ⟨gb220, 0, none⟩ = some (.int .u8 a1_0) ∧ w'.cell? ⟨gb220, 1, none⟩ = some (.int .u8 a1_1) ∧ w'.cell? ⟨gb220, 2, none⟩ = some (.int .u8 a1_2) ∧ w'.cell? ⟨gb220, 3, none⟩ = some (.int .u8 a1_3) ∧ w'.cell? ⟨gb220, 4, none⟩ = some (.int .u8 a1_4)) (ds := []) #[false, false, false, false, false, false] (by kernel_rfl) rfl rfl ⟨(blk_cell BK220.out 0).trans rfl, (blk_cell BK220.out 1).trans rfl, (blk_cell BK220.out 2).trans rfl, (blk_cell BK220.out 3).trans rfl, (blk_cell BK220.out 4).trans rfl⟩ (fun hHeld => ?_)
                    generalize wr.drew = w18 at BK220 HB hHeld ⊢
                    refine pure_ (i := 0) (N := some 19) (v := ?_) (a' := ?_) #[true, false, false, false, false, false] rfl rfl (by kernel_rfl) (fun _ _ _ h => h) (Or.inl ⟨by rfl, ?_⟩) ?_ ?_
                    rotate_left
                    · intro w'
                      go_simp
                      with_reducible rfl
                    rotate_left
                    · simp only [Act.put, List.setIfInBounds_toArray, List.set_cons_zero, List.set_cons_succ, i64_w, i32_w]
                      rfl
                    refine pure_ (i := 1) (N := some 20) (v := ?_) (a' := ?_) #[true, true, false, false, false, false] rfl rfl (by kernel_rfl) (fun _ _ _ h => h) (Or.inl ⟨by rfl, ?_⟩) ?_ ?_
                    rotate_left
                    · intro w'
                      go_simp
                      with_reducible rfl
                    rotate_left
                    · simp only [Act.put, List.setIfInBounds_toArray, List.set_cons_zero, List.set_cons_succ, i64_w, i32_w]
                      rfl
                    refine take_ (i := 2) (N := some 21) (v := ?_) (a' := ?_) #[true, true, true, false, false, false] rfl rfl (by kernel_rfl) (fun _ _ _ h => h) (Or.inl ⟨by rfl, ?_⟩) hHeld ?_ ?_
                    rotate_left
                    · rintro w' ⟨s0, s1, s2, s3, s4⟩
                      go_simp
                      with_reducible rfl
                    rotate_left
                    · simp only [Act.put, List.setIfInBounds_toArray, List.set_cons_zero, List.set_cons_succ, i64_w, i32_w]
                      rfl
                    refine take_ (i := 3) (N := some 22) (v := ?_) (a' := ?_) #[true, true, true, true, false, false] rfl rfl (by kernel_rfl) (fun _ _ _ h => h) (Or.inl ⟨by rfl, ?_⟩) hHeld ?_ ?_
                    rotate_left
                    · rintro w' ⟨s0, s1, s2, s3, s4⟩
                      go_simp
                      with_reducible rfl
                    rotate_left
                    · simp only [Act.put, List.setIfInBounds_toArray, List.set_cons_zero, List.set_cons_succ, i64_w, i32_w]
                      rfl
                    refine one_ (i := 4) (N := some 23) #[true, true, true, true, true, false] rfl rfl (by kernel_rfl) (by decide) (fun K hK => ?_)
                    refine goes_ Tryd.func28 (by kernel_rfl) rfl #[.int .u8 (bt a0 x7_1), .agg #[.int .u8 a1_0, .int .u8 a1_1, .int .u8 a1_2, .int .u8 a1_3, .int .u8 a1_4]] (by rfl) rfl rfl (by (try simp only [List.map_toArray, List.map_cons, List.map_nil]); first | done | rfl | (simp only [List.length_drop, List.length_take]; rfl)) ?_
                    with_reducible refine (lamplighterref07_letter.calls (bt a0 x7_1) a1_0 a1_1 a1_2 a1_3 a1_4 t224 _ A11.out).mono ?_
                    rintro e w19 ⟨rfl, hb⟩
                    refine ⟨_, rfl, ?_⟩
                    have n0_ := Aside0.mk (blk_below (g := gb220) (o := .cells #[.int .u8 a1_0, .int .u8 a1_1, .int .u8 a1_2, .int .u8 a1_3, .int .u8 a1_4] 23 (0, 0)) (by (with_reducible repeat (first | refine blk_drewN ?_ _ | refine blk_drew ?_ | refine blk_alloc ?_ _)); exact BK220.out) hb)
                    have n1_ := Aside0.mk (below_step (by repeat (first | (with_reducible first | exact HB.out | apply below_alloc | apply pw_below_drewN | apply below_drew1 | refine below_set ?_ GE220.out) | exact HB.out)) hb)
                    clear BK220
                    clear HB
                    have BK220 := n0_
                    have HB := n1_
                    clear n0_ n1_
                    (try clear hb)
                    (try clear hb2)
                    (try clear hk)
                    (try clear hi)
                    refine hK.out _ _ ⟨(blk_cell BK220.out 0).trans rfl, (blk_cell BK220.out 1).trans rfl, (blk_cell BK220.out 2).trans rfl, (blk_cell BK220.out 3).trans rfl, (blk_cell BK220.out 4).trans rfl⟩ (fun hHeld => ?_)
                    clear hK K
                    refine norm_ (a' := ?_) ?_ ?_
                    rotate_left
                    · show Act.put _ (some 23) _ = _
                      simp only [Act.put, List.setIfInBounds_toArray, List.set_cons_zero, List.set_cons_succ, i64_w, i32_w]
                      rfl
                    refine pure_ (i := 5) (N := some 8) (v := ?_) (a' := ?_) #[true, true, true, true, true, true] rfl rfl (by kernel_rfl) (fun _ _ _ h => h) (Or.inl ⟨by rfl, ?_⟩) ?_ ?_
                    rotate_left
                    · intro w'
                      go_simp
                      with_reducible rfl
                    rotate_left
                    · simp only [Act.put, List.setIfInBounds_toArray, List.set_cons_zero, List.set_cons_succ, i64_w, i32_w]
                      rfl
                    refine done_ (by kernel_rfl) ?_
                    have p13 : 0 ≤ (x7_1 : Int) := of_decide_eq_true (by first | (with_reducible assumption) | assumption)
                    have q13 : x7_1 < (a0.size : Int) := of_decide_eq_true (by first | (with_reducible assumption) | assumption)
                    have hx13 := bt_at a0 x7_1
                    replace p13 := eq_true p13
                    replace q13 := eq_true q13
                    try go_wp2
                    go_roundg k1
                    case measure => have := HK1.out; omega
                    case rel => exact ⟨(((x6_1 ++ (strOfNums y221)) ++ (⟨#[88, 48, 66]⟩ : ByteArray)) ++ (strOfNums y221)), (wrap64 (x7_1 + 1)), (by first | rfl | (simp; done) | (simp [*]; done)), (by first | rfl | (simp; done) | (simp [*]; done)), H', ⟨by have := HK1.out; omega⟩, ⟨by (with_reducible repeat (first | refine blk_drewN ?_ _ | refine blk_drew ?_ | refine blk_alloc ?_ _)); exact BK220.out⟩, ⟨by repeat (first | (with_reducible first | exact HB.out | apply below_alloc | apply pw_below_drewN | apply below_drew1 | refine below_set ?_ GE220.out) | exact HB.out)⟩⟩
                  · rw [if_neg c17] at H
                    exact absurd H (by simp)
                · rw [if_neg c16] at H
                  exact absurd H (by simp)
              · rw [if_neg c15] at H
                exact absurd H (by simp)
            · rw [if_neg c14] at H
              have c14b0 : ((bt a0 x7_1) == 11) = false := beq_eq_false_iff_ne.mpr c14
              have c14b1 : ((bt a0 x7_1) != 11) = true := bne_iff_ne.mpr c14
              by_cases c21 : (bt a0 x7_1) = 13
              · rw [if_pos c21] at H
                have c21b0 : ((bt a0 x7_1) == 13) = true := beq_iff_eq.mpr c21
                have c21b1 : ((bt a0 x7_1) != 13) = false := bne_eq_false_iff_eq.mpr c21
                clear c21
                by_cases c22 : x6_1.size + (strOfNums y221).size ≤ 9223372036854775807
                · rw [if_pos c22] at H
                  have c22b0 := eq_true c22
                  have c22b1 : decide (x6_1.size + (strOfNums y221).size ≤ 9223372036854775807) = true := decide_eq_true c22
                  try have c22b2 : (9223372036854775807 < x6_1.size + (strOfNums y221).size) = False := eq_false (Nat.not_lt.2 c22)
                  try (have c22b4 := c22b2; simp only [ByteArray.size_append] at c22b4)
                  by_cases c23 : (x6_1 ++ (strOfNums y221)).size + 3 ≤ 9223372036854775807
                  · rw [if_pos c23] at H
                    have c23b0 := eq_true c23
                    have c23b1 : decide ((x6_1 ++ (strOfNums y221)).size + 3 ≤ 9223372036854775807) = true := decide_eq_true c23
                    try have c23b2 : (9223372036854775807 < (x6_1 ++ (strOfNums y221)).size + 3) = False := eq_false (Nat.not_lt.2 c23)
                    try (have c23b4 := c23b2; simp only [ByteArray.size_append] at c23b4)
                    by_cases c24 : ((x6_1 ++ (strOfNums y221)) ++ (⟨#[88, 48, 68]⟩ : ByteArray)).size + (strOfNums y221).size ≤ 9223372036854775807
                    · rw [if_pos c24] at H
                      have c24b0 := eq_true c24
                      have c24b1 : decide (((x6_1 ++ (strOfNums y221)) ++ (⟨#[88, 48, 68]⟩ : ByteArray)).size + (strOfNums y221).size ≤ 9223372036854775807) = true := decide_eq_true c24
                      try have c24b2 : (9223372036854775807 < ((x6_1 ++ (strOfNums y221)) ++ (⟨#[88, 48, 68]⟩ : ByteArray)).size + (strOfNums y221).size) = False := eq_false (Nat.not_lt.2 c24)
                      try (have c24b4 := c24b2; simp only [ByteArray.size_append] at c24b4)
                      have H' := Aside0.mk H
                      clear H
                      try go_wp2
                      have n0_ := Aside0.mk (blk_drew BK220.out)
                      have n1_ := Aside0.mk (below_drew1 HB.out)
                      clear BK220
                      clear HB
                      have BK220 := n0_
                      have HB := n1_
                      clear n0_ n1_
                      have p10 : 0 ≤ (x7_1 : Int) := of_decide_eq_true (by first | (with_reducible assumption) | assumption)
                      have q10 : x7_1 < (a0.size : Int) := of_decide_eq_true (by first | (with_reducible assumption) | assumption)
                      have hx10 := bt_at a0 x7_1
                      replace p10 := eq_true p10
                      replace q10 := eq_true q10
                      refine start_ (n := 6) (S := fun w' => w'.cell? ⟨gb220, 0, none⟩ = some (.int .u8 a1_0) ∧ w'.cell? ⟨gb220, 1, none⟩ = some (.int .u8 a1_1) ∧ w'.cell? ⟨gb220, 2, none⟩ = some (.int .u8 a1_2) ∧ w'.cell? ⟨gb220, 3, none⟩ = some (.int .u8 a1_3) ∧ w'.cell? ⟨gb220, 4, none⟩ = some (.int .u8 a1_4)) (ds := []) #[false, false, false, false, false, false] (by kernel_rfl) rfl rfl ⟨(blk_cell BK220.out 0).trans rfl, (blk_cell BK220.out 1).trans rfl, (blk_cell BK220.out 2).trans rfl, (blk_cell BK220.out 3).trans rfl, (blk_cell BK220.out 4).trans rfl⟩ (fun hHeld => ?_)
                      generalize wr.drew = w25 at BK220 HB hHeld ⊢
                      refine pure_ (i := 0) (N := some 19) (v := ?_) (a' := ?_) #[true, false, false, false, false, false] rfl rfl (by kernel_rfl) (fun _ _ _ h => h) (Or.inl ⟨by rfl, ?_⟩) ?_ ?_
                      rotate_left
                      · intro w'
                        go_simp
                        with_reducible rfl
                      rotate_left
                      · simp only [Act.put, List.setIfInBounds_toArray, List.set_cons_zero, List.set_cons_succ, i64_w, i32_w]
                        rfl
                      refine pure_ (i := 1) (N := some 20) (v := ?_) (a' := ?_) #[true, true, false, false, false, false] rfl rfl (by kernel_rfl) (fun _ _ _ h => h) (Or.inl ⟨by rfl, ?_⟩) ?_ ?_
                      rotate_left
                      · intro w'
                        go_simp
                        with_reducible rfl
                      rotate_left
                      · simp only [Act.put, List.setIfInBounds_toArray, List.set_cons_zero, List.set_cons_succ, i64_w, i32_w]
                        rfl
                      refine take_ (i := 2) (N := some 21) (v := ?_) (a' := ?_) #[true, true, true, false, false, false] rfl rfl (by kernel_rfl) (fun _ _ _ h => h) (Or.inl ⟨by rfl, ?_⟩) hHeld ?_ ?_
                      rotate_left
                      · rintro w' ⟨s0, s1, s2, s3, s4⟩
                        go_simp
                        with_reducible rfl
                      rotate_left
                      · simp only [Act.put, List.setIfInBounds_toArray, List.set_cons_zero, List.set_cons_succ, i64_w, i32_w]
                        rfl
                      refine take_ (i := 3) (N := some 22) (v := ?_) (a' := ?_) #[true, true, true, true, false, false] rfl rfl (by kernel_rfl) (fun _ _ _ h => h) (Or.inl ⟨by rfl, ?_⟩) hHeld ?_ ?_
                      rotate_left
                      · rintro w' ⟨s0, s1, s2, s3, s4⟩
                        go_simp
                        with_reducible rfl
                      rotate_left
                      · simp only [Act.put, List.setIfInBounds_toArray, List.set_cons_zero, List.set_cons_succ, i64_w, i32_w]
                        rfl
                      refine one_ (i := 4) (N := some 23) #[true, true, true, true, true, false] rfl rfl (by kernel_rfl) (by decide) (fun K hK => ?_)
                      refine goes_ Tryd.func28 (by kernel_rfl) rfl #[.int .u8 (bt a0 x7_1), .agg #[.int .u8 a1_0, .int .u8 a1_1, .int .u8 a1_2, .int .u8 a1_3, .int .u8 a1_4]] (by rfl) rfl rfl (by (try simp only [List.map_toArray, List.map_cons, List.map_nil]); first | done | rfl | (simp only [List.length_drop, List.length_take]; rfl)) ?_
                      with_reducible refine (lamplighterref07_letter.calls (bt a0 x7_1) a1_0 a1_1 a1_2 a1_3 a1_4 t224 _ A11.out).mono ?_
                      rintro e w26 ⟨rfl, hb⟩
                      refine ⟨_, rfl, ?_⟩
                      have n0_ := Aside0.mk (blk_below (g := gb220) (o := .cells #[.int .u8 a1_0, .int .u8 a1_1, .int .u8 a1_2, .int .u8 a1_3, .int .u8 a1_4] 23 (0, 0)) (by (with_reducible repeat (first | refine blk_drewN ?_ _ | refine blk_drew ?_ | refine blk_alloc ?_ _)); exact BK220.out) hb)
                      have n1_ := Aside0.mk (below_step (by repeat (first | (with_reducible first | exact HB.out | apply below_alloc | apply pw_below_drewN | apply below_drew1 | refine below_set ?_ GE220.out) | exact HB.out)) hb)
                      clear BK220
                      clear HB
                      have BK220 := n0_
                      have HB := n1_
                      clear n0_ n1_
                      (try clear hb)
                      (try clear hb2)
                      (try clear hk)
                      (try clear hi)
                      refine hK.out _ _ ⟨(blk_cell BK220.out 0).trans rfl, (blk_cell BK220.out 1).trans rfl, (blk_cell BK220.out 2).trans rfl, (blk_cell BK220.out 3).trans rfl, (blk_cell BK220.out 4).trans rfl⟩ (fun hHeld => ?_)
                      clear hK K
                      refine norm_ (a' := ?_) ?_ ?_
                      rotate_left
                      · show Act.put _ (some 23) _ = _
                        simp only [Act.put, List.setIfInBounds_toArray, List.set_cons_zero, List.set_cons_succ, i64_w, i32_w]
                        rfl
                      refine pure_ (i := 5) (N := some 8) (v := ?_) (a' := ?_) #[true, true, true, true, true, true] rfl rfl (by kernel_rfl) (fun _ _ _ h => h) (Or.inl ⟨by rfl, ?_⟩) ?_ ?_
                      rotate_left
                      · intro w'
                        go_simp
                        with_reducible rfl
                      rotate_left
                      · simp only [Act.put, List.setIfInBounds_toArray, List.set_cons_zero, List.set_cons_succ, i64_w, i32_w]
                        rfl
                      refine done_ (by kernel_rfl) ?_
                      have p13 : 0 ≤ (x7_1 : Int) := of_decide_eq_true (by first | (with_reducible assumption) | assumption)
                      have q13 : x7_1 < (a0.size : Int) := of_decide_eq_true (by first | (with_reducible assumption) | assumption)
                      have hx13 := bt_at a0 x7_1
                      replace p13 := eq_true p13
                      replace q13 := eq_true q13
                      have p20 : 0 ≤ (x7_1 : Int) := of_decide_eq_true (by first | (with_reducible assumption) | assumption)
                      have q20 : x7_1 < (a0.size : Int) := of_decide_eq_true (by first | (with_reducible assumption) | assumption)
                      have hx20 := bt_at a0 x7_1
                      replace p20 := eq_true p20
                      replace q20 := eq_true q20
                      try go_wp2
                      go_roundg k1
                      case measure => have := HK1.out; omega
                      case rel => exact ⟨(((x6_1 ++ (strOfNums y221)) ++ (⟨#[88, 48, 68]⟩ : ByteArray)) ++ (strOfNums y221)), (wrap64 (x7_1 + 1)), (by first | rfl | (simp; done) | (simp [*]; done)), (by first | rfl | (simp; done) | (simp [*]; done)), H', ⟨by have := HK1.out; omega⟩, ⟨by (with_reducible repeat (first | refine blk_drewN ?_ _ | refine blk_drew ?_ | refine blk_alloc ?_ _)); exact BK220.out⟩, ⟨by repeat (first | (with_reducible first | exact HB.out | apply below_alloc | apply pw_below_drewN | apply below_drew1 | refine below_set ?_ GE220.out) | exact HB.out)⟩⟩
                    · rw [if_neg c24] at H
                      exact absurd H (by simp)
                  · rw [if_neg c23] at H
                    exact absurd H (by simp)
                · rw [if_neg c22] at H
                  exact absurd H (by simp)
              · rw [if_neg c21] at H
                have c21b0 : ((bt a0 x7_1) == 13) = false := beq_eq_false_iff_ne.mpr c21
                have c21b1 : ((bt a0 x7_1) != 13) = true := bne_iff_ne.mpr c21
                by_cases c28 : (bt a0 x7_1) = 28
                · rw [if_pos c28] at H
                  have c28b0 : ((bt a0 x7_1) == 28) = true := beq_iff_eq.mpr c28
                  have c28b1 : ((bt a0 x7_1) != 28) = false := bne_eq_false_iff_eq.mpr c28
                  clear c28
                  by_cases c29 : x6_1.size + (strOfNums y221).size ≤ 9223372036854775807
                  · rw [if_pos c29] at H
                    have c29b0 := eq_true c29
                    have c29b1 : decide (x6_1.size + (strOfNums y221).size ≤ 9223372036854775807) = true := decide_eq_true c29
                    try have c29b2 : (9223372036854775807 < x6_1.size + (strOfNums y221).size) = False := eq_false (Nat.not_lt.2 c29)
                    try (have c29b4 := c29b2; simp only [ByteArray.size_append] at c29b4)
                    by_cases c30 : (x6_1 ++ (strOfNums y221)).size + 3 ≤ 9223372036854775807
                    · rw [if_pos c30] at H
                      have c30b0 := eq_true c30
                      have c30b1 : decide ((x6_1 ++ (strOfNums y221)).size + 3 ≤ 9223372036854775807) = true := decide_eq_true c30
                      try have c30b2 : (9223372036854775807 < (x6_1 ++ (strOfNums y221)).size + 3) = False := eq_false (Nat.not_lt.2 c30)
                      try (have c30b4 := c30b2; simp only [ByteArray.size_append] at c30b4)
                      by_cases c31 : ((x6_1 ++ (strOfNums y221)) ++ (⟨#[88, 49, 67]⟩ : ByteArray)).size + (strOfNums y221).size ≤ 9223372036854775807
                      · rw [if_pos c31] at H
                        have c31b0 := eq_true c31
                        have c31b1 : decide (((x6_1 ++ (strOfNums y221)) ++ (⟨#[88, 49, 67]⟩ : ByteArray)).size + (strOfNums y221).size ≤ 9223372036854775807) = true := decide_eq_true c31
                        try have c31b2 : (9223372036854775807 < ((x6_1 ++ (strOfNums y221)) ++ (⟨#[88, 49, 67]⟩ : ByteArray)).size + (strOfNums y221).size) = False := eq_false (Nat.not_lt.2 c31)
                        try (have c31b4 := c31b2; simp only [ByteArray.size_append] at c31b4)
                        have H' := Aside0.mk H
                        clear H
                        try go_wp2
                        have n0_ := Aside0.mk (blk_drew BK220.out)
                        have n1_ := Aside0.mk (below_drew1 HB.out)
                        clear BK220
                        clear HB
                        have BK220 := n0_
                        have HB := n1_
                        clear n0_ n1_
                        have p10 : 0 ≤ (x7_1 : Int) := of_decide_eq_true (by first | (with_reducible assumption) | assumption)
                        have q10 : x7_1 < (a0.size : Int) := of_decide_eq_true (by first | (with_reducible assumption) | assumption)
                        have hx10 := bt_at a0 x7_1
                        replace p10 := eq_true p10
                        replace q10 := eq_true q10
                        refine start_ (n := 6) (S := fun w' => w'.cell? ⟨gb220, 0, none⟩ = some (.int .u8 a1_0) ∧ w'.cell? ⟨gb220, 1, none⟩ = some (.int .u8 a1_1) ∧ w'.cell? ⟨gb220, 2, none⟩ = some (.int .u8 a1_2) ∧ w'.cell? ⟨gb220, 3, none⟩ = some (.int .u8 a1_3) ∧ w'.cell? ⟨gb220, 4, none⟩ = some (.int .u8 a1_4)) (ds := []) #[false, false, false, false, false, false] (by kernel_rfl) rfl rfl ⟨(blk_cell BK220.out 0).trans rfl, (blk_cell BK220.out 1).trans rfl, (blk_cell BK220.out 2).trans rfl, (blk_cell BK220.out 3).trans rfl, (blk_cell BK220.out 4).trans rfl⟩ (fun hHeld => ?_)
                        generalize wr.drew = w32 at BK220 HB hHeld ⊢
                        refine pure_ (i := 0) (N := some 19) (v := ?_) (a' := ?_) #[true, false, false, false, false, false] rfl rfl (by kernel_rfl) (fun _ _ _ h => h) (Or.inl ⟨by rfl, ?_⟩) ?_ ?_
                        rotate_left
                        · intro w'
                          go_simp
                          with_reducible rfl
                        rotate_left
                        · simp only [Act.put, List.setIfInBounds_toArray, List.set_cons_zero, List.set_cons_succ, i64_w, i32_w]
                          rfl
                        refine pure_ (i := 1) (N := some 20) (v := ?_) (a' := ?_) #[true, true, false, false, false, false] rfl rfl (by kernel_rfl) (fun _ _ _ h => h) (Or.inl ⟨by rfl, ?_⟩) ?_ ?_
                        rotate_left
                        · intro w'
                          go_simp
                          with_reducible rfl
                        rotate_left
                        · simp only [Act.put, List.setIfInBounds_toArray, List.set_cons_zero, List.set_cons_succ, i64_w, i32_w]
                          rfl
                        refine take_ (i := 2) (N := some 21) (v := ?_) (a' := ?_) #[true, true, true, false, false, false] rfl rfl (by kernel_rfl) (fun _ _ _ h => h) (Or.inl ⟨by rfl, ?_⟩) hHeld ?_ ?_
                        rotate_left
                        · rintro w' ⟨s0, s1, s2, s3, s4⟩
                          go_simp
                          with_reducible rfl
                        rotate_left
                        · simp only [Act.put, List.setIfInBounds_toArray, List.set_cons_zero, List.set_cons_succ, i64_w, i32_w]
                          rfl
                        refine take_ (i := 3) (N := some 22) (v := ?_) (a' := ?_) #[true, true, true, true, false, false] rfl rfl (by kernel_rfl) (fun _ _ _ h => h) (Or.inl ⟨by rfl, ?_⟩) hHeld ?_ ?_
                        rotate_left
                        · rintro w' ⟨s0, s1, s2, s3, s4⟩
                          go_simp
                          with_reducible rfl
                        rotate_left
                        · simp only [Act.put, List.setIfInBounds_toArray, List.set_cons_zero, List.set_cons_succ, i64_w, i32_w]
                          rfl
                        refine one_ (i := 4) (N := some 23) #[true, true, true, true, true, false] rfl rfl (by kernel_rfl) (by decide) (fun K hK => ?_)
                        refine goes_ Tryd.func28 (by kernel_rfl) rfl #[.int .u8 (bt a0 x7_1), .agg #[.int .u8 a1_0, .int .u8 a1_1, .int .u8 a1_2, .int .u8 a1_3, .int .u8 a1_4]] (by rfl) rfl rfl (by (try simp only [List.map_toArray, List.map_cons, List.map_nil]); first | done | rfl | (simp only [List.length_drop, List.length_take]; rfl)) ?_
                        with_reducible refine (lamplighterref07_letter.calls (bt a0 x7_1) a1_0 a1_1 a1_2 a1_3 a1_4 t224 _ A11.out).mono ?_
                        rintro e w33 ⟨rfl, hb⟩
                        refine ⟨_, rfl, ?_⟩
                        have n0_ := Aside0.mk (blk_below (g := gb220) (o := .cells #[.int .u8 a1_0, .int .u8 a1_1, .int .u8 a1_2, .int .u8 a1_3, .int .u8 a1_4] 23 (0, 0)) (by (with_reducible repeat (first | refine blk_drewN ?_ _ | refine blk_drew ?_ | refine blk_alloc ?_ _)); exact BK220.out) hb)
                        have n1_ := Aside0.mk (below_step (by repeat (first | (with_reducible first | exact HB.out | apply below_alloc | apply pw_below_drewN | apply below_drew1 | refine below_set ?_ GE220.out) | exact HB.out)) hb)
                        clear BK220
                        clear HB
                        have BK220 := n0_
                        have HB := n1_
                        clear n0_ n1_
                        (try clear hb)
                        (try clear hb2)
                        (try clear hk)
                        (try clear hi)
                        refine hK.out _ _ ⟨(blk_cell BK220.out 0).trans rfl, (blk_cell BK220.out 1).trans rfl, (blk_cell BK220.out 2).trans rfl, (blk_cell BK220.out 3).trans rfl, (blk_cell BK220.out 4).trans rfl⟩ (fun hHeld => ?_)
                        clear hK K
                        refine norm_ (a' := ?_) ?_ ?_
                        rotate_left
                        · show Act.put _ (some 23) _ = _
                          simp only [Act.put, List.setIfInBounds_toArray, List.set_cons_zero, List.set_cons_succ, i64_w, i32_w]
                          rfl
                        refine pure_ (i := 5) (N := some 8) (v := ?_) (a' := ?_) #[true, true, true, true, true, true] rfl rfl (by kernel_rfl) (fun _ _ _ h => h) (Or.inl ⟨by rfl, ?_⟩) ?_ ?_
                        rotate_left
                        · intro w'
                          go_simp
                          with_reducible rfl
                        rotate_left
                        · simp only [Act.put, List.setIfInBounds_toArray, List.set_cons_zero, List.set_cons_succ, i64_w, i32_w]
                          rfl
                        refine done_ (by kernel_rfl) ?_
                        have p13 : 0 ≤ (x7_1 : Int) := of_decide_eq_true (by first | (with_reducible assumption) | assumption)
                        have q13 : x7_1 < (a0.size : Int) := of_decide_eq_true (by first | (with_reducible assumption) | assumption)
                        have hx13 := bt_at a0 x7_1
                        replace p13 := eq_true p13
                        replace q13 := eq_true q13
                        have p20 : 0 ≤ (x7_1 : Int) := of_decide_eq_true (by first | (with_reducible assumption) | assumption)
                        have q20 : x7_1 < (a0.size : Int) := of_decide_eq_true (by first | (with_reducible assumption) | assumption)
                        have hx20 := bt_at a0 x7_1
                        replace p20 := eq_true p20
                        replace q20 := eq_true q20
                        have p27 : 0 ≤ (x7_1 : Int) := of_decide_eq_true (by first | (with_reducible assumption) | assumption)
                        have q27 : x7_1 < (a0.size : Int) := of_decide_eq_true (by first | (with_reducible assumption) | assumption)
                        have hx27 := bt_at a0 x7_1
                        replace p27 := eq_true p27
                        replace q27 := eq_true q27
                        try go_wp2
                        go_roundg k1
                        case measure => have := HK1.out; omega
                        case rel => exact ⟨(((x6_1 ++ (strOfNums y221)) ++ (⟨#[88, 49, 67]⟩ : ByteArray)) ++ (strOfNums y221)), (wrap64 (x7_1 + 1)), (by first | rfl | (simp; done) | (simp [*]; done)), (by first | rfl | (simp; done) | (simp [*]; done)), H', ⟨by have := HK1.out; omega⟩, ⟨by (with_reducible repeat (first | refine blk_drewN ?_ _ | refine blk_drew ?_ | refine blk_alloc ?_ _)); exact BK220.out⟩, ⟨by repeat (first | (with_reducible first | exact HB.out | apply below_alloc | apply pw_below_drewN | apply below_drew1 | refine below_set ?_ GE220.out) | exact HB.out)⟩⟩
                      · rw [if_neg c31] at H
                        exact absurd H (by simp)
                    · rw [if_neg c30] at H
                      exact absurd H (by simp)
                  · rw [if_neg c29] at H
                    exact absurd H (by simp)
                · rw [if_neg c28] at H
                  have c28b0 : ((bt a0 x7_1) == 28) = false := beq_eq_false_iff_ne.mpr c28
                  have c28b1 : ((bt a0 x7_1) != 28) = true := bne_iff_ne.mpr c28
                  have c34b0 := eq_true (of_decide_eq_true (by first | (with_reducible assumption) | assumption) : 0 ≤ x7_1)
                  by_cases c35 : x7_1 ≤ (wrap64 (x7_1 + 1))
                  · rw [if_pos c35] at H
                    have c35b0 := eq_true c35
                    have c35b1 : decide (x7_1 ≤ (wrap64 (x7_1 + 1))) = true := decide_eq_true c35
                    by_cases c36 : (wrap64 (x7_1 + 1)) ≤ (a0.size : Int)
                    · rw [if_pos c36] at H
                      have c36b0 := eq_true c36
                      have c36b1 : decide ((wrap64 (x7_1 + 1)) ≤ (a0.size : Int)) = true := decide_eq_true c36
                      by_cases c37 : x6_1.size + (a0.extract (x7_1 : Int).toNat ((wrap64 (x7_1 + 1)) : Int).toNat).size ≤ 9223372036854775807
                      · rw [if_pos c37] at H
                        have c37b0 := eq_true c37
                        have c37b1 : decide (x6_1.size + (a0.extract (x7_1 : Int).toNat ((wrap64 (x7_1 + 1)) : Int).toNat).size ≤ 9223372036854775807) = true := decide_eq_true c37
                        try have c37b2 : (9223372036854775807 < x6_1.size + (a0.extract (x7_1 : Int).toNat ((wrap64 (x7_1 + 1)) : Int).toNat).size) = False := eq_false (Nat.not_lt.2 c37)
                        try (have c37b4 := c37b2; simp only [ByteArray.size_append] at c37b4)
                        try have c37b3 : (9223372036854775807 < x6_1.size + ((wrap64 (x7_1 + 1)).toNat - x7_1.toNat)) = False := eq_false (Nat.not_lt.2 (by have h_ := c37; rw [ByteArray.size_extract] at h_; have e_ : ((wrap64 (x7_1 + 1)) : Int) ≤ (a0.size : Int) := of_decide_eq_true (by first | (with_reducible assumption) | assumption); omega))
                        have H' := Aside0.mk H
                        clear H
                        try go_wp2
                        have n0_ := Aside0.mk (blk_drew BK220.out)
                        have n1_ := Aside0.mk (below_drew1 HB.out)
                        clear BK220
                        clear HB
                        have BK220 := n0_
                        have HB := n1_
                        clear n0_ n1_
                        have p10 : 0 ≤ (x7_1 : Int) := of_decide_eq_true (by first | (with_reducible assumption) | assumption)
                        have q10 : x7_1 < (a0.size : Int) := of_decide_eq_true (by first | (with_reducible assumption) | assumption)
                        have hx10 := bt_at a0 x7_1
                        replace p10 := eq_true p10
                        replace q10 := eq_true q10
                        refine start_ (n := 6) (S := fun w' => w'.cell? ⟨gb220, 0, none⟩ = some (.int .u8 a1_0) ∧ w'.cell? ⟨gb220, 1, none⟩ = some (.int .u8 a1_1) ∧ w'.cell? ⟨gb220, 2, none⟩ = some (.int .u8 a1_2) ∧ w'.cell? ⟨gb220, 3, none⟩ = some (.int .u8 a1_3) ∧ w'.cell? ⟨gb220, 4, none⟩ = some (.int .u8 a1_4)) (ds := []) #[false, false, false, false, false, false] (by kernel_rfl) rfl rfl ⟨(blk_cell BK220.out 0).trans rfl, (blk_cell BK220.out 1).trans rfl, (blk_cell BK220.out 2).trans rfl, (blk_cell BK220.out 3).trans rfl, (blk_cell BK220.out 4).trans rfl⟩ (fun hHeld => ?_)
                        generalize wr.drew = w38 at BK220 HB hHeld ⊢
                        refine pure_ (i := 0) (N := some 19) (v := ?_) (a' := ?_) #[true, false, false, false, false, false] rfl rfl (by kernel_rfl) (fun _ _ _ h => h) (Or.inl ⟨by rfl, ?_⟩) ?_ ?_
                        rotate_left
                        · intro w'
                          go_simp
                          with_reducible rfl
                        rotate_left
                        · simp only [Act.put, List.setIfInBounds_toArray, List.set_cons_zero, List.set_cons_succ, i64_w, i32_w]
                          rfl
                        refine pure_ (i := 1) (N := some 20) (v := ?_) (a' := ?_) #[true, true, false, false, false, false] rfl rfl (by kernel_rfl) (fun _ _ _ h => h) (Or.inl ⟨by rfl, ?_⟩) ?_ ?_
                        rotate_left
                        · intro w'
                          go_simp
                          with_reducible rfl
                        rotate_left
                        · simp only [Act.put, List.setIfInBounds_toArray, List.set_cons_zero, List.set_cons_succ, i64_w, i32_w]
                          rfl
                        refine take_ (i := 2) (N := some 21) (v := ?_) (a' := ?_) #[true, true, true, false, false, false] rfl rfl (by kernel_rfl) (fun _ _ _ h => h) (Or.inl ⟨by rfl, ?_⟩) hHeld ?_ ?_
                        rotate_left
                        · rintro w' ⟨s0, s1, s2, s3, s4⟩
                          go_simp
                          with_reducible rfl
                        rotate_left
                        · simp only [Act.put, List.setIfInBounds_toArray, List.set_cons_zero, List.set_cons_succ, i64_w, i32_w]
                          rfl
                        refine take_ (i := 3) (N := some 22) (v := ?_) (a' := ?_) #[true, true, true, true, false, false] rfl rfl (by kernel_rfl) (fun _ _ _ h => h) (Or.inl ⟨by rfl, ?_⟩) hHeld ?_ ?_
                        rotate_left
                        · rintro w' ⟨s0, s1, s2, s3, s4⟩
                          go_simp
                          with_reducible rfl
                        rotate_left
                        · simp only [Act.put, List.setIfInBounds_toArray, List.set_cons_zero, List.set_cons_succ, i64_w, i32_w]
                          rfl
                        refine one_ (i := 4) (N := some 23) #[true, true, true, true, true, false] rfl rfl (by kernel_rfl) (by decide) (fun K hK => ?_)
                        refine goes_ Tryd.func28 (by kernel_rfl) rfl #[.int .u8 (bt a0 x7_1), .agg #[.int .u8 a1_0, .int .u8 a1_1, .int .u8 a1_2, .int .u8 a1_3, .int .u8 a1_4]] (by rfl) rfl rfl (by (try simp only [List.map_toArray, List.map_cons, List.map_nil]); first | done | rfl | (simp only [List.length_drop, List.length_take]; rfl)) ?_
                        with_reducible refine (lamplighterref07_letter.calls (bt a0 x7_1) a1_0 a1_1 a1_2 a1_3 a1_4 t224 _ A11.out).mono ?_
                        rintro e w39 ⟨rfl, hb⟩
                        refine ⟨_, rfl, ?_⟩
                        have n0_ := Aside0.mk (blk_below (g := gb220) (o := .cells #[.int .u8 a1_0, .int .u8 a1_1, .int .u8 a1_2, .int .u8 a1_3, .int .u8 a1_4] 23 (0, 0)) (by (with_reducible repeat (first | refine blk_drewN ?_ _ | refine blk_drew ?_ | refine blk_alloc ?_ _)); exact BK220.out) hb)
                        have n1_ := Aside0.mk (below_step (by repeat (first | (with_reducible first | exact HB.out | apply below_alloc | apply pw_below_drewN | apply below_drew1 | refine below_set ?_ GE220.out) | exact HB.out)) hb)
                        clear BK220
                        clear HB
                        have BK220 := n0_
                        have HB := n1_
                        clear n0_ n1_
                        (try clear hb)
                        (try clear hb2)
                        (try clear hk)
                        (try clear hi)
                        refine hK.out _ _ ⟨(blk_cell BK220.out 0).trans rfl, (blk_cell BK220.out 1).trans rfl, (blk_cell BK220.out 2).trans rfl, (blk_cell BK220.out 3).trans rfl, (blk_cell BK220.out 4).trans rfl⟩ (fun hHeld => ?_)
                        clear hK K
                        refine norm_ (a' := ?_) ?_ ?_
                        rotate_left
                        · show Act.put _ (some 23) _ = _
                          simp only [Act.put, List.setIfInBounds_toArray, List.set_cons_zero, List.set_cons_succ, i64_w, i32_w]
                          rfl
                        refine pure_ (i := 5) (N := some 8) (v := ?_) (a' := ?_) #[true, true, true, true, true, true] rfl rfl (by kernel_rfl) (fun _ _ _ h => h) (Or.inl ⟨by rfl, ?_⟩) ?_ ?_
                        rotate_left
                        · intro w'
                          go_simp
                          with_reducible rfl
                        rotate_left
                        · simp only [Act.put, List.setIfInBounds_toArray, List.set_cons_zero, List.set_cons_succ, i64_w, i32_w]
                          rfl
                        refine done_ (by kernel_rfl) ?_
                        have p13 : 0 ≤ (x7_1 : Int) := of_decide_eq_true (by first | (with_reducible assumption) | assumption)
                        have q13 : x7_1 < (a0.size : Int) := of_decide_eq_true (by first | (with_reducible assumption) | assumption)
                        have hx13 := bt_at a0 x7_1
                        replace p13 := eq_true p13
                        replace q13 := eq_true q13
                        have p20 : 0 ≤ (x7_1 : Int) := of_decide_eq_true (by first | (with_reducible assumption) | assumption)
                        have q20 : x7_1 < (a0.size : Int) := of_decide_eq_true (by first | (with_reducible assumption) | assumption)
                        have hx20 := bt_at a0 x7_1
                        replace p20 := eq_true p20
                        replace q20 := eq_true q20
                        have p27 : 0 ≤ (x7_1 : Int) := of_decide_eq_true (by first | (with_reducible assumption) | assumption)
                        have q27 : x7_1 < (a0.size : Int) := of_decide_eq_true (by first | (with_reducible assumption) | assumption)
                        have hx27 := bt_at a0 x7_1
                        replace p27 := eq_true p27
                        replace q27 := eq_true q27
                        try go_wp2
                        go_roundg k1
                        case measure => have := HK1.out; omega
                        case rel => exact ⟨(x6_1 ++ (a0.extract (x7_1 : Int).toNat ((wrap64 (x7_1 + 1)) : Int).toNat)), (wrap64 (x7_1 + 1)), (by first | rfl | (simp; done) | (simp [*]; done)), (by first | rfl | (simp; done) | (simp [*]; done)), H', ⟨by have := HK1.out; omega⟩, ⟨by (with_reducible repeat (first | refine blk_drewN ?_ _ | refine blk_drew ?_ | refine blk_alloc ?_ _)); exact BK220.out⟩, ⟨by repeat (first | (with_reducible first | exact HB.out | apply below_alloc | apply pw_below_drewN | apply below_drew1 | refine below_set ?_ GE220.out) | exact HB.out)⟩⟩
                      · rw [if_neg c37] at H
                        exact absurd H (by simp)
                    · rw [if_neg c36] at H
                      exact absurd H (by simp)
                  · rw [if_neg c35] at H
                    exact absurd H (by simp)
          · rw [if_neg c12] at H
            have c12b0 : (t224 == 0) = false := beq_eq_false_iff_ne.mpr c12
            have c12b1 : (t224 != 0) = true := bne_iff_ne.mpr c12
            by_cases c40 : x6_1.size + (strOfNums y221).size ≤ 9223372036854775807
            · rw [if_pos c40] at H
              have c40b0 := eq_true c40
              have c40b1 : decide (x6_1.size + (strOfNums y221).size ≤ 9223372036854775807) = true := decide_eq_true c40
              try have c40b2 : (9223372036854775807 < x6_1.size + (strOfNums y221).size) = False := eq_false (Nat.not_lt.2 c40)
              try (have c40b4 := c40b2; simp only [ByteArray.size_append] at c40b4)
              obtain ⟨y225, hy225⟩ : ∃ y_ : List Int, y_ = (([t224] : List Int)) := ⟨_, rfl⟩
              replace H : (if (x6_1 ++ (strOfNums y221)).size + (strOfNums y225).size ≤ 9223372036854775807 then (if ((x6_1 ++ (strOfNums y221)) ++ (strOfNums y225)).size + (strOfNums y221).size ≤ 9223372036854775807 then (lamplighterref07_Encode.l0 k1 a0 (strOfNums y221) (((x6_1 ++ (strOfNums y221)) ++ (strOfNums y225)) ++ (strOfNums y221)) (wrap64 (x7_1 + 1)) a1_0 a1_1 a1_2 a1_3 a1_4) else (none)) else (none)) = some r := by first | (rw [hy225]; with_reducible exact H) | (have H2_ := (Option.bind_some _ _).symm.trans H; rw [hy225]; with_reducible exact H2_) | (have H2_ := (Option.bind_some _ _).symm.trans H; with_reducible exact H2_) | with_reducible exact H | (rw [hy225]; exact H) | exact H
              have Ny225 := Aside0.mk hy225
              clear hy225
              by_cases c41 : (x6_1 ++ (strOfNums y221)).size + (strOfNums y225).size ≤ 9223372036854775807
              · rw [if_pos c41] at H
                have c41b0 := eq_true c41
                have c41b1 : decide ((x6_1 ++ (strOfNums y221)).size + (strOfNums y225).size ≤ 9223372036854775807) = true := decide_eq_true c41
                try have c41b2 : (9223372036854775807 < (x6_1 ++ (strOfNums y221)).size + (strOfNums y225).size) = False := eq_false (Nat.not_lt.2 c41)
                try (have c41b4 := c41b2; simp only [ByteArray.size_append] at c41b4)
                by_cases c42 : ((x6_1 ++ (strOfNums y221)) ++ (strOfNums y225)).size + (strOfNums y221).size ≤ 9223372036854775807
                · rw [if_pos c42] at H
                  have c42b0 := eq_true c42
                  have c42b1 : decide (((x6_1 ++ (strOfNums y221)) ++ (strOfNums y225)).size + (strOfNums y221).size ≤ 9223372036854775807) = true := decide_eq_true c42
                  try have c42b2 : (9223372036854775807 < ((x6_1 ++ (strOfNums y221)) ++ (strOfNums y225)).size + (strOfNums y221).size) = False := eq_false (Nat.not_lt.2 c42)
                  try (have c42b4 := c42b2; simp only [ByteArray.size_append] at c42b4)
                  have H' := Aside0.mk H
                  clear H
                  try go_wp2
                  have n0_ := Aside0.mk (blk_drew BK220.out)
                  have n1_ := Aside0.mk (below_drew1 HB.out)
                  clear BK220
                  clear HB
                  have BK220 := n0_
                  have HB := n1_
                  clear n0_ n1_
                  have p10 : 0 ≤ (x7_1 : Int) := of_decide_eq_true (by first | (with_reducible assumption) | assumption)
                  have q10 : x7_1 < (a0.size : Int) := of_decide_eq_true (by first | (with_reducible assumption) | assumption)
                  have hx10 := bt_at a0 x7_1
                  replace p10 := eq_true p10
                  replace q10 := eq_true q10
                  refine start_ (n := 6) (S := fun w' => w'.cell? ⟨gb220, 0, none⟩ = some (.int .u8 a1_0) ∧ w'.cell? ⟨gb220, 1, none⟩ = some (.int .u8 a1_1) ∧ w'.cell? ⟨gb220, 2, none⟩ = some (.int .u8 a1_2) ∧ w'.cell? ⟨gb220, 3, none⟩ = some (.int .u8 a1_3) ∧ w'.cell? ⟨gb220, 4, none⟩ = some (.int .u8 a1_4)) (ds := []) #[false, false, false, false, false, false] (by kernel_rfl) rfl rfl ⟨(blk_cell BK220.out 0).trans rfl, (blk_cell BK220.out 1).trans rfl, (blk_cell BK220.out 2).trans rfl, (blk_cell BK220.out 3).trans rfl, (blk_cell BK220.out 4).trans rfl⟩ (fun hHeld => ?_)
                  generalize wr.drew = w43 at BK220 HB hHeld ⊢
                  refine pure_ (i := 0) (N := some 19) (v := ?_) (a' := ?_) #[true, false, false, false, false, false] rfl rfl (by kernel_rfl) (fun _ _ _ h => h) (Or.inl ⟨by rfl, ?_⟩) ?_ ?_
                  rotate_left
                  · intro w'
                    go_simp
                    with_reducible rfl
                  rotate_left
                  · simp only [Act.put, List.setIfInBounds_toArray, List.set_cons_zero, List.set_cons_succ, i64_w, i32_w]
                    rfl
                  refine pure_ (i := 1) (N := some 20) (v := ?_) (a' := ?_) #[true, true, false, false, false, false] rfl rfl (by kernel_rfl) (fun _ _ _ h => h) (Or.inl ⟨by rfl, ?_⟩) ?_ ?_
                  rotate_left
                  · intro w'
                    go_simp
                    with_reducible rfl
                  rotate_left
                  · simp only [Act.put, List.setIfInBounds_toArray, List.set_cons_zero, List.set_cons_succ, i64_w, i32_w]
                    rfl
                  refine take_ (i := 2) (N := some 21) (v := ?_) (a' := ?_) #[true, true, true, false, false, false] rfl rfl (by kernel_rfl) (fun _ _ _ h => h) (Or.inl ⟨by rfl, ?_⟩) hHeld ?_ ?_
                  rotate_left
                  · rintro w' ⟨s0, s1, s2, s3, s4⟩
                    go_simp
                    with_reducible rfl
                  rotate_left
                  · simp only [Act.put, List.setIfInBounds_toArray, List.set_cons_zero, List.set_cons_succ, i64_w, i32_w]
                    rfl
                  refine take_ (i := 3) (N := some 22) (v := ?_) (a' := ?_) #[true, true, true, true, false, false] rfl rfl (by kernel_rfl) (fun _ _ _ h => h) (Or.inl ⟨by rfl, ?_⟩) hHeld ?_ ?_
                  rotate_left
                  · rintro w' ⟨s0, s1, s2, s3, s4⟩
                    go_simp
                    with_reducible rfl
                  rotate_left
                  · simp only [Act.put, List.setIfInBounds_toArray, List.set_cons_zero, List.set_cons_succ, i64_w, i32_w]
                    rfl
                  refine one_ (i := 4) (N := some 23) #[true, true, true, true, true, false] rfl rfl (by kernel_rfl) (by decide) (fun K hK => ?_)
                  refine goes_ Tryd.func28 (by kernel_rfl) rfl #[.int .u8 (bt a0 x7_1), .agg #[.int .u8 a1_0, .int .u8 a1_1, .int .u8 a1_2, .int .u8 a1_3, .int .u8 a1_4]] (by rfl) rfl rfl (by (try simp only [List.map_toArray, List.map_cons, List.map_nil]); first | done | rfl | (simp only [List.length_drop, List.length_take]; rfl)) ?_
                  with_reducible refine (lamplighterref07_letter.calls (bt a0 x7_1) a1_0 a1_1 a1_2 a1_3 a1_4 t224 _ A11.out).mono ?_
                  rintro e w44 ⟨rfl, hb⟩
                  refine ⟨_, rfl, ?_⟩
                  have n0_ := Aside0.mk (blk_below (g := gb220) (o := .cells #[.int .u8 a1_0, .int .u8 a1_1, .int .u8 a1_2, .int .u8 a1_3, .int .u8 a1_4] 23 (0, 0)) (by (with_reducible repeat (first | refine blk_drewN ?_ _ | refine blk_drew ?_ | refine blk_alloc ?_ _)); exact BK220.out) hb)
                  have n1_ := Aside0.mk (below_step (by repeat (first | (with_reducible first | exact HB.out | apply below_alloc | apply pw_below_drewN | apply below_drew1 | refine below_set ?_ GE220.out) | exact HB.out)) hb)
                  clear BK220
                  clear HB
                  have BK220 := n0_
                  have HB := n1_
                  clear n0_ n1_
                  (try clear hb)
                  (try clear hb2)
                  (try clear hk)
                  (try clear hi)
                  refine hK.out _ _ ⟨(blk_cell BK220.out 0).trans rfl, (blk_cell BK220.out 1).trans rfl, (blk_cell BK220.out 2).trans rfl, (blk_cell BK220.out 3).trans rfl, (blk_cell BK220.out 4).trans rfl⟩ (fun hHeld => ?_)
                  clear hK K
                  refine norm_ (a' := ?_) ?_ ?_
                  rotate_left
                  · show Act.put _ (some 23) _ = _
                    simp only [Act.put, List.setIfInBounds_toArray, List.set_cons_zero, List.set_cons_succ, i64_w, i32_w]
                    rfl
                  refine pure_ (i := 5) (N := some 8) (v := ?_) (a' := ?_) #[true, true, true, true, true, true] rfl rfl (by kernel_rfl) (fun _ _ _ h => h) (Or.inl ⟨by rfl, ?_⟩) ?_ ?_
                  rotate_left
                  · intro w'
                    go_simp
                    with_reducible rfl
                  rotate_left
                  · simp only [Act.put, List.setIfInBounds_toArray, List.set_cons_zero, List.set_cons_succ, i64_w, i32_w]
                    rfl
                  refine done_ (by kernel_rfl) ?_
                  try go_wp2_with (first | ((with_reducible refine gate_dst (N := 38) rfl ?_); refine Kd.R_lit (Kd.int .u8) _ 5 ?hg (N := 38) ?hd (xs := ([t224] : List Int)) (inner := [.int .u8 t224]) (ok := fun _ => True) (okp := fun _ => True) ?hr ?hp (fun _ hk => hk) trivial (Below.refl _ _) (Nat.le_refl _) (by simp) ?_; (case hd => rfl); (case hg => rfl); (case hr => first | (go_simp; done) | (go_simp; rfl)); (case hp => exact (Reps.one (show Kd.M (Kd.int .u8) _ _ _ t224 [.int .u8 t224] from rfl) (Reps.none _ _))); intro v226 w45 ho46 hb hg_ hnew_; clear hg_ hnew_; (first | rw [← Ny225.out] at ho46 | (simp only [Int.reduceToNat] at ho46; rw [← Ny225.out] at ho46)); have n0_ := Aside0.mk (Kd.R_lower ho46 (below_size (by repeat (first | (with_reducible first | exact HB.out | apply below_alloc | apply pw_below_drewN | apply below_drew1 | refine below_set ?_ GE220.out) | exact HB.out)))); have n1_ := Aside0.mk (blk_below (g := gb220) (o := .cells #[.int .u8 a1_0, .int .u8 a1_1, .int .u8 a1_2, .int .u8 a1_3, .int .u8 a1_4] 23 (0, 0)) (by (with_reducible repeat (first | refine blk_drewN ?_ _ | refine blk_drew ?_ | refine blk_alloc ?_ _)); exact BK220.out) hb); have n2_ := Aside0.mk (below_step (by repeat (first | (with_reducible first | exact HB.out | apply below_alloc | apply pw_below_drewN | apply below_drew1 | refine below_set ?_ GE220.out) | exact HB.out)) hb); clear BK220; clear HB; have HO227 := n0_; have BK220 := n1_; have HB := n2_; clear n0_ n1_ n2_; clear hb ho46; have hcv47 := own_string (P := Tryd.prog) Tryd.underlying31 Tryd.underlying5 Tryd.underlying9 (Kd.own_of_R HO227.out)))
                  go_roundg k1
                  case measure => have := HK1.out; omega
                  case rel => exact ⟨(((x6_1 ++ (strOfNums y221)) ++ (strOfNums y225)) ++ (strOfNums y221)), (wrap64 (x7_1 + 1)), (by first | rfl | (simp; done) | (simp [*]; done)), (by first | rfl | (simp; done) | (simp [*]; done)), H', ⟨by have := HK1.out; omega⟩, ⟨by (with_reducible repeat (first | refine blk_drewN ?_ _ | refine blk_drew ?_ | refine blk_alloc ?_ _)); exact BK220.out⟩, ⟨by repeat (first | (with_reducible first | exact HB.out | apply below_alloc | apply pw_below_drewN | apply below_drew1 | refine below_set ?_ GE220.out) | exact HB.out)⟩⟩
                · rw [if_neg c42] at H
                  exact absurd H (by simp)
              · rw [if_neg c41] at H
                exact absurd H (by simp)
            · rw [if_neg c40] at H
              exact absurd H (by simp)
        · rw [if_neg c9] at H
          exact absurd H (by simp)
      · rw [if_neg c8] at H
        have c8b0 : decide (x7_1 < (a0.size : Int)) = false := decide_eq_false c8
        clear c8
        obtain rfl := Option.some.inj H
        go_wp2
        go_ret
        exact ⟨by first | rfl | (simp [errW_none, errW_some] <;> rfl) | (simp [*, errW_none, errW_some] <;> rfl), by repeat (first | (with_reducible first | exact HB.out | apply below_alloc | apply pw_below_drewN | apply below_drew1 | refine below_set ?_ GE220.out) | exact HB.out)⟩

end Go.Proofs.YtokpkdmkdolmdaaDoor.PG
