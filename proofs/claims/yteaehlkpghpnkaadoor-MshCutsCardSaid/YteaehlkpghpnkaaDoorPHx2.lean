-- Written by a program of this work (the kit's print, with contracts of this work's own taken in) out of the translation. Not trusted: Lean checks it.
import Derived.Test.YteaehlkpghpnkaaDoorPHx0
import Derived.Test.YteaehlkpghpnkaaDoorPHx1
namespace Go.Proofs.YteaehlkpghpnkaaDoor.PH
open Go.RowKit Go.Proofs.YteaehlkpghpnkaaDoorW.PrintWords Go.Proofs.YteaehlkpghpnkaaDoorW.PrintLast Go.Proofs.YteaehlkpghpnkaaDoorW.PrintMore
set_option maxHeartbeats 8000000
set_option maxRecDepth 100000
attribute [local go_sem] max2_int min2_int max_two min_two max_three min_three max_four min_four   -- for this text's walks alone
set_option linter.unusedVariables false
set_option linter.unusedSimpArgs false

attribute [local go_sem high] eqA23
/-! ### lamplighterlaw09_great: function 4 -/
def lamplighterlaw09_great.f (a0_0 : Int) (a0_1 : Int) (a0_2 : Int) (a0_3 : Int) (a0_4 : Int) (a0_5 : ByteArray) (a0_6 : ByteArray) (a0_7 : ByteArray) (a0_8 : ByteArray) (a0_9 : ByteArray) (a0_10 : ByteArray) (a0_11 : ByteArray) (a0_12 : ByteArray) (a0_13 : ByteArray) (a0_14 : ByteArray) : Option (Bool) := some (decide ((wrap64 ((wrap64 ((wrap64 ((wrap64 ((wrap64 ((wrap64 ((wrap64 ((wrap64 ((wrap64 ((a0_5.size : Int) + (a0_6.size : Int))) + (a0_7.size : Int))) + (a0_8.size : Int))) + (a0_9.size : Int))) + (a0_10.size : Int))) + (a0_11.size : Int))) + (a0_12.size : Int))) + (a0_13.size : Int))) + (a0_14.size : Int))) > 3000))
theorem lamplighterlaw09_great.calls (a0_0 : Int) (a0_1 : Int) (a0_2 : Int) (a0_3 : Int) (a0_4 : Int) (a0_5 : ByteArray) (a0_6 : ByteArray) (a0_7 : ByteArray) (a0_8 : ByteArray) (a0_9 : ByteArray) (a0_10 : ByteArray) (a0_11 : ByteArray) (a0_12 : ByteArray) (a0_13 : ByteArray) (a0_14 : ByteArray) (r : Bool) (w : World) (h : lamplighterlaw09_great.f a0_0 a0_1 a0_2 a0_3 a0_4 a0_5 a0_6 a0_7 a0_8 a0_9 a0_10 a0_11 a0_12 a0_13 a0_14 = some r) :
  Calls Tryd.prog 4 #[.agg #[.int .u8 a0_0, .int .u8 a0_1, .int .u8 a0_2, .int .u8 a0_3, .int .u8 a0_4, .string a0_5, .string a0_6, .string a0_7, .string a0_8, .string a0_9, .string a0_10, .string a0_11, .string a0_12, .string a0_13, .string a0_14]] w fun e w' => e = .returned (.bool r) ∧ Below w.heap.size w w' := by
 have hu25 := Tryd.underlying25
 have HB := Aside0.mk (Below.refl w.heap.size w)
 have H : (some (decide ((wrap64 ((wrap64 ((wrap64 ((wrap64 ((wrap64 ((wrap64 ((wrap64 ((wrap64 ((wrap64 ((a0_5.size : Int) + (a0_6.size : Int))) + (a0_7.size : Int))) + (a0_8.size : Int))) + (a0_9.size : Int))) + (a0_10.size : Int))) + (a0_11.size : Int))) + (a0_12.size : Int))) + (a0_13.size : Int))) + (a0_14.size : Int))) > 3000))) = some r := h
 clear h
 obtain rfl := Option.some.inj H
 go_enter Tryd.func4, Tryd.ntmps4
 go_wp2_with (first | ((with_reducible refine gate_dst (N := 1) rfl ?_); refine box_event ?hg (N := 1) ?hd (cs := #[.int .u8 a0_0, .int .u8 a0_1, .int .u8 a0_2, .int .u8 a0_3, .int .u8 a0_4, .string a0_5, .string a0_6, .string a0_7, .string a0_8, .string a0_9, .string a0_10, .string a0_11, .string a0_12, .string a0_13, .string a0_14]) (t := 25) ?hr ?_; (case hd => rfl); (case hg => rfl); (case hr => first | (go_simp; done) | (go_simp; rfl)); intro gb101 hg w2 hbox hb; have n0_ := Aside0.mk (below_step (by repeat (first | (with_reducible first | exact HB.out | apply bA | apply bN | apply bD) | exact HB.out)) hb); have n1_ := Aside0.mk (hbox); have n2_ := Aside0.mk ((by rw [hg]; exact (below_size (by repeat (first | (with_reducible first | exact HB.out | apply bA | apply bN | apply bD) | exact HB.out))) : w.heap.size ≤ gb101)); have n3_ := Aside0.mk ((by rw [hg]; exact (below_size (by repeat (first | (with_reducible first | exact HB.out | apply bA | apply bN | apply bD) | exact HB.out))) : w.heap.size ≤ gb101)); clear HB; have HB := n0_; have BK101 := n1_; have GW101 := n2_; have GE101 := n3_; clear n0_ n1_ n2_ n3_; clear hb hbox hg; have hcz3_0 : w2.cell? ⟨gb101, 0, none⟩ = some (.int .u8 a0_0) := blk_cell BK101.out 0; have hcz3_1 : w2.cell? ⟨gb101, 1, none⟩ = some (.int .u8 a0_1) := blk_cell BK101.out 1; have hcz3_2 : w2.cell? ⟨gb101, 2, none⟩ = some (.int .u8 a0_2) := blk_cell BK101.out 2; have hcz3_3 : w2.cell? ⟨gb101, 3, none⟩ = some (.int .u8 a0_3) := blk_cell BK101.out 3; have hcz3_4 : w2.cell? ⟨gb101, 4, none⟩ = some (.int .u8 a0_4) := blk_cell BK101.out 4; have hcz3_5 : w2.cell? ⟨gb101, 5, none⟩ = some (.string a0_5) := blk_cell BK101.out 5; have hcz3_6 : w2.cell? ⟨gb101, 6, none⟩ = some (.string a0_6) := blk_cell BK101.out 6; have hcz3_7 : w2.cell? ⟨gb101, 7, none⟩ = some (.string a0_7) := blk_cell BK101.out 7; have hcz3_8 : w2.cell? ⟨gb101, 8, none⟩ = some (.string a0_8) := blk_cell BK101.out 8; have hcz3_9 : w2.cell? ⟨gb101, 9, none⟩ = some (.string a0_9) := blk_cell BK101.out 9; have hcz3_10 : w2.cell? ⟨gb101, 10, none⟩ = some (.string a0_10) := blk_cell BK101.out 10; have hcz3_11 : w2.cell? ⟨gb101, 11, none⟩ = some (.string a0_11) := blk_cell BK101.out 11; have hcz3_12 : w2.cell? ⟨gb101, 12, none⟩ = some (.string a0_12) := blk_cell BK101.out 12; have hcz3_13 : w2.cell? ⟨gb101, 13, none⟩ = some (.string a0_13) := blk_cell BK101.out 13; have hcz3_14 : w2.cell? ⟨gb101, 14, none⟩ = some (.string a0_14) := blk_cell BK101.out 14; have hfz3_0 := blk_frozen BK101.out 0; have hfz3_1 := blk_frozen BK101.out 1; have hfz3_2 := blk_frozen BK101.out 2; have hfz3_3 := blk_frozen BK101.out 3; have hfz3_4 := blk_frozen BK101.out 4; have hfz3_5 := blk_frozen BK101.out 5; have hfz3_6 := blk_frozen BK101.out 6; have hfz3_7 := blk_frozen BK101.out 7; have hfz3_8 := blk_frozen BK101.out 8; have hfz3_9 := blk_frozen BK101.out 9; have hfz3_10 := blk_frozen BK101.out 10; have hfz3_11 := blk_frozen BK101.out 11; have hfz3_12 := blk_frozen BK101.out 12; have hfz3_13 := blk_frozen BK101.out 13; have hfz3_14 := blk_frozen BK101.out 14))
 go_ret
 exact ⟨by first | rfl | (simp [errW_none, errW_some] <;> rfl) | (simp [*, errW_none, errW_some] <;> rfl), by repeat (first | (with_reducible first | exact HB.out | apply bA | apply bN | apply bD | refine below_set ?_ GE101.out) | exact HB.out)⟩

/-! ### msh_others: function 10 -/
def msh_others.f (a0_0 : Int) (a0_1 : Int) (a0_2 : Int) (a0_3 : Int) (a0_4 : Int) : Option (ByteArray) := some (strOfNums (([a0_1, a0_2, a0_3, a0_4] : List Int)))
theorem msh_others.calls (a0_0 : Int) (a0_1 : Int) (a0_2 : Int) (a0_3 : Int) (a0_4 : Int) (r : ByteArray) (w : World) (h : msh_others.f a0_0 a0_1 a0_2 a0_3 a0_4 = some r) :
  Calls Tryd.prog 10 #[.agg #[.int .u8 a0_0, .int .u8 a0_1, .int .u8 a0_2, .int .u8 a0_3, .int .u8 a0_4]] w fun e w' => e = .returned (.string r) ∧ Below w.heap.size w w' := by
 have hu23 := Tryd.underlying23
 have HB := Aside0.mk (Below.refl w.heap.size w)
 have H : (some (strOfNums (([a0_1, a0_2, a0_3, a0_4] : List Int)))) = some r := h
 clear h
 obtain ⟨y103, hy103⟩ : ∃ y_ : List Int, y_ = (([a0_1, a0_2, a0_3, a0_4] : List Int)) := ⟨_, rfl⟩
 replace H : (some (strOfNums y103)) = some r := by first | (rw [hy103]; with_reducible exact H) | (have H2_ := (Option.bind_some _ _).symm.trans H; rw [hy103]; with_reducible exact H2_) | (have H2_ := (Option.bind_some _ _).symm.trans H; with_reducible exact H2_) | with_reducible exact H | (rw [hy103]; exact H) | exact H
 have Ny103 := Aside0.mk hy103
 clear hy103
 obtain rfl := Option.some.inj H
 go_enter Tryd.func10, Tryd.ntmps10
 go_wp2_with (first | ((with_reducible refine gate_dst (N := 1) rfl ?_); refine box_event ?hg (N := 1) ?hd (cs := #[.int .u8 a0_0, .int .u8 a0_1, .int .u8 a0_2, .int .u8 a0_3, .int .u8 a0_4]) (t := 23) ?hr ?_; (case hd => rfl); (case hg => rfl); (case hr => first | (go_simp; done) | (go_simp; rfl)); intro gb102 hg w2 hbox hb; have n0_ := Aside0.mk (below_step (by repeat (first | (with_reducible first | exact HB.out | apply bA | apply bN | apply bD) | exact HB.out)) hb); have n1_ := Aside0.mk (hbox); have n2_ := Aside0.mk ((by rw [hg]; exact (below_size (by repeat (first | (with_reducible first | exact HB.out | apply bA | apply bN | apply bD) | exact HB.out))) : w.heap.size ≤ gb102)); have n3_ := Aside0.mk ((by rw [hg]; exact (below_size (by repeat (first | (with_reducible first | exact HB.out | apply bA | apply bN | apply bD) | exact HB.out))) : w.heap.size ≤ gb102)); clear HB; have HB := n0_; have BK102 := n1_; have GW102 := n2_; have GE102 := n3_; clear n0_ n1_ n2_ n3_; clear hb hbox hg; have hcz3_0 : w2.cell? ⟨gb102, 0, none⟩ = some (.int .u8 a0_0) := blk_cell BK102.out 0; have hcz3_1 : w2.cell? ⟨gb102, 1, none⟩ = some (.int .u8 a0_1) := blk_cell BK102.out 1; have hcz3_2 : w2.cell? ⟨gb102, 2, none⟩ = some (.int .u8 a0_2) := blk_cell BK102.out 2; have hcz3_3 : w2.cell? ⟨gb102, 3, none⟩ = some (.int .u8 a0_3) := blk_cell BK102.out 3; have hcz3_4 : w2.cell? ⟨gb102, 4, none⟩ = some (.int .u8 a0_4) := blk_cell BK102.out 4; have hfz3_0 := blk_frozen BK102.out 0; have hfz3_1 := blk_frozen BK102.out 1; have hfz3_2 := blk_frozen BK102.out 2; have hfz3_3 := blk_frozen BK102.out 3; have hfz3_4 := blk_frozen BK102.out 4) | ((with_reducible refine gate_dst (N := 11) rfl ?_); refine Kd.R_lit (Kd.int .u8) _ 5 ?hg (N := 11) ?hd (xs := ([a0_1, a0_2, a0_3, a0_4] : List Int)) (inner := [.int .u8 a0_1, .int .u8 a0_2, .int .u8 a0_3, .int .u8 a0_4]) (ok := fun _ => True) (okp := fun _ => True) ?hr ?hp (fun _ hk => hk) trivial (Below.refl _ _) (Nat.le_refl _) (by simp) ?_; (case hd => rfl); (case hg => rfl); (case hr => first | (go_simp; done) | (go_simp; rfl)); (case hp => exact (Reps.one (show Kd.M (Kd.int .u8) _ _ _ a0_1 [.int .u8 a0_1] from rfl) (Reps.one (show Kd.M (Kd.int .u8) _ _ _ a0_2 [.int .u8 a0_2] from rfl) (Reps.one (show Kd.M (Kd.int .u8) _ _ _ a0_3 [.int .u8 a0_3] from rfl) (Reps.one (show Kd.M (Kd.int .u8) _ _ _ a0_4 [.int .u8 a0_4] from rfl) (Reps.none _ _)))))); intro v104 w4 ho5 hb hg_ hnew_; clear hg_ hnew_; (first | rw [← Ny103.out] at ho5 | (simp only [Int.reduceToNat] at ho5; rw [← Ny103.out] at ho5)); have n0_ := Aside0.mk (Kd.R_lower ho5 (below_size (by repeat (first | (with_reducible first | exact HB.out | apply bA | apply bN | apply bD | refine below_set ?_ GE102.out) | exact HB.out)))); have n1_ := Aside0.mk (blk_below (g := gb102) (o := .cells #[.int .u8 a0_0, .int .u8 a0_1, .int .u8 a0_2, .int .u8 a0_3, .int .u8 a0_4] 23 (0, 0)) (by (with_reducible repeat (first | refine kN ?_ _ | refine kD ?_ | refine kA ?_ _)); exact BK102.out) hb); have n2_ := Aside0.mk (below_step (by repeat (first | (with_reducible first | exact HB.out | apply bA | apply bN | apply bD | refine below_set ?_ GE102.out) | exact HB.out)) hb); clear BK102; clear HB; have HO105 := n0_; have BK102 := n1_; have HB := n2_; clear n0_ n1_ n2_; clear hb ho5; have hcv6 := own_string (P := Tryd.prog) Tryd.underlying34 Tryd.underlying5 Tryd.underlying9 (Kd.own_of_R HO105.out)))
 go_ret
 exact ⟨by first | rfl | (simp [errW_none, errW_some] <;> rfl) | (simp [*, errW_none, errW_some] <;> rfl), by repeat (first | (with_reducible first | exact HB.out | apply bA | apply bN | apply bD | refine below_set ?_ GE102.out) | exact HB.out)⟩

-- NOT PRINTED: function 11 (msh_texts)

/-! ### delim_Plain: function 19 -/
def delim_Plain.f  : Option (Int × Int × Int × Int × Int) := some (124, 94, 126, 92, 38)
theorem delim_Plain.calls  (r1 : Int) (r2 : Int) (r3 : Int) (r4 : Int) (r5 : Int) (w : World) (h : delim_Plain.f  = some (r1, r2, r3, r4, r5)) :
  Calls Tryd.prog 19 #[] w fun e w' => e = .returned (.agg #[.int .u8 r1, .int .u8 r2, .int .u8 r3, .int .u8 r4, .int .u8 r5]) ∧ Below w.heap.size w w' := by
 have hu23 := Tryd.underlying23
 have HB := Aside0.mk (Below.refl w.heap.size w)
 have H : (some (124, 94, 126, 92, 38)) = some (r1, r2, r3, r4, r5) := h
 clear h
 simp only [Option.some.injEq, Prod.mk.injEq] at H
 obtain ⟨rfl, rfl, rfl, rfl, rfl⟩ := H
 go_enter Tryd.func19, Tryd.ntmps19
 go_wp2_with (first | ((with_reducible refine gate_dst (N := 0) rfl ?_); refine box_event ?hg (N := 0) ?hd (cs := #[.int .u8 0, .int .u8 0, .int .u8 0, .int .u8 0, .int .u8 0]) (t := 23) ?hr ?_; (case hd => rfl); (case hg => rfl); (case hr => first | (go_simp; done) | (go_simp; rfl)); intro gb106 hg w1 hbox hb; have n0_ := Aside0.mk (below_step (by repeat (first | (with_reducible first | exact HB.out | apply bA | apply bN | apply bD) | exact HB.out)) hb); have n1_ := Aside0.mk (hbox); have n2_ := Aside0.mk ((by rw [hg]; exact (below_size (by repeat (first | (with_reducible first | exact HB.out | apply bA | apply bN | apply bD) | exact HB.out))) : w.heap.size ≤ gb106)); have n3_ := Aside0.mk ((by rw [hg]; exact (below_size (by repeat (first | (with_reducible first | exact HB.out | apply bA | apply bN | apply bD) | exact HB.out))) : w.heap.size ≤ gb106)); clear HB; have HB := n0_; have BK106 := n1_; have GW106 := n2_; have GE106 := n3_; clear n0_ n1_ n2_ n3_; clear hb hbox hg; have hcz2_0 : w1.cell? ⟨gb106, 0, none⟩ = some (.int .u8 0) := blk_cell BK106.out 0; have hcz2_1 : w1.cell? ⟨gb106, 1, none⟩ = some (.int .u8 0) := blk_cell BK106.out 1; have hcz2_2 : w1.cell? ⟨gb106, 2, none⟩ = some (.int .u8 0) := blk_cell BK106.out 2; have hcz2_3 : w1.cell? ⟨gb106, 3, none⟩ = some (.int .u8 0) := blk_cell BK106.out 3; have hcz2_4 : w1.cell? ⟨gb106, 4, none⟩ = some (.int .u8 0) := blk_cell BK106.out 4; have hfz2_0 := blk_frozen BK106.out 0; have hfz2_1 := blk_frozen BK106.out 1; have hfz2_2 := blk_frozen BK106.out 2; have hfz2_3 := blk_frozen BK106.out 3; have hfz2_4 := blk_frozen BK106.out 4))
 refine bodyPost_ret (results_cell_row rfl _ _ gb106 23 #[.int .u8 124, .int .u8 94, .int .u8 126, .int .u8 92, .int .u8 38] (0, 0) _ rfl (by (with_reducible repeat (first | refine kN ?_ _ | refine kD ?_ | refine kA ?_ _)); refine blk_put (cs := #[.int .u8 124, .int .u8 94, .int .u8 126, .int .u8 92, .int .u8 0]) ?_ 4 _ rfl; (with_reducible repeat (first | refine kN ?_ _ | refine kD ?_ | refine kA ?_ _)); refine blk_put (cs := #[.int .u8 124, .int .u8 94, .int .u8 126, .int .u8 0, .int .u8 0]) ?_ 3 _ rfl; (with_reducible repeat (first | refine kN ?_ _ | refine kD ?_ | refine kA ?_ _)); refine blk_put (cs := #[.int .u8 124, .int .u8 94, .int .u8 0, .int .u8 0, .int .u8 0]) ?_ 2 _ rfl; (with_reducible repeat (first | refine kN ?_ _ | refine kD ?_ | refine kA ?_ _)); refine blk_put (cs := #[.int .u8 124, .int .u8 0, .int .u8 0, .int .u8 0, .int .u8 0]) ?_ 1 _ rfl; (with_reducible repeat (first | refine kN ?_ _ | refine kD ?_ | refine kA ?_ _)); refine blk_put (cs := #[.int .u8 0, .int .u8 0, .int .u8 0, .int .u8 0, .int .u8 0]) ?_ 0 _ rfl; (with_reducible repeat (first | refine kN ?_ _ | refine kD ?_ | refine kA ?_ _)); exact BK106.out) Tryd.underlying23 rfl (by kernel_rfl)) rfl ?_
 exact ⟨by first | rfl | (simp [errW_none, errW_some] <;> rfl) | (simp [*, errW_none, errW_some] <;> rfl), by repeat (first | (with_reducible first | exact HB.out | apply bA | apply bN | apply bD | refine below_set ?_ GE106.out) | exact HB.out)⟩

/-! ### delim_five: function 20 -/
def delim_five.f (a0_0 : Int) (a0_1 : Int) (a0_2 : Int) (a0_3 : Int) (a0_4 : Int) : Option (List Int) := some (([a0_0, a0_1, a0_2, a0_3, a0_4] : List Int))
theorem delim_five.calls (a0_0 : Int) (a0_1 : Int) (a0_2 : Int) (a0_3 : Int) (a0_4 : Int) (r : List Int) (w : World) (h : delim_five.f a0_0 a0_1 a0_2 a0_3 a0_4 = some r) :
  Calls Tryd.prog 20 #[.agg #[.int .u8 a0_0, .int .u8 a0_1, .int .u8 a0_2, .int .u8 a0_3, .int .u8 a0_4]] w fun e w' => ∃ v0_ : Value, e = .returned (v0_) ∧ Kd.R (Kd.int .u8) 5 w' w.heap.size (fun _ => True) v0_ r ∧ Below w.heap.size w w' := by
 have hu23 := Tryd.underlying23
 have HB := Aside0.mk (Below.refl w.heap.size w)
 have H : (some (([a0_0, a0_1, a0_2, a0_3, a0_4] : List Int))) = some r := h
 clear h
 obtain ⟨y108, hy108⟩ : ∃ y_ : List Int, y_ = (([a0_0, a0_1, a0_2, a0_3, a0_4] : List Int)) := ⟨_, rfl⟩
 replace H : (some y108) = some r := by first | (rw [hy108]; with_reducible exact H) | (have H2_ := (Option.bind_some _ _).symm.trans H; rw [hy108]; with_reducible exact H2_) | (have H2_ := (Option.bind_some _ _).symm.trans H; with_reducible exact H2_) | with_reducible exact H | (rw [hy108]; exact H) | exact H
 have Ny108 := Aside0.mk hy108
 clear hy108
 obtain rfl := Option.some.inj H
 go_enter Tryd.func20, Tryd.ntmps20
 go_wp2_with (first | ((with_reducible refine gate_dst (N := 1) rfl ?_); refine box_event ?hg (N := 1) ?hd (cs := #[.int .u8 a0_0, .int .u8 a0_1, .int .u8 a0_2, .int .u8 a0_3, .int .u8 a0_4]) (t := 23) ?hr ?_; (case hd => rfl); (case hg => rfl); (case hr => first | (go_simp; done) | (go_simp; rfl)); intro gb107 hg w2 hbox hb; have n0_ := Aside0.mk (below_step (by repeat (first | (with_reducible first | exact HB.out | apply bA | apply bN | apply bD) | exact HB.out)) hb); have n1_ := Aside0.mk (hbox); have n2_ := Aside0.mk ((by rw [hg]; exact (below_size (by repeat (first | (with_reducible first | exact HB.out | apply bA | apply bN | apply bD) | exact HB.out))) : w.heap.size ≤ gb107)); have n3_ := Aside0.mk ((by rw [hg]; exact (below_size (by repeat (first | (with_reducible first | exact HB.out | apply bA | apply bN | apply bD) | exact HB.out))) : w.heap.size ≤ gb107)); clear HB; have HB := n0_; have BK107 := n1_; have GW107 := n2_; have GE107 := n3_; clear n0_ n1_ n2_ n3_; clear hb hbox hg; have hcz3_0 : w2.cell? ⟨gb107, 0, none⟩ = some (.int .u8 a0_0) := blk_cell BK107.out 0; have hcz3_1 : w2.cell? ⟨gb107, 1, none⟩ = some (.int .u8 a0_1) := blk_cell BK107.out 1; have hcz3_2 : w2.cell? ⟨gb107, 2, none⟩ = some (.int .u8 a0_2) := blk_cell BK107.out 2; have hcz3_3 : w2.cell? ⟨gb107, 3, none⟩ = some (.int .u8 a0_3) := blk_cell BK107.out 3; have hcz3_4 : w2.cell? ⟨gb107, 4, none⟩ = some (.int .u8 a0_4) := blk_cell BK107.out 4; have hfz3_0 := blk_frozen BK107.out 0; have hfz3_1 := blk_frozen BK107.out 1; have hfz3_2 := blk_frozen BK107.out 2; have hfz3_3 := blk_frozen BK107.out 3; have hfz3_4 := blk_frozen BK107.out 4) | ((with_reducible refine gate_dst (N := 13) rfl ?_); refine Kd.R_lit (Kd.int .u8) _ 5 ?hg (N := 13) ?hd (xs := ([a0_0, a0_1, a0_2, a0_3, a0_4] : List Int)) (inner := [.int .u8 a0_0, .int .u8 a0_1, .int .u8 a0_2, .int .u8 a0_3, .int .u8 a0_4]) (ok := fun _ => True) (okp := fun _ => True) ?hr ?hp (fun _ hk => hk) trivial (Below.refl _ _) (Nat.le_refl _) (by simp) ?_; (case hd => rfl); (case hg => rfl); (case hr => first | (go_simp; done) | (go_simp; rfl)); (case hp => exact (Reps.one (show Kd.M (Kd.int .u8) _ _ _ a0_0 [.int .u8 a0_0] from rfl) (Reps.one (show Kd.M (Kd.int .u8) _ _ _ a0_1 [.int .u8 a0_1] from rfl) (Reps.one (show Kd.M (Kd.int .u8) _ _ _ a0_2 [.int .u8 a0_2] from rfl) (Reps.one (show Kd.M (Kd.int .u8) _ _ _ a0_3 [.int .u8 a0_3] from rfl) (Reps.one (show Kd.M (Kd.int .u8) _ _ _ a0_4 [.int .u8 a0_4] from rfl) (Reps.none _ _))))))); intro v109 w4 ho5 hb hg_ hnew_; clear hg_ hnew_; (first | rw [← Ny108.out] at ho5 | (simp only [Int.reduceToNat] at ho5; rw [← Ny108.out] at ho5)); have n0_ := Aside0.mk (Kd.R_lower ho5 (below_size (by repeat (first | (with_reducible first | exact HB.out | apply bA | apply bN | apply bD | refine below_set ?_ GE107.out) | exact HB.out)))); have n1_ := Aside0.mk (blk_below (g := gb107) (o := .cells #[.int .u8 a0_0, .int .u8 a0_1, .int .u8 a0_2, .int .u8 a0_3, .int .u8 a0_4] 23 (0, 0)) (by (with_reducible repeat (first | refine kN ?_ _ | refine kD ?_ | refine kA ?_ _)); exact BK107.out) hb); have n2_ := Aside0.mk (below_step (by repeat (first | (with_reducible first | exact HB.out | apply bA | apply bN | apply bD | refine below_set ?_ GE107.out) | exact HB.out)) hb); clear BK107; clear HB; have HO110 := n0_; have BK107 := n1_; have HB := n2_; clear n0_ n1_ n2_; clear hb ho5))
 go_ret
 exact ⟨_, by first | rfl | (simp [errW_none, errW_some] <;> rfl) | (simp [*, errW_none, errW_some] <;> rfl), by (with_reducible repeat (first | apply Kd.R_alloc | apply Kd.R_drewN | apply Kd.R_drew)); exact HO110.out, by repeat (first | (with_reducible first | exact HB.out | apply bA | apply bN | apply bD | refine below_set ?_ GE107.out) | exact HB.out)⟩

-- NOT PRINTED: function 40 (bytealg_IndexByte)

/-! ### bytes_IndexByte: function 21 -/
def bytes_IndexByte.f (l0 : List Int) (a1 : Int) : Option (Int) := some (Lib.indexByte (Lib.bytesOf l0) a1.toNat.toUInt8)
theorem bytes_IndexByte.calls (A0 : Option Addr) (c0 : Nat) (l0 : List Int) (a1 : Int) (r : Int) (w : World) (hr0 : Kd.C (Kd.int .u8) w A0 l0.length l0) (hc0 : l0.length ≤ c0) (h : bytes_IndexByte.f l0 a1 = some r) :
  Calls Tryd.prog 21 #[.slice A0 l0.length c0, .int .u8 a1] w fun e w' => e = .returned (.int .i64 r) ∧ Drawn0 w w' := by
 obtain rfl := Option.some.inj h
 clear h
 have hrun : (Extern.BytealgIndexByte.indexByte #[.slice A0 l0.length c0, .int .u8 a1]).run Tryd.prog w = .ok (.int .i64 (Lib.indexByte (Lib.bytesOf l0) a1.toNat.toUInt8)) w := by
  cases A0 with
  | none =>
   have hz : l0.length = 0 := by
    rcases Nat.eq_zero_or_pos l0.length with h0 | h0
    ·exact h0
    ·obtain ⟨ad, e, _⟩ := Kd.at_int hr0 0 (by omega) (by omega)
     cases e
   have hl : l0 = [] := List.eq_nil_of_length_eq_zero hz
   subst hl
   exact Lib.run_indexByteNil w 0 c0 a1
  | some a =>
   refine Lib.run_indexByteAt w a l0.length c0 l0 rfl (fun i hi => ?_) a1
   obtain ⟨ad, e, hc⟩ := Kd.at_int hr0 (i : Int) (by omega) (by omega)
   cases e
   simpa [rd] using hc
 have HR := Lib.hid hrun
 clear hrun hr0 hc0
 go_enter Tryd.func21, Tryd.ntmps21
 go_wp2
 rw [run_callFunc_extern Tryd.func40 (by kernel_rfl) (by kernel_rfl) (by kernel_rfl) (e := Extern.BytealgIndexByte.indexByte) (by kernel_rfl), HR.out]
 simp only [Result.andThen]
 rw [Oper.upon_value]
 go_wp2
 go_ret
 exact ⟨rfl, Drawn0.refl _⟩


/-! ### delim_Right: function 9 -/
def delim_Right.l0 : Nat → List Int → List Int → Int → Int → Option (Bool)
 | 0, _, _, _, _ => none
 | k + 1, x3, x12, x13, x14 => if x14 < x13 then (if 0 ≤ x14 then (if x14 < (x12.length : Int) then (if (Go.bits .or .u8 (rd x12 x14) 32) ≥ 97 then (if (rd x12 x14) ≤ 32 then (some false) else (if (rd x12 x14) > 126 then (some false) else (if (Go.bits .or .u8 (rd x12 x14) 32) ≤ 122 then (some false) else (if (rd x12 x14) ≥ 48 then (if (rd x12 x14) ≤ 57 then (some false) else ((bytes_IndexByte.f x3 (rd x12 x14)).bind fun t121 => (if t121 < x14 then (some false) else (delim_Right.l0 k x3 x12 x13 (wrap64 (x14 + 1)))))) else ((bytes_IndexByte.f x3 (rd x12 x14)).bind fun t122 => (if t122 < x14 then (some false) else (delim_Right.l0 k x3 x12 x13 (wrap64 (x14 + 1))))))))) else (if (rd x12 x14) ≤ 32 then (some false) else (if (rd x12 x14) > 126 then (some false) else (if (rd x12 x14) ≥ 48 then (if (rd x12 x14) ≤ 57 then (some false) else ((bytes_IndexByte.f x3 (rd x12 x14)).bind fun t123 => (if t123 < x14 then (some false) else (delim_Right.l0 k x3 x12 x13 (wrap64 (x14 + 1)))))) else ((bytes_IndexByte.f x3 (rd x12 x14)).bind fun t124 => (if t124 < x14 then (some false) else (delim_Right.l0 k x3 x12 x13 (wrap64 (x14 + 1))))))))) else (none)) else (none)) else (some true)
def delim_Right.f (k : Nat) (a0_0 : Int) (a0_1 : Int) (a0_2 : Int) (a0_3 : Int) (a0_4 : Int) : Option (Bool) := (delim_Plain.f).bind fun bt112 => (if (a0_0 == bt112.1 && (a0_1 == bt112.2.1 && (a0_2 == bt112.2.2.1 && (a0_3 == bt112.2.2.2.1 && (a0_4 == bt112.2.2.2.2))))) = true then (some true) else ((delim_five.f a0_0 a0_1 a0_2 a0_3 a0_4).bind fun t117 => (delim_Right.l0 k t117 t117 (t117.length : Int) 0)))
theorem delim_Right.mono_l : ∀ k, (∀ y0 y1 y2 y3, LeO (delim_Right.l0 k y0 y1 y2 y3) (delim_Right.l0 (k + 1) y0 y1 y2 y3))
 | 0 => fun _ _ _ _ r h => by simp [delim_Right.l0] at h
 | k + 1 => by
  have ih0 := delim_Right.mono_l k
  ·intro y0 y1 y2 y3
   unfold delim_Right.l0
   repeat' first
   | (with_reducible exact ih0 _ _ _ _)
   | (with_reducible exact LeO.refl _)
   | (with_reducible exact LeO.none _)
   | (with_reducible refine LeO.ite ?_ ?_)
   | (with_reducible refine LeO.bind ?_ (fun _ => ?_))
   | exact ih0 _ _ _ _
   | exact LeO.none _
   | refine LeO.ite ?_ ?_
   | refine LeO.bind ?_ (fun _ => ?_)
theorem delim_Right.mono : ∀ a0 a1 a2 a3 a4 k, LeO (delim_Right.f k a0 a1 a2 a3 a4) (delim_Right.f (k + 1) a0 a1 a2 a3 a4) := by
 intro a0 a1 a2 a3 a4 k
 have ih0 := delim_Right.mono_l k
 unfold delim_Right.f
 repeat' first
   | (with_reducible exact ih0 _ _ _ _)
   | (with_reducible exact LeO.refl _)
   | (with_reducible exact LeO.none _)
   | (with_reducible refine LeO.ite ?_ ?_)
   | (with_reducible refine LeO.bind ?_ (fun _ => ?_))
   | exact ih0 _ _ _ _
   | exact LeO.none _
   | refine LeO.ite ?_ ?_
   | refine LeO.bind ?_ (fun _ => ?_)
theorem delim_Right.calls (k : Nat) (a0_0 : Int) (a0_1 : Int) (a0_2 : Int) (a0_3 : Int) (a0_4 : Int) (r : Bool) (w : World) (h : delim_Right.f k a0_0 a0_1 a0_2 a0_3 a0_4 = some r) :
  Calls Tryd.prog 9 #[.agg #[.int .u8 a0_0, .int .u8 a0_1, .int .u8 a0_2, .int .u8 a0_3, .int .u8 a0_4]] w fun e w' => e = .returned (.bool r) ∧ Below w.heap.size w w' := by
 have hu23 := Tryd.underlying23
 have HB := Aside0.mk (Below.refl w.heap.size w)
 have H : ((delim_Plain.f).bind fun bt112 => (if (a0_0 == bt112.1 && (a0_1 == bt112.2.1 && (a0_2 == bt112.2.2.1 && (a0_3 == bt112.2.2.2.1 && (a0_4 == bt112.2.2.2.2))))) = true then (some true) else ((delim_five.f a0_0 a0_1 a0_2 a0_3 a0_4).bind fun t117 => (delim_Right.l0 k t117 t117 (t117.length : Int) 0)))) = some r := h
 clear h
 replace H := Option.bind_eq_some_iff.mp H
 obtain ⟨⟨t112, t113, t114, t115, t116⟩, A20, H⟩ := H
 replace H : (if (a0_0 == t112 && (a0_1 == t113 && (a0_2 == t114 && (a0_3 == t115 && (a0_4 == t116))))) = true then (some true) else ((delim_five.f a0_0 a0_1 a0_2 a0_3 a0_4).bind fun t117 => (delim_Right.l0 k t117 t117 (t117.length : Int) 0))) = some r := H
 have A2 := Aside0.mk A20
 clear A20
 by_cases c3 : (a0_0 == t112 && (a0_1 == t113 && (a0_2 == t114 && (a0_3 == t115 && (a0_4 == t116))))) = true
 ·rw [if_pos c3] at H
  have c3b0 : (a0_0 == t112 && (a0_1 == t113 && (a0_2 == t114 && (a0_3 == t115 && (a0_4 == t116))))) = true := c3
  (try (have c3b1 : decide (a0_0 = t112 && (a0_1 == t113 && (a0_2 == t114 && (a0_3 == t115 && (a0_4 == t116))))) = true := by simpa using c3))
  (try (have c3b2 : (a0_0 == t112 && (a0_1 == t113 && (a0_2 == t114 && (a0_3 == t115 && (a0_4 == t116))))) = true := by simpa using c3))
  clear c3
  obtain rfl := Option.some.inj H
  go_enter Tryd.func9, Tryd.ntmps9
  try go_wp2_with (first | ((with_reducible refine gate_dst (N := 1) rfl ?_); refine box_event ?hg (N := 1) ?hd (cs := #[.int .u8 a0_0, .int .u8 a0_1, .int .u8 a0_2, .int .u8 a0_3, .int .u8 a0_4]) (t := 23) ?hr ?_; (case hd => rfl); (case hg => rfl); (case hr => first | (go_simp; done) | (go_simp; rfl)); intro gb111 hg w4 hbox hb; have n0_ := Aside0.mk (below_step (by repeat (first | (with_reducible first | exact HB.out | apply bA | apply bN | apply bD) | exact HB.out)) hb); have n1_ := Aside0.mk (hbox); have n2_ := Aside0.mk ((by rw [hg]; exact (below_size (by repeat (first | (with_reducible first | exact HB.out | apply bA | apply bN | apply bD) | exact HB.out))) : w.heap.size ≤ gb111)); have n3_ := Aside0.mk ((by rw [hg]; exact (below_size (by repeat (first | (with_reducible first | exact HB.out | apply bA | apply bN | apply bD) | exact HB.out))) : w.heap.size ≤ gb111)); clear HB; have HB := n0_; have BK111 := n1_; have GW111 := n2_; have GE111 := n3_; clear n0_ n1_ n2_ n3_; clear hb hbox hg))
  have n0_ := Aside0.mk (blk_drew BK111.out)
  have n1_ := Aside0.mk (below_drew1 HB.out)
  clear BK111
  clear HB
  have BK111 := n0_
  have HB := n1_
  clear n0_ n1_
  refine start_ (n := 3) (S := fun w' => w'.cell? ⟨gb111, 0, none⟩ = some (.int .u8 a0_0) ∧ w'.cell? ⟨gb111, 1, none⟩ = some (.int .u8 a0_1) ∧ w'.cell? ⟨gb111, 2, none⟩ = some (.int .u8 a0_2) ∧ w'.cell? ⟨gb111, 3, none⟩ = some (.int .u8 a0_3) ∧ w'.cell? ⟨gb111, 4, none⟩ = some (.int .u8 a0_4)) (ds := []) #[false, false, false] (by kernel_rfl) rfl rfl ⟨blk_cell BK111.out 0, blk_cell BK111.out 1, blk_cell BK111.out 2, blk_cell BK111.out 3, blk_cell BK111.out 4⟩ (fun hHeld => ?_)
  generalize w4.drew = w5 at BK111 HB hHeld ⊢
  refine take_ (i := 0) (N := some 7) (v := ?_) (a' := ?_) #[true, false, false] rfl rfl (by kernel_rfl) (fun _ _ _ h => h) (Or.inl ⟨by rfl, ?_⟩) hHeld ?_ ?_
  rotate_left
  ·rintro w' ⟨s0, s1, s2, s3, s4⟩
   go_simp
   with_reducible rfl
  rotate_left
  ·simp only [Act.put, sA_, s0_, s1_, i64_w, i32_w]
   rfl
  refine one_ (i := 1) (N := some 8) #[true, true, false] rfl rfl (by kernel_rfl) (by decide) (fun K hK => ?_)
  refine goes_ Tryd.func19 (by kernel_rfl) rfl #[] (by rfl) rfl rfl (by (try simp only [List.map_toArray, List.map_cons, List.map_nil]); first | done | rfl | (simp only [List.length_drop, List.length_take]; rfl)) ?_
  with_reducible refine (delim_Plain.calls  t112 t113 t114 t115 t116 _ A2.out).mono ?_
  rintro e w6 ⟨rfl, hb⟩
  refine ⟨_, rfl, ?_⟩
  have n0_ := Aside0.mk (blk_below (g := gb111) (o := .cells #[.int .u8 a0_0, .int .u8 a0_1, .int .u8 a0_2, .int .u8 a0_3, .int .u8 a0_4] 23 (0, 0)) (by (with_reducible repeat (first | refine kN ?_ _ | refine kD ?_ | refine kA ?_ _)); exact BK111.out) hb)
  have n1_ := Aside0.mk (below_step (by repeat (first | (with_reducible first | exact HB.out | apply bA | apply bN | apply bD | refine below_set ?_ GE111.out) | exact HB.out)) hb)
  clear BK111
  clear HB
  have BK111 := n0_
  have HB := n1_
  clear n0_ n1_
  (try clear hb)
  (try clear hb2)
  (try clear hk)
  (try clear hi)
  refine hK.out _ _ ⟨blk_cell BK111.out 0, blk_cell BK111.out 1, blk_cell BK111.out 2, blk_cell BK111.out 3, blk_cell BK111.out 4⟩ (fun hHeld => ?_)
  clear hK K
  refine norm_ (a' := ?_) ?_ ?_
  rotate_left
  ·show Act.put _ (some 8) _ = _
   simp only [Act.put, sA_, s0_, s1_, i64_w, i32_w]
   rfl
  refine pure_ (i := 2) (N := some 9) (v := ?_) (a' := ?_) #[true, true, true] rfl rfl (by kernel_rfl) (fun _ _ _ h => h) (Or.inl ⟨by rfl, ?_⟩) ?_ ?_
  rotate_left
  ·intro w'
   go_simp
   with_reducible rfl
  rotate_left
  ·simp only [Act.put, sA_, s0_, s1_, i64_w, i32_w]
   rfl
  refine done_ (by kernel_rfl) ?_
  try go_wp2
  go_ret
  exact ⟨by first | rfl | (simp [errW_none, errW_some] <;> rfl) | (simp [*, errW_none, errW_some] <;> rfl), by repeat (first | (with_reducible first | exact HB.out | apply bA | apply bN | apply bD | refine below_set ?_ GE111.out) | exact HB.out)⟩
 ·rw [if_neg c3] at H
  have c3b0 : (a0_0 == t112 && (a0_1 == t113 && (a0_2 == t114 && (a0_3 == t115 && (a0_4 == t116))))) = false := by simpa using c3
  (try (have c3b1 : decide (a0_0 = t112 && (a0_1 == t113 && (a0_2 == t114 && (a0_3 == t115 && (a0_4 == t116))))) = false := by simpa using c3))
  (try (have c3b2 : (a0_0 == t112 && (a0_1 == t113 && (a0_2 == t114 && (a0_3 == t115 && (a0_4 == t116))))) = false := by simpa using c3))
  (try (have c3b3 : ¬ (a0_0 = t112 && (a0_1 == t113 && (a0_2 == t114 && (a0_3 == t115 && (a0_4 == t116))))) := by simpa using c3))
  clear c3
  replace H := Option.bind_eq_some_iff.mp H
  obtain ⟨t117, A70, H⟩ := H
  replace H : (delim_Right.l0 k t117 t117 (t117.length : Int) 0) = some r := H
  have A7 := Aside0.mk A70
  clear A70
  have H' := Aside0.mk H
  clear H
  go_enter Tryd.func9, Tryd.ntmps9
  try go_wp2_with (first | ((with_reducible refine gate_dst (N := 1) rfl ?_); refine box_event ?hg (N := 1) ?hd (cs := #[.int .u8 a0_0, .int .u8 a0_1, .int .u8 a0_2, .int .u8 a0_3, .int .u8 a0_4]) (t := 23) ?hr ?_; (case hd => rfl); (case hg => rfl); (case hr => first | (go_simp; done) | (go_simp; rfl)); intro gb111 hg w8 hbox hb; have n0_ := Aside0.mk (below_step (by repeat (first | (with_reducible first | exact HB.out | apply bA | apply bN | apply bD) | exact HB.out)) hb); have n1_ := Aside0.mk (hbox); have n2_ := Aside0.mk ((by rw [hg]; exact (below_size (by repeat (first | (with_reducible first | exact HB.out | apply bA | apply bN | apply bD) | exact HB.out))) : w.heap.size ≤ gb111)); have n3_ := Aside0.mk ((by rw [hg]; exact (below_size (by repeat (first | (with_reducible first | exact HB.out | apply bA | apply bN | apply bD) | exact HB.out))) : w.heap.size ≤ gb111)); clear HB; have HB := n0_; have BK111 := n1_; have GW111 := n2_; have GE111 := n3_; clear n0_ n1_ n2_ n3_; clear hb hbox hg))
  have n0_ := Aside0.mk (blk_drew BK111.out)
  have n1_ := Aside0.mk (below_drew1 HB.out)
  clear BK111
  clear HB
  have BK111 := n0_
  have HB := n1_
  clear n0_ n1_
  refine start_ (n := 3) (S := fun w' => w'.cell? ⟨gb111, 0, none⟩ = some (.int .u8 a0_0) ∧ w'.cell? ⟨gb111, 1, none⟩ = some (.int .u8 a0_1) ∧ w'.cell? ⟨gb111, 2, none⟩ = some (.int .u8 a0_2) ∧ w'.cell? ⟨gb111, 3, none⟩ = some (.int .u8 a0_3) ∧ w'.cell? ⟨gb111, 4, none⟩ = some (.int .u8 a0_4)) (ds := []) #[false, false, false] (by kernel_rfl) rfl rfl ⟨blk_cell BK111.out 0, blk_cell BK111.out 1, blk_cell BK111.out 2, blk_cell BK111.out 3, blk_cell BK111.out 4⟩ (fun hHeld => ?_)
  generalize w8.drew = w9 at BK111 HB hHeld ⊢
  refine take_ (i := 0) (N := some 7) (v := ?_) (a' := ?_) #[true, false, false] rfl rfl (by kernel_rfl) (fun _ _ _ h => h) (Or.inl ⟨by rfl, ?_⟩) hHeld ?_ ?_
  rotate_left
  ·rintro w' ⟨s0, s1, s2, s3, s4⟩
   go_simp
   with_reducible rfl
  rotate_left
  ·simp only [Act.put, sA_, s0_, s1_, i64_w, i32_w]
   rfl
  refine one_ (i := 1) (N := some 8) #[true, true, false] rfl rfl (by kernel_rfl) (by decide) (fun K hK => ?_)
  refine goes_ Tryd.func19 (by kernel_rfl) rfl #[] (by rfl) rfl rfl (by (try simp only [List.map_toArray, List.map_cons, List.map_nil]); first | done | rfl | (simp only [List.length_drop, List.length_take]; rfl)) ?_
  with_reducible refine (delim_Plain.calls  t112 t113 t114 t115 t116 _ A2.out).mono ?_
  rintro e w10 ⟨rfl, hb⟩
  refine ⟨_, rfl, ?_⟩
  have n0_ := Aside0.mk (blk_below (g := gb111) (o := .cells #[.int .u8 a0_0, .int .u8 a0_1, .int .u8 a0_2, .int .u8 a0_3, .int .u8 a0_4] 23 (0, 0)) (by (with_reducible repeat (first | refine kN ?_ _ | refine kD ?_ | refine kA ?_ _)); exact BK111.out) hb)
  have n1_ := Aside0.mk (below_step (by repeat (first | (with_reducible first | exact HB.out | apply bA | apply bN | apply bD | refine below_set ?_ GE111.out) | exact HB.out)) hb)
  clear BK111
  clear HB
  have BK111 := n0_
  have HB := n1_
  clear n0_ n1_
  (try clear hb)
  (try clear hb2)
  (try clear hk)
  (try clear hi)
  refine hK.out _ _ ⟨blk_cell BK111.out 0, blk_cell BK111.out 1, blk_cell BK111.out 2, blk_cell BK111.out 3, blk_cell BK111.out 4⟩ (fun hHeld => ?_)
  clear hK K
  refine norm_ (a' := ?_) ?_ ?_
  rotate_left
  ·show Act.put _ (some 8) _ = _
   simp only [Act.put, sA_, s0_, s1_, i64_w, i32_w]
   rfl
  refine pure_ (i := 2) (N := some 9) (v := ?_) (a' := ?_) #[true, true, true] rfl rfl (by kernel_rfl) (fun _ _ _ h => h) (Or.inl ⟨by rfl, ?_⟩) ?_ ?_
  rotate_left
  ·intro w'
   go_simp
   with_reducible rfl
  rotate_left
  ·simp only [Act.put, sA_, s0_, s1_, i64_w, i32_w]
   rfl
  refine done_ (by kernel_rfl) ?_
  have hcz11_0 : w10.cell? ⟨gb111, 0, none⟩ = some (.int .u8 a0_0) := blk_cell BK111.out 0
  have hcz11_1 : w10.cell? ⟨gb111, 1, none⟩ = some (.int .u8 a0_1) := blk_cell BK111.out 1
  have hcz11_2 : w10.cell? ⟨gb111, 2, none⟩ = some (.int .u8 a0_2) := blk_cell BK111.out 2
  have hcz11_3 : w10.cell? ⟨gb111, 3, none⟩ = some (.int .u8 a0_3) := blk_cell BK111.out 3
  have hcz11_4 : w10.cell? ⟨gb111, 4, none⟩ = some (.int .u8 a0_4) := blk_cell BK111.out 4
  have hfz11_0 := blk_frozen BK111.out 0
  have hfz11_1 := blk_frozen BK111.out 1
  have hfz11_2 := blk_frozen BK111.out 2
  have hfz11_3 := blk_frozen BK111.out 3
  have hfz11_4 := blk_frozen BK111.out 4
  try go_wp2_with (first | ((with_reducible refine gate_callee (f := 20) rfl ?_); refine goesL_ (some 11) rfl rfl Tryd.func20 (by kernel_rfl) rfl #[.agg #[.int .u8 a0_0, .int .u8 a0_1, .int .u8 a0_2, .int .u8 a0_3, .int .u8 a0_4]] rfl (by (try simp only [List.map_toArray, List.map_cons, List.map_nil]); first | done | rfl | (simp only [List.length_drop, List.length_take]; rfl)) ?_; (with_reducible refine (delim_five.calls a0_0 a0_1 a0_2 a0_3 a0_4 t117 _ A7.out).mono ?_); rintro e w12 ⟨v118, rfl, ho0, hb⟩; refine ⟨_, rfl, ?_⟩; have n0_ := Aside0.mk (Kd.R_lower ho0 (below_size (by repeat (first | (with_reducible first | exact HB.out | apply bA | apply bN | apply bD | refine below_set ?_ GE111.out) | exact HB.out)))); have n1_ := Aside0.mk (blk_below (g := gb111) (o := .cells #[.int .u8 a0_0, .int .u8 a0_1, .int .u8 a0_2, .int .u8 a0_3, .int .u8 a0_4] 23 (0, 0)) (by (with_reducible repeat (first | refine kN ?_ _ | refine kD ?_ | refine kA ?_ _)); exact BK111.out) hb); have n2_ := Aside0.mk (below_step (by repeat (first | (with_reducible first | exact HB.out | apply bA | apply bN | apply bD | refine below_set ?_ GE111.out) | exact HB.out)) hb); clear BK111; clear HB; have HO119 := n0_; have BK111 := n1_; have HB := n2_; clear n0_ n1_ n2_; (try clear hb); (try clear ho0); obtain ⟨Ao13, co13, eo13⟩ := Kd.R_slice HO119.out; subst eo13))
  go_loopg [14] k (fun kq v14 w' => ∃ (x14_1 : Int), v14 = .int .i64 x14_1 ∧ Aside0 (delim_Right.l0 kq t117 t117 (t117.length : Int) x14_1 = some r) ∧ Aside0 (kq ≤ k) ∧ Aside0 (Kd.R (Kd.int .u8) 5 w' w.heap.size (fun _ => True) (.slice Ao13 t117.length co13) t117) ∧ Aside0 (Kd.R (Kd.int .u8) 5 w' w.heap.size (fun _ => True) (.slice Ao13 t117.length co13) t117) ∧ Aside0 (w'.heap[gb111]? = some (.cells #[.int .u8 a0_0, .int .u8 a0_1, .int .u8 a0_2, .int .u8 a0_3, .int .u8 a0_4] 23 (0, 0))) ∧ Aside0 (Below w.heap.size w w'))
  case atStart => exact ⟨(0), (by first | rfl | (simp; done) | (simp [*]; done)), H', ⟨Nat.le_refl _⟩, ⟨by (with_reducible repeat (first | apply Kd.R_alloc | apply Kd.R_drewN | apply Kd.R_drew)); exact HO119.out⟩, ⟨by (with_reducible repeat (first | apply Kd.R_alloc | apply Kd.R_drewN | apply Kd.R_drew)); exact HO119.out⟩, ⟨by (with_reducible repeat (first | refine kN ?_ _ | refine kD ?_ | refine kA ?_ _)); exact BK111.out⟩, ⟨by repeat (first | (with_reducible first | exact HB.out | apply bA | apply bN | apply bD | refine below_set ?_ GE111.out) | exact HB.out)⟩⟩
  case round =>
   clear H'
   try clear c1
   try clear c2
   try clear p2
   try clear c3
   try clear c3b0
   try clear c3b1
   try clear c3b2
   try clear c9
   try clear hcz11_0
   try clear hcz11_1
   try clear hcz11_2
   try clear hcz11_3
   try clear hcz11_4
   try clear hfz11_0
   try clear hfz11_1
   try clear hfz11_2
   try clear hfz11_3
   try clear hfz11_4
   obtain ⟨x14_1, rfl, HA, HK1, HO_3, HO_12, BK111, HB⟩ := hrel
   cases gk with
   | zero => exact absurd HA.out (by simp [delim_Right.l0])
   | succ k1 =>
    have H := HA.out
    clear HA
    simp only [delim_Right.l0] at H
    by_cases c14 : x14_1 < (t117.length : Int)
    ·rw [if_pos c14] at H
     have c14b0 : decide (x14_1 < (t117.length : Int)) = true := decide_eq_true c14
     clear c14
     by_cases c15 : 0 ≤ x14_1
     ·rw [if_pos c15] at H
      have c15b0 : decide (0 ≤ x14_1) = true := decide_eq_true c15
      clear c15
      by_cases c16 : x14_1 < (t117.length : Int)
      ·rw [if_pos c16] at H
       have c16b0 : decide (x14_1 < (t117.length : Int)) = true := decide_eq_true c16
       clear c16
       by_cases c17 : (Go.bits .or .u8 (rd t117 x14_1) 32) ≥ 97
       ·rw [if_pos c17] at H
        have c17b0 : decide (97 ≤ (Go.bits .or .u8 (rd t117 x14_1) 32)) = true := decide_eq_true c17
        clear c17
        by_cases c18 : (rd t117 x14_1) ≤ 32
        ·rw [if_pos c18] at H
         have c18b0 : decide ((rd t117 x14_1) ≤ 32) = true := decide_eq_true c18
         clear c18
         obtain rfl := Option.some.inj H
         have p120 : 0 ≤ (x14_1 : Int) := of_decide_eq_true (by first | (with_reducible assumption) | assumption)
         have q120 : x14_1 < (t117.length : Int) := of_decide_eq_true (by first | (with_reducible assumption) | assumption)
         obtain ⟨ad120, e120, hx120_0⟩ := Kd.at_int (Kd.R_reads' HO_12.out).2.2 x14_1 p120 q120
         cases e120
         replace p120 := eq_true p120
         replace q120 := eq_true q120
         go_wp2
         go_ret
         exact ⟨by first | rfl | (simp [errW_none, errW_some] <;> rfl) | (simp [*, errW_none, errW_some] <;> rfl), by repeat (first | (with_reducible first | exact HB.out | apply bA | apply bN | apply bD | refine below_set ?_ GE111.out) | exact HB.out)⟩
        ·rw [if_neg c18] at H
         have c18b0 : decide ((rd t117 x14_1) ≤ 32) = false := decide_eq_false c18
         clear c18
         by_cases c19 : (rd t117 x14_1) > 126
         ·rw [if_pos c19] at H
          have c19b0 : decide (126 < (rd t117 x14_1)) = true := decide_eq_true c19
          clear c19
          obtain rfl := Option.some.inj H
          have p120 : 0 ≤ (x14_1 : Int) := of_decide_eq_true (by first | (with_reducible assumption) | assumption)
          have q120 : x14_1 < (t117.length : Int) := of_decide_eq_true (by first | (with_reducible assumption) | assumption)
          obtain ⟨ad120, e120, hx120_0⟩ := Kd.at_int (Kd.R_reads' HO_12.out).2.2 x14_1 p120 q120
          cases e120
          replace p120 := eq_true p120
          replace q120 := eq_true q120
          go_wp2
          go_ret
          exact ⟨by first | rfl | (simp [errW_none, errW_some] <;> rfl) | (simp [*, errW_none, errW_some] <;> rfl), by repeat (first | (with_reducible first | exact HB.out | apply bA | apply bN | apply bD | refine below_set ?_ GE111.out) | exact HB.out)⟩
         ·rw [if_neg c19] at H
          have c19b0 : decide (126 < (rd t117 x14_1)) = false := decide_eq_false c19
          clear c19
          by_cases c20 : (Go.bits .or .u8 (rd t117 x14_1) 32) ≤ 122
          ·rw [if_pos c20] at H
           have c20b0 : decide ((Go.bits .or .u8 (rd t117 x14_1) 32) ≤ 122) = true := decide_eq_true c20
           clear c20
           obtain rfl := Option.some.inj H
           have p120 : 0 ≤ (x14_1 : Int) := of_decide_eq_true (by first | (with_reducible assumption) | assumption)
           have q120 : x14_1 < (t117.length : Int) := of_decide_eq_true (by first | (with_reducible assumption) | assumption)
           obtain ⟨ad120, e120, hx120_0⟩ := Kd.at_int (Kd.R_reads' HO_12.out).2.2 x14_1 p120 q120
           cases e120
           replace p120 := eq_true p120
           replace q120 := eq_true q120
           go_wp2
           go_ret
           exact ⟨by first | rfl | (simp [errW_none, errW_some] <;> rfl) | (simp [*, errW_none, errW_some] <;> rfl), by repeat (first | (with_reducible first | exact HB.out | apply bA | apply bN | apply bD | refine below_set ?_ GE111.out) | exact HB.out)⟩
          ·rw [if_neg c20] at H
           have c20b0 : decide ((Go.bits .or .u8 (rd t117 x14_1) 32) ≤ 122) = false := decide_eq_false c20
           clear c20
           by_cases c21 : (rd t117 x14_1) ≥ 48
           ·rw [if_pos c21] at H
            have c21b0 : decide (48 ≤ (rd t117 x14_1)) = true := decide_eq_true c21
            clear c21
            by_cases c22 : (rd t117 x14_1) ≤ 57
            ·rw [if_pos c22] at H
             have c22b0 : decide ((rd t117 x14_1) ≤ 57) = true := decide_eq_true c22
             clear c22
             obtain rfl := Option.some.inj H
             have p120 : 0 ≤ (x14_1 : Int) := of_decide_eq_true (by first | (with_reducible assumption) | assumption)
             have q120 : x14_1 < (t117.length : Int) := of_decide_eq_true (by first | (with_reducible assumption) | assumption)
             obtain ⟨ad120, e120, hx120_0⟩ := Kd.at_int (Kd.R_reads' HO_12.out).2.2 x14_1 p120 q120
             cases e120
             replace p120 := eq_true p120
             replace q120 := eq_true q120
             go_wp2
             go_ret
             exact ⟨by first | rfl | (simp [errW_none, errW_some] <;> rfl) | (simp [*, errW_none, errW_some] <;> rfl), by repeat (first | (with_reducible first | exact HB.out | apply bA | apply bN | apply bD | refine below_set ?_ GE111.out) | exact HB.out)⟩
            ·rw [if_neg c22] at H
             have c22b0 : decide ((rd t117 x14_1) ≤ 57) = false := decide_eq_false c22
             clear c22
             replace H := Option.bind_eq_some_iff.mp H
             obtain ⟨t121, A230, H⟩ := H
             replace H : (if t121 < x14_1 then (some false) else (delim_Right.l0 k1 t117 t117 (t117.length : Int) (wrap64 (x14_1 + 1)))) = some r := H
             have A23 := Aside0.mk A230
             clear A230
             by_cases c24 : t121 < x14_1
             ·rw [if_pos c24] at H
              have c24b0 : decide (t121 < x14_1) = true := decide_eq_true c24
              clear c24
              obtain rfl := Option.some.inj H
              have p120 : 0 ≤ (x14_1 : Int) := of_decide_eq_true (by first | (with_reducible assumption) | assumption)
              have q120 : x14_1 < (t117.length : Int) := of_decide_eq_true (by first | (with_reducible assumption) | assumption)
              obtain ⟨ad120, e120, hx120_0⟩ := Kd.at_int (Kd.R_reads' HO_12.out).2.2 x14_1 p120 q120
              cases e120
              replace p120 := eq_true p120
              replace q120 := eq_true q120
              go_wp2_with (first | (go_at_call 21; (with_reducible refine (bytes_IndexByte.calls _ _ t117 (rd t117 x14_1) t121 _ ?side1 ?side2 A23.out).mono ?_); (case side1 => repeat (first | exact (Kd.R_reads' HO_3.out).2.2 | (with_reducible refine Kd.C_alloc ?_ _) | (with_reducible refine Kd.C_drewN ?_ _) | (with_reducible refine Kd.C_drew ?_))); (case side2 => exact (Kd.R_reads' HO_3.out).2.1); rintro e w' ⟨rfl, ⟨nd, rfl⟩⟩))
              go_ret
              exact ⟨by first | rfl | (simp [errW_none, errW_some] <;> rfl) | (simp [*, errW_none, errW_some] <;> rfl), by repeat (first | (with_reducible first | exact HB.out | apply bA | apply bN | apply bD | refine below_set ?_ GE111.out) | exact HB.out)⟩
             ·rw [if_neg c24] at H
              have c24b0 : decide (t121 < x14_1) = false := decide_eq_false c24
              clear c24
              have H' := Aside0.mk H
              clear H
              have p120 : 0 ≤ (x14_1 : Int) := of_decide_eq_true (by first | (with_reducible assumption) | assumption)
              have q120 : x14_1 < (t117.length : Int) := of_decide_eq_true (by first | (with_reducible assumption) | assumption)
              obtain ⟨ad120, e120, hx120_0⟩ := Kd.at_int (Kd.R_reads' HO_12.out).2.2 x14_1 p120 q120
              cases e120
              replace p120 := eq_true p120
              replace q120 := eq_true q120
              go_wp2_with (first | (go_at_call 21; (with_reducible refine (bytes_IndexByte.calls _ _ t117 (rd t117 x14_1) t121 _ ?side1 ?side2 A23.out).mono ?_); (case side1 => repeat (first | exact (Kd.R_reads' HO_3.out).2.2 | (with_reducible refine Kd.C_alloc ?_ _) | (with_reducible refine Kd.C_drewN ?_ _) | (with_reducible refine Kd.C_drew ?_))); (case side2 => exact (Kd.R_reads' HO_3.out).2.1); rintro e w' ⟨rfl, ⟨nd, rfl⟩⟩))
              go_roundg k1
              case measure => have := HK1.out; omega
              case rel => exact ⟨(wrap64 (x14_1 + 1)), (by first | rfl | (simp; done) | (simp [*]; done)), H', ⟨by have := HK1.out; omega⟩, ⟨by (with_reducible repeat (first | apply Kd.R_alloc | apply Kd.R_drewN | apply Kd.R_drew)); exact HO_3.out⟩, ⟨by (with_reducible repeat (first | apply Kd.R_alloc | apply Kd.R_drewN | apply Kd.R_drew)); exact HO_12.out⟩, ⟨by (with_reducible repeat (first | refine kN ?_ _ | refine kD ?_ | refine kA ?_ _)); exact BK111.out⟩, ⟨by repeat (first | (with_reducible first | exact HB.out | apply bA | apply bN | apply bD | refine below_set ?_ GE111.out) | exact HB.out)⟩⟩
           ·rw [if_neg c21] at H
            have c21b0 : decide (48 ≤ (rd t117 x14_1)) = false := decide_eq_false c21
            clear c21
            replace H := Option.bind_eq_some_iff.mp H
            obtain ⟨t122, A250, H⟩ := H
            replace H : (if t122 < x14_1 then (some false) else (delim_Right.l0 k1 t117 t117 (t117.length : Int) (wrap64 (x14_1 + 1)))) = some r := H
            have A25 := Aside0.mk A250
            clear A250
            by_cases c26 : t122 < x14_1
            ·rw [if_pos c26] at H
             have c26b0 : decide (t122 < x14_1) = true := decide_eq_true c26
             clear c26
             obtain rfl := Option.some.inj H
             have p120 : 0 ≤ (x14_1 : Int) := of_decide_eq_true (by first | (with_reducible assumption) | assumption)
             have q120 : x14_1 < (t117.length : Int) := of_decide_eq_true (by first | (with_reducible assumption) | assumption)
             obtain ⟨ad120, e120, hx120_0⟩ := Kd.at_int (Kd.R_reads' HO_12.out).2.2 x14_1 p120 q120
             cases e120
             replace p120 := eq_true p120
             replace q120 := eq_true q120
             go_wp2_with (first | (go_at_call 21; (with_reducible refine (bytes_IndexByte.calls _ _ t117 (rd t117 x14_1) t122 _ ?side1 ?side2 A25.out).mono ?_); (case side1 => repeat (first | exact (Kd.R_reads' HO_3.out).2.2 | (with_reducible refine Kd.C_alloc ?_ _) | (with_reducible refine Kd.C_drewN ?_ _) | (with_reducible refine Kd.C_drew ?_))); (case side2 => exact (Kd.R_reads' HO_3.out).2.1); rintro e w' ⟨rfl, ⟨nd, rfl⟩⟩))
             go_ret
             exact ⟨by first | rfl | (simp [errW_none, errW_some] <;> rfl) | (simp [*, errW_none, errW_some] <;> rfl), by repeat (first | (with_reducible first | exact HB.out | apply bA | apply bN | apply bD | refine below_set ?_ GE111.out) | exact HB.out)⟩
            ·rw [if_neg c26] at H
             have c26b0 : decide (t122 < x14_1) = false := decide_eq_false c26
             clear c26
             have H' := Aside0.mk H
             clear H
             have p120 : 0 ≤ (x14_1 : Int) := of_decide_eq_true (by first | (with_reducible assumption) | assumption)
             have q120 : x14_1 < (t117.length : Int) := of_decide_eq_true (by first | (with_reducible assumption) | assumption)
             obtain ⟨ad120, e120, hx120_0⟩ := Kd.at_int (Kd.R_reads' HO_12.out).2.2 x14_1 p120 q120
             cases e120
             replace p120 := eq_true p120
             replace q120 := eq_true q120
             go_wp2_with (first | (go_at_call 21; (with_reducible refine (bytes_IndexByte.calls _ _ t117 (rd t117 x14_1) t122 _ ?side1 ?side2 A25.out).mono ?_); (case side1 => repeat (first | exact (Kd.R_reads' HO_3.out).2.2 | (with_reducible refine Kd.C_alloc ?_ _) | (with_reducible refine Kd.C_drewN ?_ _) | (with_reducible refine Kd.C_drew ?_))); (case side2 => exact (Kd.R_reads' HO_3.out).2.1); rintro e w' ⟨rfl, ⟨nd, rfl⟩⟩))
             go_roundg k1
             case measure => have := HK1.out; omega
             case rel => exact ⟨(wrap64 (x14_1 + 1)), (by first | rfl | (simp; done) | (simp [*]; done)), H', ⟨by have := HK1.out; omega⟩, ⟨by (with_reducible repeat (first | apply Kd.R_alloc | apply Kd.R_drewN | apply Kd.R_drew)); exact HO_3.out⟩, ⟨by (with_reducible repeat (first | apply Kd.R_alloc | apply Kd.R_drewN | apply Kd.R_drew)); exact HO_12.out⟩, ⟨by (with_reducible repeat (first | refine kN ?_ _ | refine kD ?_ | refine kA ?_ _)); exact BK111.out⟩, ⟨by repeat (first | (with_reducible first | exact HB.out | apply bA | apply bN | apply bD | refine below_set ?_ GE111.out) | exact HB.out)⟩⟩
       ·rw [if_neg c17] at H
        have c17b0 : decide (97 ≤ (Go.bits .or .u8 (rd t117 x14_1) 32)) = false := decide_eq_false c17
        clear c17
        by_cases c27 : (rd t117 x14_1) ≤ 32
        ·rw [if_pos c27] at H
         have c27b0 : decide ((rd t117 x14_1) ≤ 32) = true := decide_eq_true c27
         clear c27
         obtain rfl := Option.some.inj H
         have p120 : 0 ≤ (x14_1 : Int) := of_decide_eq_true (by first | (with_reducible assumption) | assumption)
         have q120 : x14_1 < (t117.length : Int) := of_decide_eq_true (by first | (with_reducible assumption) | assumption)
         obtain ⟨ad120, e120, hx120_0⟩ := Kd.at_int (Kd.R_reads' HO_12.out).2.2 x14_1 p120 q120
         cases e120
         replace p120 := eq_true p120
         replace q120 := eq_true q120
         go_wp2
         go_ret
         exact ⟨by first | rfl | (simp [errW_none, errW_some] <;> rfl) | (simp [*, errW_none, errW_some] <;> rfl), by repeat (first | (with_reducible first | exact HB.out | apply bA | apply bN | apply bD | refine below_set ?_ GE111.out) | exact HB.out)⟩
        ·rw [if_neg c27] at H
         have c27b0 : decide ((rd t117 x14_1) ≤ 32) = false := decide_eq_false c27
         clear c27
         by_cases c28 : (rd t117 x14_1) > 126
         ·rw [if_pos c28] at H
          have c28b0 : decide (126 < (rd t117 x14_1)) = true := decide_eq_true c28
          clear c28
          obtain rfl := Option.some.inj H
          have p120 : 0 ≤ (x14_1 : Int) := of_decide_eq_true (by first | (with_reducible assumption) | assumption)
          have q120 : x14_1 < (t117.length : Int) := of_decide_eq_true (by first | (with_reducible assumption) | assumption)
          obtain ⟨ad120, e120, hx120_0⟩ := Kd.at_int (Kd.R_reads' HO_12.out).2.2 x14_1 p120 q120
          cases e120
          replace p120 := eq_true p120
          replace q120 := eq_true q120
          go_wp2
          go_ret
          exact ⟨by first | rfl | (simp [errW_none, errW_some] <;> rfl) | (simp [*, errW_none, errW_some] <;> rfl), by repeat (first | (with_reducible first | exact HB.out | apply bA | apply bN | apply bD | refine below_set ?_ GE111.out) | exact HB.out)⟩
         ·rw [if_neg c28] at H
          have c28b0 : decide (126 < (rd t117 x14_1)) = false := decide_eq_false c28
          clear c28
          by_cases c29 : (rd t117 x14_1) ≥ 48
          ·rw [if_pos c29] at H
           have c29b0 : decide (48 ≤ (rd t117 x14_1)) = true := decide_eq_true c29
           clear c29
           by_cases c30 : (rd t117 x14_1) ≤ 57
           ·rw [if_pos c30] at H
            have c30b0 : decide ((rd t117 x14_1) ≤ 57) = true := decide_eq_true c30
            clear c30
            obtain rfl := Option.some.inj H
            have p120 : 0 ≤ (x14_1 : Int) := of_decide_eq_true (by first | (with_reducible assumption) | assumption)
            have q120 : x14_1 < (t117.length : Int) := of_decide_eq_true (by first | (with_reducible assumption) | assumption)
            obtain ⟨ad120, e120, hx120_0⟩ := Kd.at_int (Kd.R_reads' HO_12.out).2.2 x14_1 p120 q120
            cases e120
            replace p120 := eq_true p120
            replace q120 := eq_true q120
            go_wp2
            go_ret
            exact ⟨by first | rfl | (simp [errW_none, errW_some] <;> rfl) | (simp [*, errW_none, errW_some] <;> rfl), by repeat (first | (with_reducible first | exact HB.out | apply bA | apply bN | apply bD | refine below_set ?_ GE111.out) | exact HB.out)⟩
           ·rw [if_neg c30] at H
            have c30b0 : decide ((rd t117 x14_1) ≤ 57) = false := decide_eq_false c30
            clear c30
            replace H := Option.bind_eq_some_iff.mp H
            obtain ⟨t123, A310, H⟩ := H
            replace H : (if t123 < x14_1 then (some false) else (delim_Right.l0 k1 t117 t117 (t117.length : Int) (wrap64 (x14_1 + 1)))) = some r := H
            have A31 := Aside0.mk A310
            clear A310
            by_cases c32 : t123 < x14_1
            ·rw [if_pos c32] at H
             have c32b0 : decide (t123 < x14_1) = true := decide_eq_true c32
             clear c32
             obtain rfl := Option.some.inj H
             have p120 : 0 ≤ (x14_1 : Int) := of_decide_eq_true (by first | (with_reducible assumption) | assumption)
             have q120 : x14_1 < (t117.length : Int) := of_decide_eq_true (by first | (with_reducible assumption) | assumption)
             obtain ⟨ad120, e120, hx120_0⟩ := Kd.at_int (Kd.R_reads' HO_12.out).2.2 x14_1 p120 q120
             cases e120
             replace p120 := eq_true p120
             replace q120 := eq_true q120
             go_wp2_with (first | (go_at_call 21; (with_reducible refine (bytes_IndexByte.calls _ _ t117 (rd t117 x14_1) t123 _ ?side1 ?side2 A31.out).mono ?_); (case side1 => repeat (first | exact (Kd.R_reads' HO_3.out).2.2 | (with_reducible refine Kd.C_alloc ?_ _) | (with_reducible refine Kd.C_drewN ?_ _) | (with_reducible refine Kd.C_drew ?_))); (case side2 => exact (Kd.R_reads' HO_3.out).2.1); rintro e w' ⟨rfl, ⟨nd, rfl⟩⟩))
             go_ret
             exact ⟨by first | rfl | (simp [errW_none, errW_some] <;> rfl) | (simp [*, errW_none, errW_some] <;> rfl), by repeat (first | (with_reducible first | exact HB.out | apply bA | apply bN | apply bD | refine below_set ?_ GE111.out) | exact HB.out)⟩
            ·rw [if_neg c32] at H
             have c32b0 : decide (t123 < x14_1) = false := decide_eq_false c32
             clear c32
             have H' := Aside0.mk H
             clear H
             have p120 : 0 ≤ (x14_1 : Int) := of_decide_eq_true (by first | (with_reducible assumption) | assumption)
             have q120 : x14_1 < (t117.length : Int) := of_decide_eq_true (by first | (with_reducible assumption) | assumption)
             obtain ⟨ad120, e120, hx120_0⟩ := Kd.at_int (Kd.R_reads' HO_12.out).2.2 x14_1 p120 q120
             cases e120
             replace p120 := eq_true p120
             replace q120 := eq_true q120
             go_wp2_with (first | (go_at_call 21; (with_reducible refine (bytes_IndexByte.calls _ _ t117 (rd t117 x14_1) t123 _ ?side1 ?side2 A31.out).mono ?_); (case side1 => repeat (first | exact (Kd.R_reads' HO_3.out).2.2 | (with_reducible refine Kd.C_alloc ?_ _) | (with_reducible refine Kd.C_drewN ?_ _) | (with_reducible refine Kd.C_drew ?_))); (case side2 => exact (Kd.R_reads' HO_3.out).2.1); rintro e w' ⟨rfl, ⟨nd, rfl⟩⟩))
             go_roundg k1
             case measure => have := HK1.out; omega
             case rel => exact ⟨(wrap64 (x14_1 + 1)), (by first | rfl | (simp; done) | (simp [*]; done)), H', ⟨by have := HK1.out; omega⟩, ⟨by (with_reducible repeat (first | apply Kd.R_alloc | apply Kd.R_drewN | apply Kd.R_drew)); exact HO_3.out⟩, ⟨by (with_reducible repeat (first | apply Kd.R_alloc | apply Kd.R_drewN | apply Kd.R_drew)); exact HO_12.out⟩, ⟨by (with_reducible repeat (first | refine kN ?_ _ | refine kD ?_ | refine kA ?_ _)); exact BK111.out⟩, ⟨by repeat (first | (with_reducible first | exact HB.out | apply bA | apply bN | apply bD | refine below_set ?_ GE111.out) | exact HB.out)⟩⟩
          ·rw [if_neg c29] at H
           have c29b0 : decide (48 ≤ (rd t117 x14_1)) = false := decide_eq_false c29
           clear c29
           replace H := Option.bind_eq_some_iff.mp H
           obtain ⟨t124, A330, H⟩ := H
           replace H : (if t124 < x14_1 then (some false) else (delim_Right.l0 k1 t117 t117 (t117.length : Int) (wrap64 (x14_1 + 1)))) = some r := H
           have A33 := Aside0.mk A330
           clear A330
           by_cases c34 : t124 < x14_1
           ·rw [if_pos c34] at H
            have c34b0 : decide (t124 < x14_1) = true := decide_eq_true c34
            clear c34
            obtain rfl := Option.some.inj H
            have p120 : 0 ≤ (x14_1 : Int) := of_decide_eq_true (by first | (with_reducible assumption) | assumption)
            have q120 : x14_1 < (t117.length : Int) := of_decide_eq_true (by first | (with_reducible assumption) | assumption)
            obtain ⟨ad120, e120, hx120_0⟩ := Kd.at_int (Kd.R_reads' HO_12.out).2.2 x14_1 p120 q120
            cases e120
            replace p120 := eq_true p120
            replace q120 := eq_true q120
            go_wp2_with (first | (go_at_call 21; (with_reducible refine (bytes_IndexByte.calls _ _ t117 (rd t117 x14_1) t124 _ ?side1 ?side2 A33.out).mono ?_); (case side1 => repeat (first | exact (Kd.R_reads' HO_3.out).2.2 | (with_reducible refine Kd.C_alloc ?_ _) | (with_reducible refine Kd.C_drewN ?_ _) | (with_reducible refine Kd.C_drew ?_))); (case side2 => exact (Kd.R_reads' HO_3.out).2.1); rintro e w' ⟨rfl, ⟨nd, rfl⟩⟩))
            go_ret
            exact ⟨by first | rfl | (simp [errW_none, errW_some] <;> rfl) | (simp [*, errW_none, errW_some] <;> rfl), by repeat (first | (with_reducible first | exact HB.out | apply bA | apply bN | apply bD | refine below_set ?_ GE111.out) | exact HB.out)⟩
           ·rw [if_neg c34] at H
            have c34b0 : decide (t124 < x14_1) = false := decide_eq_false c34
            clear c34
            have H' := Aside0.mk H
            clear H
            have p120 : 0 ≤ (x14_1 : Int) := of_decide_eq_true (by first | (with_reducible assumption) | assumption)
            have q120 : x14_1 < (t117.length : Int) := of_decide_eq_true (by first | (with_reducible assumption) | assumption)
            obtain ⟨ad120, e120, hx120_0⟩ := Kd.at_int (Kd.R_reads' HO_12.out).2.2 x14_1 p120 q120
            cases e120
            replace p120 := eq_true p120
            replace q120 := eq_true q120
            go_wp2_with (first | (go_at_call 21; (with_reducible refine (bytes_IndexByte.calls _ _ t117 (rd t117 x14_1) t124 _ ?side1 ?side2 A33.out).mono ?_); (case side1 => repeat (first | exact (Kd.R_reads' HO_3.out).2.2 | (with_reducible refine Kd.C_alloc ?_ _) | (with_reducible refine Kd.C_drewN ?_ _) | (with_reducible refine Kd.C_drew ?_))); (case side2 => exact (Kd.R_reads' HO_3.out).2.1); rintro e w' ⟨rfl, ⟨nd, rfl⟩⟩))
            go_roundg k1
            case measure => have := HK1.out; omega
            case rel => exact ⟨(wrap64 (x14_1 + 1)), (by first | rfl | (simp; done) | (simp [*]; done)), H', ⟨by have := HK1.out; omega⟩, ⟨by (with_reducible repeat (first | apply Kd.R_alloc | apply Kd.R_drewN | apply Kd.R_drew)); exact HO_3.out⟩, ⟨by (with_reducible repeat (first | apply Kd.R_alloc | apply Kd.R_drewN | apply Kd.R_drew)); exact HO_12.out⟩, ⟨by (with_reducible repeat (first | refine kN ?_ _ | refine kD ?_ | refine kA ?_ _)); exact BK111.out⟩, ⟨by repeat (first | (with_reducible first | exact HB.out | apply bA | apply bN | apply bD | refine below_set ?_ GE111.out) | exact HB.out)⟩⟩
      ·rw [if_neg c16] at H
       exact absurd H (by simp)
     ·rw [if_neg c15] at H
      exact absurd H (by simp)
    ·rw [if_neg c14] at H
     have c14b0 : decide (x14_1 < (t117.length : Int)) = false := decide_eq_false c14
     clear c14
     obtain rfl := Option.some.inj H
     go_wp2
     go_ret
     exact ⟨by first | rfl | (simp [errW_none, errW_some] <;> rfl) | (simp [*, errW_none, errW_some] <;> rfl), by repeat (first | (with_reducible first | exact HB.out | apply bA | apply bN | apply bD | refine below_set ?_ GE111.out) | exact HB.out)⟩

/-! ### bytes_Equal: function 58 -/
def bytes_Equal.f (l0 : List Int) (l1 : List Int) : Option (Bool) := some ((strOfNums l0).toList == (strOfNums l1).toList)
theorem bytes_Equal.calls (A0 : Option Addr) (c0 : Nat) (l0 : List Int) (A1 : Option Addr) (c1 : Nat) (l1 : List Int) (r : Bool) (w : World) (hr0 : Kd.C (Kd.int .u8) w A0 l0.length l0) (hc0 : l0.length ≤ c0) (hr1 : Kd.C (Kd.int .u8) w A1 l1.length l1) (hc1 : l1.length ≤ c1) (h : bytes_Equal.f l0 l1 = some r) :
  Calls Tryd.prog 58 #[.slice A0 l0.length c0, .slice A1 l1.length c1] w fun e w' => e = .returned (.bool r) ∧ Drawn0 w w' := by
 have HR0 := Aside0.mk hr0
 have HC0 := Aside0.mk hc0
 clear hr0 hc0
 have HR1 := Aside0.mk hr1
 have HC1 := Aside0.mk hc1
 clear hr1 hc1
 have H : (some ((strOfNums l0).toList == (strOfNums l1).toList)) = some r := h
 clear h
 obtain rfl := Option.some.inj H
 have hcv3 := Kd.C_string (P := Tryd.prog) (A := A0) (c := c0) Tryd.underlying34 Tryd.underlying5 Tryd.underlying9 HR0.out
 have hcv4 := Kd.C_string (P := Tryd.prog) (A := A1) (c := c1) Tryd.underlying34 Tryd.underlying5 Tryd.underlying9 HR1.out
 go_enter Tryd.func58, Tryd.ntmps58
 go_wp2
 go_ret
 exact ⟨by first | rfl | (simp; done) | (simp [*]; done), by repeat (first | exact Drawn0.refl _ | apply Drawn0.step)⟩

/-! ### bytes_HasPrefix: function 45 -/
def bytes_HasPrefix.f (l0 : List Int) (l1 : List Int) : Option (Bool) := some (if l1.length ≤ l0.length then (strOfNums (l0.take l1.length)).toList == (strOfNums l1).toList else false)
theorem bytes_HasPrefix.calls (A0 : Option Addr) (c0 : Nat) (l0 : List Int) (A1 : Option Addr) (c1 : Nat) (l1 : List Int) (r : Bool) (w : World) (hr0 : Kd.C (Kd.int .u8) w A0 l0.length l0) (hc0 : l0.length ≤ c0) (hr1 : Kd.C (Kd.int .u8) w A1 l1.length l1) (hc1 : l1.length ≤ c1) (h : bytes_HasPrefix.f l0 l1 = some r) :
  Calls Tryd.prog 45 #[.slice A0 l0.length c0, .slice A1 l1.length c1] w fun e w' => e = .returned (.bool r) ∧ Drawn0 w w' := by
 obtain rfl := Option.some.inj h
 clear h
 by_cases hl : l1.length ≤ l0.length
 ·have h1 : decide ((l1.length : Int) ≤ (l0.length : Int)) = true := by simp; omega
  have hlen : (l0.take l1.length).length = l1.length := by rw [List.length_take]; omega
  obtain ⟨i0, hi0, _, hsz, _⟩ := info_parts info5
  obtain ⟨_, hA, _⟩ := print_take_of (P := Tryd.prog) (Value.int .u8) 0 34 5 .i64 Tryd.underlying34 hi0 hsz A0 c0 l0 (l1.length : Int) (by omega) (by omega) hc0
  have hq := Kd.C_of_reads (h1 := fun _ => rfl) (hA _ (Kd.reads_of_C hr0))
  rw [Int.toNat_natCast] at hq
  have hcall := bytes_Equal.calls A0 c0 (l0.take l1.length) A1 c1 l1 _ w hq (by omega) hr1 hc1 rfl
  rw [hlen] at hcall
  have HC := Lib.hid hcall
  clear hcall hq hA hr0 hr1 hi0 hsz hlen
  rw [if_pos hl]
  go_enter Tryd.func45, Tryd.ntmps45
  go_wp2_with fail
  refine HC.out.mono ?_
  rintro e w' ⟨rfl, ⟨nd, rfl⟩⟩
  go_wp2
  go_ret
  exact ⟨rfl, by repeat (first | exact Drawn0.refl _ | apply Drawn0.step)⟩
 ·have h1 : decide ((l1.length : Int) ≤ (l0.length : Int)) = false := by simp; omega
  have h2 : decide (l1.length ≤ l0.length) = false := by simp; omega
  rw [if_neg hl]
  have HR := Lib.hid hr0
  clear hl hr0 hr1
  go_enter Tryd.func45, Tryd.ntmps45
  go_wp2_with fail
  go_ret
  exact ⟨rfl, by repeat (first | exact Drawn0.refl _ | apply Drawn0.step)⟩


-- LEFT OUT: function 35 (bytes_CutPrefix)

end Go.Proofs.YteaehlkpghpnkaaDoor.PH
