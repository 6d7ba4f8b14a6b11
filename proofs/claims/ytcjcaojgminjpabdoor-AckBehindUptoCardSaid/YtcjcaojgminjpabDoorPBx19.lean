-- Written by a program of this work (the kit's print, with contracts of this work's own taken in) out of the translation. Not trusted: Lean checks it.
import Derived.Test.YtcjcaojgminjpabDoorPBx0
namespace Go.Proofs.YtcjcaojgminjpabDoor.PB
open Go.RowKit Go.Proofs.YtcjcaojgminjpabDoorW.PrintWords Go.Proofs.YtcjcaojgminjpabDoorW.PrintLast Go.Proofs.YtcjcaojgminjpabDoorW.PrintMore
set_option maxHeartbeats 8000000
set_option maxRecDepth 100000
attribute [local go_sem] max2_int min2_int max_two min_two max_three min_three max_four min_four   -- for this text's walks alone
set_option linter.unusedVariables false
set_option linter.unusedSimpArgs false

/-! ### lamplighterlaw10_great: function 22 -/
def lamplighterlaw10_great.f (a0_0 : Int) (a0_1 : Int) (a0_2 : Int) (a0_3 : Int) (a0_4 : Int) (a0_5 : ByteArray) (a0_6 : ByteArray) (a0_7 : ByteArray) (a0_8 : ByteArray) (a0_9 : ByteArray) (a0_10 : ByteArray) (a0_11 : ByteArray) (a0_12 : ByteArray) (a0_13 : ByteArray) (a0_14 : ByteArray) : Option (Bool) := some (decide ((wrap64 ((wrap64 ((wrap64 ((wrap64 ((wrap64 ((wrap64 ((wrap64 ((wrap64 ((wrap64 ((a0_5.size : Int) + (a0_6.size : Int))) + (a0_7.size : Int))) + (a0_8.size : Int))) + (a0_9.size : Int))) + (a0_10.size : Int))) + (a0_11.size : Int))) + (a0_12.size : Int))) + (a0_13.size : Int))) + (a0_14.size : Int))) > 2000))
theorem lamplighterlaw10_great.calls (a0_0 : Int) (a0_1 : Int) (a0_2 : Int) (a0_3 : Int) (a0_4 : Int) (a0_5 : ByteArray) (a0_6 : ByteArray) (a0_7 : ByteArray) (a0_8 : ByteArray) (a0_9 : ByteArray) (a0_10 : ByteArray) (a0_11 : ByteArray) (a0_12 : ByteArray) (a0_13 : ByteArray) (a0_14 : ByteArray) (r : Bool) (w : World) (h : lamplighterlaw10_great.f a0_0 a0_1 a0_2 a0_3 a0_4 a0_5 a0_6 a0_7 a0_8 a0_9 a0_10 a0_11 a0_12 a0_13 a0_14 = some r) :
  Calls Tryd.prog 22 #[.agg #[.int .u8 a0_0, .int .u8 a0_1, .int .u8 a0_2, .int .u8 a0_3, .int .u8 a0_4, .string a0_5, .string a0_6, .string a0_7, .string a0_8, .string a0_9, .string a0_10, .string a0_11, .string a0_12, .string a0_13, .string a0_14]] w fun e w' => e = .returned (.bool r) ∧ Below w.heap.size w w' := by
 have hu25 := Tryd.underlying25
 have HB := Aside0.mk (Below.refl w.heap.size w)
 have H : (some (decide ((wrap64 ((wrap64 ((wrap64 ((wrap64 ((wrap64 ((wrap64 ((wrap64 ((wrap64 ((wrap64 ((a0_5.size : Int) + (a0_6.size : Int))) + (a0_7.size : Int))) + (a0_8.size : Int))) + (a0_9.size : Int))) + (a0_10.size : Int))) + (a0_11.size : Int))) + (a0_12.size : Int))) + (a0_13.size : Int))) + (a0_14.size : Int))) > 2000))) = some r := h
 clear h
 obtain rfl := Option.some.inj H
 go_enter Tryd.func22, Tryd.ntmps22
 go_wp2_with (first | ((with_reducible refine gate_dst (N := 1) rfl ?_); refine box_event ?hg (N := 1) ?hd (cs := #[.int .u8 a0_0, .int .u8 a0_1, .int .u8 a0_2, .int .u8 a0_3, .int .u8 a0_4, .string a0_5, .string a0_6, .string a0_7, .string a0_8, .string a0_9, .string a0_10, .string a0_11, .string a0_12, .string a0_13, .string a0_14]) (t := 25) ?hr ?_; (case hd => rfl); (case hg => rfl); (case hr => first | (go_simp; done) | (go_simp; rfl)); intro gb346 hg w2 hbox hb; have n0_ := Aside0.mk (below_step (by repeat (first | (with_reducible first | exact HB.out | apply bA | apply bN | apply bD) | exact HB.out)) hb); have n1_ := Aside0.mk (hbox); have n2_ := Aside0.mk ((by rw [hg]; exact (below_size (by repeat (first | (with_reducible first | exact HB.out | apply bA | apply bN | apply bD) | exact HB.out))) : w.heap.size ≤ gb346)); have n3_ := Aside0.mk ((by rw [hg]; exact (below_size (by repeat (first | (with_reducible first | exact HB.out | apply bA | apply bN | apply bD) | exact HB.out))) : w.heap.size ≤ gb346)); clear HB; have HB := n0_; have BK346 := n1_; have GW346 := n2_; have GE346 := n3_; clear n0_ n1_ n2_ n3_; clear hb hbox hg; have hcz3_0 : w2.cell? ⟨gb346, 0, none⟩ = some (.int .u8 a0_0) := blk_cell BK346.out 0; have hcz3_1 : w2.cell? ⟨gb346, 1, none⟩ = some (.int .u8 a0_1) := blk_cell BK346.out 1; have hcz3_2 : w2.cell? ⟨gb346, 2, none⟩ = some (.int .u8 a0_2) := blk_cell BK346.out 2; have hcz3_3 : w2.cell? ⟨gb346, 3, none⟩ = some (.int .u8 a0_3) := blk_cell BK346.out 3; have hcz3_4 : w2.cell? ⟨gb346, 4, none⟩ = some (.int .u8 a0_4) := blk_cell BK346.out 4; have hcz3_5 : w2.cell? ⟨gb346, 5, none⟩ = some (.string a0_5) := blk_cell BK346.out 5; have hcz3_6 : w2.cell? ⟨gb346, 6, none⟩ = some (.string a0_6) := blk_cell BK346.out 6; have hcz3_7 : w2.cell? ⟨gb346, 7, none⟩ = some (.string a0_7) := blk_cell BK346.out 7; have hcz3_8 : w2.cell? ⟨gb346, 8, none⟩ = some (.string a0_8) := blk_cell BK346.out 8; have hcz3_9 : w2.cell? ⟨gb346, 9, none⟩ = some (.string a0_9) := blk_cell BK346.out 9; have hcz3_10 : w2.cell? ⟨gb346, 10, none⟩ = some (.string a0_10) := blk_cell BK346.out 10; have hcz3_11 : w2.cell? ⟨gb346, 11, none⟩ = some (.string a0_11) := blk_cell BK346.out 11; have hcz3_12 : w2.cell? ⟨gb346, 12, none⟩ = some (.string a0_12) := blk_cell BK346.out 12; have hcz3_13 : w2.cell? ⟨gb346, 13, none⟩ = some (.string a0_13) := blk_cell BK346.out 13; have hcz3_14 : w2.cell? ⟨gb346, 14, none⟩ = some (.string a0_14) := blk_cell BK346.out 14; have hfz3_0 := blk_frozen BK346.out 0; have hfz3_1 := blk_frozen BK346.out 1; have hfz3_2 := blk_frozen BK346.out 2; have hfz3_3 := blk_frozen BK346.out 3; have hfz3_4 := blk_frozen BK346.out 4; have hfz3_5 := blk_frozen BK346.out 5; have hfz3_6 := blk_frozen BK346.out 6; have hfz3_7 := blk_frozen BK346.out 7; have hfz3_8 := blk_frozen BK346.out 8; have hfz3_9 := blk_frozen BK346.out 9; have hfz3_10 := blk_frozen BK346.out 10; have hfz3_11 := blk_frozen BK346.out 11; have hfz3_12 := blk_frozen BK346.out 12; have hfz3_13 := blk_frozen BK346.out 13; have hfz3_14 := blk_frozen BK346.out 14))
 go_ret
 exact ⟨by first | rfl | (simp [errW_none, errW_some] <;> rfl) | (simp [*, errW_none, errW_some] <;> rfl), by repeat (first | (with_reducible first | exact HB.out | apply bA | apply bN | apply bD | refine below_set ?_ GE346.out) | exact HB.out)⟩

/-! ### cv_str: stands for a conversion -/
def cv_str.f (a0 : ByteArray) : Option (List Int) := if a0.size ≤ 9223372036854775807 then some (bytesOf a0) else none
theorem cv_str.calls (a0 : ByteArray) (r : List Int) (w : World) (h : cv_str.f a0 = some r) : ConvStr Tryd.prog 9 34 a0 w fun e w' => ∃ v0_ : Value, e = .returned (v0_) ∧ Kd.V (Kd.int .u8) 5 w' w.heap.size (fun k_ => w.heap.size ≤ k_) v0_ r ∧ Below w.heap.size w w' := by
 unfold cv_str.f at h
 split at h
 ·obtain rfl := Option.some.inj h
  exact conv_str Tryd.underlying9 Tryd.underlying34 Tryd.underlying5 a0 (by assumption)
 ·cases h

end Go.Proofs.YtcjcaojgminjpabDoor.PB
