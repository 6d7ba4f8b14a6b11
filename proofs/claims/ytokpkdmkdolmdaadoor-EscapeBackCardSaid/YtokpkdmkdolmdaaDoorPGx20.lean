-- Written by a program of this work (the kit's print, with contracts of this work's own taken in) out of the translation. Not trusted: Lean checks it.
import Derived.Test.YtokpkdmkdolmdaaDoorPGx0
import Derived.Test.YtokpkdmkdolmdaaDoorPGx3
import Derived.Test.YtokpkdmkdolmdaaDoorPGx9
import Derived.Test.YtokpkdmkdolmdaaDoorPGx11
import Derived.Test.YtokpkdmkdolmdaaDoorPGx12
namespace Go.Proofs.YtokpkdmkdolmdaaDoor.PG
open Go.RowKit Go.Proofs.YtokpkdmkdolmdaaDoorW.PrintWords Go.Proofs.YtokpkdmkdolmdaaDoorW.PrintLast Go.Proofs.YtokpkdmkdolmdaaDoorW.PrintMore
attribute [local go_sem] max2_int min2_int max_two min_two max_three min_three max_four min_four   -- for this text's walks alone
set_option linter.unusedVariables false
set_option linter.unusedSimpArgs false

/-! ### lamplighterlaw07_EscapeBack: function 3 -/
def lamplighterlaw07_EscapeBack.l0 : Nat → ByteArray → ByteArray → Int → Int → Int → Int → Int → Int → Int → Option (Bool)
  | 0, _, _, _, _, _, _, _, _, _ => none
  | k + 1, x0, x5, x30, x31, x276000, x276001, x276002, x276003, x276004 => if x31 < x30 then (if 0 ≤ x31 then (if x31 < (x5.size : Int) then (if (bt x5 x31) = x276000 then (some false) else (if (bt x5 x31) = x276001 then (some false) else (if (bt x5 x31) = x276002 then (some false) else (if (bt x5 x31) = x276004 then (some false) else (if (bt x5 x31) = 11 then (some false) else (if (bt x5 x31) = 13 then (some false) else (if (bt x5 x31) = 28 then (some false) else (lamplighterlaw07_EscapeBack.l0 k x0 x5 x30 (wrap64 (x31 + 1)) x276000 x276001 x276002 x276003 x276004)))))))) else (none)) else (none)) else ((escape_Decode.f x5 x276000 x276001 x276002 x276003 x276004).bind fun bt280 => ((lamplighterlaw07_alive.f).bind fun t283 => (if t283 = true then (if bt280.2.2 = 0 then (if bt280.1.toList = x0.toList then (if bt280.2.1 = (x5.size : Int) then ((escape_Clean.f x0 x276000 x276001 x276002 x276003 x276004).bind fun t284 => (some (t284 == (x5.toList == x0.toList)))) else (some false)) else (some false)) else (some false)) else (some false))))
def lamplighterlaw07_EscapeBack.f (k : Nat) (a0 : ByteArray) (a1_0 : Int) (a1_1 : Int) (a1_2 : Int) (a1_3 : Int) (a1_4 : Int) : Option (Bool) := if (a0.size : Int) > 2000 then ((lamplighterlaw07_alive.f).bind fun t276 => (some t276)) else ((escape_Encode.f a0 a1_0 a1_1 a1_2 a1_3 a1_4).bind fun bt277 => (if bt277.2 = 0 then (lamplighterlaw07_EscapeBack.l0 k a0 bt277.1 (bt277.1.size : Int) 0 a1_0 a1_1 a1_2 a1_3 a1_4) else ((lamplighterlaw07_alive.f).bind fun t279 => (if t279 = true then (some (bt277.1.toList == ([] : List UInt8))) else (some false)))))
theorem lamplighterlaw07_EscapeBack.mono_l : ∀ k, (∀ y0 y1 y2 y3 y4 y5 y6 y7 y8, LeO (lamplighterlaw07_EscapeBack.l0 k y0 y1 y2 y3 y4 y5 y6 y7 y8) (lamplighterlaw07_EscapeBack.l0 (k + 1) y0 y1 y2 y3 y4 y5 y6 y7 y8))
  | 0 => fun _ _ _ _ _ _ _ _ _ r h => by simp [lamplighterlaw07_EscapeBack.l0] at h
  | k + 1 => by
    have ih0 := lamplighterlaw07_EscapeBack.mono_l k
    · intro y0 y1 y2 y3 y4 y5 y6 y7 y8
      unfold lamplighterlaw07_EscapeBack.l0
      repeat' first
      | (with_reducible exact ih0 _ _ _ _ _ _ _ _ _)
      | (with_reducible exact LeO.refl _)
      | (with_reducible exact LeO.none _)
      | (with_reducible refine LeO.ite ?_ ?_)
      | (with_reducible refine LeO.bind ?_ (fun _ => ?_))
      | exact ih0 _ _ _ _ _ _ _ _ _
      | exact LeO.none _
      | refine LeO.ite ?_ ?_
      | refine LeO.bind ?_ (fun _ => ?_)
theorem lamplighterlaw07_EscapeBack.mono : ∀ a0 a1 a2 a3 a4 a5 k, LeO (lamplighterlaw07_EscapeBack.f k a0 a1 a2 a3 a4 a5) (lamplighterlaw07_EscapeBack.f (k + 1) a0 a1 a2 a3 a4 a5) := by
  intro a0 a1 a2 a3 a4 a5 k
  have ih0 := lamplighterlaw07_EscapeBack.mono_l k
  unfold lamplighterlaw07_EscapeBack.f
  repeat' first
      | (with_reducible exact ih0 _ _ _ _ _ _ _ _ _)
      | (with_reducible exact LeO.refl _)
      | (with_reducible exact LeO.none _)
      | (with_reducible refine LeO.ite ?_ ?_)
      | (with_reducible refine LeO.bind ?_ (fun _ => ?_))
      | exact ih0 _ _ _ _ _ _ _ _ _
      | exact LeO.none _
      | refine LeO.ite ?_ ?_
      | refine LeO.bind ?_ (fun _ => ?_)
set_option maxHeartbeats 8000000 in
set_option maxRecDepth 100000 in
theorem lamplighterlaw07_EscapeBack.calls (k : Nat) (a0 : ByteArray) (a1_0 : Int) (a1_1 : Int) (a1_2 : Int) (a1_3 : Int) (a1_4 : Int) (r : Bool) (w : World) (h : lamplighterlaw07_EscapeBack.f k a0 a1_0 a1_1 a1_2 a1_3 a1_4 = some r) (hrt : r = true) :
    Calls Tryd.prog 3 #[.string a0, .agg #[.int .u8 a1_0, .int .u8 a1_1, .int .u8 a1_2, .int .u8 a1_3, .int .u8 a1_4]] w fun e w' => e = .returned (.bool r) ∧ Below w.heap.size w w' := by
  have hu23 := Tryd.underlying23
  have HB := Aside0.mk (Below.refl w.heap.size w)
  have H : (if (a0.size : Int) > 2000 then ((lamplighterlaw07_alive.f).bind fun t276 => (some t276)) else ((escape_Encode.f a0 a1_0 a1_1 a1_2 a1_3 a1_4).bind fun bt277 => (if bt277.2 = 0 then (lamplighterlaw07_EscapeBack.l0 k a0 bt277.1 (bt277.1.size : Int) 0 a1_0 a1_1 a1_2 a1_3 a1_4) else ((lamplighterlaw07_alive.f).bind fun t279 => (if t279 = true then (some (bt277.1.toList == ([] : List UInt8))) else (some false)))))) = some r := h
  clear h
  by_cases c3 : (a0.size : Int) > 2000
  · rw [if_pos c3] at H
    have c3b0 : decide (2000 < (a0.size : Int)) = true := decide_eq_true c3
    have c3b1 : decide (2000 < a0.size) = true := decide_eq_true (by omega)
    clear c3
    replace H := Option.bind_eq_some_iff.mp H
    obtain ⟨t276, A40, H⟩ := H
    replace H : (some t276) = some r := H
    have A4 := Aside0.mk A40
    clear A40
    obtain rfl := Option.some.inj H
    clear hrt
    go_enter Tryd.func3, Tryd.ntmps3
    go_wp2_with (first | ((with_reducible refine gate_dst (N := 3) rfl ?_); (try (refine gate_guard (by rfl) ?_; dsimp only)); refine box_event ?hg (N := 3) ?hd (cs := #[.int .u8 a1_0, .int .u8 a1_1, .int .u8 a1_2, .int .u8 a1_3, .int .u8 a1_4]) (t := 23) ?hr ?_; (case hd => rfl); (case hg => rfl); (case hr => first | (go_simp; done) | (go_simp; rfl)); intro gb275 hg w5 hbox hb; have n0_ := Aside0.mk (below_step (by repeat (first | (with_reducible first | exact HB.out | apply below_alloc | apply pw_below_drewN | apply below_drew1) | exact HB.out)) hb); have n1_ := Aside0.mk (hbox); have n2_ := Aside0.mk ((by rw [hg]; exact (below_size (by repeat (first | (with_reducible first | exact HB.out | apply below_alloc | apply pw_below_drewN | apply below_drew1) | exact HB.out))) : w.heap.size ≤ gb275)); have n3_ := Aside0.mk ((by rw [hg]; exact (below_size (by repeat (first | (with_reducible first | exact HB.out | apply below_alloc | apply pw_below_drewN | apply below_drew1) | exact HB.out))) : w.heap.size ≤ gb275)); clear HB; have HB := n0_; have BK275 := n1_; have GW275 := n2_; have GE275 := n3_; clear n0_ n1_ n2_ n3_; clear hb hbox hg) | ((with_reducible refine gate_callee (f := 9) rfl ?_); refine goesL_ (some 15) rfl rfl Tryd.func9 (by kernel_rfl) rfl #[] rfl (by (try simp only [List.map_toArray, List.map_cons, List.map_nil]); first | done | rfl | (simp only [List.length_drop, List.length_take]; rfl)) ?_; (with_reducible refine (lamplighterlaw07_alive.calls  t276 _ A4.out).mono ?_); rintro e w6 ⟨rfl, hb⟩; refine ⟨_, rfl, ?_⟩; have n0_ := Aside0.mk (blk_below (g := gb275) (o := .cells #[.int .u8 a1_0, .int .u8 a1_1, .int .u8 a1_2, .int .u8 a1_3, .int .u8 a1_4] 23 (0, 0)) (by (with_reducible repeat (first | refine blk_drewN ?_ _ | refine blk_drew ?_ | refine blk_alloc ?_ _)); exact BK275.out) hb); have n1_ := Aside0.mk (below_step (by repeat (first | (with_reducible first | exact HB.out | apply below_alloc | apply pw_below_drewN | apply below_drew1 | refine below_set ?_ GE275.out) | exact HB.out)) hb); clear BK275; clear HB; have BK275 := n0_; have HB := n1_; clear n0_ n1_; (try clear hb); (try clear hb2); (try clear hk); (try clear hi)))
    go_ret
    exact ⟨by first | rfl | (simp [errW_none, errW_some] <;> rfl) | (simp [*, errW_none, errW_some] <;> rfl), by repeat (first | (with_reducible first | exact HB.out | apply below_alloc | apply pw_below_drewN | apply below_drew1 | refine below_set ?_ GE275.out) | exact HB.out)⟩
  · rw [if_neg c3] at H
    have c3b0 : decide (2000 < (a0.size : Int)) = false := decide_eq_false c3
    have c3b1 : decide (2000 < a0.size) = false := decide_eq_false (by omega)
    clear c3
    replace H := Option.bind_eq_some_iff.mp H
    obtain ⟨⟨t277, t278⟩, A70, H⟩ := H
    replace H : (if t278 = 0 then (lamplighterlaw07_EscapeBack.l0 k a0 t277 (t277.size : Int) 0 a1_0 a1_1 a1_2 a1_3 a1_4) else ((lamplighterlaw07_alive.f).bind fun t279 => (if t279 = true then (some (t277.toList == ([] : List UInt8))) else (some false)))) = some r := H
    have A7 := Aside0.mk A70
    clear A70
    by_cases c8 : t278 = 0
    · rw [if_pos c8] at H
      have c8b0 : (t278 == 0) = true := beq_iff_eq.mpr c8
      have c8b1 : (t278 != 0) = false := bne_eq_false_iff_eq.mpr c8
      clear c8
      have H' := Aside0.mk H
      clear H
      go_enter Tryd.func3, Tryd.ntmps3
      go_wp2_with (first | ((with_reducible refine gate_dst (N := 3) rfl ?_); (try (refine gate_guard (by rfl) ?_; dsimp only)); refine box_event ?hg (N := 3) ?hd (cs := #[.int .u8 a1_0, .int .u8 a1_1, .int .u8 a1_2, .int .u8 a1_3, .int .u8 a1_4]) (t := 23) ?hr ?_; (case hd => rfl); (case hg => rfl); (case hr => first | (go_simp; done) | (go_simp; rfl)); intro gb275 hg w9 hbox hb; have n0_ := Aside0.mk (below_step (by repeat (first | (with_reducible first | exact HB.out | apply below_alloc | apply pw_below_drewN | apply below_drew1) | exact HB.out)) hb); have n1_ := Aside0.mk (hbox); have n2_ := Aside0.mk ((by rw [hg]; exact (below_size (by repeat (first | (with_reducible first | exact HB.out | apply below_alloc | apply pw_below_drewN | apply below_drew1) | exact HB.out))) : w.heap.size ≤ gb275)); have n3_ := Aside0.mk ((by rw [hg]; exact (below_size (by repeat (first | (with_reducible first | exact HB.out | apply below_alloc | apply pw_below_drewN | apply below_drew1) | exact HB.out))) : w.heap.size ≤ gb275)); clear HB; have HB := n0_; have BK275 := n1_; have GW275 := n2_; have GE275 := n3_; clear n0_ n1_ n2_ n3_; clear hb hbox hg; have hcz10_0 : w9.cell? ⟨gb275, 0, none⟩ = some (.int .u8 a1_0) := (blk_cell BK275.out 0).trans rfl; have hcz10_1 : w9.cell? ⟨gb275, 1, none⟩ = some (.int .u8 a1_1) := (blk_cell BK275.out 1).trans rfl; have hcz10_2 : w9.cell? ⟨gb275, 2, none⟩ = some (.int .u8 a1_2) := (blk_cell BK275.out 2).trans rfl; have hcz10_3 : w9.cell? ⟨gb275, 3, none⟩ = some (.int .u8 a1_3) := (blk_cell BK275.out 3).trans rfl; have hcz10_4 : w9.cell? ⟨gb275, 4, none⟩ = some (.int .u8 a1_4) := (blk_cell BK275.out 4).trans rfl; have hfz10_0 := blk_frozen BK275.out 0; have hfz10_1 := blk_frozen BK275.out 1; have hfz10_2 := blk_frozen BK275.out 2; have hfz10_3 := blk_frozen BK275.out 3; have hfz10_4 := blk_frozen BK275.out 4) | ((with_reducible refine gate_callee (f := 10) rfl ?_); refine goesL_ (some 19) rfl rfl Tryd.func10 (by kernel_rfl) rfl #[.string a0, .agg #[.int .u8 a1_0, .int .u8 a1_1, .int .u8 a1_2, .int .u8 a1_3, .int .u8 a1_4]] rfl (by (try simp only [List.map_toArray, List.map_cons, List.map_nil]); first | done | rfl | (simp only [List.length_drop, List.length_take]; rfl)) ?_; (with_reducible refine (escape_Encode.calls a0 a1_0 a1_1 a1_2 a1_3 a1_4 t277 t278 _ A7.out).mono ?_); rintro e w11 ⟨rfl, hb⟩; refine ⟨_, rfl, ?_⟩; have n0_ := Aside0.mk (blk_below (g := gb275) (o := .cells #[.int .u8 a1_0, .int .u8 a1_1, .int .u8 a1_2, .int .u8 a1_3, .int .u8 a1_4] 23 (0, 0)) (by (with_reducible repeat (first | refine blk_drewN ?_ _ | refine blk_drew ?_ | refine blk_alloc ?_ _)); exact BK275.out) hb); have n1_ := Aside0.mk (below_step (by repeat (first | (with_reducible first | exact HB.out | apply below_alloc | apply pw_below_drewN | apply below_drew1 | refine below_set ?_ GE275.out) | exact HB.out)) hb); clear BK275; clear HB; have BK275 := n0_; have HB := n1_; clear n0_ n1_; (try clear hb); (try clear hb2); (try clear hk); (try clear hi)))
      go_loopg [31] k (fun kq v31 w' => ∃ (x31_1 : Int), v31 = .int .i64 x31_1 ∧ Aside0 (lamplighterlaw07_EscapeBack.l0 kq a0 t277 (t277.size : Int) x31_1 a1_0 a1_1 a1_2 a1_3 a1_4 = some r) ∧ Aside0 (kq ≤ k) ∧ Aside0 (w'.heap[gb275]? = some (.cells #[.int .u8 a1_0, .int .u8 a1_1, .int .u8 a1_2, .int .u8 a1_3, .int .u8 a1_4] 23 (0, 0))) ∧ Aside0 (Below w.heap.size w w'))
      case atStart => exact ⟨(0), (by first | rfl | (simp; done) | (simp [*]; done)), H', ⟨Nat.le_refl _⟩, ⟨by (with_reducible repeat (first | refine blk_drewN ?_ _ | refine blk_drew ?_ | refine blk_alloc ?_ _)); exact BK275.out⟩, ⟨by repeat (first | (with_reducible first | exact HB.out | apply below_alloc | apply pw_below_drewN | apply below_drew1 | refine below_set ?_ GE275.out) | exact HB.out)⟩⟩
      case round =>
        clear H'
        try clear c1
        try clear p2
        try clear c3
        try clear c3b0
        try clear c3b1
        try clear c8
        try clear c8b0
        try clear c8b1
        try clear c9
        try clear c10
        try clear hcz10_0
        try clear hcz10_1
        try clear hcz10_2
        try clear hcz10_3
        try clear hcz10_4
        try clear hfz10_0
        try clear hfz10_1
        try clear hfz10_2
        try clear hfz10_3
        try clear hfz10_4
        obtain ⟨x31_1, rfl, HA, HK1, BK275, HB⟩ := hrel
        cases gk with
        | zero => exact absurd HA.out (by simp [lamplighterlaw07_EscapeBack.l0])
        | succ k1 =>
          have H := HA.out
          clear HA
          simp only [lamplighterlaw07_EscapeBack.l0] at H
          by_cases c12 : x31_1 < (t277.size : Int)
          · rw [if_pos c12] at H
            have c12b0 : decide (x31_1 < (t277.size : Int)) = true := decide_eq_true c12
            clear c12
            by_cases c13 : 0 ≤ x31_1
            · rw [if_pos c13] at H
              have c13b0 : decide (0 ≤ x31_1) = true := decide_eq_true c13
              clear c13
              by_cases c14 : x31_1 < (t277.size : Int)
              · rw [if_pos c14] at H
                have c14b0 : decide (x31_1 < (t277.size : Int)) = true := decide_eq_true c14
                clear c14
                by_cases c16 : (bt t277 x31_1) = a1_0
                · rw [if_pos c16] at H
                  have c16b0 : ((bt t277 x31_1) == a1_0) = true := beq_iff_eq.mpr c16
                  have c16b1 : ((bt t277 x31_1) != a1_0) = false := bne_eq_false_iff_eq.mpr c16
                  clear c16
                  obtain rfl := Option.some.inj H
                  clear hrt
                  have p15 : 0 ≤ (x31_1 : Int) := of_decide_eq_true (by first | (with_reducible assumption) | assumption)
                  have q15 : x31_1 < (t277.size : Int) := of_decide_eq_true (by first | (with_reducible assumption) | assumption)
                  have hx15 := bt_at t277 x31_1
                  replace p15 := eq_true p15
                  replace q15 := eq_true q15
                  have hcz17_0 : wr.cell? ⟨gb275, 0, none⟩ = some (.int .u8 a1_0) := (blk_cell BK275.out 0).trans rfl
                  have hcz17_1 : wr.cell? ⟨gb275, 1, none⟩ = some (.int .u8 a1_1) := (blk_cell BK275.out 1).trans rfl
                  have hcz17_2 : wr.cell? ⟨gb275, 2, none⟩ = some (.int .u8 a1_2) := (blk_cell BK275.out 2).trans rfl
                  have hcz17_3 : wr.cell? ⟨gb275, 3, none⟩ = some (.int .u8 a1_3) := (blk_cell BK275.out 3).trans rfl
                  have hcz17_4 : wr.cell? ⟨gb275, 4, none⟩ = some (.int .u8 a1_4) := (blk_cell BK275.out 4).trans rfl
                  have hfz17_0 := blk_frozen BK275.out 0
                  have hfz17_1 := blk_frozen BK275.out 1
                  have hfz17_2 := blk_frozen BK275.out 2
                  have hfz17_3 := blk_frozen BK275.out 3
                  have hfz17_4 := blk_frozen BK275.out 4
                  go_wp2
                  go_ret
                  exact ⟨by first | rfl | (simp [errW_none, errW_some] <;> rfl) | (simp [*, errW_none, errW_some] <;> rfl), by repeat (first | (with_reducible first | exact HB.out | apply below_alloc | apply pw_below_drewN | apply below_drew1 | refine below_set ?_ GE275.out) | exact HB.out)⟩
                · rw [if_neg c16] at H
                  have c16b0 : ((bt t277 x31_1) == a1_0) = false := beq_eq_false_iff_ne.mpr c16
                  have c16b1 : ((bt t277 x31_1) != a1_0) = true := bne_iff_ne.mpr c16
                  by_cases c18 : (bt t277 x31_1) = a1_1
                  · rw [if_pos c18] at H
                    have c18b0 : ((bt t277 x31_1) == a1_1) = true := beq_iff_eq.mpr c18
                    have c18b1 : ((bt t277 x31_1) != a1_1) = false := bne_eq_false_iff_eq.mpr c18
                    clear c18
                    obtain rfl := Option.some.inj H
                    clear hrt
                    have p15 : 0 ≤ (x31_1 : Int) := of_decide_eq_true (by first | (with_reducible assumption) | assumption)
                    have q15 : x31_1 < (t277.size : Int) := of_decide_eq_true (by first | (with_reducible assumption) | assumption)
                    have hx15 := bt_at t277 x31_1
                    replace p15 := eq_true p15
                    replace q15 := eq_true q15
                    have hcz19_0 : wr.cell? ⟨gb275, 0, none⟩ = some (.int .u8 a1_0) := (blk_cell BK275.out 0).trans rfl
                    have hcz19_1 : wr.cell? ⟨gb275, 1, none⟩ = some (.int .u8 a1_1) := (blk_cell BK275.out 1).trans rfl
                    have hcz19_2 : wr.cell? ⟨gb275, 2, none⟩ = some (.int .u8 a1_2) := (blk_cell BK275.out 2).trans rfl
                    have hcz19_3 : wr.cell? ⟨gb275, 3, none⟩ = some (.int .u8 a1_3) := (blk_cell BK275.out 3).trans rfl
                    have hcz19_4 : wr.cell? ⟨gb275, 4, none⟩ = some (.int .u8 a1_4) := (blk_cell BK275.out 4).trans rfl
                    have hfz19_0 := blk_frozen BK275.out 0
                    have hfz19_1 := blk_frozen BK275.out 1
                    have hfz19_2 := blk_frozen BK275.out 2
                    have hfz19_3 := blk_frozen BK275.out 3
                    have hfz19_4 := blk_frozen BK275.out 4
                    go_wp2
                    go_ret
                    exact ⟨by first | rfl | (simp [errW_none, errW_some] <;> rfl) | (simp [*, errW_none, errW_some] <;> rfl), by repeat (first | (with_reducible first | exact HB.out | apply below_alloc | apply pw_below_drewN | apply below_drew1 | refine below_set ?_ GE275.out) | exact HB.out)⟩
                  · rw [if_neg c18] at H
                    have c18b0 : ((bt t277 x31_1) == a1_1) = false := beq_eq_false_iff_ne.mpr c18
                    have c18b1 : ((bt t277 x31_1) != a1_1) = true := bne_iff_ne.mpr c18
                    by_cases c20 : (bt t277 x31_1) = a1_2
                    · rw [if_pos c20] at H
                      have c20b0 : ((bt t277 x31_1) == a1_2) = true := beq_iff_eq.mpr c20
                      have c20b1 : ((bt t277 x31_1) != a1_2) = false := bne_eq_false_iff_eq.mpr c20
                      clear c20
                      obtain rfl := Option.some.inj H
                      clear hrt
                      have p15 : 0 ≤ (x31_1 : Int) := of_decide_eq_true (by first | (with_reducible assumption) | assumption)
                      have q15 : x31_1 < (t277.size : Int) := of_decide_eq_true (by first | (with_reducible assumption) | assumption)
                      have hx15 := bt_at t277 x31_1
                      replace p15 := eq_true p15
                      replace q15 := eq_true q15
                      have hcz21_0 : wr.cell? ⟨gb275, 0, none⟩ = some (.int .u8 a1_0) := (blk_cell BK275.out 0).trans rfl
                      have hcz21_1 : wr.cell? ⟨gb275, 1, none⟩ = some (.int .u8 a1_1) := (blk_cell BK275.out 1).trans rfl
                      have hcz21_2 : wr.cell? ⟨gb275, 2, none⟩ = some (.int .u8 a1_2) := (blk_cell BK275.out 2).trans rfl
                      have hcz21_3 : wr.cell? ⟨gb275, 3, none⟩ = some (.int .u8 a1_3) := (blk_cell BK275.out 3).trans rfl
                      have hcz21_4 : wr.cell? ⟨gb275, 4, none⟩ = some (.int .u8 a1_4) := (blk_cell BK275.out 4).trans rfl
                      have hfz21_0 := blk_frozen BK275.out 0
                      have hfz21_1 := blk_frozen BK275.out 1
                      have hfz21_2 := blk_frozen BK275.out 2
                      have hfz21_3 := blk_frozen BK275.out 3
                      have hfz21_4 := blk_frozen BK275.out 4
                      go_wp2
                      go_ret
                      exact ⟨by first | rfl | (simp [errW_none, errW_some] <;> rfl) | (simp [*, errW_none, errW_some] <;> rfl), by repeat (first | (with_reducible first | exact HB.out | apply below_alloc | apply pw_below_drewN | apply below_drew1 | refine below_set ?_ GE275.out) | exact HB.out)⟩
                    · rw [if_neg c20] at H
                      have c20b0 : ((bt t277 x31_1) == a1_2) = false := beq_eq_false_iff_ne.mpr c20
                      have c20b1 : ((bt t277 x31_1) != a1_2) = true := bne_iff_ne.mpr c20
                      by_cases c22 : (bt t277 x31_1) = a1_4
                      · rw [if_pos c22] at H
                        have c22b0 : ((bt t277 x31_1) == a1_4) = true := beq_iff_eq.mpr c22
                        have c22b1 : ((bt t277 x31_1) != a1_4) = false := bne_eq_false_iff_eq.mpr c22
                        clear c22
                        obtain rfl := Option.some.inj H
                        clear hrt
                        have p15 : 0 ≤ (x31_1 : Int) := of_decide_eq_true (by first | (with_reducible assumption) | assumption)
                        have q15 : x31_1 < (t277.size : Int) := of_decide_eq_true (by first | (with_reducible assumption) | assumption)
                        have hx15 := bt_at t277 x31_1
                        replace p15 := eq_true p15
                        replace q15 := eq_true q15
                        have hcz23_0 : wr.cell? ⟨gb275, 0, none⟩ = some (.int .u8 a1_0) := (blk_cell BK275.out 0).trans rfl
                        have hcz23_1 : wr.cell? ⟨gb275, 1, none⟩ = some (.int .u8 a1_1) := (blk_cell BK275.out 1).trans rfl
                        have hcz23_2 : wr.cell? ⟨gb275, 2, none⟩ = some (.int .u8 a1_2) := (blk_cell BK275.out 2).trans rfl
                        have hcz23_3 : wr.cell? ⟨gb275, 3, none⟩ = some (.int .u8 a1_3) := (blk_cell BK275.out 3).trans rfl
                        have hcz23_4 : wr.cell? ⟨gb275, 4, none⟩ = some (.int .u8 a1_4) := (blk_cell BK275.out 4).trans rfl
                        have hfz23_0 := blk_frozen BK275.out 0
                        have hfz23_1 := blk_frozen BK275.out 1
                        have hfz23_2 := blk_frozen BK275.out 2
                        have hfz23_3 := blk_frozen BK275.out 3
                        have hfz23_4 := blk_frozen BK275.out 4
                        go_wp2
                        go_ret
                        exact ⟨by first | rfl | (simp [errW_none, errW_some] <;> rfl) | (simp [*, errW_none, errW_some] <;> rfl), by repeat (first | (with_reducible first | exact HB.out | apply below_alloc | apply pw_below_drewN | apply below_drew1 | refine below_set ?_ GE275.out) | exact HB.out)⟩
                      · rw [if_neg c22] at H
                        have c22b0 : ((bt t277 x31_1) == a1_4) = false := beq_eq_false_iff_ne.mpr c22
                        have c22b1 : ((bt t277 x31_1) != a1_4) = true := bne_iff_ne.mpr c22
                        by_cases c24 : (bt t277 x31_1) = 11
                        · rw [if_pos c24] at H
                          have c24b0 : ((bt t277 x31_1) == 11) = true := beq_iff_eq.mpr c24
                          have c24b1 : ((bt t277 x31_1) != 11) = false := bne_eq_false_iff_eq.mpr c24
                          clear c24
                          obtain rfl := Option.some.inj H
                          clear hrt
                          have p15 : 0 ≤ (x31_1 : Int) := of_decide_eq_true (by first | (with_reducible assumption) | assumption)
                          have q15 : x31_1 < (t277.size : Int) := of_decide_eq_true (by first | (with_reducible assumption) | assumption)
                          have hx15 := bt_at t277 x31_1
                          replace p15 := eq_true p15
                          replace q15 := eq_true q15
                          have hcz25_0 : wr.cell? ⟨gb275, 0, none⟩ = some (.int .u8 a1_0) := (blk_cell BK275.out 0).trans rfl
                          have hcz25_1 : wr.cell? ⟨gb275, 1, none⟩ = some (.int .u8 a1_1) := (blk_cell BK275.out 1).trans rfl
                          have hcz25_2 : wr.cell? ⟨gb275, 2, none⟩ = some (.int .u8 a1_2) := (blk_cell BK275.out 2).trans rfl
                          have hcz25_3 : wr.cell? ⟨gb275, 3, none⟩ = some (.int .u8 a1_3) := (blk_cell BK275.out 3).trans rfl
                          have hcz25_4 : wr.cell? ⟨gb275, 4, none⟩ = some (.int .u8 a1_4) := (blk_cell BK275.out 4).trans rfl
                          have hfz25_0 := blk_frozen BK275.out 0
                          have hfz25_1 := blk_frozen BK275.out 1
                          have hfz25_2 := blk_frozen BK275.out 2
                          have hfz25_3 := blk_frozen BK275.out 3
                          have hfz25_4 := blk_frozen BK275.out 4
                          go_wp2
                          go_ret
                          exact ⟨by first | rfl | (simp [errW_none, errW_some] <;> rfl) | (simp [*, errW_none, errW_some] <;> rfl), by repeat (first | (with_reducible first | exact HB.out | apply below_alloc | apply pw_below_drewN | apply below_drew1 | refine below_set ?_ GE275.out) | exact HB.out)⟩
                        · rw [if_neg c24] at H
                          have c24b0 : ((bt t277 x31_1) == 11) = false := beq_eq_false_iff_ne.mpr c24
                          have c24b1 : ((bt t277 x31_1) != 11) = true := bne_iff_ne.mpr c24
                          by_cases c26 : (bt t277 x31_1) = 13
                          · rw [if_pos c26] at H
                            have c26b0 : ((bt t277 x31_1) == 13) = true := beq_iff_eq.mpr c26
                            have c26b1 : ((bt t277 x31_1) != 13) = false := bne_eq_false_iff_eq.mpr c26
                            clear c26
                            obtain rfl := Option.some.inj H
                            clear hrt
                            have p15 : 0 ≤ (x31_1 : Int) := of_decide_eq_true (by first | (with_reducible assumption) | assumption)
                            have q15 : x31_1 < (t277.size : Int) := of_decide_eq_true (by first | (with_reducible assumption) | assumption)
                            have hx15 := bt_at t277 x31_1
                            replace p15 := eq_true p15
                            replace q15 := eq_true q15
                            have hcz27_0 : wr.cell? ⟨gb275, 0, none⟩ = some (.int .u8 a1_0) := (blk_cell BK275.out 0).trans rfl
                            have hcz27_1 : wr.cell? ⟨gb275, 1, none⟩ = some (.int .u8 a1_1) := (blk_cell BK275.out 1).trans rfl
                            have hcz27_2 : wr.cell? ⟨gb275, 2, none⟩ = some (.int .u8 a1_2) := (blk_cell BK275.out 2).trans rfl
                            have hcz27_3 : wr.cell? ⟨gb275, 3, none⟩ = some (.int .u8 a1_3) := (blk_cell BK275.out 3).trans rfl
                            have hcz27_4 : wr.cell? ⟨gb275, 4, none⟩ = some (.int .u8 a1_4) := (blk_cell BK275.out 4).trans rfl
                            have hfz27_0 := blk_frozen BK275.out 0
                            have hfz27_1 := blk_frozen BK275.out 1
                            have hfz27_2 := blk_frozen BK275.out 2
                            have hfz27_3 := blk_frozen BK275.out 3
                            have hfz27_4 := blk_frozen BK275.out 4
                            go_wp2
                            go_ret
                            exact ⟨by first | rfl | (simp [errW_none, errW_some] <;> rfl) | (simp [*, errW_none, errW_some] <;> rfl), by repeat (first | (with_reducible first | exact HB.out | apply below_alloc | apply pw_below_drewN | apply below_drew1 | refine below_set ?_ GE275.out) | exact HB.out)⟩
                          · rw [if_neg c26] at H
                            have c26b0 : ((bt t277 x31_1) == 13) = false := beq_eq_false_iff_ne.mpr c26
                            have c26b1 : ((bt t277 x31_1) != 13) = true := bne_iff_ne.mpr c26
                            by_cases c28 : (bt t277 x31_1) = 28
                            · rw [if_pos c28] at H
                              have c28b0 : ((bt t277 x31_1) == 28) = true := beq_iff_eq.mpr c28
                              have c28b1 : ((bt t277 x31_1) != 28) = false := bne_eq_false_iff_eq.mpr c28
                              clear c28
                              obtain rfl := Option.some.inj H
                              clear hrt
                              have p15 : 0 ≤ (x31_1 : Int) := of_decide_eq_true (by first | (with_reducible assumption) | assumption)
                              have q15 : x31_1 < (t277.size : Int) := of_decide_eq_true (by first | (with_reducible assumption) | assumption)
                              have hx15 := bt_at t277 x31_1
                              replace p15 := eq_true p15
                              replace q15 := eq_true q15
                              have hcz29_0 : wr.cell? ⟨gb275, 0, none⟩ = some (.int .u8 a1_0) := (blk_cell BK275.out 0).trans rfl
                              have hcz29_1 : wr.cell? ⟨gb275, 1, none⟩ = some (.int .u8 a1_1) := (blk_cell BK275.out 1).trans rfl
                              have hcz29_2 : wr.cell? ⟨gb275, 2, none⟩ = some (.int .u8 a1_2) := (blk_cell BK275.out 2).trans rfl
                              have hcz29_3 : wr.cell? ⟨gb275, 3, none⟩ = some (.int .u8 a1_3) := (blk_cell BK275.out 3).trans rfl
                              have hcz29_4 : wr.cell? ⟨gb275, 4, none⟩ = some (.int .u8 a1_4) := (blk_cell BK275.out 4).trans rfl
                              have hfz29_0 := blk_frozen BK275.out 0
                              have hfz29_1 := blk_frozen BK275.out 1
                              have hfz29_2 := blk_frozen BK275.out 2
                              have hfz29_3 := blk_frozen BK275.out 3
                              have hfz29_4 := blk_frozen BK275.out 4
                              go_wp2
                              go_ret
                              exact ⟨by first | rfl | (simp [errW_none, errW_some] <;> rfl) | (simp [*, errW_none, errW_some] <;> rfl), by repeat (first | (with_reducible first | exact HB.out | apply below_alloc | apply pw_below_drewN | apply below_drew1 | refine below_set ?_ GE275.out) | exact HB.out)⟩
                            · rw [if_neg c28] at H
                              have c28b0 : ((bt t277 x31_1) == 28) = false := beq_eq_false_iff_ne.mpr c28
                              have c28b1 : ((bt t277 x31_1) != 28) = true := bne_iff_ne.mpr c28
                              have H' := Aside0.mk H
                              clear H
                              have p15 : 0 ≤ (x31_1 : Int) := of_decide_eq_true (by first | (with_reducible assumption) | assumption)
                              have q15 : x31_1 < (t277.size : Int) := of_decide_eq_true (by first | (with_reducible assumption) | assumption)
                              have hx15 := bt_at t277 x31_1
                              replace p15 := eq_true p15
                              replace q15 := eq_true q15
                              have hcz30_0 : wr.cell? ⟨gb275, 0, none⟩ = some (.int .u8 a1_0) := (blk_cell BK275.out 0).trans rfl
                              have hcz30_1 : wr.cell? ⟨gb275, 1, none⟩ = some (.int .u8 a1_1) := (blk_cell BK275.out 1).trans rfl
                              have hcz30_2 : wr.cell? ⟨gb275, 2, none⟩ = some (.int .u8 a1_2) := (blk_cell BK275.out 2).trans rfl
                              have hcz30_3 : wr.cell? ⟨gb275, 3, none⟩ = some (.int .u8 a1_3) := (blk_cell BK275.out 3).trans rfl
                              have hcz30_4 : wr.cell? ⟨gb275, 4, none⟩ = some (.int .u8 a1_4) := (blk_cell BK275.out 4).trans rfl
                              have hfz30_0 := blk_frozen BK275.out 0
                              have hfz30_1 := blk_frozen BK275.out 1
                              have hfz30_2 := blk_frozen BK275.out 2
                              have hfz30_3 := blk_frozen BK275.out 3
                              have hfz30_4 := blk_frozen BK275.out 4
                              go_wp2
                              go_roundg k1
                              case measure => have := HK1.out; omega
                              case rel => exact ⟨(wrap64 (x31_1 + 1)), (by first | rfl | (simp; done) | (simp [*]; done)), H', ⟨by have := HK1.out; omega⟩, ⟨by (with_reducible repeat (first | refine blk_drewN ?_ _ | refine blk_drew ?_ | refine blk_alloc ?_ _)); exact BK275.out⟩, ⟨by repeat (first | (with_reducible first | exact HB.out | apply below_alloc | apply pw_below_drewN | apply below_drew1 | refine below_set ?_ GE275.out) | exact HB.out)⟩⟩
              · rw [if_neg c14] at H
                exact absurd H (by simp)
            · rw [if_neg c13] at H
              exact absurd H (by simp)
          · rw [if_neg c12] at H
            have c12b0 : decide (x31_1 < (t277.size : Int)) = false := decide_eq_false c12
            clear c12
            replace H := Option.bind_eq_some_iff.mp H
            obtain ⟨⟨t280, t281, t282⟩, A310, H⟩ := H
            replace H : ((lamplighterlaw07_alive.f).bind fun t283 => (if t283 = true then (if t282 = 0 then (if t280.toList = a0.toList then (if t281 = (t277.size : Int) then ((escape_Clean.f a0 a1_0 a1_1 a1_2 a1_3 a1_4).bind fun t284 => (some (t284 == (t277.toList == a0.toList)))) else (some false)) else (some false)) else (some false)) else (some false))) = some r := H
            have A31 := Aside0.mk A310
            clear A310
            replace H := Option.bind_eq_some_iff.mp H
            obtain ⟨t283, A320, H⟩ := H
            replace H : (if t283 = true then (if t282 = 0 then (if t280.toList = a0.toList then (if t281 = (t277.size : Int) then ((escape_Clean.f a0 a1_0 a1_1 a1_2 a1_3 a1_4).bind fun t284 => (some (t284 == (t277.toList == a0.toList)))) else (some false)) else (some false)) else (some false)) else (some false)) = some r := H
            have A32 := Aside0.mk A320
            clear A320
            by_cases c33 : t283 = true
            · subst c33
              have H1 : (if t282 = 0 then (if t280.toList = a0.toList then (if t281 = (t277.size : Int) then ((escape_Clean.f a0 a1_0 a1_1 a1_2 a1_3 a1_4).bind fun t284 => (some (t284 == (t277.toList == a0.toList)))) else (some false)) else (some false)) else (some false)) = some r := by rw [if_pos rfl] at H; exact H
              clear H
              have H := H1
              clear H1
              by_cases c34 : t282 = 0
              · rw [if_pos c34] at H
                have c34b0 : (t282 == 0) = true := beq_iff_eq.mpr c34
                have c34b1 : (t282 != 0) = false := bne_eq_false_iff_eq.mpr c34
                clear c34
                by_cases c35 : t280.toList = a0.toList
                · rw [if_pos c35] at H
                  have c35b0 : (t280.toList == a0.toList) = true := beq_iff_eq.mpr c35
                  have c35b1 : (t280.toList != a0.toList) = false := bne_eq_false_iff_eq.mpr c35
                  clear c35
                  by_cases c36 : t281 = (t277.size : Int)
                  · rw [if_pos c36] at H
                    have c36b0 : (t281 == (t277.size : Int)) = true := beq_iff_eq.mpr c36
                    have c36b1 : (t281 != (t277.size : Int)) = false := bne_eq_false_iff_eq.mpr c36
                    clear c36
                    replace H := Option.bind_eq_some_iff.mp H
                    obtain ⟨t284, A370, H⟩ := H
                    replace H : (some (t284 == (t277.toList == a0.toList))) = some r := H
                    have A37 := Aside0.mk A370
                    clear A370
                    obtain rfl := Option.some.inj H
                    clear hrt
                    have hcz38_0 : wr.cell? ⟨gb275, 0, none⟩ = some (.int .u8 a1_0) := (blk_cell BK275.out 0).trans rfl
                    have hcz38_1 : wr.cell? ⟨gb275, 1, none⟩ = some (.int .u8 a1_1) := (blk_cell BK275.out 1).trans rfl
                    have hcz38_2 : wr.cell? ⟨gb275, 2, none⟩ = some (.int .u8 a1_2) := (blk_cell BK275.out 2).trans rfl
                    have hcz38_3 : wr.cell? ⟨gb275, 3, none⟩ = some (.int .u8 a1_3) := (blk_cell BK275.out 3).trans rfl
                    have hcz38_4 : wr.cell? ⟨gb275, 4, none⟩ = some (.int .u8 a1_4) := (blk_cell BK275.out 4).trans rfl
                    have hfz38_0 := blk_frozen BK275.out 0
                    have hfz38_1 := blk_frozen BK275.out 1
                    have hfz38_2 := blk_frozen BK275.out 2
                    have hfz38_3 := blk_frozen BK275.out 3
                    have hfz38_4 := blk_frozen BK275.out 4
                    go_wp2_with (first | ((with_reducible refine gate_callee (f := 11) rfl ?_); refine goesL_ (some 75) rfl rfl Tryd.func11 (by kernel_rfl) rfl #[.string t277, .agg #[.int .u8 a1_0, .int .u8 a1_1, .int .u8 a1_2, .int .u8 a1_3, .int .u8 a1_4]] rfl (by (try simp only [List.map_toArray, List.map_cons, List.map_nil]); first | done | rfl | (simp only [List.length_drop, List.length_take]; rfl)) ?_; (with_reducible refine (escape_Decode.calls t277 a1_0 a1_1 a1_2 a1_3 a1_4 t280 t281 t282 _ A31.out).mono ?_); rintro e w39 ⟨rfl, hb⟩; refine ⟨_, rfl, ?_⟩; have n0_ := Aside0.mk (blk_below (g := gb275) (o := .cells #[.int .u8 a1_0, .int .u8 a1_1, .int .u8 a1_2, .int .u8 a1_3, .int .u8 a1_4] 23 (0, 0)) (by (with_reducible repeat (first | refine blk_drewN ?_ _ | refine blk_drew ?_ | refine blk_alloc ?_ _)); exact BK275.out) hb); have n1_ := Aside0.mk (below_step (by repeat (first | (with_reducible first | exact HB.out | apply below_alloc | apply pw_below_drewN | apply below_drew1 | refine below_set ?_ GE275.out) | exact HB.out)) hb); clear BK275; clear HB; have BK275 := n0_; have HB := n1_; clear n0_ n1_; (try clear hb); (try clear hb2); (try clear hk); (try clear hi)) | ((with_reducible refine gate_callee (f := 9) rfl ?_); refine goesL_ (some 79) rfl rfl Tryd.func9 (by kernel_rfl) rfl #[] rfl (by (try simp only [List.map_toArray, List.map_cons, List.map_nil]); first | done | rfl | (simp only [List.length_drop, List.length_take]; rfl)) ?_; (with_reducible refine (lamplighterlaw07_alive.calls  true _ A32.out).mono ?_); rintro e w40 ⟨rfl, hb⟩; refine ⟨_, rfl, ?_⟩; have n0_ := Aside0.mk (blk_below (g := gb275) (o := .cells #[.int .u8 a1_0, .int .u8 a1_1, .int .u8 a1_2, .int .u8 a1_3, .int .u8 a1_4] 23 (0, 0)) (by (with_reducible repeat (first | refine blk_drewN ?_ _ | refine blk_drew ?_ | refine blk_alloc ?_ _)); exact BK275.out) hb); have n1_ := Aside0.mk (below_step (by repeat (first | (with_reducible first | exact HB.out | apply below_alloc | apply pw_below_drewN | apply below_drew1 | refine below_set ?_ GE275.out) | exact HB.out)) hb); clear BK275; clear HB; have BK275 := n0_; have HB := n1_; clear n0_ n1_; (try clear hb); (try clear hb2); (try clear hk); (try clear hi); have hcz41_0 : w40.cell? ⟨gb275, 0, none⟩ = some (.int .u8 a1_0) := (blk_cell BK275.out 0).trans rfl; have hcz41_1 : w40.cell? ⟨gb275, 1, none⟩ = some (.int .u8 a1_1) := (blk_cell BK275.out 1).trans rfl; have hcz41_2 : w40.cell? ⟨gb275, 2, none⟩ = some (.int .u8 a1_2) := (blk_cell BK275.out 2).trans rfl; have hcz41_3 : w40.cell? ⟨gb275, 3, none⟩ = some (.int .u8 a1_3) := (blk_cell BK275.out 3).trans rfl; have hcz41_4 : w40.cell? ⟨gb275, 4, none⟩ = some (.int .u8 a1_4) := (blk_cell BK275.out 4).trans rfl; have hfz41_0 := blk_frozen BK275.out 0; have hfz41_1 := blk_frozen BK275.out 1; have hfz41_2 := blk_frozen BK275.out 2; have hfz41_3 := blk_frozen BK275.out 3; have hfz41_4 := blk_frozen BK275.out 4) | (go_at_call 12; (with_reducible refine (escape_Clean.calls a0 a1_0 a1_1 a1_2 a1_3 a1_4 t284 _ A37.out).mono ?_); rintro e w42 ⟨rfl, hb⟩; have n0_ := Aside0.mk (blk_below (g := gb275) (o := .cells #[.int .u8 a1_0, .int .u8 a1_1, .int .u8 a1_2, .int .u8 a1_3, .int .u8 a1_4] 23 (0, 0)) (by (with_reducible repeat (first | refine blk_drewN ?_ _ | refine blk_drew ?_ | refine blk_alloc ?_ _)); exact BK275.out) hb); have n1_ := Aside0.mk (below_step (by repeat (first | (with_reducible first | exact HB.out | apply below_alloc | apply pw_below_drewN | apply below_drew1 | refine below_set ?_ GE275.out) | exact HB.out)) hb); clear BK275; clear HB; have BK275 := n0_; have HB := n1_; clear n0_ n1_; (try clear hb); (try clear hb2); (try clear hk); (try clear hi)))
                    go_ret
                    exact ⟨by first | rfl | (simp [errW_none, errW_some] <;> rfl) | (simp [*, errW_none, errW_some] <;> rfl), by repeat (first | (with_reducible first | exact HB.out | apply below_alloc | apply pw_below_drewN | apply below_drew1 | refine below_set ?_ GE275.out) | exact HB.out)⟩
                  · rw [if_neg c36] at H
                    have c36b0 : (t281 == (t277.size : Int)) = false := beq_eq_false_iff_ne.mpr c36
                    have c36b1 : (t281 != (t277.size : Int)) = true := bne_iff_ne.mpr c36
                    obtain rfl := Option.some.inj H
                    cases hrt
                · rw [if_neg c35] at H
                  have c35b0 : (t280.toList == a0.toList) = false := beq_eq_false_iff_ne.mpr c35
                  have c35b1 : (t280.toList != a0.toList) = true := bne_iff_ne.mpr c35
                  obtain rfl := Option.some.inj H
                  cases hrt
              · rw [if_neg c34] at H
                have c34b0 : (t282 == 0) = false := beq_eq_false_iff_ne.mpr c34
                have c34b1 : (t282 != 0) = true := bne_iff_ne.mpr c34
                obtain rfl := Option.some.inj H
                cases hrt
            · replace c33 := Bool.eq_false_iff.mpr c33
              subst c33
              have H1 : (some false) = some r := by rw [if_neg (show ¬ (false = true) by decide)] at H; exact H
              clear H
              have H := H1
              clear H1
              obtain rfl := Option.some.inj H
              cases hrt
    · rw [if_neg c8] at H
      have c8b0 : (t278 == 0) = false := beq_eq_false_iff_ne.mpr c8
      have c8b1 : (t278 != 0) = true := bne_iff_ne.mpr c8
      replace H := Option.bind_eq_some_iff.mp H
      obtain ⟨t279, A550, H⟩ := H
      replace H : (if t279 = true then (some (t277.toList == ([] : List UInt8))) else (some false)) = some r := H
      have A55 := Aside0.mk A550
      clear A550
      by_cases c56 : t279 = true
      · subst c56
        have H1 : (some (t277.toList == ([] : List UInt8))) = some r := by rw [if_pos rfl] at H; exact H
        clear H
        have H := H1
        clear H1
        obtain rfl := Option.some.inj H
        clear hrt
        go_enter Tryd.func3, Tryd.ntmps3
        go_wp2_with (first | ((with_reducible refine gate_dst (N := 3) rfl ?_); (try (refine gate_guard (by rfl) ?_; dsimp only)); refine box_event ?hg (N := 3) ?hd (cs := #[.int .u8 a1_0, .int .u8 a1_1, .int .u8 a1_2, .int .u8 a1_3, .int .u8 a1_4]) (t := 23) ?hr ?_; (case hd => rfl); (case hg => rfl); (case hr => first | (go_simp; done) | (go_simp; rfl)); intro gb275 hg w57 hbox hb; have n0_ := Aside0.mk (below_step (by repeat (first | (with_reducible first | exact HB.out | apply below_alloc | apply pw_below_drewN | apply below_drew1) | exact HB.out)) hb); have n1_ := Aside0.mk (hbox); have n2_ := Aside0.mk ((by rw [hg]; exact (below_size (by repeat (first | (with_reducible first | exact HB.out | apply below_alloc | apply pw_below_drewN | apply below_drew1) | exact HB.out))) : w.heap.size ≤ gb275)); have n3_ := Aside0.mk ((by rw [hg]; exact (below_size (by repeat (first | (with_reducible first | exact HB.out | apply below_alloc | apply pw_below_drewN | apply below_drew1) | exact HB.out))) : w.heap.size ≤ gb275)); clear HB; have HB := n0_; have BK275 := n1_; have GW275 := n2_; have GE275 := n3_; clear n0_ n1_ n2_ n3_; clear hb hbox hg; have hcz58_0 : w57.cell? ⟨gb275, 0, none⟩ = some (.int .u8 a1_0) := (blk_cell BK275.out 0).trans rfl; have hcz58_1 : w57.cell? ⟨gb275, 1, none⟩ = some (.int .u8 a1_1) := (blk_cell BK275.out 1).trans rfl; have hcz58_2 : w57.cell? ⟨gb275, 2, none⟩ = some (.int .u8 a1_2) := (blk_cell BK275.out 2).trans rfl; have hcz58_3 : w57.cell? ⟨gb275, 3, none⟩ = some (.int .u8 a1_3) := (blk_cell BK275.out 3).trans rfl; have hcz58_4 : w57.cell? ⟨gb275, 4, none⟩ = some (.int .u8 a1_4) := (blk_cell BK275.out 4).trans rfl; have hfz58_0 := blk_frozen BK275.out 0; have hfz58_1 := blk_frozen BK275.out 1; have hfz58_2 := blk_frozen BK275.out 2; have hfz58_3 := blk_frozen BK275.out 3; have hfz58_4 := blk_frozen BK275.out 4) | ((with_reducible refine gate_callee (f := 10) rfl ?_); refine goesL_ (some 19) rfl rfl Tryd.func10 (by kernel_rfl) rfl #[.string a0, .agg #[.int .u8 a1_0, .int .u8 a1_1, .int .u8 a1_2, .int .u8 a1_3, .int .u8 a1_4]] rfl (by (try simp only [List.map_toArray, List.map_cons, List.map_nil]); first | done | rfl | (simp only [List.length_drop, List.length_take]; rfl)) ?_; (with_reducible refine (escape_Encode.calls a0 a1_0 a1_1 a1_2 a1_3 a1_4 t277 t278 _ A7.out).mono ?_); rintro e w59 ⟨rfl, hb⟩; refine ⟨_, rfl, ?_⟩; have n0_ := Aside0.mk (blk_below (g := gb275) (o := .cells #[.int .u8 a1_0, .int .u8 a1_1, .int .u8 a1_2, .int .u8 a1_3, .int .u8 a1_4] 23 (0, 0)) (by (with_reducible repeat (first | refine blk_drewN ?_ _ | refine blk_drew ?_ | refine blk_alloc ?_ _)); exact BK275.out) hb); have n1_ := Aside0.mk (below_step (by repeat (first | (with_reducible first | exact HB.out | apply below_alloc | apply pw_below_drewN | apply below_drew1 | refine below_set ?_ GE275.out) | exact HB.out)) hb); clear BK275; clear HB; have BK275 := n0_; have HB := n1_; clear n0_ n1_; (try clear hb); (try clear hb2); (try clear hk); (try clear hi)) | ((with_reducible refine gate_callee (f := 9) rfl ?_); refine goesL_ (some 24) rfl rfl Tryd.func9 (by kernel_rfl) rfl #[] rfl (by (try simp only [List.map_toArray, List.map_cons, List.map_nil]); first | done | rfl | (simp only [List.length_drop, List.length_take]; rfl)) ?_; (with_reducible refine (lamplighterlaw07_alive.calls  true _ A55.out).mono ?_); rintro e w60 ⟨rfl, hb⟩; refine ⟨_, rfl, ?_⟩; have n0_ := Aside0.mk (blk_below (g := gb275) (o := .cells #[.int .u8 a1_0, .int .u8 a1_1, .int .u8 a1_2, .int .u8 a1_3, .int .u8 a1_4] 23 (0, 0)) (by (with_reducible repeat (first | refine blk_drewN ?_ _ | refine blk_drew ?_ | refine blk_alloc ?_ _)); exact BK275.out) hb); have n1_ := Aside0.mk (below_step (by repeat (first | (with_reducible first | exact HB.out | apply below_alloc | apply pw_below_drewN | apply below_drew1 | refine below_set ?_ GE275.out) | exact HB.out)) hb); clear BK275; clear HB; have BK275 := n0_; have HB := n1_; clear n0_ n1_; (try clear hb); (try clear hb2); (try clear hk); (try clear hi)))
        go_ret
        exact ⟨by first | rfl | (simp [errW_none, errW_some] <;> rfl) | (simp [*, errW_none, errW_some] <;> rfl), by repeat (first | (with_reducible first | exact HB.out | apply below_alloc | apply pw_below_drewN | apply below_drew1 | refine below_set ?_ GE275.out) | exact HB.out)⟩
      · replace c56 := Bool.eq_false_iff.mpr c56
        subst c56
        have H1 : (some false) = some r := by rw [if_neg (show ¬ (false = true) by decide)] at H; exact H
        clear H
        have H := H1
        clear H1
        obtain rfl := Option.some.inj H
        cases hrt

end Go.Proofs.YtokpkdmkdolmdaaDoor.PG
