-- Written by a program of this work (the kit's print, with contracts of this work's own taken in) out of the translation. Not trusted: Lean checks it.
import Derived.Test.YtokpkdmkdolmdaaDoorPGx0
import Derived.Test.YtokpkdmkdolmdaaDoorPGx3
import Derived.Test.YtokpkdmkdolmdaaDoorPGx11
import Derived.Test.YtokpkdmkdolmdaaDoorPGx12
import Derived.Test.YtokpkdmkdolmdaaDoorPGx13
import Derived.Test.YtokpkdmkdolmdaaDoorPGx14
import Derived.Test.YtokpkdmkdolmdaaDoorPGx15
namespace Go.Proofs.YtokpkdmkdolmdaaDoor.PG
open Go.RowKit Go.Proofs.YtokpkdmkdolmdaaDoorW.PrintWords Go.Proofs.YtokpkdmkdolmdaaDoorW.PrintLast Go.Proofs.YtokpkdmkdolmdaaDoorW.PrintMore
attribute [local go_sem] max2_int min2_int max_two min_two max_three min_three max_four min_four   -- for this text's walks alone
set_option linter.unusedVariables false
set_option linter.unusedSimpArgs false

/-! ### lamplighterlaw07_EscapeEncodes: function 8 -/
def lamplighterlaw07_EscapeEncodes.j0 : Nat → ByteArray → ByteArray → Int → Bool → Int → Int → Int → Int → Int → Option (Bool)
  | 0, _, _, _, _, _, _, _, _, _ => none
  | k + 1, x0, x5, x6, x27, x229000, x229001, x229002, x229003, x229004 => if x27 = true then (some false) else ((lamplighterref06_Right.f k x229000 x229001 x229002 x229003 x229004).bind fun t235 => (if t235 = true then (if x6 = 0 then ((lamplighterref07_Encode.f k x0 x229000 x229001 x229002 x229003 x229004).bind fun t236 => (some (x5.toList == t236.toList))) else (some false)) else (if x6 = 11 then (some (x5.toList == ([] : List UInt8))) else (some false))))
def lamplighterlaw07_EscapeEncodes.f (k : Nat) (a0 : ByteArray) (a1_0 : Int) (a1_1 : Int) (a1_2 : Int) (a1_3 : Int) (a1_4 : Int) : Option (Bool) := if (a0.size : Int) > 2000 then ((lamplighterlaw07_alive.f).bind fun t229 => (some t229)) else ((escape_Encode.f a0 a1_0 a1_1 a1_2 a1_3 a1_4).bind fun bt230 => ((lamplighterlaw07_alive.f).bind fun t232 => (if t232 = true then ((escape_Clean.f a0 a1_0 a1_1 a1_2 a1_3 a1_4).bind fun t233 => ((lamplighterref07_Clean.f k a0 a1_0 a1_1 a1_2 a1_3 a1_4).bind fun t234 => (lamplighterlaw07_EscapeEncodes.j0 k a0 bt230.1 bt230.2 (t233 != t234) a1_0 a1_1 a1_2 a1_3 a1_4))) else (lamplighterlaw07_EscapeEncodes.j0 k a0 bt230.1 bt230.2 true a1_0 a1_1 a1_2 a1_3 a1_4))))
theorem lamplighterlaw07_EscapeEncodes.mono_l : ∀ k, (∀ y0 y1 y2 y3 y4 y5 y6 y7 y8, LeO (lamplighterlaw07_EscapeEncodes.j0 k y0 y1 y2 y3 y4 y5 y6 y7 y8) (lamplighterlaw07_EscapeEncodes.j0 (k + 1) y0 y1 y2 y3 y4 y5 y6 y7 y8))
  | 0 => fun _ _ _ _ _ _ _ _ _ r h => by simp [lamplighterlaw07_EscapeEncodes.j0] at h
  | k + 1 => by
    have ih0 := lamplighterlaw07_EscapeEncodes.mono_l k
    · intro y0 y1 y2 y3 y4 y5 y6 y7 y8
      unfold lamplighterlaw07_EscapeEncodes.j0
      repeat' first
      | (with_reducible exact ih0 _ _ _ _ _ _ _ _ _)
      | (with_reducible exact lamplighterref06_Right.mono _ _ _ _ _ _)
      | (with_reducible exact lamplighterref07_Clean.mono _ _ _ _ _ _ _)
      | (with_reducible exact lamplighterref07_Encode.mono _ _ _ _ _ _ _)
      | (with_reducible exact LeO.refl _)
      | (with_reducible exact LeO.none _)
      | (with_reducible refine LeO.ite ?_ ?_)
      | (with_reducible refine LeO.bind ?_ (fun _ => ?_))
      | exact ih0 _ _ _ _ _ _ _ _ _
      | exact lamplighterref06_Right.mono _ _ _ _ _ _
      | exact lamplighterref07_Clean.mono _ _ _ _ _ _ _
      | exact lamplighterref07_Encode.mono _ _ _ _ _ _ _
      | exact LeO.none _
      | refine LeO.ite ?_ ?_
      | refine LeO.bind ?_ (fun _ => ?_)
theorem lamplighterlaw07_EscapeEncodes.mono : ∀ a0 a1 a2 a3 a4 a5 k, LeO (lamplighterlaw07_EscapeEncodes.f k a0 a1 a2 a3 a4 a5) (lamplighterlaw07_EscapeEncodes.f (k + 1) a0 a1 a2 a3 a4 a5) := by
  intro a0 a1 a2 a3 a4 a5 k
  have ih0 := lamplighterlaw07_EscapeEncodes.mono_l k
  unfold lamplighterlaw07_EscapeEncodes.f
  repeat' first
      | (with_reducible exact ih0 _ _ _ _ _ _ _ _ _)
      | (with_reducible exact lamplighterref06_Right.mono _ _ _ _ _ _)
      | (with_reducible exact lamplighterref07_Clean.mono _ _ _ _ _ _ _)
      | (with_reducible exact lamplighterref07_Encode.mono _ _ _ _ _ _ _)
      | (with_reducible exact LeO.refl _)
      | (with_reducible exact LeO.none _)
      | (with_reducible refine LeO.ite ?_ ?_)
      | (with_reducible refine LeO.bind ?_ (fun _ => ?_))
      | exact ih0 _ _ _ _ _ _ _ _ _
      | exact lamplighterref06_Right.mono _ _ _ _ _ _
      | exact lamplighterref07_Clean.mono _ _ _ _ _ _ _
      | exact lamplighterref07_Encode.mono _ _ _ _ _ _ _
      | exact LeO.none _
      | refine LeO.ite ?_ ?_
      | refine LeO.bind ?_ (fun _ => ?_)
def lamplighterlaw07_EscapeEncodes.T4 : Bool × List (List Nat × List Nat) := (true, [([], []), ([0], [0]), ([1, 0], [1]), ([2], [2]), ([2], [2]), ([3, 4, 2, 2], [2, 3, 4]), ([2], [2]), ([2], [2]), ([6, 7, 5, 2], [2, 6, 7]), ([5, 8, 2], [2, 5, 8]), ([2, 9], [2, 9])])
def lamplighterlaw07_EscapeEncodes.B4 : List Nat := [0, 1, 3, 7, 7, 31, 7, 7, 255, 511, 1023]
theorem lamplighterlaw07_EscapeEncodes.tab4 : rtab .any (opsOf Tryd.f8 4) = lamplighterlaw07_EscapeEncodes.T4 := by kernel_rfl
theorem lamplighterlaw07_EscapeEncodes.bits4 : waitsOk lamplighterlaw07_EscapeEncodes.T4.2 lamplighterlaw07_EscapeEncodes.B4 = true := by kernel_rfl
set_option maxHeartbeats 8000000 in
set_option maxRecDepth 100000 in
theorem lamplighterlaw07_EscapeEncodes.calls (k : Nat) (a0 : ByteArray) (a1_0 : Int) (a1_1 : Int) (a1_2 : Int) (a1_3 : Int) (a1_4 : Int) (r : Bool) (w : World) (h : lamplighterlaw07_EscapeEncodes.f k a0 a1_0 a1_1 a1_2 a1_3 a1_4 = some r) (hrt : r = true) :
    Calls Tryd.prog 8 #[.string a0, .agg #[.int .u8 a1_0, .int .u8 a1_1, .int .u8 a1_2, .int .u8 a1_3, .int .u8 a1_4]] w fun e w' => e = .returned (.bool r) ∧ Below w.heap.size w w' := by
  have hu23 := Tryd.underlying23
  have HB := Aside0.mk (Below.refl w.heap.size w)
  have H : (if (a0.size : Int) > 2000 then ((lamplighterlaw07_alive.f).bind fun t229 => (some t229)) else ((escape_Encode.f a0 a1_0 a1_1 a1_2 a1_3 a1_4).bind fun bt230 => ((lamplighterlaw07_alive.f).bind fun t232 => (if t232 = true then ((escape_Clean.f a0 a1_0 a1_1 a1_2 a1_3 a1_4).bind fun t233 => ((lamplighterref07_Clean.f k a0 a1_0 a1_1 a1_2 a1_3 a1_4).bind fun t234 => (lamplighterlaw07_EscapeEncodes.j0 k a0 bt230.1 bt230.2 (t233 != t234) a1_0 a1_1 a1_2 a1_3 a1_4))) else (lamplighterlaw07_EscapeEncodes.j0 k a0 bt230.1 bt230.2 true a1_0 a1_1 a1_2 a1_3 a1_4))))) = some r := h
  clear h
  by_cases c3 : (a0.size : Int) > 2000
  · rw [if_pos c3] at H
    have c3b0 : decide (2000 < (a0.size : Int)) = true := decide_eq_true c3
    have c3b1 : decide (2000 < a0.size) = true := decide_eq_true (by omega)
    clear c3
    replace H := Option.bind_eq_some_iff.mp H
    obtain ⟨t229, A40, H⟩ := H
    replace H : (some t229) = some r := H
    have A4 := Aside0.mk A40
    clear A40
    obtain rfl := Option.some.inj H
    clear hrt
    go_enter Tryd.func8, Tryd.ntmps8
    go_wp2_with (first | ((with_reducible refine gate_dst (N := 3) rfl ?_); refine box_event ?hg (N := 3) ?hd (cs := #[.int .u8 a1_0, .int .u8 a1_1, .int .u8 a1_2, .int .u8 a1_3, .int .u8 a1_4]) (t := 23) ?hr ?_; (case hd => rfl); (case hg => rfl); (case hr => first | (go_simp; done) | (go_simp; rfl)); intro gb228 hg w5 hbox hb; have n0_ := Aside0.mk (below_step (by repeat (first | (with_reducible first | exact HB.out | apply below_alloc | apply pw_below_drewN | apply below_drew1) | exact HB.out)) hb); have n1_ := Aside0.mk (hbox); have n2_ := Aside0.mk ((by rw [hg]; exact (below_size (by repeat (first | (with_reducible first | exact HB.out | apply below_alloc | apply pw_below_drewN | apply below_drew1) | exact HB.out))) : w.heap.size ≤ gb228)); have n3_ := Aside0.mk ((by rw [hg]; exact (below_size (by repeat (first | (with_reducible first | exact HB.out | apply below_alloc | apply pw_below_drewN | apply below_drew1) | exact HB.out))) : w.heap.size ≤ gb228)); clear HB; have HB := n0_; have BK228 := n1_; have GW228 := n2_; have GE228 := n3_; clear n0_ n1_ n2_ n3_; clear hb hbox hg) | ((with_reducible refine gate_callee (f := 9) rfl ?_); refine goesL_ (some 10) rfl rfl Tryd.func9 (by kernel_rfl) rfl #[] rfl (by (try simp only [List.map_toArray, List.map_cons, List.map_nil]); first | done | rfl | (simp only [List.length_drop, List.length_take]; rfl)) ?_; (with_reducible refine (lamplighterlaw07_alive.calls  t229 _ A4.out).mono ?_); rintro e w6 ⟨rfl, hb⟩; refine ⟨_, rfl, ?_⟩; have n0_ := Aside0.mk (blk_below (g := gb228) (o := .cells #[.int .u8 a1_0, .int .u8 a1_1, .int .u8 a1_2, .int .u8 a1_3, .int .u8 a1_4] 23 (0, 0)) (by (with_reducible repeat (first | refine blk_drewN ?_ _ | refine blk_drew ?_ | refine blk_alloc ?_ _)); exact BK228.out) hb); have n1_ := Aside0.mk (below_step (by repeat (first | (with_reducible first | exact HB.out | apply below_alloc | apply pw_below_drewN | apply below_drew1 | refine below_set ?_ GE228.out) | exact HB.out)) hb); clear BK228; clear HB; have BK228 := n0_; have HB := n1_; clear n0_ n1_; (try clear hb); (try clear hb2); (try clear hk); (try clear hi)))
    go_ret
    exact ⟨by first | rfl | (simp [errW_none, errW_some] <;> rfl) | (simp [*, errW_none, errW_some] <;> rfl), by repeat (first | (with_reducible first | exact HB.out | apply below_alloc | apply pw_below_drewN | apply below_drew1 | refine below_set ?_ GE228.out) | exact HB.out)⟩
  · rw [if_neg c3] at H
    have c3b0 : decide (2000 < (a0.size : Int)) = false := decide_eq_false c3
    have c3b1 : decide (2000 < a0.size) = false := decide_eq_false (by omega)
    clear c3
    replace H := Option.bind_eq_some_iff.mp H
    obtain ⟨⟨t230, t231⟩, A70, H⟩ := H
    replace H : ((lamplighterlaw07_alive.f).bind fun t232 => (if t232 = true then ((escape_Clean.f a0 a1_0 a1_1 a1_2 a1_3 a1_4).bind fun t233 => ((lamplighterref07_Clean.f k a0 a1_0 a1_1 a1_2 a1_3 a1_4).bind fun t234 => (lamplighterlaw07_EscapeEncodes.j0 k a0 t230 t231 (t233 != t234) a1_0 a1_1 a1_2 a1_3 a1_4))) else (lamplighterlaw07_EscapeEncodes.j0 k a0 t230 t231 true a1_0 a1_1 a1_2 a1_3 a1_4))) = some r := H
    have A7 := Aside0.mk A70
    clear A70
    have HC8 := Aside0.mk H
    clear H
    go_enter Tryd.func8, Tryd.ntmps8
    go_upto_region 4 with (first | ((with_reducible refine gate_dst (N := 3) rfl ?_); refine box_event ?hg (N := 3) ?hd (cs := #[.int .u8 a1_0, .int .u8 a1_1, .int .u8 a1_2, .int .u8 a1_3, .int .u8 a1_4]) (t := 23) ?hr ?_; (case hd => rfl); (case hg => rfl); (case hr => first | (go_simp; done) | (go_simp; rfl)); intro gb228 hg w9 hbox hb; have n0_ := Aside0.mk (below_step (by repeat (first | (with_reducible first | exact HB.out | apply below_alloc | apply pw_below_drewN | apply below_drew1) | exact HB.out)) hb); have n1_ := Aside0.mk (hbox); have n2_ := Aside0.mk ((by rw [hg]; exact (below_size (by repeat (first | (with_reducible first | exact HB.out | apply below_alloc | apply pw_below_drewN | apply below_drew1) | exact HB.out))) : w.heap.size ≤ gb228)); have n3_ := Aside0.mk ((by rw [hg]; exact (below_size (by repeat (first | (with_reducible first | exact HB.out | apply below_alloc | apply pw_below_drewN | apply below_drew1) | exact HB.out))) : w.heap.size ≤ gb228)); clear HB; have HB := n0_; have BK228 := n1_; have GW228 := n2_; have GE228 := n3_; clear n0_ n1_ n2_ n3_; clear hb hbox hg; have hcz10_0 : w9.cell? ⟨gb228, 0, none⟩ = some (.int .u8 a1_0) := (blk_cell BK228.out 0).trans rfl; have hcz10_1 : w9.cell? ⟨gb228, 1, none⟩ = some (.int .u8 a1_1) := (blk_cell BK228.out 1).trans rfl; have hcz10_2 : w9.cell? ⟨gb228, 2, none⟩ = some (.int .u8 a1_2) := (blk_cell BK228.out 2).trans rfl; have hcz10_3 : w9.cell? ⟨gb228, 3, none⟩ = some (.int .u8 a1_3) := (blk_cell BK228.out 3).trans rfl; have hcz10_4 : w9.cell? ⟨gb228, 4, none⟩ = some (.int .u8 a1_4) := (blk_cell BK228.out 4).trans rfl; have hfz10_0 := blk_frozen BK228.out 0; have hfz10_1 := blk_frozen BK228.out 1; have hfz10_2 := blk_frozen BK228.out 2; have hfz10_3 := blk_frozen BK228.out 3; have hfz10_4 := blk_frozen BK228.out 4) | ((with_reducible refine gate_callee (f := 10) rfl ?_); refine goesL_ (some 14) rfl rfl Tryd.func10 (by kernel_rfl) rfl #[.string a0, .agg #[.int .u8 a1_0, .int .u8 a1_1, .int .u8 a1_2, .int .u8 a1_3, .int .u8 a1_4]] rfl (by (try simp only [List.map_toArray, List.map_cons, List.map_nil]); first | done | rfl | (simp only [List.length_drop, List.length_take]; rfl)) ?_; (with_reducible refine (escape_Encode.calls a0 a1_0 a1_1 a1_2 a1_3 a1_4 t230 t231 _ A7.out).mono ?_); rintro e w11 ⟨rfl, hb⟩; refine ⟨_, rfl, ?_⟩; have n0_ := Aside0.mk (blk_below (g := gb228) (o := .cells #[.int .u8 a1_0, .int .u8 a1_1, .int .u8 a1_2, .int .u8 a1_3, .int .u8 a1_4] 23 (0, 0)) (by (with_reducible repeat (first | refine blk_drewN ?_ _ | refine blk_drew ?_ | refine blk_alloc ?_ _)); exact BK228.out) hb); have n1_ := Aside0.mk (below_step (by repeat (first | (with_reducible first | exact HB.out | apply below_alloc | apply pw_below_drewN | apply below_drew1 | refine below_set ?_ GE228.out) | exact HB.out)) hb); clear BK228; clear HB; have BK228 := n0_; have HB := n1_; clear n0_ n1_; (try clear hb); (try clear hb2); (try clear hk); (try clear hi)))
    (try simp only [Act.put, List.setIfInBounds_toArray, List.set_cons_zero, List.set_cons_succ])
    go_cut [27] (fun v27 wc => ∃ (kq : Nat) (x27_7 : Bool), v27 = .bool x27_7 ∧ Aside0 (lamplighterlaw07_EscapeEncodes.j0 kq a0 t230 t231 x27_7 a1_0 a1_1 a1_2 a1_3 a1_4 = some r) ∧ Aside0 (kq ≤ k) ∧ Aside0 (wc.heap[gb228]? = some (.cells #[.int .u8 a1_0, .int .u8 a1_1, .int .u8 a1_2, .int .u8 a1_3, .int .u8 a1_4] 23 (0, 0))) ∧ Aside0 (Below w.heap.size w wc))
    case first =>
      have H := HC8.out
      clear HC8
      replace H := Option.bind_eq_some_iff.mp H
      obtain ⟨t232, A120, H⟩ := H
      replace H : (if t232 = true then ((escape_Clean.f a0 a1_0 a1_1 a1_2 a1_3 a1_4).bind fun t233 => ((lamplighterref07_Clean.f k a0 a1_0 a1_1 a1_2 a1_3 a1_4).bind fun t234 => (lamplighterlaw07_EscapeEncodes.j0 k a0 t230 t231 (t233 != t234) a1_0 a1_1 a1_2 a1_3 a1_4))) else (lamplighterlaw07_EscapeEncodes.j0 k a0 t230 t231 true a1_0 a1_1 a1_2 a1_3 a1_4)) = some r := H
      have A12 := Aside0.mk A120
      clear A120
      by_cases c13 : t232 = true
      · subst c13
        have H1 : ((escape_Clean.f a0 a1_0 a1_1 a1_2 a1_3 a1_4).bind fun t233 => ((lamplighterref07_Clean.f k a0 a1_0 a1_1 a1_2 a1_3 a1_4).bind fun t234 => (lamplighterlaw07_EscapeEncodes.j0 k a0 t230 t231 (t233 != t234) a1_0 a1_1 a1_2 a1_3 a1_4))) = some r := by rw [if_pos rfl] at H; exact H
        clear H
        have H := H1
        clear H1
        replace H := Option.bind_eq_some_iff.mp H
        obtain ⟨t233, A140, H⟩ := H
        replace H : ((lamplighterref07_Clean.f k a0 a1_0 a1_1 a1_2 a1_3 a1_4).bind fun t234 => (lamplighterlaw07_EscapeEncodes.j0 k a0 t230 t231 (t233 != t234) a1_0 a1_1 a1_2 a1_3 a1_4)) = some r := H
        have A14 := Aside0.mk A140
        clear A140
        replace H := Option.bind_eq_some_iff.mp H
        obtain ⟨t234, A150, H⟩ := H
        replace H : (lamplighterlaw07_EscapeEncodes.j0 k a0 t230 t231 (t233 != t234) a1_0 a1_1 a1_2 a1_3 a1_4) = some r := H
        have A15 := Aside0.mk A150
        clear A150
        have H' := Aside0.mk H
        clear H
        try go_wp2
        have n0_ := Aside0.mk (blk_drew BK228.out)
        have n1_ := Aside0.mk (below_drew1 HB.out)
        clear BK228
        clear HB
        have BK228 := n0_
        have HB := n1_
        clear n0_ n1_
        refine start_ (n := 11) (S := fun w' => w'.cell? ⟨gb228, 0, none⟩ = some (.int .u8 a1_0) ∧ w'.cell? ⟨gb228, 1, none⟩ = some (.int .u8 a1_1) ∧ w'.cell? ⟨gb228, 2, none⟩ = some (.int .u8 a1_2) ∧ w'.cell? ⟨gb228, 3, none⟩ = some (.int .u8 a1_3) ∧ w'.cell? ⟨gb228, 4, none⟩ = some (.int .u8 a1_4)) (ds := []) #[false, false, false, false, false, false, false, false, false, false, false] (by kernel_rfl) rfl rfl ⟨(blk_cell BK228.out 0).trans rfl, (blk_cell BK228.out 1).trans rfl, (blk_cell BK228.out 2).trans rfl, (blk_cell BK228.out 3).trans rfl, (blk_cell BK228.out 4).trans rfl⟩ (fun hHeld => ?_); refine with_tabW lamplighterlaw07_EscapeEncodes.tab4 lamplighterlaw07_EscapeEncodes.bits4 (fun HT_ HW_ => ?_)
        generalize w11.drew = w16 at BK228 HB hHeld ⊢
        refine one_ (i := 0) (N := some 17) #[true, false, false, false, false, false, false, false, false, false, false] rfl rfl (one_of HT_.out (by kernel_rfl)) (by decide) (fun K hK => ?_)
        refine goes_ Tryd.func9 (by kernel_rfl) rfl #[] (by rfl) rfl rfl (by (try simp only [List.map_toArray, List.map_cons, List.map_nil]); first | done | rfl | (simp only [List.length_drop, List.length_take]; rfl)) ?_
        with_reducible refine (lamplighterlaw07_alive.calls  true _ A12.out).mono ?_
        rintro e w17 ⟨rfl, hb⟩
        refine ⟨_, rfl, ?_⟩
        have n0_ := Aside0.mk (blk_below (g := gb228) (o := .cells #[.int .u8 a1_0, .int .u8 a1_1, .int .u8 a1_2, .int .u8 a1_3, .int .u8 a1_4] 23 (0, 0)) (by (with_reducible repeat (first | refine blk_drewN ?_ _ | refine blk_drew ?_ | refine blk_alloc ?_ _)); exact BK228.out) hb)
        have n1_ := Aside0.mk (below_step (by repeat (first | (with_reducible first | exact HB.out | apply below_alloc | apply pw_below_drewN | apply below_drew1 | refine below_set ?_ GE228.out) | exact HB.out)) hb)
        clear BK228
        clear HB
        have BK228 := n0_
        have HB := n1_
        clear n0_ n1_
        (try clear hb)
        (try clear hb2)
        (try clear hk)
        (try clear hi)
        refine hK.out _ _ ⟨(blk_cell BK228.out 0).trans rfl, (blk_cell BK228.out 1).trans rfl, (blk_cell BK228.out 2).trans rfl, (blk_cell BK228.out 3).trans rfl, (blk_cell BK228.out 4).trans rfl⟩ (fun hHeld => ?_)
        clear hK K
        refine norm_ (a' := ?_) ?_ ?_
        rotate_left
        · show Act.put _ (some 17) _ = _
          simp only [Act.put, List.setIfInBounds_toArray, List.set_cons_zero, List.set_cons_succ, i64_w, i32_w]
          rfl
        refine pure_ (i := 1) (N := some 18) (v := ?_) (a' := ?_) #[true, true, false, false, false, false, false, false, false, false, false] rfl rfl (any_of HT_.out (by kernel_rfl)) (fun _ _ _ h => h) (Or.inl ⟨by rfl, ?_⟩) ?_ ?_
        rotate_left
        · intro w'
          go_simp
          with_reducible rfl
        rotate_left
        · simp only [Act.put, List.setIfInBounds_toArray, List.set_cons_zero, List.set_cons_succ, i64_w, i32_w]
          rfl
        refine pure_ (i := 2) (N := some 19) (v := ?_) (a' := ?_) #[true, true, true, false, false, false, false, false, false, false, false] rfl rfl (any_of HT_.out (by kernel_rfl)) (fun _ _ _ h => h) (Or.inl ⟨by rfl, ?_⟩) ?_ ?_
        rotate_left
        · intro w'
          go_simp
          with_reducible rfl
        rotate_left
        · simp only [Act.put, List.setIfInBounds_toArray, List.set_cons_zero, List.set_cons_succ, i64_w, i32_w]
          rfl
        refine pure_ (i := 3) (N := some 20) (v := ?_) (a' := ?_) #[true, true, true, true, false, false, false, false, false, false, false] rfl rfl (any_of HT_.out (by kernel_rfl)) (fun _ _ _ h => h) (Or.inl ⟨by rfl, ?_⟩) ?_ ?_
        rotate_left
        · intro w'
          go_simp
          with_reducible rfl
        rotate_left
        · simp only [Act.put, List.setIfInBounds_toArray, List.set_cons_zero, List.set_cons_succ, i64_w, i32_w]
          rfl
        refine pure_ (i := 6) (N := some 23) (v := ?_) (a' := ?_) #[true, true, true, true, false, false, true, false, false, false, false] rfl rfl (any_of HT_.out (by kernel_rfl)) (fun _ _ _ h => h) (Or.inl ⟨by rfl, ?_⟩) ?_ ?_
        rotate_left
        · intro w'
          go_simp
          with_reducible rfl
        rotate_left
        · simp only [Act.put, List.setIfInBounds_toArray, List.set_cons_zero, List.set_cons_succ, i64_w, i32_w]
          rfl
        refine take_ (i := 4) (N := some 21) (v := ?_) (a' := ?_) #[true, true, true, true, true, false, true, false, false, false, false] rfl rfl (take_ofW HT_.out HW_.out (by kernel_rfl)) (fun _ _ _ h => h) (Or.inl ⟨by rfl, ?_⟩) hHeld ?_ ?_
        rotate_left
        · rintro w' ⟨s0, s1, s2, s3, s4⟩
          go_simp
          with_reducible rfl
        rotate_left
        · simp only [Act.put, List.setIfInBounds_toArray, List.set_cons_zero, List.set_cons_succ, i64_w, i32_w]
          rfl
        refine take_ (i := 7) (N := some 24) (v := ?_) (a' := ?_) #[true, true, true, true, true, false, true, true, false, false, false] rfl rfl (take_ofW HT_.out HW_.out (by kernel_rfl)) (fun _ _ _ h => h) (Or.inl ⟨by rfl, ?_⟩) hHeld ?_ ?_
        rotate_left
        · rintro w' ⟨s0, s1, s2, s3, s4⟩
          go_simp
          with_reducible rfl
        rotate_left
        · simp only [Act.put, List.setIfInBounds_toArray, List.set_cons_zero, List.set_cons_succ, i64_w, i32_w]
          rfl
        refine one_ (i := 5) (N := some 22) #[true, true, true, true, true, true, true, true, false, false, false] rfl rfl (one_of HT_.out (by kernel_rfl)) (by decide) (fun K hK => ?_)
        refine goes_ Tryd.func12 (by kernel_rfl) rfl #[.string a0, .agg #[.int .u8 a1_0, .int .u8 a1_1, .int .u8 a1_2, .int .u8 a1_3, .int .u8 a1_4]] (by rfl) rfl rfl (by (try simp only [List.map_toArray, List.map_cons, List.map_nil]); first | done | rfl | (simp only [List.length_drop, List.length_take]; rfl)) ?_
        with_reducible refine (escape_Clean.calls a0 a1_0 a1_1 a1_2 a1_3 a1_4 t233 _ A14.out).mono ?_
        rintro e w18 ⟨rfl, hb⟩
        refine ⟨_, rfl, ?_⟩
        have n0_ := Aside0.mk (blk_below (g := gb228) (o := .cells #[.int .u8 a1_0, .int .u8 a1_1, .int .u8 a1_2, .int .u8 a1_3, .int .u8 a1_4] 23 (0, 0)) (by (with_reducible repeat (first | refine blk_drewN ?_ _ | refine blk_drew ?_ | refine blk_alloc ?_ _)); exact BK228.out) hb)
        have n1_ := Aside0.mk (below_step (by repeat (first | (with_reducible first | exact HB.out | apply below_alloc | apply pw_below_drewN | apply below_drew1 | refine below_set ?_ GE228.out) | exact HB.out)) hb)
        clear BK228
        clear HB
        have BK228 := n0_
        have HB := n1_
        clear n0_ n1_
        (try clear hb)
        (try clear hb2)
        (try clear hk)
        (try clear hi)
        refine hK.out _ _ ⟨(blk_cell BK228.out 0).trans rfl, (blk_cell BK228.out 1).trans rfl, (blk_cell BK228.out 2).trans rfl, (blk_cell BK228.out 3).trans rfl, (blk_cell BK228.out 4).trans rfl⟩ (fun hHeld => ?_)
        clear hK K
        refine norm_ (a' := ?_) ?_ ?_
        rotate_left
        · show Act.put _ (some 22) _ = _
          simp only [Act.put, List.setIfInBounds_toArray, List.set_cons_zero, List.set_cons_succ, i64_w, i32_w]
          rfl
        refine one_ (i := 8) (N := some 25) #[true, true, true, true, true, true, true, true, true, false, false] rfl rfl (one_of HT_.out (by kernel_rfl)) (by decide) (fun K hK => ?_)
        refine goes_ Tryd.func16 (by kernel_rfl) rfl #[.string a0, .agg #[.int .u8 a1_0, .int .u8 a1_1, .int .u8 a1_2, .int .u8 a1_3, .int .u8 a1_4]] (by rfl) rfl rfl (by (try simp only [List.map_toArray, List.map_cons, List.map_nil]); first | done | rfl | (simp only [List.length_drop, List.length_take]; rfl)) ?_
        with_reducible refine (lamplighterref07_Clean.calls k a0 a1_0 a1_1 a1_2 a1_3 a1_4 t234 _ A15.out).mono ?_
        rintro e w19 ⟨rfl, hb⟩
        refine ⟨_, rfl, ?_⟩
        have n0_ := Aside0.mk (blk_below (g := gb228) (o := .cells #[.int .u8 a1_0, .int .u8 a1_1, .int .u8 a1_2, .int .u8 a1_3, .int .u8 a1_4] 23 (0, 0)) (by (with_reducible repeat (first | refine blk_drewN ?_ _ | refine blk_drew ?_ | refine blk_alloc ?_ _)); exact BK228.out) hb)
        have n1_ := Aside0.mk (below_step (by repeat (first | (with_reducible first | exact HB.out | apply below_alloc | apply pw_below_drewN | apply below_drew1 | refine below_set ?_ GE228.out) | exact HB.out)) hb)
        clear BK228
        clear HB
        have BK228 := n0_
        have HB := n1_
        clear n0_ n1_
        (try clear hb)
        (try clear hb2)
        (try clear hk)
        (try clear hi)
        refine hK.out _ _ ⟨(blk_cell BK228.out 0).trans rfl, (blk_cell BK228.out 1).trans rfl, (blk_cell BK228.out 2).trans rfl, (blk_cell BK228.out 3).trans rfl, (blk_cell BK228.out 4).trans rfl⟩ (fun hHeld => ?_)
        clear hK K
        refine norm_ (a' := ?_) ?_ ?_
        rotate_left
        · show Act.put _ (some 25) _ = _
          simp only [Act.put, List.setIfInBounds_toArray, List.set_cons_zero, List.set_cons_succ, i64_w, i32_w]
          rfl
        refine pure_ (i := 9) (N := some 26) (v := ?_) (a' := ?_) #[true, true, true, true, true, true, true, true, true, true, false] rfl rfl (any_of HT_.out (by kernel_rfl)) (fun _ _ _ h => h) (Or.inl ⟨by rfl, ?_⟩) ?_ ?_
        rotate_left
        · intro w'
          go_simp
          with_reducible rfl
        rotate_left
        · simp only [Act.put, List.setIfInBounds_toArray, List.set_cons_zero, List.set_cons_succ, i64_w, i32_w]
          rfl
        refine pure_ (i := 10) (N := some 27) (v := ?_) (a' := ?_) #[true, true, true, true, true, true, true, true, true, true, true] rfl rfl (any_of HT_.out (by kernel_rfl)) (fun _ _ _ h => h) (Or.inl ⟨by rfl, ?_⟩) ?_ ?_
        rotate_left
        · intro w'
          go_simp
          with_reducible rfl
        rotate_left
        · simp only [Act.put, List.setIfInBounds_toArray, List.set_cons_zero, List.set_cons_succ, i64_w, i32_w]
          rfl
        refine done_ (done_of HT_.out (by kernel_rfl)) ?_
        try go_wp2
        go_meet
        case rel => exact ⟨_, ((t233 != t234)), (by first | rfl | (simp; done) | (simp [*]; done)), H', ⟨by first | omega | exact Nat.le_refl _⟩, ⟨by (with_reducible repeat (first | refine blk_drewN ?_ _ | refine blk_drew ?_ | refine blk_alloc ?_ _)); exact BK228.out⟩, ⟨by repeat (first | (with_reducible first | exact HB.out | apply below_alloc | apply pw_below_drewN | apply below_drew1 | refine below_set ?_ GE228.out) | exact HB.out)⟩⟩
      · replace c13 := Bool.eq_false_iff.mpr c13
        subst c13
        have H1 : (lamplighterlaw07_EscapeEncodes.j0 k a0 t230 t231 true a1_0 a1_1 a1_2 a1_3 a1_4) = some r := by rw [if_neg (show ¬ (false = true) by decide)] at H; exact H
        clear H
        have H := H1
        clear H1
        have H' := Aside0.mk H
        clear H
        try go_wp2
        have n0_ := Aside0.mk (blk_drew BK228.out)
        have n1_ := Aside0.mk (below_drew1 HB.out)
        clear BK228
        clear HB
        have BK228 := n0_
        have HB := n1_
        clear n0_ n1_
        refine start_ (n := 11) (S := fun w' => True) (ds := []) #[false, false, false, false, false, false, false, false, false, false, false] (by kernel_rfl) rfl rfl trivial (fun hHeld => ?_); refine with_tabW lamplighterlaw07_EscapeEncodes.tab4 lamplighterlaw07_EscapeEncodes.bits4 (fun HT_ HW_ => ?_)
        generalize w11.drew = w20 at BK228 HB hHeld ⊢
        refine one_ (i := 0) (N := some 17) #[true, false, false, false, false, false, false, false, false, false, false] rfl rfl (one_of HT_.out (by kernel_rfl)) (by decide) (fun K hK => ?_)
        refine goes_ Tryd.func9 (by kernel_rfl) rfl #[] (by rfl) rfl rfl (by (try simp only [List.map_toArray, List.map_cons, List.map_nil]); first | done | rfl | (simp only [List.length_drop, List.length_take]; rfl)) ?_
        with_reducible refine (lamplighterlaw07_alive.calls  false _ A12.out).mono ?_
        rintro e w21 ⟨rfl, hb⟩
        refine ⟨_, rfl, ?_⟩
        have n0_ := Aside0.mk (blk_below (g := gb228) (o := .cells #[.int .u8 a1_0, .int .u8 a1_1, .int .u8 a1_2, .int .u8 a1_3, .int .u8 a1_4] 23 (0, 0)) (by (with_reducible repeat (first | refine blk_drewN ?_ _ | refine blk_drew ?_ | refine blk_alloc ?_ _)); exact BK228.out) hb)
        have n1_ := Aside0.mk (below_step (by repeat (first | (with_reducible first | exact HB.out | apply below_alloc | apply pw_below_drewN | apply below_drew1 | refine below_set ?_ GE228.out) | exact HB.out)) hb)
        clear BK228
        clear HB
        have BK228 := n0_
        have HB := n1_
        clear n0_ n1_
        (try clear hb)
        (try clear hb2)
        (try clear hk)
        (try clear hi)
        refine hK.out _ _ trivial (fun hHeld => ?_)
        clear hK K
        refine norm_ (a' := ?_) ?_ ?_
        rotate_left
        · show Act.put _ (some 17) _ = _
          simp only [Act.put, List.setIfInBounds_toArray, List.set_cons_zero, List.set_cons_succ, i64_w, i32_w]
          rfl
        refine pure_ (i := 1) (N := some 18) (v := ?_) (a' := ?_) #[true, true, false, false, false, false, false, false, false, false, false] rfl rfl (any_of HT_.out (by kernel_rfl)) (fun _ _ _ h => h) (Or.inl ⟨by rfl, ?_⟩) ?_ ?_
        rotate_left
        · intro w'
          go_simp
          with_reducible rfl
        rotate_left
        · simp only [Act.put, List.setIfInBounds_toArray, List.set_cons_zero, List.set_cons_succ, i64_w, i32_w]
          rfl
        refine pure_ (i := 2) (N := some 19) (v := ?_) (a' := ?_) #[true, true, true, false, false, false, false, false, false, false, false] rfl rfl (any_of HT_.out (by kernel_rfl)) (fun _ _ _ h => h) (Or.inl ⟨by rfl, ?_⟩) ?_ ?_
        rotate_left
        · intro w'
          go_simp
          with_reducible rfl
        rotate_left
        · simp only [Act.put, List.setIfInBounds_toArray, List.set_cons_zero, List.set_cons_succ, i64_w, i32_w]
          rfl
        refine pure_ (i := 3) (N := some 20) (v := undef) (a' := ?_) #[true, true, true, true, false, false, false, false, false, false, false] rfl rfl (any_of HT_.out (by kernel_rfl)) (fun _ _ _ h => h) (Or.inr ⟨by rfl, rfl⟩) ?_ ?_
        rotate_left
        · simp only [Act.put, List.setIfInBounds_toArray, List.set_cons_zero, List.set_cons_succ, i64_w, i32_w]
          rfl
        refine pure_ (i := 4) (N := some 21) (v := undef) (a' := ?_) #[true, true, true, true, true, false, false, false, false, false, false] rfl rfl (any_of HT_.out (by kernel_rfl)) (fun _ _ _ h => h) (Or.inr ⟨by rfl, rfl⟩) ?_ ?_
        rotate_left
        · simp only [Act.put, List.setIfInBounds_toArray, List.set_cons_zero, List.set_cons_succ, i64_w, i32_w]
          rfl
        refine pure_ (i := 5) (N := some 22) (v := undef) (a' := ?_) #[true, true, true, true, true, true, false, false, false, false, false] rfl rfl (any_of HT_.out (by kernel_rfl)) (fun _ _ _ h => h) (Or.inr ⟨by rfl, rfl⟩) ?_ ?_
        rotate_left
        · simp only [Act.put, List.setIfInBounds_toArray, List.set_cons_zero, List.set_cons_succ, i64_w, i32_w]
          rfl
        refine pure_ (i := 6) (N := some 23) (v := undef) (a' := ?_) #[true, true, true, true, true, true, true, false, false, false, false] rfl rfl (any_of HT_.out (by kernel_rfl)) (fun _ _ _ h => h) (Or.inr ⟨by rfl, rfl⟩) ?_ ?_
        rotate_left
        · simp only [Act.put, List.setIfInBounds_toArray, List.set_cons_zero, List.set_cons_succ, i64_w, i32_w]
          rfl
        refine pure_ (i := 7) (N := some 24) (v := undef) (a' := ?_) #[true, true, true, true, true, true, true, true, false, false, false] rfl rfl (any_of HT_.out (by kernel_rfl)) (fun _ _ _ h => h) (Or.inr ⟨by rfl, rfl⟩) ?_ ?_
        rotate_left
        · simp only [Act.put, List.setIfInBounds_toArray, List.set_cons_zero, List.set_cons_succ, i64_w, i32_w]
          rfl
        refine pure_ (i := 8) (N := some 25) (v := undef) (a' := ?_) #[true, true, true, true, true, true, true, true, true, false, false] rfl rfl (any_of HT_.out (by kernel_rfl)) (fun _ _ _ h => h) (Or.inr ⟨by rfl, rfl⟩) ?_ ?_
        rotate_left
        · simp only [Act.put, List.setIfInBounds_toArray, List.set_cons_zero, List.set_cons_succ, i64_w, i32_w]
          rfl
        refine pure_ (i := 9) (N := some 26) (v := undef) (a' := ?_) #[true, true, true, true, true, true, true, true, true, true, false] rfl rfl (any_of HT_.out (by kernel_rfl)) (fun _ _ _ h => h) (Or.inr ⟨by rfl, rfl⟩) ?_ ?_
        rotate_left
        · simp only [Act.put, List.setIfInBounds_toArray, List.set_cons_zero, List.set_cons_succ, i64_w, i32_w]
          rfl
        refine pure_ (i := 10) (N := some 27) (v := ?_) (a' := ?_) #[true, true, true, true, true, true, true, true, true, true, true] rfl rfl (any_of HT_.out (by kernel_rfl)) (fun _ _ _ h => h) (Or.inl ⟨by rfl, ?_⟩) ?_ ?_
        rotate_left
        · intro w'
          go_simp
          with_reducible rfl
        rotate_left
        · simp only [Act.put, List.setIfInBounds_toArray, List.set_cons_zero, List.set_cons_succ, i64_w, i32_w]
          rfl
        refine done_ (done_of HT_.out (by kernel_rfl)) ?_
        try go_wp2
        go_meet
        case rel => exact ⟨_, (true), (by first | rfl | (simp; done) | (simp [*]; done)), H', ⟨by first | omega | exact Nat.le_refl _⟩, ⟨by (with_reducible repeat (first | refine blk_drewN ?_ _ | refine blk_drew ?_ | refine blk_alloc ?_ _)); exact BK228.out⟩, ⟨by repeat (first | (with_reducible first | exact HB.out | apply below_alloc | apply pw_below_drewN | apply below_drew1 | refine below_set ?_ GE228.out) | exact HB.out)⟩⟩
    case rest =>
      clear HC8
      try clear c1
      try clear p2
      try clear c3
      try clear c3b0
      try clear c3b1
      try clear c8
      try clear c9
      try clear c10
      try clear c12
      try clear c13
      try clear c16
      try clear hcz10_0
      try clear hcz10_1
      try clear hcz10_2
      try clear hcz10_3
      try clear hcz10_4
      try clear hfz10_0
      try clear hfz10_1
      try clear hfz10_2
      try clear hfz10_3
      try clear hfz10_4
      obtain ⟨kq, x27_7, rfl, HA, HJ7, BK228, HB⟩ := hcut
      cases kq with
      | zero => exact absurd HA.out (by simp [lamplighterlaw07_EscapeEncodes.j0])
      | succ kj7 =>
        have H := HA.out
        clear HA
        simp only [lamplighterlaw07_EscapeEncodes.j0] at H
        by_cases c22 : x27_7 = true
        · subst c22
          have H1 : (some false) = some r := by rw [if_pos rfl] at H; exact H
          clear H
          have H := H1
          clear H1
          obtain rfl := Option.some.inj H
          cases hrt
        · replace c22 := Bool.eq_false_iff.mpr c22
          subst c22
          have H1 : ((lamplighterref06_Right.f kj7 a1_0 a1_1 a1_2 a1_3 a1_4).bind fun t235 => (if t235 = true then (if t231 = 0 then ((lamplighterref07_Encode.f kj7 a0 a1_0 a1_1 a1_2 a1_3 a1_4).bind fun t236 => (some (t230.toList == t236.toList))) else (some false)) else (if t231 = 11 then (some (t230.toList == ([] : List UInt8))) else (some false)))) = some r := by rw [if_neg (show ¬ (false = true) by decide)] at H; exact H
          clear H
          have H := H1
          clear H1
          replace H := Option.bind_eq_some_iff.mp H
          obtain ⟨t235, A230, H⟩ := H
          replace H : (if t235 = true then (if t231 = 0 then ((lamplighterref07_Encode.f kj7 a0 a1_0 a1_1 a1_2 a1_3 a1_4).bind fun t236 => (some (t230.toList == t236.toList))) else (some false)) else (if t231 = 11 then (some (t230.toList == ([] : List UInt8))) else (some false))) = some r := H
          have A23 := Aside0.mk A230
          clear A230
          by_cases c24 : t235 = true
          · subst c24
            have H1 : (if t231 = 0 then ((lamplighterref07_Encode.f kj7 a0 a1_0 a1_1 a1_2 a1_3 a1_4).bind fun t236 => (some (t230.toList == t236.toList))) else (some false)) = some r := by rw [if_pos rfl] at H; exact H
            clear H
            have H := H1
            clear H1
            by_cases c25 : t231 = 0
            · rw [if_pos c25] at H
              have c25b0 : (t231 == 0) = true := beq_iff_eq.mpr c25
              have c25b1 : (t231 != 0) = false := bne_eq_false_iff_eq.mpr c25
              clear c25
              replace H := Option.bind_eq_some_iff.mp H
              obtain ⟨t236, A260, H⟩ := H
              replace H : (some (t230.toList == t236.toList)) = some r := H
              have A26 := Aside0.mk A260
              clear A260
              obtain rfl := Option.some.inj H
              clear hrt
              have hcz27_0 : wc.cell? ⟨gb228, 0, none⟩ = some (.int .u8 a1_0) := (blk_cell BK228.out 0).trans rfl
              have hcz27_1 : wc.cell? ⟨gb228, 1, none⟩ = some (.int .u8 a1_1) := (blk_cell BK228.out 1).trans rfl
              have hcz27_2 : wc.cell? ⟨gb228, 2, none⟩ = some (.int .u8 a1_2) := (blk_cell BK228.out 2).trans rfl
              have hcz27_3 : wc.cell? ⟨gb228, 3, none⟩ = some (.int .u8 a1_3) := (blk_cell BK228.out 3).trans rfl
              have hcz27_4 : wc.cell? ⟨gb228, 4, none⟩ = some (.int .u8 a1_4) := (blk_cell BK228.out 4).trans rfl
              have hfz27_0 := blk_frozen BK228.out 0
              have hfz27_1 := blk_frozen BK228.out 1
              have hfz27_2 := blk_frozen BK228.out 2
              have hfz27_3 := blk_frozen BK228.out 3
              have hfz27_4 := blk_frozen BK228.out 4
              go_wp2_with (first | ((with_reducible refine gate_callee (f := 14) rfl ?_); refine goesL_ (some 29) rfl rfl Tryd.func14 (by kernel_rfl) rfl #[.agg #[.int .u8 a1_0, .int .u8 a1_1, .int .u8 a1_2, .int .u8 a1_3, .int .u8 a1_4]] rfl (by (try simp only [List.map_toArray, List.map_cons, List.map_nil]); first | done | rfl | (simp only [List.length_drop, List.length_take]; rfl)) ?_; (with_reducible refine (lamplighterref06_Right.calls kj7 a1_0 a1_1 a1_2 a1_3 a1_4 true _ A23.out).mono ?_); rintro e w28 ⟨rfl, hb⟩; refine ⟨_, rfl, ?_⟩; have n0_ := Aside0.mk (blk_below (g := gb228) (o := .cells #[.int .u8 a1_0, .int .u8 a1_1, .int .u8 a1_2, .int .u8 a1_3, .int .u8 a1_4] 23 (0, 0)) (by (with_reducible repeat (first | refine blk_drewN ?_ _ | refine blk_drew ?_ | refine blk_alloc ?_ _)); exact BK228.out) hb); have n1_ := Aside0.mk (below_step (by repeat (first | (with_reducible first | exact HB.out | apply below_alloc | apply pw_below_drewN | apply below_drew1 | refine below_set ?_ GE228.out) | exact HB.out)) hb); clear BK228; clear HB; have BK228 := n0_; have HB := n1_; clear n0_ n1_; (try clear hb); (try clear hb2); (try clear hk); (try clear hi); have hcz29_0 : w28.cell? ⟨gb228, 0, none⟩ = some (.int .u8 a1_0) := (blk_cell BK228.out 0).trans rfl; have hcz29_1 : w28.cell? ⟨gb228, 1, none⟩ = some (.int .u8 a1_1) := (blk_cell BK228.out 1).trans rfl; have hcz29_2 : w28.cell? ⟨gb228, 2, none⟩ = some (.int .u8 a1_2) := (blk_cell BK228.out 2).trans rfl; have hcz29_3 : w28.cell? ⟨gb228, 3, none⟩ = some (.int .u8 a1_3) := (blk_cell BK228.out 3).trans rfl; have hcz29_4 : w28.cell? ⟨gb228, 4, none⟩ = some (.int .u8 a1_4) := (blk_cell BK228.out 4).trans rfl; have hfz29_0 := blk_frozen BK228.out 0; have hfz29_1 := blk_frozen BK228.out 1; have hfz29_2 := blk_frozen BK228.out 2; have hfz29_3 := blk_frozen BK228.out 3; have hfz29_4 := blk_frozen BK228.out 4) | (go_at_call 17; (with_reducible refine (lamplighterref07_Encode.calls kj7 a0 a1_0 a1_1 a1_2 a1_3 a1_4 t236 _ A26.out).mono ?_); rintro e w30 ⟨rfl, hb⟩; have n0_ := Aside0.mk (blk_below (g := gb228) (o := .cells #[.int .u8 a1_0, .int .u8 a1_1, .int .u8 a1_2, .int .u8 a1_3, .int .u8 a1_4] 23 (0, 0)) (by (with_reducible repeat (first | refine blk_drewN ?_ _ | refine blk_drew ?_ | refine blk_alloc ?_ _)); exact BK228.out) hb); have n1_ := Aside0.mk (below_step (by repeat (first | (with_reducible first | exact HB.out | apply below_alloc | apply pw_below_drewN | apply below_drew1 | refine below_set ?_ GE228.out) | exact HB.out)) hb); clear BK228; clear HB; have BK228 := n0_; have HB := n1_; clear n0_ n1_; (try clear hb); (try clear hb2); (try clear hk); (try clear hi)))
              go_ret
              exact ⟨by first | rfl | (simp [errW_none, errW_some] <;> rfl) | (simp [*, errW_none, errW_some] <;> rfl), by repeat (first | (with_reducible first | exact HB.out | apply below_alloc | apply pw_below_drewN | apply below_drew1 | refine below_set ?_ GE228.out) | exact HB.out)⟩
            · rw [if_neg c25] at H
              have c25b0 : (t231 == 0) = false := beq_eq_false_iff_ne.mpr c25
              have c25b1 : (t231 != 0) = true := bne_iff_ne.mpr c25
              obtain rfl := Option.some.inj H
              cases hrt
          · replace c24 := Bool.eq_false_iff.mpr c24
            subst c24
            have H1 : (if t231 = 11 then (some (t230.toList == ([] : List UInt8))) else (some false)) = some r := by rw [if_neg (show ¬ (false = true) by decide)] at H; exact H
            clear H
            have H := H1
            clear H1
            by_cases c33 : t231 = 11
            · rw [if_pos c33] at H
              have c33b0 : (t231 == 11) = true := beq_iff_eq.mpr c33
              have c33b1 : (t231 != 11) = false := bne_eq_false_iff_eq.mpr c33
              clear c33
              obtain rfl := Option.some.inj H
              clear hrt
              have hcz34_0 : wc.cell? ⟨gb228, 0, none⟩ = some (.int .u8 a1_0) := (blk_cell BK228.out 0).trans rfl
              have hcz34_1 : wc.cell? ⟨gb228, 1, none⟩ = some (.int .u8 a1_1) := (blk_cell BK228.out 1).trans rfl
              have hcz34_2 : wc.cell? ⟨gb228, 2, none⟩ = some (.int .u8 a1_2) := (blk_cell BK228.out 2).trans rfl
              have hcz34_3 : wc.cell? ⟨gb228, 3, none⟩ = some (.int .u8 a1_3) := (blk_cell BK228.out 3).trans rfl
              have hcz34_4 : wc.cell? ⟨gb228, 4, none⟩ = some (.int .u8 a1_4) := (blk_cell BK228.out 4).trans rfl
              have hfz34_0 := blk_frozen BK228.out 0
              have hfz34_1 := blk_frozen BK228.out 1
              have hfz34_2 := blk_frozen BK228.out 2
              have hfz34_3 := blk_frozen BK228.out 3
              have hfz34_4 := blk_frozen BK228.out 4
              go_wp2_with (first | ((with_reducible refine gate_callee (f := 14) rfl ?_); refine goesL_ (some 29) rfl rfl Tryd.func14 (by kernel_rfl) rfl #[.agg #[.int .u8 a1_0, .int .u8 a1_1, .int .u8 a1_2, .int .u8 a1_3, .int .u8 a1_4]] rfl (by (try simp only [List.map_toArray, List.map_cons, List.map_nil]); first | done | rfl | (simp only [List.length_drop, List.length_take]; rfl)) ?_; (with_reducible refine (lamplighterref06_Right.calls kj7 a1_0 a1_1 a1_2 a1_3 a1_4 false _ A23.out).mono ?_); rintro e w35 ⟨rfl, hb⟩; refine ⟨_, rfl, ?_⟩; have n0_ := Aside0.mk (blk_below (g := gb228) (o := .cells #[.int .u8 a1_0, .int .u8 a1_1, .int .u8 a1_2, .int .u8 a1_3, .int .u8 a1_4] 23 (0, 0)) (by (with_reducible repeat (first | refine blk_drewN ?_ _ | refine blk_drew ?_ | refine blk_alloc ?_ _)); exact BK228.out) hb); have n1_ := Aside0.mk (below_step (by repeat (first | (with_reducible first | exact HB.out | apply below_alloc | apply pw_below_drewN | apply below_drew1 | refine below_set ?_ GE228.out) | exact HB.out)) hb); clear BK228; clear HB; have BK228 := n0_; have HB := n1_; clear n0_ n1_; (try clear hb); (try clear hb2); (try clear hk); (try clear hi)))
              go_ret
              exact ⟨by first | rfl | (simp [errW_none, errW_some] <;> rfl) | (simp [*, errW_none, errW_some] <;> rfl), by repeat (first | (with_reducible first | exact HB.out | apply below_alloc | apply pw_below_drewN | apply below_drew1 | refine below_set ?_ GE228.out) | exact HB.out)⟩
            · rw [if_neg c33] at H
              have c33b0 : (t231 == 11) = false := beq_eq_false_iff_ne.mpr c33
              have c33b1 : (t231 != 11) = true := bne_iff_ne.mpr c33
              obtain rfl := Option.some.inj H
              cases hrt

end Go.Proofs.YtokpkdmkdolmdaaDoor.PG
