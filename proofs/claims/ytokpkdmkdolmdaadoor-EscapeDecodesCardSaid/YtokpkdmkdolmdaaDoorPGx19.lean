-- Written by a program of this work (the kit's print, with contracts of this work's own taken in) out of the translation. Not trusted: Lean checks it.
import Derived.Test.YtokpkdmkdolmdaaDoorPGx0
import Derived.Test.YtokpkdmkdolmdaaDoorPGx9
import Derived.Test.YtokpkdmkdolmdaaDoorPGx11
import Derived.Test.YtokpkdmkdolmdaaDoorPGx13
import Derived.Test.YtokpkdmkdolmdaaDoorPGx18
namespace Go.Proofs.YtokpkdmkdolmdaaDoor.PG
open Go.RowKit Go.Proofs.YtokpkdmkdolmdaaDoorW.PrintWords Go.Proofs.YtokpkdmkdolmdaaDoorW.PrintLast Go.Proofs.YtokpkdmkdolmdaaDoorW.PrintMore
attribute [local go_sem] max2_int min2_int max_two min_two max_three min_three max_four min_four   -- for this text's walks alone
set_option linter.unusedVariables false
set_option linter.unusedSimpArgs false

/-! ### lamplighterlaw07_EscapeDecodes: function 5 -/
def lamplighterlaw07_EscapeDecodes.f (k : Nat) (a0 : ByteArray) (a1_0 : Int) (a1_1 : Int) (a1_2 : Int) (a1_3 : Int) (a1_4 : Int) : Option (Bool) := if (a0.size : Int) > 2000 then ((lamplighterlaw07_alive.f).bind fun t265 => (some t265)) else ((escape_Decode.f a0 a1_0 a1_1 a1_2 a1_3 a1_4).bind fun bt266 => ((lamplighterref06_Right.f k a1_0 a1_1 a1_2 a1_3 a1_4).bind fun t269 => (if t269 = true then ((lamplighterref07_Decode.f k a0 a1_0 a1_1 a1_2 a1_3 a1_4).bind fun bt270 => ((lamplighterlaw07_alive.f).bind fun t273 => (if t273 = true then (if bt266.1.toList = bt270.1.toList then (if bt266.2.1 = bt270.2.1 then (some (bt266.2.2 == bt270.2.2)) else (some false)) else (some false)) else (some false)))) else ((lamplighterlaw07_alive.f).bind fun t274 => (if t274 = true then (if bt266.2.2 = 11 then (if bt266.1.toList = ([] : List UInt8) then (some (bt266.2.1 == 0)) else (some false)) else (some false)) else (some false))))))
theorem lamplighterlaw07_EscapeDecodes.mono : ∀ a0 a1 a2 a3 a4 a5 k, LeO (lamplighterlaw07_EscapeDecodes.f k a0 a1 a2 a3 a4 a5) (lamplighterlaw07_EscapeDecodes.f (k + 1) a0 a1 a2 a3 a4 a5) := by
  intro a0 a1 a2 a3 a4 a5 k
  unfold lamplighterlaw07_EscapeDecodes.f
  repeat' first
      | (with_reducible exact lamplighterref06_Right.mono _ _ _ _ _ _)
      | (with_reducible exact lamplighterref07_Decode.mono _ _ _ _ _ _ _)
      | (with_reducible exact LeO.refl _)
      | (with_reducible exact LeO.none _)
      | (with_reducible refine LeO.ite ?_ ?_)
      | (with_reducible refine LeO.bind ?_ (fun _ => ?_))
      | exact lamplighterref06_Right.mono _ _ _ _ _ _
      | exact lamplighterref07_Decode.mono _ _ _ _ _ _ _
      | exact LeO.none _
      | refine LeO.ite ?_ ?_
      | refine LeO.bind ?_ (fun _ => ?_)
set_option maxHeartbeats 8000000 in
set_option maxRecDepth 100000 in
theorem lamplighterlaw07_EscapeDecodes.calls (k : Nat) (a0 : ByteArray) (a1_0 : Int) (a1_1 : Int) (a1_2 : Int) (a1_3 : Int) (a1_4 : Int) (r : Bool) (w : World) (h : lamplighterlaw07_EscapeDecodes.f k a0 a1_0 a1_1 a1_2 a1_3 a1_4 = some r) (hrt : r = true) :
    Calls Tryd.prog 5 #[.string a0, .agg #[.int .u8 a1_0, .int .u8 a1_1, .int .u8 a1_2, .int .u8 a1_3, .int .u8 a1_4]] w fun e w' => e = .returned (.bool r) ∧ Below w.heap.size w w' := by
  have hu23 := Tryd.underlying23
  have HB := Aside0.mk (Below.refl w.heap.size w)
  have H : (if (a0.size : Int) > 2000 then ((lamplighterlaw07_alive.f).bind fun t265 => (some t265)) else ((escape_Decode.f a0 a1_0 a1_1 a1_2 a1_3 a1_4).bind fun bt266 => ((lamplighterref06_Right.f k a1_0 a1_1 a1_2 a1_3 a1_4).bind fun t269 => (if t269 = true then ((lamplighterref07_Decode.f k a0 a1_0 a1_1 a1_2 a1_3 a1_4).bind fun bt270 => ((lamplighterlaw07_alive.f).bind fun t273 => (if t273 = true then (if bt266.1.toList = bt270.1.toList then (if bt266.2.1 = bt270.2.1 then (some (bt266.2.2 == bt270.2.2)) else (some false)) else (some false)) else (some false)))) else ((lamplighterlaw07_alive.f).bind fun t274 => (if t274 = true then (if bt266.2.2 = 11 then (if bt266.1.toList = ([] : List UInt8) then (some (bt266.2.1 == 0)) else (some false)) else (some false)) else (some false))))))) = some r := h
  clear h
  by_cases c3 : (a0.size : Int) > 2000
  · rw [if_pos c3] at H
    have c3b0 : decide (2000 < (a0.size : Int)) = true := decide_eq_true c3
    have c3b1 : decide (2000 < a0.size) = true := decide_eq_true (by omega)
    clear c3
    replace H := Option.bind_eq_some_iff.mp H
    obtain ⟨t265, A40, H⟩ := H
    replace H : (some t265) = some r := H
    have A4 := Aside0.mk A40
    clear A40
    obtain rfl := Option.some.inj H
    clear hrt
    go_enter Tryd.func5, Tryd.ntmps5
    go_wp2_with (first | ((with_reducible refine gate_dst (N := 3) rfl ?_); refine box_event ?hg (N := 3) ?hd (cs := #[.int .u8 a1_0, .int .u8 a1_1, .int .u8 a1_2, .int .u8 a1_3, .int .u8 a1_4]) (t := 23) ?hr ?_; (case hd => rfl); (case hg => rfl); (case hr => first | (go_simp; done) | (go_simp; rfl)); intro gb264 hg w5 hbox hb; have n0_ := Aside0.mk (below_step (by repeat (first | (with_reducible first | exact HB.out | apply below_alloc | apply pw_below_drewN | apply below_drew1) | exact HB.out)) hb); have n1_ := Aside0.mk (hbox); have n2_ := Aside0.mk ((by rw [hg]; exact (below_size (by repeat (first | (with_reducible first | exact HB.out | apply below_alloc | apply pw_below_drewN | apply below_drew1) | exact HB.out))) : w.heap.size ≤ gb264)); have n3_ := Aside0.mk ((by rw [hg]; exact (below_size (by repeat (first | (with_reducible first | exact HB.out | apply below_alloc | apply pw_below_drewN | apply below_drew1) | exact HB.out))) : w.heap.size ≤ gb264)); clear HB; have HB := n0_; have BK264 := n1_; have GW264 := n2_; have GE264 := n3_; clear n0_ n1_ n2_ n3_; clear hb hbox hg) | ((with_reducible refine gate_callee (f := 9) rfl ?_); refine goesL_ (some 14) rfl rfl Tryd.func9 (by kernel_rfl) rfl #[] rfl (by (try simp only [List.map_toArray, List.map_cons, List.map_nil]); first | done | rfl | (simp only [List.length_drop, List.length_take]; rfl)) ?_; (with_reducible refine (lamplighterlaw07_alive.calls  t265 _ A4.out).mono ?_); rintro e w6 ⟨rfl, hb⟩; refine ⟨_, rfl, ?_⟩; have n0_ := Aside0.mk (blk_below (g := gb264) (o := .cells #[.int .u8 a1_0, .int .u8 a1_1, .int .u8 a1_2, .int .u8 a1_3, .int .u8 a1_4] 23 (0, 0)) (by (with_reducible repeat (first | refine blk_drewN ?_ _ | refine blk_drew ?_ | refine blk_alloc ?_ _)); exact BK264.out) hb); have n1_ := Aside0.mk (below_step (by repeat (first | (with_reducible first | exact HB.out | apply below_alloc | apply pw_below_drewN | apply below_drew1 | refine below_set ?_ GE264.out) | exact HB.out)) hb); clear BK264; clear HB; have BK264 := n0_; have HB := n1_; clear n0_ n1_; (try clear hb); (try clear hb2); (try clear hk); (try clear hi)))
    go_ret
    exact ⟨by first | rfl | (simp [errW_none, errW_some] <;> rfl) | (simp [*, errW_none, errW_some] <;> rfl), by repeat (first | (with_reducible first | exact HB.out | apply below_alloc | apply pw_below_drewN | apply below_drew1 | refine below_set ?_ GE264.out) | exact HB.out)⟩
  · rw [if_neg c3] at H
    have c3b0 : decide (2000 < (a0.size : Int)) = false := decide_eq_false c3
    have c3b1 : decide (2000 < a0.size) = false := decide_eq_false (by omega)
    clear c3
    replace H := Option.bind_eq_some_iff.mp H
    obtain ⟨⟨t266, t267, t268⟩, A70, H⟩ := H
    replace H : ((lamplighterref06_Right.f k a1_0 a1_1 a1_2 a1_3 a1_4).bind fun t269 => (if t269 = true then ((lamplighterref07_Decode.f k a0 a1_0 a1_1 a1_2 a1_3 a1_4).bind fun bt270 => ((lamplighterlaw07_alive.f).bind fun t273 => (if t273 = true then (if t266.toList = bt270.1.toList then (if t267 = bt270.2.1 then (some (t268 == bt270.2.2)) else (some false)) else (some false)) else (some false)))) else ((lamplighterlaw07_alive.f).bind fun t274 => (if t274 = true then (if t268 = 11 then (if t266.toList = ([] : List UInt8) then (some (t267 == 0)) else (some false)) else (some false)) else (some false))))) = some r := H
    have A7 := Aside0.mk A70
    clear A70
    replace H := Option.bind_eq_some_iff.mp H
    obtain ⟨t269, A80, H⟩ := H
    replace H : (if t269 = true then ((lamplighterref07_Decode.f k a0 a1_0 a1_1 a1_2 a1_3 a1_4).bind fun bt270 => ((lamplighterlaw07_alive.f).bind fun t273 => (if t273 = true then (if t266.toList = bt270.1.toList then (if t267 = bt270.2.1 then (some (t268 == bt270.2.2)) else (some false)) else (some false)) else (some false)))) else ((lamplighterlaw07_alive.f).bind fun t274 => (if t274 = true then (if t268 = 11 then (if t266.toList = ([] : List UInt8) then (some (t267 == 0)) else (some false)) else (some false)) else (some false)))) = some r := H
    have A8 := Aside0.mk A80
    clear A80
    by_cases c9 : t269 = true
    · subst c9
      have H1 : ((lamplighterref07_Decode.f k a0 a1_0 a1_1 a1_2 a1_3 a1_4).bind fun bt270 => ((lamplighterlaw07_alive.f).bind fun t273 => (if t273 = true then (if t266.toList = bt270.1.toList then (if t267 = bt270.2.1 then (some (t268 == bt270.2.2)) else (some false)) else (some false)) else (some false)))) = some r := by rw [if_pos rfl] at H; exact H
      clear H
      have H := H1
      clear H1
      replace H := Option.bind_eq_some_iff.mp H
      obtain ⟨⟨t270, t271, t272⟩, A100, H⟩ := H
      replace H : ((lamplighterlaw07_alive.f).bind fun t273 => (if t273 = true then (if t266.toList = t270.toList then (if t267 = t271 then (some (t268 == t272)) else (some false)) else (some false)) else (some false))) = some r := H
      have A10 := Aside0.mk A100
      clear A100
      replace H := Option.bind_eq_some_iff.mp H
      obtain ⟨t273, A110, H⟩ := H
      replace H : (if t273 = true then (if t266.toList = t270.toList then (if t267 = t271 then (some (t268 == t272)) else (some false)) else (some false)) else (some false)) = some r := H
      have A11 := Aside0.mk A110
      clear A110
      by_cases c12 : t273 = true
      · subst c12
        have H1 : (if t266.toList = t270.toList then (if t267 = t271 then (some (t268 == t272)) else (some false)) else (some false)) = some r := by rw [if_pos rfl] at H; exact H
        clear H
        have H := H1
        clear H1
        by_cases c13 : t266.toList = t270.toList
        · rw [if_pos c13] at H
          have c13b0 : (t266.toList == t270.toList) = true := beq_iff_eq.mpr c13
          have c13b1 : (t266.toList != t270.toList) = false := bne_eq_false_iff_eq.mpr c13
          clear c13
          by_cases c14 : t267 = t271
          · rw [if_pos c14] at H
            have c14b0 : (t267 == t271) = true := beq_iff_eq.mpr c14
            have c14b1 : (t267 != t271) = false := bne_eq_false_iff_eq.mpr c14
            clear c14
            obtain rfl := Option.some.inj H
            clear hrt
            go_enter Tryd.func5, Tryd.ntmps5
            go_wp2_with (first | ((with_reducible refine gate_dst (N := 3) rfl ?_); refine box_event ?hg (N := 3) ?hd (cs := #[.int .u8 a1_0, .int .u8 a1_1, .int .u8 a1_2, .int .u8 a1_3, .int .u8 a1_4]) (t := 23) ?hr ?_; (case hd => rfl); (case hg => rfl); (case hr => first | (go_simp; done) | (go_simp; rfl)); intro gb264 hg w15 hbox hb; have n0_ := Aside0.mk (below_step (by repeat (first | (with_reducible first | exact HB.out | apply below_alloc | apply pw_below_drewN | apply below_drew1) | exact HB.out)) hb); have n1_ := Aside0.mk (hbox); have n2_ := Aside0.mk ((by rw [hg]; exact (below_size (by repeat (first | (with_reducible first | exact HB.out | apply below_alloc | apply pw_below_drewN | apply below_drew1) | exact HB.out))) : w.heap.size ≤ gb264)); have n3_ := Aside0.mk ((by rw [hg]; exact (below_size (by repeat (first | (with_reducible first | exact HB.out | apply below_alloc | apply pw_below_drewN | apply below_drew1) | exact HB.out))) : w.heap.size ≤ gb264)); clear HB; have HB := n0_; have BK264 := n1_; have GW264 := n2_; have GE264 := n3_; clear n0_ n1_ n2_ n3_; clear hb hbox hg; have hcz16_0 : w15.cell? ⟨gb264, 0, none⟩ = some (.int .u8 a1_0) := (blk_cell BK264.out 0).trans rfl; have hcz16_1 : w15.cell? ⟨gb264, 1, none⟩ = some (.int .u8 a1_1) := (blk_cell BK264.out 1).trans rfl; have hcz16_2 : w15.cell? ⟨gb264, 2, none⟩ = some (.int .u8 a1_2) := (blk_cell BK264.out 2).trans rfl; have hcz16_3 : w15.cell? ⟨gb264, 3, none⟩ = some (.int .u8 a1_3) := (blk_cell BK264.out 3).trans rfl; have hcz16_4 : w15.cell? ⟨gb264, 4, none⟩ = some (.int .u8 a1_4) := (blk_cell BK264.out 4).trans rfl; have hfz16_0 := blk_frozen BK264.out 0; have hfz16_1 := blk_frozen BK264.out 1; have hfz16_2 := blk_frozen BK264.out 2; have hfz16_3 := blk_frozen BK264.out 3; have hfz16_4 := blk_frozen BK264.out 4) | ((with_reducible refine gate_callee (f := 11) rfl ?_); refine goesL_ (some 18) rfl rfl Tryd.func11 (by kernel_rfl) rfl #[.string a0, .agg #[.int .u8 a1_0, .int .u8 a1_1, .int .u8 a1_2, .int .u8 a1_3, .int .u8 a1_4]] rfl (by (try simp only [List.map_toArray, List.map_cons, List.map_nil]); first | done | rfl | (simp only [List.length_drop, List.length_take]; rfl)) ?_; (with_reducible refine (escape_Decode.calls a0 a1_0 a1_1 a1_2 a1_3 a1_4 t266 t267 t268 _ A7.out).mono ?_); rintro e w17 ⟨rfl, hb⟩; refine ⟨_, rfl, ?_⟩; have n0_ := Aside0.mk (blk_below (g := gb264) (o := .cells #[.int .u8 a1_0, .int .u8 a1_1, .int .u8 a1_2, .int .u8 a1_3, .int .u8 a1_4] 23 (0, 0)) (by (with_reducible repeat (first | refine blk_drewN ?_ _ | refine blk_drew ?_ | refine blk_alloc ?_ _)); exact BK264.out) hb); have n1_ := Aside0.mk (below_step (by repeat (first | (with_reducible first | exact HB.out | apply below_alloc | apply pw_below_drewN | apply below_drew1 | refine below_set ?_ GE264.out) | exact HB.out)) hb); clear BK264; clear HB; have BK264 := n0_; have HB := n1_; clear n0_ n1_; (try clear hb); (try clear hb2); (try clear hk); (try clear hi); have hcz18_0 : w17.cell? ⟨gb264, 0, none⟩ = some (.int .u8 a1_0) := (blk_cell BK264.out 0).trans rfl; have hcz18_1 : w17.cell? ⟨gb264, 1, none⟩ = some (.int .u8 a1_1) := (blk_cell BK264.out 1).trans rfl; have hcz18_2 : w17.cell? ⟨gb264, 2, none⟩ = some (.int .u8 a1_2) := (blk_cell BK264.out 2).trans rfl; have hcz18_3 : w17.cell? ⟨gb264, 3, none⟩ = some (.int .u8 a1_3) := (blk_cell BK264.out 3).trans rfl; have hcz18_4 : w17.cell? ⟨gb264, 4, none⟩ = some (.int .u8 a1_4) := (blk_cell BK264.out 4).trans rfl; have hfz18_0 := blk_frozen BK264.out 0; have hfz18_1 := blk_frozen BK264.out 1; have hfz18_2 := blk_frozen BK264.out 2; have hfz18_3 := blk_frozen BK264.out 3; have hfz18_4 := blk_frozen BK264.out 4) | ((with_reducible refine gate_callee (f := 14) rfl ?_); refine goesL_ (some 23) rfl rfl Tryd.func14 (by kernel_rfl) rfl #[.agg #[.int .u8 a1_0, .int .u8 a1_1, .int .u8 a1_2, .int .u8 a1_3, .int .u8 a1_4]] rfl (by (try simp only [List.map_toArray, List.map_cons, List.map_nil]); first | done | rfl | (simp only [List.length_drop, List.length_take]; rfl)) ?_; (with_reducible refine (lamplighterref06_Right.calls k a1_0 a1_1 a1_2 a1_3 a1_4 true _ A8.out).mono ?_); rintro e w19 ⟨rfl, hb⟩; refine ⟨_, rfl, ?_⟩; have n0_ := Aside0.mk (blk_below (g := gb264) (o := .cells #[.int .u8 a1_0, .int .u8 a1_1, .int .u8 a1_2, .int .u8 a1_3, .int .u8 a1_4] 23 (0, 0)) (by (with_reducible repeat (first | refine blk_drewN ?_ _ | refine blk_drew ?_ | refine blk_alloc ?_ _)); exact BK264.out) hb); have n1_ := Aside0.mk (below_step (by repeat (first | (with_reducible first | exact HB.out | apply below_alloc | apply pw_below_drewN | apply below_drew1 | refine below_set ?_ GE264.out) | exact HB.out)) hb); clear BK264; clear HB; have BK264 := n0_; have HB := n1_; clear n0_ n1_; (try clear hb); (try clear hb2); (try clear hk); (try clear hi); have hcz20_0 : w19.cell? ⟨gb264, 0, none⟩ = some (.int .u8 a1_0) := (blk_cell BK264.out 0).trans rfl; have hcz20_1 : w19.cell? ⟨gb264, 1, none⟩ = some (.int .u8 a1_1) := (blk_cell BK264.out 1).trans rfl; have hcz20_2 : w19.cell? ⟨gb264, 2, none⟩ = some (.int .u8 a1_2) := (blk_cell BK264.out 2).trans rfl; have hcz20_3 : w19.cell? ⟨gb264, 3, none⟩ = some (.int .u8 a1_3) := (blk_cell BK264.out 3).trans rfl; have hcz20_4 : w19.cell? ⟨gb264, 4, none⟩ = some (.int .u8 a1_4) := (blk_cell BK264.out 4).trans rfl; have hfz20_0 := blk_frozen BK264.out 0; have hfz20_1 := blk_frozen BK264.out 1; have hfz20_2 := blk_frozen BK264.out 2; have hfz20_3 := blk_frozen BK264.out 3; have hfz20_4 := blk_frozen BK264.out 4) | ((with_reducible refine gate_callee (f := 15) rfl ?_); refine goesL_ (some 41) rfl rfl Tryd.func15 (by kernel_rfl) rfl #[.string a0, .agg #[.int .u8 a1_0, .int .u8 a1_1, .int .u8 a1_2, .int .u8 a1_3, .int .u8 a1_4]] rfl (by (try simp only [List.map_toArray, List.map_cons, List.map_nil]); first | done | rfl | (simp only [List.length_drop, List.length_take]; rfl)) ?_; (with_reducible refine (lamplighterref07_Decode.calls k a0 a1_0 a1_1 a1_2 a1_3 a1_4 t270 t271 t272 _ A10.out).mono ?_); rintro e w21 ⟨rfl, hb⟩; refine ⟨_, rfl, ?_⟩; have n0_ := Aside0.mk (blk_below (g := gb264) (o := .cells #[.int .u8 a1_0, .int .u8 a1_1, .int .u8 a1_2, .int .u8 a1_3, .int .u8 a1_4] 23 (0, 0)) (by (with_reducible repeat (first | refine blk_drewN ?_ _ | refine blk_drew ?_ | refine blk_alloc ?_ _)); exact BK264.out) hb); have n1_ := Aside0.mk (below_step (by repeat (first | (with_reducible first | exact HB.out | apply below_alloc | apply pw_below_drewN | apply below_drew1 | refine below_set ?_ GE264.out) | exact HB.out)) hb); clear BK264; clear HB; have BK264 := n0_; have HB := n1_; clear n0_ n1_; (try clear hb); (try clear hb2); (try clear hk); (try clear hi)) | ((with_reducible refine gate_callee (f := 9) rfl ?_); refine goesL_ (some 45) rfl rfl Tryd.func9 (by kernel_rfl) rfl #[] rfl (by (try simp only [List.map_toArray, List.map_cons, List.map_nil]); first | done | rfl | (simp only [List.length_drop, List.length_take]; rfl)) ?_; (with_reducible refine (lamplighterlaw07_alive.calls  true _ A11.out).mono ?_); rintro e w22 ⟨rfl, hb⟩; refine ⟨_, rfl, ?_⟩; have n0_ := Aside0.mk (blk_below (g := gb264) (o := .cells #[.int .u8 a1_0, .int .u8 a1_1, .int .u8 a1_2, .int .u8 a1_3, .int .u8 a1_4] 23 (0, 0)) (by (with_reducible repeat (first | refine blk_drewN ?_ _ | refine blk_drew ?_ | refine blk_alloc ?_ _)); exact BK264.out) hb); have n1_ := Aside0.mk (below_step (by repeat (first | (with_reducible first | exact HB.out | apply below_alloc | apply pw_below_drewN | apply below_drew1 | refine below_set ?_ GE264.out) | exact HB.out)) hb); clear BK264; clear HB; have BK264 := n0_; have HB := n1_; clear n0_ n1_; (try clear hb); (try clear hb2); (try clear hk); (try clear hi)))
            go_ret
            exact ⟨by first | rfl | (simp [errW_none, errW_some] <;> rfl) | (simp [*, errW_none, errW_some] <;> rfl), by repeat (first | (with_reducible first | exact HB.out | apply below_alloc | apply pw_below_drewN | apply below_drew1 | refine below_set ?_ GE264.out) | exact HB.out)⟩
          · rw [if_neg c14] at H
            have c14b0 : (t267 == t271) = false := beq_eq_false_iff_ne.mpr c14
            have c14b1 : (t267 != t271) = true := bne_iff_ne.mpr c14
            obtain rfl := Option.some.inj H
            cases hrt
        · rw [if_neg c13] at H
          have c13b0 : (t266.toList == t270.toList) = false := beq_eq_false_iff_ne.mpr c13
          have c13b1 : (t266.toList != t270.toList) = true := bne_iff_ne.mpr c13
          obtain rfl := Option.some.inj H
          cases hrt
      · replace c12 := Bool.eq_false_iff.mpr c12
        subst c12
        have H1 : (some false) = some r := by rw [if_neg (show ¬ (false = true) by decide)] at H; exact H
        clear H
        have H := H1
        clear H1
        obtain rfl := Option.some.inj H
        cases hrt
    · replace c9 := Bool.eq_false_iff.mpr c9
      subst c9
      have H1 : ((lamplighterlaw07_alive.f).bind fun t274 => (if t274 = true then (if t268 = 11 then (if t266.toList = ([] : List UInt8) then (some (t267 == 0)) else (some false)) else (some false)) else (some false))) = some r := by rw [if_neg (show ¬ (false = true) by decide)] at H; exact H
      clear H
      have H := H1
      clear H1
      replace H := Option.bind_eq_some_iff.mp H
      obtain ⟨t274, A470, H⟩ := H
      replace H : (if t274 = true then (if t268 = 11 then (if t266.toList = ([] : List UInt8) then (some (t267 == 0)) else (some false)) else (some false)) else (some false)) = some r := H
      have A47 := Aside0.mk A470
      clear A470
      by_cases c48 : t274 = true
      · subst c48
        have H1 : (if t268 = 11 then (if t266.toList = ([] : List UInt8) then (some (t267 == 0)) else (some false)) else (some false)) = some r := by rw [if_pos rfl] at H; exact H
        clear H
        have H := H1
        clear H1
        by_cases c49 : t268 = 11
        · rw [if_pos c49] at H
          have c49b0 : (t268 == 11) = true := beq_iff_eq.mpr c49
          have c49b1 : (t268 != 11) = false := bne_eq_false_iff_eq.mpr c49
          clear c49
          by_cases c50 : t266.toList = ([] : List UInt8)
          · rw [if_pos c50] at H
            have c50b0 : (t266.toList == ([] : List UInt8)) = true := beq_iff_eq.mpr c50
            have c50b1 : (t266.toList != ([] : List UInt8)) = false := bne_eq_false_iff_eq.mpr c50
            clear c50
            obtain rfl := Option.some.inj H
            clear hrt
            go_enter Tryd.func5, Tryd.ntmps5
            go_wp2_with (first | ((with_reducible refine gate_dst (N := 3) rfl ?_); refine box_event ?hg (N := 3) ?hd (cs := #[.int .u8 a1_0, .int .u8 a1_1, .int .u8 a1_2, .int .u8 a1_3, .int .u8 a1_4]) (t := 23) ?hr ?_; (case hd => rfl); (case hg => rfl); (case hr => first | (go_simp; done) | (go_simp; rfl)); intro gb264 hg w51 hbox hb; have n0_ := Aside0.mk (below_step (by repeat (first | (with_reducible first | exact HB.out | apply below_alloc | apply pw_below_drewN | apply below_drew1) | exact HB.out)) hb); have n1_ := Aside0.mk (hbox); have n2_ := Aside0.mk ((by rw [hg]; exact (below_size (by repeat (first | (with_reducible first | exact HB.out | apply below_alloc | apply pw_below_drewN | apply below_drew1) | exact HB.out))) : w.heap.size ≤ gb264)); have n3_ := Aside0.mk ((by rw [hg]; exact (below_size (by repeat (first | (with_reducible first | exact HB.out | apply below_alloc | apply pw_below_drewN | apply below_drew1) | exact HB.out))) : w.heap.size ≤ gb264)); clear HB; have HB := n0_; have BK264 := n1_; have GW264 := n2_; have GE264 := n3_; clear n0_ n1_ n2_ n3_; clear hb hbox hg; have hcz52_0 : w51.cell? ⟨gb264, 0, none⟩ = some (.int .u8 a1_0) := (blk_cell BK264.out 0).trans rfl; have hcz52_1 : w51.cell? ⟨gb264, 1, none⟩ = some (.int .u8 a1_1) := (blk_cell BK264.out 1).trans rfl; have hcz52_2 : w51.cell? ⟨gb264, 2, none⟩ = some (.int .u8 a1_2) := (blk_cell BK264.out 2).trans rfl; have hcz52_3 : w51.cell? ⟨gb264, 3, none⟩ = some (.int .u8 a1_3) := (blk_cell BK264.out 3).trans rfl; have hcz52_4 : w51.cell? ⟨gb264, 4, none⟩ = some (.int .u8 a1_4) := (blk_cell BK264.out 4).trans rfl; have hfz52_0 := blk_frozen BK264.out 0; have hfz52_1 := blk_frozen BK264.out 1; have hfz52_2 := blk_frozen BK264.out 2; have hfz52_3 := blk_frozen BK264.out 3; have hfz52_4 := blk_frozen BK264.out 4) | ((with_reducible refine gate_callee (f := 11) rfl ?_); refine goesL_ (some 18) rfl rfl Tryd.func11 (by kernel_rfl) rfl #[.string a0, .agg #[.int .u8 a1_0, .int .u8 a1_1, .int .u8 a1_2, .int .u8 a1_3, .int .u8 a1_4]] rfl (by (try simp only [List.map_toArray, List.map_cons, List.map_nil]); first | done | rfl | (simp only [List.length_drop, List.length_take]; rfl)) ?_; (with_reducible refine (escape_Decode.calls a0 a1_0 a1_1 a1_2 a1_3 a1_4 t266 t267 t268 _ A7.out).mono ?_); rintro e w53 ⟨rfl, hb⟩; refine ⟨_, rfl, ?_⟩; have n0_ := Aside0.mk (blk_below (g := gb264) (o := .cells #[.int .u8 a1_0, .int .u8 a1_1, .int .u8 a1_2, .int .u8 a1_3, .int .u8 a1_4] 23 (0, 0)) (by (with_reducible repeat (first | refine blk_drewN ?_ _ | refine blk_drew ?_ | refine blk_alloc ?_ _)); exact BK264.out) hb); have n1_ := Aside0.mk (below_step (by repeat (first | (with_reducible first | exact HB.out | apply below_alloc | apply pw_below_drewN | apply below_drew1 | refine below_set ?_ GE264.out) | exact HB.out)) hb); clear BK264; clear HB; have BK264 := n0_; have HB := n1_; clear n0_ n1_; (try clear hb); (try clear hb2); (try clear hk); (try clear hi); have hcz54_0 : w53.cell? ⟨gb264, 0, none⟩ = some (.int .u8 a1_0) := (blk_cell BK264.out 0).trans rfl; have hcz54_1 : w53.cell? ⟨gb264, 1, none⟩ = some (.int .u8 a1_1) := (blk_cell BK264.out 1).trans rfl; have hcz54_2 : w53.cell? ⟨gb264, 2, none⟩ = some (.int .u8 a1_2) := (blk_cell BK264.out 2).trans rfl; have hcz54_3 : w53.cell? ⟨gb264, 3, none⟩ = some (.int .u8 a1_3) := (blk_cell BK264.out 3).trans rfl; have hcz54_4 : w53.cell? ⟨gb264, 4, none⟩ = some (.int .u8 a1_4) := (blk_cell BK264.out 4).trans rfl; have hfz54_0 := blk_frozen BK264.out 0; have hfz54_1 := blk_frozen BK264.out 1; have hfz54_2 := blk_frozen BK264.out 2; have hfz54_3 := blk_frozen BK264.out 3; have hfz54_4 := blk_frozen BK264.out 4) | ((with_reducible refine gate_callee (f := 14) rfl ?_); refine goesL_ (some 23) rfl rfl Tryd.func14 (by kernel_rfl) rfl #[.agg #[.int .u8 a1_0, .int .u8 a1_1, .int .u8 a1_2, .int .u8 a1_3, .int .u8 a1_4]] rfl (by (try simp only [List.map_toArray, List.map_cons, List.map_nil]); first | done | rfl | (simp only [List.length_drop, List.length_take]; rfl)) ?_; (with_reducible refine (lamplighterref06_Right.calls k a1_0 a1_1 a1_2 a1_3 a1_4 false _ A8.out).mono ?_); rintro e w55 ⟨rfl, hb⟩; refine ⟨_, rfl, ?_⟩; have n0_ := Aside0.mk (blk_below (g := gb264) (o := .cells #[.int .u8 a1_0, .int .u8 a1_1, .int .u8 a1_2, .int .u8 a1_3, .int .u8 a1_4] 23 (0, 0)) (by (with_reducible repeat (first | refine blk_drewN ?_ _ | refine blk_drew ?_ | refine blk_alloc ?_ _)); exact BK264.out) hb); have n1_ := Aside0.mk (below_step (by repeat (first | (with_reducible first | exact HB.out | apply below_alloc | apply pw_below_drewN | apply below_drew1 | refine below_set ?_ GE264.out) | exact HB.out)) hb); clear BK264; clear HB; have BK264 := n0_; have HB := n1_; clear n0_ n1_; (try clear hb); (try clear hb2); (try clear hk); (try clear hi)) | ((with_reducible refine gate_callee (f := 9) rfl ?_); refine goesL_ (some 25) rfl rfl Tryd.func9 (by kernel_rfl) rfl #[] rfl (by (try simp only [List.map_toArray, List.map_cons, List.map_nil]); first | done | rfl | (simp only [List.length_drop, List.length_take]; rfl)) ?_; (with_reducible refine (lamplighterlaw07_alive.calls  true _ A47.out).mono ?_); rintro e w56 ⟨rfl, hb⟩; refine ⟨_, rfl, ?_⟩; have n0_ := Aside0.mk (blk_below (g := gb264) (o := .cells #[.int .u8 a1_0, .int .u8 a1_1, .int .u8 a1_2, .int .u8 a1_3, .int .u8 a1_4] 23 (0, 0)) (by (with_reducible repeat (first | refine blk_drewN ?_ _ | refine blk_drew ?_ | refine blk_alloc ?_ _)); exact BK264.out) hb); have n1_ := Aside0.mk (below_step (by repeat (first | (with_reducible first | exact HB.out | apply below_alloc | apply pw_below_drewN | apply below_drew1 | refine below_set ?_ GE264.out) | exact HB.out)) hb); clear BK264; clear HB; have BK264 := n0_; have HB := n1_; clear n0_ n1_; (try clear hb); (try clear hb2); (try clear hk); (try clear hi)))
            go_ret
            exact ⟨by first | rfl | (simp [errW_none, errW_some] <;> rfl) | (simp [*, errW_none, errW_some] <;> rfl), by repeat (first | (with_reducible first | exact HB.out | apply below_alloc | apply pw_below_drewN | apply below_drew1 | refine below_set ?_ GE264.out) | exact HB.out)⟩
          · rw [if_neg c50] at H
            have c50b0 : (t266.toList == ([] : List UInt8)) = false := beq_eq_false_iff_ne.mpr c50
            have c50b1 : (t266.toList != ([] : List UInt8)) = true := bne_iff_ne.mpr c50
            obtain rfl := Option.some.inj H
            cases hrt
        · rw [if_neg c49] at H
          have c49b0 : (t268 == 11) = false := beq_eq_false_iff_ne.mpr c49
          have c49b1 : (t268 != 11) = true := bne_iff_ne.mpr c49
          obtain rfl := Option.some.inj H
          cases hrt
      · replace c48 := Bool.eq_false_iff.mpr c48
        subst c48
        have H1 : (some false) = some r := by rw [if_neg (show ¬ (false = true) by decide)] at H; exact H
        clear H
        have H := H1
        clear H1
        obtain rfl := Option.some.inj H
        cases hrt

end Go.Proofs.YtokpkdmkdolmdaaDoor.PG
