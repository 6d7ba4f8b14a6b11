-- Written by a program of this work (the kit's print, with contracts of this work's own taken in) out of the translation. Not trusted: Lean checks it.
import Derived.Test.YtokpkdmkdolmdaaDoorPGx0
import Derived.Test.YtokpkdmkdolmdaaDoorPGx3
import Derived.Test.YtokpkdmkdolmdaaDoorPGx9
import Derived.Test.YtokpkdmkdolmdaaDoorPGx10
import Derived.Test.YtokpkdmkdolmdaaDoorPGx11
namespace Go.Proofs.YtokpkdmkdolmdaaDoor.PG
open Go.RowKit Go.Proofs.YtokpkdmkdolmdaaDoorW.PrintWords Go.Proofs.YtokpkdmkdolmdaaDoorW.PrintLast Go.Proofs.YtokpkdmkdolmdaaDoorW.PrintMore
attribute [local go_sem] max2_int min2_int max_two min_two max_three min_three max_four min_four   -- for this text's walks alone
set_option linter.unusedVariables false
set_option linter.unusedSimpArgs false

/-! ### lamplighterlaw07_EscapeLonger: function 7 -/
mutual
def lamplighterlaw07_EscapeLonger.l0 : Nat → ByteArray → Int → Int → Int → Option (Bool)
  | 0, _, _, _, _ => none
  | k + 1, x0, x3, x17, x18 => if x18 < x17 then (if 0 ≤ x18 then (if x18 < (x0.size : Int) then (if (bt x0 x18) = 124 then (lamplighterlaw07_EscapeLonger.j1 k x0 x3 x17 x18 (bt x0 x18) ((bt x0 x18) == 124)) else (if (bt x0 x18) = 94 then (lamplighterlaw07_EscapeLonger.j1 k x0 x3 x17 x18 (bt x0 x18) ((bt x0 x18) == 94)) else (if (bt x0 x18) = 126 then (lamplighterlaw07_EscapeLonger.j1 k x0 x3 x17 x18 (bt x0 x18) ((bt x0 x18) == 126)) else (if (bt x0 x18) = 92 then (lamplighterlaw07_EscapeLonger.j1 k x0 x3 x17 x18 (bt x0 x18) ((bt x0 x18) == 92)) else (lamplighterlaw07_EscapeLonger.j1 k x0 x3 x17 x18 (bt x0 x18) ((bt x0 x18) == 38)))))) else (none)) else (none)) else ((lamplighterlaw07_plain.f).bind fun bt356 => ((escape_Encode.f x0 bt356.1 bt356.2.1 bt356.2.2.1 bt356.2.2.2.1 bt356.2.2.2.2).bind fun bt361 => ((lamplighterlaw07_plain.f).bind fun bt363 => ((escape_Decode.f x0 bt363.1 bt363.2.1 bt363.2.2.1 bt363.2.2.2.1 bt363.2.2.2.2).bind fun bt368 => ((lamplighterlaw07_alive.f).bind fun t371 => (if t371 = true then (if bt361.2 = 0 then (if (bt361.1.size : Int) = x3 then (if (bt368.1.size : Int) ≤ (x0.size : Int) then (if bt368.2.2 = 0 then (if bt368.2.1 = (x0.size : Int) then (some true) else (if bt368.2.2 = 10 then (if bt368.1.toList = ([] : List UInt8) then (if bt368.2.1 < (x0.size : Int) then (if 0 ≤ bt368.2.1 then (some ((bt x0 bt368.2.1) == 92)) else (none)) else (some false)) else (some false)) else (some false))) else (if bt368.2.2 = 10 then (if bt368.1.toList = ([] : List UInt8) then (if bt368.2.1 < (x0.size : Int) then (if 0 ≤ bt368.2.1 then (some ((bt x0 bt368.2.1) == 92)) else (none)) else (some false)) else (some false)) else (some false))) else (some false)) else (some false)) else (some false)) else (some false)))))))
def lamplighterlaw07_EscapeLonger.j1 : Nat → ByteArray → Int → Int → Int → Int → Bool → Option (Bool)
  | 0, _, _, _, _, _, _ => none
  | k + 1, x0, x3, x17, x18, x23, x24 => if x24 = true then (lamplighterlaw07_EscapeLonger.l0 k x0 (wrap64 (x3 + 2)) x17 (wrap64 (x18 + 1))) else (if x23 = 11 then (lamplighterlaw07_EscapeLonger.l0 k x0 (wrap64 (x3 + 4)) x17 (wrap64 (x18 + 1))) else (if x23 = 13 then (lamplighterlaw07_EscapeLonger.l0 k x0 (wrap64 (x3 + 4)) x17 (wrap64 (x18 + 1))) else (if x23 = 28 then (lamplighterlaw07_EscapeLonger.l0 k x0 (wrap64 (x3 + 4)) x17 (wrap64 (x18 + 1))) else (lamplighterlaw07_EscapeLonger.l0 k x0 x3 x17 (wrap64 (x18 + 1))))))
end
def lamplighterlaw07_EscapeLonger.f (k : Nat) (a0 : ByteArray) : Option (Bool) := if (a0.size : Int) > 1500 then ((lamplighterlaw07_alive.f).bind fun t355 => (some t355)) else (lamplighterlaw07_EscapeLonger.l0 k a0 (a0.size : Int) (a0.size : Int) 0)
theorem lamplighterlaw07_EscapeLonger.mono_l : ∀ k, (∀ y0 y1 y2 y3, LeO (lamplighterlaw07_EscapeLonger.l0 k y0 y1 y2 y3) (lamplighterlaw07_EscapeLonger.l0 (k + 1) y0 y1 y2 y3)) ∧ (∀ y0 y1 y2 y3 y4 y5, LeO (lamplighterlaw07_EscapeLonger.j1 k y0 y1 y2 y3 y4 y5) (lamplighterlaw07_EscapeLonger.j1 (k + 1) y0 y1 y2 y3 y4 y5))
  | 0 => ⟨fun _ _ _ _ r h => by simp [lamplighterlaw07_EscapeLonger.l0] at h, fun _ _ _ _ _ _ r h => by simp [lamplighterlaw07_EscapeLonger.j1] at h⟩
  | k + 1 => by
    obtain ⟨ih0, ih1⟩ := lamplighterlaw07_EscapeLonger.mono_l k
    refine ⟨?_, ?_⟩
    · intro y0 y1 y2 y3
      unfold lamplighterlaw07_EscapeLonger.l0
      repeat' first
      | (with_reducible exact ih0 _ _ _ _)
      | (with_reducible exact ih1 _ _ _ _ _ _)
      | (with_reducible exact LeO.refl _)
      | (with_reducible exact LeO.none _)
      | (with_reducible refine LeO.ite ?_ ?_)
      | (with_reducible refine LeO.bind ?_ (fun _ => ?_))
      | exact ih0 _ _ _ _
      | exact ih1 _ _ _ _ _ _
      | exact LeO.none _
      | refine LeO.ite ?_ ?_
      | refine LeO.bind ?_ (fun _ => ?_)
    · intro y0 y1 y2 y3 y4 y5
      unfold lamplighterlaw07_EscapeLonger.j1
      repeat' first
      | (with_reducible exact ih0 _ _ _ _)
      | (with_reducible exact ih1 _ _ _ _ _ _)
      | (with_reducible exact LeO.refl _)
      | (with_reducible exact LeO.none _)
      | (with_reducible refine LeO.ite ?_ ?_)
      | (with_reducible refine LeO.bind ?_ (fun _ => ?_))
      | exact ih0 _ _ _ _
      | exact ih1 _ _ _ _ _ _
      | exact LeO.none _
      | refine LeO.ite ?_ ?_
      | refine LeO.bind ?_ (fun _ => ?_)
theorem lamplighterlaw07_EscapeLonger.mono : ∀ a0 k, LeO (lamplighterlaw07_EscapeLonger.f k a0) (lamplighterlaw07_EscapeLonger.f (k + 1) a0) := by
  intro a0 k
  obtain ⟨ih0, ih1⟩ := lamplighterlaw07_EscapeLonger.mono_l k
  unfold lamplighterlaw07_EscapeLonger.f
  repeat' first
      | (with_reducible exact ih0 _ _ _ _)
      | (with_reducible exact ih1 _ _ _ _ _ _)
      | (with_reducible exact LeO.refl _)
      | (with_reducible exact LeO.none _)
      | (with_reducible refine LeO.ite ?_ ?_)
      | (with_reducible refine LeO.bind ?_ (fun _ => ?_))
      | exact ih0 _ _ _ _
      | exact ih1 _ _ _ _ _ _
      | exact LeO.none _
      | refine LeO.ite ?_ ?_
      | refine LeO.bind ?_ (fun _ => ?_)
set_option maxHeartbeats 8000000 in
set_option maxRecDepth 100000 in
theorem lamplighterlaw07_EscapeLonger.calls (k : Nat) (a0 : ByteArray) (r : Bool) (w : World) (h : lamplighterlaw07_EscapeLonger.f k a0 = some r) (hrt : r = true) :
    Calls Tryd.prog 7 #[.string a0] w fun e w' => e = .returned (.bool r) ∧ Below w.heap.size w w' := by
  have HB := Aside0.mk (Below.refl w.heap.size w)
  have H : (if (a0.size : Int) > 1500 then ((lamplighterlaw07_alive.f).bind fun t355 => (some t355)) else (lamplighterlaw07_EscapeLonger.l0 k a0 (a0.size : Int) (a0.size : Int) 0)) = some r := h
  clear h
  by_cases c2 : (a0.size : Int) > 1500
  · rw [if_pos c2] at H
    have c2b0 : decide (1500 < (a0.size : Int)) = true := decide_eq_true c2
    have c2b1 : decide (1500 < a0.size) = true := decide_eq_true (by omega)
    clear c2
    replace H := Option.bind_eq_some_iff.mp H
    obtain ⟨t355, A30, H⟩ := H
    replace H : (some t355) = some r := H
    have A3 := Aside0.mk A30
    clear A30
    obtain rfl := Option.some.inj H
    clear hrt
    go_enter Tryd.func7, Tryd.ntmps7
    go_wp2_with (first | ((with_reducible refine gate_callee (f := 9) rfl ?_); refine goesL_ (some 13) rfl rfl Tryd.func9 (by kernel_rfl) rfl #[] rfl (by (try simp only [List.map_toArray, List.map_cons, List.map_nil]); first | done | rfl | (simp only [List.length_drop, List.length_take]; rfl)) ?_; (with_reducible refine (lamplighterlaw07_alive.calls  t355 _ A3.out).mono ?_); rintro e w4 ⟨rfl, hb⟩; refine ⟨_, rfl, ?_⟩; have n0_ := Aside0.mk (below_step (by repeat (first | (with_reducible first | exact HB.out | apply below_alloc | apply pw_below_drewN | apply below_drew1) | exact HB.out)) hb); clear HB; have HB := n0_; clear n0_; (try clear hb); (try clear hb2); (try clear hk); (try clear hi)))
    go_ret
    exact ⟨by first | rfl | (simp [errW_none, errW_some] <;> rfl) | (simp [*, errW_none, errW_some] <;> rfl), by repeat (first | (with_reducible first | exact HB.out | apply below_alloc | apply pw_below_drewN | apply below_drew1) | exact HB.out)⟩
  · rw [if_neg c2] at H
    have c2b0 : decide (1500 < (a0.size : Int)) = false := decide_eq_false c2
    have c2b1 : decide (1500 < a0.size) = false := decide_eq_false (by omega)
    clear c2
    have H' := Aside0.mk H
    clear H
    go_enter Tryd.func7, Tryd.ntmps7
    go_wp2
    go_loopg [3, 18] k (fun kq v3 v18 w' => ∃ (x3_1 : Int) (x18_1 : Int), v3 = .int .i64 x3_1 ∧ v18 = .int .i64 x18_1 ∧ Aside0 (lamplighterlaw07_EscapeLonger.l0 kq a0 x3_1 (a0.size : Int) x18_1 = some r) ∧ Aside0 (kq ≤ k) ∧ Aside0 (Below w.heap.size w w'))
    case atStart => exact ⟨((a0.size : Int)), (0), (by first | rfl | (simp; done) | (simp [*]; done)), (by first | rfl | (simp; done) | (simp [*]; done)), H', ⟨Nat.le_refl _⟩, ⟨by repeat (first | (with_reducible first | exact HB.out | apply below_alloc | apply pw_below_drewN | apply below_drew1) | exact HB.out)⟩⟩
    case round =>
      clear H'
      try clear c2
      try clear c2b0
      try clear c2b1
      try clear p2
      obtain ⟨x3_1, x18_1, rfl, rfl, HA, HK1, HB⟩ := hrel
      cases gk with
      | zero => exact absurd HA.out (by simp [lamplighterlaw07_EscapeLonger.l0])
      | succ k1 =>
        have H := HA.out
        clear HA
        simp only [lamplighterlaw07_EscapeLonger.l0] at H
        by_cases c5 : x18_1 < (a0.size : Int)
        · rw [if_pos c5] at H
          have c5b0 : decide (x18_1 < (a0.size : Int)) = true := decide_eq_true c5
          clear c5
          by_cases c6 : 0 ≤ x18_1
          · rw [if_pos c6] at H
            have c6b0 : decide (0 ≤ x18_1) = true := decide_eq_true c6
            clear c6
            by_cases c7 : x18_1 < (a0.size : Int)
            · rw [if_pos c7] at H
              have c7b0 : decide (x18_1 < (a0.size : Int)) = true := decide_eq_true c7
              clear c7
              have HC9 := Aside0.mk H
              clear H
              have p8 : 0 ≤ (x18_1 : Int) := of_decide_eq_true (by first | (with_reducible assumption) | assumption)
              have q8 : x18_1 < (a0.size : Int) := of_decide_eq_true (by first | (with_reducible assumption) | assumption)
              have hx8 := bt_at a0 x18_1
              replace p8 := eq_true p8
              replace q8 := eq_true q8
              go_upto_if 24 with (fail)
              go_cut [24] (fun v24 wc => ∃ (kq : Nat) (x24_8 : Bool), v24 = .bool x24_8 ∧ Aside0 (lamplighterlaw07_EscapeLonger.j1 kq a0 x3_1 (a0.size : Int) x18_1 (bt a0 x18_1) x24_8 = some r) ∧ Aside0 (kq ≤ k1) ∧ Aside0 (Below w.heap.size w wc))
              case first =>
                have H := HC9.out
                clear HC9
                by_cases c10 : (bt a0 x18_1) = 124
                · rw [if_pos c10] at H
                  have c10b0 : ((bt a0 x18_1) == 124) = true := beq_iff_eq.mpr c10
                  have c10b1 : ((bt a0 x18_1) != 124) = false := bne_eq_false_iff_eq.mpr c10
                  clear c10
                  (first | rw [c10b0] | (simp only [i64_w, i32_w]; rw [c10b0]) | skip)
                  have H' := Aside0.mk H
                  clear H
                  go_wp2
                  go_meet
                  case rel => exact ⟨_, (((bt a0 x18_1) == 124)), (by first | rfl | (simp; done) | (simp [*]; done)), H', ⟨by have := HK1.out; first | omega | exact Nat.le_refl _⟩, ⟨by repeat (first | (with_reducible first | exact HB.out | apply below_alloc | apply pw_below_drewN | apply below_drew1) | exact HB.out)⟩⟩
                · rw [if_neg c10] at H
                  have c10b0 : ((bt a0 x18_1) == 124) = false := beq_eq_false_iff_ne.mpr c10
                  have c10b1 : ((bt a0 x18_1) != 124) = true := bne_iff_ne.mpr c10
                  (first | rw [c10b0] | (simp only [i64_w, i32_w]; rw [c10b0]) | skip)
                  by_cases c11 : (bt a0 x18_1) = 94
                  · rw [if_pos c11] at H
                    have c11b0 : ((bt a0 x18_1) == 94) = true := beq_iff_eq.mpr c11
                    have c11b1 : ((bt a0 x18_1) != 94) = false := bne_eq_false_iff_eq.mpr c11
                    clear c11
                    have H' := Aside0.mk H
                    clear H
                    go_wp2
                    go_meet
                    case rel => exact ⟨_, (((bt a0 x18_1) == 94)), (by first | rfl | (simp; done) | (simp [*]; done)), H', ⟨by have := HK1.out; first | omega | exact Nat.le_refl _⟩, ⟨by repeat (first | (with_reducible first | exact HB.out | apply below_alloc | apply pw_below_drewN | apply below_drew1) | exact HB.out)⟩⟩
                  · rw [if_neg c11] at H
                    have c11b0 : ((bt a0 x18_1) == 94) = false := beq_eq_false_iff_ne.mpr c11
                    have c11b1 : ((bt a0 x18_1) != 94) = true := bne_iff_ne.mpr c11
                    by_cases c12 : (bt a0 x18_1) = 126
                    · rw [if_pos c12] at H
                      have c12b0 : ((bt a0 x18_1) == 126) = true := beq_iff_eq.mpr c12
                      have c12b1 : ((bt a0 x18_1) != 126) = false := bne_eq_false_iff_eq.mpr c12
                      clear c12
                      have H' := Aside0.mk H
                      clear H
                      go_wp2
                      go_meet
                      case rel => exact ⟨_, (((bt a0 x18_1) == 126)), (by first | rfl | (simp; done) | (simp [*]; done)), H', ⟨by have := HK1.out; first | omega | exact Nat.le_refl _⟩, ⟨by repeat (first | (with_reducible first | exact HB.out | apply below_alloc | apply pw_below_drewN | apply below_drew1) | exact HB.out)⟩⟩
                    · rw [if_neg c12] at H
                      have c12b0 : ((bt a0 x18_1) == 126) = false := beq_eq_false_iff_ne.mpr c12
                      have c12b1 : ((bt a0 x18_1) != 126) = true := bne_iff_ne.mpr c12
                      by_cases c13 : (bt a0 x18_1) = 92
                      · rw [if_pos c13] at H
                        have c13b0 : ((bt a0 x18_1) == 92) = true := beq_iff_eq.mpr c13
                        have c13b1 : ((bt a0 x18_1) != 92) = false := bne_eq_false_iff_eq.mpr c13
                        clear c13
                        have H' := Aside0.mk H
                        clear H
                        go_wp2
                        go_meet
                        case rel => exact ⟨_, (((bt a0 x18_1) == 92)), (by first | rfl | (simp; done) | (simp [*]; done)), H', ⟨by have := HK1.out; first | omega | exact Nat.le_refl _⟩, ⟨by repeat (first | (with_reducible first | exact HB.out | apply below_alloc | apply pw_below_drewN | apply below_drew1) | exact HB.out)⟩⟩
                      · rw [if_neg c13] at H
                        have c13b0 : ((bt a0 x18_1) == 92) = false := beq_eq_false_iff_ne.mpr c13
                        have c13b1 : ((bt a0 x18_1) != 92) = true := bne_iff_ne.mpr c13
                        have H' := Aside0.mk H
                        clear H
                        go_wp2
                        go_meet
                        case rel => exact ⟨_, (((bt a0 x18_1) == 38)), (by first | rfl | (simp; done) | (simp [*]; done)), H', ⟨by have := HK1.out; first | omega | exact Nat.le_refl _⟩, ⟨by repeat (first | (with_reducible first | exact HB.out | apply below_alloc | apply pw_below_drewN | apply below_drew1) | exact HB.out)⟩⟩
              case rest =>
                clear HC9
                try clear c1
                try clear c2
                try clear c2b0
                try clear c2b1
                try clear p2
                try clear c5
                try clear c5b0
                try clear c6
                try clear c6b0
                try clear c7
                try clear c7b0
                try clear p8
                try clear q8
                try clear hx8
                try clear c9
                try clear c10
                try clear c10b0
                try clear c10b1
                try clear c11
                try clear c11b0
                try clear c11b1
                try clear c12
                try clear c12b0
                try clear c12b1
                try clear c13
                try clear c13b0
                try clear c13b1
                try clear p2
                try clear p8
                try clear q8
                obtain ⟨kq, x24_8, rfl, HA, HJ8, HB⟩ := hcut
                cases kq with
                | zero => exact absurd HA.out (by simp [lamplighterlaw07_EscapeLonger.j1])
                | succ kj8 =>
                  have H := HA.out
                  clear HA
                  simp only [lamplighterlaw07_EscapeLonger.j1] at H
                  by_cases c14 : x24_8 = true
                  · subst c14
                    have H1 : (lamplighterlaw07_EscapeLonger.l0 kj8 a0 (wrap64 (x3_1 + 2)) (a0.size : Int) (wrap64 (x18_1 + 1))) = some r := by rw [if_pos rfl] at H; exact H
                    clear H
                    have H := H1
                    clear H1
                    have H' := Aside0.mk H
                    clear H
                    go_wp2
                    go_roundg kj8
                    case measure => have := HK1.out; have := HJ8.out; omega
                    case rel => exact ⟨(wrap64 (x3_1 + 2)), (wrap64 (x18_1 + 1)), (by first | rfl | (simp; done) | (simp [*]; done)), (by first | rfl | (simp; done) | (simp [*]; done)), H', ⟨by have := HK1.out; have := HJ8.out; omega⟩, ⟨by repeat (first | (with_reducible first | exact HB.out | apply below_alloc | apply pw_below_drewN | apply below_drew1) | exact HB.out)⟩⟩
                  · replace c14 := Bool.eq_false_iff.mpr c14
                    subst c14
                    have H1 : (if (bt a0 x18_1) = 11 then (lamplighterlaw07_EscapeLonger.l0 kj8 a0 (wrap64 (x3_1 + 4)) (a0.size : Int) (wrap64 (x18_1 + 1))) else (if (bt a0 x18_1) = 13 then (lamplighterlaw07_EscapeLonger.l0 kj8 a0 (wrap64 (x3_1 + 4)) (a0.size : Int) (wrap64 (x18_1 + 1))) else (if (bt a0 x18_1) = 28 then (lamplighterlaw07_EscapeLonger.l0 kj8 a0 (wrap64 (x3_1 + 4)) (a0.size : Int) (wrap64 (x18_1 + 1))) else (lamplighterlaw07_EscapeLonger.l0 kj8 a0 x3_1 (a0.size : Int) (wrap64 (x18_1 + 1)))))) = some r := by rw [if_neg (show ¬ (false = true) by decide)] at H; exact H
                    clear H
                    have H := H1
                    clear H1
                    by_cases c15 : (bt a0 x18_1) = 11
                    · rw [if_pos c15] at H
                      have c15b0 : ((bt a0 x18_1) == 11) = true := beq_iff_eq.mpr c15
                      have c15b1 : ((bt a0 x18_1) != 11) = false := bne_eq_false_iff_eq.mpr c15
                      clear c15
                      have H' := Aside0.mk H
                      clear H
                      go_wp2
                      go_roundg kj8
                      case measure => have := HK1.out; have := HJ8.out; omega
                      case rel => exact ⟨(wrap64 (x3_1 + 4)), (wrap64 (x18_1 + 1)), (by first | rfl | (simp; done) | (simp [*]; done)), (by first | rfl | (simp; done) | (simp [*]; done)), H', ⟨by have := HK1.out; have := HJ8.out; omega⟩, ⟨by repeat (first | (with_reducible first | exact HB.out | apply below_alloc | apply pw_below_drewN | apply below_drew1) | exact HB.out)⟩⟩
                    · rw [if_neg c15] at H
                      have c15b0 : ((bt a0 x18_1) == 11) = false := beq_eq_false_iff_ne.mpr c15
                      have c15b1 : ((bt a0 x18_1) != 11) = true := bne_iff_ne.mpr c15
                      by_cases c16 : (bt a0 x18_1) = 13
                      · rw [if_pos c16] at H
                        have c16b0 : ((bt a0 x18_1) == 13) = true := beq_iff_eq.mpr c16
                        have c16b1 : ((bt a0 x18_1) != 13) = false := bne_eq_false_iff_eq.mpr c16
                        clear c16
                        have H' := Aside0.mk H
                        clear H
                        go_wp2
                        go_roundg kj8
                        case measure => have := HK1.out; have := HJ8.out; omega
                        case rel => exact ⟨(wrap64 (x3_1 + 4)), (wrap64 (x18_1 + 1)), (by first | rfl | (simp; done) | (simp [*]; done)), (by first | rfl | (simp; done) | (simp [*]; done)), H', ⟨by have := HK1.out; have := HJ8.out; omega⟩, ⟨by repeat (first | (with_reducible first | exact HB.out | apply below_alloc | apply pw_below_drewN | apply below_drew1) | exact HB.out)⟩⟩
                      · rw [if_neg c16] at H
                        have c16b0 : ((bt a0 x18_1) == 13) = false := beq_eq_false_iff_ne.mpr c16
                        have c16b1 : ((bt a0 x18_1) != 13) = true := bne_iff_ne.mpr c16
                        by_cases c17 : (bt a0 x18_1) = 28
                        · rw [if_pos c17] at H
                          have c17b0 : ((bt a0 x18_1) == 28) = true := beq_iff_eq.mpr c17
                          have c17b1 : ((bt a0 x18_1) != 28) = false := bne_eq_false_iff_eq.mpr c17
                          clear c17
                          have H' := Aside0.mk H
                          clear H
                          go_wp2
                          go_roundg kj8
                          case measure => have := HK1.out; have := HJ8.out; omega
                          case rel => exact ⟨(wrap64 (x3_1 + 4)), (wrap64 (x18_1 + 1)), (by first | rfl | (simp; done) | (simp [*]; done)), (by first | rfl | (simp; done) | (simp [*]; done)), H', ⟨by have := HK1.out; have := HJ8.out; omega⟩, ⟨by repeat (first | (with_reducible first | exact HB.out | apply below_alloc | apply pw_below_drewN | apply below_drew1) | exact HB.out)⟩⟩
                        · rw [if_neg c17] at H
                          have c17b0 : ((bt a0 x18_1) == 28) = false := beq_eq_false_iff_ne.mpr c17
                          have c17b1 : ((bt a0 x18_1) != 28) = true := bne_iff_ne.mpr c17
                          have H' := Aside0.mk H
                          clear H
                          go_wp2
                          go_roundg kj8
                          case measure => have := HK1.out; have := HJ8.out; omega
                          case rel => exact ⟨(x3_1), (wrap64 (x18_1 + 1)), (by first | rfl | (simp; done) | (simp [*]; done)), (by first | rfl | (simp; done) | (simp [*]; done)), H', ⟨by have := HK1.out; have := HJ8.out; omega⟩, ⟨by repeat (first | (with_reducible first | exact HB.out | apply below_alloc | apply pw_below_drewN | apply below_drew1) | exact HB.out)⟩⟩
            · rw [if_neg c7] at H
              exact absurd H (by simp)
          · rw [if_neg c6] at H
            exact absurd H (by simp)
        · rw [if_neg c5] at H
          have c5b0 : decide (x18_1 < (a0.size : Int)) = false := decide_eq_false c5
          clear c5
          replace H := Option.bind_eq_some_iff.mp H
          obtain ⟨⟨t356, t357, t358, t359, t360⟩, A180, H⟩ := H
          replace H : ((escape_Encode.f a0 t356 t357 t358 t359 t360).bind fun bt361 => ((lamplighterlaw07_plain.f).bind fun bt363 => ((escape_Decode.f a0 bt363.1 bt363.2.1 bt363.2.2.1 bt363.2.2.2.1 bt363.2.2.2.2).bind fun bt368 => ((lamplighterlaw07_alive.f).bind fun t371 => (if t371 = true then (if bt361.2 = 0 then (if (bt361.1.size : Int) = x3_1 then (if (bt368.1.size : Int) ≤ (a0.size : Int) then (if bt368.2.2 = 0 then (if bt368.2.1 = (a0.size : Int) then (some true) else (if bt368.2.2 = 10 then (if bt368.1.toList = ([] : List UInt8) then (if bt368.2.1 < (a0.size : Int) then (if 0 ≤ bt368.2.1 then (some ((bt a0 bt368.2.1) == 92)) else (none)) else (some false)) else (some false)) else (some false))) else (if bt368.2.2 = 10 then (if bt368.1.toList = ([] : List UInt8) then (if bt368.2.1 < (a0.size : Int) then (if 0 ≤ bt368.2.1 then (some ((bt a0 bt368.2.1) == 92)) else (none)) else (some false)) else (some false)) else (some false))) else (some false)) else (some false)) else (some false)) else (some false)))))) = some r := H
          have A18 := Aside0.mk A180
          clear A180
          replace H := Option.bind_eq_some_iff.mp H
          obtain ⟨⟨t361, t362⟩, A190, H⟩ := H
          replace H : ((lamplighterlaw07_plain.f).bind fun bt363 => ((escape_Decode.f a0 bt363.1 bt363.2.1 bt363.2.2.1 bt363.2.2.2.1 bt363.2.2.2.2).bind fun bt368 => ((lamplighterlaw07_alive.f).bind fun t371 => (if t371 = true then (if t362 = 0 then (if (t361.size : Int) = x3_1 then (if (bt368.1.size : Int) ≤ (a0.size : Int) then (if bt368.2.2 = 0 then (if bt368.2.1 = (a0.size : Int) then (some true) else (if bt368.2.2 = 10 then (if bt368.1.toList = ([] : List UInt8) then (if bt368.2.1 < (a0.size : Int) then (if 0 ≤ bt368.2.1 then (some ((bt a0 bt368.2.1) == 92)) else (none)) else (some false)) else (some false)) else (some false))) else (if bt368.2.2 = 10 then (if bt368.1.toList = ([] : List UInt8) then (if bt368.2.1 < (a0.size : Int) then (if 0 ≤ bt368.2.1 then (some ((bt a0 bt368.2.1) == 92)) else (none)) else (some false)) else (some false)) else (some false))) else (some false)) else (some false)) else (some false)) else (some false))))) = some r := H
          have A19 := Aside0.mk A190
          clear A190
          replace H := Option.bind_eq_some_iff.mp H
          obtain ⟨⟨t363, t364, t365, t366, t367⟩, A200, H⟩ := H
          replace H : ((escape_Decode.f a0 t363 t364 t365 t366 t367).bind fun bt368 => ((lamplighterlaw07_alive.f).bind fun t371 => (if t371 = true then (if t362 = 0 then (if (t361.size : Int) = x3_1 then (if (bt368.1.size : Int) ≤ (a0.size : Int) then (if bt368.2.2 = 0 then (if bt368.2.1 = (a0.size : Int) then (some true) else (if bt368.2.2 = 10 then (if bt368.1.toList = ([] : List UInt8) then (if bt368.2.1 < (a0.size : Int) then (if 0 ≤ bt368.2.1 then (some ((bt a0 bt368.2.1) == 92)) else (none)) else (some false)) else (some false)) else (some false))) else (if bt368.2.2 = 10 then (if bt368.1.toList = ([] : List UInt8) then (if bt368.2.1 < (a0.size : Int) then (if 0 ≤ bt368.2.1 then (some ((bt a0 bt368.2.1) == 92)) else (none)) else (some false)) else (some false)) else (some false))) else (some false)) else (some false)) else (some false)) else (some false)))) = some r := H
          have A20 := Aside0.mk A200
          clear A200
          replace H := Option.bind_eq_some_iff.mp H
          obtain ⟨⟨t368, t369, t370⟩, A210, H⟩ := H
          replace H : ((lamplighterlaw07_alive.f).bind fun t371 => (if t371 = true then (if t362 = 0 then (if (t361.size : Int) = x3_1 then (if (t368.size : Int) ≤ (a0.size : Int) then (if t370 = 0 then (if t369 = (a0.size : Int) then (some true) else (if t370 = 10 then (if t368.toList = ([] : List UInt8) then (if t369 < (a0.size : Int) then (if 0 ≤ t369 then (some ((bt a0 t369) == 92)) else (none)) else (some false)) else (some false)) else (some false))) else (if t370 = 10 then (if t368.toList = ([] : List UInt8) then (if t369 < (a0.size : Int) then (if 0 ≤ t369 then (some ((bt a0 t369) == 92)) else (none)) else (some false)) else (some false)) else (some false))) else (some false)) else (some false)) else (some false)) else (some false))) = some r := H
          have A21 := Aside0.mk A210
          clear A210
          replace H := Option.bind_eq_some_iff.mp H
          obtain ⟨t371, A220, H⟩ := H
          replace H : (if t371 = true then (if t362 = 0 then (if (t361.size : Int) = x3_1 then (if (t368.size : Int) ≤ (a0.size : Int) then (if t370 = 0 then (if t369 = (a0.size : Int) then (some true) else (if t370 = 10 then (if t368.toList = ([] : List UInt8) then (if t369 < (a0.size : Int) then (if 0 ≤ t369 then (some ((bt a0 t369) == 92)) else (none)) else (some false)) else (some false)) else (some false))) else (if t370 = 10 then (if t368.toList = ([] : List UInt8) then (if t369 < (a0.size : Int) then (if 0 ≤ t369 then (some ((bt a0 t369) == 92)) else (none)) else (some false)) else (some false)) else (some false))) else (some false)) else (some false)) else (some false)) else (some false)) = some r := H
          have A22 := Aside0.mk A220
          clear A220
          by_cases c23 : t371 = true
          · subst c23
            have H1 : (if t362 = 0 then (if (t361.size : Int) = x3_1 then (if (t368.size : Int) ≤ (a0.size : Int) then (if t370 = 0 then (if t369 = (a0.size : Int) then (some true) else (if t370 = 10 then (if t368.toList = ([] : List UInt8) then (if t369 < (a0.size : Int) then (if 0 ≤ t369 then (some ((bt a0 t369) == 92)) else (none)) else (some false)) else (some false)) else (some false))) else (if t370 = 10 then (if t368.toList = ([] : List UInt8) then (if t369 < (a0.size : Int) then (if 0 ≤ t369 then (some ((bt a0 t369) == 92)) else (none)) else (some false)) else (some false)) else (some false))) else (some false)) else (some false)) else (some false)) = some r := by rw [if_pos rfl] at H; exact H
            clear H
            have H := H1
            clear H1
            by_cases c24 : t362 = 0
            · rw [if_pos c24] at H
              have c24b0 : (t362 == 0) = true := beq_iff_eq.mpr c24
              have c24b1 : (t362 != 0) = false := bne_eq_false_iff_eq.mpr c24
              clear c24
              by_cases c25 : (t361.size : Int) = x3_1
              · rw [if_pos c25] at H
                have c25b0 : ((t361.size : Int) == x3_1) = true := beq_iff_eq.mpr c25
                have c25b1 : ((t361.size : Int) != x3_1) = false := bne_eq_false_iff_eq.mpr c25
                clear c25
                by_cases c26 : (t368.size : Int) ≤ (a0.size : Int)
                · rw [if_pos c26] at H
                  have c26b0 : decide ((t368.size : Int) ≤ (a0.size : Int)) = true := decide_eq_true c26
                  have c26b1 : decide (t368.size ≤ a0.size) = true := decide_eq_true (Int.ofNat_le.mp c26)
                  clear c26
                  by_cases c27 : t370 = 0
                  · rw [if_pos c27] at H
                    have c27b0 : (t370 == 0) = true := beq_iff_eq.mpr c27
                    have c27b1 : (t370 != 0) = false := bne_eq_false_iff_eq.mpr c27
                    clear c27
                    by_cases c28 : t369 = (a0.size : Int)
                    · rw [if_pos c28] at H
                      have c28b0 : (t369 == (a0.size : Int)) = true := beq_iff_eq.mpr c28
                      have c28b1 : (t369 != (a0.size : Int)) = false := bne_eq_false_iff_eq.mpr c28
                      clear c28
                      obtain rfl := Option.some.inj H
                      clear hrt
                      go_wp2_with (first | ((with_reducible refine gate_callee (f := 13) rfl ?_); refine goesL_ (some 41) rfl rfl Tryd.func13 (by kernel_rfl) rfl #[] rfl (by (try simp only [List.map_toArray, List.map_cons, List.map_nil]); first | done | rfl | (simp only [List.length_drop, List.length_take]; rfl)) ?_; (with_reducible refine (lamplighterlaw07_plain.calls  t356 t357 t358 t359 t360 _ A18.out).mono ?_); rintro e w29 ⟨rfl, hb⟩; refine ⟨_, rfl, ?_⟩; have n0_ := Aside0.mk (below_step (by repeat (first | (with_reducible first | exact HB.out | apply below_alloc | apply pw_below_drewN | apply below_drew1) | exact HB.out)) hb); clear HB; have HB := n0_; clear n0_; (try clear hb); (try clear hb2); (try clear hk); (try clear hi)) | ((with_reducible refine gate_callee (f := 10) rfl ?_); refine goesL_ (some 42) rfl rfl Tryd.func10 (by kernel_rfl) rfl #[.string a0, .agg #[.int .u8 t356, .int .u8 t357, .int .u8 t358, .int .u8 t359, .int .u8 t360]] rfl (by (try simp only [List.map_toArray, List.map_cons, List.map_nil]); first | done | rfl | (simp only [List.length_drop, List.length_take]; rfl)) ?_; (with_reducible refine (escape_Encode.calls a0 t356 t357 t358 t359 t360 t361 t362 _ A19.out).mono ?_); rintro e w30 ⟨rfl, hb⟩; refine ⟨_, rfl, ?_⟩; have n0_ := Aside0.mk (below_step (by repeat (first | (with_reducible first | exact HB.out | apply below_alloc | apply pw_below_drewN | apply below_drew1) | exact HB.out)) hb); clear HB; have HB := n0_; clear n0_; (try clear hb); (try clear hb2); (try clear hk); (try clear hi)) | ((with_reducible refine gate_callee (f := 13) rfl ?_); refine goesL_ (some 47) rfl rfl Tryd.func13 (by kernel_rfl) rfl #[] rfl (by (try simp only [List.map_toArray, List.map_cons, List.map_nil]); first | done | rfl | (simp only [List.length_drop, List.length_take]; rfl)) ?_; (with_reducible refine (lamplighterlaw07_plain.calls  t363 t364 t365 t366 t367 _ A20.out).mono ?_); rintro e w31 ⟨rfl, hb⟩; refine ⟨_, rfl, ?_⟩; have n0_ := Aside0.mk (below_step (by repeat (first | (with_reducible first | exact HB.out | apply below_alloc | apply pw_below_drewN | apply below_drew1) | exact HB.out)) hb); clear HB; have HB := n0_; clear n0_; (try clear hb); (try clear hb2); (try clear hk); (try clear hi)) | ((with_reducible refine gate_callee (f := 11) rfl ?_); refine goesL_ (some 48) rfl rfl Tryd.func11 (by kernel_rfl) rfl #[.string a0, .agg #[.int .u8 t363, .int .u8 t364, .int .u8 t365, .int .u8 t366, .int .u8 t367]] rfl (by (try simp only [List.map_toArray, List.map_cons, List.map_nil]); first | done | rfl | (simp only [List.length_drop, List.length_take]; rfl)) ?_; (with_reducible refine (escape_Decode.calls a0 t363 t364 t365 t366 t367 t368 t369 t370 _ A21.out).mono ?_); rintro e w32 ⟨rfl, hb⟩; refine ⟨_, rfl, ?_⟩; have n0_ := Aside0.mk (below_step (by repeat (first | (with_reducible first | exact HB.out | apply below_alloc | apply pw_below_drewN | apply below_drew1) | exact HB.out)) hb); clear HB; have HB := n0_; clear n0_; (try clear hb); (try clear hb2); (try clear hk); (try clear hi)) | ((with_reducible refine gate_callee (f := 9) rfl ?_); refine goesL_ (some 52) rfl rfl Tryd.func9 (by kernel_rfl) rfl #[] rfl (by (try simp only [List.map_toArray, List.map_cons, List.map_nil]); first | done | rfl | (simp only [List.length_drop, List.length_take]; rfl)) ?_; (with_reducible refine (lamplighterlaw07_alive.calls  true _ A22.out).mono ?_); rintro e w33 ⟨rfl, hb⟩; refine ⟨_, rfl, ?_⟩; have n0_ := Aside0.mk (below_step (by repeat (first | (with_reducible first | exact HB.out | apply below_alloc | apply pw_below_drewN | apply below_drew1) | exact HB.out)) hb); clear HB; have HB := n0_; clear n0_; (try clear hb); (try clear hb2); (try clear hk); (try clear hi)))
                      go_ret
                      exact ⟨by first | rfl | (simp [errW_none, errW_some] <;> rfl) | (simp [*, errW_none, errW_some] <;> rfl), by repeat (first | (with_reducible first | exact HB.out | apply below_alloc | apply pw_below_drewN | apply below_drew1) | exact HB.out)⟩
                    · rw [if_neg c28] at H
                      have c28b0 : (t369 == (a0.size : Int)) = false := beq_eq_false_iff_ne.mpr c28
                      have c28b1 : (t369 != (a0.size : Int)) = true := bne_iff_ne.mpr c28
                      by_cases c34 : t370 = 10
                      · rw [if_pos c34] at H
                        have c34b0 : (t370 == 10) = true := beq_iff_eq.mpr c34
                        have c34b1 : (t370 != 10) = false := bne_eq_false_iff_eq.mpr c34
                        clear c34
                        by_cases c35 : t368.toList = ([] : List UInt8)
                        · rw [if_pos c35] at H
                          have c35b0 : (t368.toList == ([] : List UInt8)) = true := beq_iff_eq.mpr c35
                          have c35b1 : (t368.toList != ([] : List UInt8)) = false := bne_eq_false_iff_eq.mpr c35
                          clear c35
                          by_cases c36 : t369 < (a0.size : Int)
                          · rw [if_pos c36] at H
                            have c36b0 : decide (t369 < (a0.size : Int)) = true := decide_eq_true c36
                            clear c36
                            by_cases c37 : 0 ≤ t369
                            · rw [if_pos c37] at H
                              have c37b0 : decide (0 ≤ t369) = true := decide_eq_true c37
                              clear c37
                              obtain rfl := Option.some.inj H
                              clear hrt
                              go_wp2_with (first | ((with_reducible refine gate_callee (f := 13) rfl ?_); refine goesL_ (some 41) rfl rfl Tryd.func13 (by kernel_rfl) rfl #[] rfl (by (try simp only [List.map_toArray, List.map_cons, List.map_nil]); first | done | rfl | (simp only [List.length_drop, List.length_take]; rfl)) ?_; (with_reducible refine (lamplighterlaw07_plain.calls  t356 t357 t358 t359 t360 _ A18.out).mono ?_); rintro e w39 ⟨rfl, hb⟩; refine ⟨_, rfl, ?_⟩; have n0_ := Aside0.mk (below_step (by repeat (first | (with_reducible first | exact HB.out | apply below_alloc | apply pw_below_drewN | apply below_drew1) | exact HB.out)) hb); clear HB; have HB := n0_; clear n0_; (try clear hb); (try clear hb2); (try clear hk); (try clear hi)) | ((with_reducible refine gate_callee (f := 10) rfl ?_); refine goesL_ (some 42) rfl rfl Tryd.func10 (by kernel_rfl) rfl #[.string a0, .agg #[.int .u8 t356, .int .u8 t357, .int .u8 t358, .int .u8 t359, .int .u8 t360]] rfl (by (try simp only [List.map_toArray, List.map_cons, List.map_nil]); first | done | rfl | (simp only [List.length_drop, List.length_take]; rfl)) ?_; (with_reducible refine (escape_Encode.calls a0 t356 t357 t358 t359 t360 t361 t362 _ A19.out).mono ?_); rintro e w40 ⟨rfl, hb⟩; refine ⟨_, rfl, ?_⟩; have n0_ := Aside0.mk (below_step (by repeat (first | (with_reducible first | exact HB.out | apply below_alloc | apply pw_below_drewN | apply below_drew1) | exact HB.out)) hb); clear HB; have HB := n0_; clear n0_; (try clear hb); (try clear hb2); (try clear hk); (try clear hi)) | ((with_reducible refine gate_callee (f := 13) rfl ?_); refine goesL_ (some 47) rfl rfl Tryd.func13 (by kernel_rfl) rfl #[] rfl (by (try simp only [List.map_toArray, List.map_cons, List.map_nil]); first | done | rfl | (simp only [List.length_drop, List.length_take]; rfl)) ?_; (with_reducible refine (lamplighterlaw07_plain.calls  t363 t364 t365 t366 t367 _ A20.out).mono ?_); rintro e w41 ⟨rfl, hb⟩; refine ⟨_, rfl, ?_⟩; have n0_ := Aside0.mk (below_step (by repeat (first | (with_reducible first | exact HB.out | apply below_alloc | apply pw_below_drewN | apply below_drew1) | exact HB.out)) hb); clear HB; have HB := n0_; clear n0_; (try clear hb); (try clear hb2); (try clear hk); (try clear hi)) | ((with_reducible refine gate_callee (f := 11) rfl ?_); refine goesL_ (some 48) rfl rfl Tryd.func11 (by kernel_rfl) rfl #[.string a0, .agg #[.int .u8 t363, .int .u8 t364, .int .u8 t365, .int .u8 t366, .int .u8 t367]] rfl (by (try simp only [List.map_toArray, List.map_cons, List.map_nil]); first | done | rfl | (simp only [List.length_drop, List.length_take]; rfl)) ?_; (with_reducible refine (escape_Decode.calls a0 t363 t364 t365 t366 t367 t368 t369 t370 _ A21.out).mono ?_); rintro e w42 ⟨rfl, hb⟩; refine ⟨_, rfl, ?_⟩; have n0_ := Aside0.mk (below_step (by repeat (first | (with_reducible first | exact HB.out | apply below_alloc | apply pw_below_drewN | apply below_drew1) | exact HB.out)) hb); clear HB; have HB := n0_; clear n0_; (try clear hb); (try clear hb2); (try clear hk); (try clear hi)) | ((with_reducible refine gate_callee (f := 9) rfl ?_); refine goesL_ (some 52) rfl rfl Tryd.func9 (by kernel_rfl) rfl #[] rfl (by (try simp only [List.map_toArray, List.map_cons, List.map_nil]); first | done | rfl | (simp only [List.length_drop, List.length_take]; rfl)) ?_; (with_reducible refine (lamplighterlaw07_alive.calls  true _ A22.out).mono ?_); rintro e w43 ⟨rfl, hb⟩; refine ⟨_, rfl, ?_⟩; have n0_ := Aside0.mk (below_step (by repeat (first | (with_reducible first | exact HB.out | apply below_alloc | apply pw_below_drewN | apply below_drew1) | exact HB.out)) hb); clear HB; have HB := n0_; clear n0_; (try clear hb); (try clear hb2); (try clear hk); (try clear hi); have p38 : 0 ≤ (t369 : Int) := of_decide_eq_true (by first | (with_reducible assumption) | assumption); have q38 : t369 < (a0.size : Int) := of_decide_eq_true (by first | (with_reducible assumption) | assumption); have hx38 := bt_at a0 t369; replace p38 := eq_true p38; replace q38 := eq_true q38))
                              go_ret
                              exact ⟨by first | rfl | (simp [errW_none, errW_some] <;> rfl) | (simp [*, errW_none, errW_some] <;> rfl), by repeat (first | (with_reducible first | exact HB.out | apply below_alloc | apply pw_below_drewN | apply below_drew1) | exact HB.out)⟩
                            · rw [if_neg c37] at H
                              exact absurd H (by simp)
                          · rw [if_neg c36] at H
                            have c36b0 : decide (t369 < (a0.size : Int)) = false := decide_eq_false c36
                            clear c36
                            obtain rfl := Option.some.inj H
                            cases hrt
                        · rw [if_neg c35] at H
                          have c35b0 : (t368.toList == ([] : List UInt8)) = false := beq_eq_false_iff_ne.mpr c35
                          have c35b1 : (t368.toList != ([] : List UInt8)) = true := bne_iff_ne.mpr c35
                          obtain rfl := Option.some.inj H
                          cases hrt
                      · rw [if_neg c34] at H
                        have c34b0 : (t370 == 10) = false := beq_eq_false_iff_ne.mpr c34
                        have c34b1 : (t370 != 10) = true := bne_iff_ne.mpr c34
                        obtain rfl := Option.some.inj H
                        cases hrt
                  · rw [if_neg c27] at H
                    have c27b0 : (t370 == 0) = false := beq_eq_false_iff_ne.mpr c27
                    have c27b1 : (t370 != 0) = true := bne_iff_ne.mpr c27
                    by_cases c59 : t370 = 10
                    · rw [if_pos c59] at H
                      have c59b0 : (t370 == 10) = true := beq_iff_eq.mpr c59
                      have c59b1 : (t370 != 10) = false := bne_eq_false_iff_eq.mpr c59
                      clear c59
                      by_cases c60 : t368.toList = ([] : List UInt8)
                      · rw [if_pos c60] at H
                        have c60b0 : (t368.toList == ([] : List UInt8)) = true := beq_iff_eq.mpr c60
                        have c60b1 : (t368.toList != ([] : List UInt8)) = false := bne_eq_false_iff_eq.mpr c60
                        clear c60
                        by_cases c61 : t369 < (a0.size : Int)
                        · rw [if_pos c61] at H
                          have c61b0 : decide (t369 < (a0.size : Int)) = true := decide_eq_true c61
                          clear c61
                          by_cases c62 : 0 ≤ t369
                          · rw [if_pos c62] at H
                            have c62b0 : decide (0 ≤ t369) = true := decide_eq_true c62
                            clear c62
                            obtain rfl := Option.some.inj H
                            clear hrt
                            go_wp2_with (first | ((with_reducible refine gate_callee (f := 13) rfl ?_); refine goesL_ (some 41) rfl rfl Tryd.func13 (by kernel_rfl) rfl #[] rfl (by (try simp only [List.map_toArray, List.map_cons, List.map_nil]); first | done | rfl | (simp only [List.length_drop, List.length_take]; rfl)) ?_; (with_reducible refine (lamplighterlaw07_plain.calls  t356 t357 t358 t359 t360 _ A18.out).mono ?_); rintro e w64 ⟨rfl, hb⟩; refine ⟨_, rfl, ?_⟩; have n0_ := Aside0.mk (below_step (by repeat (first | (with_reducible first | exact HB.out | apply below_alloc | apply pw_below_drewN | apply below_drew1) | exact HB.out)) hb); clear HB; have HB := n0_; clear n0_; (try clear hb); (try clear hb2); (try clear hk); (try clear hi)) | ((with_reducible refine gate_callee (f := 10) rfl ?_); refine goesL_ (some 42) rfl rfl Tryd.func10 (by kernel_rfl) rfl #[.string a0, .agg #[.int .u8 t356, .int .u8 t357, .int .u8 t358, .int .u8 t359, .int .u8 t360]] rfl (by (try simp only [List.map_toArray, List.map_cons, List.map_nil]); first | done | rfl | (simp only [List.length_drop, List.length_take]; rfl)) ?_; (with_reducible refine (escape_Encode.calls a0 t356 t357 t358 t359 t360 t361 t362 _ A19.out).mono ?_); rintro e w65 ⟨rfl, hb⟩; refine ⟨_, rfl, ?_⟩; have n0_ := Aside0.mk (below_step (by repeat (first | (with_reducible first | exact HB.out | apply below_alloc | apply pw_below_drewN | apply below_drew1) | exact HB.out)) hb); clear HB; have HB := n0_; clear n0_; (try clear hb); (try clear hb2); (try clear hk); (try clear hi)) | ((with_reducible refine gate_callee (f := 13) rfl ?_); refine goesL_ (some 47) rfl rfl Tryd.func13 (by kernel_rfl) rfl #[] rfl (by (try simp only [List.map_toArray, List.map_cons, List.map_nil]); first | done | rfl | (simp only [List.length_drop, List.length_take]; rfl)) ?_; (with_reducible refine (lamplighterlaw07_plain.calls  t363 t364 t365 t366 t367 _ A20.out).mono ?_); rintro e w66 ⟨rfl, hb⟩; refine ⟨_, rfl, ?_⟩; have n0_ := Aside0.mk (below_step (by repeat (first | (with_reducible first | exact HB.out | apply below_alloc | apply pw_below_drewN | apply below_drew1) | exact HB.out)) hb); clear HB; have HB := n0_; clear n0_; (try clear hb); (try clear hb2); (try clear hk); (try clear hi)) | ((with_reducible refine gate_callee (f := 11) rfl ?_); refine goesL_ (some 48) rfl rfl Tryd.func11 (by kernel_rfl) rfl #[.string a0, .agg #[.int .u8 t363, .int .u8 t364, .int .u8 t365, .int .u8 t366, .int .u8 t367]] rfl (by (try simp only [List.map_toArray, List.map_cons, List.map_nil]); first | done | rfl | (simp only [List.length_drop, List.length_take]; rfl)) ?_; (with_reducible refine (escape_Decode.calls a0 t363 t364 t365 t366 t367 t368 t369 t370 _ A21.out).mono ?_); rintro e w67 ⟨rfl, hb⟩; refine ⟨_, rfl, ?_⟩; have n0_ := Aside0.mk (below_step (by repeat (first | (with_reducible first | exact HB.out | apply below_alloc | apply pw_below_drewN | apply below_drew1) | exact HB.out)) hb); clear HB; have HB := n0_; clear n0_; (try clear hb); (try clear hb2); (try clear hk); (try clear hi)) | ((with_reducible refine gate_callee (f := 9) rfl ?_); refine goesL_ (some 52) rfl rfl Tryd.func9 (by kernel_rfl) rfl #[] rfl (by (try simp only [List.map_toArray, List.map_cons, List.map_nil]); first | done | rfl | (simp only [List.length_drop, List.length_take]; rfl)) ?_; (with_reducible refine (lamplighterlaw07_alive.calls  true _ A22.out).mono ?_); rintro e w68 ⟨rfl, hb⟩; refine ⟨_, rfl, ?_⟩; have n0_ := Aside0.mk (below_step (by repeat (first | (with_reducible first | exact HB.out | apply below_alloc | apply pw_below_drewN | apply below_drew1) | exact HB.out)) hb); clear HB; have HB := n0_; clear n0_; (try clear hb); (try clear hb2); (try clear hk); (try clear hi); have p63 : 0 ≤ (t369 : Int) := of_decide_eq_true (by first | (with_reducible assumption) | assumption); have q63 : t369 < (a0.size : Int) := of_decide_eq_true (by first | (with_reducible assumption) | assumption); have hx63 := bt_at a0 t369; replace p63 := eq_true p63; replace q63 := eq_true q63))
                            go_ret
                            exact ⟨by first | rfl | (simp [errW_none, errW_some] <;> rfl) | (simp [*, errW_none, errW_some] <;> rfl), by repeat (first | (with_reducible first | exact HB.out | apply below_alloc | apply pw_below_drewN | apply below_drew1) | exact HB.out)⟩
                          · rw [if_neg c62] at H
                            exact absurd H (by simp)
                        · rw [if_neg c61] at H
                          have c61b0 : decide (t369 < (a0.size : Int)) = false := decide_eq_false c61
                          clear c61
                          obtain rfl := Option.some.inj H
                          cases hrt
                      · rw [if_neg c60] at H
                        have c60b0 : (t368.toList == ([] : List UInt8)) = false := beq_eq_false_iff_ne.mpr c60
                        have c60b1 : (t368.toList != ([] : List UInt8)) = true := bne_iff_ne.mpr c60
                        obtain rfl := Option.some.inj H
                        cases hrt
                    · rw [if_neg c59] at H
                      have c59b0 : (t370 == 10) = false := beq_eq_false_iff_ne.mpr c59
                      have c59b1 : (t370 != 10) = true := bne_iff_ne.mpr c59
                      obtain rfl := Option.some.inj H
                      cases hrt
                · rw [if_neg c26] at H
                  have c26b0 : decide ((t368.size : Int) ≤ (a0.size : Int)) = false := decide_eq_false c26
                  have c26b1 : decide (t368.size ≤ a0.size) = false := decide_eq_false (fun h => c26 (Int.ofNat_le.mpr h))
                  clear c26
                  obtain rfl := Option.some.inj H
                  cases hrt
              · rw [if_neg c25] at H
                have c25b0 : ((t361.size : Int) == x3_1) = false := beq_eq_false_iff_ne.mpr c25
                have c25b1 : ((t361.size : Int) != x3_1) = true := bne_iff_ne.mpr c25
                obtain rfl := Option.some.inj H
                cases hrt
            · rw [if_neg c24] at H
              have c24b0 : (t362 == 0) = false := beq_eq_false_iff_ne.mpr c24
              have c24b1 : (t362 != 0) = true := bne_iff_ne.mpr c24
              obtain rfl := Option.some.inj H
              cases hrt
          · replace c23 := Bool.eq_false_iff.mpr c23
            subst c23
            have H1 : (some false) = some r := by rw [if_neg (show ¬ (false = true) by decide)] at H; exact H
            clear H
            have H := H1
            clear H1
            obtain rfl := Option.some.inj H
            cases hrt

end Go.Proofs.YtokpkdmkdolmdaaDoor.PG
