/- Texts of this work merged in their order (a claim may hold 60 files): PIx2, TrBytes, GlobT, Fill, FillK, Cnt, Nest, ReadW, Cut1, OutW, LineW. No conditions of its own. -/
import Derived.Test.YtoloooammaiipaaDoorCB3
import Derived.Lib.RabinKarpLaws
import Derived.Test.YtoloooammaiipaaDoorRows
import Derived.Lib.LaidTab
import Derived.Lib.ItoaNum
import Derived.WalkKit
import Derived.ProofKit
import Derived.OpenShut
import Derived.Lib.SmallJoins
import Derived.Shelf.Strings.Count
import Derived.Test.YtoloooammaiipaaDoorProg
import Derived.WalkMore
import Derived.Deep.MidRow
import Derived.BigCall
-- Written by a program of this work (the kit's print, with contracts of this work's own taken in) out of the translation. Not trusted: Lean checks it.
namespace Go.Proofs.YtoloooammaiipaaDoor.PI
open Go.RowKit Go.Proofs.YtoloooammaiipaaDoorW.PrintWords Go.Proofs.YtoloooammaiipaaDoorW.PrintLast Go.Proofs.YtoloooammaiipaaDoorW.PrintMore
attribute [local go_sem] max2_int min2_int max_two min_two max_three min_three max_four min_four   -- for this text's walks alone
set_option linter.unusedVariables false
set_option linter.unusedSimpArgs false

/-! ### lamplighterref19_Bytes: function 13 -/
mutual
def lamplighterref19_Bytes.j0 : Nat → ByteArray → Bool → Option (List Int × Bool)
  | 0, _, _ => none
  | k + 1, x0, x17 => if x17 = true then (some (([] : List Int), false)) else (lamplighterref19_Bytes.l0 k x0 ([] : List Int) 0)
def lamplighterref19_Bytes.l0 : Nat → ByteArray → List Int → Int → Option (List Int × Bool)
  | 0, _, _, _ => none
  | k + 1, x0, x4, x5 => if x5 < (x0.size : Int) then (if 0 ≤ x5 then ((lamplighterref19_value.f k (bt x0 x5)).bind fun t149 => (if 0 ≤ (wrap64 (x5 + 1)) then (if (wrap64 (x5 + 1)) < (x0.size : Int) then ((lamplighterref19_value.f k (bt x0 (wrap64 (x5 + 1)))).bind fun t150 => (if t149 < 0 then (some (([] : List Int), false)) else (if t150 < 0 then (some (([] : List Int), false)) else (if x4.length < 140737488355328 then (lamplighterref19_Bytes.l0 k x0 (x4 ++ [(wrap64 ((wrap64 (16 * t149)) + t150)) % 256]) (wrap64 (x5 + 2))) else (none))))) else (none)) else (none))) else (none)) else (some (x4, true))
end
def lamplighterref19_Bytes.f (k : Nat) (a0 : ByteArray) : Option (List Int × Bool) := if a0.toList = ([45] : List UInt8) then (some (([] : List Int), true)) else (if a0.toList = ([] : List UInt8) then (lamplighterref19_Bytes.j0 k a0 true) else (lamplighterref19_Bytes.j0 k a0 (((a0.size : Int) % 2) != 0)))
theorem lamplighterref19_Bytes.mono_l : ∀ k, (∀ y0 y1, LeO (lamplighterref19_Bytes.j0 k y0 y1) (lamplighterref19_Bytes.j0 (k + 1) y0 y1)) ∧ (∀ y0 y1 y2, LeO (lamplighterref19_Bytes.l0 k y0 y1 y2) (lamplighterref19_Bytes.l0 (k + 1) y0 y1 y2))
  | 0 => ⟨fun _ _ r h => by simp [lamplighterref19_Bytes.j0] at h, fun _ _ _ r h => by simp [lamplighterref19_Bytes.l0] at h⟩
  | k + 1 => by
    obtain ⟨ih0, ih1⟩ := lamplighterref19_Bytes.mono_l k
    refine ⟨?_, ?_⟩
    · intro y0 y1
      unfold lamplighterref19_Bytes.j0
      repeat' first
      | (with_reducible exact ih0 _ _)
      | (with_reducible exact ih1 _ _ _)
      | (with_reducible exact lamplighterref19_value.mono _ _)
      | (with_reducible exact LeO.refl _)
      | (with_reducible exact LeO.none _)
      | (with_reducible refine LeO.ite ?_ ?_)
      | (with_reducible refine LeO.bind ?_ (fun _ => ?_))
      | exact ih0 _ _
      | exact ih1 _ _ _
      | exact lamplighterref19_value.mono _ _
      | exact LeO.none _
      | refine LeO.ite ?_ ?_
      | refine LeO.bind ?_ (fun _ => ?_)
    · intro y0 y1 y2
      unfold lamplighterref19_Bytes.l0
      repeat' first
      | (with_reducible exact ih0 _ _)
      | (with_reducible exact ih1 _ _ _)
      | (with_reducible exact lamplighterref19_value.mono _ _)
      | (with_reducible exact LeO.refl _)
      | (with_reducible exact LeO.none _)
      | (with_reducible refine LeO.ite ?_ ?_)
      | (with_reducible refine LeO.bind ?_ (fun _ => ?_))
      | exact ih0 _ _
      | exact ih1 _ _ _
      | exact lamplighterref19_value.mono _ _
      | exact LeO.none _
      | refine LeO.ite ?_ ?_
      | refine LeO.bind ?_ (fun _ => ?_)
theorem lamplighterref19_Bytes.mono : ∀ a0 k, LeO (lamplighterref19_Bytes.f k a0) (lamplighterref19_Bytes.f (k + 1) a0) := by
  intro a0 k
  obtain ⟨ih0, ih1⟩ := lamplighterref19_Bytes.mono_l k
  unfold lamplighterref19_Bytes.f
  repeat' first
      | (with_reducible exact ih0 _ _)
      | (with_reducible exact ih1 _ _ _)
      | (with_reducible exact lamplighterref19_value.mono _ _)
      | (with_reducible exact LeO.refl _)
      | (with_reducible exact LeO.none _)
      | (with_reducible refine LeO.ite ?_ ?_)
      | (with_reducible refine LeO.bind ?_ (fun _ => ?_))
      | exact ih0 _ _
      | exact ih1 _ _ _
      | exact lamplighterref19_value.mono _ _
      | exact LeO.none _
      | refine LeO.ite ?_ ?_
      | refine LeO.bind ?_ (fun _ => ?_)
set_option maxHeartbeats 8000000 in
set_option maxRecDepth 100000 in
theorem lamplighterref19_Bytes.calls (k : Nat) (a0 : ByteArray) (r1 : List Int) (r2 : Bool) (w : World) (h : lamplighterref19_Bytes.f k a0 = some (r1, r2)) :
    Calls Tryd.prog 13 #[.string a0] w fun e w' => ∃ v0_ : Value, e = .returned (.tuple #[v0_, .bool r2]) ∧ Kd.R (Kd.int .u8) 5 w' w.heap.size (fun _ => True) v0_ r1 ∧ Below w.heap.size w w' := by
  have HB := Aside0.mk (Below.refl w.heap.size w)
  have H : (if a0.toList = ([45] : List UInt8) then (some (([] : List Int), true)) else (if a0.toList = ([] : List UInt8) then (lamplighterref19_Bytes.j0 k a0 true) else (lamplighterref19_Bytes.j0 k a0 (((a0.size : Int) % 2) != 0)))) = some (r1, r2) := h
  clear h
  by_cases c2 : a0.toList = ([45] : List UInt8)
  · rw [if_pos c2] at H
    have c2b0 : (a0.toList == ([45] : List UInt8)) = true := beq_iff_eq.mpr c2
    have c2b1 : (a0.toList != ([45] : List UInt8)) = false := bne_eq_false_iff_eq.mpr c2
    clear c2
    simp only [Option.some.injEq, Prod.mk.injEq] at H
    obtain ⟨rfl, rfl⟩ := H
    go_enter Tryd.func13, Tryd.ntmps13
    go_wp2
    go_ret2
    exact ⟨_, by first | rfl | (simp [errW_none, errW_some] <;> rfl) | (simp [*, errW_none, errW_some] <;> rfl), by first | exact Kd.R_nil _ _ _ _ _ | exact Kd.N_nil _ _ _ _ _ | exact Kd.V_nil _ _ _ _ _ | exact Kd.Q_nil _ _ _ _ _ | exact Kd.S_nil _ _ _ _ _, by repeat (first | (with_reducible first | exact HB.out | apply below_alloc | apply pw_below_drewN | apply below_drew1) | exact HB.out)⟩
  · rw [if_neg c2] at H
    have c2b0 : (a0.toList == ([45] : List UInt8)) = false := beq_eq_false_iff_ne.mpr c2
    have c2b1 : (a0.toList != ([45] : List UInt8)) = true := bne_iff_ne.mpr c2
    have HC3 := Aside0.mk H
    clear H
    go_enter Tryd.func13, Tryd.ntmps13
    go_upto_region 3 with (fail)
    go_cut [17] (fun v17 wc => ∃ (kq : Nat) (x17_2 : Bool), v17 = .bool x17_2 ∧ Aside0 (lamplighterref19_Bytes.j0 kq a0 x17_2 = some (r1, r2)) ∧ Aside0 (kq ≤ k) ∧ Aside0 (Below w.heap.size w wc))
    case first =>
      have H := HC3.out
      clear HC3
      by_cases c4 : a0.toList = ([] : List UInt8)
      · rw [if_pos c4] at H
        have c4b0 : (a0.toList == ([] : List UInt8)) = true := beq_iff_eq.mpr c4
        have c4b1 : (a0.toList != ([] : List UInt8)) = false := bne_eq_false_iff_eq.mpr c4
        clear c4
        (first | rw [c4b0] | (simp only [i64_w, i32_w]; rw [c4b0]) | skip)
        have H' := Aside0.mk H
        clear H
        go_wp2
        go_meet
        case rel => exact ⟨_, (true), (by first | rfl | (simp; done) | (simp [*]; done)), H', ⟨by first | omega | exact Nat.le_refl _⟩, ⟨by repeat (first | (with_reducible first | exact HB.out | apply below_alloc | apply pw_below_drewN | apply below_drew1) | exact HB.out)⟩⟩
      · rw [if_neg c4] at H
        have c4b0 : (a0.toList == ([] : List UInt8)) = false := beq_eq_false_iff_ne.mpr c4
        have c4b1 : (a0.toList != ([] : List UInt8)) = true := bne_iff_ne.mpr c4
        (first | rw [c4b0] | (simp only [i64_w, i32_w]; rw [c4b0]) | skip)
        have H' := Aside0.mk H
        clear H
        go_wp2
        go_meet
        case rel => exact ⟨_, ((((a0.size : Int) % 2) != 0)), (by first | rfl | (simp; done) | (simp [*]; done)), H', ⟨by first | omega | exact Nat.le_refl _⟩, ⟨by repeat (first | (with_reducible first | exact HB.out | apply below_alloc | apply pw_below_drewN | apply below_drew1) | exact HB.out)⟩⟩
    case rest =>
      clear HC3
      try clear c1
      try clear c2
      try clear c2b0
      try clear c2b1
      try clear p2
      try clear c4
      try clear c4b0
      try clear c4b1
      obtain ⟨kq, x17_2, rfl, HA, HJ2, HB⟩ := hcut
      cases kq with
      | zero => exact absurd HA.out (by simp [lamplighterref19_Bytes.j0])
      | succ kj2 =>
        have H := HA.out
        clear HA
        simp only [lamplighterref19_Bytes.j0] at H
        by_cases c5 : x17_2 = true
        · subst c5
          have H1 : (some (([] : List Int), false)) = some (r1, r2) := by rw [if_pos rfl] at H; exact H
          clear H
          have H := H1
          clear H1
          simp only [Option.some.injEq, Prod.mk.injEq] at H
          obtain ⟨rfl, rfl⟩ := H
          go_wp2
          go_ret2
          exact ⟨_, by first | rfl | (simp [errW_none, errW_some] <;> rfl) | (simp [*, errW_none, errW_some] <;> rfl), by first | exact Kd.R_nil _ _ _ _ _ | exact Kd.N_nil _ _ _ _ _ | exact Kd.V_nil _ _ _ _ _ | exact Kd.Q_nil _ _ _ _ _ | exact Kd.S_nil _ _ _ _ _, by repeat (first | (with_reducible first | exact HB.out | apply below_alloc | apply pw_below_drewN | apply below_drew1) | exact HB.out)⟩
        · replace c5 := Bool.eq_false_iff.mpr c5
          subst c5
          have H1 : (lamplighterref19_Bytes.l0 kj2 a0 ([] : List Int) 0) = some (r1, r2) := by rw [if_neg (show ¬ (false = true) by decide)] at H; exact H
          clear H
          have H := H1
          clear H1
          have H' := Aside0.mk H
          clear H
          go_wp2
          go_loopg [4, 5] kj2 (fun kq v4 v5 w' => ∃ (x4_2 : List Int) (x5_2 : Int), v5 = .int .i64 x5_2 ∧ Aside0 (lamplighterref19_Bytes.l0 kq a0 x4_2 x5_2 = some (r1, r2)) ∧ Aside0 (kq ≤ kj2) ∧ Aside0 (Kd.R (Kd.int .u8) 5 w' w.heap.size (fun _ => True) v4 x4_2) ∧ Aside0 (Below w.heap.size w w'))
          case atStart => exact ⟨(([] : List Int)), (0), (by first | rfl | (simp; done) | (simp [*]; done)), H', ⟨Nat.le_refl _⟩, ⟨by first | exact Kd.R_nil _ _ _ _ _ | exact Kd.N_nil _ _ _ _ _ | exact Kd.V_nil _ _ _ _ _ | exact Kd.Q_nil _ _ _ _ _ | exact Kd.S_nil _ _ _ _ _⟩, ⟨by repeat (first | (with_reducible first | exact HB.out | apply below_alloc | apply pw_below_drewN | apply below_drew1) | exact HB.out)⟩⟩
          case round =>
            clear H'
            try clear c1
            try clear c2
            try clear c2b0
            try clear c2b1
            try clear p2
            try clear c4
            try clear c4b0
            try clear c4b1
            try clear c5
            try clear p2
            obtain ⟨x4_2, x5_2, rfl, HA, HK2, HO_4, HB⟩ := hrel
            cases gk with
            | zero => exact absurd HA.out (by simp [lamplighterref19_Bytes.l0])
            | succ k2 =>
              have H := HA.out
              clear HA
              simp only [lamplighterref19_Bytes.l0] at H
              by_cases c6 : x5_2 < (a0.size : Int)
              · rw [if_pos c6] at H
                have c6b0 : decide (x5_2 < (a0.size : Int)) = true := decide_eq_true c6
                clear c6
                by_cases c7 : 0 ≤ x5_2
                · rw [if_pos c7] at H
                  have c7b0 : decide (0 ≤ x5_2) = true := decide_eq_true c7
                  clear c7
                  replace H := Option.bind_eq_some_iff.mp H
                  obtain ⟨t149, A90, H⟩ := H
                  replace H : (if 0 ≤ (wrap64 (x5_2 + 1)) then (if (wrap64 (x5_2 + 1)) < (a0.size : Int) then ((lamplighterref19_value.f k2 (bt a0 (wrap64 (x5_2 + 1)))).bind fun t150 => (if t149 < 0 then (some (([] : List Int), false)) else (if t150 < 0 then (some (([] : List Int), false)) else (if x4_2.length < 140737488355328 then (lamplighterref19_Bytes.l0 k2 a0 (x4_2 ++ [(wrap64 ((wrap64 (16 * t149)) + t150)) % 256]) (wrap64 (x5_2 + 2))) else (none))))) else (none)) else (none)) = some (r1, r2) := H
                  have A9 := Aside0.mk A90
                  clear A90
                  obtain ⟨ji10, hji10⟩ : ∃ j_ : Int, (wrap64 (x5_2 + 1)) = j_ := ⟨_, rfl⟩
                  replace H : (if 0 ≤ (ji10) then (if (ji10) < (a0.size : Int) then ((lamplighterref19_value.f k2 (bt a0 (ji10))).bind fun t150 => (if t149 < 0 then (some (([] : List Int), false)) else (if t150 < 0 then (some (([] : List Int), false)) else (if x4_2.length < 140737488355328 then (lamplighterref19_Bytes.l0 k2 a0 (x4_2 ++ [(wrap64 ((wrap64 (16 * t149)) + t150)) % 256]) (wrap64 (x5_2 + 2))) else (none))))) else (none)) else (none)) = some (r1, r2) := by first | (rw [hji10] at H; exact H) | (simp only [hji10] at H ⊢; exact H)
                  (try rw [hji10] at A9)
                  have hji10w : (IntKind.i64.wrap (x5_2 + 1)) = ji10 := (i64_w _).trans hji10
                  by_cases c11 : 0 ≤ (ji10)
                  · rw [if_pos c11] at H
                    have c11b0 : decide (0 ≤ (ji10)) = true := decide_eq_true c11
                    clear c11
                    by_cases c12 : (ji10) < (a0.size : Int)
                    · rw [if_pos c12] at H
                      have c12b0 : decide ((ji10) < (a0.size : Int)) = true := decide_eq_true c12
                      clear c12
                      replace H := Option.bind_eq_some_iff.mp H
                      obtain ⟨t150, A140, H⟩ := H
                      replace H : (if t149 < 0 then (some (([] : List Int), false)) else (if t150 < 0 then (some (([] : List Int), false)) else (if x4_2.length < 140737488355328 then (lamplighterref19_Bytes.l0 k2 a0 (x4_2 ++ [(wrap64 ((wrap64 (16 * t149)) + t150)) % 256]) (wrap64 (x5_2 + 2))) else (none)))) = some (r1, r2) := H
                      have A14 := Aside0.mk A140
                      clear A140
                      by_cases c15 : t149 < 0
                      · rw [if_pos c15] at H
                        have c15b0 : decide (t149 < 0) = true := decide_eq_true c15
                        clear c15
                        simp only [Option.some.injEq, Prod.mk.injEq] at H
                        obtain ⟨rfl, rfl⟩ := H
                        have p8 : 0 ≤ (x5_2 : Int) := of_decide_eq_true (by first | (with_reducible assumption) | assumption)
                        have q8 : x5_2 < (a0.size : Int) := of_decide_eq_true (by first | (with_reducible assumption) | assumption)
                        have hx8 := bt_at a0 x5_2
                        replace p8 := eq_true p8
                        replace q8 := eq_true q8
                        go_wp2_with (first | ((with_reducible refine gate_callee (f := 29) rfl ?_); refine goesL_ (some 27) rfl rfl Tryd.func29 (by kernel_rfl) rfl #[.int .u8 (bt a0 x5_2)] rfl (by (try simp only [List.map_toArray, List.map_cons, List.map_nil]); first | done | rfl | (simp only [List.length_drop, List.length_take]; rfl)) ?_; (with_reducible refine (lamplighterref19_value.calls k2 (bt a0 x5_2) t149 _ A9.out).mono ?_); rintro e w' ⟨rfl, ⟨nd, rfl⟩⟩; refine ⟨_, rfl, ?_⟩; have p13 : 0 ≤ ((ji10) : Int) := of_decide_eq_true (by first | (with_reducible assumption) | assumption); have q13 : (ji10) < (a0.size : Int) := of_decide_eq_true (by first | (with_reducible assumption) | assumption); have hx13 := bt_at a0 (ji10); replace p13 := eq_true p13; replace q13 := eq_true q13) | ((with_reducible refine gate_callee (f := 29) rfl ?_); refine goesL_ (some 32) rfl rfl Tryd.func29 (by kernel_rfl) rfl #[.int .u8 (bt a0 (ji10))] rfl (by (try simp only [List.map_toArray, List.map_cons, List.map_nil]); first | done | (simp only [hji10]; rfl) | rfl | (simp only [List.length_drop, List.length_take]; rfl)) ?_; (with_reducible refine (lamplighterref19_value.calls k2 (bt a0 (ji10)) t150 _ A14.out).mono ?_); rintro e w' ⟨rfl, ⟨nd, rfl⟩⟩; refine ⟨_, rfl, ?_⟩))
                        go_ret2
                        exact ⟨_, by first | rfl | (simp [errW_none, errW_some] <;> rfl) | (simp only [← hji10]; first | rfl | (simp [errW_none, errW_some] <;> rfl)) | (simp [*, errW_none, errW_some] <;> rfl), by first | exact Kd.R_nil _ _ _ _ _ | exact Kd.N_nil _ _ _ _ _ | exact Kd.V_nil _ _ _ _ _ | exact Kd.Q_nil _ _ _ _ _ | exact Kd.S_nil _ _ _ _ _, by repeat (first | (with_reducible first | exact HB.out | apply below_alloc | apply pw_below_drewN | apply below_drew1) | exact HB.out)⟩
                      · rw [if_neg c15] at H
                        have c15b0 : decide (t149 < 0) = false := decide_eq_false c15
                        clear c15
                        by_cases c16 : t150 < 0
                        · rw [if_pos c16] at H
                          have c16b0 : decide (t150 < 0) = true := decide_eq_true c16
                          clear c16
                          simp only [Option.some.injEq, Prod.mk.injEq] at H
                          obtain ⟨rfl, rfl⟩ := H
                          have p8 : 0 ≤ (x5_2 : Int) := of_decide_eq_true (by first | (with_reducible assumption) | assumption)
                          have q8 : x5_2 < (a0.size : Int) := of_decide_eq_true (by first | (with_reducible assumption) | assumption)
                          have hx8 := bt_at a0 x5_2
                          replace p8 := eq_true p8
                          replace q8 := eq_true q8
                          go_wp2_with (first | ((with_reducible refine gate_callee (f := 29) rfl ?_); refine goesL_ (some 27) rfl rfl Tryd.func29 (by kernel_rfl) rfl #[.int .u8 (bt a0 x5_2)] rfl (by (try simp only [List.map_toArray, List.map_cons, List.map_nil]); first | done | rfl | (simp only [List.length_drop, List.length_take]; rfl)) ?_; (with_reducible refine (lamplighterref19_value.calls k2 (bt a0 x5_2) t149 _ A9.out).mono ?_); rintro e w' ⟨rfl, ⟨nd, rfl⟩⟩; refine ⟨_, rfl, ?_⟩; have p13 : 0 ≤ ((ji10) : Int) := of_decide_eq_true (by first | (with_reducible assumption) | assumption); have q13 : (ji10) < (a0.size : Int) := of_decide_eq_true (by first | (with_reducible assumption) | assumption); have hx13 := bt_at a0 (ji10); replace p13 := eq_true p13; replace q13 := eq_true q13) | ((with_reducible refine gate_callee (f := 29) rfl ?_); refine goesL_ (some 32) rfl rfl Tryd.func29 (by kernel_rfl) rfl #[.int .u8 (bt a0 (ji10))] rfl (by (try simp only [List.map_toArray, List.map_cons, List.map_nil]); first | done | (simp only [hji10]; rfl) | rfl | (simp only [List.length_drop, List.length_take]; rfl)) ?_; (with_reducible refine (lamplighterref19_value.calls k2 (bt a0 (ji10)) t150 _ A14.out).mono ?_); rintro e w' ⟨rfl, ⟨nd, rfl⟩⟩; refine ⟨_, rfl, ?_⟩))
                          go_ret2
                          exact ⟨_, by first | rfl | (simp [errW_none, errW_some] <;> rfl) | (simp only [← hji10]; first | rfl | (simp [errW_none, errW_some] <;> rfl)) | (simp [*, errW_none, errW_some] <;> rfl), by first | exact Kd.R_nil _ _ _ _ _ | exact Kd.N_nil _ _ _ _ _ | exact Kd.V_nil _ _ _ _ _ | exact Kd.Q_nil _ _ _ _ _ | exact Kd.S_nil _ _ _ _ _, by repeat (first | (with_reducible first | exact HB.out | apply below_alloc | apply pw_below_drewN | apply below_drew1) | exact HB.out)⟩
                        · rw [if_neg c16] at H
                          have c16b0 : decide (t150 < 0) = false := decide_eq_false c16
                          clear c16
                          by_cases c17 : x4_2.length < 140737488355328
                          · rw [if_pos c17] at H
                            have LMc17 := Aside0.mk c17
                            clear c17
                            obtain ⟨y151, hy151⟩ : ∃ y_ : List Int, y_ = (x4_2 ++ [(wrap64 ((wrap64 (16 * t149)) + t150)) % 256]) := ⟨_, rfl⟩
                            replace H : (lamplighterref19_Bytes.l0 k2 a0 y151 (wrap64 (x5_2 + 2))) = some (r1, r2) := by first | (rw [hy151]; with_reducible exact H) | (have H2_ := (Option.bind_some _ _).symm.trans H; rw [hy151]; with_reducible exact H2_) | (have H2_ := (Option.bind_some _ _).symm.trans H; with_reducible exact H2_) | with_reducible exact H | (rw [hy151]; exact H) | exact H
                            have Ny151 := Aside0.mk hy151
                            clear hy151
                            have H' := Aside0.mk H
                            clear H
                            have p8 : 0 ≤ (x5_2 : Int) := of_decide_eq_true (by first | (with_reducible assumption) | assumption)
                            have q8 : x5_2 < (a0.size : Int) := of_decide_eq_true (by first | (with_reducible assumption) | assumption)
                            have hx8 := bt_at a0 x5_2
                            replace p8 := eq_true p8
                            replace q8 := eq_true q8
                            go_wp2_with (first | ((with_reducible refine gate_callee (f := 29) rfl ?_); refine goesL_ (some 27) rfl rfl Tryd.func29 (by kernel_rfl) rfl #[.int .u8 (bt a0 x5_2)] rfl (by (try simp only [List.map_toArray, List.map_cons, List.map_nil]); first | done | rfl | (simp only [List.length_drop, List.length_take]; rfl)) ?_; (with_reducible refine (lamplighterref19_value.calls k2 (bt a0 x5_2) t149 _ A9.out).mono ?_); rintro e w' ⟨rfl, ⟨nd, rfl⟩⟩; refine ⟨_, rfl, ?_⟩; have p13 : 0 ≤ ((ji10) : Int) := of_decide_eq_true (by first | (with_reducible assumption) | assumption); have q13 : (ji10) < (a0.size : Int) := of_decide_eq_true (by first | (with_reducible assumption) | assumption); have hx13 := bt_at a0 (ji10); replace p13 := eq_true p13; replace q13 := eq_true q13) | ((with_reducible refine gate_callee (f := 29) rfl ?_); refine goesL_ (some 32) rfl rfl Tryd.func29 (by kernel_rfl) rfl #[.int .u8 (bt a0 (ji10))] rfl (by (try simp only [List.map_toArray, List.map_cons, List.map_nil]); first | done | (simp only [hji10]; rfl) | rfl | (simp only [List.length_drop, List.length_take]; rfl)) ?_; (with_reducible refine (lamplighterref19_value.calls k2 (bt a0 (ji10)) t150 _ A14.out).mono ?_); rintro e w' ⟨rfl, ⟨nd, rfl⟩⟩; refine ⟨_, rfl, ?_⟩) | ((with_reducible refine gate_builtin (b := .append) (xs := #[.tmp 39, .tmp 45]) rfl ?_); (try (refine gate_guard (by rfl) ?_; dsimp only)); at_builtin; refine Kd.R_append (Kd.int .u8) (w0 := w) w.heap.size rfl (.tmp 39) (.tmp 45) 22 5 (.int .u8 0) 1 rfl Tryd.underlying22 info5 rfl (by decide) (by omega) u4 x4_2 ((wrap64 ((wrap64 (16 * t149)) + t150)) % 256) [.int .u8 ((wrap64 ((wrap64 (16 * t149)) + t150)) % 256)] (fun _ => True) (fun _ => False) rfl rfl ?aP (fun _ hk => hk.elim) ?aF ?aO ?aB ?aS ?aL ?_; (case aP => exact rfl); (case aB => exact (by repeat (first | (with_reducible first | exact HB.out | apply below_alloc | apply pw_below_drewN | apply below_drew1) | exact HB.out))); (case aF => exact (fun _ _ => trivial)); (case aO => exact (by (with_reducible repeat (first | apply Kd.R_alloc | apply Kd.R_drewN | apply Kd.R_drew)); exact HO_4.out)); (case aS => exact (below_size (by repeat (first | (with_reducible first | exact HB.out | apply below_alloc | apply pw_below_drewN | apply below_drew1) | exact HB.out)))); (case aL => have := LMc17.out; omega); intro v152 w18 ho hb hg hat; rw [← Ny151.out] at ho; have n0_ := Aside0.mk (hb); have n1_ := Aside0.mk (ho); clear HB; clear HO_4; have HB := n0_; have HO153 := n1_; clear n0_ n1_; clear ho hb hg hat))
                            go_roundg k2
                            case measure => have := HJ2.out; have := HK2.out; omega
                            case rel => exact ⟨(y151), (wrap64 (x5_2 + 2)), (by first | rfl | (simp; done) | (simp [*]; done)), H', ⟨by have := HJ2.out; have := HK2.out; omega⟩, ⟨by (with_reducible repeat (first | apply Kd.R_alloc | apply Kd.R_drewN | apply Kd.R_drew)); exact HO153.out⟩, ⟨by repeat (first | (with_reducible first | exact HB.out | apply below_alloc | apply pw_below_drewN | apply below_drew1) | exact HB.out)⟩⟩
                          · rw [if_neg c17] at H
                            exact absurd H (by simp)
                    · rw [if_neg c12] at H
                      exact absurd H (by simp)
                  · rw [if_neg c11] at H
                    exact absurd H (by simp)
                · rw [if_neg c7] at H
                  exact absurd H (by simp)
              · rw [if_neg c6] at H
                have c6b0 : decide (x5_2 < (a0.size : Int)) = false := decide_eq_false c6
                clear c6
                simp only [Option.some.injEq, Prod.mk.injEq] at H
                obtain ⟨rfl, rfl⟩ := H
                go_wp2
                go_ret2
                exact ⟨_, by first | rfl | (simp [errW_none, errW_some] <;> rfl) | (simp [*, errW_none, errW_some] <;> rfl), by (with_reducible repeat (first | apply Kd.R_alloc | apply Kd.R_drewN | apply Kd.R_drew)); exact HO_4.out, by repeat (first | (with_reducible first | exact HB.out | apply below_alloc | apply pw_below_drewN | apply below_drew1) | exact HB.out)⟩

/-! ### lamplighterref19_Hex: function 14 -/
def lamplighterref19_Hex.f (l0 : List Int) : Option (ByteArray) := if (∀ x ∈ l0, 0 ≤ x ∧ x ≤ 255) ∧ l0.length ≤ 1000000 then some (strOf (hexT l0)) else none
theorem lamplighterref19_Hex.calls (A0 : Option Addr) (c0 : Nat) (l0 : List Int) (r : ByteArray) (w : World) (hr0 : Kd.C (Kd.int .u8) w A0 l0.length l0) (hc0 : l0.length ≤ c0) (h : lamplighterref19_Hex.f l0 = some r) :
    Calls Tryd.prog 14 #[.slice A0 l0.length c0] w fun e w' => e = .returned (.string r) ∧ Below w.heap.size w w' := by
  unfold lamplighterref19_Hex.f at h
  by_cases q : (∀ x ∈ l0, 0 ≤ x ∧ x ≤ 255) ∧ l0.length ≤ 1000000
  · rw [if_pos q] at h
    obtain rfl := Option.some.inj h
    exact refhex_walk A0 c0 l0 q.1 q.2 w hr0 hc0
  · rw [if_neg q] at h
    cases h


-- NOT PRINTED: function 3 (lamplighterlaw19_TraceBytes)

-- NOT PRINTED: function 15 (trace_Event)

/-! ### lamplighterref19_Decimal: function 31 -/
mutual
def lamplighterref19_Decimal.l0 : Nat → Int → ByteArray → Option (ByteArray)
  | 0, _, _ => none
  | k + 1, x0, x3 => if x0 > 0 then ((some (([(wrap64 (48 + (Int.tmod x0 10))) % 256] : List Int) : List Int)).bind fun y156 => (if (strOfNums y156).size + x3.size ≤ 9223372036854775807 then (lamplighterref19_Decimal.l0 k (wrap64 (Int.tdiv x0 10)) ((strOfNums y156) ++ x3)) else (none))) else (if x3.toList = ([] : List UInt8) then ((some (([(wrap64 (48 + (Int.tmod x0 10))) % 256] : List Int) : List Int)).bind fun y159 => (if (strOfNums y159).size + x3.size ≤ 9223372036854775807 then (lamplighterref19_Decimal.l0 k (wrap64 (Int.tdiv x0 10)) ((strOfNums y159) ++ x3)) else (none))) else (some x3))
def lamplighterref19_Decimal.f : Nat → Int → Option (ByteArray)
  | 0, _ => none
  | k + 1, a0 => if a0 < 0 then (if a0 = (-9223372036854775808) then (some (⟨#[45, 57, 50, 50, 51, 51, 55, 50, 48, 51, 54, 56, 53, 52, 55, 55, 53, 56, 48, 56]⟩ : ByteArray)) else ((lamplighterref19_Decimal.f k (wrap64 (-a0))).bind fun t155 => (if 1 + t155.size ≤ 9223372036854775807 then (some ((⟨#[45]⟩ : ByteArray) ++ t155)) else (none)))) else (lamplighterref19_Decimal.l0 k a0 (⟨#[]⟩ : ByteArray))
end
theorem lamplighterref19_Decimal.mono_l : ∀ k, (∀ y0, LeO (lamplighterref19_Decimal.f k y0) (lamplighterref19_Decimal.f (k + 1) y0)) ∧ (∀ y0 y1, LeO (lamplighterref19_Decimal.l0 k y0 y1) (lamplighterref19_Decimal.l0 (k + 1) y0 y1))
  | 0 => ⟨fun _ r h => by simp [lamplighterref19_Decimal.f] at h, fun _ _ r h => by simp [lamplighterref19_Decimal.l0] at h⟩
  | k + 1 => by
    obtain ⟨ih0, ih1⟩ := lamplighterref19_Decimal.mono_l k
    refine ⟨?_, ?_⟩
    · intro y0
      unfold lamplighterref19_Decimal.f
      repeat' first
      | (with_reducible exact ih0 _)
      | (with_reducible exact ih1 _ _)
      | (with_reducible exact LeO.refl _)
      | (with_reducible exact LeO.none _)
      | (with_reducible refine LeO.ite ?_ ?_)
      | (with_reducible refine LeO.bind ?_ (fun _ => ?_))
      | exact ih0 _
      | exact ih1 _ _
      | exact LeO.none _
      | refine LeO.ite ?_ ?_
      | refine LeO.bind ?_ (fun _ => ?_)
    · intro y0 y1
      unfold lamplighterref19_Decimal.l0
      repeat' first
      | (with_reducible exact ih0 _)
      | (with_reducible exact ih1 _ _)
      | (with_reducible exact LeO.refl _)
      | (with_reducible exact LeO.none _)
      | (with_reducible refine LeO.ite ?_ ?_)
      | (with_reducible refine LeO.bind ?_ (fun _ => ?_))
      | exact ih0 _
      | exact ih1 _ _
      | exact LeO.none _
      | refine LeO.ite ?_ ?_
      | refine LeO.bind ?_ (fun _ => ?_)
theorem lamplighterref19_Decimal.mono : ∀ a0 k, LeO (lamplighterref19_Decimal.f k a0) (lamplighterref19_Decimal.f (k + 1) a0) := by
  intro a0 k
  obtain ⟨ih0, ih1⟩ := lamplighterref19_Decimal.mono_l k
  exact ih0 a0
set_option maxHeartbeats 8000000 in
set_option maxRecDepth 100000 in
theorem lamplighterref19_Decimal.calls (k : Nat) : ∀ (a0 : Int) (r : ByteArray) (w : World) (h : lamplighterref19_Decimal.f k a0 = some r),
    Calls Tryd.prog 31 #[.int .i64 a0] w fun e w' => e = .returned (.string r) ∧ Below w.heap.size w w' := by
  induction k using Nat.strongRecOn with
  | _ k ih =>
  intro a0 r w h
  cases k with
  | zero => exact absurd h (by simp [lamplighterref19_Decimal.f])
  | succ k =>
  simp only [lamplighterref19_Decimal.f] at h
  have HB := Aside0.mk (Below.refl w.heap.size w)
  have H : (if a0 < 0 then (if a0 = (-9223372036854775808) then (some (⟨#[45, 57, 50, 50, 51, 51, 55, 50, 48, 51, 54, 56, 53, 52, 55, 55, 53, 56, 48, 56]⟩ : ByteArray)) else ((lamplighterref19_Decimal.f k (wrap64 (-a0))).bind fun t155 => (if 1 + t155.size ≤ 9223372036854775807 then (some ((⟨#[45]⟩ : ByteArray) ++ t155)) else (none)))) else (lamplighterref19_Decimal.l0 k a0 (⟨#[]⟩ : ByteArray))) = some r := h
  clear h
  by_cases c2 : a0 < 0
  · rw [if_pos c2] at H
    have c2b0 : decide (a0 < 0) = true := decide_eq_true c2
    clear c2
    by_cases c3 : a0 = (-9223372036854775808)
    · rw [if_pos c3] at H
      have c3b0 : (a0 == (-9223372036854775808)) = true := beq_iff_eq.mpr c3
      have c3b1 : (a0 != (-9223372036854775808)) = false := bne_eq_false_iff_eq.mpr c3
      clear c3
      obtain rfl := Option.some.inj H
      go_enter Tryd.func31, Tryd.ntmps31
      go_wp2
      go_ret
      exact ⟨by first | rfl | (simp [errW_none, errW_some] <;> rfl) | (simp [*, errW_none, errW_some] <;> rfl), by repeat (first | (with_reducible first | exact HB.out | apply below_alloc | apply pw_below_drewN | apply below_drew1) | exact HB.out)⟩
    · rw [if_neg c3] at H
      have c3b0 : (a0 == (-9223372036854775808)) = false := beq_eq_false_iff_ne.mpr c3
      have c3b1 : (a0 != (-9223372036854775808)) = true := bne_iff_ne.mpr c3
      replace H := Option.bind_eq_some_iff.mp H
      obtain ⟨t155, A40, H⟩ := H
      replace H : (if 1 + t155.size ≤ 9223372036854775807 then (some ((⟨#[45]⟩ : ByteArray) ++ t155)) else (none)) = some r := H
      have A4 := Aside0.mk A40
      clear A40
      by_cases c5 : 1 + t155.size ≤ 9223372036854775807
      · rw [if_pos c5] at H
        have c5b0 := eq_true c5
        have c5b1 : decide (1 + t155.size ≤ 9223372036854775807) = true := decide_eq_true c5
        try have c5b2 : (9223372036854775807 < 1 + t155.size) = False := eq_false (Nat.not_lt.2 c5)
        try (have c5b4 := c5b2; simp only [ByteArray.size_append] at c5b4)
        obtain rfl := Option.some.inj H
        go_enter Tryd.func31, Tryd.ntmps31
        go_wp2_with (first | ((with_reducible refine gate_callee (f := 31) rfl ?_); refine goesL_ (some 10) rfl rfl Tryd.func31 (by kernel_rfl) rfl #[.int .i64 (wrap64 (-a0))] rfl (by (try simp only [List.map_toArray, List.map_cons, List.map_nil]); first | done | rfl | (simp only [List.length_drop, List.length_take]; rfl)) ?_; (with_reducible refine (ih k (by omega) (wrap64 (-a0)) t155 _ A4.out).mono ?_); rintro e w6 ⟨rfl, hb⟩; refine ⟨_, rfl, ?_⟩; have n0_ := Aside0.mk (below_step (by repeat (first | (with_reducible first | exact HB.out | apply below_alloc | apply pw_below_drewN | apply below_drew1) | exact HB.out)) hb); clear HB; have HB := n0_; clear n0_; (try clear hb); (try clear hb2); (try clear hk); (try clear hi)))
        go_ret
        exact ⟨by first | rfl | (simp [errW_none, errW_some] <;> rfl) | (simp [*, errW_none, errW_some] <;> rfl), by repeat (first | (with_reducible first | exact HB.out | apply below_alloc | apply pw_below_drewN | apply below_drew1) | exact HB.out)⟩
      · rw [if_neg c5] at H
        exact absurd H (by simp)
  · rw [if_neg c2] at H
    have c2b0 : decide (a0 < 0) = false := decide_eq_false c2
    clear c2
    have H' := Aside0.mk H
    clear H
    go_enter Tryd.func31, Tryd.ntmps31
    go_wp2
    go_loopg [0, 3] k (fun kq v0 v3 w' => ∃ (x0_1 : Int) (x3_1 : ByteArray), v0 = .int .i64 x0_1 ∧ v3 = .string x3_1 ∧ Aside0 (lamplighterref19_Decimal.l0 kq x0_1 x3_1 = some r) ∧ Aside0 (kq ≤ k) ∧ Aside0 (Below w.heap.size w w'))
    case atStart => exact ⟨(a0), ((⟨#[]⟩ : ByteArray)), (by first | rfl | (simp; done) | (simp [*]; done)), (by first | rfl | (simp; done) | (simp [*]; done)), H', ⟨Nat.le_refl _⟩, ⟨by repeat (first | (with_reducible first | exact HB.out | apply below_alloc | apply pw_below_drewN | apply below_drew1) | exact HB.out)⟩⟩
    case round =>
      clear H'
      try clear c2
      try clear c2b0
      try clear p2
      try clear c3
      try clear c3b0
      try clear c3b1
      try clear c5
      try clear c5b0
      try clear c5b1
      try clear c5b2
      try clear p6
      obtain ⟨x0_1, x3_1, rfl, rfl, HA, HK1, HB⟩ := hrel
      cases gk with
      | zero => exact absurd HA.out (by simp [lamplighterref19_Decimal.l0])
      | succ k1 =>
        have H := HA.out
        clear HA
        simp only [lamplighterref19_Decimal.l0] at H
        by_cases c7 : x0_1 > 0
        · rw [if_pos c7] at H
          have c7b0 : decide (0 < x0_1) = true := decide_eq_true c7
          clear c7
          obtain ⟨y156, hy156⟩ : ∃ y_ : List Int, y_ = (([(wrap64 (48 + (Int.tmod x0_1 10))) % 256] : List Int)) := ⟨_, rfl⟩
          replace H : (if (strOfNums y156).size + x3_1.size ≤ 9223372036854775807 then (lamplighterref19_Decimal.l0 k1 (wrap64 (Int.tdiv x0_1 10)) ((strOfNums y156) ++ x3_1)) else (none)) = some r := by first | (rw [hy156]; with_reducible exact H) | (have H2_ := (Option.bind_some _ _).symm.trans H; rw [hy156]; with_reducible exact H2_) | (have H2_ := (Option.bind_some _ _).symm.trans H; with_reducible exact H2_) | with_reducible exact H | (rw [hy156]; exact H) | exact H
          have Ny156 := Aside0.mk hy156
          clear hy156
          by_cases c8 : (strOfNums y156).size + x3_1.size ≤ 9223372036854775807
          · rw [if_pos c8] at H
            have c8b0 := eq_true c8
            have c8b1 : decide ((strOfNums y156).size + x3_1.size ≤ 9223372036854775807) = true := decide_eq_true c8
            try have c8b2 : (9223372036854775807 < (strOfNums y156).size + x3_1.size) = False := eq_false (Nat.not_lt.2 c8)
            try (have c8b4 := c8b2; simp only [ByteArray.size_append] at c8b4)
            have H' := Aside0.mk H
            clear H
            go_wp2_with (first | ((with_reducible refine gate_dst (N := 22) rfl ?_); refine Kd.R_lit (Kd.int .u8) _ 5 ?hg (N := 22) ?hd (xs := ([(wrap64 (48 + (Int.tmod x0_1 10))) % 256] : List Int)) (inner := [.int .u8 ((wrap64 (48 + (Int.tmod x0_1 10))) % 256)]) (ok := fun _ => True) (okp := fun _ => True) ?hr ?hp (fun _ hk => hk) trivial (Below.refl _ _) (Nat.le_refl _) (by simp) ?_; (case hd => rfl); (case hg => rfl); (case hr => first | (go_simp; done) | (go_simp; rfl)); (case hp => exact (Reps.one (show Kd.M (Kd.int .u8) _ _ _ ((wrap64 (48 + (Int.tmod x0_1 10))) % 256) [.int .u8 ((wrap64 (48 + (Int.tmod x0_1 10))) % 256)] from rfl) (Reps.none _ _))); intro v157 w9 ho10 hb hg_ hnew_; clear hg_ hnew_; (first | rw [← Ny156.out] at ho10 | (simp only [Int.reduceToNat] at ho10; rw [← Ny156.out] at ho10)); have n0_ := Aside0.mk (Kd.R_lower ho10 (below_size (by repeat (first | (with_reducible first | exact HB.out | apply below_alloc | apply pw_below_drewN | apply below_drew1) | exact HB.out)))); have n1_ := Aside0.mk (below_step (by repeat (first | (with_reducible first | exact HB.out | apply below_alloc | apply pw_below_drewN | apply below_drew1) | exact HB.out)) hb); clear HB; have HO158 := n0_; have HB := n1_; clear n0_ n1_; clear hb ho10; have hcv11 := own_string (P := Tryd.prog) Tryd.underlying22 Tryd.underlying5 Tryd.underlying9 (Kd.own_of_R HO158.out)))
            go_roundg k1
            case measure => have := HK1.out; omega
            case rel => exact ⟨(wrap64 (Int.tdiv x0_1 10)), ((strOfNums y156) ++ x3_1), (by first | rfl | (simp; done) | (simp [*]; done)), (by first | rfl | (simp; done) | (simp [*]; done)), H', ⟨by have := HK1.out; omega⟩, ⟨by repeat (first | (with_reducible first | exact HB.out | apply below_alloc | apply pw_below_drewN | apply below_drew1) | exact HB.out)⟩⟩
          · rw [if_neg c8] at H
            exact absurd H (by simp)
        · rw [if_neg c7] at H
          have c7b0 : decide (0 < x0_1) = false := decide_eq_false c7
          clear c7
          by_cases c12 : x3_1.toList = ([] : List UInt8)
          · rw [if_pos c12] at H
            have c12b0 : (x3_1.toList == ([] : List UInt8)) = true := beq_iff_eq.mpr c12
            have c12b1 : (x3_1.toList != ([] : List UInt8)) = false := bne_eq_false_iff_eq.mpr c12
            clear c12
            obtain ⟨y159, hy159⟩ : ∃ y_ : List Int, y_ = (([(wrap64 (48 + (Int.tmod x0_1 10))) % 256] : List Int)) := ⟨_, rfl⟩
            replace H : (if (strOfNums y159).size + x3_1.size ≤ 9223372036854775807 then (lamplighterref19_Decimal.l0 k1 (wrap64 (Int.tdiv x0_1 10)) ((strOfNums y159) ++ x3_1)) else (none)) = some r := by first | (rw [hy159]; with_reducible exact H) | (have H2_ := (Option.bind_some _ _).symm.trans H; rw [hy159]; with_reducible exact H2_) | (have H2_ := (Option.bind_some _ _).symm.trans H; with_reducible exact H2_) | with_reducible exact H | (rw [hy159]; exact H) | exact H
            have Ny159 := Aside0.mk hy159
            clear hy159
            by_cases c13 : (strOfNums y159).size + x3_1.size ≤ 9223372036854775807
            · rw [if_pos c13] at H
              have c13b0 := eq_true c13
              have c13b1 : decide ((strOfNums y159).size + x3_1.size ≤ 9223372036854775807) = true := decide_eq_true c13
              try have c13b2 : (9223372036854775807 < (strOfNums y159).size + x3_1.size) = False := eq_false (Nat.not_lt.2 c13)
              try (have c13b4 := c13b2; simp only [ByteArray.size_append] at c13b4)
              have H' := Aside0.mk H
              clear H
              go_wp2_with (first | ((with_reducible refine gate_dst (N := 22) rfl ?_); refine Kd.R_lit (Kd.int .u8) _ 5 ?hg (N := 22) ?hd (xs := ([(wrap64 (48 + (Int.tmod x0_1 10))) % 256] : List Int)) (inner := [.int .u8 ((wrap64 (48 + (Int.tmod x0_1 10))) % 256)]) (ok := fun _ => True) (okp := fun _ => True) ?hr ?hp (fun _ hk => hk) trivial (Below.refl _ _) (Nat.le_refl _) (by simp) ?_; (case hd => rfl); (case hg => rfl); (case hr => first | (go_simp; done) | (go_simp; rfl)); (case hp => exact (Reps.one (show Kd.M (Kd.int .u8) _ _ _ ((wrap64 (48 + (Int.tmod x0_1 10))) % 256) [.int .u8 ((wrap64 (48 + (Int.tmod x0_1 10))) % 256)] from rfl) (Reps.none _ _))); intro v160 w14 ho15 hb hg_ hnew_; clear hg_ hnew_; (first | rw [← Ny159.out] at ho15 | (simp only [Int.reduceToNat] at ho15; rw [← Ny159.out] at ho15)); have n0_ := Aside0.mk (Kd.R_lower ho15 (below_size (by repeat (first | (with_reducible first | exact HB.out | apply below_alloc | apply pw_below_drewN | apply below_drew1) | exact HB.out)))); have n1_ := Aside0.mk (below_step (by repeat (first | (with_reducible first | exact HB.out | apply below_alloc | apply pw_below_drewN | apply below_drew1) | exact HB.out)) hb); clear HB; have HO161 := n0_; have HB := n1_; clear n0_ n1_; clear hb ho15; have hcv16 := own_string (P := Tryd.prog) Tryd.underlying22 Tryd.underlying5 Tryd.underlying9 (Kd.own_of_R HO161.out)))
              go_roundg k1
              case measure => have := HK1.out; omega
              case rel => exact ⟨(wrap64 (Int.tdiv x0_1 10)), ((strOfNums y159) ++ x3_1), (by first | rfl | (simp; done) | (simp [*]; done)), (by first | rfl | (simp; done) | (simp [*]; done)), H', ⟨by have := HK1.out; omega⟩, ⟨by repeat (first | (with_reducible first | exact HB.out | apply below_alloc | apply pw_below_drewN | apply below_drew1) | exact HB.out)⟩⟩
            · rw [if_neg c13] at H
              exact absurd H (by simp)
          · rw [if_neg c12] at H
            have c12b0 : (x3_1.toList == ([] : List UInt8)) = false := beq_eq_false_iff_ne.mpr c12
            have c12b1 : (x3_1.toList != ([] : List UInt8)) = true := bne_iff_ne.mpr c12
            obtain rfl := Option.some.inj H
            go_wp2
            go_ret
            exact ⟨by first | rfl | (simp [errW_none, errW_some] <;> rfl) | (simp [*, errW_none, errW_some] <;> rfl), by repeat (first | (with_reducible first | exact HB.out | apply below_alloc | apply pw_below_drewN | apply below_drew1) | exact HB.out)⟩

end Go.Proofs.YtoloooammaiipaaDoor.PI
/- What trace.Bytes and the reference's give, in plain words: the bytes that pairs of digits tell, or none; conditions: at most a million bytes. -/
namespace Go.Proofs.YtoloooammaiipaaDoor
open Go Go.RowKit Go.Proofs.YtoloooammaiipaaDoor.PI Go.Proofs.YtoloooammaiipaaDoorW.PrintWords Go.Proofs.YtoloooammaiipaaDoorW.PrintLast
set_option linter.unusedVariables false
/-- What a text tells of bytes. -/
def bytesO (s : List UInt8) : Option (List Int) := if s = [45] then some [] else if s = [] then none else unhex s
def pairO : Option (List Int) → List Int × Bool
  | some l => (l, true)
  | none => ([], false)
theorem unhex_odd : ∀ (n : Nat) (l : List UInt8), l.length = n → n % 2 = 1 → unhex l = none
  | 0, _, _, h => by omega
  | 1, l, hl, _ => by
    match l, hl with
    | [_], _ => rfl
  | n + 2, l, hl, h => by
    match l, hl with
    | a :: b :: r, hl =>
      have := unhex_odd n r (by simpa using hl) (by omega)
      unfold unhex
      rw [this]
      split <;> rename_i h1 h2 h3
      · cases h3
      · rfl
theorem digit_index : ∀ c : Fin 256, Lib.indexByte [48, 49, 50, 51, 52, 53, 54, 55, 56, 57, 97, 98, 99, 100, 101, 102] (UInt8.ofNat c.1) = (match hexN (UInt8.ofNat c.1) with | some n => (n : Int) | none => -1) := by decide +kernel
theorem hexN_lt {c : UInt8} {n : Nat} (h : hexN c = some n) : n < 16 := by
  unfold hexN at h
  split at h
  · obtain rfl := Option.some.inj h; omega
  · split at h
    · obtain rfl := Option.some.inj h; omega
    · cases h
theorem or_lo : ∀ a b : Fin 16, Go.bits .or .u8 ((((Go.bits .or .u8 ((0 * 16) % 256) ((a.1 : Int) % 256)) : Int) * 16) % 256) ((b.1 : Int) % 256) = ((16 * a.1 + b.1 : Nat) : Int) := by decide +kernel
theorem byte_of {s : ByteArray} {i : Nat} (h : i < s.size) : bt s (i : Int) = ((s.data.toList[i]'(by rw [len_size]; exact h)).toNat : Int) := by
  unfold bt
  rw [dif_pos (by simpa using h)]
  rfl
theorem index_is {s : ByteArray} {i : Nat} (h : i < s.size) : strings_IndexByte.f (⟨#[48, 49, 50, 51, 52, 53, 54, 55, 56, 57, 97, 98, 99, 100, 101, 102]⟩ : ByteArray) (bt s (i : Int)) = some (match hexN (s.data.toList[i]'(by rw [len_size]; exact h)) with | some n => (n : Int) | none => -1) := by
  have hl : i < s.data.toList.length := by rw [len_size]; exact h
  have e := digit_index ⟨(s.data.toList[i]'hl).toNat, UInt8.toNat_lt _⟩
  unfold strings_IndexByte.f stringslite_IndexByte.f
  rw [byte_of h, Int.toNat_natCast, Option.bind_some]
  congr 1
  simp only [UInt8.ofNat_toNat] at e
  show Lib.indexByte [48, 49, 50, 51, 52, 53, 54, 55, 56, 57, 97, 98, 99, 100, 101, 102] (UInt8.ofNat (s.data.toList[i]'hl).toNat) = _
  rw [UInt8.ofNat_toNat]
  exact e
theorem unhex_n1 {a b : UInt8} {r : List UInt8} (h : hexN a = none) : unhex (a :: b :: r) = none := by
  unfold unhex
  rw [h]
theorem unhex_n2 {a b : UInt8} {r : List UInt8} (h : hexN b = none) : unhex (a :: b :: r) = none := by
  unfold unhex
  rw [h]
  cases hexN a <;> rfl
theorem unhex_s {a b : UInt8} {r : List UInt8} {x y : Nat} (h : hexN a = some x) (h' : hexN b = some y) : unhex (a :: b :: r) = (unhex r).map (((16 * x + y : Nat) : Int) :: ·) := by
  conv => lhs; unfold unhex
  rw [h, h']
  cases unhex r <;> rfl
theorem wrap_nat {n : Nat} (h : n ≤ 4000000000) : wrap64 (n : Int) = (n : Int) := wrap_fit (by omega) (by omega)
theorem half_even (j : Nat) (h : j ≤ 1000000) : wrap64 (Int.tdiv ((2 * j : Nat) : Int) 2) = (j : Int) := by
  have e : Int.tdiv ((2 * j : Nat) : Int) 2 = (j : Int) := by rw [Int.tdiv_eq_ediv_of_nonneg (by omega)]; omega
  rw [e, wrap_nat (by omega)]
theorem half_odd (j : Nat) (h : j ≤ 1000000) : wrap64 (Int.tdiv ((2 * j + 1 : Nat) : Int) 2) = (j : Int) := by
  have e : Int.tdiv ((2 * j + 1 : Nat) : Int) 2 = (j : Int) := by rw [Int.tdiv_eq_ediv_of_nonneg (by omega)]; omega
  rw [e, wrap_nat (by omega)]
theorem rd_mid (pre : List Int) (x : Int) (r : List Int) : rd (pre ++ x :: r) (pre.length : Int) = x := by
  unfold rd
  rw [Int.toNat_natCast, List.getD_eq_getElem?_getD, List.getElem?_append_right (Nat.le_refl _)]
  simp
theorem set_mid (pre : List Int) (x y : Int) (r : List Int) : (pre ++ x :: r).set ((pre.length : Int)).toNat y = pre ++ y :: r := by
  rw [Int.toNat_natCast, List.set_append_right _ _ (Nat.le_refl _)]
  simp
theorem bytes_loop (s : ByteArray) (hs : s.size ≤ 1000000) (m : Nat) (hm : s.size = 2 * m) : ∀ (d : Nat) (pre : List Int), pre.length + d = m → ∀ k, 2 * d < k →
    trace_Bytes.l0 k s (pre ++ List.replicate d 0) (s.size : Int) ((2 * pre.length : Nat) : Int) = some (pairO ((unhex (s.data.toList.drop (2 * pre.length))).map (pre ++ ·)))
  | 0, pre, hd, k, hk => by
    obtain ⟨k, rfl⟩ : ∃ j, k = j + 1 := ⟨k - 1, by omega⟩
    have hl := len_size s
    unfold trace_Bytes.l0
    rw [if_neg (by omega), List.drop_of_length_le (by omega)]
    simp [unhex, pairO]
  | d + 1, pre, hd, k, hk => by
    obtain ⟨k, rfl⟩ : ∃ j, k = j + 2 := ⟨k - 2, by omega⟩
    have hl := len_size s
    have i0 : 2 * pre.length < s.size := by omega
    have i1 : 2 * pre.length + 1 < s.size := by omega
    have l0 : 2 * pre.length < s.data.toList.length := by omega
    have l1 : 2 * pre.length + 1 < s.data.toList.length := by omega
    have ed : s.data.toList.drop (2 * pre.length) = s.data.toList[2 * pre.length] :: s.data.toList[2 * pre.length + 1] :: s.data.toList.drop (2 * (pre.length + 1)) := by
      rw [List.drop_eq_getElem_cons l0, List.drop_eq_getElem_cons l1, show 2 * pre.length + 1 + 1 = 2 * (pre.length + 1) by omega]
    have hrep : List.replicate (d + 1) (0 : Int) = 0 :: List.replicate d 0 := rfl
    have hlen : ((pre ++ List.replicate (d + 1) (0 : Int)).length : Int) = ((pre.length + (d + 1) : Nat) : Int) := by simp
    have q1 : ((2 * pre.length : Nat) : Int) < (s.size : Int) := by omega
    have q2 : (0 : Int) ≤ ((2 * pre.length : Nat) : Int) := by omega
    have hp : pre.length ≤ 1000000 := by omega
    rw [ed]
    unfold trace_Bytes.l0
    rw [if_pos q1, if_pos q2, if_pos q1, index_is i0, Option.bind_some]
    cases h0 : hexN (s.data.toList[2 * pre.length]) with
    | none =>
      simp only
      rw [if_pos (by decide), unhex_n1 h0]
      rfl
    | some x =>
      have hx := hexN_lt h0
      simp only
      rw [if_neg (by omega), half_even _ hp, if_pos (by omega), if_pos (by rw [hlen]; omega), hrep, rd_mid, set_mid]
      have ew : wrap64 (((2 * pre.length : Nat) : Int) + 1) = ((2 * pre.length + 1 : Nat) : Int) := by rw [wrap_fit (by omega) (by omega)]; rfl
      rw [ew]
      unfold trace_Bytes.l0
      have q3 : ((2 * pre.length + 1 : Nat) : Int) < (s.size : Int) := by omega
      have q4 : (0 : Int) ≤ ((2 * pre.length + 1 : Nat) : Int) := by omega
      rw [if_pos q3, if_pos q4, if_pos q3, index_is i1, Option.bind_some]
      cases h1 : hexN (s.data.toList[2 * pre.length + 1]) with
      | none =>
        simp only
        rw [if_pos (by decide), unhex_n2 h1]
        rfl
      | some y =>
        have hy := hexN_lt h1
        have hlen2 : ∀ z : Int, ((pre ++ z :: List.replicate d (0 : Int)).length : Int) = ((pre.length + (d + 1) : Nat) : Int) := fun z => by simp
        simp only
        rw [if_neg (by omega), half_odd _ hp, if_pos (by omega), if_pos (by rw [hlen2]; omega), rd_mid, set_mid]
        have eo := or_lo ⟨x, hx⟩ ⟨y, hy⟩
        simp only at eo
        rw [eo]
        have ew2 : wrap64 (((2 * pre.length + 1 : Nat) : Int) + 1) = ((2 * (pre ++ [((16 * x + y : Nat) : Int)]).length : Nat) : Int) := by
          rw [wrap_fit (by omega) (by omega)]
          simp
          omega
        rw [ew2]
        have ih := bytes_loop s hs m hm d (pre ++ [((16 * x + y : Nat) : Int)]) (by simp; omega) k (by omega)
        have ea : pre ++ ((16 * x + y : Nat) : Int) :: List.replicate d 0 = (pre ++ [((16 * x + y : Nat) : Int)]) ++ List.replicate d 0 := by simp
        rw [ea, ih]
        have el : (pre ++ [((16 * x + y : Nat) : Int)]).length = pre.length + 1 := by simp
        rw [el]
        rw [unhex_s h0 h1]
        cases unhex (s.data.toList.drop (2 * (pre.length + 1))) with
        | none => rfl
        | some r => simp [pairO]
theorem odd_bit : ∀ n : Nat, n ≤ 1000000 → (decide ((Go.bits .and .i64 (n : Int) 1) > 0)) = decide (n % 2 = 1) := fun n h => by
  have e : Go.bits .and .i64 (n : Int) 1 = ((n % 2 : Nat) : Int) := by
    exact Go.Proofs.and_one n (by omega)
  rw [e]
  apply decide_eq_decide.2
  omega
theorem bytes_is (s : ByteArray) (hs : s.size ≤ 1000000) (k : Nat) (hk : s.size + 2 ≤ k) : trace_Bytes.f k s = some (pairO (bytesO s.data.toList)) := by
  obtain ⟨k, rfl⟩ : ∃ j, k = j + 1 := ⟨k - 1, by omega⟩
  have hl := len_size s
  unfold trace_Bytes.f bytesO
  rw [Lib.toList_data]
  by_cases h1 : s.data.toList = [45]
  · rw [if_pos h1, if_pos h1]
    rfl
  rw [if_neg h1, if_neg h1]
  by_cases h2 : s.data.toList = []
  · rw [if_pos h2, if_pos h2]
    rw [trace_Bytes.j0]
    rw [if_pos rfl]
    rfl
  rw [if_neg h2, if_neg h2, odd_bit _ hs]
  rw [trace_Bytes.j0]
  by_cases h3 : s.size % 2 = 1
  · rw [if_pos (by simpa using h3), unhex_odd _ _ hl h3]
    rfl
  · obtain ⟨m, hm⟩ : ∃ m, s.size = 2 * m := ⟨s.size / 2, by omega⟩
    have e : wrap64 ((s.size : Int) / 2) = (m : Int) := by rw [wrap_fit (by omega) (by omega)]; omega
    rw [if_neg (by simpa using h3), e, if_pos (by omega), if_pos (by omega), Int.toNat_natCast]
    have := bytes_loop s hs m hm m [] (by simp) k (by omega)
    simp only [List.nil_append, List.length_nil, Nat.mul_zero, List.drop_zero] at this
    rw [show ((0 : Nat) : Int) = 0 from rfl] at this
    rw [this]
    cases unhex s.data.toList <;> rfl
theorem value_all : ∀ c : Fin 256, lamplighterref19_value.f 1 ((UInt8.ofNat c.1).toNat : Int) = some (match hexN (UInt8.ofNat c.1) with | some n => (n : Int) | none => -1) := by decide +kernel
theorem value_is (k : Nat) (c : UInt8) : lamplighterref19_value.f (k + 1) (c.toNat : Int) = some (match hexN c with | some n => (n : Int) | none => -1) := by
  have e : lamplighterref19_value.f (k + 1) (c.toNat : Int) = lamplighterref19_value.f 1 (c.toNat : Int) := rfl
  have h := value_all ⟨c.toNat, UInt8.toNat_lt c⟩
  simp only [UInt8.ofNat_toNat] at h
  rw [e, h]
theorem refbytes_loop (s : ByteArray) (hs : s.size ≤ 1000000) (m : Nat) (hm : s.size = 2 * m) : ∀ (d : Nat) (pre : List Int), pre.length + d = m → ∀ k, d + 1 < k →
    lamplighterref19_Bytes.l0 k s pre ((2 * pre.length : Nat) : Int) = some (pairO ((unhex (s.data.toList.drop (2 * pre.length))).map (pre ++ ·)))
  | 0, pre, hd, k, hk => by
    obtain ⟨k, rfl⟩ : ∃ j, k = j + 1 := ⟨k - 1, by omega⟩
    have hl := len_size s
    unfold lamplighterref19_Bytes.l0
    rw [if_neg (by omega), List.drop_of_length_le (by omega)]
    simp [unhex, pairO]
  | d + 1, pre, hd, k, hk => by
    obtain ⟨k, rfl⟩ : ∃ j, k = j + 2 := ⟨k - 2, by omega⟩
    have hl := len_size s
    have i0 : 2 * pre.length < s.size := by omega
    have i1 : 2 * pre.length + 1 < s.size := by omega
    have l0 : 2 * pre.length < s.data.toList.length := by omega
    have l1 : 2 * pre.length + 1 < s.data.toList.length := by omega
    have ed : s.data.toList.drop (2 * pre.length) = s.data.toList[2 * pre.length] :: s.data.toList[2 * pre.length + 1] :: s.data.toList.drop (2 * (pre.length + 1)) := by
      rw [List.drop_eq_getElem_cons l0, List.drop_eq_getElem_cons l1, show 2 * pre.length + 1 + 1 = 2 * (pre.length + 1) by omega]
    have ew : wrap64 (((2 * pre.length : Nat) : Int) + 1) = ((2 * pre.length + 1 : Nat) : Int) := by rw [wrap_fit (by omega) (by omega)]; rfl
    rw [ed]
    unfold lamplighterref19_Bytes.l0
    rw [if_pos (by omega), if_pos (by omega), byte_of i0, value_is, Option.bind_some, ew, if_pos (by omega), if_pos (by omega), byte_of i1, value_is, Option.bind_some]
    cases h0 : hexN (s.data.toList[2 * pre.length]) with
    | none =>
      simp only
      rw [if_pos (by decide), unhex_n1 h0]
      rfl
    | some x =>
      have hx := hexN_lt h0
      simp only
      rw [if_neg (by omega)]
      cases h1 : hexN (s.data.toList[2 * pre.length + 1]) with
      | none =>
        simp only
        rw [if_pos (by decide), unhex_n2 h1]
        rfl
      | some y =>
        have hy := hexN_lt h1
        simp only
        have ev : (wrap64 ((wrap64 (16 * (x : Int))) + (y : Int))) % 256 = ((16 * x + y : Nat) : Int) := by
          have w1 : wrap64 (16 * (x : Int)) = 16 * (x : Int) := wrap_fit (by omega) (by omega)
          rw [w1, wrap_fit (by omega) (by omega)]
          omega
        have ew2 : wrap64 (((2 * pre.length : Nat) : Int) + 2) = ((2 * (pre ++ [((16 * x + y : Nat) : Int)]).length : Nat) : Int) := by
          rw [wrap_fit (by omega) (by omega)]
          simp
          omega
        have g2 : ¬ (y : Int) < 0 := Int.not_lt.2 (Int.natCast_nonneg y)
        have g3 : pre.length < 140737488355328 := Nat.lt_of_lt_of_le (show pre.length < 1000001 from Nat.lt_of_le_of_lt (Nat.le_trans (Nat.le_add_right _ _) (Nat.le_of_eq hd)) (show m < 1000001 from Nat.lt_of_le_of_lt (Nat.le_trans (Nat.le_mul_of_pos_left m (by decide : 0 < 2)) (Nat.le_of_eq hm.symm)) (Nat.lt_succ_of_le hs))) (by decide)
        rw [if_neg g2, if_pos g3, ev, ew2]
        have ih := refbytes_loop s hs m hm d (pre ++ [((16 * x + y : Nat) : Int)]) (by clear ew ew2 ev; simp; omega) (k + 1) (by clear ew ew2 ev; omega)
        rw [ih]
        have el : (pre ++ [((16 * x + y : Nat) : Int)]).length = pre.length + 1 := by simp
        rw [el]
        rw [unhex_s h0 h1]
        cases unhex (s.data.toList.drop (2 * (pre.length + 1))) with
        | none => rfl
        | some r => simp [pairO]
theorem refbytes_is (s : ByteArray) (hs : s.size ≤ 1000000) (k : Nat) (hk : s.size + 4 ≤ k) : lamplighterref19_Bytes.f k s = some (pairO (bytesO s.data.toList)) := by
  obtain ⟨k, rfl⟩ : ∃ j, k = j + 1 := ⟨k - 1, by omega⟩
  have hl := len_size s
  unfold lamplighterref19_Bytes.f bytesO
  rw [Lib.toList_data]
  by_cases h1 : s.data.toList = [45]
  · rw [if_pos h1, if_pos h1]
    rfl
  rw [if_neg h1, if_neg h1]
  by_cases h2 : s.data.toList = []
  · rw [if_pos h2, if_pos h2]
    rw [lamplighterref19_Bytes.j0]
    rw [if_pos rfl]
    rfl
  rw [if_neg h2, if_neg h2]
  rw [lamplighterref19_Bytes.j0]
  by_cases h3 : s.size % 2 = 1
  · have e : (((s.size : Int) % 2) != 0) = true := by rw [bne_iff_ne]; omega
    rw [e, if_pos rfl, unhex_odd _ _ hl h3]
    rfl
  · have e : (((s.size : Int) % 2) != 0) = false := by rw [bne_eq_false_iff_eq]; omega
    obtain ⟨m, hm⟩ : ∃ m, s.size = 2 * m := ⟨s.size / 2, by omega⟩
    rw [e, if_neg (by decide)]
    have := refbytes_loop s hs m hm m [] (by simp) k (by omega)
    simp only [List.length_nil, Nat.mul_zero, List.drop_zero] at this
    rw [show ((0 : Nat) : Int) = 0 from rfl] at this
    rw [this]
    cases unhex s.data.toList <;> rfl
end Go.Proofs.YtoloooammaiipaaDoor
/- The table of an event's kinds, as the program's text lays it, with the library's table of powers and its two sentinels: what a world holds that bears them; no conditions. -/
namespace Go.Proofs.YtoloooammaiipaaDoor
open Go Go.ChangeShapes Go.WideShapes Go.ChangeAt Go.RowKit Go.Proofs.YtoloooammaiipaaDoorW.PrintWords Go.Proofs.YtoloooammaiipaaDoorW.PrintLast
theorem laid_at {P : Program} {w : World} : ∀ {laid : List (String × DataW Unit)} {ps : List MemPlace}, DataW.LaidVars P w laid ps → ∀ {n : String} {d : DataW Unit}, (n, d) ∈ laid → ∃ g t cs fuel p, P.globalNamed n = some g ∧ (P.globals[g]?).map (·.type) = some t ∧ w.var? P n = some cs ∧ DataW.trod (fun _ => ()) P w 0 (fun _ => true) false fuel t cs.toList = some (d, p)
  | [], _, _, _, _, hm => by cases hm
  | (_, _) :: _, _, ⟨g, t, cs, fuel, p, _, h1, h2, h3, h4, h5, _⟩, _, _, hm => by
    rcases List.mem_cons.1 hm with e | hm
    · cases e
      exact ⟨g, t, cs, fuel, p, h1, h2, h3, h4⟩
    · exact laid_at h5 hm
/-- A kind: its words, and which fields it has. -/
abbrev KRow := List UInt8 × Bool × Bool × Bool
/-- The kinds of events. -/
def kRows : List KRow := [([105, 110], true, false, false), ([111, 117, 116], true, false, false), ([100, 114, 111, 112, 32, 105, 110], false, false, false), ([100, 114, 111, 112, 32, 111, 117, 116], false, false, false), ([116, 105, 99, 107], false, true, false), ([114, 111, 111, 109], false, true, false), ([102, 97, 105, 108, 115, 121, 110, 99], false, true, false), ([97, 114, 109], false, true, true), ([112, 111, 119, 101, 114], false, false, true)]
def kVals (r : KRow) : List Value := [.string ⟨r.1.toArray⟩, .bool r.2.1, .bool r.2.2.1, .bool r.2.2.2]
def kDat {H : Type} (r : KRow) : DataW H := .agg [.lit (.string r.1), .lit (.bool r.2.1), .lit (.bool r.2.2.1), .lit (.bool r.2.2.2)]
theorem row_cells {H : Type} {enc : TypeId × Value → H} {P : Program} {w : World} {base : Nat} {sp : Nat → Bool} {held : Bool} {fuel : Nat} {t : TypeId} {f0 f1 f2 f3 : Field} {r : KRow} {cs : List Value} {p : List MemPlace}
    (ht : P.underlying t = some (.struct #[f0, f1, f2, f3])) (hc : P.cellsOf t = 4) (o0 : f0.offset = 0) (o1 : f1.offset = 1) (o2 : f2.offset = 2) (o3 : f3.offset = 3)
    (c0 : P.cellsOf f0.type = 1) (c1 : P.cellsOf f1.type = 1) (c2 : P.cellsOf f2.type = 1) (c3 : P.cellsOf f3.type = 1)
    (u0 : P.underlying f0.type = some .string) (u1 : P.underlying f1.type = some .bool) (u2 : P.underlying f2.type = some .bool) (u3 : P.underlying f3.type = some .bool)
    (h : DataW.trod enc P w base sp held fuel t cs = some (kDat r, p)) : cs = kVals r := by
  obtain ⟨xs, n, rfl, hx, hl, _, hf⟩ := DataW.trod_struct ht h
  have hxs : xs.map (·.1) = [.lit (.string r.1), .lit (.bool r.2.1), .lit (.bool r.2.2.1), .lit (.bool r.2.2.2)] := by
    have := congrArg Prod.fst hx
    simpa [kDat] using this.symm
  rw [hc] at hl
  match cs, hl with
  | [v0, v1, v2, v3], _ =>
    have e0 := hf 0 f0 rfl
    have e1 := hf 1 f1 rfl
    have e2 := hf 2 f2 rfl
    have e3 := hf 3 f3 rfl
    rw [o0, c0] at e0
    rw [o1, c1] at e1
    rw [o2, c2] at e2
    rw [o3, c3] at e3
    match xs, hxs with
    | [a0, a1, a2, a3], hxs =>
      simp only [List.map_cons, List.map_nil, List.cons.injEq, and_true] at hxs
      obtain ⟨x0, x1, x2, x3⟩ := hxs
      obtain ⟨s, q0, rfl, _⟩ := DataW.trod_string u0 e0
      obtain ⟨b1, q1, rfl⟩ := DataW.trod_bool u1 e1
      obtain ⟨b2, q2, rfl⟩ := DataW.trod_bool u2 e2
      obtain ⟨b3, q3, rfl⟩ := DataW.trod_bool u3 e3
      simp only [DataW.lit.injEq, Lit.string.injEq, Lit.bool.injEq] at x0 x1 x2 x3
      have q0' : v0 = .string s := by simpa using q0
      have q1' : v1 = .bool b1 := by simpa using q1
      have q2' : v2 = .bool b2 := by simpa using q2
      have q3' : v3 = .bool b3 := by simpa using q3
      subst q0' q1' q2' q3'
      unfold kVals
      rw [← x0, ← x1, ← x2, ← x3]
theorem nine_cells {cs : List Value} (hl : cs.length = 36) (h : ∀ i, (hi : i < 9) → (cs.drop (i * 4)).take 4 = kVals (kRows[i]'hi)) : cs = kRows.flatMap kVals := by
  have st : ∀ i, (hi : i < 9) → cs.drop (i * 4) = kVals (kRows[i]'hi) ++ cs.drop ((i + 1) * 4) := fun i hi => by
    have e := List.take_append_drop 4 (cs.drop (i * 4))
    rw [List.drop_drop] at e
    have e2 : i * 4 + 4 = (i + 1) * 4 := by omega
    rw [e2, h i hi] at e
    exact e.symm
  have z : cs = cs.drop (0 * 4) := by simp
  have zz : cs.drop (9 * 4) = [] := List.drop_of_length_le (by omega)
  rw [z, st 0 (by decide), st 1 (by decide), st 2 (by decide), st 3 (by decide), st 4 (by decide), st 5 (by decide), st 6 (by decide), st 7 (by decide), st 8 (by decide), zz]
  rfl
theorem cells_of_kinds {H : Type} {enc : TypeId × Value → H} {P : Program} {w : World} {base : Nat} {sp : Nat → Bool} {held : Bool} {fuel : Nat} {t e : TypeId} {f0 f1 f2 f3 : Field} {cs : List Value} {p : List MemPlace}
    (hta : P.underlying t = some (.array 9 e)) (hct : P.cellsOf t = 36) (ht : P.underlying e = some (.struct #[f0, f1, f2, f3])) (hc : P.cellsOf e = 4) (o0 : f0.offset = 0) (o1 : f1.offset = 1) (o2 : f2.offset = 2) (o3 : f3.offset = 3)
    (c0 : P.cellsOf f0.type = 1) (c1 : P.cellsOf f1.type = 1) (c2 : P.cellsOf f2.type = 1) (c3 : P.cellsOf f3.type = 1)
    (u0 : P.underlying f0.type = some .string) (u1 : P.underlying f1.type = some .bool) (u2 : P.underlying f2.type = some .bool) (u3 : P.underlying f3.type = some .bool)
    (h : DataW.trod enc P w base sp held fuel t cs = some (.agg (kRows.map kDat), p)) : cs = kRows.flatMap kVals := by
  cases fuel with
  | zero => simp [DataW.trod] at h
  | succ fuel =>
    simp only [DataW.trod, hta, hc, hct] at h
    split at h
    · rename_i hl
      obtain ⟨xs, hm, hx⟩ := Option.map_eq_some_iff.1 h
      have hxs : xs.map (·.1) = kRows.map (kDat : KRow → DataW H) := by
        have := congrArg Prod.fst hx
        simpa using this
      refine nine_cells hl fun i hi => ?_
      obtain ⟨b, hb, hf⟩ := Lib.mapM_at hm i i (by simp [hi])
      have h2 : (xs.map (·.1))[i]? = some b.1 := by simp [hb]
      have h3 : (kRows.map (kDat : KRow → DataW H))[i]? = some (kDat (kRows[i]'hi)) := by rw [List.getElem?_map, List.getElem?_eq_getElem hi]; rfl
      rw [hxs, h3] at h2
      have h4 := Option.some.inj h2
      obtain ⟨b1, b2⟩ := b
      subst h4
      exact row_cells ht hc o0 o1 o2 o3 c0 c1 c2 c3 u0 u1 u2 u3 hf
    · cases h
/-- The table's cells. -/
def kindsC : Array Value := (kRows.flatMap kVals).toArray
/-- The world bears the tables. -/
structure GlobT (w : World) : Prop where
  kinds : w.var? Tryd.prog "lamplighter/trace.kinds" = some kindsC
  pow : Lib.TabIs Tryd.prog w "internal/strconv.uint64pow10" .u64 Lib.pow10Tab
  syn : ∃ tp p, w.var? Tryd.prog "strconv.ErrSyntax" = some #[.iface tp p]
  ran : ∃ tp p, w.var? Tryd.prog "strconv.ErrRange" = some #[.iface tp p]
theorem globt_below {w W : World} (hG : GlobT w) (hb : Below w.heap.size w W) : GlobT W := by
  obtain ⟨g1, h1⟩ := Option.isSome_iff_exists.1 (show (Tryd.prog.globalNamed "lamplighter/trace.kinds").isSome = true by kernel_rfl)
  obtain ⟨g2, h2⟩ := Option.isSome_iff_exists.1 (show (Tryd.prog.globalNamed "internal/strconv.uint64pow10").isSome = true by kernel_rfl)
  obtain ⟨g3, h3⟩ := Option.isSome_iff_exists.1 (show (Tryd.prog.globalNamed "strconv.ErrSyntax").isSome = true by kernel_rfl)
  obtain ⟨g4, h4⟩ := Option.isSome_iff_exists.1 (show (Tryd.prog.globalNamed "strconv.ErrRange").isSome = true by kernel_rfl)
  obtain ⟨a, b, hs⟩ := hG.syn
  obtain ⟨c, d, hr⟩ := hG.ran
  exact ⟨Go.Joins.var_stays h1 hG.kinds hb (Nat.le_refl _), Go.Joins.tab_stays h2 hG.pow hb (Nat.le_refl _), ⟨a, b, Go.Joins.var_stays h3 hs hb (Nat.le_refl _)⟩, ⟨c, d, Go.Joins.var_stays h4 hr hb (Nat.le_refl _)⟩⟩
theorem typed {P : Program} {n : String} {g : Nat} {t T : TypeId} (e : (P.globalNamed n).bind (fun g => (P.globals[g]?).map (·.type)) = some T) (h1 : P.globalNamed n = some g) (h2 : (P.globals[g]?).map (·.type) = some t) : t = T := by
  rw [h1] at e
  exact Option.some.inj (h2.symm.trans e)
theorem globt_laid {W : World} (h : laidMetH Tryd.prog Rows.traceBytesRow.laid W) : GlobT W := by
  have h0 : laidMet Tryd.prog Rows.traceBytesRow.laid W := h
  obtain ⟨ps, hv, _⟩ := h0
  refine ⟨?_, ?_, ?_, ?_⟩
  · obtain ⟨g, t, cs, fuel, p, hg, ht, hvar, hd⟩ := laid_at hv (n := "lamplighter/trace.kinds") (d := .agg (kRows.map kDat)) (List.mem_of_getElem? (i := 6) (by kernel_rfl))
    obtain rfl := typed (T := 69) (by kernel_rfl) hg ht
    have hc := cells_of_kinds Tryd.underlying69 (by kernel_rfl) Tryd.underlying68 (by kernel_rfl) rfl rfl rfl rfl (by kernel_rfl) (by kernel_rfl) (by kernel_rfl) (by kernel_rfl) Tryd.underlying9 Tryd.underlying4 Tryd.underlying4 Tryd.underlying4 hd
    rw [hvar]
    unfold kindsC
    rw [← hc]
  · obtain ⟨g, t, cs, fuel, p, hg, ht, hvar, hd⟩ := laid_at hv (n := "internal/strconv.uint64pow10") (d := Lib.tabData .u64 Lib.pow10Tab) (List.mem_of_getElem? (i := 2) (by kernel_rfl))
    obtain rfl := typed (T := 112) (by kernel_rfl) hg ht
    have hc := Lib.cells_of_tab Tryd.underlying112 Tryd.underlying102 (by kernel_rfl) (by kernel_rfl) hd
    unfold Lib.TabIs
    rw [hvar, ← hc]
  · obtain ⟨g, t, cs, fuel, p, hg, ht, hvar, hd⟩ := laid_at hv (n := "strconv.ErrSyntax") (d := .iface "*errors.errorString" (.ptr (.agg [.lit (.string [105, 110, 118, 97, 108, 105, 100, 32, 115, 121, 110, 116, 97, 120])]))) (List.mem_of_getElem? (i := 5) (by kernel_rfl))
    obtain rfl := typed (T := 61) (by kernel_rfl) hg ht
    obtain ⟨_, u, v, hc, _, _⟩ := iface_of_trod Tryd.underlying61 hd
    exact ⟨u, v, by rw [hvar, ← Array.toArray_toList (xs := cs), hc]⟩
  · obtain ⟨g, t, cs, fuel, p, hg, ht, hvar, hd⟩ := laid_at hv (n := "strconv.ErrRange") (d := .iface "*errors.errorString" (.ptr (.agg [.lit (.string [118, 97, 108, 117, 101, 32, 111, 117, 116, 32, 111, 102, 32, 114, 97, 110, 103, 101])]))) (List.mem_of_getElem? (i := 4) (by kernel_rfl))
    obtain rfl := typed (T := 61) (by kernel_rfl) hg ht
    obtain ⟨_, u, v, hc, _, _⟩ := iface_of_trod Tryd.underlying61 hd
    exact ⟨u, v, by rw [hvar, ← Array.toArray_toList (xs := cs), hc]⟩
end Go.Proofs.YtoloooammaiipaaDoor
/- What trace's (kind).fill gives: walks, one for each kind of kinds; conditions: the tables lie as the program's text lays them. -/
namespace Go.Proofs.YtoloooammaiipaaDoor
open Go Go.RowKit Go.Proofs.YtoloooammaiipaaDoor.PI Go.Proofs.YtoloooammaiipaaDoorW.PrintWords Go.Proofs.YtoloooammaiipaaDoorW.PrintLast Go.Proofs.YtoloooammaiipaaDoorW.PrintMore
set_option linter.unusedVariables false
set_option linter.unusedSimpArgs false
def Txts (lo hi : Nat) (w : World) (A : Option Addr) (ws : List ByteArray) : Prop := ws ≠ [] → ∃ ab ao, A = some ⟨ab, ao, none⟩ ∧ lo < ab ∧ ab < hi ∧ ∀ i, (h : i < ws.length) → w.cell? ⟨ab, ao + i, none⟩ = some (.string (ws[i]'h))
theorem cell_same {W W' : World} {b : Nat} (h : W'.heap[b]? = W.heap[b]?) (i : Nat) : W'.cell? ⟨b, i, none⟩ = W.cell? ⟨b, i, none⟩ := by simp [World.cell?, h]
theorem Txts.same {lo hi : Nat} {W W' : World} {A : Option Addr} {ws : List ByteArray} (h : Txts lo hi W A ws) (hs : ∀ j, lo < j → j < hi → W'.heap[j]? = W.heap[j]?) : Txts lo hi W' A ws := fun hn => by
  obtain ⟨ab, ao, e, h1, h2, h3⟩ := h hn
  exact ⟨ab, ao, e, h1, h2, fun i hi => (cell_same (hs ab h1 h2) _).trans (h3 i hi)⟩
def NextPost (lo hi b : Nat) (ws : List ByteArray) (w : World) (e : Ending) (w' : World) : Prop :=
  e = .returned (.string (ws.headD ⟨#[]⟩)) ∧ ∃ A' c', w'.heap[b]? = some (.cells #[.slice A' ws.tail.length c'] 75 (0, 0)) ∧ Txts lo hi w' A' ws.tail ∧ ws.tail.length ≤ c' ∧ Below b w w' ∧ (∀ j, j ≠ b → w'.heap[j]? = w.heap[j]?) ∧ w'.heap.size = w.heap.size
theorem next_any (lo hi b : Nat) (hib : hi ≤ b) (A : Option Addr) (c : Nat) (ws : List ByteArray) (w : World) (hk : w.heap[b]? = some (.cells #[.slice A ws.length c] 75 (0, 0))) (hT : Txts lo hi w A ws) (hc : ws.length ≤ c) (hl : ws.length ≤ 1000000) :
    Calls Tryd.prog 47 #[.pointer (some ⟨b, 0, none⟩)] w (NextPost lo hi b ws w) := by
  cases ws with
  | nil =>
    refine (next_none b A c w hk).mono ?_
    rintro e w' ⟨rfl, rfl⟩
    exact ⟨rfl, A, c, hk, fun h => absurd rfl h, hc, Below.refl _ _, fun _ _ => rfl, rfl⟩
  | cons x r =>
    obtain ⟨ab, ao, rfl, hlo, hlt, hcell⟩ := hT (by simp)
    obtain ⟨m, rfl⟩ : ∃ m, c = m + 1 := ⟨c - 1, by simp at hc; omega⟩
    have hrm : r.length ≤ m := by simpa using hc
    have hx : w.cell? ⟨ab, ao, none⟩ = some (.string x) := hcell 0 (by simp)
    have hne : ab ≠ b := by omega
    refine (next_some b ab ao r.length m x w hk hx hrm (by simp at hl; omega)).mono ?_
    rintro e w' ⟨rfl, rfl⟩
    refine ⟨rfl, _, m, (blk_set (blk_drew hk) 0 _).trans rfl, fun hr => ?_, hrm, (below_drew (Below.refl b w)).setCell (Nat.le_refl b) _, fun j hj => Below.heap_setCell w.drew ⟨b, 0, none⟩ _ j hj, ?_⟩
    · have hm : m ≠ 0 := by
        rintro rfl
        exact hr (List.eq_nil_of_length_eq_zero (by simpa using hrm))
      rw [if_neg hm]
      refine ⟨ab, ao + 1, rfl, hlo, hlt, fun i hi => ?_⟩
      · have h1 := hcell (i + 1) (by simp at hi ⊢; omega)
        have h2 : (w.drew.setCell ⟨b, 0, none⟩ (.slice (some ⟨ab, ao + 1, none⟩) r.length m)).cell? ⟨ab, ao + 1 + i, none⟩ = w.drew.cell? ⟨ab, ao + 1 + i, none⟩ := Go.Proofs.YtoloooammaiipaaDoorW.PrintWords.cell_far (W := w.drew) (p := ⟨b, 0, none⟩) (a := ⟨ab, ao + 1 + i, none⟩) hne _
        have e3 : ao + (i + 1) = ao + 1 + i := by omega
        rw [e3] at h1
        exact h2.trans h1
    · simp
theorem numOf_is (s : ByteArray) : numOf s = (match numL s.data.toList with | some v => (v, true) | none => (0, false)) := by
  unfold numOf numL
  rw [len_size]
  cases Lib.atoiAll s.data.toList with
  | ok v =>
    simp only
    by_cases q : Lib.itoa v = s.data.toList ∧ (if s.data.toList.head? = some 45 then s.size - 1 else s.size) ≤ 18
    · rw [if_pos q, if_pos q]
    · rw [if_neg q, if_neg q]
  | range => rfl
  | _ => rfl
def FillPost (i : Int) (o : Option (List Int × Int × Int)) (eb : Nat) (w : World) (e : Ending) (w' : World) : Prop :=
  Below eb w w' ∧ match o with
  | some (a, n, k) => e = .returned (.bool true) ∧ ∃ dv, w'.heap[eb]? = some (.cells #[.int .i64 i, .int .i64 n, .int .i64 k, dv] 29 (0, 0)) ∧ Kd.R (Kd.int .u8) 5 w' w.heap.size (fun _ => True) dv a
  | none => e = .returned (.bool false)
/-- A field that a kind may have. -/
def takeW {α : Type} (f : Bool) (g : List UInt8 → Option α) (z : α) (w : List ByteArray) : Option (α × List ByteArray) := if f then (g (w.headD ⟨#[]⟩).data.toList).map fun x => (x, w.tail) else some (z, w)
/-- What a kind's words tell. -/
def fillO (d c k : Bool) (w : List ByteArray) : Option (List Int × Int × Int) :=
  (takeW d bytesO [] w).bind fun p => (takeW c numL 0 p.2).bind fun q => (takeW k numL 0 q.2).bind fun z => if z.2.length = 0 then some (p.1, q.1, z.1) else none
theorem next_number {s : ByteArray} (hs : s.size ≤ 1000000) {w : World} (hG : GlobT w) :
    Calls Tryd.prog 48 #[.string s] w fun e w' => e = .returned (.tuple #[.int .i64 (match numL s.data.toList with | some v => v | none => 0), .bool (numL s.data.toList).isSome]) ∧ Below w.heap.size w w' := by
  obtain ⟨a, b, h1⟩ := hG.syn
  obtain ⟨c, d, h2⟩ := hG.ran
  refine (number_walk s hs w hG.pow a b h1 c d h2).mono ?_
  rintro e w' ⟨rfl, hb⟩
  rw [numOf_is]
  refine ⟨?_, hb⟩
  cases numL s.data.toList <;> rfl
/-- What a walk of fill knows of its world. -/
structure FS (kb eb : Nat) (words : ByteArray) (d c k : Bool) (w W : World) (ev : Array Value) (A : Option Addr) (ws : List ByteArray) (cp : Nat) : Prop where
  kk : W.heap[kb]? = some (.cells #[.string words, .bool d, .bool c, .bool k] 68 (0, 0))
  kw : W.heap[kb + 1]? = some (.cells #[.slice A ws.length cp] 75 (0, 0))
  ee : W.heap[eb]? = some (.cells ev 29 (0, 0))
  tt : Txts eb kb W A ws
  cc : ws.length ≤ cp
  bb : Below eb w W
  lt : eb < kb
theorem FS.next {kb eb : Nat} {words : ByteArray} {d c k : Bool} {w W : World} {ev : Array Value} {A : Option Addr} {ws : List ByteArray} {cp : Nat} (h : FS kb eb words d c k w W ev A ws cp) (hl : ws.length ≤ 1000000) :
    Calls Tryd.prog 47 #[.pointer (some ⟨kb + 1, 0, none⟩)] W fun e W' => ∃ x, Hid (x = ws.headD ⟨#[]⟩) ∧ e = .returned (.string x) ∧ ∃ A' cp', FS kb eb words d c k w W' ev A' ws.tail cp' := by
  refine (next_any eb kb (kb + 1) (Nat.le_succ _) A cp ws W h.kw h.tt h.cc hl).mono ?_
  rintro e W' ⟨rfl, A', c', k1, T1, hc1, hb1, hf1, hs1⟩
  have := h.lt
  exact ⟨_, Lib.hid rfl, rfl, A', c', (hf1 kb (by omega)).trans h.kk, k1, (hf1 eb (by omega)).trans h.ee, T1, hc1, h.bb.trans (hb1.mono (by omega)), h.lt⟩
theorem FS.below {kb eb : Nat} {words : ByteArray} {d c k : Bool} {w W W' : World} {ev : Array Value} {A : Option Addr} {ws : List ByteArray} {cp : Nat} (h : FS kb eb words d c k w W ev A ws cp) (hb : Below W.heap.size W W') : FS kb eb words d c k w W' ev A ws cp := by
  have h1 := blk_lt h.kw
  have := h.lt
  exact ⟨blk_below h.kk hb, blk_below h.kw hb, blk_below h.ee hb, h.tt.same fun j _ hj => hb.block j (by omega), h.cc, h.bb.trans (hb.mono (by omega)), h.lt⟩
theorem FS.set {kb eb : Nat} {words : ByteArray} {d c k : Bool} {w W : World} {ev : Array Value} {A : Option Addr} {ws : List ByteArray} {cp : Nat} (h : FS kb eb words d c k w W ev A ws cp) (j : Nat) (v : Value) : FS kb eb words d c k w (W.setCell ⟨eb, j, none⟩ v) (ev.setIfInBounds j v) A ws cp := by
  have := h.lt
  exact ⟨blk_far h.kk (by show kb ≠ eb; omega) v, blk_far h.kw (by show kb + 1 ≠ eb; omega) v, blk_set h.ee j v, h.tt.same fun i hi _ => Below.heap_setCell W ⟨eb, j, none⟩ v i (by show i ≠ eb; omega), h.cc, h.bb.setCell (Nat.le_refl _) v, h.lt⟩
theorem FS.start {eb : Nat} {words : ByteArray} {d c k : Bool} {w : World} {ev : Array Value} {A : Option Addr} {ws : List ByteArray} {cp : Nat} (he : w.heap[eb]? = some (.cells ev 29 (0, 0))) (hT : Txts eb w.heap.size w A ws) (hc : ws.length ≤ cp) :
    FS w.heap.size eb words d c k w ((w.alloc (.cells #[.string words, .bool d, .bool c, .bool k] 68 (0, 0))).alloc (.cells #[.slice A ws.length cp] 75 (0, 0))) ev A ws cp := by
  have h1 := blk_lt he
  have hb : Below w.heap.size w ((w.alloc (.cells #[.string words, .bool d, .bool c, .bool k] 68 (0, 0))).alloc (.cells #[.slice A ws.length cp] 75 (0, 0))) := below_alloc (below_alloc (Below.refl _ _) _) _
  refine ⟨blk_alloc (blk_new w _) _, ?_, blk_below he hb, hT.same fun j _ hj => hb.block j hj, hc, hb.mono (by omega), h1⟩
  have := blk_new (w.alloc (.cells #[.string words, .bool d, .bool c, .bool k] 68 (0, 0))) (.cells #[.slice A ws.length cp] 75 (0, 0))
  simpa using this
theorem below_mono {B B' : Nat} {w W : World} (h : Below B w W) (hb : B' ≤ B) : Below B' w W := ⟨h.os, h.tape, h.output, h.size, fun k hk => h.block k (by omega)⟩
end Go.Proofs.YtoloooammaiipaaDoor
/- What trace's (kind).fill gives: walks, one for each set of fields that a kind has; conditions: the tables lie as the program's text lays them. -/
namespace Go.Proofs.YtoloooammaiipaaDoor
open Go Go.RowKit Go.Proofs.YtoloooammaiipaaDoor.PI Go.Proofs.YtoloooammaiipaaDoorW.PrintWords Go.Proofs.YtoloooammaiipaaDoorW.PrintLast Go.Proofs.YtoloooammaiipaaDoorW.PrintMore
set_option linter.unusedVariables false
set_option linter.unusedSimpArgs false
theorem head_small {ws : List ByteArray} {x : ByteArray} (ex : x = ws.headD ⟨#[]⟩) (h : ∀ x ∈ ws, x.size ≤ 1000000) : x.size ≤ 1000000 := by
  rw [ex]
  cases ws with
  | nil => exact Nat.zero_le _
  | cons x r => exact h x List.mem_cons_self
theorem tail_small {ws : List ByteArray} (h : ∀ x ∈ ws, x.size ≤ 1000000) : ∀ x ∈ ws.tail, x.size ≤ 1000000 := fun x hx => h x (List.mem_of_mem_tail hx)
theorem tail_len {ws : List ByteArray} (h : ws.length ≤ 1000000) : ws.tail.length ≤ 1000000 := by rw [List.length_tail]; omega
theorem takeW_off {α : Type} (g : List UInt8 → Option α) (z : α) (w : List ByteArray) : takeW false g z w = some (z, w) := rfl
theorem takeW_ok {α : Type} {g : List UInt8 → Option α} {z v : α} {w : List ByteArray} {x : ByteArray} (ex : x = w.headD ⟨#[]⟩) (h : g x.data.toList = some v) : takeW true g z w = some (v, w.tail) := by
  unfold takeW
  rw [if_pos rfl, ← ex, h]
  rfl
theorem takeW_no {α : Type} {g : List UInt8 → Option α} {z : α} {w : List ByteArray} {x : ByteArray} (ex : x = w.headD ⟨#[]⟩) (h : g x.data.toList = none) : takeW true g z w = none := by
  unfold takeW
  rw [if_pos rfl, ← ex, h]
  rfl
set_option maxHeartbeats 4000000 in
set_option maxRecDepth 100000 in
theorem fill_d (words : ByteArray) (i : Int) (eb : Nat) (A : Option Addr) (c : Nat) (ws : List ByteArray) (w : World) (he : w.heap[eb]? = some (.cells #[.int .i64 i, .int .i64 0, .int .i64 0, .slice none 0 0] 29 (0, 0))) (hT : Txts eb w.heap.size w A ws) (hc : ws.length ≤ c) (hl : ws.length ≤ 1000000) (hx : ∀ x ∈ ws, x.size ≤ 1000000) (hG : ∀ W, Below eb w W → GlobT W) :
    Calls Tryd.prog 33 #[.agg #[.string words, .bool true, .bool false, .bool false], .pointer (some ⟨eb, 0, none⟩), .slice A ws.length c] w (FillPost i (fillO true false false ws) eb w) := by
  have HX := Lib.hid hx
  have HG := Lib.hid hG
  have HL := Lib.hid hl
  have F0 := Lib.hid (FS.start (words := words) (d := true) (c := false) (k := false) he hT hc)
  clear hx hG he hT hc hl
  go_enter Tryd.func33, Tryd.ntmps33
  go_wp2_with fail
  refine (F0.out.next HL.out).mono ?_
  rintro e V1 ⟨x1, ex1, rfl, A1, c1, h1⟩
  have H1 := Lib.hid h1
  clear h1 F0
  have hs1 : x1.size ≤ 1000000 := head_small ex1.out HX.out
  go_wp2_with fail
  cases hn : bytesO x1.data.toList with
  | none =>
    have hb1 := bytes_is x1 hs1 (x1.size + 2) (Nat.le_refl _)
    rw [hn] at hb1
    have hn1 := Lib.hid hn
    clear hn
    refine (trace_Bytes.calls _ x1 _ _ V1 hb1).mono ?_
    rintro e W1 ⟨v0, rfl, hR, hb⟩
    have F1 := Lib.hid (H1.out.below hb)
    have RV := Lib.hid hR
    have FB := H1
    clear hb H1 hR hb1
    obtain ⟨Ad, cd, rfl⟩ := Kd.R_slice RV.out
    have e3 := cell_of_cells F1.out.ee 3
    simp only [List.setIfInBounds_toArray, List.set_cons_zero, List.set_cons_succ, List.getElem?_toArray, List.getElem?_cons_succ, List.getElem?_cons_zero] at e3
    have fz3 := blk_frozen F1.out.ee 3
    have lt := blk_lt F1.out.ee
    have ne := F1.out.lt
    have ne1 : ¬ (w.heap.size + 1 = eb) := by omega
    have ne2 : ¬ (w.heap.size = eb) := by omega
    have kk0 := cell_of_cells F1.out.kk 0
    simp only [List.getElem?_toArray, List.getElem?_cons_succ, List.getElem?_cons_zero] at kk0
    have kk1 := cell_of_cells F1.out.kk 1
    simp only [List.getElem?_toArray, List.getElem?_cons_succ, List.getElem?_cons_zero] at kk1
    have kk2 := cell_of_cells F1.out.kk 2
    simp only [List.getElem?_toArray, List.getElem?_cons_succ, List.getElem?_cons_zero] at kk2
    have kk3 := cell_of_cells F1.out.kk 3
    simp only [List.getElem?_toArray, List.getElem?_cons_succ, List.getElem?_cons_zero] at kk3
    have kw := cell_of_cells F1.out.kw 0
    simp only [List.getElem?_toArray, List.getElem?_cons_succ, List.getElem?_cons_zero] at kw
    go_wp2_with fail
    go_ret
    refine ⟨(F1.out.set 3 (.slice Ad _ cd)).bb, ?_⟩
    unfold fillO
    rw [takeW_no ex1.out hn1.out, Option.bind_none]
    rfl
  | some l =>
    have hb1 := bytes_is x1 hs1 (x1.size + 2) (Nat.le_refl _)
    rw [hn] at hb1
    have hn1 := Lib.hid hn
    clear hn
    refine (trace_Bytes.calls _ x1 _ _ V1 hb1).mono ?_
    rintro e W1 ⟨v0, rfl, hR, hb⟩
    have F1 := Lib.hid (H1.out.below hb)
    have RV := Lib.hid hR
    have FB := H1
    clear hb H1 hR hb1
    obtain ⟨Ad, cd, rfl⟩ := Kd.R_slice RV.out
    have e3 := cell_of_cells F1.out.ee 3
    simp only [List.setIfInBounds_toArray, List.set_cons_zero, List.set_cons_succ, List.getElem?_toArray, List.getElem?_cons_succ, List.getElem?_cons_zero] at e3
    have fz3 := blk_frozen F1.out.ee 3
    have lt := blk_lt F1.out.ee
    have ne := F1.out.lt
    have ne1 : ¬ (w.heap.size + 1 = eb) := by omega
    have ne2 : ¬ (w.heap.size = eb) := by omega
    have kk0 := cell_of_cells F1.out.kk 0
    simp only [List.getElem?_toArray, List.getElem?_cons_succ, List.getElem?_cons_zero] at kk0
    have kk1 := cell_of_cells F1.out.kk 1
    simp only [List.getElem?_toArray, List.getElem?_cons_succ, List.getElem?_cons_zero] at kk1
    have kk2 := cell_of_cells F1.out.kk 2
    simp only [List.getElem?_toArray, List.getElem?_cons_succ, List.getElem?_cons_zero] at kk2
    have kk3 := cell_of_cells F1.out.kk 3
    simp only [List.getElem?_toArray, List.getElem?_cons_succ, List.getElem?_cons_zero] at kk3
    have kw := cell_of_cells F1.out.kw 0
    simp only [List.getElem?_toArray, List.getElem?_cons_succ, List.getElem?_cons_zero] at kw
    by_cases hz : ws.tail.length = 0
    · have hz := hz
      have hz1 : ((ws.tail.length : Nat) : Int) = 0 := by omega
      have HZ := Lib.hid hz
      clear hz
      go_wp2_with fail
      go_ret
      refine ⟨(F1.out.set 3 (.slice Ad _ cd)).bb, ?_⟩
      unfold fillO
      rw [takeW_ok ex1.out hn1.out, Option.bind_some]
      rw [takeW_off, Option.bind_some]
      rw [takeW_off, Option.bind_some]
      rw [if_pos HZ.out]
      refine ⟨rfl, _, (F1.out.set 3 (.slice Ad _ cd)).ee, ?_⟩
      exact Kd.R_set (Kd.R_lower RV.out (by have := FB.out.bb.size; omega)) F1.out.ee (fun q hq => by simp only [List.mem_cons, Kd.int, Kd.scalar, List.not_mem_nil, or_false] at hq; subst hq; decide) _ _
    · have hz := hz
      have hz1 : ¬ ((ws.tail.length : Nat) : Int) = 0 := by omega
      have HZ := Lib.hid hz
      clear hz
      go_wp2_with fail
      go_ret
      refine ⟨(F1.out.set 3 (.slice Ad _ cd)).bb, ?_⟩
      unfold fillO
      rw [takeW_ok ex1.out hn1.out, Option.bind_some]
      rw [takeW_off, Option.bind_some]
      rw [takeW_off, Option.bind_some]
      rw [if_neg HZ.out]
      have hf : (((ws.tail.length : Nat) : Int) == 0) = false := beq_eq_false_iff_ne.2 hz1
      try simp only [List.length_tail] at hf
      exact congrArg (fun b => Ending.returned (Value.bool b)) hf
set_option maxHeartbeats 4000000 in
set_option maxRecDepth 100000 in
theorem fill_z (words : ByteArray) (i : Int) (eb : Nat) (A : Option Addr) (c : Nat) (ws : List ByteArray) (w : World) (he : w.heap[eb]? = some (.cells #[.int .i64 i, .int .i64 0, .int .i64 0, .slice none 0 0] 29 (0, 0))) (hT : Txts eb w.heap.size w A ws) (hc : ws.length ≤ c) (hl : ws.length ≤ 1000000) (hx : ∀ x ∈ ws, x.size ≤ 1000000) (hG : ∀ W, Below eb w W → GlobT W) :
    Calls Tryd.prog 33 #[.agg #[.string words, .bool false, .bool false, .bool false], .pointer (some ⟨eb, 0, none⟩), .slice A ws.length c] w (FillPost i (fillO false false false ws) eb w) := by
  have HX := Lib.hid hx
  have HG := Lib.hid hG
  have HL := Lib.hid hl
  have F0 := Lib.hid (FS.start (words := words) (d := false) (c := false) (k := false) he hT hc)
  clear hx hG he hT hc hl
  go_enter Tryd.func33, Tryd.ntmps33
  have lt := blk_lt F0.out.ee
  have ne := F0.out.lt
  have ne1 : ¬ (w.heap.size + 1 = eb) := by omega
  have ne2 : ¬ (w.heap.size = eb) := by omega
  have kk0 := cell_of_cells F0.out.kk 0
  simp only [List.getElem?_toArray, List.getElem?_cons_succ, List.getElem?_cons_zero] at kk0
  have kk1 := cell_of_cells F0.out.kk 1
  simp only [List.getElem?_toArray, List.getElem?_cons_succ, List.getElem?_cons_zero] at kk1
  have kk2 := cell_of_cells F0.out.kk 2
  simp only [List.getElem?_toArray, List.getElem?_cons_succ, List.getElem?_cons_zero] at kk2
  have kk3 := cell_of_cells F0.out.kk 3
  simp only [List.getElem?_toArray, List.getElem?_cons_succ, List.getElem?_cons_zero] at kk3
  have kw := cell_of_cells F0.out.kw 0
  simp only [List.getElem?_toArray, List.getElem?_cons_succ, List.getElem?_cons_zero] at kw
  by_cases hz : ws.length = 0
  · have hz := hz
    obtain rfl := List.eq_nil_of_length_eq_zero hz
    have HZ := Lib.hid hz
    clear hz
    go_wp2_with fail
    go_ret
    refine ⟨F0.out.bb, ?_⟩
    unfold fillO
    rw [takeW_off, Option.bind_some]
    rw [takeW_off, Option.bind_some]
    rw [takeW_off, Option.bind_some]
    rw [if_pos HZ.out]
    refine ⟨rfl, _, F0.out.ee, ?_⟩
    exact Kd.R_nil _ _ _ _ _
  · have hz := hz
    have hz1 : ¬ ((ws.length : Nat) : Int) = 0 := by omega
    have HZ := Lib.hid hz
    clear hz
    go_wp2_with fail
    go_ret
    refine ⟨F0.out.bb, ?_⟩
    unfold fillO
    rw [takeW_off, Option.bind_some]
    rw [takeW_off, Option.bind_some]
    rw [takeW_off, Option.bind_some]
    rw [if_neg HZ.out]
    have hf : (((ws.length : Nat) : Int) == 0) = false := beq_eq_false_iff_ne.2 hz1
    try simp only [List.length_tail] at hf
    exact congrArg (fun b => Ending.returned (Value.bool b)) hf
set_option maxHeartbeats 4000000 in
set_option maxRecDepth 100000 in
theorem fill_c (words : ByteArray) (i : Int) (eb : Nat) (A : Option Addr) (c : Nat) (ws : List ByteArray) (w : World) (he : w.heap[eb]? = some (.cells #[.int .i64 i, .int .i64 0, .int .i64 0, .slice none 0 0] 29 (0, 0))) (hT : Txts eb w.heap.size w A ws) (hc : ws.length ≤ c) (hl : ws.length ≤ 1000000) (hx : ∀ x ∈ ws, x.size ≤ 1000000) (hG : ∀ W, Below eb w W → GlobT W) :
    Calls Tryd.prog 33 #[.agg #[.string words, .bool false, .bool true, .bool false], .pointer (some ⟨eb, 0, none⟩), .slice A ws.length c] w (FillPost i (fillO false true false ws) eb w) := by
  have HX := Lib.hid hx
  have HG := Lib.hid hG
  have HL := Lib.hid hl
  have F0 := Lib.hid (FS.start (words := words) (d := false) (c := true) (k := false) he hT hc)
  clear hx hG he hT hc hl
  go_enter Tryd.func33, Tryd.ntmps33
  go_wp2_with fail
  refine (F0.out.next HL.out).mono ?_
  rintro e V1 ⟨x1, ex1, rfl, A1, c1, h1⟩
  have H1 := Lib.hid h1
  clear h1 F0
  have hs1 : x1.size ≤ 1000000 := head_small ex1.out HX.out
  go_wp2_with fail
  refine (next_number hs1 (HG.out _ H1.out.bb)).mono ?_
  rintro e W1 ⟨he, hb⟩
  have F1 := Lib.hid (H1.out.below hb)
  clear hb H1
  cases hn : numL x1.data.toList with
  | none =>
    rw [hn] at he
    obtain rfl := he
    have hn1 := Lib.hid hn
    clear hn
    simp only [Option.isSome_none, Option.isSome_some]
    have e1 := cell_of_cells F1.out.ee 1
    simp only [List.setIfInBounds_toArray, List.set_cons_zero, List.set_cons_succ, List.getElem?_toArray, List.getElem?_cons_succ, List.getElem?_cons_zero] at e1
    have fz1 := blk_frozen F1.out.ee 1
    have lt := blk_lt F1.out.ee
    have ne := F1.out.lt
    have ne1 : ¬ (w.heap.size + 1 = eb) := by omega
    have ne2 : ¬ (w.heap.size = eb) := by omega
    have kk0 := cell_of_cells F1.out.kk 0
    simp only [List.getElem?_toArray, List.getElem?_cons_succ, List.getElem?_cons_zero] at kk0
    have kk1 := cell_of_cells F1.out.kk 1
    simp only [List.getElem?_toArray, List.getElem?_cons_succ, List.getElem?_cons_zero] at kk1
    have kk2 := cell_of_cells F1.out.kk 2
    simp only [List.getElem?_toArray, List.getElem?_cons_succ, List.getElem?_cons_zero] at kk2
    have kk3 := cell_of_cells F1.out.kk 3
    simp only [List.getElem?_toArray, List.getElem?_cons_succ, List.getElem?_cons_zero] at kk3
    have kw := cell_of_cells F1.out.kw 0
    simp only [List.getElem?_toArray, List.getElem?_cons_succ, List.getElem?_cons_zero] at kw
    go_wp2_with fail
    go_ret
    refine ⟨(F1.out.set 1 (.int .i64 0)).bb, ?_⟩
    unfold fillO
    rw [takeW_off, Option.bind_some]
    rw [takeW_no ex1.out hn1.out, Option.bind_none]
    rfl
  | some v1 =>
    rw [hn] at he
    obtain rfl := he
    have hn1 := Lib.hid hn
    clear hn
    simp only [Option.isSome_none, Option.isSome_some]
    have e1 := cell_of_cells F1.out.ee 1
    simp only [List.setIfInBounds_toArray, List.set_cons_zero, List.set_cons_succ, List.getElem?_toArray, List.getElem?_cons_succ, List.getElem?_cons_zero] at e1
    have fz1 := blk_frozen F1.out.ee 1
    have lt := blk_lt F1.out.ee
    have ne := F1.out.lt
    have ne1 : ¬ (w.heap.size + 1 = eb) := by omega
    have ne2 : ¬ (w.heap.size = eb) := by omega
    have kk0 := cell_of_cells F1.out.kk 0
    simp only [List.getElem?_toArray, List.getElem?_cons_succ, List.getElem?_cons_zero] at kk0
    have kk1 := cell_of_cells F1.out.kk 1
    simp only [List.getElem?_toArray, List.getElem?_cons_succ, List.getElem?_cons_zero] at kk1
    have kk2 := cell_of_cells F1.out.kk 2
    simp only [List.getElem?_toArray, List.getElem?_cons_succ, List.getElem?_cons_zero] at kk2
    have kk3 := cell_of_cells F1.out.kk 3
    simp only [List.getElem?_toArray, List.getElem?_cons_succ, List.getElem?_cons_zero] at kk3
    have kw := cell_of_cells F1.out.kw 0
    simp only [List.getElem?_toArray, List.getElem?_cons_succ, List.getElem?_cons_zero] at kw
    by_cases hz : ws.tail.length = 0
    · have hz := hz
      have hz1 : ((ws.tail.length : Nat) : Int) = 0 := by omega
      have HZ := Lib.hid hz
      clear hz
      go_wp2_with fail
      go_ret
      refine ⟨(F1.out.set 1 (.int .i64 v1)).bb, ?_⟩
      unfold fillO
      rw [takeW_off, Option.bind_some]
      rw [takeW_ok ex1.out hn1.out, Option.bind_some]
      rw [takeW_off, Option.bind_some]
      rw [if_pos HZ.out]
      refine ⟨rfl, _, (F1.out.set 1 (.int .i64 v1)).ee, ?_⟩
      exact Kd.R_nil _ _ _ _ _
    · have hz := hz
      have hz1 : ¬ ((ws.tail.length : Nat) : Int) = 0 := by omega
      have HZ := Lib.hid hz
      clear hz
      go_wp2_with fail
      go_ret
      refine ⟨(F1.out.set 1 (.int .i64 v1)).bb, ?_⟩
      unfold fillO
      rw [takeW_off, Option.bind_some]
      rw [takeW_ok ex1.out hn1.out, Option.bind_some]
      rw [takeW_off, Option.bind_some]
      rw [if_neg HZ.out]
      have hf : (((ws.tail.length : Nat) : Int) == 0) = false := beq_eq_false_iff_ne.2 hz1
      try simp only [List.length_tail] at hf
      exact congrArg (fun b => Ending.returned (Value.bool b)) hf
set_option maxHeartbeats 4000000 in
set_option maxRecDepth 100000 in
theorem fill_ck (words : ByteArray) (i : Int) (eb : Nat) (A : Option Addr) (c : Nat) (ws : List ByteArray) (w : World) (he : w.heap[eb]? = some (.cells #[.int .i64 i, .int .i64 0, .int .i64 0, .slice none 0 0] 29 (0, 0))) (hT : Txts eb w.heap.size w A ws) (hc : ws.length ≤ c) (hl : ws.length ≤ 1000000) (hx : ∀ x ∈ ws, x.size ≤ 1000000) (hG : ∀ W, Below eb w W → GlobT W) :
    Calls Tryd.prog 33 #[.agg #[.string words, .bool false, .bool true, .bool true], .pointer (some ⟨eb, 0, none⟩), .slice A ws.length c] w (FillPost i (fillO false true true ws) eb w) := by
  have HX := Lib.hid hx
  have HG := Lib.hid hG
  have HL := Lib.hid hl
  have F0 := Lib.hid (FS.start (words := words) (d := false) (c := true) (k := true) he hT hc)
  clear hx hG he hT hc hl
  go_enter Tryd.func33, Tryd.ntmps33
  go_wp2_with fail
  refine (F0.out.next HL.out).mono ?_
  rintro e V1 ⟨x1, ex1, rfl, A1, c1, h1⟩
  have H1 := Lib.hid h1
  clear h1 F0
  have hs1 : x1.size ≤ 1000000 := head_small ex1.out HX.out
  go_wp2_with fail
  refine (next_number hs1 (HG.out _ H1.out.bb)).mono ?_
  rintro e W1 ⟨he, hb⟩
  have F1 := Lib.hid (H1.out.below hb)
  clear hb H1
  cases hn : numL x1.data.toList with
  | none =>
    rw [hn] at he
    obtain rfl := he
    have hn1 := Lib.hid hn
    clear hn
    simp only [Option.isSome_none, Option.isSome_some]
    have e1 := cell_of_cells F1.out.ee 1
    simp only [List.setIfInBounds_toArray, List.set_cons_zero, List.set_cons_succ, List.getElem?_toArray, List.getElem?_cons_succ, List.getElem?_cons_zero] at e1
    have fz1 := blk_frozen F1.out.ee 1
    have lt := blk_lt F1.out.ee
    have ne := F1.out.lt
    have ne1 : ¬ (w.heap.size + 1 = eb) := by omega
    have ne2 : ¬ (w.heap.size = eb) := by omega
    have kk0 := cell_of_cells F1.out.kk 0
    simp only [List.getElem?_toArray, List.getElem?_cons_succ, List.getElem?_cons_zero] at kk0
    have kk1 := cell_of_cells F1.out.kk 1
    simp only [List.getElem?_toArray, List.getElem?_cons_succ, List.getElem?_cons_zero] at kk1
    have kk2 := cell_of_cells F1.out.kk 2
    simp only [List.getElem?_toArray, List.getElem?_cons_succ, List.getElem?_cons_zero] at kk2
    have kk3 := cell_of_cells F1.out.kk 3
    simp only [List.getElem?_toArray, List.getElem?_cons_succ, List.getElem?_cons_zero] at kk3
    have kw := cell_of_cells F1.out.kw 0
    simp only [List.getElem?_toArray, List.getElem?_cons_succ, List.getElem?_cons_zero] at kw
    go_wp2_with fail
    go_ret
    refine ⟨(F1.out.set 1 (.int .i64 0)).bb, ?_⟩
    unfold fillO
    rw [takeW_off, Option.bind_some]
    rw [takeW_no ex1.out hn1.out, Option.bind_none]
    rfl
  | some v1 =>
    rw [hn] at he
    obtain rfl := he
    have hn1 := Lib.hid hn
    clear hn
    simp only [Option.isSome_none, Option.isSome_some]
    have e1 := cell_of_cells F1.out.ee 1
    simp only [List.setIfInBounds_toArray, List.set_cons_zero, List.set_cons_succ, List.getElem?_toArray, List.getElem?_cons_succ, List.getElem?_cons_zero] at e1
    have fz1 := blk_frozen F1.out.ee 1
    have lt := blk_lt F1.out.ee
    have ne := F1.out.lt
    have ne1 : ¬ (w.heap.size + 1 = eb) := by omega
    have ne2 : ¬ (w.heap.size = eb) := by omega
    have kk0 := cell_of_cells F1.out.kk 0
    simp only [List.getElem?_toArray, List.getElem?_cons_succ, List.getElem?_cons_zero] at kk0
    have kk1 := cell_of_cells F1.out.kk 1
    simp only [List.getElem?_toArray, List.getElem?_cons_succ, List.getElem?_cons_zero] at kk1
    have kk2 := cell_of_cells F1.out.kk 2
    simp only [List.getElem?_toArray, List.getElem?_cons_succ, List.getElem?_cons_zero] at kk2
    have kk3 := cell_of_cells F1.out.kk 3
    simp only [List.getElem?_toArray, List.getElem?_cons_succ, List.getElem?_cons_zero] at kk3
    have kw := cell_of_cells F1.out.kw 0
    simp only [List.getElem?_toArray, List.getElem?_cons_succ, List.getElem?_cons_zero] at kw
    go_wp2_with fail
    have G2 := Lib.hid (F1.out.set 1 (.int .i64 v1))
    clear F1 fz1 e1 lt ne ne1 ne2 kw kk0 kk1 kk2 kk3
    refine (G2.out.next (tail_len HL.out)).mono ?_
    rintro e V2 ⟨x2, ex2, rfl, A2, c2, h2⟩
    have H2 := Lib.hid h2
    clear h2 G2
    have hs2 : x2.size ≤ 1000000 := head_small ex2.out (tail_small HX.out)
    go_wp2_with fail
    refine (next_number hs2 (HG.out _ H2.out.bb)).mono ?_
    rintro e W2 ⟨he, hb⟩
    have F2 := Lib.hid (H2.out.below hb)
    clear hb H2
    cases hn : numL x2.data.toList with
    | none =>
      rw [hn] at he
      obtain rfl := he
      have hn2 := Lib.hid hn
      clear hn
      simp only [Option.isSome_none, Option.isSome_some]
      have e2 := cell_of_cells F2.out.ee 2
      simp only [List.setIfInBounds_toArray, List.set_cons_zero, List.set_cons_succ, List.getElem?_toArray, List.getElem?_cons_succ, List.getElem?_cons_zero] at e2
      have fz2 := blk_frozen F2.out.ee 2
      have lt := blk_lt F2.out.ee
      have ne := F2.out.lt
      have ne1 : ¬ (w.heap.size + 1 = eb) := by omega
      have ne2 : ¬ (w.heap.size = eb) := by omega
      have kk0 := cell_of_cells F2.out.kk 0
      simp only [List.getElem?_toArray, List.getElem?_cons_succ, List.getElem?_cons_zero] at kk0
      have kk1 := cell_of_cells F2.out.kk 1
      simp only [List.getElem?_toArray, List.getElem?_cons_succ, List.getElem?_cons_zero] at kk1
      have kk2 := cell_of_cells F2.out.kk 2
      simp only [List.getElem?_toArray, List.getElem?_cons_succ, List.getElem?_cons_zero] at kk2
      have kk3 := cell_of_cells F2.out.kk 3
      simp only [List.getElem?_toArray, List.getElem?_cons_succ, List.getElem?_cons_zero] at kk3
      have kw := cell_of_cells F2.out.kw 0
      simp only [List.getElem?_toArray, List.getElem?_cons_succ, List.getElem?_cons_zero] at kw
      go_wp2_with fail
      go_ret
      refine ⟨(F2.out.set 2 (.int .i64 0)).bb, ?_⟩
      unfold fillO
      rw [takeW_off, Option.bind_some]
      rw [takeW_ok ex1.out hn1.out, Option.bind_some]
      rw [takeW_no ex2.out hn2.out, Option.bind_none]
      rfl
    | some v2 =>
      rw [hn] at he
      obtain rfl := he
      have hn2 := Lib.hid hn
      clear hn
      simp only [Option.isSome_none, Option.isSome_some]
      have e2 := cell_of_cells F2.out.ee 2
      simp only [List.setIfInBounds_toArray, List.set_cons_zero, List.set_cons_succ, List.getElem?_toArray, List.getElem?_cons_succ, List.getElem?_cons_zero] at e2
      have fz2 := blk_frozen F2.out.ee 2
      have lt := blk_lt F2.out.ee
      have ne := F2.out.lt
      have ne1 : ¬ (w.heap.size + 1 = eb) := by omega
      have ne2 : ¬ (w.heap.size = eb) := by omega
      have kk0 := cell_of_cells F2.out.kk 0
      simp only [List.getElem?_toArray, List.getElem?_cons_succ, List.getElem?_cons_zero] at kk0
      have kk1 := cell_of_cells F2.out.kk 1
      simp only [List.getElem?_toArray, List.getElem?_cons_succ, List.getElem?_cons_zero] at kk1
      have kk2 := cell_of_cells F2.out.kk 2
      simp only [List.getElem?_toArray, List.getElem?_cons_succ, List.getElem?_cons_zero] at kk2
      have kk3 := cell_of_cells F2.out.kk 3
      simp only [List.getElem?_toArray, List.getElem?_cons_succ, List.getElem?_cons_zero] at kk3
      have kw := cell_of_cells F2.out.kw 0
      simp only [List.getElem?_toArray, List.getElem?_cons_succ, List.getElem?_cons_zero] at kw
      by_cases hz : ws.tail.tail.length = 0
      · have hz := hz
        have hz1 : ((ws.tail.tail.length : Nat) : Int) = 0 := by omega
        have HZ := Lib.hid hz
        clear hz
        go_wp2_with fail
        go_ret
        refine ⟨(F2.out.set 2 (.int .i64 v2)).bb, ?_⟩
        unfold fillO
        rw [takeW_off, Option.bind_some]
        rw [takeW_ok ex1.out hn1.out, Option.bind_some]
        rw [takeW_ok ex2.out hn2.out, Option.bind_some]
        rw [if_pos HZ.out]
        refine ⟨rfl, _, (F2.out.set 2 (.int .i64 v2)).ee, ?_⟩
        exact Kd.R_nil _ _ _ _ _
      · have hz := hz
        have hz1 : ¬ ((ws.tail.tail.length : Nat) : Int) = 0 := by omega
        have HZ := Lib.hid hz
        clear hz
        go_wp2_with fail
        go_ret
        refine ⟨(F2.out.set 2 (.int .i64 v2)).bb, ?_⟩
        unfold fillO
        rw [takeW_off, Option.bind_some]
        rw [takeW_ok ex1.out hn1.out, Option.bind_some]
        rw [takeW_ok ex2.out hn2.out, Option.bind_some]
        rw [if_neg HZ.out]
        have hf : (((ws.tail.tail.length : Nat) : Int) == 0) = false := beq_eq_false_iff_ne.2 hz1
        try simp only [List.length_tail] at hf
        exact congrArg (fun b => Ending.returned (Value.bool b)) hf
set_option maxHeartbeats 4000000 in
set_option maxRecDepth 100000 in
theorem fill_k (words : ByteArray) (i : Int) (eb : Nat) (A : Option Addr) (c : Nat) (ws : List ByteArray) (w : World) (he : w.heap[eb]? = some (.cells #[.int .i64 i, .int .i64 0, .int .i64 0, .slice none 0 0] 29 (0, 0))) (hT : Txts eb w.heap.size w A ws) (hc : ws.length ≤ c) (hl : ws.length ≤ 1000000) (hx : ∀ x ∈ ws, x.size ≤ 1000000) (hG : ∀ W, Below eb w W → GlobT W) :
    Calls Tryd.prog 33 #[.agg #[.string words, .bool false, .bool false, .bool true], .pointer (some ⟨eb, 0, none⟩), .slice A ws.length c] w (FillPost i (fillO false false true ws) eb w) := by
  have HX := Lib.hid hx
  have HG := Lib.hid hG
  have HL := Lib.hid hl
  have F0 := Lib.hid (FS.start (words := words) (d := false) (c := false) (k := true) he hT hc)
  clear hx hG he hT hc hl
  go_enter Tryd.func33, Tryd.ntmps33
  go_wp2_with fail
  refine (F0.out.next HL.out).mono ?_
  rintro e V1 ⟨x1, ex1, rfl, A1, c1, h1⟩
  have H1 := Lib.hid h1
  clear h1 F0
  have hs1 : x1.size ≤ 1000000 := head_small ex1.out HX.out
  go_wp2_with fail
  refine (next_number hs1 (HG.out _ H1.out.bb)).mono ?_
  rintro e W1 ⟨he, hb⟩
  have F1 := Lib.hid (H1.out.below hb)
  clear hb H1
  cases hn : numL x1.data.toList with
  | none =>
    rw [hn] at he
    obtain rfl := he
    have hn1 := Lib.hid hn
    clear hn
    simp only [Option.isSome_none, Option.isSome_some]
    have e2 := cell_of_cells F1.out.ee 2
    simp only [List.setIfInBounds_toArray, List.set_cons_zero, List.set_cons_succ, List.getElem?_toArray, List.getElem?_cons_succ, List.getElem?_cons_zero] at e2
    have fz2 := blk_frozen F1.out.ee 2
    have lt := blk_lt F1.out.ee
    have ne := F1.out.lt
    have ne1 : ¬ (w.heap.size + 1 = eb) := by omega
    have ne2 : ¬ (w.heap.size = eb) := by omega
    have kk0 := cell_of_cells F1.out.kk 0
    simp only [List.getElem?_toArray, List.getElem?_cons_succ, List.getElem?_cons_zero] at kk0
    have kk1 := cell_of_cells F1.out.kk 1
    simp only [List.getElem?_toArray, List.getElem?_cons_succ, List.getElem?_cons_zero] at kk1
    have kk2 := cell_of_cells F1.out.kk 2
    simp only [List.getElem?_toArray, List.getElem?_cons_succ, List.getElem?_cons_zero] at kk2
    have kk3 := cell_of_cells F1.out.kk 3
    simp only [List.getElem?_toArray, List.getElem?_cons_succ, List.getElem?_cons_zero] at kk3
    have kw := cell_of_cells F1.out.kw 0
    simp only [List.getElem?_toArray, List.getElem?_cons_succ, List.getElem?_cons_zero] at kw
    go_wp2_with fail
    go_ret
    refine ⟨(F1.out.set 2 (.int .i64 0)).bb, ?_⟩
    unfold fillO
    rw [takeW_off, Option.bind_some]
    rw [takeW_off, Option.bind_some]
    rw [takeW_no ex1.out hn1.out, Option.bind_none]
    rfl
  | some v1 =>
    rw [hn] at he
    obtain rfl := he
    have hn1 := Lib.hid hn
    clear hn
    simp only [Option.isSome_none, Option.isSome_some]
    have e2 := cell_of_cells F1.out.ee 2
    simp only [List.setIfInBounds_toArray, List.set_cons_zero, List.set_cons_succ, List.getElem?_toArray, List.getElem?_cons_succ, List.getElem?_cons_zero] at e2
    have fz2 := blk_frozen F1.out.ee 2
    have lt := blk_lt F1.out.ee
    have ne := F1.out.lt
    have ne1 : ¬ (w.heap.size + 1 = eb) := by omega
    have ne2 : ¬ (w.heap.size = eb) := by omega
    have kk0 := cell_of_cells F1.out.kk 0
    simp only [List.getElem?_toArray, List.getElem?_cons_succ, List.getElem?_cons_zero] at kk0
    have kk1 := cell_of_cells F1.out.kk 1
    simp only [List.getElem?_toArray, List.getElem?_cons_succ, List.getElem?_cons_zero] at kk1
    have kk2 := cell_of_cells F1.out.kk 2
    simp only [List.getElem?_toArray, List.getElem?_cons_succ, List.getElem?_cons_zero] at kk2
    have kk3 := cell_of_cells F1.out.kk 3
    simp only [List.getElem?_toArray, List.getElem?_cons_succ, List.getElem?_cons_zero] at kk3
    have kw := cell_of_cells F1.out.kw 0
    simp only [List.getElem?_toArray, List.getElem?_cons_succ, List.getElem?_cons_zero] at kw
    by_cases hz : ws.tail.length = 0
    · have hz := hz
      have hz1 : ((ws.tail.length : Nat) : Int) = 0 := by omega
      have HZ := Lib.hid hz
      clear hz
      go_wp2_with fail
      go_ret
      refine ⟨(F1.out.set 2 (.int .i64 v1)).bb, ?_⟩
      unfold fillO
      rw [takeW_off, Option.bind_some]
      rw [takeW_off, Option.bind_some]
      rw [takeW_ok ex1.out hn1.out, Option.bind_some]
      rw [if_pos HZ.out]
      refine ⟨rfl, _, (F1.out.set 2 (.int .i64 v1)).ee, ?_⟩
      exact Kd.R_nil _ _ _ _ _
    · have hz := hz
      have hz1 : ¬ ((ws.tail.length : Nat) : Int) = 0 := by omega
      have HZ := Lib.hid hz
      clear hz
      go_wp2_with fail
      go_ret
      refine ⟨(F1.out.set 2 (.int .i64 v1)).bb, ?_⟩
      unfold fillO
      rw [takeW_off, Option.bind_some]
      rw [takeW_off, Option.bind_some]
      rw [takeW_ok ex1.out hn1.out, Option.bind_some]
      rw [if_neg HZ.out]
      have hf : (((ws.tail.length : Nat) : Int) == 0) = false := beq_eq_false_iff_ne.2 hz1
      try simp only [List.length_tail] at hf
      exact congrArg (fun b => Ending.returned (Value.bool b)) hf
end Go.Proofs.YtoloooammaiipaaDoor
/-
  DERIVED: THE SHELF's CONTRACTS AT THIS DUMP, IN PLAIN WORDS (tools/lay-plain.mjs out of 'YtoloooammaiipaaDoorSCnt.lean', which tools/lay-shelf.mjs wrote): THE SAME DECLARATIONS UNDER THE SAME NAMES: 'import', 'namespace', 'open', 'def', 'theorem' AND NOTHING ELSE: no command of the shelf's: FOR A HAND-IN. Each laying: the table of numbers ('.._ren') and one theorem, a field a fact of the dump's own or the kernel's comparison; each contract: ONE APPLICATION.
-/
namespace Go.Proofs
open Go.Shelf
def Tryd.lays138_ren : Go.Shelf.Ren := ⟨fun | 138 => 35 | 195 => 50 | 218 => 51 | 143 => 52 | 219 => 62 | 217 => 44 | 225 => 71 | 224 => 72 | 267 => 73 | 266 => 56 | 314 => 85 | n => n, fun | 9 => 9 | 3 => 3 | 4 => 4 | 5 => 5 | 0 => 0 | 46 => 63 | 146 => 122 | 51 => 113 | n => n, fun | 1 => 1 | n => n⟩
theorem Tryd.lays138 : Go.Proofs.Lays.n138 Tryd.prog Tryd.lays138_ren := {
  mixed := by kernel_rfl
  f138 := Tryd.func35.trans (congrArg some (by kernel_rfl))
  f143 := Tryd.func52.trans (congrArg some (by kernel_rfl))
  f195 := Tryd.func50.trans (congrArg some (by kernel_rfl))
  f217 := Tryd.func44.trans (congrArg some (by kernel_rfl))
  f218 := Tryd.func51.trans (congrArg some (by kernel_rfl))
  f219 := Tryd.func62.trans (congrArg some (by kernel_rfl))
  f224 := Tryd.func72.trans (congrArg some (by kernel_rfl))
  f225 := Tryd.func71.trans (congrArg some (by kernel_rfl))
  f266 := Tryd.func56.trans (congrArg some (by kernel_rfl))
  f267 := Tryd.func73.trans (congrArg some (by kernel_rfl))
  f314 := Tryd.func85.trans (congrArg some (by kernel_rfl))
  t0 := Tryd.underlying0
  a0 := Tryd.isAgg0
  z0 := Tryd.sizeOf0
  v0 := Tryd.zeroValue0
  t3 := Tryd.underlying3
  a3 := Tryd.isAgg3
  z3 := Tryd.sizeOf3
  v3 := Tryd.zeroValue3
  t4 := Tryd.underlying4
  a4 := Tryd.isAgg4
  z4 := Tryd.sizeOf4
  v4 := Tryd.zeroValue4
  t5 := Tryd.underlying5
  a5 := Tryd.isAgg5
  z5 := Tryd.sizeOf5
  v5 := Tryd.zeroValue5
  t9 := Tryd.underlying9
  a9 := Tryd.isAgg9
  z9 := Tryd.sizeOf9
  v9 := Tryd.zeroValue9
  t46 := Tryd.underlying63
  a46 := Tryd.isAgg63
  z46 := Tryd.sizeOf63
  v46 := Tryd.zeroValue63
  t51 := Tryd.underlying113
  a51 := Tryd.isAgg113
  z51 := Tryd.sizeOf113
  v51 := Tryd.zeroValue113
  t146 := Tryd.underlying122
  a146 := Tryd.isAgg122
  z146 := Tryd.sizeOf122
  v146 := Tryd.zeroValue122
  g1 := by kernel_rfl }
open Go.RowKit Go.Lib in
/-- strings.Count AT A substr OF ONE BYTE ('hp'): "Count counts the number of non-overlapping instances of substr in s.": IT RETURNS 'Lib.countByte s (that byte)'; the world is as it was. ✋ NO CONTRACT HERE YET at an empty substr (utf8.RuneCountInString) or at a longer one (a loop over strings.Index). (LAID: no walk: one application.) -/
theorem Tryd.strings_Count_one (s : ByteArray) (c : UInt8) (w : World) :
    Calls Tryd.prog 35 #[.string s, .string ⟨#[c]⟩] w fun e w' => e = .returned (.int .i64 (Lib.countByte s.data.toList c)) ∧ w' = w := Any.strings_Count_one Tryd.lays138 s c w
end Go.Proofs
/- Rows of rows of texts: what is read of one, how much they weigh, what may be among them. -/
namespace Go.Proofs.YtoloooammaiipaaDoor
open Go Go.RowKit Go.Proofs.YtoloooammaiipaaDoorW.PrintWords Go.Proofs.YtoloooammaiipaaDoorW.PrintLast

/-- What some texts weigh. -/
def wt (p : List ByteArray) : Nat := (p.map fun x => 1 + x.size).sum
/-- What some rows of texts weigh. -/
def wts (l : List (List ByteArray)) : Nat := (l.map wt).sum
theorem wt_snoc (p : List ByteArray) (x : ByteArray) : wt (p ++ [x]) = wt p + (1 + x.size) := by simp [wt]
theorem wts_snoc (l : List (List ByteArray)) (p : List ByteArray) : wts (l ++ [p]) = wts l + wt p := by simp [wts]
theorem wt_take (p : List ByteArray) (i : Nat) (h : i < p.length) : wt (p.take (i + 1)) = wt (p.take i) + (1 + (p[i]'h).size) := by
  rw [List.take_succ_eq_append_getElem h, wt_snoc]
theorem wts_take (l : List (List ByteArray)) (i : Nat) (h : i < l.length) : wts (l.take (i + 1)) = wts (l.take i) + wt (l[i]'h) := by
  rw [List.take_succ_eq_append_getElem h, wts_snoc]
theorem wt_le (p : List ByteArray) (i : Nat) : wt (p.take i) ≤ wt p := by
  have h : wt p = wt (p.take i) + wt (p.drop i) := by
    unfold wt
    rw [← List.sum_append, ← List.map_append, List.take_append_drop]
  omega
theorem wts_le (l : List (List ByteArray)) (i : Nat) : wts (l.take i) ≤ wts l := by
  have h : wts l = wts (l.take i) + wts (l.drop i) := by
    unfold wts
    rw [← List.sum_append, ← List.map_append, List.take_append_drop]
  omega
theorem wt_length (p : List ByteArray) : p.length ≤ wt p := by
  induction p with
  | nil => exact Nat.zero_le _
  | cons x r ih =>
    have e : wt (x :: r) = (1 + x.size) + wt r := by simp [wt]
    rw [e, List.length_cons]
    omega
theorem wts_length {l : List (List ByteArray)} (h : ∀ p ∈ l, p ≠ []) : l.length ≤ wts l := by
  induction l with
  | nil => exact Nat.zero_le _
  | cons p r ih =>
    have e : wts (p :: r) = wt p + wts r := by simp [wts]
    have h1 := ih (fun q hq => h q (List.mem_cons_of_mem _ hq))
    have h2 := wt_length p
    have h3 : 0 < p.length := List.length_pos_iff.2 (h p List.mem_cons_self)
    rw [e, List.length_cons]
    omega
theorem wt_mem {p : List ByteArray} {x : ByteArray} (h : x ∈ p) : x.size ≤ wt p := by
  obtain ⟨i, hi, rfl⟩ := List.mem_iff_getElem.1 h
  have h1 := wt_take p i hi
  have h2 := wt_le p (i + 1)
  omega
theorem wts_mem {l : List (List ByteArray)} {p : List ByteArray} (h : p ∈ l) : wt p ≤ wts l := by
  obtain ⟨i, hi, rfl⟩ := List.mem_iff_getElem.1 h
  have h1 := wts_take l i hi
  have h2 := wts_le l (i + 1)
  omega
/-- A text without the two signs. -/
def Clean2 (x : ByteArray) : Prop := ∀ c ∈ x.data.toList, c ≠ 126 ∧ c ≠ 94
/-- Rows that may stay: none is empty, each text is without the signs. -/
def Kept (own : List (List ByteArray)) : Prop := ∀ p ∈ own, p ≠ [] ∧ ∀ x ∈ p, Clean2 x
/-- A row of rows: one of them. -/
theorem at_rows {α : Type} {d : Kd α} {e : Nat} {w : World} {A : Option Addr} {n : Nat} {xs : List (List α)} (h : (Kd.slice e d).C w A n xs) {i : Nat} (hi : i < xs.length) :
    ∃ ad A' c', A = some ad ∧ w.cell? (ad.add i) = some (.slice A' (xs[i]'hi).length c') ∧ (xs[i]'hi).length ≤ c' ∧ d.C w A' (xs[i]'hi).length (xs[i]'hi) := by
  obtain ⟨hn, hm, hr⟩ := h
  obtain ⟨ad, e1, hc⟩ := hr (by omega)
  obtain ⟨c, hs, ⟨A', c', e2, hl, hC⟩, hcell⟩ := hc i _ (List.getElem?_eq_getElem hi)
  subst e2
  have h0 := hcell 0 _ rfl
  have e3 : i * (Kd.slice e d).sz + 0 = i := by show i * 1 + 0 = i; omega
  rw [e3] at h0
  exact ⟨ad, A', c', e1, h0, hl, hC⟩
/-- A row of texts: one of them. -/
theorem at_text {w : World} {A : Option Addr} {n : Nat} {xs : List ByteArray} (h : Kd.string.C w A n xs) {i : Nat} (hi : i < xs.length) :
    ∃ ad, A = some ad ∧ w.cell? (ad.add i) = some (.string (xs[i]'hi)) := by
  obtain ⟨ad, e, hc⟩ := (Kd.reads_of_C (enc := Value.string) (d := ByteArray.empty) (h1 := fun _ => rfl) h).2.2 (by have := h.1; omega)
  refine ⟨ad, e, ?_⟩
  rw [hc i (by have := h.1; omega), List.getD_eq_getElem?_getD, List.getElem?_eq_getElem hi]
  rfl
theorem text_at {x : ByteArray} {j : Nat} (h : j < x.size) {c : UInt8} (hc : c ∈ x.data.toList.take (j + 1)) : c ∈ x.data.toList.take j ∨ c = x[j]'h := by
  have hl : j < x.data.toList.length := by rw [Array.length_toList]; exact h
  rw [List.take_succ_eq_append_getElem hl, List.mem_append, List.mem_singleton] at hc
  rcases hc with hc | hc
  · exact Or.inl hc
  · exact Or.inr hc
end Go.Proofs.YtoloooammaiipaaDoor
/- What trace.Read gives: a walk; conditions: a text of at most 400000 bytes; the tables lie as the program's text lays them. -/
namespace Go.Proofs.YtoloooammaiipaaDoor
open Go Go.RowKit Go.Proofs.YtoloooammaiipaaDoor.PI Go.Proofs.YtoloooammaiipaaDoorW.PrintWords Go.Proofs.YtoloooammaiipaaDoorW.PrintLast Go.Proofs.YtoloooammaiipaaDoorW.PrintMore
set_option linter.unusedVariables false
set_option linter.unusedSimpArgs false
/-- What is behind a text's beginning. -/
def stripL (p s : List UInt8) : Option (List UInt8) := if s.take p.length = p then some (s.drop p.length) else none
def stripO (a : ByteArray) : Option (List UInt8) → ByteArray × Bool
  | some r => (strOf r, true)
  | none => (a, false)
theorem cutprefix_is (a b : ByteArray) (hb : b.size ≤ 1000000) : strings_CutPrefix.f a b = some (stripO a (stripL b.data.toList a.data.toList)) := by
  have h1 := len_size a
  have h2 := len_size b
  have h3 : ((b.size : Int)).toNat = b.size := Int.toNat_natCast _
  unfold strings_CutPrefix.f stringslite_CutPrefix.f stringslite_HasPrefix.f stripL
  by_cases h : b.size ≤ a.size
  · rw [if_pos (by omega), if_pos (by omega), if_pos (by omega), Option.bind_some, h3]
    have e : (a.extract 0 b.size).toList = a.data.toList.take b.data.toList.length := by
      rw [Lib.toList_data, Lib.extract_data, List.drop_zero, h2, Nat.sub_zero]
    rw [e, Lib.toList_data b]
    by_cases hq : a.data.toList.take b.data.toList.length = b.data.toList
    · rw [if_pos (by rw [beq_iff_eq]; exact hq), if_pos (by omega), if_pos (by omega), if_pos hq, Option.bind_some]
      congr 1
      show (_, true) = (_, true)
      congr 1
      apply bytes_eq
      rw [Lib.extract_data, strOf_data, h2, ← h1, ← List.length_drop, List.take_length]
    · rw [if_neg (by rw [beq_iff_eq]; exact hq), if_neg hq, Option.bind_some]
      rfl
  · rw [if_neg (by omega), Option.bind_some, if_neg (by decide), if_neg, Option.bind_some]
    · rfl
    · intro e
      have := congrArg List.length e
      rw [List.length_take] at this
      omega
/-- What a text tells as an event of a kind. -/
def readRow (s : List UInt8) (r : KRow) : Option (List Int × Int × Int) :=
  (stripL (r.1 ++ [32]) (s ++ [32])).bind fun x => fillO r.2.1 r.2.2.1 r.2.2.2 (((cutL 32 x).map strOf).take (x.count 32))
def readAt (s : List UInt8) (i : Nat) : Option (List Int × Int × Int) := readRow s (kRows.getD i ([], false, false, false))
theorem space_data (s : ByteArray) : (s ++ ⟨#[32]⟩).data.toList = s.data.toList ++ [32] := by rw [ByteArray.data_append, Array.toList_append]
theorem readAt_eq {i : Nat} {ws : List UInt8} {fd fc fk : Bool} (h : kRows.getD i ([], false, false, false) = (ws, fd, fc, fk)) (s : ByteArray) {wd : ByteArray} (hwd : wd = ⟨ws.toArray⟩) :
    readAt s.data.toList i = (stripL (wd ++ ⟨#[32]⟩).data.toList (s ++ ⟨#[32]⟩).data.toList).bind fun x => fillO fd fc fk (((cutL 32 x).map strOf).take (x.count 32)) := by
  unfold readAt readRow
  rw [h, space_data, space_data, hwd]
theorem row_len {i : Nat} {ws : List UInt8} {fd fc fk : Bool} (h : kRows.getD i ([], false, false, false) = (ws, fd, fc, fk)) (hi : i < 9) : ws.length ≤ 8 := by
  have key : ∀ j : Fin 9, (kRows.getD j.1 ([], false, false, false)).1.length ≤ 8 := by decide
  have := key ⟨i, hi⟩
  simp only at this
  rwa [h] at this
set_option maxRecDepth 100000 in
theorem kind_index_all (w : World) : ∀ i : Nat, i < 9 → (Instr.index 69 (.agg (List.flatMap kVals kRows).toArray) (.int .i64 (i : Int))).run Tryd.prog w = .ok (.agg (kVals (kRows.getD i ([], false, false, false))).toArray) w
  | 0, _ => rfl | 1, _ => rfl | 2, _ => rfl | 3, _ => rfl | 4, _ => rfl | 5, _ => rfl | 6, _ => rfl | 7, _ => rfl | 8, _ => rfl
  | n + 9, h => by omega
theorem kind_index {i : Nat} {ws : List UInt8} {fd fc fk : Bool} (hi : i < 9) (h : kRows.getD i ([], false, false, false) = (ws, fd, fc, fk)) (w : World) : (Instr.index 69 (.agg (List.flatMap kVals kRows).toArray) (.int .i64 (i : Int))).run Tryd.prog w = .ok (.agg #[.string ⟨ws.toArray⟩, .bool fd, .bool fc, .bool fk]) w := by
  rw [kind_index_all w i hi, h]
  rfl
theorem kinds_at {w : World} (hG : GlobT w) : w.rangeAt 0 0 (kRows.flatMap kVals) := fun j v hj => by
  have h := World.var?_cell (show Tryd.prog.globalNamed "lamplighter/trace.kinds" = some 0 by kernel_rfl) hG.kinds j
  rw [Nat.zero_add, h]
  unfold kindsC
  rw [List.getElem?_toArray]
  exact hj
theorem two_new (w : World) : Below w.heap.size w ((w.alloc (.cells #[.int .i64 0, .int .i64 0, .int .i64 0, .slice none 0 0] 29 (0, 0))).alloc (.cells #[.int .i64 0, .int .i64 0, .int .i64 0, .slice none 0 0] 29 (0, 0))) ∧
    ((w.alloc (.cells #[.int .i64 0, .int .i64 0, .int .i64 0, .slice none 0 0] 29 (0, 0))).alloc (.cells #[.int .i64 0, .int .i64 0, .int .i64 0, .slice none 0 0] 29 (0, 0))).heap[w.heap.size]? = some (.cells #[.int .i64 0, .int .i64 0, .int .i64 0, .slice none 0 0] 29 (0, 0)) ∧
    ((w.alloc (.cells #[.int .i64 0, .int .i64 0, .int .i64 0, .slice none 0 0] 29 (0, 0))).alloc (.cells #[.int .i64 0, .int .i64 0, .int .i64 0, .slice none 0 0] 29 (0, 0))).heap[w.heap.size + 1]? = some (.cells #[.int .i64 0, .int .i64 0, .int .i64 0, .slice none 0 0] 29 (0, 0)) := by
  refine ⟨below_alloc (below_alloc (Below.refl _ _) _) _, blk_alloc (blk_new w _) _, ?_⟩
  have := blk_new (w.alloc (.cells #[.int .i64 0, .int .i64 0, .int .i64 0, .slice none 0 0] 29 (0, 0))) (.cells #[.int .i64 0, .int .i64 0, .int .i64 0, .slice none 0 0] 29 (0, 0))
  simpa using this
theorem hnext9 {j : Nat} (h : j < 9) : wrap64 ((j : Int) + 1) = ((j + 1 : Nat) : Int) := hnext h (by decide)
/-- What a text tells as an event: its kind, bytes, numbers. -/
def readO (s : List UInt8) : Option (Nat × List Int × Int × Int) := (List.range 9).findSome? fun i => (readAt s i).map fun x => (i, x)
def ReadPost (s : ByteArray) (w : World) (e : Ending) (w' : World) : Prop :=
  Below w.heap.size w w' ∧ ∃ v, Kd.R (Kd.int .u8) 5 w' w.heap.size (fun _ => True) v ((readO s.data.toList).elim [] fun x => x.2.1) ∧
    e = .returned (.tuple #[.agg #[.int .i64 ((readO s.data.toList).elim 0 fun x => (x.1 : Int)), .int .i64 ((readO s.data.toList).elim 0 fun x => x.2.2.1), .int .i64 ((readO s.data.toList).elim 0 fun x => x.2.2.2), v], .int .i64 ((readO s.data.toList).elim 10 fun _ => 0)])
theorem strip_len {p s r : List UInt8} (h : stripL p s = some r) : r.length ≤ s.length := by
  unfold stripL at h
  split at h
  · obtain rfl := Option.some.inj h
    rw [List.length_drop]
    omega
  · cases h
theorem txts_of {W : World} {base g c n lo : Nat} {xs WS : List ByteArray} (h : Kd.R Kd.string 9 W base (fun _ => True) (.slice (some ⟨g, 0, none⟩) n c) xs) (h1 : lo < g) (h2 : g < W.heap.size) (hn : WS.length ≤ xs.length) (hW : ∃ m, WS = xs.take m) : Txts lo W.heap.size W (some ⟨g, 0, none⟩) WS := fun _ => by
  refine ⟨g, 0, rfl, h1, h2, fun i hi => ?_⟩
  obtain ⟨e, -, hC⟩ := Kd.R_reads' h
  obtain ⟨ad, e1, e2⟩ := at_text hC (i := i) (by omega)
  obtain rfl := Option.some.inj e1
  rw [Go.Proofs.YtoloooammaiipaaDoorW.PrintWords.add_plain] at e2
  rw [Nat.zero_add, e2]
  obtain ⟨m, rfl⟩ := hW
  simp
theorem fill_any {i0 : Nat} {ks : List UInt8} {fd fc fk : Bool} (hi : i0 < 9) (h : kRows.getD i0 ([], false, false, false) = (ks, fd, fc, fk)) (words : ByteArray) (i : Int) (eb : Nat) (A : Option Addr) (c : Nat) (ws : List ByteArray) (w : World) (he : w.heap[eb]? = some (.cells #[.int .i64 i, .int .i64 0, .int .i64 0, .slice none 0 0] 29 (0, 0))) (hT : Txts eb w.heap.size w A ws) (hc : ws.length ≤ c) (hl : ws.length ≤ 1000000) (hx : ∀ x ∈ ws, x.size ≤ 1000000) (hG : ∀ W, Below eb w W → GlobT W) :
    Calls Tryd.prog 33 #[.agg #[.string words, .bool fd, .bool fc, .bool fk], .pointer (some ⟨eb, 0, none⟩), .slice A ws.length c] w (FillPost i (fillO fd fc fk ws) eb w) := by
  have key : ∀ j : Fin 9, (kRows.getD j.1 ([], false, false, false)).2 = (true, false, false) ∨ (kRows.getD j.1 ([], false, false, false)).2 = (false, false, false) ∨ (kRows.getD j.1 ([], false, false, false)).2 = (false, true, false) ∨ (kRows.getD j.1 ([], false, false, false)).2 = (false, true, true) ∨ (kRows.getD j.1 ([], false, false, false)).2 = (false, false, true) := by decide
  have hk := key ⟨i0, hi⟩
  simp only at hk
  rw [h] at hk
  simp only [Prod.mk.injEq] at hk
  rcases hk with ⟨rfl, rfl, rfl⟩ | ⟨rfl, rfl, rfl⟩ | ⟨rfl, rfl, rfl⟩ | ⟨rfl, rfl, rfl⟩ | ⟨rfl, rfl, rfl⟩
  · exact fill_d words i eb A c ws w he hT hc hl hx hG
  · exact fill_z words i eb A c ws w he hT hc hl hx hG
  · exact fill_c words i eb A c ws w he hT hc hl hx hG
  · exact fill_ck words i eb A c ws w he hT hc hl hx hG
  · exact fill_k words i eb A c ws w he hT hc hl hx hG
theorem readO_some {s : List UInt8} {i : Nat} {x : List Int × Int × Int} (hi : i < 9) (hno : ∀ j, j < i → readAt s j = none) (h : readAt s i = some x) : readO s = some (i, x) := by
  unfold readO
  have e : List.range 9 = List.range i ++ (i :: (List.range 9).drop (i + 1)) := by
    have key : ∀ j : Fin 9, List.range 9 = List.range j.1 ++ (j.1 :: (List.range 9).drop (j.1 + 1)) := by decide
    exact key ⟨i, hi⟩
  rw [e, List.findSome?_append, List.findSome?_eq_none_iff.2 (fun j hj => by rw [hno j (List.mem_range.1 hj)]; rfl), Option.none_or, List.findSome?_cons, h]
  rfl
theorem readO_none {s : List UInt8} (hno : ∀ j, j < 9 → readAt s j = none) : readO s = none := List.findSome?_eq_none_iff.2 (fun j hj => by rw [hno j (List.mem_range.1 hj)]; rfl)
theorem four_set {W : World} {g : Nat} {t : TypeId} {a b c d : Value} (h : W.heap[g]? = some (.cells #[a, b, c, d] t (0, 0))) (x0 x1 x2 x3 : Value) :
    ((((W.setCell ⟨g, 0, none⟩ x0).setCell ⟨g, 1, none⟩ x1).setCell ⟨g, 2, none⟩ x2).setCell ⟨g, 3, none⟩ x3).heap[g]? = some (.cells #[x0, x1, x2, x3] t (0, 0)) ∧
    (∀ j, j ≠ g → ((((W.setCell ⟨g, 0, none⟩ x0).setCell ⟨g, 1, none⟩ x1).setCell ⟨g, 2, none⟩ x2).setCell ⟨g, 3, none⟩ x3).heap[j]? = W.heap[j]?) ∧
    (∀ B w, B ≤ g → Below B w W → Below B w ((((W.setCell ⟨g, 0, none⟩ x0).setCell ⟨g, 1, none⟩ x1).setCell ⟨g, 2, none⟩ x2).setCell ⟨g, 3, none⟩ x3)) :=
  ⟨(blk_set (blk_set (blk_set (blk_set h 0 x0) 1 x1) 2 x2) 3 x3).trans rfl,
   fun j hj => (Below.heap_setCell _ ⟨g, 3, none⟩ _ j hj).trans ((Below.heap_setCell _ ⟨g, 2, none⟩ _ j hj).trans ((Below.heap_setCell _ ⟨g, 1, none⟩ _ j hj).trans (Below.heap_setCell _ ⟨g, 0, none⟩ _ j hj))),
   fun B w hB hb => (((hb.setCell hB x0).setCell hB x1).setCell hB x2).setCell hB x3⟩
theorem ret_read {R : Ending → World → Prop} {a : Act} {W : World} {g : Nat} {x0 x1 x2 x3 er : Value} (hd : a.defers = []) (h : W.heap[g]? = some (.cells #[x0, x1, x2, x3] 29 (0, 0))) (ht : a.tmps[2]?.getD undef = .pointer (some ⟨g, 0, none⟩)) (h3 : a.tmps[3]?.getD undef = er)
    (hp : R (.returned (.tuple #[.agg #[x0, x1, x2, x3], er])) W) : bodyPost Tryd.prog Tryd.f17 R .ret a W := by
  have c0 := cell_of_cells h 0
  have c1 := cell_of_cells h 1
  have c2 := cell_of_cells h 2
  have c3 := cell_of_cells h 3
  simp only [List.getElem?_toArray, List.getElem?_cons_zero, List.getElem?_cons_succ] at c0 c1 c2 c3
  refine bodyPost_ret (v := .tuple #[.agg #[x0, x1, x2, x3], er]) ?_ hd hp
  simp [results, Tryd.results17, ht, h3, c0, c1, c2, c3, go_sem]
set_option maxHeartbeats 8000000 in
set_option maxRecDepth 100000 in
theorem read_walk (s : ByteArray) (hs : s.size ≤ 400000) (w : World) (hG : GlobT w) :
    Calls Tryd.prog 17 #[.string s] w (ReadPost s w) := by
  have HG := Lib.hid hG
  have HS := Lib.hid hs
  clear hG
  go_enter Tryd.func17, Tryd.ntmps17
  go_wp2_with fail
  go_step3
  go_wp2_with fail
  go_step3
  have HB0 := Lib.hid (two_new w)
  generalize hw0 : (w.alloc (.cells #[.int .i64 0, .int .i64 0, .int .i64 0, .slice none 0 0] 29 (0, 0))).alloc (.cells #[.int .i64 0, .int .i64 0, .int .i64 0, .slice none 0 0] 29 (0, 0)) = w0 at HB0
  go_wp2_with (first | (refine gate_dst (N := 11) rfl ?_; refine wpList_load_mid rfl 69 _ rfl 0 0 rfl (kRows.flatMap kVals) _ (kinds_at (globt_below HG.out HB0.out.1)) Tryd.underlying69 rfl (by kernel_rfl) ?_; generalize hKV : Value.agg (List.flatMap kVals kRows).toArray = KV))
  have HKV := Lib.hid hKV
  clear hKV
  clear hw0
  go_loopw [5, 12] (fun v5 vi wr => ∃ i : Nat, v5 = .int .i64 10 ∧ vi = .int .i64 i ∧ i ≤ 9 ∧ Hid (Below w0.heap.size w0 wr ∧ ∀ j, j < i → readAt s.data.toList j = none)) (fun _ vi _ => 9 - (intOf vi).toNat)
  case atStart => exact ⟨0, rfl, rfl, by omega, Lib.hid ⟨Below.refl _ _, fun j hj => absurd hj (Nat.not_lt_zero j)⟩⟩
  case round =>
    obtain ⟨i, rfl, rfl, hi, hh⟩ := hrel
    obtain ⟨hbr, hno⟩ := hh.out
    have HBR := Lib.hid hbr
    have HNO := Lib.hid hno
    clear hh hbr hno
    by_cases hin : i < 9
    · have i0 : (0 : Int) ≤ (i : Int) := by omega
      have i1 : (i : Int) < 9 := by omega
      obtain ⟨ws, fd, fc, fk, hrow⟩ : ∃ ws fd fc fk, kRows.getD i ([], false, false, false) = (ws, fd, fc, fk) := ⟨_, _, _, _, rfl⟩
      have HROW := Lib.hid hrow
      have hwl := row_len hrow hin
      obtain ⟨wd, hwd⟩ : ∃ wd : ByteArray, wd = ⟨ws.toArray⟩ := ⟨_, rfl⟩
      have HWD := Lib.hid hwd
      have hws : wd.size = ws.length := by rw [hwd]; exact strOf_size ws
      have hix : ∀ w : World, (Instr.index 69 KV (.int .i64 (i : Int))).run Tryd.prog w = .ok (.agg #[.string wd, .bool fd, .bool fc, .bool fk]) w := fun w => by rw [← HKV.out, hwd]; exact kind_index hin hrow w
      clear hrow hwd
      have hs5 := HS.out
      have b1 : (9223372036854775807 < s.size + 1) = False := eq_false (by omega)
      have b2 : s.size + 1 ≤ 9223372036854775807 := by omega
      have b3 : (9223372036854775807 < wd.size + 1) = False := eq_false (by omega)
      have b4 : wd.size + 1 ≤ 9223372036854775807 := by omega
      clear hs5
      go_wp2_with fail
      have HK1 := Lib.hid (blk_new wr (.cells #[.string wd, .bool fd, .bool fc, .bool fk] 68 (0, 0)))
      have HB1 := Lib.hid (HBR.out.alloc HBR.out.size (.cells #[.string wd, .bool fd, .bool fc, .bool fk] 68 (0, 0)))
      generalize wr.alloc (.cells #[.string wd, .bool fd, .bool fc, .bool fk] 68) = w1 at HK1 HB1 ⊢
      generalize hgk : wr.heap.size = gk at HK1 ⊢
      have HGK := Lib.hid (show w0.heap.size ≤ gk from by rw [← hgk]; exact HBR.out.size)
      clear hgk HBR
      have hcp := cutprefix_is (s ++ ⟨#[32]⟩) (wd ++ ⟨#[32]⟩) (by rw [ByteArray.size_append]; show wd.size + 1 ≤ 1000000; omega)
      have HRA := Lib.hid (readAt_eq HROW.out s HWD.out)
      cases hst : stripL (wd ++ ⟨#[32]⟩).data.toList (s ++ ⟨#[32]⟩).data.toList with
      | none =>
        rw [hst] at hcp
        have HST := Lib.hid hst
        clear hst
        refine (strings_CutPrefix.calls _ _ _ _ _ hcp).mono ?_
        rintro e w2 ⟨rfl, hdr⟩
        have HB2 := Lib.hid (HB1.out.trans (hdr.below.mono (by have := blk_lt HK1.out; have := HGK.out; omega)))
        clear hdr hcp
        go_wp2_with fail
        have BI := Lib.hid (hnext9 hin)
        refine ⟨⟨i + 1, rfl, by first | rfl | exact congrArg _ BI.out, hin, Lib.hid ⟨HB2.out, fun j hj => ?_⟩⟩, by first | exact hmeas hin BI.out | exact hmeas hin rfl⟩
        rcases Nat.lt_succ_iff_lt_or_eq.1 hj with hj | rfl
        · exact HNO.out j hj
        · rw [HRA.out, HST.out]
          rfl
      | some rs =>
        rw [hst] at hcp
        have HST := Lib.hid hst
        clear hst
        refine (strings_CutPrefix.calls _ _ _ _ _ hcp).mono ?_
        rintro e w2 ⟨rfl, hdr⟩
        have HK2 := Lib.hid (blk_below HK1.out hdr.below)
        have HB2 := Lib.hid (HB1.out.trans (hdr.below.mono (by have := blk_lt HK1.out; have := HGK.out; omega)))
        clear hdr hcp
        obtain ⟨rest, hrest⟩ : ∃ rest, rest = strOf rs := ⟨_, rfl⟩
        simp only [stripO]
        rw [← hrest]
        have HRS := Lib.hid hrest
        clear hrest
        go_wp2_with fail
        have HE := Lib.hid (blk_new w2 (.cells #[.int .i64 (i : Int), .int .i64 0, .int .i64 0, .slice none 0 0] 29 (0, 0)))
        have HK := Lib.hid (blk_alloc HK2.out (.cells #[.int .i64 (i : Int), .int .i64 0, .int .i64 0, .slice none 0 0] 29 (0, 0)))
        have HB4 := Lib.hid (HB2.out.alloc HB2.out.size (.cells #[.int .i64 (i : Int), .int .i64 0, .int .i64 0, .slice none 0 0] 29 (0, 0)))
        have HLT := Lib.hid (blk_lt HK2.out)
        generalize w2.alloc (.cells #[.int .i64 (i : Int), .int .i64 0, .int .i64 0, .slice none 0 0] 29) = w4 at HE HK HB4 ⊢
        generalize w2.heap.size = ge at HE HLT ⊢
        obtain ⟨WS, hWS⟩ : ∃ WS, WS = ((cutL 32 rs).map strOf).take (rs.count 32) := ⟨_, rfl⟩
        have hcl := cutL_length 32 rs
        have hrl : rs.length ≤ 400001 := by
          have h1 := strip_len HST.out
          rw [space_data, List.length_append, len_size] at h1
          have := HS.out
          simp only [List.length_cons, List.length_nil] at h1
          omega
        have hrd : rest.data.toList = rs := by rw [HRS.out, strOf_data]
        have HSP := Lib.hid (show strings_Split.f rest ⟨#[32]⟩ = some ((cutL 32 rs).map strOf) from by
          unfold strings_Split.f
          rw [if_pos ⟨rfl, by rw [← len_size, hrd]; omega⟩, hrd]
          rfl)
        have HPOS := Lib.hid (show 0 < ((cutL 32 rs).map strOf).length from by rw [List.length_map]; omega)
        have hwl2 : WS.length = rs.count 32 := by rw [hWS, List.length_take, List.length_map]; omega
        have HCT := Lib.hid (show ((Lib.countByte rest.data.toList 32 : Nat) : Int) = (WS.length : Int) from by rw [hrd, hwl2]; rfl)
        have HCN := Lib.hid (show WS.length ≤ ((cutL 32 rs).map strOf).length from by rw [List.length_map]; omega)
        have HWL := Lib.hid (show WS.length ≤ 1000000 from by rw [hwl2]; exact Nat.le_trans (List.count_le_length) (by omega))
        have HWX := Lib.hid (show ∀ x ∈ WS, x.size ≤ 1000000 from fun x hx => by
          rw [hWS] at hx
          obtain ⟨y, hy, rfl⟩ := List.mem_map.1 (List.mem_of_mem_take hx)
          rw [strOf_size]
          have := cutL_part_le 32 rs y hy
          omega)
        have HWS := Lib.hid hWS
        clear hWS hcl hrl hrd hwl2
        refine start_ (n := 7) (S := fun w' => w'.heap[gk]? = some (.cells #[.string wd, .bool fd, .bool fc, .bool fk] 68 (0, 0)) ∧ Below gk w4 w') (ds := [6]) #[false, false, false, false, false, false, false] (by kernel_rfl) rfl rfl (⟨blk_drew HK.out, below_drew (Below.refl gk w4)⟩) (fun hHeld => ?_)
        refine pure_ (i := 1) (N := some 30) (v := ?_) (a' := ?_) #[false, true, false, false, false, false, false] rfl rfl (by kernel_rfl) (fun _ _ _ h => h) (Or.inl ⟨by rfl, ?_⟩) ?_ ?_
        rotate_left
        · intro w'
          go_simp
          with_reducible rfl
        rotate_left
        · simp only [Act.put, List.setIfInBounds_toArray, List.set_cons_zero, List.set_cons_succ]
          rfl
        refine pure_ (i := 3) (N := some 32) (v := ?_) (a' := ?_) #[false, true, false, true, false, false, false] rfl rfl (by kernel_rfl) (fun _ _ _ h => h) (Or.inl ⟨by rfl, ?_⟩) ?_ ?_
        rotate_left
        · intro w'
          go_simp
          with_reducible rfl
        rotate_left
        · simp only [Act.put, List.setIfInBounds_toArray, List.set_cons_zero, List.set_cons_succ]
          rfl
        refine take_ (i := 0) (N := some 29) (v := ?_) (a' := ?_) #[true, true, false, true, false, false, false] rfl rfl (by kernel_rfl) (fun _ _ _ h => h) (Or.inl ⟨by rfl, ?_⟩) hHeld ?_ ?_
        rotate_left
        · intro w' hs
          have e0 := cell_of_cells hs.1 0
          have e1 := cell_of_cells hs.1 1
          have e2 := cell_of_cells hs.1 2
          have e3 := cell_of_cells hs.1 3
          simp only [List.getElem?_toArray, List.getElem?_cons_zero, List.getElem?_cons_succ] at e0 e1 e2 e3
          go_simp
          with_reducible rfl
        rotate_left
        · simp only [Act.put, List.setIfInBounds_toArray, List.set_cons_zero, List.set_cons_succ]
          rfl
        refine one_ (i := 2) (N := some 31) #[true, true, true, true, false, false, false] rfl rfl (by kernel_rfl) (by decide) (fun K hK => ?_)
        refine goes_ Tryd.func34 (by kernel_rfl) rfl #[.string rest, .string ⟨#[32]⟩] (by rfl) rfl rfl (by (try simp only [List.map_toArray, List.map_cons, List.map_nil]); first | done | rfl) ?_
        refine (strings_Split.calls rest ⟨#[32]⟩ _ _ HSP.out).mono ?_
        rintro e w5 ⟨v31, rfl, hR, hb⟩
        refine ⟨_, rfl, ?_⟩
        have HB5 := Lib.hid hb
        have HR5 := Lib.hid hR
        clear hb hR
        obtain ⟨g31, c31, rfl, hg31, hlt31, -⟩ := Kd.R_form HR5.out HPOS.out
        have HD := Lib.hid hHeld
        refine hK.out _ _ ⟨blk_below HD.out.1 HB5.out, HD.out.2.trans (HB5.out.mono (by have := blk_lt HD.out.1; omega))⟩ (fun hHeld => ?_)
        clear hK K
        refine norm_ (a' := ?_) ?_ ?_
        rotate_left
        · show Act.put _ (some 31) _ = _
          simp only [Act.put, List.setIfInBounds_toArray, List.set_cons_zero, List.set_cons_succ]
          rfl
        refine one_ (i := 4) (N := some 33) #[true, true, true, true, true, false, false] rfl rfl (by kernel_rfl) (by decide) (fun K hK => ?_)
        refine goes_ Tryd.func35 (by kernel_rfl) rfl #[.string rest, .string ⟨#[32]⟩] (by rfl) rfl rfl (by (try simp only [List.map_toArray, List.map_cons, List.map_nil]); first | done | rfl) ?_
        refine (Tryd.strings_Count_one rest 32 _).mono ?_
        rintro e w6 ⟨rfl, rfl⟩
        refine ⟨_, rfl, ?_⟩
        refine hK.out _ _ hHeld (fun hHeld => ?_)
        clear hK K
        rw [HCT.out]
        refine norm_ (a' := ?_) ?_ ?_
        rotate_left
        · show Act.put _ (some 33) _ = _
          simp only [Act.put, List.setIfInBounds_toArray, List.set_cons_zero, List.set_cons_succ]
          rfl
        have s1 : (0 : Int) ≤ (WS.length : Int) := by omega
        have s2 : (WS.length : Int) ≤ (c31 : Int) := by have := (Kd.R_reads' HR5.out).2.1; have := HCN.out; omega
        refine pure_ (i := 5) (N := some 34) (v := ?_) (a' := ?_) #[true, true, true, true, true, true, false] rfl rfl (by kernel_rfl) (fun _ _ _ h => h) (Or.inl ⟨by rfl, ?_⟩) ?_ ?_
        rotate_left
        · intro w'
          go_simp
          with_reducible rfl
        rotate_left
        · simp only [Act.put, List.setIfInBounds_toArray, List.set_cons_zero, List.set_cons_succ]
          rfl
        have HGE := Lib.hid (show ge < g31 from by have h1 := blk_lt HE.out; have h2 : w4.heap.size ≤ g31 := hg31; omega)
        have HE6 := Lib.hid (blk_below (blk_drew HE.out) HB5.out)
        have HB6 := Lib.hid (HB4.out.trans ((below_drew (Below.refl _ w4)).trans HB5.out |>.mono (by have := HB4.out.size; exact this)))
        have HT6 := Lib.hid (txts_of HR5.out HGE.out hlt31 HCN.out ⟨_, HWS.out⟩)
        have HG6 := Lib.hid (fun W (hW : Below ge w6 W) => globt_below HG.out ((HB0.out.1.trans (HB6.out.mono HB0.out.1.size)).trans (hW.mono (by have h1 := HB0.out.1.size; have h2 := HGK.out; have h3 := HLT.out; omega))))
        have hc6 : WS.length ≤ c31 := by omega
        refine last_ (i := 6) (N := some 35) #[true, true, true, true, true, true, true] rfl rfl (by kernel_rfl) (by decide) (fun K hK => ?_)
        refine goes_ Tryd.func33 (by kernel_rfl) rfl #[.agg #[.string wd, .bool fd, .bool fc, .bool fk], .pointer (some ⟨ge, 0, none⟩), .slice (some ⟨g31, 0, none⟩) WS.length c31] (by rfl) rfl rfl (by (try simp only [List.map_toArray, List.map_cons, List.map_nil]); first | done | rfl) ?_
        refine (fill_any hin HROW.out wd (i : Int) ge (some ⟨g31, 0, none⟩) c31 WS w6 HE6.out HT6.out hc6 HWL.out HWX.out HG6.out).mono ?_
        rintro e w7 hpost
        have HB7 := Lib.hid (HB6.out.trans (hpost.1.mono (by have h2 := HGK.out; have h3 := HLT.out; omega)))
        cases hf : fillO fd fc fk WS with
        | none =>
          rw [hf] at hpost
          obtain rfl := hpost.2
          have HF := Lib.hid hf
          clear hpost hf
          refine ⟨_, rfl, hK.out _ _ ?_⟩
          refine done_ (by kernel_rfl) ?_
          clear hK K
          go_wp2_with fail
          have BI := Lib.hid (hnext9 hin)
          refine ⟨⟨i + 1, rfl, by first | rfl | exact congrArg _ BI.out, hin, Lib.hid ⟨HB7.out, fun j hj => ?_⟩⟩, by first | exact hmeas hin BI.out | exact hmeas hin rfl⟩
          rcases Nat.lt_succ_iff_lt_or_eq.1 hj with hj | rfl
          · exact HNO.out j hj
          · rw [HRA.out, HST.out, Option.bind_some, ← HWS.out, HF.out]
        | some q =>
          obtain ⟨qa, qn, qk⟩ := q
          rw [hf] at hpost
          obtain ⟨rfl, dv, hE7, hR7⟩ := hpost.2
          have HF := Lib.hid (show readAt s.data.toList i = some (qa, qn, qk) from by rw [HRA.out, HST.out, Option.bind_some, ← HWS.out, hf])
          have HR7 := Lib.hid hR7
          have HE7 := Lib.hid hE7
          have HB9 := Lib.hid (HB0.out.1.trans (HB7.out.mono HB0.out.1.size))
          have HZ0 := Lib.hid (blk_below HB0.out.2.1 HB7.out)
          have HZ1 := Lib.hid (blk_below HB0.out.2.2 HB7.out)
          have HSZ := Lib.hid (show w.heap.size ≤ w6.heap.size from Nat.le_trans HB0.out.1.size HB6.out.size)
          have HGW := Lib.hid (show w.heap.size + 1 < ge from by have h1 := blk_lt HB0.out.2.2; have h2 := HGK.out; have h3 := HLT.out; omega)
          obtain ⟨Av, cv, rfl⟩ := Kd.R_slice hR7
          clear hpost hf hE7 hR7
          refine ⟨_, rfl, hK.out _ _ ?_⟩
          refine done_ (by kernel_rfl) ?_
          clear hK K
          have a0 := cell_of_cells HE7.out 0
          have a1 := cell_of_cells HE7.out 1
          have a2 := cell_of_cells HE7.out 2
          have a3 := cell_of_cells HE7.out 3
          simp only [List.getElem?_toArray, List.getElem?_cons_zero, List.getElem?_cons_succ] at a0 a1 a2 a3
          have b0 := cell_of_cells HZ1.out 0
          have b1 := cell_of_cells HZ1.out 1
          have b2 := cell_of_cells HZ1.out 2
          have b3 := cell_of_cells HZ1.out 3
          simp only [List.getElem?_toArray, List.getElem?_cons_zero, List.getElem?_cons_succ] at b0 b1 b2 b3
          have bf0 := blk_frozen HZ1.out 0
          have bf1 := blk_frozen HZ1.out 1
          have bf2 := blk_frozen HZ1.out 2
          have bf3 := blk_frozen HZ1.out 3
          have bl := blk_lt HZ1.out
          have d0 := cell_of_cells HZ0.out 0
          have d1 := cell_of_cells HZ0.out 1
          have d2 := cell_of_cells HZ0.out 2
          have d3 := cell_of_cells HZ0.out 3
          simp only [List.getElem?_toArray, List.getElem?_cons_zero, List.getElem?_cons_succ] at d0 d1 d2 d3
          have df0 := blk_frozen HZ0.out 0
          have df1 := blk_frozen HZ0.out 1
          have df2 := blk_frozen HZ0.out 2
          have df3 := blk_frozen HZ0.out 3
          have dl := blk_lt HZ0.out
          have n1 : ¬ (w.heap.size + 1 = w.heap.size) := by omega
          have n2 : ¬ (w.heap.size = w.heap.size + 1) := by omega
          go_wp2_with fail
          obtain ⟨F1, F2, F3⟩ := four_set HZ1.out (.int .i64 (i : Int)) (.int .i64 qn) (.int .i64 qk) (.slice Av qa.length cv)
          obtain ⟨G1, G2, G3⟩ := four_set ((F2 w.heap.size n2).trans HZ0.out) (.int .i64 (i : Int)) (.int .i64 qn) (.int .i64 qk) (.slice Av qa.length cv)
          have hro := readO_some hin HNO.out HF.out
          refine ret_read rfl G1 rfl rfl ⟨G3 _ _ (Nat.le_refl _) (F3 _ _ (Nat.le_succ _) HB9.out), .slice Av qa.length cv, ?_, ?_⟩
          · rw [hro]
            refine Kd.R_lower (Kd.R_mono (Kd.R_step (Kd.R_bound HR7.out) (fun k hk _ => ?_)) (fun _ _ => trivial)) HSZ.out
            have h1 := hk.2.1
            have h2 := blk_lt HE6.out
            have h3 := HGW.out
            exact (G2 k (by omega)).trans (F2 k (by omega))
          · rw [hro]
            rfl
    · obtain rfl : i = 9 := by omega
      have HZ0 := Lib.hid (blk_below HB0.out.2.1 HBR.out)
      have HZ1 := Lib.hid (blk_below HB0.out.2.2 HBR.out)
      have HB9 := Lib.hid (HB0.out.1.trans (HBR.out.mono HB0.out.1.size))
      have b0 := cell_of_cells HZ1.out 0
      have b1 := cell_of_cells HZ1.out 1
      have b2 := cell_of_cells HZ1.out 2
      have b3 := cell_of_cells HZ1.out 3
      simp only [List.getElem?_toArray, List.getElem?_cons_zero, List.getElem?_cons_succ] at b0 b1 b2 b3
      have bf0 := blk_frozen HZ1.out 0
      have bf1 := blk_frozen HZ1.out 1
      have bf2 := blk_frozen HZ1.out 2
      have bf3 := blk_frozen HZ1.out 3
      have bl := blk_lt HZ1.out
      have d0 := cell_of_cells HZ0.out 0
      have d1 := cell_of_cells HZ0.out 1
      have d2 := cell_of_cells HZ0.out 2
      have d3 := cell_of_cells HZ0.out 3
      simp only [List.getElem?_toArray, List.getElem?_cons_zero, List.getElem?_cons_succ] at d0 d1 d2 d3
      have df0 := blk_frozen HZ0.out 0
      have df1 := blk_frozen HZ0.out 1
      have df2 := blk_frozen HZ0.out 2
      have df3 := blk_frozen HZ0.out 3
      have dl := blk_lt HZ0.out
      have n1 : ¬ (w.heap.size + 1 = w.heap.size) := by omega
      have n2 : ¬ (w.heap.size = w.heap.size + 1) := by omega
      go_wp2_with fail
      obtain ⟨G1, G2, G3⟩ := four_set HZ0.out (.int .i64 0) (.int .i64 0) (.int .i64 0) (.slice none 0 0)
      have hro := readO_none HNO.out
      refine ret_read rfl G1 rfl rfl ⟨G3 _ _ (Nat.le_refl _) HB9.out, .slice none 0 0, ?_, ?_⟩
      · rw [hro]
        exact Kd.R_nil _ _ _ _ _
      · rw [hro]
        rfl
end Go.Proofs.YtoloooammaiipaaDoor
/- What strings.Cut gives at a sign of one byte, in plain words; conditions: at most 4000000000 bytes. -/
namespace Go.Proofs.YtoloooammaiipaaDoor
open Go Go.RowKit Go.Proofs.YtoloooammaiipaaDoor.PI Go.Proofs.YtoloooammaiipaaDoorW.PrintWords Go.Proofs.YtoloooammaiipaaDoorW.PrintLast
/-- What is ahead of the first such byte, what is behind it, whether there is one. -/
def cut1 (c : UInt8) : List UInt8 → List UInt8 × List UInt8 × Bool
  | [] => ([], [], false)
  | x :: r => if x = c then ([], r, true) else (x :: (cut1 c r).1, (cut1 c r).2.1, (cut1 c r).2.2)
theorem cut1_miss {c : UInt8} {l : List UInt8} (h : c ∉ l) : cut1 c l = (l, [], false) := by
  induction l with
  | nil => rfl
  | cons x r ih =>
    have h1 : x ≠ c := fun e => h (by rw [e]; exact List.mem_cons_self)
    rw [cut1, if_neg h1, ih (fun hm => h (List.mem_cons_of_mem _ hm))]
theorem cut1_hit {c : UInt8} {a : List UInt8} (h : c ∉ a) (b : List UInt8) : cut1 c (a ++ c :: b) = (a, b, true) := by
  induction a with
  | nil => rw [List.nil_append, cut1, if_pos rfl]
  | cons x r ih =>
    have h1 : x ≠ c := fun e => h (by rw [e]; exact List.mem_cons_self)
    rw [List.cons_append, cut1, if_neg h1, ih (fun hm => h (List.mem_cons_of_mem _ hm))]
theorem cut1_le (c : UInt8) (l : List UInt8) : (cut1 c l).1.length ≤ l.length ∧ (cut1 c l).2.1.length ≤ l.length ∧ ((cut1 c l).2.2 = true → (cut1 c l).1.length + (cut1 c l).2.1.length + 1 = l.length) := by
  by_cases h : c ∈ l
  · obtain ⟨a, b, rfl, ha⟩ := first_hit h
    rw [cut1_hit ha]
    simp only [List.length_append, List.length_cons]
    exact ⟨by omega, by omega, fun _ => by omega⟩
  · rw [cut1_miss h]
    exact ⟨Nat.le_refl _, Nat.zero_le _, fun h => by cases h⟩
theorem cut1_is (s : ByteArray) (c : UInt8) (hs : s.size ≤ 4000000000) : strings_Cut.f s ⟨#[c]⟩ = some (strOf (cut1 c s.data.toList).1, strOf (cut1 c s.data.toList).2.1, (cut1 c s.data.toList).2.2) := by
  have hl := len_size s
  have hb : bt (⟨#[c]⟩ : ByteArray) 0 = (c.toNat : Int) := rfl
  have hc : (bt (⟨#[c]⟩ : ByteArray) 0).toNat.toUInt8 = c := by
    rw [hb, Int.toNat_natCast]
    exact UInt8.ofNat_toNat
  have hz : (⟨#[c]⟩ : ByteArray).size = 1 := rfl
  unfold strings_Cut.f stringslite_Cut.f stringslite_Index.f stringslite_IndexByte.f
  rw [if_pos hz, hc, Option.bind_some]
  by_cases h : c ∈ s.data.toList
  · obtain ⟨a, b, e, ha⟩ := first_hit h
    have hi : Lib.indexByte s.data.toList c = (a.length : Int) := by rw [e, indexByte_hit ha]
    have hlen : a.length + (b.length + 1) = s.size := by
      rw [← hl, e]
      simp
    have hw : wrap64 ((a.length : Int) + ((⟨#[c]⟩ : ByteArray).size : Int)) = ((a.length + 1 : Nat) : Int) := by
      rw [hz, wrap_fit (by omega) (by omega)]
      omega
    rw [hi, hw, if_pos (by omega), if_pos (by omega), if_pos (by omega), if_pos (by omega), if_pos (by omega), Option.bind_some]
    have hcut : cut1 c s.data.toList = (a, b, true) := by rw [e, cut1_hit ha]
    rw [hcut]
    congr 1
    refine Prod.ext ?_ (Prod.ext ?_ rfl)
    · apply bytes_eq
      show ((s.extract 0 ((a.length : Int)).toNat).data.toList) = (strOf a).data.toList
      rw [strOf_data, Lib.extract_data, Int.toNat_natCast, List.drop_zero, Nat.sub_zero, e, List.take_left]
    · apply bytes_eq
      show ((s.extract (((a.length + 1 : Nat) : Int)).toNat s.size).data.toList) = (strOf b).data.toList
      rw [strOf_data, Lib.extract_data, Int.toNat_natCast, e]
      have e2 : a ++ c :: b = (a ++ [c]) ++ b := by simp
      have e3 : a.length + 1 = (a ++ [c]).length := by simp
      rw [e2, e3, List.drop_left, List.take_of_length_le]
      rw [← e3]
      omega
  · rw [indexByte_miss h, if_neg (by decide), Option.bind_some, cut1_miss h]
    congr 1
end Go.Proofs.YtoloooammaiipaaDoor
/- What trace.output gives: a walk; conditions: a line of at most 400000 bytes. -/
namespace Go.Proofs.YtoloooammaiipaaDoor
open Go Go.RowKit Go.Proofs.YtoloooammaiipaaDoor.PI Go.Proofs.YtoloooammaiipaaDoorW.PrintWords Go.Proofs.YtoloooammaiipaaDoorW.PrintLast Go.Proofs.YtoloooammaiipaaDoorW.PrintMore
set_option linter.unusedVariables false
set_option linter.unusedSimpArgs false
def backL : List UInt8 := [98, 97, 99, 107]
def onL : List UInt8 := [111, 110]
/-- What a line tells of an output: whether it goes back, its bytes, whether it is one. -/
def outO (s : List UInt8) : Bool × List Int × Bool :=
  (decide ((cut1 32 s).1 = backL), (pairO (bytesO (cut1 32 s).2.1)).1, (pairO (bytesO (cut1 32 s).2.1)).2 && (decide ((cut1 32 s).1 = backL) || decide ((cut1 32 s).1 = onL)))
def OutPost (s : ByteArray) (w : World) (e : Ending) (w' : World) : Prop :=
  Below w.heap.size w w' ∧ ∃ v, Kd.R (Kd.int .u8) 5 w' w.heap.size (fun _ => True) v (outO s.data.toList).2.1 ∧ e = .returned (.tuple #[.agg #[.bool (outO s.data.toList).1, v], .bool (outO s.data.toList).2.2])
theorem ret_out {R : Ending → World → Prop} {a : Act} {W : World} {g : Nat} {x0 x1 er : Value} (hd : a.defers = []) (h : W.heap[g]? = some (.cells #[x0, x1] 56 (0, 0))) (ht : a.tmps[2]?.getD undef = .pointer (some ⟨g, 0, none⟩)) (h3 : a.tmps[3]?.getD undef = er)
    (hp : R (.returned (.tuple #[.agg #[x0, x1], er])) W) : bodyPost Tryd.prog Tryd.f54 R .ret a W := by
  have c0 := cell_of_cells h 0
  have c1 := cell_of_cells h 1
  simp only [List.getElem?_toArray, List.getElem?_cons_zero, List.getElem?_cons_succ] at c0 c1
  refine bodyPost_ret (v := .tuple #[.agg #[x0, x1], er]) ?_ hd hp
  simp [results, Tryd.results54, ht, h3, c0, c1, go_sem]
set_option maxHeartbeats 4000000 in
set_option maxRecDepth 100000 in
theorem output_walk (s : ByteArray) (hs : s.size ≤ 400000) (w : World) :
    Calls Tryd.prog 54 #[.string s] w (OutPost s w) := by
  have hcut := cut1_is s 32 (by omega)
  have hle := cut1_le 32 s.data.toList
  rw [len_size] at hle
  obtain ⟨a, b, f, hq⟩ : ∃ a b f, cut1 32 s.data.toList = (a, b, f) := ⟨_, _, _, rfl⟩
  have HQ := Lib.hid hq
  rw [hq] at hcut hle
  have HB := Lib.hid (show (strOf b).size ≤ 1000000 from by rw [strOf_size]; have := hle.2.1; simp only at this; omega)
  clear hle hq
  go_enter Tryd.func54, Tryd.ntmps54
  go_wp2_with fail
  have HZ := Lib.hid (blk_new w (.cells #[.bool false, .slice none 0 0] 56 (0, 0)))
  have HB0 := Lib.hid (below_alloc (Below.refl w.heap.size w) (.cells #[.bool false, .slice none 0 0] 56 (0, 0)))
  generalize w.alloc (.cells #[.bool false, .slice none 0 0] 56) = w0 at HZ HB0 ⊢
  generalize hg : w.heap.size = g at HZ HB0 ⊢
  have HG := Lib.hid hg
  clear hg
  refine (strings_Cut.calls s ⟨#[32]⟩ _ _ _ _ hcut).mono ?_
  rintro e w1 ⟨rfl, hdr⟩
  have HZ1 := Lib.hid (blk_below HZ.out hdr.below)
  have HB1 := Lib.hid (HB0.out.trans (hdr.below.mono HB0.out.size |>.mono (by have := HB0.out.size; have := HG.out; omega)))
  clear hdr hcut HZ
  obtain ⟨wa, hwa⟩ : ∃ wa, wa = strOf a := ⟨_, rfl⟩
  obtain ⟨wb, hwb⟩ : ∃ wb, wb = strOf b := ⟨_, rfl⟩
  have hby := bytes_is (strOf b) HB.out _ (Nat.le_refl _)
  rw [strOf_data, ← hwb] at hby
  simp only [← hwa, ← hwb]
  obtain ⟨l, ok, hp⟩ : ∃ l ok, pairO (bytesO b) = (l, ok) := ⟨_, _, rfl⟩
  rw [hp] at hby
  have HP := Lib.hid hp
  have HWA := Lib.hid hwa
  have HWB := Lib.hid hwb
  clear hp hwa hwb
  go_wp2_with fail
  refine (trace_Bytes.calls _ wb _ _ w1 hby).mono ?_
  rintro e w2 ⟨v0, rfl, hR, hb⟩
  have HZ2 := Lib.hid (blk_below HZ1.out hb)
  have HB2 := Lib.hid (HB1.out.trans (hb.mono (by have := blk_lt HZ1.out; omega)))
  have HR := Lib.hid hR
  have HL1 := Lib.hid (show g < w1.heap.size from blk_lt HZ1.out)
  clear hR hb hby HZ1 HB1
  obtain ⟨Av, cv, rfl⟩ := Kd.R_slice HR.out
  have e0 := cell_of_cells HZ2.out 0
  have e1 := cell_of_cells HZ2.out 1
  simp only [List.getElem?_toArray, List.getElem?_cons_zero, List.getElem?_cons_succ] at e0 e1
  have f0 := blk_frozen HZ2.out 0
  have f1 := blk_frozen HZ2.out 1
  have lt := blk_lt HZ2.out
  have fin : ∀ (x : Bool) (y : Bool), x = decide (a = backL) → y = (ok && (decide (a = backL) || decide (a = onL))) → OutPost s w (.returned (.tuple #[.agg #[.bool x, .slice Av l.length cv], .bool y])) ((w2.setCell ⟨g, 0, none⟩ (.bool x)).setCell ⟨g, 1, none⟩ (.slice Av l.length cv)) := by
    intro x y hx hy
    have ho : outO s.data.toList = (x, l, y) := by
      unfold outO
      rw [HQ.out]
      simp only
      rw [HP.out, hx, hy]
    refine ⟨?_, .slice Av l.length cv, ?_, ?_⟩
    · rw [HG.out]
      exact (HB2.out.setCell (Nat.le_refl _) _).setCell (Nat.le_refl _) _
    · rw [ho, HG.out]
      refine Kd.R_lower (Kd.R_mono (Kd.R_step (Kd.R_bound HR.out) (fun k hk _ => ?_)) (fun _ _ => trivial)) (Nat.le_of_lt HL1.out)
      have h1 := hk.2.1
      have h2 := HL1.out
      exact (Below.heap_setCell _ ⟨g, 1, none⟩ _ k (by show k ≠ g; omega)).trans (Below.heap_setCell _ ⟨g, 0, none⟩ _ k (by show k ≠ g; omega))
    · rw [ho]
  have hH : ∀ x : Bool, ((w2.setCell ⟨g, 0, none⟩ (.bool x)).setCell ⟨g, 1, none⟩ (.slice Av l.length cv)).heap[g]? = some (.cells #[.bool x, .slice Av l.length cv] 56 (0, 0)) := fun x => (blk_set (blk_set HZ2.out 0 _) 1 _).trans rfl
  have FIN := Lib.hid fin
  have HH := Lib.hid hH
  clear fin hH
  by_cases h1 : a = backL
  · have p1 : (wa.toList == ([98, 97, 99, 107] : List UInt8)) = true := by rw [beq_iff_eq, HWA.out, strOf_list]; exact h1
    cases ok with
    | true =>
      go_wp2_with fail
      exact ret_out rfl (HH.out _) rfl rfl (FIN.out _ _ (by rw [decide_eq_true h1]) (by rw [decide_eq_true h1]; rfl))
    | false =>
      go_wp2_with fail
      exact ret_out rfl (HH.out _) rfl rfl (FIN.out _ _ (by rw [decide_eq_true h1]) rfl)
  · have p1 : (wa.toList == ([98, 97, 99, 107] : List UInt8)) = false := by rw [beq_eq_false_iff_ne, HWA.out, strOf_list]; exact h1
    by_cases h2 : a = onL
    · have p2 : (wa.toList == ([111, 110] : List UInt8)) = true := by rw [beq_iff_eq, HWA.out, strOf_list]; exact h2
      cases ok with
      | true =>
        go_wp2_with fail
        exact ret_out rfl (HH.out _) rfl rfl (FIN.out _ _ (by rw [decide_eq_false h1]) (by rw [decide_eq_false h1, decide_eq_true h2]; rfl))
      | false =>
        go_wp2_with fail
        exact ret_out rfl (HH.out _) rfl rfl (FIN.out _ _ (by rw [decide_eq_false h1]) rfl)
    · have p2 : (wa.toList == ([111, 110] : List UInt8)) = false := by rw [beq_eq_false_iff_ne, HWA.out, strOf_list]; exact h2
      cases ok with
      | true =>
        go_wp2_with fail
        exact ret_out rfl (HH.out _) rfl rfl (FIN.out _ _ (by rw [decide_eq_false h1]) (by rw [decide_eq_false h1, decide_eq_false h2]; rfl))
      | false =>
        go_wp2_with fail
        exact ret_out rfl (HH.out _) rfl rfl (FIN.out _ _ (by rw [decide_eq_false h1]) rfl)
end Go.Proofs.YtoloooammaiipaaDoor
/- What trace's (*parser).line gives: a walk; conditions: a line of at most 400000 bytes, the steps so far a row of the parser's own; the tables lie as the program's text lays them. -/
namespace Go.Proofs.YtoloooammaiipaaDoor
open Go Go.RowKit Go.Proofs.YtoloooammaiipaaDoor.PI Go.Proofs.YtoloooammaiipaaDoorW.PrintWords Go.Proofs.YtoloooammaiipaaDoorW.PrintLast Go.Proofs.YtoloooammaiipaaDoorW.PrintMore
set_option linter.unusedVariables false
set_option linter.unusedSimpArgs false
def goneL : List UInt8 := [103, 111, 110, 101]
def stepZ : Value := .agg #[.int .i64 0, .int .i64 0, .int .i64 0, .slice none 0 0, .slice none 0 0, .bool false]
def outZ : Value := .agg #[.bool false, .slice none 0 0]
theorem info_step : (Tryd.prog.info? 42).map (fun i => (i.zero, i.size, i.bytes)) = some (some stepZ, 6, 80) := by kernel_rfl
theorem info_out : (Tryd.prog.info? 56).map (fun i => (i.zero, i.size, i.bytes)) = some (some outZ, 2, 32) := by kernel_rfl
/-- What a line makes of the steps so far; whether it is right. -/
def lineO (L : List S42) (s : List UInt8) : Bool × List S42 :=
  match readO s with
  | some x => (true, L ++ [⟨⟨(x.1 : Int), x.2.2.1, x.2.2.2, x.2.1⟩, [], false⟩])
  | none =>
    if L = [] then (false, L)
    else if (L.getD (L.length - 1) z42).f2 = true then (false, L)
    else if s = goneL then (true, L.set (L.length - 1) ⟨(L.getD (L.length - 1) z42).f0, (L.getD (L.length - 1) z42).f1, true⟩)
    else if (outO s).2.2 = true then (true, L.set (L.length - 1) ⟨(L.getD (L.length - 1) z42).f0, (L.getD (L.length - 1) z42).f1 ++ [⟨(outO s).1, (outO s).2.1⟩], (L.getD (L.length - 1) z42).f2⟩)
    else (false, L)
def LinePost (pb : Nat) (L : List S42) (s : ByteArray) (w : World) (e : Ending) (w' : World) : Prop :=
  Below pb w w' ∧ e = .returned (.bool (lineO L s.data.toList).1) ∧ ∃ v', w'.heap[pb]? = some (.cells #[v'] 86 (0, 0)) ∧ Kd.S k42 42 w' (pb + 1) (fun _ => True) v' (lineO L s.data.toList).2
theorem not_parser : ∀ q, q ∈ 42 :: k42.E → q ≠ 86 := by
  intro q hq h
  subst h
  exact absurd hq (by decide +kernel)
theorem hpre {n : Nat} (h : n ≤ 1000000) : wrap64 (((n + 1 : Nat) : Int) - 1) = (n : Int) := by
  have e : ((n + 1 : Nat) : Int) - 1 = (n : Int) := by omega
  rw [e]
  exact wrap_fit (by omega) (by omega)
theorem S_len {α : Type} {d : Kd α} {e : Nat} {w : World} {base : Nat} {ok : Nat → Prop} {A : Option Addr} {c : Nat} {L : List α} {p : α} {xs : List α} (h : Kd.S d e w base ok (.slice A (L ++ [p]).length c) xs) : Kd.S d e w base ok (.slice A (L.length + 1) c) xs := by
  rw [List.length_append] at h
  exact h
theorem R_len {α : Type} {d : Kd α} {e : Nat} {w : World} {base : Nat} {ok : Nat → Prop} {A : Option Addr} {c : Nat} {L : List α} {p : α} {xs : List α} (h : Kd.R d e w base ok (.slice A (L ++ [p]).length c) xs) : Kd.R d e w base ok (.slice A (L.length + 1) c) xs := by
  rw [List.length_append] at h
  exact h
set_option maxHeartbeats 8000000 in
set_option maxRecDepth 100000 in
theorem line_some (pb : Nat) (L : List S42) (vL : Value) (s : ByteArray) (w : World) (hp : w.heap[pb]? = some (.cells #[vL] 86 (0, 0))) (hS : Kd.S k42 42 w (pb + 1) (fun _ => True) vL L) (hL : L.length ≤ 1000000) (hs : s.size ≤ 400000) (hG : GlobT w)
    {x : Nat × List Int × Int × Int} (hrd : readO s.data.toList = some x) :
    Calls Tryd.prog 41 #[.pointer (some ⟨pb, 0, none⟩), .string s] w (LinePost pb L s w) := by
  obtain ⟨AL, cL, rfl⟩ := Kd.S_slice hS
  obtain ⟨xi, xa, xn, xk⟩ := x
  have HRD := Lib.hid hrd
  have HP := Lib.hid hp
  have HS := Lib.hid hS
  have HRW := Lib.hid (read_walk s hs w hG)
  have hpl := blk_lt hp
  clear hp hS hG hrd
  go_enter Tryd.func41, Tryd.ntmps41
  go_wp2_with fail
  refine HRW.out.mono ?_
  rintro e w1 ⟨hb1, v, hR, he⟩
  rw [HRD.out] at hR he
  simp only [Option.elim] at hR he
  obtain rfl := he
  obtain ⟨Av, cv, rfl⟩ := Kd.R_slice hR
  go_wp2_with fail
  have HB2 := Lib.hid (below_alloc hb1 (.cells #[.int .i64 (xi : Int), .int .i64 xn, .int .i64 xk, .slice Av xa.length cv] 29 (0, 0)))
  have HP2 := Lib.hid (blk_alloc (blk_below HP.out hb1) (.cells #[.int .i64 (xi : Int), .int .i64 xn, .int .i64 xk, .slice Av xa.length cv] 29 (0, 0)))
  have HE2 := Lib.hid (blk_new w1 (.cells #[.int .i64 (xi : Int), .int .i64 xn, .int .i64 xk, .slice Av xa.length cv] 29 (0, 0)))
  have HS2 := Lib.hid (Kd.S_alloc (Kd.S_old HS.out hb1) (.cells #[.int .i64 (xi : Int), .int .i64 xn, .int .i64 xk, .slice Av xa.length cv] 29 (0, 0)))
  have HR2 := Lib.hid (Kd.R_alloc (Kd.R_bound hR) (.cells #[.int .i64 (xi : Int), .int .i64 xn, .int .i64 xk, .slice Av xa.length cv] 29 (0, 0)))
  clear hb1 hR
  generalize w1.alloc (.cells #[.int .i64 (xi : Int), .int .i64 xn, .int .i64 xk, .slice Av xa.length cv] 29) = w2 at HB2 HP2 HE2 HS2 HR2 ⊢
  generalize w1.heap.size = ge at HE2 ⊢
  have HM3 := Lib.hid (show k42.M w2.drew (pb + 1) (fun k => w.heap.size ≤ k) ⟨⟨(xi : Int), xn, xk, xa⟩, [], false⟩ [.int .i64 (xi : Int), .int .i64 xn, .int .i64 xk, .slice Av xa.length cv, .slice none 0 0, .bool false] from
    k42_mkM w2.drew (pb + 1) (fun k => w.heap.size ≤ k) ⟨⟨(xi : Int), xn, xk, xa⟩, [], false⟩ (Kd.R_drew (Kd.R_mono (Kd.R_lower HR2.out (by omega)) (fun k hk => hk.2.1))) (Kd.R_nil _ _ _ _ _))
  have HOK := Lib.hid (show ∀ k, w.heap.size ≤ k → True ∧ some k ≠ (Value.slice AL L.length cL).ownBlock from fun k hk => ⟨trivial, fun h => by have := Kd.S_lt HS.out k h.symm; omega⟩)
  have HS3 := Lib.hid (show Kd.S k42 42 w2.drew (pb + 1) (fun k => True ∧ ¬ w.heap.size ≤ k) (.slice AL L.length cL) L from Kd.S_drew (Kd.S_mono HS2.out (fun k hk => ⟨trivial, by have := hk.2; omega⟩)))
  have HB3 := Lib.hid (show Below (pb + 1) w w2.drew from (below_drew HB2.out).mono (by omega))
  have HBA := Lib.hid (show pb + 1 ≤ w2.drew.heap.size from Nat.le_trans (by omega : pb + 1 ≤ w.heap.size) HB2.out.size)
  have HLL := Lib.hid (show (L.length + 1) * 80 ≤ 140737488355328 from by omega)
  have HN1 := Lib.hid (Kd.S_ne HS2.out HP2.out (by decide))
  have HN2 := Lib.hid (Kd.S_ne HS2.out HE2.out (by decide))
  refine start_ (n := 12) (S := fun w' => w'.heap[pb]? = some (.cells #[.slice AL L.length cL] 86 (0, 0)) ∧ w'.heap[ge]? = some (.cells #[.int .i64 (xi : Int), .int .i64 xn, .int .i64 xk, .slice Av xa.length cv] 29 (0, 0))) (ds := [11]) #[false, false, false, false, false, false, false, false, false, false, false, false] (by kernel_rfl) rfl rfl ⟨blk_drew HP2.out, blk_drew HE2.out⟩ (fun hHeld => ?_)
  refine pure_ (i := 0) (N := some 17) (v := ?_) (a' := ?_) #[true, false, false, false, false, false, false, false, false, false, false, false] rfl rfl (by kernel_rfl) (fun _ _ _ h => h) (Or.inl ⟨by rfl, ?_⟩) ?_ ?_
  rotate_left
  · intro w'
    go_simp
    with_reducible rfl
  rotate_left
  · simp only [Act.put, List.setIfInBounds_toArray, List.set_cons_zero, List.set_cons_succ]
    rfl
  refine pure_ (i := 1) (N := some 18) (v := ?_) (a' := ?_) #[true, true, false, false, false, false, false, false, false, false, false, false] rfl rfl (by kernel_rfl) (fun _ _ _ h => h) (Or.inl ⟨by rfl, ?_⟩) ?_ ?_
  rotate_left
  · intro w'
    go_simp
    with_reducible rfl
  rotate_left
  · simp only [Act.put, List.setIfInBounds_toArray, List.set_cons_zero, List.set_cons_succ]
    rfl
  refine pure_ (i := 2) (N := some 19) (v := ?_) (a' := ?_) #[true, true, true, false, false, false, false, false, false, false, false, false] rfl rfl (by kernel_rfl) (fun _ _ _ h => h) (Or.inl ⟨by rfl, ?_⟩) ?_ ?_
  rotate_left
  · intro w'
    go_simp
    with_reducible rfl
  rotate_left
  · simp only [Act.put, List.setIfInBounds_toArray, List.set_cons_zero, List.set_cons_succ]
    rfl
  refine pure_ (i := 3) (N := some 20) (v := ?_) (a' := ?_) #[true, true, true, true, false, false, false, false, false, false, false, false] rfl rfl (by kernel_rfl) (fun _ _ _ h => h) (Or.inl ⟨by rfl, ?_⟩) ?_ ?_
  rotate_left
  · intro w'
    go_simp
    with_reducible rfl
  rotate_left
  · simp only [Act.put, List.setIfInBounds_toArray, List.set_cons_zero, List.set_cons_succ]
    rfl
  refine take_ (i := 4) (N := some 21) (v := ?_) (a' := ?_) #[true, true, true, true, true, false, false, false, false, false, false, false] rfl rfl (by kernel_rfl) (fun _ _ _ h => h) (Or.inl ⟨by rfl, ?_⟩) hHeld ?_ ?_
  rotate_left
  · intro w' hs
    have e0 := cell_of_cells hs.1 0
    simp only [List.getElem?_toArray, List.getElem?_cons_zero, List.getElem?_cons_succ] at e0
    go_simp
    with_reducible rfl
  rotate_left
  · simp only [Act.put, List.setIfInBounds_toArray, List.set_cons_zero, List.set_cons_succ]
    rfl
  refine take_ (i := 5) (N := some 22) (v := ?_) (a' := ?_) #[true, true, true, true, true, true, false, false, false, false, false, false] rfl rfl (by kernel_rfl) (fun _ _ _ h => h) (Or.inl ⟨by rfl, ?_⟩) hHeld ?_ ?_
  rotate_left
  · intro w' hs
    have e0 := cell_of_cells hs.2 0
    have e1 := cell_of_cells hs.2 1
    have e2 := cell_of_cells hs.2 2
    have e3 := cell_of_cells hs.2 3
    simp only [List.getElem?_toArray, List.getElem?_cons_zero, List.getElem?_cons_succ] at e0 e1 e2 e3
    go_simp
    with_reducible rfl
  rotate_left
  · simp only [Act.put, List.setIfInBounds_toArray, List.set_cons_zero, List.set_cons_succ]
    rfl
  refine pure_ (i := 6) (N := some 23) (v := ?_) (a' := ?_) #[true, true, true, true, true, true, true, false, false, false, false, false] rfl rfl (by kernel_rfl) (fun _ _ _ h => h) (Or.inl ⟨by rfl, ?_⟩) ?_ ?_
  rotate_left
  · intro w'
    go_simp
    with_reducible rfl
  rotate_left
  · simp only [Act.put, List.setIfInBounds_toArray, List.set_cons_zero, List.set_cons_succ]
    rfl
  refine one_ (i := 7) (N := some 24) #[true, true, true, true, true, true, true, true, false, false, false, false] rfl rfl (by kernel_rfl) (by decide) (fun K hK => ?_)
  refine value_ (w1 := ?_) (v := ?_) (by rfl) rfl ?_ ?_
  rotate_left 2
  · go_simp
    constructor
    · rfl
    · rfl
  refine hK.out _ _ ⟨blk_alloc hHeld.1 _, blk_alloc hHeld.2 _⟩ (fun hHeld => ?_)
  clear hK K
  refine norm_ (a' := ?_) ?_ ?_
  rotate_left
  · show Act.put _ (some 24) _ = _
    simp only [Act.put, List.setIfInBounds_toArray, List.set_cons_zero, List.set_cons_succ]
    rfl
  refine one_ (i := 8) (N := some 25) #[true, true, true, true, true, true, true, true, true, false, false, false] rfl rfl (by kernel_rfl) (by decide) (fun K hK => ?_)
  refine Kd.S_append_step k42 (w0 := w) (pb + 1) (by rfl) (.tmp 21) (.tmp 24) 43 42 stepZ 80 rfl Tryd.underlying43 info_step rfl (by decide) (by decide) (.slice AL L.length cL) L ⟨⟨(xi : Int), xn, xk, xa⟩, [], false⟩ [.int .i64 (xi : Int), .int .i64 xn, .int .i64 xk, .slice Av xa.length cv, .slice none 0 0, .bool false] (fun _ => True) (fun k => w.heap.size ≤ k) rfl rfl HM3.out HOK.out (fun _ _ => trivial) HS3.out HB3.out HBA.out HLL.out ?_
  intro v25 w3 k1 k2 k3 k4
  have HG3 := Lib.hid k3
  have HS4 := Lib.hid k1
  have HB4 := Lib.hid k2
  clear k1 k2 k3 k4
  obtain ⟨A25, c25, rfl⟩ := Kd.S_slice HS4.out
  have HS4 := Lib.hid (S_len HS4.out)
  rw [List.length_append, List.length_singleton]
  refine hK.out _ _ ⟨blk_grown (blk_drew HP2.out) HG3.out HN1.out, blk_grown (blk_drew HE2.out) HG3.out HN2.out⟩ (fun hHeld => ?_)
  clear hK K
  refine norm_ (a' := ?_) ?_ ?_
  rotate_left
  · show Act.put _ (some 25) _ = _
    simp only [Act.put, List.setIfInBounds_toArray, List.set_cons_zero, List.set_cons_succ]
    rfl
  refine pure_ (i := 9) (N := some 26) (v := ?_) (a' := ?_) #[true, true, true, true, true, true, true, true, true, true, false, false] rfl rfl (by kernel_rfl) (fun _ _ _ h => h) (Or.inl ⟨by rfl, ?_⟩) ?_ ?_
  rotate_left
  · intro w'
    go_simp
    with_reducible rfl
  rotate_left
  · simp only [Act.put, List.setIfInBounds_toArray, List.set_cons_zero, List.set_cons_succ]
    rfl
  refine pure_ (i := 10) (N := some 27) (v := ?_) (a' := ?_) #[true, true, true, true, true, true, true, true, true, true, true, false] rfl rfl (by kernel_rfl) (fun _ _ _ h => h) (Or.inl ⟨by rfl, ?_⟩) ?_ ?_
  rotate_left
  · intro w'
    go_simp
    with_reducible rfl
  rotate_left
  · simp only [Act.put, List.setIfInBounds_toArray, List.set_cons_zero, List.set_cons_succ]
    rfl
  have HH := Lib.hid hHeld
  clear hHeld
  have e0 := cell_of_cells HH.out.1 0
  simp only [List.getElem?_toArray, List.getElem?_cons_zero, List.getElem?_cons_succ] at e0
  have f0 := blk_frozen HH.out.1 0
  have lt0 := blk_lt HH.out.1
  refine last_ (i := 11) (N := none) #[true, true, true, true, true, true, true, true, true, true, true, true] rfl rfl (by kernel_rfl) (by decide) (fun K hK => ?_)
  refine skip_ (w1 := ?_) (by rfl) rfl ?_ ?_
  rotate_left
  · go_simp
    rfl
  refine hK.out _ _ ?_
  clear hK K
  refine done_ (by kernel_rfl) ?_
  go_wp2_with fail
  go_ret
  refine ⟨(HB4.out.mono (Nat.le_succ _)).setCell (Nat.le_refl _) _, ?_, .slice A25 (L.length + 1) c25, (blk_set HH.out.1 0 _).trans rfl, ?_⟩
  · unfold lineO
    rw [HRD.out]
    rfl
  · unfold lineO
    rw [HRD.out]
    exact Kd.S_set HS4.out HH.out.1 not_parser 0 _
theorem frozen_same {W W' : World} {b : Nat} (h : W'.heap[b]? = W.heap[b]?) (i : Nat) : W'.frozen? ⟨b, i, none⟩ = W.frozen? ⟨b, i, none⟩ := by simp [World.frozen?, h]
set_option maxHeartbeats 8000000 in
set_option maxRecDepth 100000 in
theorem line_empty (pb : Nat) (vL : Value) (s : ByteArray) (w : World) (hp : w.heap[pb]? = some (.cells #[vL] 86 (0, 0))) (hS : Kd.S k42 42 w (pb + 1) (fun _ => True) vL []) (hs : s.size ≤ 400000) (hG : GlobT w) (hrd : readO s.data.toList = none) :
    Calls Tryd.prog 41 #[.pointer (some ⟨pb, 0, none⟩), .string s] w (LinePost pb [] s w) := by
  obtain ⟨AL, cL, rfl⟩ := Kd.S_slice hS
  have HRD := Lib.hid hrd
  have HP := Lib.hid hp
  have HS := Lib.hid hS
  have HRW := Lib.hid (read_walk s hs w hG)
  have hpl := blk_lt hp
  clear hp hS hG hrd
  go_enter Tryd.func41, Tryd.ntmps41
  go_wp2_with fail
  refine HRW.out.mono ?_
  rintro e w1 ⟨hb1, v, hR, he⟩
  rw [HRD.out] at hR he
  simp only [Option.elim] at hR he
  obtain rfl := he
  obtain ⟨Av, cv, rfl⟩ := Kd.R_slice hR
  have HB1 := Lib.hid hb1
  have e0 := cell_of_cells (blk_below HP.out hb1) 0
  simp only [List.getElem?_toArray, List.getElem?_cons_zero, List.getElem?_cons_succ] at e0
  have l0 := blk_lt (blk_below HP.out hb1)
  clear hb1 hR
  go_wp2_with fail
  go_ret
  refine ⟨(below_alloc HB1.out _).mono (by omega), ?_, _, blk_alloc (blk_below HP.out HB1.out) _, ?_⟩
  · unfold lineO
    rw [HRD.out]
    rfl
  · unfold lineO
    rw [HRD.out]
    exact Kd.S_alloc (Kd.S_below HS.out HB1.out) _
set_option maxHeartbeats 8000000 in
set_option maxRecDepth 100000 in
theorem line_last (pb m : Nat) (L : List S42) (vL : Value) (s : ByteArray) (w : World) (hp : w.heap[pb]? = some (.cells #[vL] 86 (0, 0))) (hS : Kd.S k42 42 w (pb + 1) (fun _ => True) vL L) (hn : L.length = m + 1) (hm : m ≤ 1000000) (hO : ∀ x ∈ L, x.f1.length ≤ 1000000) (hs : s.size ≤ 400000) (hG : GlobT w) (hrd : readO s.data.toList = none) :
    Calls Tryd.prog 41 #[.pointer (some ⟨pb, 0, none⟩), .string s] w (LinePost pb L s w) := by
  obtain ⟨g, cL, rfl, hgb, hgl, -⟩ := Kd.S_form hS (by omega)
  rw [hn] at hp hS
  have hne : L ≠ [] := fun h => by rw [h] at hn; cases hn
  have hn1 : L.length - 1 = m := by omega
  obtain ⟨oki, c, hcl, hM, hcc, hfr, hoki, hH⟩ := Kd.S_elem hS z42 (m : Int) (by omega) (by omega)
  obtain ⟨z, hz⟩ : ∃ z, z = L.getD m z42 := ⟨_, rfl⟩
  rw [show ((m : Int)).toNat = m from rfl, ← hz] at hM
  obtain ⟨v3, v4, hce, hR3, hR4⟩ := k42_openM hM
  obtain ⟨⟨z0, z1, z2, z3⟩, zf1, zf2⟩ := z
  simp only at hce hR3 hR4
  subst hce
  have hc4 : w.cell? ⟨g, m * 6 + 4, none⟩ = some v4 := hcc 4 _ rfl
  have hc5 : w.cell? ⟨g, m * 6 + 5, none⟩ = some (.bool zf2) := hcc 5 _ rfl
  have hf4 : w.frozen? ⟨g, m * 6 + 4, none⟩ = false := hfr 4
  have hf5 : w.frozen? ⟨g, m * 6 + 5, none⟩ = false := hfr 5
  have HZL := Lib.hid (show zf1.length ≤ 1000000 from by
    have h := hO (L.getD m z42) (by rw [List.getD_eq_getElem?_getD, List.getElem?_eq_getElem (by omega : m < L.length)]; exact List.getElem_mem _)
    rw [← hz] at h
    exact h)
  have HC4 := Lib.hid hc4
  have HC5 := Lib.hid hc5
  have HF4 := Lib.hid hf4
  have HF5 := Lib.hid hf5
  have HH := Lib.hid (Kd.H_widen hH)
  have HOK := Lib.hid hoki
  have HR3 := Lib.hid hR3
  have HR4 := Lib.hid hR4
  have HLO := Lib.hid (show lineO L s.data.toList = (if zf2 = true then (false, L) else if s.data.toList = goneL then (true, L.set m ⟨⟨z0, z1, z2, z3⟩, zf1, true⟩) else if (outO s.data.toList).2.2 = true then (true, L.set m ⟨⟨z0, z1, z2, z3⟩, zf1 ++ [⟨(outO s.data.toList).1, (outO s.data.toList).2.1⟩], zf2⟩) else (false, L)) from by
    unfold lineO
    rw [hrd]
    simp only
    rw [if_neg hne, hn1, ← hz])
  have HRD := Lib.hid hrd
  have HP := Lib.hid hp
  have HS := Lib.hid hS
  have HRW := Lib.hid (read_walk s hs w hG)
  have HOW := Lib.hid (output_walk s hs)
  have hpl := blk_lt hp
  have HPRE := Lib.hid (hpre hm)
  clear hp hS hG hrd hc4 hc5 hf4 hf5 hcc hfr hcl hM hH hoki hR3 hR4 hz hO
  go_enter Tryd.func41, Tryd.ntmps41
  go_wp2_with fail
  refine HRW.out.mono ?_
  rintro e w1 ⟨hb1, v, hR, he⟩
  rw [HRD.out] at hR he
  simp only [Option.elim] at hR he
  obtain rfl := he
  obtain ⟨Av, cv, rfl⟩ := Kd.R_slice hR
  have HB1 := Lib.hid hb1
  have e0 := cell_of_cells (blk_below HP.out hb1) 0
  simp only [List.getElem?_toArray, List.getElem?_cons_zero, List.getElem?_cons_succ] at e0
  have l0 := blk_lt (blk_below HP.out hb1)
  have e5 := (cell_same (hb1.block g hgl) (m * 6 + 5)).trans HC5.out
  have f5 := (frozen_same (hb1.block g hgl) (m * 6 + 5)).trans HF5.out
  have l5 := Nat.lt_of_lt_of_le hgl hb1.size
  have hpre' := HPRE.out
  have m0 : (0 : Int) ≤ (m : Int) := by omega
  have m1 : (m : Int) < ((m + 1 : Nat) : Int) := by omega
  have m2 : ¬ (m : Int) < 0 := by omega
  have hbA := Lib.hid (fun o => below_alloc HB1.out o)
  clear hb1 hR
  cases zf2 with
  | true =>
    go_wp2_with fail
    go_ret
    refine ⟨(hbA.out _).mono (by omega), ?_, _, blk_alloc (blk_below HP.out HB1.out) _, ?_⟩
    · rw [HLO.out]
      rfl
    · rw [HLO.out]
      exact Kd.S_alloc (Kd.S_below HS.out HB1.out) _
  | false =>
    by_cases hgone : s.data.toList = goneL
    · have p1 : (s.toList == ([103, 111, 110, 101] : List UInt8)) = true := by rw [beq_iff_eq, Lib.toList_data]; exact hgone
      go_wp2_with fail
      go_ret
      have H2 := Kd.H_below HH.out HB1.out
      obtain ⟨h3, -⟩ := Kd.H_seg H2 (by omega) (by omega) (seg := [.bool true]) (j := 5) (by decide) (by intro q hq; rw [List.mem_singleton.1 hq]; rfl)
      have r3 := Kd.R_far (Kd.R_below HR3.out HB1.out) (p := ⟨g, m * 6 + 5, none⟩) (fun k hk => (HOK.out k hk).2) (.bool true)
      have r4 := Kd.R_far (Kd.R_below HR4.out HB1.out) (p := ⟨g, m * 6 + 5, none⟩) (fun k hk => (HOK.out k hk).2) (.bool true)
      have hS' := Kd.H_back h3 (k42_mkM _ (pb + 1) oki ⟨⟨z0, z1, z2, z3⟩, zf1, true⟩ r3 r4) (fun _ hk => Or.inl hk)
      have hb9 : Below pb w (w1.setCell ⟨g, m * 6 + 5, none⟩ (.bool true)) := (HB1.out.mono (by omega : pb ≤ w.heap.size)).setCell (by show pb ≤ g; omega) _
      refine ⟨hb9.alloc (Nat.le_trans (by omega : pb ≤ w.heap.size) hb9.size) _, ?_, _, blk_alloc (blk_far (blk_below HP.out HB1.out) (p := ⟨g, m * 6 + 5, none⟩) (by show pb ≠ g; omega) _) _, ?_⟩
      · rw [HLO.out, if_neg (by decide), if_pos hgone]
        rfl
      · rw [HLO.out, if_neg (by decide), if_pos hgone]
        exact Kd.S_alloc hS' _
    · have p1 : (s.toList == ([103, 111, 110, 101] : List UInt8)) = false := by rw [beq_eq_false_iff_ne, Lib.toList_data]; exact hgone
      have HGN := Lib.hid hgone
      clear hgone
      go_wp2_with fail
      have HB2 := Lib.hid (hbA.out (.cells #[.int .i64 0, .int .i64 0, .int .i64 0, .slice Av 0 cv] 29 (0, 0)))
      clear e0 l0 e5 f5 l5 hbA HB1
      generalize w1.alloc (.cells #[.int .i64 0, .int .i64 0, .int .i64 0, .slice Av 0 cv] 29) = w2 at HB2 ⊢
      refine (HOW.out w2).mono ?_
      rintro e w3 ⟨hb3, vo, hRo, he⟩
      obtain ⟨ob, od, okb, ho⟩ : ∃ ob od okb, outO s.data.toList = (ob, od, okb) := ⟨_, _, _, rfl⟩
      rw [ho] at hRo he
      have HO := Lib.hid ho
      clear ho
      simp only at hRo he
      obtain rfl := he
      obtain ⟨Ao, co, rfl⟩ := Kd.R_slice hRo
      have HB3 := Lib.hid (HB2.out.trans (hb3.mono HB2.out.size))
      have HL2 := Lib.hid (show w.heap.size ≤ w2.heap.size from HB2.out.size)
      have HRO := Lib.hid (Kd.R_bound hRo)
      clear hb3 hRo
      cases okb with
      | false =>
        go_wp2_with fail
        go_ret
        refine ⟨(below_alloc HB3.out _).mono (by omega), ?_, _, blk_alloc (blk_below HP.out HB3.out) _, ?_⟩
        · rw [HLO.out, if_neg (by decide), if_neg HGN.out, HO.out]
          rfl
        · rw [HLO.out, if_neg (by decide), if_neg HGN.out, HO.out]
          exact Kd.S_alloc (Kd.S_below HS.out HB3.out) _
      | true =>
        go_wp2_with fail
        have HB5 := Lib.hid (below_alloc HB3.out (.cells #[.bool ob, .slice Ao od.length co] 56 (0, 0)))
        have HO5 := Lib.hid (blk_new w3 (.cells #[.bool ob, .slice Ao od.length co] 56 (0, 0)))
        have HRO5 := Lib.hid (Kd.R_drew (Kd.R_alloc HRO.out (.cells #[.bool ob, .slice Ao od.length co] 56 (0, 0))))
        have HGO := Lib.hid (show w.heap.size ≤ w3.heap.size from HB3.out.size)
        generalize w3.alloc (.cells #[.bool ob, .slice Ao od.length co] 56) = w5 at HB5 HO5 HRO5 ⊢
        generalize w3.heap.size = go at HO5 HGO ⊢
        have HP5 := Lib.hid (blk_below HP.out HB5.out)
        obtain ⟨A4, c4, rfl⟩ := Kd.R_slice HR4.out
        have HC5 := Lib.hid ((cell_same (HB5.out.block g hgl) (m * 6 + 4)).trans HC4.out)
        have HGL := Lib.hid (show g < w5.drew.heap.size from Nat.lt_of_lt_of_le hgl HB5.out.size)
        have HR45 := Lib.hid (show Kd.R k56 56 w5.drew (pb + 1) (fun k => oki k ∨ w.heap.size ≤ k) (.slice A4 zf1.length c4) zf1 from Kd.R_drew (Kd.R_below (Kd.R_mono HR4.out (fun _ hk => Or.inl hk)) HB5.out))
        have HOWN := Lib.hid (Kd.R_lt HR4.out)
        have HOKI := Lib.hid HR4.out.1
        have HM5 := Lib.hid (show k56.M w5.drew (pb + 1) (fun k => w2.heap.size ≤ k) ⟨ob, od⟩ [.bool ob, .slice Ao od.length co] from k56_mkM w5.drew (pb + 1) (fun k => w2.heap.size ≤ k) ⟨ob, od⟩ (Kd.R_mono (Kd.R_lower HRO5.out (by have := HL2.out; omega)) (fun k hk => hk.2.1)))
        have HOK5 := Lib.hid (show ∀ k, w2.heap.size ≤ k → (oki k ∨ w.heap.size ≤ k) ∧ some k ≠ (Value.slice A4 zf1.length c4).ownBlock from fun k hk => ⟨Or.inr (Nat.le_trans HL2.out hk), fun h => by have := HOWN.out k h.symm; have := HL2.out; omega⟩)
        have HFR := Lib.hid (show ∀ k, w5.drew.heap.size ≤ k → oki k ∨ w.heap.size ≤ k from fun k hk => Or.inr (Nat.le_trans HB5.out.size hk))
        have HBD := Lib.hid (show Below (pb + 1) w w5.drew from (below_drew HB5.out).mono (by omega))
        have HBA5 := Lib.hid (show pb + 1 ≤ w5.drew.heap.size from Nat.le_trans (by omega : pb + 1 ≤ w.heap.size) HB5.out.size)
        have HLL5 := Lib.hid (show (zf1.length + 1) * 32 ≤ 140737488355328 from by have := HZL.out; omega)
        have HN3 := Lib.hid (Kd.R_ne HR45.out (blk_drew HP5.out) (by decide))
        have HN4 := Lib.hid (show some go ≠ (Value.slice A4 zf1.length c4).ownBlock from fun h => by have := HOWN.out go h.symm; have := HGO.out; omega)
        have HN5 := Lib.hid (show some g ≠ (Value.slice A4 zf1.length c4).ownBlock from fun h => (HOK.out g (HOKI.out g h.symm)).2 rfl)
        have HC6 := Lib.hid (show ∀ w6, w5.drew.grownBy w6 (Value.slice A4 zf1.length c4).ownBlock → w6.cell? ⟨g, m * 6 + 4, none⟩ = some (.slice A4 zf1.length c4) from fun w6 hg => (cell_same (hg.block g HGL.out HN5.out) _).trans HC5.out)
        have HF6 := Lib.hid (show ∀ w6, w5.drew.grownBy w6 (Value.slice A4 zf1.length c4).ownBlock → w6.frozen? ⟨g, m * 6 + 4, none⟩ = false from fun w6 hg => (frozen_same (hg.block g HGL.out HN5.out) _).trans ((frozen_same (HB5.out.block g hgl) _).trans HF4.out))
        refine start_ (n := 19) (S := fun w' => w'.heap[pb]? = some (.cells #[.slice (some ⟨g, 0, none⟩) (m + 1) cL] 86 (0, 0)) ∧ w'.heap[go]? = some (.cells #[.bool ob, .slice Ao od.length co] 56 (0, 0)) ∧ w'.cell? ⟨g, m * 6 + 4, none⟩ = some (.slice A4 zf1.length c4)) (ds := [18]) #[false, false, false, false, false, false, false, false, false, false, false, false, false, false, false, false, false, false, false] (by kernel_rfl) rfl rfl ⟨blk_drew HP5.out, blk_drew HO5.out, HC5.out⟩ (fun hHeld => ?_)
        refine pure_ (i := 0) (N := some 61) (v := ?_) (a' := ?_) #[true, false, false, false, false, false, false, false, false, false, false, false, false, false, false, false, false, false, false] rfl rfl (by kernel_rfl) (fun _ _ _ h => h) (Or.inl ⟨by rfl, ?_⟩) ?_ ?_
        rotate_left
        · intro w'
          go_simp
          with_reducible rfl
        rotate_left
        · simp only [Act.put, List.setIfInBounds_toArray, List.set_cons_zero, List.set_cons_succ]
          rfl
        refine pure_ (i := 1) (N := some 62) (v := ?_) (a' := ?_) #[true, true, false, false, false, false, false, false, false, false, false, false, false, false, false, false, false, false, false] rfl rfl (by kernel_rfl) (fun _ _ _ h => h) (Or.inl ⟨by rfl, ?_⟩) ?_ ?_
        rotate_left
        · intro w'
          go_simp
          with_reducible rfl
        rotate_left
        · simp only [Act.put, List.setIfInBounds_toArray, List.set_cons_zero, List.set_cons_succ]
          rfl
        refine pure_ (i := 2) (N := some 63) (v := ?_) (a' := ?_) #[true, true, true, false, false, false, false, false, false, false, false, false, false, false, false, false, false, false, false] rfl rfl (by kernel_rfl) (fun _ _ _ h => h) (Or.inl ⟨by rfl, ?_⟩) ?_ ?_
        rotate_left
        · intro w'
          go_simp
          with_reducible rfl
        rotate_left
        · simp only [Act.put, List.setIfInBounds_toArray, List.set_cons_zero, List.set_cons_succ]
          rfl
        refine take_ (i := 3) (N := some 64) (v := ?_) (a' := ?_) #[true, true, true, true, false, false, false, false, false, false, false, false, false, false, false, false, false, false, false] rfl rfl (by kernel_rfl) (fun _ _ _ h => h) (Or.inl ⟨by rfl, ?_⟩) hHeld ?_ ?_
        rotate_left
        · intro w' hs
          have e0 := cell_of_cells hs.1 0
          simp only [List.getElem?_toArray, List.getElem?_cons_zero, List.getElem?_cons_succ] at e0
          go_simp
          with_reducible rfl
        rotate_left
        · simp only [Act.put, List.setIfInBounds_toArray, List.set_cons_zero, List.set_cons_succ]
          rfl
        refine pure_ (i := 4) (N := some 65) (v := ?_) (a' := ?_) #[true, true, true, true, true, false, false, false, false, false, false, false, false, false, false, false, false, false, false] rfl rfl (by kernel_rfl) (fun _ _ _ h => h) (Or.inl ⟨by rfl, ?_⟩) ?_ ?_
        rotate_left
        · intro w'
          go_simp
          with_reducible rfl
        rotate_left
        · simp only [Act.put, List.setIfInBounds_toArray, List.set_cons_zero, List.set_cons_succ]
          rfl
        refine pure_ (i := 5) (N := some 66) (v := ?_) (a' := ?_) #[true, true, true, true, true, true, false, false, false, false, false, false, false, false, false, false, false, false, false] rfl rfl (by kernel_rfl) (fun _ _ _ h => h) (Or.inl ⟨by rfl, ?_⟩) ?_ ?_
        rotate_left
        · intro w'
          go_simp
          with_reducible rfl
        rotate_left
        · simp only [Act.put, List.setIfInBounds_toArray, List.set_cons_zero, List.set_cons_succ]
          rfl
        refine pure_ (i := 6) (N := some 67) (v := ?_) (a' := ?_) #[true, true, true, true, true, true, true, false, false, false, false, false, false, false, false, false, false, false, false] rfl rfl (by kernel_rfl) (fun _ _ _ h => h) (Or.inl ⟨by rfl, ?_⟩) ?_ ?_
        rotate_left
        · intro w'
          go_simp
          with_reducible rfl
        rotate_left
        · simp only [Act.put, List.setIfInBounds_toArray, List.set_cons_zero, List.set_cons_succ]
          rfl
        refine pure_ (i := 7) (N := some 68) (v := ?_) (a' := ?_) #[true, true, true, true, true, true, true, true, false, false, false, false, false, false, false, false, false, false, false] rfl rfl (by kernel_rfl) (fun _ _ _ h => h) (Or.inl ⟨by rfl, ?_⟩) ?_ ?_
        rotate_left
        · intro w'
          go_simp
          with_reducible rfl
        rotate_left
        · simp only [Act.put, List.setIfInBounds_toArray, List.set_cons_zero, List.set_cons_succ]
          rfl
        refine take_ (i := 8) (N := some 69) (v := ?_) (a' := ?_) #[true, true, true, true, true, true, true, true, true, false, false, false, false, false, false, false, false, false, false] rfl rfl (by kernel_rfl) (fun _ _ _ h => h) (Or.inl ⟨by rfl, ?_⟩) hHeld ?_ ?_
        rotate_left
        · intro w' hs
          have e0 := cell_of_cells hs.1 0
          simp only [List.getElem?_toArray, List.getElem?_cons_zero, List.getElem?_cons_succ] at e0
          go_simp
          with_reducible rfl
        rotate_left
        · simp only [Act.put, List.setIfInBounds_toArray, List.set_cons_zero, List.set_cons_succ]
          rfl
        refine pure_ (i := 9) (N := some 70) (v := ?_) (a' := ?_) #[true, true, true, true, true, true, true, true, true, true, false, false, false, false, false, false, false, false, false] rfl rfl (by kernel_rfl) (fun _ _ _ h => h) (Or.inl ⟨by rfl, ?_⟩) ?_ ?_
        rotate_left
        · intro w'
          go_simp
          with_reducible rfl
        rotate_left
        · simp only [Act.put, List.setIfInBounds_toArray, List.set_cons_zero, List.set_cons_succ]
          rfl
        refine pure_ (i := 10) (N := some 71) (v := ?_) (a' := ?_) #[true, true, true, true, true, true, true, true, true, true, true, false, false, false, false, false, false, false, false] rfl rfl (by kernel_rfl) (fun _ _ _ h => h) (Or.inl ⟨by rfl, ?_⟩) ?_ ?_
        rotate_left
        · intro w'
          go_simp
          with_reducible rfl
        rotate_left
        · simp only [Act.put, List.setIfInBounds_toArray, List.set_cons_zero, List.set_cons_succ]
          rfl
        refine pure_ (i := 11) (N := some 72) (v := ?_) (a' := ?_) #[true, true, true, true, true, true, true, true, true, true, true, true, false, false, false, false, false, false, false] rfl rfl (by kernel_rfl) (fun _ _ _ h => h) (Or.inl ⟨by rfl, ?_⟩) ?_ ?_
        rotate_left
        · intro w'
          go_simp
          with_reducible rfl
        rotate_left
        · simp only [Act.put, List.setIfInBounds_toArray, List.set_cons_zero, List.set_cons_succ]
          rfl
        refine take_ (i := 12) (N := some 73) (v := ?_) (a' := ?_) #[true, true, true, true, true, true, true, true, true, true, true, true, true, false, false, false, false, false, false] rfl rfl (by kernel_rfl) (fun _ _ _ h => h) (Or.inl ⟨by rfl, ?_⟩) hHeld ?_ ?_
        rotate_left
        · intro w' hs
          have e4 := hs.2.2
          go_simp
          with_reducible rfl
        rotate_left
        · simp only [Act.put, List.setIfInBounds_toArray, List.set_cons_zero, List.set_cons_succ]
          rfl
        refine take_ (i := 13) (N := some 74) (v := ?_) (a' := ?_) #[true, true, true, true, true, true, true, true, true, true, true, true, true, true, false, false, false, false, false] rfl rfl (by kernel_rfl) (fun _ _ _ h => h) (Or.inl ⟨by rfl, ?_⟩) hHeld ?_ ?_
        rotate_left
        · intro w' hs
          have e0 := cell_of_cells hs.2.1 0
          have e1 := cell_of_cells hs.2.1 1
          simp only [List.getElem?_toArray, List.getElem?_cons_zero, List.getElem?_cons_succ] at e0 e1
          go_simp
          with_reducible rfl
        rotate_left
        · simp only [Act.put, List.setIfInBounds_toArray, List.set_cons_zero, List.set_cons_succ]
          rfl
        refine one_ (i := 14) (N := some 75) #[true, true, true, true, true, true, true, true, true, true, true, true, true, true, true, false, false, false, false] rfl rfl (by kernel_rfl) (by decide) (fun K hK => ?_)
        refine value_ (w1 := ?_) (v := ?_) (by rfl) rfl ?_ ?_
        rotate_left 2
        · go_simp
          constructor
          · rfl
          · rfl
        refine hK.out _ _ ⟨blk_alloc hHeld.1 _, blk_alloc hHeld.2.1 _, cell_alloc_old _ hHeld.2.2⟩ (fun hHeld => ?_)
        clear hK K
        refine norm_ (a' := ?_) ?_ ?_
        rotate_left
        · show Act.put _ (some 75) _ = _
          simp only [Act.put, List.setIfInBounds_toArray, List.set_cons_zero, List.set_cons_succ]
          rfl
        refine one_ (i := 15) (N := some 76) #[true, true, true, true, true, true, true, true, true, true, true, true, true, true, true, true, false, false, false] rfl rfl (by kernel_rfl) (by decide) (fun K hK => ?_)
        refine Kd.R_append_step k56 (w0 := w) (pb + 1) (by rfl) (.tmp 73) (.tmp 75) 40 56 outZ 32 rfl Tryd.underlying40 info_out rfl (by decide) (by decide) (.slice A4 zf1.length c4) zf1 ⟨ob, od⟩ [.bool ob, .slice Ao od.length co] (fun k => oki k ∨ w.heap.size ≤ k) (fun k => w2.heap.size ≤ k) rfl rfl HM5.out HOK5.out HFR.out HR45.out HBD.out HBA5.out HLL5.out ?_
        intro v76 w6 k1 k2 k3 k4
        have HG6 := Lib.hid k3
        have HR6 := Lib.hid k1
        have HB6 := Lib.hid k2
        clear k1 k2 k3 k4
        obtain ⟨A76, c76, rfl⟩ := Kd.R_slice HR6.out
        have HR6 := Lib.hid (R_len HR6.out)
        rw [List.length_append, List.length_singleton]
        refine hK.out _ _ ⟨blk_grown (blk_drew HP5.out) HG6.out HN3.out, blk_grown (blk_drew HO5.out) HG6.out HN4.out, HC6.out _ HG6.out⟩ (fun hHeld => ?_)
        clear hK K
        refine norm_ (a' := ?_) ?_ ?_
        rotate_left
        · show Act.put _ (some 76) _ = _
          simp only [Act.put, List.setIfInBounds_toArray, List.set_cons_zero, List.set_cons_succ]
          rfl
        refine pure_ (i := 16) (N := some 77) (v := ?_) (a' := ?_) #[true, true, true, true, true, true, true, true, true, true, true, true, true, true, true, true, true, false, false] rfl rfl (by kernel_rfl) (fun _ _ _ h => h) (Or.inl ⟨by rfl, ?_⟩) ?_ ?_
        rotate_left
        · intro w'
          go_simp
          with_reducible rfl
        rotate_left
        · simp only [Act.put, List.setIfInBounds_toArray, List.set_cons_zero, List.set_cons_succ]
          rfl
        refine pure_ (i := 17) (N := some 78) (v := ?_) (a' := ?_) #[true, true, true, true, true, true, true, true, true, true, true, true, true, true, true, true, true, true, false] rfl rfl (by kernel_rfl) (fun _ _ _ h => h) (Or.inl ⟨by rfl, ?_⟩) ?_ ?_
        rotate_left
        · intro w'
          go_simp
          with_reducible rfl
        rotate_left
        · simp only [Act.put, List.setIfInBounds_toArray, List.set_cons_zero, List.set_cons_succ]
          rfl
        have HH9 := Lib.hid hHeld
        clear hHeld
        have e4 := HH9.out.2.2
        have f4 := HF6.out _ HG6.out
        have lt4 := Nat.lt_of_lt_of_le HGL.out HG6.out.size
        refine last_ (i := 18) (N := none) #[true, true, true, true, true, true, true, true, true, true, true, true, true, true, true, true, true, true, true] rfl rfl (by kernel_rfl) (by decide) (fun K hK => ?_)
        refine skip_ (w1 := ?_) (by rfl) rfl ?_ ?_
        rotate_left
        · go_simp
          rfl
        refine hK.out _ _ ?_
        clear hK K
        refine done_ (by kernel_rfl) ?_
        go_wp2_with fail
        go_ret
        have H5 := Kd.H_drew (Kd.H_below HH.out HB5.out)
        have H6 := Kd.H_grown H5 HG6.out (fun k hk => Or.inl (HOKI.out k hk))
        obtain ⟨h7, -⟩ := Kd.H_seg H6 (by omega) (by omega) (seg := [.slice A76 (zf1.length + 1) c76]) (j := 4) (show 4 + 1 ≤ 6 by decide) (by intro q hq; rw [List.mem_singleton.1 hq]; rfl)
        have r3 := Kd.R_far (Kd.R_over (Kd.R_drew (Kd.R_below HR3.out HB5.out)) HR45.out (by decide) HG6.out) (p := ⟨g, m * 6 + 4, none⟩) (fun k hk => (HOK.out k hk).2) (.slice A76 (zf1.length + 1) c76)
        have r4 := Kd.R_far HR6.out (p := ⟨g, m * 6 + 4, none⟩) (fun k hk => hk.elim (fun h => (HOK.out k h).2) (fun h => by show k ≠ g; omega)) (.slice A76 (zf1.length + 1) c76)
        have hS' := Kd.H_back h7 (k42_mkM _ (pb + 1) (fun k => oki k ∨ w.heap.size ≤ k) ⟨⟨z0, z1, z2, z3⟩, zf1 ++ [⟨ob, od⟩], false⟩ (Kd.R_mono r3 (fun _ hk => Or.inl hk)) r4) (fun _ hk => hk.elim Or.inl (fun h => Or.inr ⟨trivial, h⟩))
        refine ⟨(HB6.out.mono (Nat.le_succ _)).setCell (by show pb ≤ g; omega) _, ?_, _, blk_far HH9.out.1 (by show pb ≠ g; omega) _, ?_⟩
        · rw [HLO.out, if_neg (by decide), if_neg HGN.out, HO.out]
          rfl
        · rw [HLO.out, if_neg (by decide), if_neg HGN.out, HO.out]
          exact hS'
theorem line_walk (pb : Nat) (L : List S42) (vL : Value) (s : ByteArray) (w : World) (hp : w.heap[pb]? = some (.cells #[vL] 86 (0, 0))) (hS : Kd.S k42 42 w (pb + 1) (fun _ => True) vL L) (hL : L.length ≤ 1000000) (hO : ∀ x ∈ L, x.f1.length ≤ 1000000) (hs : s.size ≤ 400000) (hG : GlobT w) :
    Calls Tryd.prog 41 #[.pointer (some ⟨pb, 0, none⟩), .string s] w (LinePost pb L s w) := by
  cases hrd : readO s.data.toList with
  | some x => exact line_some pb L vL s w hp hS hL hs hG hrd
  | none =>
    cases L with
    | nil => exact line_empty pb vL s w hp hS hs hG hrd
    | cons z r => exact line_last pb r.length (z :: r) vL s w hp hS rfl (by simp at hL; omega) hO hs hG hrd
end Go.Proofs.YtoloooammaiipaaDoor
