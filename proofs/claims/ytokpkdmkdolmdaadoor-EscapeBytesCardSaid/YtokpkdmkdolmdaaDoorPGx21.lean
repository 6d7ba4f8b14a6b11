-- Written by a program of this work (the kit's print, with contracts of this work's own taken in) out of the translation. Not trusted: Lean checks it.
import Derived.Test.YtokpkdmkdolmdaaDoorPGx0
import Derived.Test.YtokpkdmkdolmdaaDoorPGx9
import Derived.Test.YtokpkdmkdolmdaaDoorPGx10
import Derived.Test.YtokpkdmkdolmdaaDoorPGx11
import Derived.Test.YtokpkdmkdolmdaaDoorPGx12
namespace Go.Proofs.YtokpkdmkdolmdaaDoor.PG
open Go.RowKit Go.Proofs.YtokpkdmkdolmdaaDoorW.PrintWords Go.Proofs.YtokpkdmkdolmdaaDoorW.PrintLast Go.Proofs.YtokpkdmkdolmdaaDoorW.PrintMore
attribute [local go_sem] max2_int min2_int max_two min_two max_three min_three max_four min_four   -- for this text's walks alone
set_option linter.unusedVariables false
set_option linter.unusedSimpArgs false

/-! ### lamplighterlaw07_EscapeBytes: function 4 -/
mutual
def lamplighterlaw07_EscapeBytes.j0 : Nat → List Int → ByteArray → Bool → Option (Bool)
  | 0, _, _, _ => none
  | k + 1, x0, x1, x43 => if x43 = true then ((lamplighterlaw07_alive.f).bind fun t291 => (some t291)) else (lamplighterlaw07_EscapeBytes.l0 k x0 x1 (⟨#[]⟩ : ByteArray) (⟨#[]⟩ : ByteArray) x0 (x0.length : Int) 0)
def lamplighterlaw07_EscapeBytes.l0 : Nat → List Int → ByteArray → ByteArray → ByteArray → List Int → Int → Int → Option (Bool)
  | 0, _, _, _, _, _, _, _ => none
  | k + 1, x0, x1, x5, x6, x45, x46, x47 => if x47 < x46 then (if 0 ≤ x47 then (if x47 < (x45.length : Int) then (if 0 ≤ ((rd x45 x47) / 16) then (if ((rd x45 x47) / 16) < 16 then (if 0 ≤ (Go.bits .and .u8 (rd x45 x47) 15) then (if (Go.bits .and .u8 (rd x45 x47) 15) < 16 then ((some (([bt (⟨#[48, 49, 50, 51, 52, 53, 54, 55, 56, 57, 65, 66, 67, 68, 69, 70]⟩ : ByteArray) ((rd x45 x47) / 16), bt (⟨#[48, 49, 50, 51, 52, 53, 54, 55, 56, 57, 65, 66, 67, 68, 69, 70]⟩ : ByteArray) (Go.bits .and .u8 (rd x45 x47) 15)] : List Int) : List Int)).bind fun y293 => (if x5.size + (strOfNums y293).size ≤ 9223372036854775807 then (if 2 + (strOfNums y293).size ≤ 9223372036854775807 then (if ((⟨#[92, 88]⟩ : ByteArray) ++ (strOfNums y293)).size + 1 ≤ 9223372036854775807 then (if x6.size + (((⟨#[92, 88]⟩ : ByteArray) ++ (strOfNums y293)) ++ (⟨#[92]⟩ : ByteArray)).size ≤ 9223372036854775807 then (lamplighterlaw07_EscapeBytes.l0 k x0 x1 (x5 ++ (strOfNums y293)) (x6 ++ (((⟨#[92, 88]⟩ : ByteArray) ++ (strOfNums y293)) ++ (⟨#[92]⟩ : ByteArray))) x45 x46 (wrap64 (x47 + 1))) else (none)) else (none)) else (none)) else (none))) else (none)) else (none)) else (none)) else (none)) else (none)) else (none)) else (if x1.size + 2 ≤ 9223372036854775807 then (if (x1 ++ (⟨#[92, 88]⟩ : ByteArray)).size + x5.size ≤ 9223372036854775807 then (if ((x1 ++ (⟨#[92, 88]⟩ : ByteArray)) ++ x5).size + 1 ≤ 9223372036854775807 then ((lamplighterlaw07_plain.f).bind fun bt296 => ((escape_Decode.f (((x1 ++ (⟨#[92, 88]⟩ : ByteArray)) ++ x5) ++ (⟨#[92]⟩ : ByteArray)) bt296.1 bt296.2.1 bt296.2.2.1 bt296.2.2.2.1 bt296.2.2.2.2).bind fun bt301 => (if x1.size + x6.size ≤ 9223372036854775807 then ((lamplighterlaw07_plain.f).bind fun bt304 => ((escape_Decode.f (x1 ++ x6) bt304.1 bt304.2.1 bt304.2.2.1 bt304.2.2.2.1 bt304.2.2.2.2).bind fun bt309 => (if ((x1 ++ (⟨#[92, 88]⟩ : ByteArray)) ++ x5).size + 2 ≤ 9223372036854775807 then ((lamplighterlaw07_plain.f).bind fun bt312 => ((escape_Decode.f (((x1 ++ (⟨#[92, 88]⟩ : ByteArray)) ++ x5) ++ (⟨#[48, 92]⟩ : ByteArray)) bt312.1 bt312.2.1 bt312.2.2.1 bt312.2.2.2.1 bt312.2.2.2.2).bind fun bt317 => (if x1.size + 3 ≤ 9223372036854775807 then ((lamplighterlaw07_plain.f).bind fun bt320 => ((escape_Decode.f (x1 ++ (⟨#[92, 88, 92]⟩ : ByteArray)) bt320.1 bt320.2.1 bt320.2.2.1 bt320.2.2.2.1 bt320.2.2.2.2).bind fun bt325 => ((lamplighterlaw07_plain.f).bind fun bt328 => ((escape_Decode.f ((x1 ++ (⟨#[92, 88]⟩ : ByteArray)) ++ x5) bt328.1 bt328.2.1 bt328.2.2.1 bt328.2.2.2.1 bt328.2.2.2.2).bind fun bt333 => ((lamplighterlaw07_alive.f).bind fun t336 => (if t336 = true then (if bt301.2.2 = 0 then (if x1.size + (strOfNums x0).size ≤ 9223372036854775807 then (if bt301.1.toList = (x1 ++ (strOfNums x0)).toList then (if bt309.2.2 = 0 then (if bt309.1.toList = bt301.1.toList then (if bt317.2.2 = 10 then (if bt317.2.1 = (x1.size : Int) then (if bt325.2.2 = bt317.2.2 then (if bt325.2.1 = bt317.2.1 then (if bt333.2.2 = bt317.2.2 then (some (bt333.2.1 == bt317.2.1)) else (some false)) else (some false)) else (some false)) else (some false)) else (some false)) else (some false)) else (some false)) else (some false)) else (none)) else (some false)) else (some false))))))) else (none)))) else (none)))) else (none)))) else (none)) else (none)) else (none))
end
def lamplighterlaw07_EscapeBytes.f (k : Nat) (l0 : List Int) (a1 : ByteArray) : Option (Bool) := if (l0.length : Int) > 300 then (lamplighterlaw07_EscapeBytes.j0 k l0 a1 true) else (if (a1.size : Int) > 300 then (lamplighterlaw07_EscapeBytes.j0 k l0 a1 true) else (if (l0.length : Int) = 0 then (lamplighterlaw07_EscapeBytes.j0 k l0 a1 true) else ((lamplighterlaw07_plain.f).bind fun bt285 => ((escape_Clean.f a1 bt285.1 bt285.2.1 bt285.2.2.1 bt285.2.2.2.1 bt285.2.2.2.2).bind fun t290 => (lamplighterlaw07_EscapeBytes.j0 k l0 a1 (!t290))))))
theorem lamplighterlaw07_EscapeBytes.mono_l : ∀ k, (∀ y0 y1 y2, LeO (lamplighterlaw07_EscapeBytes.j0 k y0 y1 y2) (lamplighterlaw07_EscapeBytes.j0 (k + 1) y0 y1 y2)) ∧ (∀ y0 y1 y2 y3 y4 y5 y6, LeO (lamplighterlaw07_EscapeBytes.l0 k y0 y1 y2 y3 y4 y5 y6) (lamplighterlaw07_EscapeBytes.l0 (k + 1) y0 y1 y2 y3 y4 y5 y6))
  | 0 => ⟨fun _ _ _ r h => by simp [lamplighterlaw07_EscapeBytes.j0] at h, fun _ _ _ _ _ _ _ r h => by simp [lamplighterlaw07_EscapeBytes.l0] at h⟩
  | k + 1 => by
    obtain ⟨ih0, ih1⟩ := lamplighterlaw07_EscapeBytes.mono_l k
    refine ⟨?_, ?_⟩
    · intro y0 y1 y2
      unfold lamplighterlaw07_EscapeBytes.j0
      repeat' first
      | (with_reducible exact ih0 _ _ _)
      | (with_reducible exact ih1 _ _ _ _ _ _ _)
      | (with_reducible exact LeO.refl _)
      | (with_reducible exact LeO.none _)
      | (with_reducible refine LeO.ite ?_ ?_)
      | (with_reducible refine LeO.bind ?_ (fun _ => ?_))
      | exact ih0 _ _ _
      | exact ih1 _ _ _ _ _ _ _
      | exact LeO.none _
      | refine LeO.ite ?_ ?_
      | refine LeO.bind ?_ (fun _ => ?_)
    · intro y0 y1 y2 y3 y4 y5 y6
      unfold lamplighterlaw07_EscapeBytes.l0
      repeat' first
      | (with_reducible exact ih0 _ _ _)
      | (with_reducible exact ih1 _ _ _ _ _ _ _)
      | (with_reducible exact LeO.refl _)
      | (with_reducible exact LeO.none _)
      | (with_reducible refine LeO.ite ?_ ?_)
      | (with_reducible refine LeO.bind ?_ (fun _ => ?_))
      | exact ih0 _ _ _
      | exact ih1 _ _ _ _ _ _ _
      | exact LeO.none _
      | refine LeO.ite ?_ ?_
      | refine LeO.bind ?_ (fun _ => ?_)
theorem lamplighterlaw07_EscapeBytes.mono : ∀ a0 a1 k, LeO (lamplighterlaw07_EscapeBytes.f k a0 a1) (lamplighterlaw07_EscapeBytes.f (k + 1) a0 a1) := by
  intro a0 a1 k
  obtain ⟨ih0, ih1⟩ := lamplighterlaw07_EscapeBytes.mono_l k
  unfold lamplighterlaw07_EscapeBytes.f
  repeat' first
      | (with_reducible exact ih0 _ _ _)
      | (with_reducible exact ih1 _ _ _ _ _ _ _)
      | (with_reducible exact LeO.refl _)
      | (with_reducible exact LeO.none _)
      | (with_reducible refine LeO.ite ?_ ?_)
      | (with_reducible refine LeO.bind ?_ (fun _ => ?_))
      | exact ih0 _ _ _
      | exact ih1 _ _ _ _ _ _ _
      | exact LeO.none _
      | refine LeO.ite ?_ ?_
      | refine LeO.bind ?_ (fun _ => ?_)
def lamplighterlaw07_EscapeBytes.T7 : Bool × List (List Nat × List Nat) := (true, [([], []), ([0], [0]), ([1], [1]), ([], []), ([3], [3]), ([4], [4]), ([2, 5], [2, 5]), ([6], [6]), ([7, 0, 1, 2, 3, 4, 5, 6, 7], [7])])
def lamplighterlaw07_EscapeBytes.B7 : List Nat := [0, 1, 3, 0, 8, 24, 63, 127, 255]
theorem lamplighterlaw07_EscapeBytes.tab7 : rtab .any (opsOf Tryd.f4 7) = lamplighterlaw07_EscapeBytes.T7 := by kernel_rfl
theorem lamplighterlaw07_EscapeBytes.bits7 : waitsOk lamplighterlaw07_EscapeBytes.T7.2 lamplighterlaw07_EscapeBytes.B7 = true := by kernel_rfl
set_option maxHeartbeats 8000000 in
set_option maxRecDepth 100000 in
theorem lamplighterlaw07_EscapeBytes.calls (k : Nat) (A0 : Option Addr) (c0 : Nat) (l0 : List Int) (a1 : ByteArray) (r : Bool) (w : World) (hr0 : Kd.C (Kd.int .u8) w A0 l0.length l0) (hc0 : l0.length ≤ c0) (h : lamplighterlaw07_EscapeBytes.f k l0 a1 = some r) (hrt : r = true) :
    Calls Tryd.prog 4 #[.slice A0 l0.length c0, .string a1] w fun e w' => e = .returned (.bool r) ∧ Below w.heap.size w w' := by
  have HR0 := Aside0.mk hr0
  have HC0 := Aside0.mk hc0
  clear hr0 hc0
  have HB := Aside0.mk (Below.refl w.heap.size w)
  have H : (if (l0.length : Int) > 300 then (lamplighterlaw07_EscapeBytes.j0 k l0 a1 true) else (if (a1.size : Int) > 300 then (lamplighterlaw07_EscapeBytes.j0 k l0 a1 true) else (if (l0.length : Int) = 0 then (lamplighterlaw07_EscapeBytes.j0 k l0 a1 true) else ((lamplighterlaw07_plain.f).bind fun bt285 => ((escape_Clean.f a1 bt285.1 bt285.2.1 bt285.2.2.1 bt285.2.2.2.1 bt285.2.2.2.2).bind fun t290 => (lamplighterlaw07_EscapeBytes.j0 k l0 a1 (!t290))))))) = some r := h
  clear h
  have HC3 := Aside0.mk H
  clear H
  go_enter Tryd.func4, Tryd.ntmps4
  go_upto_region 1 with (fail)
  go_cut [43] (fun v43 wc => ∃ (kq : Nat) (x43_2 : Bool), v43 = .bool x43_2 ∧ Aside0 (lamplighterlaw07_EscapeBytes.j0 kq l0 a1 x43_2 = some r) ∧ Aside0 (kq ≤ k) ∧ Aside0 (Below w.heap.size w wc))
  case first =>
    have H := HC3.out
    clear HC3
    by_cases c4 : (l0.length : Int) > 300
    · rw [if_pos c4] at H
      have c4b0 : decide (300 < (l0.length : Int)) = true := decide_eq_true c4
      have c4b1 : decide (300 < l0.length) = true := decide_eq_true (by omega)
      clear c4
      (first | rw [c4b0] | (simp only [i64_w, i32_w]; rw [c4b0]) | skip)
      have H' := Aside0.mk H
      clear H
      go_wp2
      go_meet
      case rel => exact ⟨_, (true), (by first | rfl | (simp; done) | (simp [*]; done)), H', ⟨by first | omega | exact Nat.le_refl _⟩, ⟨by repeat (first | (with_reducible first | exact HB.out | apply below_alloc | apply pw_below_drewN | apply below_drew1) | exact HB.out)⟩⟩
    · rw [if_neg c4] at H
      have c4b0 : decide (300 < (l0.length : Int)) = false := decide_eq_false c4
      have c4b1 : decide (300 < l0.length) = false := decide_eq_false (by omega)
      clear c4
      (first | rw [c4b0] | (simp only [i64_w, i32_w]; rw [c4b0]) | skip)
      by_cases c5 : (a1.size : Int) > 300
      · rw [if_pos c5] at H
        have c5b0 : decide (300 < (a1.size : Int)) = true := decide_eq_true c5
        have c5b1 : decide (300 < a1.size) = true := decide_eq_true (by omega)
        clear c5
        have H' := Aside0.mk H
        clear H
        go_wp2
        go_meet
        case rel => exact ⟨_, (true), (by first | rfl | (simp; done) | (simp [*]; done)), H', ⟨by first | omega | exact Nat.le_refl _⟩, ⟨by repeat (first | (with_reducible first | exact HB.out | apply below_alloc | apply pw_below_drewN | apply below_drew1) | exact HB.out)⟩⟩
      · rw [if_neg c5] at H
        have c5b0 : decide (300 < (a1.size : Int)) = false := decide_eq_false c5
        have c5b1 : decide (300 < a1.size) = false := decide_eq_false (by omega)
        clear c5
        by_cases c6 : (l0.length : Int) = 0
        · rw [if_pos c6] at H
          have c6b0 : ((l0.length : Int) == 0) = true := beq_iff_eq.mpr c6
          have c6b1 : ((l0.length : Int) != 0) = false := bne_eq_false_iff_eq.mpr c6
          clear c6
          have H' := Aside0.mk H
          clear H
          go_wp2
          go_meet
          case rel => exact ⟨_, (true), (by first | rfl | (simp; done) | (simp [*]; done)), H', ⟨by first | omega | exact Nat.le_refl _⟩, ⟨by repeat (first | (with_reducible first | exact HB.out | apply below_alloc | apply pw_below_drewN | apply below_drew1) | exact HB.out)⟩⟩
        · rw [if_neg c6] at H
          have c6b0 : ((l0.length : Int) == 0) = false := beq_eq_false_iff_ne.mpr c6
          have c6b1 : ((l0.length : Int) != 0) = true := bne_iff_ne.mpr c6
          have c6b2 : ¬ (l0 = []) := fun h_ => c6 (by rw [h_]; rfl)
          replace H := Option.bind_eq_some_iff.mp H
          obtain ⟨⟨t285, t286, t287, t288, t289⟩, A70, H⟩ := H
          replace H : ((escape_Clean.f a1 t285 t286 t287 t288 t289).bind fun t290 => (lamplighterlaw07_EscapeBytes.j0 k l0 a1 (!t290))) = some r := H
          have A7 := Aside0.mk A70
          clear A70
          replace H := Option.bind_eq_some_iff.mp H
          obtain ⟨t290, A80, H⟩ := H
          replace H : (lamplighterlaw07_EscapeBytes.j0 k l0 a1 (!t290)) = some r := H
          have A8 := Aside0.mk A80
          clear A80
          have H' := Aside0.mk H
          clear H
          go_wp2_with (first | (go_at_call 13; (with_reducible refine (lamplighterlaw07_plain.calls  t285 t286 t287 t288 t289 _ A7.out).mono ?_); rintro e w9 ⟨rfl, hb⟩; have n0_ := Aside0.mk (below_step (by repeat (first | (with_reducible first | exact HB.out | apply below_alloc | apply pw_below_drewN | apply below_drew1) | exact HB.out)) hb); clear HB; have HB := n0_; clear n0_; (try clear hb); (try clear hb2); (try clear hk); (try clear hi)) | (go_at_call 12; (with_reducible refine (escape_Clean.calls a1 t285 t286 t287 t288 t289 t290 _ A8.out).mono ?_); rintro e w10 ⟨rfl, hb⟩; have n0_ := Aside0.mk (below_step (by repeat (first | (with_reducible first | exact HB.out | apply below_alloc | apply pw_below_drewN | apply below_drew1) | exact HB.out)) hb); clear HB; have HB := n0_; clear n0_; (try clear hb); (try clear hb2); (try clear hk); (try clear hi)))
          go_meet
          case rel => exact ⟨_, (!t290), (by first | rfl | (simp; done) | (simp [*]; done)), H', ⟨by first | omega | exact Nat.le_refl _⟩, ⟨by repeat (first | (with_reducible first | exact HB.out | apply below_alloc | apply pw_below_drewN | apply below_drew1) | exact HB.out)⟩⟩
  case rest =>
    clear HC3
    try clear p2
    try clear c4
    try clear c4b0
    try clear c4b1
    try clear c5
    try clear c5b0
    try clear c5b1
    try clear c6
    try clear c6b0
    try clear c6b1
    try clear c6b2
    obtain ⟨kq, x43_2, rfl, HA, HJ2, HB⟩ := hcut
    cases kq with
    | zero => exact absurd HA.out (by simp [lamplighterlaw07_EscapeBytes.j0])
    | succ kj2 =>
      have H := HA.out
      clear HA
      simp only [lamplighterlaw07_EscapeBytes.j0] at H
      by_cases c11 : x43_2 = true
      · subst c11
        have H1 : ((lamplighterlaw07_alive.f).bind fun t291 => (some t291)) = some r := by rw [if_pos rfl] at H; exact H
        clear H
        have H := H1
        clear H1
        replace H := Option.bind_eq_some_iff.mp H
        obtain ⟨t291, A120, H⟩ := H
        replace H : (some t291) = some r := H
        have A12 := Aside0.mk A120
        clear A120
        obtain rfl := Option.some.inj H
        clear hrt
        go_wp2_with (first | ((with_reducible refine gate_callee (f := 9) rfl ?_); refine goesL_ (some 44) rfl rfl Tryd.func9 (by kernel_rfl) rfl #[] rfl (by (try simp only [List.map_toArray, List.map_cons, List.map_nil]); first | done | rfl | (simp only [List.length_drop, List.length_take]; rfl)) ?_; (with_reducible refine (lamplighterlaw07_alive.calls  t291 _ A12.out).mono ?_); rintro e w13 ⟨rfl, hb⟩; refine ⟨_, rfl, ?_⟩; have n0_ := Aside0.mk (below_step (by repeat (first | (with_reducible first | exact HB.out | apply below_alloc | apply pw_below_drewN | apply below_drew1) | exact HB.out)) hb); clear HB; have HB := n0_; clear n0_; (try clear hb); (try clear hb2); (try clear hk); (try clear hi)))
        go_ret
        exact ⟨by first | rfl | (simp [errW_none, errW_some] <;> rfl) | (simp [*, errW_none, errW_some] <;> rfl), by repeat (first | (with_reducible first | exact HB.out | apply below_alloc | apply pw_below_drewN | apply below_drew1) | exact HB.out)⟩
      · replace c11 := Bool.eq_false_iff.mpr c11
        subst c11
        have H1 : (lamplighterlaw07_EscapeBytes.l0 kj2 l0 a1 (⟨#[]⟩ : ByteArray) (⟨#[]⟩ : ByteArray) l0 (l0.length : Int) 0) = some r := by rw [if_neg (show ¬ (false = true) by decide)] at H; exact H
        clear H
        have H := H1
        clear H1
        have H' := Aside0.mk H
        clear H
        go_wp2
        go_loopg [5, 6, 47] kj2 (fun kq v5 v6 v47 w' => ∃ (x5_2 : ByteArray) (x6_2 : ByteArray) (x47_2 : Int), v5 = .string x5_2 ∧ v6 = .string x6_2 ∧ v47 = .int .i64 x47_2 ∧ Aside0 (lamplighterlaw07_EscapeBytes.l0 kq l0 a1 x5_2 x6_2 l0 (l0.length : Int) x47_2 = some r) ∧ Aside0 (kq ≤ kj2) ∧ Aside0 (Below w.heap.size w w'))
        case atStart => exact ⟨((⟨#[]⟩ : ByteArray)), ((⟨#[]⟩ : ByteArray)), (0), (by first | rfl | (simp; done) | (simp [*]; done)), (by first | rfl | (simp; done) | (simp [*]; done)), (by first | rfl | (simp; done) | (simp [*]; done)), H', ⟨Nat.le_refl _⟩, ⟨by repeat (first | (with_reducible first | exact HB.out | apply below_alloc | apply pw_below_drewN | apply below_drew1) | exact HB.out)⟩⟩
        case round =>
          clear H'
          try clear c1
          try clear p2
          try clear c4
          try clear c4b0
          try clear c4b1
          try clear c5
          try clear c5b0
          try clear c5b1
          try clear c6
          try clear c6b0
          try clear c6b1
          try clear c6b2
          try clear c9
          try clear c11
          try clear p2
          obtain ⟨x5_2, x6_2, x47_2, rfl, rfl, rfl, HA, HK2, HB⟩ := hrel
          cases gk with
          | zero => exact absurd HA.out (by simp [lamplighterlaw07_EscapeBytes.l0])
          | succ k2 =>
            have H := HA.out
            clear HA
            simp only [lamplighterlaw07_EscapeBytes.l0] at H
            by_cases c14 : x47_2 < (l0.length : Int)
            · rw [if_pos c14] at H
              have c14b0 : decide (x47_2 < (l0.length : Int)) = true := decide_eq_true c14
              clear c14
              by_cases c15 : 0 ≤ x47_2
              · rw [if_pos c15] at H
                have c15b0 : decide (0 ≤ x47_2) = true := decide_eq_true c15
                clear c15
                by_cases c16 : x47_2 < (l0.length : Int)
                · rw [if_pos c16] at H
                  have c16b0 : decide (x47_2 < (l0.length : Int)) = true := decide_eq_true c16
                  clear c16
                  obtain ⟨ji17, hji17⟩ : ∃ j_ : Int, ((rd l0 x47_2) / 16) = j_ := ⟨_, rfl⟩
                  replace H : (if 0 ≤ (ji17) then (if (ji17) < 16 then (if 0 ≤ (Go.bits .and .u8 (rd l0 x47_2) 15) then (if (Go.bits .and .u8 (rd l0 x47_2) 15) < 16 then ((some (([bt (⟨#[48, 49, 50, 51, 52, 53, 54, 55, 56, 57, 65, 66, 67, 68, 69, 70]⟩ : ByteArray) (ji17), bt (⟨#[48, 49, 50, 51, 52, 53, 54, 55, 56, 57, 65, 66, 67, 68, 69, 70]⟩ : ByteArray) (Go.bits .and .u8 (rd l0 x47_2) 15)] : List Int) : List Int)).bind fun y293 => (if x5_2.size + (strOfNums y293).size ≤ 9223372036854775807 then (if 2 + (strOfNums y293).size ≤ 9223372036854775807 then (if ((⟨#[92, 88]⟩ : ByteArray) ++ (strOfNums y293)).size + 1 ≤ 9223372036854775807 then (if x6_2.size + (((⟨#[92, 88]⟩ : ByteArray) ++ (strOfNums y293)) ++ (⟨#[92]⟩ : ByteArray)).size ≤ 9223372036854775807 then (lamplighterlaw07_EscapeBytes.l0 k2 l0 a1 (x5_2 ++ (strOfNums y293)) (x6_2 ++ (((⟨#[92, 88]⟩ : ByteArray) ++ (strOfNums y293)) ++ (⟨#[92]⟩ : ByteArray))) l0 (l0.length : Int) (wrap64 (x47_2 + 1))) else (none)) else (none)) else (none)) else (none))) else (none)) else (none)) else (none)) else (none)) = some r := by first | (rw [hji17] at H; exact H) | (simp only [hji17] at H ⊢; exact H)
                  by_cases c18 : 0 ≤ (ji17)
                  · rw [if_pos c18] at H
                    have c18b0 : decide (0 ≤ (ji17)) = true := decide_eq_true c18
                    clear c18
                    by_cases c19 : (ji17) < 16
                    · rw [if_pos c19] at H
                      have c19b0 : decide ((ji17) < 16) = true := decide_eq_true c19
                      clear c19
                      by_cases c21 : 0 ≤ (Go.bits .and .u8 (rd l0 x47_2) 15)
                      · rw [if_pos c21] at H
                        have c21b0 : decide (0 ≤ (Go.bits .and .u8 (rd l0 x47_2) 15)) = true := decide_eq_true c21
                        clear c21
                        by_cases c22 : (Go.bits .and .u8 (rd l0 x47_2) 15) < 16
                        · rw [if_pos c22] at H
                          have c22b0 : decide ((Go.bits .and .u8 (rd l0 x47_2) 15) < 16) = true := decide_eq_true c22
                          clear c22
                          obtain ⟨y293, hy293⟩ : ∃ y_ : List Int, y_ = (([bt (⟨#[48, 49, 50, 51, 52, 53, 54, 55, 56, 57, 65, 66, 67, 68, 69, 70]⟩ : ByteArray) (ji17), bt (⟨#[48, 49, 50, 51, 52, 53, 54, 55, 56, 57, 65, 66, 67, 68, 69, 70]⟩ : ByteArray) (Go.bits .and .u8 (rd l0 x47_2) 15)] : List Int)) := ⟨_, rfl⟩
                          replace H : (if x5_2.size + (strOfNums y293).size ≤ 9223372036854775807 then (if 2 + (strOfNums y293).size ≤ 9223372036854775807 then (if ((⟨#[92, 88]⟩ : ByteArray) ++ (strOfNums y293)).size + 1 ≤ 9223372036854775807 then (if x6_2.size + (((⟨#[92, 88]⟩ : ByteArray) ++ (strOfNums y293)) ++ (⟨#[92]⟩ : ByteArray)).size ≤ 9223372036854775807 then (lamplighterlaw07_EscapeBytes.l0 k2 l0 a1 (x5_2 ++ (strOfNums y293)) (x6_2 ++ (((⟨#[92, 88]⟩ : ByteArray) ++ (strOfNums y293)) ++ (⟨#[92]⟩ : ByteArray))) l0 (l0.length : Int) (wrap64 (x47_2 + 1))) else (none)) else (none)) else (none)) else (none)) = some r := by first | (rw [hy293]; with_reducible exact H) | (have H2_ := (Option.bind_some _ _).symm.trans H; rw [hy293]; with_reducible exact H2_) | (have H2_ := (Option.bind_some _ _).symm.trans H; with_reducible exact H2_) | with_reducible exact H | (rw [hy293]; exact H) | exact H
                          have Ny293 := Aside0.mk hy293
                          clear hy293
                          by_cases c24 : x5_2.size + (strOfNums y293).size ≤ 9223372036854775807
                          · rw [if_pos c24] at H
                            have c24b0 := eq_true c24
                            have c24b1 : decide (x5_2.size + (strOfNums y293).size ≤ 9223372036854775807) = true := decide_eq_true c24
                            try have c24b2 : (9223372036854775807 < x5_2.size + (strOfNums y293).size) = False := eq_false (Nat.not_lt.2 c24)
                            try (have c24b4 := c24b2; simp only [ByteArray.size_append] at c24b4)
                            by_cases c25 : 2 + (strOfNums y293).size ≤ 9223372036854775807
                            · rw [if_pos c25] at H
                              have c25b0 := eq_true c25
                              have c25b1 : decide (2 + (strOfNums y293).size ≤ 9223372036854775807) = true := decide_eq_true c25
                              try have c25b2 : (9223372036854775807 < 2 + (strOfNums y293).size) = False := eq_false (Nat.not_lt.2 c25)
                              try (have c25b4 := c25b2; simp only [ByteArray.size_append] at c25b4)
                              by_cases c26 : ((⟨#[92, 88]⟩ : ByteArray) ++ (strOfNums y293)).size + 1 ≤ 9223372036854775807
                              · rw [if_pos c26] at H
                                have c26b0 := eq_true c26
                                have c26b1 : decide (((⟨#[92, 88]⟩ : ByteArray) ++ (strOfNums y293)).size + 1 ≤ 9223372036854775807) = true := decide_eq_true c26
                                try have c26b2 : (9223372036854775807 < ((⟨#[92, 88]⟩ : ByteArray) ++ (strOfNums y293)).size + 1) = False := eq_false (Nat.not_lt.2 c26)
                                try (have c26b4 := c26b2; simp only [ByteArray.size_append] at c26b4)
                                by_cases c27 : x6_2.size + (((⟨#[92, 88]⟩ : ByteArray) ++ (strOfNums y293)) ++ (⟨#[92]⟩ : ByteArray)).size ≤ 9223372036854775807
                                · rw [if_pos c27] at H
                                  have c27b0 := eq_true c27
                                  have c27b1 : decide (x6_2.size + (((⟨#[92, 88]⟩ : ByteArray) ++ (strOfNums y293)) ++ (⟨#[92]⟩ : ByteArray)).size ≤ 9223372036854775807) = true := decide_eq_true c27
                                  try have c27b2 : (9223372036854775807 < x6_2.size + (((⟨#[92, 88]⟩ : ByteArray) ++ (strOfNums y293)) ++ (⟨#[92]⟩ : ByteArray)).size) = False := eq_false (Nat.not_lt.2 c27)
                                  try (have c27b4 := c27b2; simp only [ByteArray.size_append] at c27b4)
                                  have H' := Aside0.mk H
                                  clear H
                                  have p292 : 0 ≤ (x47_2 : Int) := of_decide_eq_true (by first | (with_reducible assumption) | assumption)
                                  have q292 : x47_2 < (l0.length : Int) := of_decide_eq_true (by first | (with_reducible assumption) | assumption)
                                  obtain ⟨ad292, e292, hx292_0⟩ := Kd.at_int HR0.out x47_2 p292 q292
                                  cases e292
                                  replace hx292_0 := (HB.out.cell (World.block_lt_of_cell? w _ hx292_0)).trans hx292_0
                                  replace p292 := eq_true p292
                                  replace q292 := eq_true q292
                                  try go_wp2
                                  have n0_ := Aside0.mk (below_drew1 HB.out)
                                  clear HB
                                  have HB := n0_
                                  clear n0_
                                  have p20 : 0 ≤ ((ji17) : Int) := of_decide_eq_true (by first | (with_reducible assumption) | assumption)
                                  have q20 : (ji17) < (16 : Int) := of_decide_eq_true (by first | (with_reducible assumption) | assumption)
                                  have hx20 := bt_at (⟨#[48, 49, 50, 51, 52, 53, 54, 55, 56, 57, 65, 66, 67, 68, 69, 70]⟩ : ByteArray) (ji17)
                                  replace p20 := eq_true p20
                                  replace q20 := eq_true q20
                                  have p23 : 0 ≤ ((Go.bits .and .u8 (rd l0 x47_2) 15) : Int) := of_decide_eq_true (by first | (with_reducible assumption) | assumption)
                                  have q23 : (Go.bits .and .u8 (rd l0 x47_2) 15) < (16 : Int) := of_decide_eq_true (by first | (with_reducible assumption) | assumption)
                                  have hx23 := bt_at (⟨#[48, 49, 50, 51, 52, 53, 54, 55, 56, 57, 65, 66, 67, 68, 69, 70]⟩ : ByteArray) (Go.bits .and .u8 (rd l0 x47_2) 15)
                                  replace p23 := eq_true p23
                                  replace q23 := eq_true q23
                                  refine start_ (n := 9) (S := fun w' => True) (ds := []) #[false, false, false, false, false, false, false, false, false] (by kernel_rfl) rfl rfl trivial (fun hHeld => ?_); refine with_tabW lamplighterlaw07_EscapeBytes.tab7 lamplighterlaw07_EscapeBytes.bits7 (fun HT_ HW_ => ?_)
                                  generalize wr.drew = w28 at HB hHeld ⊢
                                  refine pure_ (i := 0) (N := some 51) (v := ?_) (a' := ?_) #[true, false, false, false, false, false, false, false, false] rfl rfl (any_of HT_.out (by kernel_rfl)) (fun _ _ _ h => h) (Or.inl ⟨by rfl, ?_⟩) ?_ ?_
                                  rotate_left
                                  · intro w'
                                    go_simp
                                    with_reducible rfl
                                  rotate_left
                                  · simp only [Act.put, List.setIfInBounds_toArray, List.set_cons_zero, List.set_cons_succ, i64_w, i32_w]
                                    rfl
                                  refine pure_ (i := 1) (N := some 52) (v := ?_) (a' := ?_) #[true, true, false, false, false, false, false, false, false] rfl rfl (any_of HT_.out (by kernel_rfl)) (fun _ _ _ h => h) (Or.inl ⟨by rfl, ?_⟩) ?_ ?_
                                  rotate_left
                                  · intro w'
                                    go_simp
                                    with_reducible rfl
                                  rotate_left
                                  · simp only [Act.put, List.setIfInBounds_toArray, List.set_cons_zero, List.set_cons_succ, i64_w, i32_w]
                                    rfl
                                  refine pure_ (i := 3) (N := some 54) (v := ?_) (a' := ?_) #[true, true, false, true, false, false, false, false, false] rfl rfl (any_of HT_.out (by kernel_rfl)) (fun _ _ _ h => h) (Or.inl ⟨by rfl, ?_⟩) ?_ ?_
                                  rotate_left
                                  · intro w'
                                    go_simp
                                    with_reducible rfl
                                  rotate_left
                                  · simp only [Act.put, List.setIfInBounds_toArray, List.set_cons_zero, List.set_cons_succ, i64_w, i32_w]
                                    rfl
                                  refine pure_ (i := 4) (N := some 55) (v := ?_) (a' := ?_) #[true, true, false, true, true, false, false, false, false] rfl rfl (any_of HT_.out (by kernel_rfl)) (fun _ _ _ h => h) (Or.inl ⟨by rfl, ?_⟩) ?_ ?_
                                  rotate_left
                                  · intro w'
                                    go_simp
                                    with_reducible rfl
                                  rotate_left
                                  · simp only [Act.put, List.setIfInBounds_toArray, List.set_cons_zero, List.set_cons_succ, i64_w, i32_w]
                                    rfl
                                  refine take_ (i := 2) (N := some 53) (v := ?_) (a' := ?_) #[true, true, true, true, true, false, false, false, false] rfl rfl (take_ofW HT_.out HW_.out (by kernel_rfl)) (fun _ _ _ h => h) (Or.inl ⟨by rfl, ?_⟩) hHeld ?_ ?_
                                  rotate_left
                                  · intro w' _
                                    go_simp
                                    with_reducible rfl
                                  rotate_left
                                  · simp only [Act.put, List.setIfInBounds_toArray, List.set_cons_zero, List.set_cons_succ, i64_w, i32_w]
                                    rfl
                                  refine take_ (i := 5) (N := some 56) (v := ?_) (a' := ?_) #[true, true, true, true, true, true, false, false, false] rfl rfl (take_ofW HT_.out HW_.out (by kernel_rfl)) (fun _ _ _ h => h) (Or.inl ⟨by rfl, ?_⟩) hHeld ?_ ?_
                                  rotate_left
                                  · intro w' _
                                    go_simp
                                    with_reducible rfl
                                  rotate_left
                                  · simp only [Act.put, List.setIfInBounds_toArray, List.set_cons_zero, List.set_cons_succ, i64_w, i32_w]
                                    rfl
                                  refine one_ (i := 6) (N := some 57) #[true, true, true, true, true, true, true, false, false] rfl rfl (one_of HT_.out (by kernel_rfl)) (by decide) (fun K hK => ?_)
                                  refine Kd.R_lit_step (Kd.int .u8) _ 5 ?hg (N := 57) ?hd (xs := ([bt (⟨#[48, 49, 50, 51, 52, 53, 54, 55, 56, 57, 65, 66, 67, 68, 69, 70]⟩ : ByteArray) (ji17), bt (⟨#[48, 49, 50, 51, 52, 53, 54, 55, 56, 57, 65, 66, 67, 68, 69, 70]⟩ : ByteArray) (Go.bits .and .u8 (rd l0 x47_2) 15)] : List Int)) (inner := [.int .u8 (bt (⟨#[48, 49, 50, 51, 52, 53, 54, 55, 56, 57, 65, 66, 67, 68, 69, 70]⟩ : ByteArray) (ji17)), .int .u8 (bt (⟨#[48, 49, 50, 51, 52, 53, 54, 55, 56, 57, 65, 66, 67, 68, 69, 70]⟩ : ByteArray) (Go.bits .and .u8 (rd l0 x47_2) 15))]) (ok := fun _ => True) (okp := fun _ => True) ?hr ?hp (fun _ hk => hk) trivial (Below.refl _ _) (Nat.le_refl _) (by simp) ?_; (case hd => rfl); (case hg => rfl); (case hr => first | (go_simp; done) | (go_simp; rfl)); (case hp => exact (Reps.one (show Kd.M (Kd.int .u8) _ _ _ (bt (⟨#[48, 49, 50, 51, 52, 53, 54, 55, 56, 57, 65, 66, 67, 68, 69, 70]⟩ : ByteArray) (ji17)) [.int .u8 (bt (⟨#[48, 49, 50, 51, 52, 53, 54, 55, 56, 57, 65, 66, 67, 68, 69, 70]⟩ : ByteArray) (ji17))] from rfl) (Reps.one (show Kd.M (Kd.int .u8) _ _ _ (bt (⟨#[48, 49, 50, 51, 52, 53, 54, 55, 56, 57, 65, 66, 67, 68, 69, 70]⟩ : ByteArray) (Go.bits .and .u8 (rd l0 x47_2) 15)) [.int .u8 (bt (⟨#[48, 49, 50, 51, 52, 53, 54, 55, 56, 57, 65, 66, 67, 68, 69, 70]⟩ : ByteArray) (Go.bits .and .u8 (rd l0 x47_2) 15))] from rfl) (Reps.none _ _))))
                                  intro v294 w29 ho30 hb hg_ hnew_
                                  clear hg_ hnew_
                                  (first | rw [← Ny293.out] at ho30 | (simp only [Int.reduceToNat] at ho30; rw [← Ny293.out] at ho30))
                                  have n0_ := Aside0.mk (Kd.R_lower ho30 (below_size (by repeat (first | (with_reducible first | exact HB.out | apply below_alloc | apply pw_below_drewN | apply below_drew1) | exact HB.out))))
                                  have n1_ := Aside0.mk (below_step (by repeat (first | (with_reducible first | exact HB.out | apply below_alloc | apply pw_below_drewN | apply below_drew1) | exact HB.out)) hb)
                                  clear HB
                                  have HO295 := n0_
                                  have HB := n1_
                                  clear n0_ n1_
                                  clear hb ho30
                                  refine hK.out _ _ trivial (fun hHeld => ?_)
                                  clear hK K
                                  refine norm_ (a' := ?_) ?_ ?_
                                  rotate_left
                                  · show Act.put _ (some 57) _ = _
                                    simp only [Act.put, List.setIfInBounds_toArray, List.set_cons_zero, List.set_cons_succ, i64_w, i32_w]
                                    rfl
                                  refine one_ (i := 7) (N := some 58) #[true, true, true, true, true, true, true, true, false] rfl rfl (one_of HT_.out (by kernel_rfl)) (by decide) (fun K hK => ?_)
                                  have hcv31 := own_string_dN (P := Tryd.prog) Tryd.underlying31 Tryd.underlying5 Tryd.underlying9 (Kd.own_of_R HO295.out)
                                  refine value_ (w1 := ?_) (v := ?_) (by rfl) rfl ?_ ?_
                                  rotate_left 2
                                  · go_simp
                                    constructor
                                    · rfl
                                    · rfl
                                  clear hcv31
                                  refine hK.out _ _ trivial (fun hHeld => ?_)
                                  clear hK K
                                  refine norm_ (a' := ?_) ?_ ?_
                                  rotate_left
                                  · show Act.put _ (some 58) _ = _
                                    simp only [Act.put, List.setIfInBounds_toArray, List.set_cons_zero, List.set_cons_succ, i64_w, i32_w]
                                    rfl
                                  refine pure_ (i := 8) (N := some 9) (v := ?_) (a' := ?_) #[true, true, true, true, true, true, true, true, true] rfl rfl (any_of HT_.out (by kernel_rfl)) (fun _ _ _ h => h) (Or.inl ⟨by rfl, ?_⟩) ?_ ?_
                                  rotate_left
                                  · intro w'
                                    go_simp
                                    with_reducible rfl
                                  rotate_left
                                  · simp only [Act.put, List.setIfInBounds_toArray, List.set_cons_zero, List.set_cons_succ, i64_w, i32_w]
                                    rfl
                                  refine done_ (done_of HT_.out (by kernel_rfl)) ?_
                                  have hy2_ : (strOfNums y293).size = 2 := by rw [Ny293.out]; rfl
                                  have c26b5 : (9223372036854775807 < 2 + (strOfNums y293).size + 1) = False := by rw [hy2_]; decide
                                  have c27b5 : (9223372036854775807 < x6_2.size + (2 + (strOfNums y293).size + 1)) = False := by have h_ := c27b0; rw [ByteArray.size_append, ByteArray.size_append] at h_; exact eq_false (Nat.not_lt.2 (of_eq_true h_))
                                  clear hy2_
                                  try go_wp2
                                  go_roundg k2
                                  case measure => have := HJ2.out; have := HK2.out; omega
                                  case rel => exact ⟨(x5_2 ++ (strOfNums y293)), (x6_2 ++ (((⟨#[92, 88]⟩ : ByteArray) ++ (strOfNums y293)) ++ (⟨#[92]⟩ : ByteArray))), (wrap64 (x47_2 + 1)), (by first | rfl | (simp; done) | (simp [*]; done)), (by first | rfl | (simp; done) | (simp [*]; done)), (by first | rfl | (simp; done) | (simp [*]; done)), H', ⟨by have := HJ2.out; have := HK2.out; omega⟩, ⟨by repeat (first | (with_reducible first | exact HB.out | apply below_alloc | apply pw_below_drewN | apply below_drew1) | exact HB.out)⟩⟩
                                · rw [if_neg c27] at H
                                  exact absurd H (by simp)
                              · rw [if_neg c26] at H
                                exact absurd H (by simp)
                            · rw [if_neg c25] at H
                              exact absurd H (by simp)
                          · rw [if_neg c24] at H
                            exact absurd H (by simp)
                        · rw [if_neg c22] at H
                          exact absurd H (by simp)
                      · rw [if_neg c21] at H
                        exact absurd H (by simp)
                    · rw [if_neg c19] at H
                      exact absurd H (by simp)
                  · rw [if_neg c18] at H
                    exact absurd H (by simp)
                · rw [if_neg c16] at H
                  exact absurd H (by simp)
              · rw [if_neg c15] at H
                exact absurd H (by simp)
            · rw [if_neg c14] at H
              have c14b0 : decide (x47_2 < (l0.length : Int)) = false := decide_eq_false c14
              clear c14
              by_cases c32 : a1.size + 2 ≤ 9223372036854775807
              · rw [if_pos c32] at H
                have c32b0 := eq_true c32
                have c32b1 : decide (a1.size + 2 ≤ 9223372036854775807) = true := decide_eq_true c32
                try have c32b2 : (9223372036854775807 < a1.size + 2) = False := eq_false (Nat.not_lt.2 c32)
                try (have c32b4 := c32b2; simp only [ByteArray.size_append] at c32b4)
                by_cases c33 : (a1 ++ (⟨#[92, 88]⟩ : ByteArray)).size + x5_2.size ≤ 9223372036854775807
                · rw [if_pos c33] at H
                  have c33b0 := eq_true c33
                  have c33b1 : decide ((a1 ++ (⟨#[92, 88]⟩ : ByteArray)).size + x5_2.size ≤ 9223372036854775807) = true := decide_eq_true c33
                  try have c33b2 : (9223372036854775807 < (a1 ++ (⟨#[92, 88]⟩ : ByteArray)).size + x5_2.size) = False := eq_false (Nat.not_lt.2 c33)
                  try (have c33b4 := c33b2; simp only [ByteArray.size_append] at c33b4)
                  by_cases c34 : ((a1 ++ (⟨#[92, 88]⟩ : ByteArray)) ++ x5_2).size + 1 ≤ 9223372036854775807
                  · rw [if_pos c34] at H
                    have c34b0 := eq_true c34
                    have c34b1 : decide (((a1 ++ (⟨#[92, 88]⟩ : ByteArray)) ++ x5_2).size + 1 ≤ 9223372036854775807) = true := decide_eq_true c34
                    try have c34b2 : (9223372036854775807 < ((a1 ++ (⟨#[92, 88]⟩ : ByteArray)) ++ x5_2).size + 1) = False := eq_false (Nat.not_lt.2 c34)
                    try (have c34b4 := c34b2; simp only [ByteArray.size_append] at c34b4)
                    replace H := Option.bind_eq_some_iff.mp H
                    obtain ⟨⟨t296, t297, t298, t299, t300⟩, A350, H⟩ := H
                    replace H : ((escape_Decode.f (((a1 ++ (⟨#[92, 88]⟩ : ByteArray)) ++ x5_2) ++ (⟨#[92]⟩ : ByteArray)) t296 t297 t298 t299 t300).bind fun bt301 => (if a1.size + x6_2.size ≤ 9223372036854775807 then ((lamplighterlaw07_plain.f).bind fun bt304 => ((escape_Decode.f (a1 ++ x6_2) bt304.1 bt304.2.1 bt304.2.2.1 bt304.2.2.2.1 bt304.2.2.2.2).bind fun bt309 => (if ((a1 ++ (⟨#[92, 88]⟩ : ByteArray)) ++ x5_2).size + 2 ≤ 9223372036854775807 then ((lamplighterlaw07_plain.f).bind fun bt312 => ((escape_Decode.f (((a1 ++ (⟨#[92, 88]⟩ : ByteArray)) ++ x5_2) ++ (⟨#[48, 92]⟩ : ByteArray)) bt312.1 bt312.2.1 bt312.2.2.1 bt312.2.2.2.1 bt312.2.2.2.2).bind fun bt317 => (if a1.size + 3 ≤ 9223372036854775807 then ((lamplighterlaw07_plain.f).bind fun bt320 => ((escape_Decode.f (a1 ++ (⟨#[92, 88, 92]⟩ : ByteArray)) bt320.1 bt320.2.1 bt320.2.2.1 bt320.2.2.2.1 bt320.2.2.2.2).bind fun bt325 => ((lamplighterlaw07_plain.f).bind fun bt328 => ((escape_Decode.f ((a1 ++ (⟨#[92, 88]⟩ : ByteArray)) ++ x5_2) bt328.1 bt328.2.1 bt328.2.2.1 bt328.2.2.2.1 bt328.2.2.2.2).bind fun bt333 => ((lamplighterlaw07_alive.f).bind fun t336 => (if t336 = true then (if bt301.2.2 = 0 then (if a1.size + (strOfNums l0).size ≤ 9223372036854775807 then (if bt301.1.toList = (a1 ++ (strOfNums l0)).toList then (if bt309.2.2 = 0 then (if bt309.1.toList = bt301.1.toList then (if bt317.2.2 = 10 then (if bt317.2.1 = (a1.size : Int) then (if bt325.2.2 = bt317.2.2 then (if bt325.2.1 = bt317.2.1 then (if bt333.2.2 = bt317.2.2 then (some (bt333.2.1 == bt317.2.1)) else (some false)) else (some false)) else (some false)) else (some false)) else (some false)) else (some false)) else (some false)) else (some false)) else (none)) else (some false)) else (some false))))))) else (none)))) else (none)))) else (none))) = some r := H
                    have A35 := Aside0.mk A350
                    clear A350
                    replace H := Option.bind_eq_some_iff.mp H
                    obtain ⟨⟨t301, t302, t303⟩, A360, H⟩ := H
                    replace H : (if a1.size + x6_2.size ≤ 9223372036854775807 then ((lamplighterlaw07_plain.f).bind fun bt304 => ((escape_Decode.f (a1 ++ x6_2) bt304.1 bt304.2.1 bt304.2.2.1 bt304.2.2.2.1 bt304.2.2.2.2).bind fun bt309 => (if ((a1 ++ (⟨#[92, 88]⟩ : ByteArray)) ++ x5_2).size + 2 ≤ 9223372036854775807 then ((lamplighterlaw07_plain.f).bind fun bt312 => ((escape_Decode.f (((a1 ++ (⟨#[92, 88]⟩ : ByteArray)) ++ x5_2) ++ (⟨#[48, 92]⟩ : ByteArray)) bt312.1 bt312.2.1 bt312.2.2.1 bt312.2.2.2.1 bt312.2.2.2.2).bind fun bt317 => (if a1.size + 3 ≤ 9223372036854775807 then ((lamplighterlaw07_plain.f).bind fun bt320 => ((escape_Decode.f (a1 ++ (⟨#[92, 88, 92]⟩ : ByteArray)) bt320.1 bt320.2.1 bt320.2.2.1 bt320.2.2.2.1 bt320.2.2.2.2).bind fun bt325 => ((lamplighterlaw07_plain.f).bind fun bt328 => ((escape_Decode.f ((a1 ++ (⟨#[92, 88]⟩ : ByteArray)) ++ x5_2) bt328.1 bt328.2.1 bt328.2.2.1 bt328.2.2.2.1 bt328.2.2.2.2).bind fun bt333 => ((lamplighterlaw07_alive.f).bind fun t336 => (if t336 = true then (if t303 = 0 then (if a1.size + (strOfNums l0).size ≤ 9223372036854775807 then (if t301.toList = (a1 ++ (strOfNums l0)).toList then (if bt309.2.2 = 0 then (if bt309.1.toList = t301.toList then (if bt317.2.2 = 10 then (if bt317.2.1 = (a1.size : Int) then (if bt325.2.2 = bt317.2.2 then (if bt325.2.1 = bt317.2.1 then (if bt333.2.2 = bt317.2.2 then (some (bt333.2.1 == bt317.2.1)) else (some false)) else (some false)) else (some false)) else (some false)) else (some false)) else (some false)) else (some false)) else (some false)) else (none)) else (some false)) else (some false))))))) else (none)))) else (none)))) else (none)) = some r := H
                    have A36 := Aside0.mk A360
                    clear A360
                    by_cases c37 : a1.size + x6_2.size ≤ 9223372036854775807
                    · rw [if_pos c37] at H
                      have c37b0 := eq_true c37
                      have c37b1 : decide (a1.size + x6_2.size ≤ 9223372036854775807) = true := decide_eq_true c37
                      try have c37b2 : (9223372036854775807 < a1.size + x6_2.size) = False := eq_false (Nat.not_lt.2 c37)
                      try (have c37b4 := c37b2; simp only [ByteArray.size_append] at c37b4)
                      replace H := Option.bind_eq_some_iff.mp H
                      obtain ⟨⟨t304, t305, t306, t307, t308⟩, A380, H⟩ := H
                      replace H : ((escape_Decode.f (a1 ++ x6_2) t304 t305 t306 t307 t308).bind fun bt309 => (if ((a1 ++ (⟨#[92, 88]⟩ : ByteArray)) ++ x5_2).size + 2 ≤ 9223372036854775807 then ((lamplighterlaw07_plain.f).bind fun bt312 => ((escape_Decode.f (((a1 ++ (⟨#[92, 88]⟩ : ByteArray)) ++ x5_2) ++ (⟨#[48, 92]⟩ : ByteArray)) bt312.1 bt312.2.1 bt312.2.2.1 bt312.2.2.2.1 bt312.2.2.2.2).bind fun bt317 => (if a1.size + 3 ≤ 9223372036854775807 then ((lamplighterlaw07_plain.f).bind fun bt320 => ((escape_Decode.f (a1 ++ (⟨#[92, 88, 92]⟩ : ByteArray)) bt320.1 bt320.2.1 bt320.2.2.1 bt320.2.2.2.1 bt320.2.2.2.2).bind fun bt325 => ((lamplighterlaw07_plain.f).bind fun bt328 => ((escape_Decode.f ((a1 ++ (⟨#[92, 88]⟩ : ByteArray)) ++ x5_2) bt328.1 bt328.2.1 bt328.2.2.1 bt328.2.2.2.1 bt328.2.2.2.2).bind fun bt333 => ((lamplighterlaw07_alive.f).bind fun t336 => (if t336 = true then (if t303 = 0 then (if a1.size + (strOfNums l0).size ≤ 9223372036854775807 then (if t301.toList = (a1 ++ (strOfNums l0)).toList then (if bt309.2.2 = 0 then (if bt309.1.toList = t301.toList then (if bt317.2.2 = 10 then (if bt317.2.1 = (a1.size : Int) then (if bt325.2.2 = bt317.2.2 then (if bt325.2.1 = bt317.2.1 then (if bt333.2.2 = bt317.2.2 then (some (bt333.2.1 == bt317.2.1)) else (some false)) else (some false)) else (some false)) else (some false)) else (some false)) else (some false)) else (some false)) else (some false)) else (none)) else (some false)) else (some false))))))) else (none)))) else (none))) = some r := H
                      have A38 := Aside0.mk A380
                      clear A380
                      replace H := Option.bind_eq_some_iff.mp H
                      obtain ⟨⟨t309, t310, t311⟩, A390, H⟩ := H
                      replace H : (if ((a1 ++ (⟨#[92, 88]⟩ : ByteArray)) ++ x5_2).size + 2 ≤ 9223372036854775807 then ((lamplighterlaw07_plain.f).bind fun bt312 => ((escape_Decode.f (((a1 ++ (⟨#[92, 88]⟩ : ByteArray)) ++ x5_2) ++ (⟨#[48, 92]⟩ : ByteArray)) bt312.1 bt312.2.1 bt312.2.2.1 bt312.2.2.2.1 bt312.2.2.2.2).bind fun bt317 => (if a1.size + 3 ≤ 9223372036854775807 then ((lamplighterlaw07_plain.f).bind fun bt320 => ((escape_Decode.f (a1 ++ (⟨#[92, 88, 92]⟩ : ByteArray)) bt320.1 bt320.2.1 bt320.2.2.1 bt320.2.2.2.1 bt320.2.2.2.2).bind fun bt325 => ((lamplighterlaw07_plain.f).bind fun bt328 => ((escape_Decode.f ((a1 ++ (⟨#[92, 88]⟩ : ByteArray)) ++ x5_2) bt328.1 bt328.2.1 bt328.2.2.1 bt328.2.2.2.1 bt328.2.2.2.2).bind fun bt333 => ((lamplighterlaw07_alive.f).bind fun t336 => (if t336 = true then (if t303 = 0 then (if a1.size + (strOfNums l0).size ≤ 9223372036854775807 then (if t301.toList = (a1 ++ (strOfNums l0)).toList then (if t311 = 0 then (if t309.toList = t301.toList then (if bt317.2.2 = 10 then (if bt317.2.1 = (a1.size : Int) then (if bt325.2.2 = bt317.2.2 then (if bt325.2.1 = bt317.2.1 then (if bt333.2.2 = bt317.2.2 then (some (bt333.2.1 == bt317.2.1)) else (some false)) else (some false)) else (some false)) else (some false)) else (some false)) else (some false)) else (some false)) else (some false)) else (none)) else (some false)) else (some false))))))) else (none)))) else (none)) = some r := H
                      have A39 := Aside0.mk A390
                      clear A390
                      by_cases c40 : ((a1 ++ (⟨#[92, 88]⟩ : ByteArray)) ++ x5_2).size + 2 ≤ 9223372036854775807
                      · rw [if_pos c40] at H
                        have c40b0 := eq_true c40
                        have c40b1 : decide (((a1 ++ (⟨#[92, 88]⟩ : ByteArray)) ++ x5_2).size + 2 ≤ 9223372036854775807) = true := decide_eq_true c40
                        try have c40b2 : (9223372036854775807 < ((a1 ++ (⟨#[92, 88]⟩ : ByteArray)) ++ x5_2).size + 2) = False := eq_false (Nat.not_lt.2 c40)
                        try (have c40b4 := c40b2; simp only [ByteArray.size_append] at c40b4)
                        replace H := Option.bind_eq_some_iff.mp H
                        obtain ⟨⟨t312, t313, t314, t315, t316⟩, A410, H⟩ := H
                        replace H : ((escape_Decode.f (((a1 ++ (⟨#[92, 88]⟩ : ByteArray)) ++ x5_2) ++ (⟨#[48, 92]⟩ : ByteArray)) t312 t313 t314 t315 t316).bind fun bt317 => (if a1.size + 3 ≤ 9223372036854775807 then ((lamplighterlaw07_plain.f).bind fun bt320 => ((escape_Decode.f (a1 ++ (⟨#[92, 88, 92]⟩ : ByteArray)) bt320.1 bt320.2.1 bt320.2.2.1 bt320.2.2.2.1 bt320.2.2.2.2).bind fun bt325 => ((lamplighterlaw07_plain.f).bind fun bt328 => ((escape_Decode.f ((a1 ++ (⟨#[92, 88]⟩ : ByteArray)) ++ x5_2) bt328.1 bt328.2.1 bt328.2.2.1 bt328.2.2.2.1 bt328.2.2.2.2).bind fun bt333 => ((lamplighterlaw07_alive.f).bind fun t336 => (if t336 = true then (if t303 = 0 then (if a1.size + (strOfNums l0).size ≤ 9223372036854775807 then (if t301.toList = (a1 ++ (strOfNums l0)).toList then (if t311 = 0 then (if t309.toList = t301.toList then (if bt317.2.2 = 10 then (if bt317.2.1 = (a1.size : Int) then (if bt325.2.2 = bt317.2.2 then (if bt325.2.1 = bt317.2.1 then (if bt333.2.2 = bt317.2.2 then (some (bt333.2.1 == bt317.2.1)) else (some false)) else (some false)) else (some false)) else (some false)) else (some false)) else (some false)) else (some false)) else (some false)) else (none)) else (some false)) else (some false))))))) else (none))) = some r := H
                        have A41 := Aside0.mk A410
                        clear A410
                        replace H := Option.bind_eq_some_iff.mp H
                        obtain ⟨⟨t317, t318, t319⟩, A420, H⟩ := H
                        replace H : (if a1.size + 3 ≤ 9223372036854775807 then ((lamplighterlaw07_plain.f).bind fun bt320 => ((escape_Decode.f (a1 ++ (⟨#[92, 88, 92]⟩ : ByteArray)) bt320.1 bt320.2.1 bt320.2.2.1 bt320.2.2.2.1 bt320.2.2.2.2).bind fun bt325 => ((lamplighterlaw07_plain.f).bind fun bt328 => ((escape_Decode.f ((a1 ++ (⟨#[92, 88]⟩ : ByteArray)) ++ x5_2) bt328.1 bt328.2.1 bt328.2.2.1 bt328.2.2.2.1 bt328.2.2.2.2).bind fun bt333 => ((lamplighterlaw07_alive.f).bind fun t336 => (if t336 = true then (if t303 = 0 then (if a1.size + (strOfNums l0).size ≤ 9223372036854775807 then (if t301.toList = (a1 ++ (strOfNums l0)).toList then (if t311 = 0 then (if t309.toList = t301.toList then (if t319 = 10 then (if t318 = (a1.size : Int) then (if bt325.2.2 = t319 then (if bt325.2.1 = t318 then (if bt333.2.2 = t319 then (some (bt333.2.1 == t318)) else (some false)) else (some false)) else (some false)) else (some false)) else (some false)) else (some false)) else (some false)) else (some false)) else (none)) else (some false)) else (some false))))))) else (none)) = some r := H
                        have A42 := Aside0.mk A420
                        clear A420
                        by_cases c43 : a1.size + 3 ≤ 9223372036854775807
                        · rw [if_pos c43] at H
                          have c43b0 := eq_true c43
                          have c43b1 : decide (a1.size + 3 ≤ 9223372036854775807) = true := decide_eq_true c43
                          try have c43b2 : (9223372036854775807 < a1.size + 3) = False := eq_false (Nat.not_lt.2 c43)
                          try (have c43b4 := c43b2; simp only [ByteArray.size_append] at c43b4)
                          replace H := Option.bind_eq_some_iff.mp H
                          obtain ⟨⟨t320, t321, t322, t323, t324⟩, A440, H⟩ := H
                          replace H : ((escape_Decode.f (a1 ++ (⟨#[92, 88, 92]⟩ : ByteArray)) t320 t321 t322 t323 t324).bind fun bt325 => ((lamplighterlaw07_plain.f).bind fun bt328 => ((escape_Decode.f ((a1 ++ (⟨#[92, 88]⟩ : ByteArray)) ++ x5_2) bt328.1 bt328.2.1 bt328.2.2.1 bt328.2.2.2.1 bt328.2.2.2.2).bind fun bt333 => ((lamplighterlaw07_alive.f).bind fun t336 => (if t336 = true then (if t303 = 0 then (if a1.size + (strOfNums l0).size ≤ 9223372036854775807 then (if t301.toList = (a1 ++ (strOfNums l0)).toList then (if t311 = 0 then (if t309.toList = t301.toList then (if t319 = 10 then (if t318 = (a1.size : Int) then (if bt325.2.2 = t319 then (if bt325.2.1 = t318 then (if bt333.2.2 = t319 then (some (bt333.2.1 == t318)) else (some false)) else (some false)) else (some false)) else (some false)) else (some false)) else (some false)) else (some false)) else (some false)) else (none)) else (some false)) else (some false)))))) = some r := H
                          have A44 := Aside0.mk A440
                          clear A440
                          replace H := Option.bind_eq_some_iff.mp H
                          obtain ⟨⟨t325, t326, t327⟩, A450, H⟩ := H
                          replace H : ((lamplighterlaw07_plain.f).bind fun bt328 => ((escape_Decode.f ((a1 ++ (⟨#[92, 88]⟩ : ByteArray)) ++ x5_2) bt328.1 bt328.2.1 bt328.2.2.1 bt328.2.2.2.1 bt328.2.2.2.2).bind fun bt333 => ((lamplighterlaw07_alive.f).bind fun t336 => (if t336 = true then (if t303 = 0 then (if a1.size + (strOfNums l0).size ≤ 9223372036854775807 then (if t301.toList = (a1 ++ (strOfNums l0)).toList then (if t311 = 0 then (if t309.toList = t301.toList then (if t319 = 10 then (if t318 = (a1.size : Int) then (if t327 = t319 then (if t326 = t318 then (if bt333.2.2 = t319 then (some (bt333.2.1 == t318)) else (some false)) else (some false)) else (some false)) else (some false)) else (some false)) else (some false)) else (some false)) else (some false)) else (none)) else (some false)) else (some false))))) = some r := H
                          have A45 := Aside0.mk A450
                          clear A450
                          replace H := Option.bind_eq_some_iff.mp H
                          obtain ⟨⟨t328, t329, t330, t331, t332⟩, A460, H⟩ := H
                          replace H : ((escape_Decode.f ((a1 ++ (⟨#[92, 88]⟩ : ByteArray)) ++ x5_2) t328 t329 t330 t331 t332).bind fun bt333 => ((lamplighterlaw07_alive.f).bind fun t336 => (if t336 = true then (if t303 = 0 then (if a1.size + (strOfNums l0).size ≤ 9223372036854775807 then (if t301.toList = (a1 ++ (strOfNums l0)).toList then (if t311 = 0 then (if t309.toList = t301.toList then (if t319 = 10 then (if t318 = (a1.size : Int) then (if t327 = t319 then (if t326 = t318 then (if bt333.2.2 = t319 then (some (bt333.2.1 == t318)) else (some false)) else (some false)) else (some false)) else (some false)) else (some false)) else (some false)) else (some false)) else (some false)) else (none)) else (some false)) else (some false)))) = some r := H
                          have A46 := Aside0.mk A460
                          clear A460
                          replace H := Option.bind_eq_some_iff.mp H
                          obtain ⟨⟨t333, t334, t335⟩, A470, H⟩ := H
                          replace H : ((lamplighterlaw07_alive.f).bind fun t336 => (if t336 = true then (if t303 = 0 then (if a1.size + (strOfNums l0).size ≤ 9223372036854775807 then (if t301.toList = (a1 ++ (strOfNums l0)).toList then (if t311 = 0 then (if t309.toList = t301.toList then (if t319 = 10 then (if t318 = (a1.size : Int) then (if t327 = t319 then (if t326 = t318 then (if t335 = t319 then (some (t334 == t318)) else (some false)) else (some false)) else (some false)) else (some false)) else (some false)) else (some false)) else (some false)) else (some false)) else (none)) else (some false)) else (some false))) = some r := H
                          have A47 := Aside0.mk A470
                          clear A470
                          replace H := Option.bind_eq_some_iff.mp H
                          obtain ⟨t336, A480, H⟩ := H
                          replace H : (if t336 = true then (if t303 = 0 then (if a1.size + (strOfNums l0).size ≤ 9223372036854775807 then (if t301.toList = (a1 ++ (strOfNums l0)).toList then (if t311 = 0 then (if t309.toList = t301.toList then (if t319 = 10 then (if t318 = (a1.size : Int) then (if t327 = t319 then (if t326 = t318 then (if t335 = t319 then (some (t334 == t318)) else (some false)) else (some false)) else (some false)) else (some false)) else (some false)) else (some false)) else (some false)) else (some false)) else (none)) else (some false)) else (some false)) = some r := H
                          have A48 := Aside0.mk A480
                          clear A480
                          by_cases c49 : t336 = true
                          · subst c49
                            have H1 : (if t303 = 0 then (if a1.size + (strOfNums l0).size ≤ 9223372036854775807 then (if t301.toList = (a1 ++ (strOfNums l0)).toList then (if t311 = 0 then (if t309.toList = t301.toList then (if t319 = 10 then (if t318 = (a1.size : Int) then (if t327 = t319 then (if t326 = t318 then (if t335 = t319 then (some (t334 == t318)) else (some false)) else (some false)) else (some false)) else (some false)) else (some false)) else (some false)) else (some false)) else (some false)) else (none)) else (some false)) = some r := by rw [if_pos rfl] at H; exact H
                            clear H
                            have H := H1
                            clear H1
                            by_cases c50 : t303 = 0
                            · rw [if_pos c50] at H
                              have c50b0 : (t303 == 0) = true := beq_iff_eq.mpr c50
                              have c50b1 : (t303 != 0) = false := bne_eq_false_iff_eq.mpr c50
                              clear c50
                              by_cases c51 : a1.size + (strOfNums l0).size ≤ 9223372036854775807
                              · rw [if_pos c51] at H
                                have c51b0 := eq_true c51
                                have c51b1 : decide (a1.size + (strOfNums l0).size ≤ 9223372036854775807) = true := decide_eq_true c51
                                try have c51b2 : (9223372036854775807 < a1.size + (strOfNums l0).size) = False := eq_false (Nat.not_lt.2 c51)
                                try (have c51b4 := c51b2; simp only [ByteArray.size_append] at c51b4)
                                by_cases c52 : t301.toList = (a1 ++ (strOfNums l0)).toList
                                · rw [if_pos c52] at H
                                  have c52b0 : (t301.toList == (a1 ++ (strOfNums l0)).toList) = true := beq_iff_eq.mpr c52
                                  have c52b1 : (t301.toList != (a1 ++ (strOfNums l0)).toList) = false := bne_eq_false_iff_eq.mpr c52
                                  clear c52
                                  by_cases c53 : t311 = 0
                                  · rw [if_pos c53] at H
                                    have c53b0 : (t311 == 0) = true := beq_iff_eq.mpr c53
                                    have c53b1 : (t311 != 0) = false := bne_eq_false_iff_eq.mpr c53
                                    clear c53
                                    by_cases c54 : t309.toList = t301.toList
                                    · rw [if_pos c54] at H
                                      have c54b0 : (t309.toList == t301.toList) = true := beq_iff_eq.mpr c54
                                      have c54b1 : (t309.toList != t301.toList) = false := bne_eq_false_iff_eq.mpr c54
                                      clear c54
                                      by_cases c55 : t319 = 10
                                      · rw [if_pos c55] at H
                                        have c55b0 : (t319 == 10) = true := beq_iff_eq.mpr c55
                                        have c55b1 : (t319 != 10) = false := bne_eq_false_iff_eq.mpr c55
                                        clear c55
                                        by_cases c56 : t318 = (a1.size : Int)
                                        · rw [if_pos c56] at H
                                          have c56b0 : (t318 == (a1.size : Int)) = true := beq_iff_eq.mpr c56
                                          have c56b1 : (t318 != (a1.size : Int)) = false := bne_eq_false_iff_eq.mpr c56
                                          clear c56
                                          by_cases c57 : t327 = t319
                                          · rw [if_pos c57] at H
                                            have c57b0 : (t327 == t319) = true := beq_iff_eq.mpr c57
                                            have c57b1 : (t327 != t319) = false := bne_eq_false_iff_eq.mpr c57
                                            clear c57
                                            by_cases c58 : t326 = t318
                                            · rw [if_pos c58] at H
                                              have c58b0 : (t326 == t318) = true := beq_iff_eq.mpr c58
                                              have c58b1 : (t326 != t318) = false := bne_eq_false_iff_eq.mpr c58
                                              clear c58
                                              by_cases c59 : t335 = t319
                                              · rw [if_pos c59] at H
                                                have c59b0 : (t335 == t319) = true := beq_iff_eq.mpr c59
                                                have c59b1 : (t335 != t319) = false := bne_eq_false_iff_eq.mpr c59
                                                clear c59
                                                obtain rfl := Option.some.inj H
                                                clear hrt
                                                have c33b5 : (9223372036854775807 < a1.size + 2 + x5_2.size) = False := by have h_ := c33b0; rw [ByteArray.size_append] at h_; exact eq_false (Nat.not_lt.2 (of_eq_true h_))
                                                have c34b5 : (9223372036854775807 < a1.size + 2 + x5_2.size + 1) = False := by have h_ := c34b0; rw [ByteArray.size_append, ByteArray.size_append] at h_; exact eq_false (Nat.not_lt.2 (of_eq_true h_))
                                                have c40b5 : (9223372036854775807 < a1.size + 2 + x5_2.size + 2) = False := by have h_ := c40b0; rw [ByteArray.size_append, ByteArray.size_append] at h_; exact eq_false (Nat.not_lt.2 (of_eq_true h_))
                                                go_wp2_with (first | ((with_reducible refine gate_callee (f := 13) rfl ?_); refine goesL_ (some 74) rfl rfl Tryd.func13 (by kernel_rfl) rfl #[] rfl (by (try simp only [List.map_toArray, List.map_cons, List.map_nil]); first | done | rfl | (simp only [List.length_drop, List.length_take]; rfl)) ?_; (with_reducible refine (lamplighterlaw07_plain.calls  t296 t297 t298 t299 t300 _ A35.out).mono ?_); rintro e w60 ⟨rfl, hb⟩; refine ⟨_, rfl, ?_⟩; have n0_ := Aside0.mk (below_step (by repeat (first | (with_reducible first | exact HB.out | apply below_alloc | apply pw_below_drewN | apply below_drew1) | exact HB.out)) hb); clear HB; have HB := n0_; clear n0_; (try clear hb); (try clear hb2); (try clear hk); (try clear hi)) | ((with_reducible refine gate_callee (f := 11) rfl ?_); refine goesL_ (some 75) rfl rfl Tryd.func11 (by kernel_rfl) rfl #[.string (((a1 ++ (⟨#[92, 88]⟩ : ByteArray)) ++ x5_2) ++ (⟨#[92]⟩ : ByteArray)), .agg #[.int .u8 t296, .int .u8 t297, .int .u8 t298, .int .u8 t299, .int .u8 t300]] rfl (by (try simp only [List.map_toArray, List.map_cons, List.map_nil]); first | done | rfl | (simp only [List.length_drop, List.length_take]; rfl)) ?_; (with_reducible refine (escape_Decode.calls (((a1 ++ (⟨#[92, 88]⟩ : ByteArray)) ++ x5_2) ++ (⟨#[92]⟩ : ByteArray)) t296 t297 t298 t299 t300 t301 t302 t303 _ A36.out).mono ?_); rintro e w61 ⟨rfl, hb⟩; refine ⟨_, rfl, ?_⟩; have n0_ := Aside0.mk (below_step (by repeat (first | (with_reducible first | exact HB.out | apply below_alloc | apply pw_below_drewN | apply below_drew1) | exact HB.out)) hb); clear HB; have HB := n0_; clear n0_; (try clear hb); (try clear hb2); (try clear hk); (try clear hi)) | ((with_reducible refine gate_callee (f := 13) rfl ?_); refine goesL_ (some 83) rfl rfl Tryd.func13 (by kernel_rfl) rfl #[] rfl (by (try simp only [List.map_toArray, List.map_cons, List.map_nil]); first | done | rfl | (simp only [List.length_drop, List.length_take]; rfl)) ?_; (with_reducible refine (lamplighterlaw07_plain.calls  t304 t305 t306 t307 t308 _ A38.out).mono ?_); rintro e w62 ⟨rfl, hb⟩; refine ⟨_, rfl, ?_⟩; have n0_ := Aside0.mk (below_step (by repeat (first | (with_reducible first | exact HB.out | apply below_alloc | apply pw_below_drewN | apply below_drew1) | exact HB.out)) hb); clear HB; have HB := n0_; clear n0_; (try clear hb); (try clear hb2); (try clear hk); (try clear hi)) | ((with_reducible refine gate_callee (f := 11) rfl ?_); refine goesL_ (some 84) rfl rfl Tryd.func11 (by kernel_rfl) rfl #[.string (a1 ++ x6_2), .agg #[.int .u8 t304, .int .u8 t305, .int .u8 t306, .int .u8 t307, .int .u8 t308]] rfl (by (try simp only [List.map_toArray, List.map_cons, List.map_nil]); first | done | rfl | (simp only [List.length_drop, List.length_take]; rfl)) ?_; (with_reducible refine (escape_Decode.calls (a1 ++ x6_2) t304 t305 t306 t307 t308 t309 t310 t311 _ A39.out).mono ?_); rintro e w63 ⟨rfl, hb⟩; refine ⟨_, rfl, ?_⟩; have n0_ := Aside0.mk (below_step (by repeat (first | (with_reducible first | exact HB.out | apply below_alloc | apply pw_below_drewN | apply below_drew1) | exact HB.out)) hb); clear HB; have HB := n0_; clear n0_; (try clear hb); (try clear hb2); (try clear hk); (try clear hi)) | ((with_reducible refine gate_callee (f := 13) rfl ?_); refine goesL_ (some 94) rfl rfl Tryd.func13 (by kernel_rfl) rfl #[] rfl (by (try simp only [List.map_toArray, List.map_cons, List.map_nil]); first | done | rfl | (simp only [List.length_drop, List.length_take]; rfl)) ?_; (with_reducible refine (lamplighterlaw07_plain.calls  t312 t313 t314 t315 t316 _ A41.out).mono ?_); rintro e w64 ⟨rfl, hb⟩; refine ⟨_, rfl, ?_⟩; have n0_ := Aside0.mk (below_step (by repeat (first | (with_reducible first | exact HB.out | apply below_alloc | apply pw_below_drewN | apply below_drew1) | exact HB.out)) hb); clear HB; have HB := n0_; clear n0_; (try clear hb); (try clear hb2); (try clear hk); (try clear hi)) | ((with_reducible refine gate_callee (f := 11) rfl ?_); refine goesL_ (some 95) rfl rfl Tryd.func11 (by kernel_rfl) rfl #[.string (((a1 ++ (⟨#[92, 88]⟩ : ByteArray)) ++ x5_2) ++ (⟨#[48, 92]⟩ : ByteArray)), .agg #[.int .u8 t312, .int .u8 t313, .int .u8 t314, .int .u8 t315, .int .u8 t316]] rfl (by (try simp only [List.map_toArray, List.map_cons, List.map_nil]); first | done | rfl | (simp only [List.length_drop, List.length_take]; rfl)) ?_; (with_reducible refine (escape_Decode.calls (((a1 ++ (⟨#[92, 88]⟩ : ByteArray)) ++ x5_2) ++ (⟨#[48, 92]⟩ : ByteArray)) t312 t313 t314 t315 t316 t317 t318 t319 _ A42.out).mono ?_); rintro e w65 ⟨rfl, hb⟩; refine ⟨_, rfl, ?_⟩; have n0_ := Aside0.mk (below_step (by repeat (first | (with_reducible first | exact HB.out | apply below_alloc | apply pw_below_drewN | apply below_drew1) | exact HB.out)) hb); clear HB; have HB := n0_; clear n0_; (try clear hb); (try clear hb2); (try clear hk); (try clear hi)) | ((with_reducible refine gate_callee (f := 13) rfl ?_); refine goesL_ (some 102) rfl rfl Tryd.func13 (by kernel_rfl) rfl #[] rfl (by (try simp only [List.map_toArray, List.map_cons, List.map_nil]); first | done | rfl | (simp only [List.length_drop, List.length_take]; rfl)) ?_; (with_reducible refine (lamplighterlaw07_plain.calls  t320 t321 t322 t323 t324 _ A44.out).mono ?_); rintro e w66 ⟨rfl, hb⟩; refine ⟨_, rfl, ?_⟩; have n0_ := Aside0.mk (below_step (by repeat (first | (with_reducible first | exact HB.out | apply below_alloc | apply pw_below_drewN | apply below_drew1) | exact HB.out)) hb); clear HB; have HB := n0_; clear n0_; (try clear hb); (try clear hb2); (try clear hk); (try clear hi)) | ((with_reducible refine gate_callee (f := 11) rfl ?_); refine goesL_ (some 103) rfl rfl Tryd.func11 (by kernel_rfl) rfl #[.string (a1 ++ (⟨#[92, 88, 92]⟩ : ByteArray)), .agg #[.int .u8 t320, .int .u8 t321, .int .u8 t322, .int .u8 t323, .int .u8 t324]] rfl (by (try simp only [List.map_toArray, List.map_cons, List.map_nil]); first | done | rfl | (simp only [List.length_drop, List.length_take]; rfl)) ?_; (with_reducible refine (escape_Decode.calls (a1 ++ (⟨#[92, 88, 92]⟩ : ByteArray)) t320 t321 t322 t323 t324 t325 t326 t327 _ A45.out).mono ?_); rintro e w67 ⟨rfl, hb⟩; refine ⟨_, rfl, ?_⟩; have n0_ := Aside0.mk (below_step (by repeat (first | (with_reducible first | exact HB.out | apply below_alloc | apply pw_below_drewN | apply below_drew1) | exact HB.out)) hb); clear HB; have HB := n0_; clear n0_; (try clear hb); (try clear hb2); (try clear hk); (try clear hi)) | ((with_reducible refine gate_callee (f := 13) rfl ?_); refine goesL_ (some 112) rfl rfl Tryd.func13 (by kernel_rfl) rfl #[] rfl (by (try simp only [List.map_toArray, List.map_cons, List.map_nil]); first | done | rfl | (simp only [List.length_drop, List.length_take]; rfl)) ?_; (with_reducible refine (lamplighterlaw07_plain.calls  t328 t329 t330 t331 t332 _ A46.out).mono ?_); rintro e w68 ⟨rfl, hb⟩; refine ⟨_, rfl, ?_⟩; have n0_ := Aside0.mk (below_step (by repeat (first | (with_reducible first | exact HB.out | apply below_alloc | apply pw_below_drewN | apply below_drew1) | exact HB.out)) hb); clear HB; have HB := n0_; clear n0_; (try clear hb); (try clear hb2); (try clear hk); (try clear hi)) | ((with_reducible refine gate_callee (f := 11) rfl ?_); refine goesL_ (some 113) rfl rfl Tryd.func11 (by kernel_rfl) rfl #[.string ((a1 ++ (⟨#[92, 88]⟩ : ByteArray)) ++ x5_2), .agg #[.int .u8 t328, .int .u8 t329, .int .u8 t330, .int .u8 t331, .int .u8 t332]] rfl (by (try simp only [List.map_toArray, List.map_cons, List.map_nil]); first | done | rfl | (simp only [List.length_drop, List.length_take]; rfl)) ?_; (with_reducible refine (escape_Decode.calls ((a1 ++ (⟨#[92, 88]⟩ : ByteArray)) ++ x5_2) t328 t329 t330 t331 t332 t333 t334 t335 _ A47.out).mono ?_); rintro e w69 ⟨rfl, hb⟩; refine ⟨_, rfl, ?_⟩; have n0_ := Aside0.mk (below_step (by repeat (first | (with_reducible first | exact HB.out | apply below_alloc | apply pw_below_drewN | apply below_drew1) | exact HB.out)) hb); clear HB; have HB := n0_; clear n0_; (try clear hb); (try clear hb2); (try clear hk); (try clear hi)) | ((with_reducible refine gate_callee (f := 9) rfl ?_); refine goesL_ (some 117) rfl rfl Tryd.func9 (by kernel_rfl) rfl #[] rfl (by (try simp only [List.map_toArray, List.map_cons, List.map_nil]); first | done | rfl | (simp only [List.length_drop, List.length_take]; rfl)) ?_; (with_reducible refine (lamplighterlaw07_alive.calls  true _ A48.out).mono ?_); rintro e w70 ⟨rfl, hb⟩; refine ⟨_, rfl, ?_⟩; have n0_ := Aside0.mk (below_step (by repeat (first | (with_reducible first | exact HB.out | apply below_alloc | apply pw_below_drewN | apply below_drew1) | exact HB.out)) hb); clear HB; have HB := n0_; clear n0_; (try clear hb); (try clear hb2); (try clear hk); (try clear hi); have hcv71 := Kd.C_string (P := Tryd.prog) (A := A0) (c := c0) Tryd.underlying31 Tryd.underlying5 Tryd.underlying9 (Kd.C_below HR0.out HB.out)))
                                                go_ret
                                                exact ⟨by first | rfl | (simp [errW_none, errW_some] <;> rfl) | (simp [*, errW_none, errW_some] <;> rfl), by repeat (first | (with_reducible first | exact HB.out | apply below_alloc | apply pw_below_drewN | apply below_drew1) | exact HB.out)⟩
                                              · rw [if_neg c59] at H
                                                have c59b0 : (t335 == t319) = false := beq_eq_false_iff_ne.mpr c59
                                                have c59b1 : (t335 != t319) = true := bne_iff_ne.mpr c59
                                                obtain rfl := Option.some.inj H
                                                cases hrt
                                            · rw [if_neg c58] at H
                                              have c58b0 : (t326 == t318) = false := beq_eq_false_iff_ne.mpr c58
                                              have c58b1 : (t326 != t318) = true := bne_iff_ne.mpr c58
                                              obtain rfl := Option.some.inj H
                                              cases hrt
                                          · rw [if_neg c57] at H
                                            have c57b0 : (t327 == t319) = false := beq_eq_false_iff_ne.mpr c57
                                            have c57b1 : (t327 != t319) = true := bne_iff_ne.mpr c57
                                            obtain rfl := Option.some.inj H
                                            cases hrt
                                        · rw [if_neg c56] at H
                                          have c56b0 : (t318 == (a1.size : Int)) = false := beq_eq_false_iff_ne.mpr c56
                                          have c56b1 : (t318 != (a1.size : Int)) = true := bne_iff_ne.mpr c56
                                          obtain rfl := Option.some.inj H
                                          cases hrt
                                      · rw [if_neg c55] at H
                                        have c55b0 : (t319 == 10) = false := beq_eq_false_iff_ne.mpr c55
                                        have c55b1 : (t319 != 10) = true := bne_iff_ne.mpr c55
                                        obtain rfl := Option.some.inj H
                                        cases hrt
                                    · rw [if_neg c54] at H
                                      have c54b0 : (t309.toList == t301.toList) = false := beq_eq_false_iff_ne.mpr c54
                                      have c54b1 : (t309.toList != t301.toList) = true := bne_iff_ne.mpr c54
                                      obtain rfl := Option.some.inj H
                                      cases hrt
                                  · rw [if_neg c53] at H
                                    have c53b0 : (t311 == 0) = false := beq_eq_false_iff_ne.mpr c53
                                    have c53b1 : (t311 != 0) = true := bne_iff_ne.mpr c53
                                    obtain rfl := Option.some.inj H
                                    cases hrt
                                · rw [if_neg c52] at H
                                  have c52b0 : (t301.toList == (a1 ++ (strOfNums l0)).toList) = false := beq_eq_false_iff_ne.mpr c52
                                  have c52b1 : (t301.toList != (a1 ++ (strOfNums l0)).toList) = true := bne_iff_ne.mpr c52
                                  obtain rfl := Option.some.inj H
                                  cases hrt
                              · rw [if_neg c51] at H
                                exact absurd H (by simp)
                            · rw [if_neg c50] at H
                              have c50b0 : (t303 == 0) = false := beq_eq_false_iff_ne.mpr c50
                              have c50b1 : (t303 != 0) = true := bne_iff_ne.mpr c50
                              obtain rfl := Option.some.inj H
                              cases hrt
                          · replace c49 := Bool.eq_false_iff.mpr c49
                            subst c49
                            have H1 : (some false) = some r := by rw [if_neg (show ¬ (false = true) by decide)] at H; exact H
                            clear H
                            have H := H1
                            clear H1
                            obtain rfl := Option.some.inj H
                            cases hrt
                        · rw [if_neg c43] at H
                          exact absurd H (by simp)
                      · rw [if_neg c40] at H
                        exact absurd H (by simp)
                    · rw [if_neg c37] at H
                      exact absurd H (by simp)
                  · rw [if_neg c34] at H
                    exact absurd H (by simp)
                · rw [if_neg c33] at H
                  exact absurd H (by simp)
              · rw [if_neg c32] at H
                exact absurd H (by simp)

end Go.Proofs.YtokpkdmkdolmdaaDoor.PG
