-- Written by a program of this work (the kit's print, with contracts of this work's own taken in) out of the translation. Not trusted: Lean checks it.
import Derived.Test.YtokpkdmkdolmdaaDoorPGx0
import Derived.Test.YtokpkdmkdolmdaaDoorPGx3
import Derived.Test.YtokpkdmkdolmdaaDoorPGx9
import Derived.Test.YtokpkdmkdolmdaaDoorPGx11
namespace Go.Proofs.YtokpkdmkdolmdaaDoor.PG
open Go.RowKit Go.Proofs.YtokpkdmkdolmdaaDoorW.PrintWords Go.Proofs.YtokpkdmkdolmdaaDoorW.PrintLast Go.Proofs.YtokpkdmkdolmdaaDoorW.PrintMore
attribute [local go_sem] max2_int min2_int max_two min_two max_three min_three max_four min_four   -- for this text's walks alone
set_option linter.unusedVariables false
set_option linter.unusedSimpArgs false

/-! ### lamplighterlaw07_EscapeJoins: function 6 -/
mutual
def lamplighterlaw07_EscapeJoins.j0 : Nat → ByteArray → ByteArray → Bool → Int → Int → Int → Int → Int → Option (Bool)
  | 0, _, _, _, _, _, _, _, _ => none
  | k + 1, x0, x1, x29, x338000, x338001, x338002, x338003, x338004 => if x29 = true then ((lamplighterlaw07_alive.f).bind fun t338 => (some t338)) else ((escape_Encode.f x0 x338000 x338001 x338002 x338003 x338004).bind fun bt339 => ((escape_Encode.f x1 x338000 x338001 x338002 x338003 x338004).bind fun bt341 => (if x0.size + x1.size ≤ 9223372036854775807 then ((escape_Encode.f (x0 ++ x1) x338000 x338001 x338002 x338003 x338004).bind fun bt343 => ((lamplighterlaw07_alive.f).bind fun t345 => (if t345 = true then (if bt339.2 = bt341.2 then (if bt339.2 = bt343.2 then (if bt339.1.size + bt341.1.size ≤ 9223372036854775807 then (lamplighterlaw07_EscapeJoins.j1 k x0 x1 (bt343.1.toList != (bt339.1 ++ bt341.1).toList) x338000 x338001 x338002 x338003 x338004) else (none)) else (lamplighterlaw07_EscapeJoins.j1 k x0 x1 true x338000 x338001 x338002 x338003 x338004)) else (lamplighterlaw07_EscapeJoins.j1 k x0 x1 true x338000 x338001 x338002 x338003 x338004)) else (lamplighterlaw07_EscapeJoins.j1 k x0 x1 true x338000 x338001 x338002 x338003 x338004)))) else (none))))
def lamplighterlaw07_EscapeJoins.j1 : Nat → ByteArray → ByteArray → Bool → Int → Int → Int → Int → Int → Option (Bool)
  | 0, _, _, _, _, _, _, _, _ => none
  | k + 1, x0, x1, x69, x338000, x338001, x338002, x338003, x338004 => if x69 = true then (some false) else ((escape_Decode.f x0 x338000 x338001 x338002 x338003 x338004).bind fun bt346 => ((escape_Decode.f x1 x338000 x338001 x338002 x338003 x338004).bind fun bt349 => (if bt346.2.2 = 0 then (if bt349.2.2 = 0 then (if x0.size + x1.size ≤ 9223372036854775807 then ((escape_Decode.f (x0 ++ x1) x338000 x338001 x338002 x338003 x338004).bind fun bt352 => (if bt352.2.2 = 0 then (if bt346.1.size + bt349.1.size ≤ 9223372036854775807 then (if bt352.1.toList = (bt346.1 ++ bt349.1).toList then (some (bt352.2.1 == (wrap64 ((x0.size : Int) + (x1.size : Int))))) else (some false)) else (none)) else (some false))) else (none)) else (some true)) else (some true))))
end
def lamplighterlaw07_EscapeJoins.f (k : Nat) (a0 : ByteArray) (a1 : ByteArray) (a2_0 : Int) (a2_1 : Int) (a2_2 : Int) (a2_3 : Int) (a2_4 : Int) : Option (Bool) := if (a0.size : Int) > 800 then (lamplighterlaw07_EscapeJoins.j0 k a0 a1 true a2_0 a2_1 a2_2 a2_3 a2_4) else (lamplighterlaw07_EscapeJoins.j0 k a0 a1 (decide ((a1.size : Int) > 800)) a2_0 a2_1 a2_2 a2_3 a2_4)
theorem dec_size_ {s : ByteArray} {a0 a1 a2 a3 a4 : Int} {r : ByteArray × Int × Int} (h : escape_Decode.f s a0 a1 a2 a3 a4 = some r) : s.size ≤ 1000000 := by
  unfold escape_Decode.f at h
  split at h
  · rename_i q; exact q.1
  · cases h
theorem lamplighterlaw07_EscapeJoins.mono_l : ∀ k, (∀ y0 y1 y2 y3 y4 y5 y6 y7, LeO (lamplighterlaw07_EscapeJoins.j0 k y0 y1 y2 y3 y4 y5 y6 y7) (lamplighterlaw07_EscapeJoins.j0 (k + 1) y0 y1 y2 y3 y4 y5 y6 y7)) ∧ (∀ y0 y1 y2 y3 y4 y5 y6 y7, LeO (lamplighterlaw07_EscapeJoins.j1 k y0 y1 y2 y3 y4 y5 y6 y7) (lamplighterlaw07_EscapeJoins.j1 (k + 1) y0 y1 y2 y3 y4 y5 y6 y7))
  | 0 => ⟨fun _ _ _ _ _ _ _ _ r h => by simp [lamplighterlaw07_EscapeJoins.j0] at h, fun _ _ _ _ _ _ _ _ r h => by simp [lamplighterlaw07_EscapeJoins.j1] at h⟩
  | k + 1 => by
    obtain ⟨ih0, ih1⟩ := lamplighterlaw07_EscapeJoins.mono_l k
    refine ⟨?_, ?_⟩
    · intro y0 y1 y2 y3 y4 y5 y6 y7
      unfold lamplighterlaw07_EscapeJoins.j0
      repeat' first
      | (with_reducible exact ih0 _ _ _ _ _ _ _ _)
      | (with_reducible exact ih1 _ _ _ _ _ _ _ _)
      | (with_reducible exact LeO.refl _)
      | (with_reducible exact LeO.none _)
      | (with_reducible refine LeO.ite ?_ ?_)
      | (with_reducible refine LeO.bind ?_ (fun _ => ?_))
      | exact ih0 _ _ _ _ _ _ _ _
      | exact ih1 _ _ _ _ _ _ _ _
      | exact LeO.none _
      | refine LeO.ite ?_ ?_
      | refine LeO.bind ?_ (fun _ => ?_)
    · intro y0 y1 y2 y3 y4 y5 y6 y7
      unfold lamplighterlaw07_EscapeJoins.j1
      repeat' first
      | (with_reducible exact ih0 _ _ _ _ _ _ _ _)
      | (with_reducible exact ih1 _ _ _ _ _ _ _ _)
      | (with_reducible exact LeO.refl _)
      | (with_reducible exact LeO.none _)
      | (with_reducible refine LeO.ite ?_ ?_)
      | (with_reducible refine LeO.bind ?_ (fun _ => ?_))
      | exact ih0 _ _ _ _ _ _ _ _
      | exact ih1 _ _ _ _ _ _ _ _
      | exact LeO.none _
      | refine LeO.ite ?_ ?_
      | refine LeO.bind ?_ (fun _ => ?_)
theorem lamplighterlaw07_EscapeJoins.mono : ∀ a0 a1 a2 a3 a4 a5 a6 k, LeO (lamplighterlaw07_EscapeJoins.f k a0 a1 a2 a3 a4 a5 a6) (lamplighterlaw07_EscapeJoins.f (k + 1) a0 a1 a2 a3 a4 a5 a6) := by
  intro a0 a1 a2 a3 a4 a5 a6 k
  obtain ⟨ih0, ih1⟩ := lamplighterlaw07_EscapeJoins.mono_l k
  unfold lamplighterlaw07_EscapeJoins.f
  repeat' first
      | (with_reducible exact ih0 _ _ _ _ _ _ _ _)
      | (with_reducible exact ih1 _ _ _ _ _ _ _ _)
      | (with_reducible exact LeO.refl _)
      | (with_reducible exact LeO.none _)
      | (with_reducible refine LeO.ite ?_ ?_)
      | (with_reducible refine LeO.bind ?_ (fun _ => ?_))
      | exact ih0 _ _ _ _ _ _ _ _
      | exact ih1 _ _ _ _ _ _ _ _
      | exact LeO.none _
      | refine LeO.ite ?_ ?_
      | refine LeO.bind ?_ (fun _ => ?_)
set_option maxHeartbeats 8000000 in
set_option maxRecDepth 100000 in
theorem lamplighterlaw07_EscapeJoins.calls (k : Nat) (a0 : ByteArray) (a1 : ByteArray) (a2_0 : Int) (a2_1 : Int) (a2_2 : Int) (a2_3 : Int) (a2_4 : Int) (r : Bool) (w : World) (h : lamplighterlaw07_EscapeJoins.f k a0 a1 a2_0 a2_1 a2_2 a2_3 a2_4 = some r) (hrt : r = true) :
    Calls Tryd.prog 6 #[.string a0, .string a1, .agg #[.int .u8 a2_0, .int .u8 a2_1, .int .u8 a2_2, .int .u8 a2_3, .int .u8 a2_4]] w fun e w' => e = .returned (.bool r) ∧ Below w.heap.size w w' := by
  have hu23 := Tryd.underlying23
  have HB := Aside0.mk (Below.refl w.heap.size w)
  have H : (if (a0.size : Int) > 800 then (lamplighterlaw07_EscapeJoins.j0 k a0 a1 true a2_0 a2_1 a2_2 a2_3 a2_4) else (lamplighterlaw07_EscapeJoins.j0 k a0 a1 (decide ((a1.size : Int) > 800)) a2_0 a2_1 a2_2 a2_3 a2_4)) = some r := h
  clear h
  have HC4 := Aside0.mk H
  clear H
  go_enter Tryd.func6, Tryd.ntmps6
  go_upto_region 1 with (first | ((with_reducible refine gate_dst (N := 5) rfl ?_); (try (refine gate_guard (by rfl) ?_; dsimp only)); refine box_event ?hg (N := 5) ?hd (cs := #[.int .u8 a2_0, .int .u8 a2_1, .int .u8 a2_2, .int .u8 a2_3, .int .u8 a2_4]) (t := 23) ?hr ?_; (case hd => rfl); (case hg => rfl); (case hr => first | (go_simp; done) | (go_simp; rfl)); intro gb337 hg w5 hbox hb; have n0_ := Aside0.mk (below_step (by repeat (first | (with_reducible first | exact HB.out | apply below_alloc | apply pw_below_drewN | apply below_drew1) | exact HB.out)) hb); have n1_ := Aside0.mk (hbox); have n2_ := Aside0.mk ((by rw [hg]; exact (below_size (by repeat (first | (with_reducible first | exact HB.out | apply below_alloc | apply pw_below_drewN | apply below_drew1) | exact HB.out))) : w.heap.size ≤ gb337)); have n3_ := Aside0.mk ((by rw [hg]; exact (below_size (by repeat (first | (with_reducible first | exact HB.out | apply below_alloc | apply pw_below_drewN | apply below_drew1) | exact HB.out))) : w.heap.size ≤ gb337)); clear HB; have HB := n0_; have BK337 := n1_; have GW337 := n2_; have GE337 := n3_; clear n0_ n1_ n2_ n3_; clear hb hbox hg))
  (try simp only [Act.put, List.setIfInBounds_toArray, List.set_cons_zero, List.set_cons_succ])
  go_cut [29] (fun v29 wc => ∃ (kq : Nat) (x29_3 : Bool), v29 = .bool x29_3 ∧ Aside0 (lamplighterlaw07_EscapeJoins.j0 kq a0 a1 x29_3 a2_0 a2_1 a2_2 a2_3 a2_4 = some r) ∧ Aside0 (kq ≤ k) ∧ Aside0 (wc.heap[gb337]? = some (.cells #[.int .u8 a2_0, .int .u8 a2_1, .int .u8 a2_2, .int .u8 a2_3, .int .u8 a2_4] 23 (0, 0))) ∧ Aside0 (Below w.heap.size w wc))
  case first =>
    have H := HC4.out
    clear HC4
    by_cases c6 : (a0.size : Int) > 800
    · rw [if_pos c6] at H
      have c6b0 : decide (800 < (a0.size : Int)) = true := decide_eq_true c6
      have c6b1 : decide (800 < a0.size) = true := decide_eq_true (by omega)
      clear c6
      (first | rw [c6b0] | (simp only [i64_w, i32_w]; rw [c6b0]) | skip)
      have H' := Aside0.mk H
      clear H
      go_wp2
      go_meet
      case rel => exact ⟨_, (true), (by first | rfl | (simp; done) | (simp [*]; done)), H', ⟨by first | omega | exact Nat.le_refl _⟩, ⟨by (with_reducible repeat (first | refine blk_drewN ?_ _ | refine blk_drew ?_ | refine blk_alloc ?_ _)); exact BK337.out⟩, ⟨by repeat (first | (with_reducible first | exact HB.out | apply below_alloc | apply pw_below_drewN | apply below_drew1 | refine below_set ?_ GE337.out) | exact HB.out)⟩⟩
    · rw [if_neg c6] at H
      have c6b0 : decide (800 < (a0.size : Int)) = false := decide_eq_false c6
      have c6b1 : decide (800 < a0.size) = false := decide_eq_false (by omega)
      clear c6
      (first | rw [c6b0] | (simp only [i64_w, i32_w]; rw [c6b0]) | skip)
      have H' := Aside0.mk H
      clear H
      go_wp2
      go_meet
      case rel => exact ⟨_, (decide ((a1.size : Int) > 800)), (by first | rfl | (simp; done) | (simp [*]; done)), H', ⟨by first | omega | exact Nat.le_refl _⟩, ⟨by (with_reducible repeat (first | refine blk_drewN ?_ _ | refine blk_drew ?_ | refine blk_alloc ?_ _)); exact BK337.out⟩, ⟨by repeat (first | (with_reducible first | exact HB.out | apply below_alloc | apply pw_below_drewN | apply below_drew1 | refine below_set ?_ GE337.out) | exact HB.out)⟩⟩
  case rest =>
    clear HC4
    try clear p2
    try clear c6
    try clear c6b0
    try clear c6b1
    obtain ⟨kq, x29_3, rfl, HA, HJ3, BK337, HB⟩ := hcut
    cases kq with
    | zero => exact absurd HA.out (by simp [lamplighterlaw07_EscapeJoins.j0])
    | succ kj3 =>
      have H := HA.out
      clear HA
      simp only [lamplighterlaw07_EscapeJoins.j0] at H
      by_cases c7 : x29_3 = true
      · subst c7
        have H1 : ((lamplighterlaw07_alive.f).bind fun t338 => (some t338)) = some r := by rw [if_pos rfl] at H; exact H
        clear H
        have H := H1
        clear H1
        replace H := Option.bind_eq_some_iff.mp H
        obtain ⟨t338, A80, H⟩ := H
        replace H : (some t338) = some r := H
        have A8 := Aside0.mk A80
        clear A80
        obtain rfl := Option.some.inj H
        clear hrt
        go_wp2_with (first | ((with_reducible refine gate_callee (f := 9) rfl ?_); refine goesL_ (some 30) rfl rfl Tryd.func9 (by kernel_rfl) rfl #[] rfl (by (try simp only [List.map_toArray, List.map_cons, List.map_nil]); first | done | rfl | (simp only [List.length_drop, List.length_take]; rfl)) ?_; (with_reducible refine (lamplighterlaw07_alive.calls  t338 _ A8.out).mono ?_); rintro e w9 ⟨rfl, hb⟩; refine ⟨_, rfl, ?_⟩; have n0_ := Aside0.mk (blk_below (g := gb337) (o := .cells #[.int .u8 a2_0, .int .u8 a2_1, .int .u8 a2_2, .int .u8 a2_3, .int .u8 a2_4] 23 (0, 0)) (by (with_reducible repeat (first | refine blk_drewN ?_ _ | refine blk_drew ?_ | refine blk_alloc ?_ _)); exact BK337.out) hb); have n1_ := Aside0.mk (below_step (by repeat (first | (with_reducible first | exact HB.out | apply below_alloc | apply pw_below_drewN | apply below_drew1 | refine below_set ?_ GE337.out) | exact HB.out)) hb); clear BK337; clear HB; have BK337 := n0_; have HB := n1_; clear n0_ n1_; (try clear hb); (try clear hb2); (try clear hk); (try clear hi)))
        go_ret
        exact ⟨by first | rfl | (rw [show wrap64 ((a0.size : Int) + (a1.size : Int)) = (a0.size : Int) + (a1.size : Int) by have z0 := dec_size_ A31.out; have z1 := dec_size_ A32.out; unfold wrap64; omega]; rfl) | (simp [errW_none, errW_some] <;> rfl) | (simp [*, errW_none, errW_some] <;> rfl), by repeat (first | (with_reducible first | exact HB.out | apply below_alloc | apply pw_below_drewN | apply below_drew1 | refine below_set ?_ GE337.out) | exact HB.out)⟩
      · replace c7 := Bool.eq_false_iff.mpr c7
        subst c7
        have H1 : ((escape_Encode.f a0 a2_0 a2_1 a2_2 a2_3 a2_4).bind fun bt339 => ((escape_Encode.f a1 a2_0 a2_1 a2_2 a2_3 a2_4).bind fun bt341 => (if a0.size + a1.size ≤ 9223372036854775807 then ((escape_Encode.f (a0 ++ a1) a2_0 a2_1 a2_2 a2_3 a2_4).bind fun bt343 => ((lamplighterlaw07_alive.f).bind fun t345 => (if t345 = true then (if bt339.2 = bt341.2 then (if bt339.2 = bt343.2 then (if bt339.1.size + bt341.1.size ≤ 9223372036854775807 then (lamplighterlaw07_EscapeJoins.j1 kj3 a0 a1 (bt343.1.toList != (bt339.1 ++ bt341.1).toList) a2_0 a2_1 a2_2 a2_3 a2_4) else (none)) else (lamplighterlaw07_EscapeJoins.j1 kj3 a0 a1 true a2_0 a2_1 a2_2 a2_3 a2_4)) else (lamplighterlaw07_EscapeJoins.j1 kj3 a0 a1 true a2_0 a2_1 a2_2 a2_3 a2_4)) else (lamplighterlaw07_EscapeJoins.j1 kj3 a0 a1 true a2_0 a2_1 a2_2 a2_3 a2_4)))) else (none)))) = some r := by rw [if_neg (show ¬ (false = true) by decide)] at H; exact H
        clear H
        have H := H1
        clear H1
        replace H := Option.bind_eq_some_iff.mp H
        obtain ⟨⟨t339, t340⟩, A100, H⟩ := H
        replace H : ((escape_Encode.f a1 a2_0 a2_1 a2_2 a2_3 a2_4).bind fun bt341 => (if a0.size + a1.size ≤ 9223372036854775807 then ((escape_Encode.f (a0 ++ a1) a2_0 a2_1 a2_2 a2_3 a2_4).bind fun bt343 => ((lamplighterlaw07_alive.f).bind fun t345 => (if t345 = true then (if t340 = bt341.2 then (if t340 = bt343.2 then (if t339.size + bt341.1.size ≤ 9223372036854775807 then (lamplighterlaw07_EscapeJoins.j1 kj3 a0 a1 (bt343.1.toList != (t339 ++ bt341.1).toList) a2_0 a2_1 a2_2 a2_3 a2_4) else (none)) else (lamplighterlaw07_EscapeJoins.j1 kj3 a0 a1 true a2_0 a2_1 a2_2 a2_3 a2_4)) else (lamplighterlaw07_EscapeJoins.j1 kj3 a0 a1 true a2_0 a2_1 a2_2 a2_3 a2_4)) else (lamplighterlaw07_EscapeJoins.j1 kj3 a0 a1 true a2_0 a2_1 a2_2 a2_3 a2_4)))) else (none))) = some r := H
        have A10 := Aside0.mk A100
        clear A100
        replace H := Option.bind_eq_some_iff.mp H
        obtain ⟨⟨t341, t342⟩, A110, H⟩ := H
        replace H : (if a0.size + a1.size ≤ 9223372036854775807 then ((escape_Encode.f (a0 ++ a1) a2_0 a2_1 a2_2 a2_3 a2_4).bind fun bt343 => ((lamplighterlaw07_alive.f).bind fun t345 => (if t345 = true then (if t340 = t342 then (if t340 = bt343.2 then (if t339.size + t341.size ≤ 9223372036854775807 then (lamplighterlaw07_EscapeJoins.j1 kj3 a0 a1 (bt343.1.toList != (t339 ++ t341).toList) a2_0 a2_1 a2_2 a2_3 a2_4) else (none)) else (lamplighterlaw07_EscapeJoins.j1 kj3 a0 a1 true a2_0 a2_1 a2_2 a2_3 a2_4)) else (lamplighterlaw07_EscapeJoins.j1 kj3 a0 a1 true a2_0 a2_1 a2_2 a2_3 a2_4)) else (lamplighterlaw07_EscapeJoins.j1 kj3 a0 a1 true a2_0 a2_1 a2_2 a2_3 a2_4)))) else (none)) = some r := H
        have A11 := Aside0.mk A110
        clear A110
        by_cases c12 : a0.size + a1.size ≤ 9223372036854775807
        · rw [if_pos c12] at H
          have c12b0 := eq_true c12
          have c12b1 : decide (a0.size + a1.size ≤ 9223372036854775807) = true := decide_eq_true c12
          try have c12b2 : (9223372036854775807 < a0.size + a1.size) = False := eq_false (Nat.not_lt.2 c12)
          try (have c12b4 := c12b2; simp only [ByteArray.size_append] at c12b4)
          replace H := Option.bind_eq_some_iff.mp H
          obtain ⟨⟨t343, t344⟩, A130, H⟩ := H
          replace H : ((lamplighterlaw07_alive.f).bind fun t345 => (if t345 = true then (if t340 = t342 then (if t340 = t344 then (if t339.size + t341.size ≤ 9223372036854775807 then (lamplighterlaw07_EscapeJoins.j1 kj3 a0 a1 (t343.toList != (t339 ++ t341).toList) a2_0 a2_1 a2_2 a2_3 a2_4) else (none)) else (lamplighterlaw07_EscapeJoins.j1 kj3 a0 a1 true a2_0 a2_1 a2_2 a2_3 a2_4)) else (lamplighterlaw07_EscapeJoins.j1 kj3 a0 a1 true a2_0 a2_1 a2_2 a2_3 a2_4)) else (lamplighterlaw07_EscapeJoins.j1 kj3 a0 a1 true a2_0 a2_1 a2_2 a2_3 a2_4))) = some r := H
          have A13 := Aside0.mk A130
          clear A130
          have HC14 := Aside0.mk H
          clear H
          have hcz15_0 : wc.cell? ⟨gb337, 0, none⟩ = some (.int .u8 a2_0) := (blk_cell BK337.out 0).trans rfl
          have hcz15_1 : wc.cell? ⟨gb337, 1, none⟩ = some (.int .u8 a2_1) := (blk_cell BK337.out 1).trans rfl
          have hcz15_2 : wc.cell? ⟨gb337, 2, none⟩ = some (.int .u8 a2_2) := (blk_cell BK337.out 2).trans rfl
          have hcz15_3 : wc.cell? ⟨gb337, 3, none⟩ = some (.int .u8 a2_3) := (blk_cell BK337.out 3).trans rfl
          have hcz15_4 : wc.cell? ⟨gb337, 4, none⟩ = some (.int .u8 a2_4) := (blk_cell BK337.out 4).trans rfl
          have hfz15_0 := blk_frozen BK337.out 0
          have hfz15_1 := blk_frozen BK337.out 1
          have hfz15_2 := blk_frozen BK337.out 2
          have hfz15_3 := blk_frozen BK337.out 3
          have hfz15_4 := blk_frozen BK337.out 4
          go_upto_region 6 with (first | ((with_reducible refine gate_callee (f := 10) rfl ?_); refine goesL_ (some 34) rfl rfl Tryd.func10 (by kernel_rfl) rfl #[.string a0, .agg #[.int .u8 a2_0, .int .u8 a2_1, .int .u8 a2_2, .int .u8 a2_3, .int .u8 a2_4]] rfl (by (try simp only [List.map_toArray, List.map_cons, List.map_nil]); first | done | rfl | (simp only [List.length_drop, List.length_take]; rfl)) ?_; (with_reducible refine (escape_Encode.calls a0 a2_0 a2_1 a2_2 a2_3 a2_4 t339 t340 _ A10.out).mono ?_); rintro e w16 ⟨rfl, hb⟩; refine ⟨_, rfl, ?_⟩; have n0_ := Aside0.mk (blk_below (g := gb337) (o := .cells #[.int .u8 a2_0, .int .u8 a2_1, .int .u8 a2_2, .int .u8 a2_3, .int .u8 a2_4] 23 (0, 0)) (by (with_reducible repeat (first | refine blk_drewN ?_ _ | refine blk_drew ?_ | refine blk_alloc ?_ _)); exact BK337.out) hb); have n1_ := Aside0.mk (below_step (by repeat (first | (with_reducible first | exact HB.out | apply below_alloc | apply pw_below_drewN | apply below_drew1 | refine below_set ?_ GE337.out) | exact HB.out)) hb); clear BK337; clear HB; have BK337 := n0_; have HB := n1_; clear n0_ n1_; (try clear hb); (try clear hb2); (try clear hk); (try clear hi); have hcz17_0 : w16.cell? ⟨gb337, 0, none⟩ = some (.int .u8 a2_0) := (blk_cell BK337.out 0).trans rfl; have hcz17_1 : w16.cell? ⟨gb337, 1, none⟩ = some (.int .u8 a2_1) := (blk_cell BK337.out 1).trans rfl; have hcz17_2 : w16.cell? ⟨gb337, 2, none⟩ = some (.int .u8 a2_2) := (blk_cell BK337.out 2).trans rfl; have hcz17_3 : w16.cell? ⟨gb337, 3, none⟩ = some (.int .u8 a2_3) := (blk_cell BK337.out 3).trans rfl; have hcz17_4 : w16.cell? ⟨gb337, 4, none⟩ = some (.int .u8 a2_4) := (blk_cell BK337.out 4).trans rfl; have hfz17_0 := blk_frozen BK337.out 0; have hfz17_1 := blk_frozen BK337.out 1; have hfz17_2 := blk_frozen BK337.out 2; have hfz17_3 := blk_frozen BK337.out 3; have hfz17_4 := blk_frozen BK337.out 4) | ((with_reducible refine gate_callee (f := 10) rfl ?_); refine goesL_ (some 40) rfl rfl Tryd.func10 (by kernel_rfl) rfl #[.string a1, .agg #[.int .u8 a2_0, .int .u8 a2_1, .int .u8 a2_2, .int .u8 a2_3, .int .u8 a2_4]] rfl (by (try simp only [List.map_toArray, List.map_cons, List.map_nil]); first | done | rfl | (simp only [List.length_drop, List.length_take]; rfl)) ?_; (with_reducible refine (escape_Encode.calls a1 a2_0 a2_1 a2_2 a2_3 a2_4 t341 t342 _ A11.out).mono ?_); rintro e w18 ⟨rfl, hb⟩; refine ⟨_, rfl, ?_⟩; have n0_ := Aside0.mk (blk_below (g := gb337) (o := .cells #[.int .u8 a2_0, .int .u8 a2_1, .int .u8 a2_2, .int .u8 a2_3, .int .u8 a2_4] 23 (0, 0)) (by (with_reducible repeat (first | refine blk_drewN ?_ _ | refine blk_drew ?_ | refine blk_alloc ?_ _)); exact BK337.out) hb); have n1_ := Aside0.mk (below_step (by repeat (first | (with_reducible first | exact HB.out | apply below_alloc | apply pw_below_drewN | apply below_drew1 | refine below_set ?_ GE337.out) | exact HB.out)) hb); clear BK337; clear HB; have BK337 := n0_; have HB := n1_; clear n0_ n1_; (try clear hb); (try clear hb2); (try clear hk); (try clear hi); have hcz19_0 : w18.cell? ⟨gb337, 0, none⟩ = some (.int .u8 a2_0) := (blk_cell BK337.out 0).trans rfl; have hcz19_1 : w18.cell? ⟨gb337, 1, none⟩ = some (.int .u8 a2_1) := (blk_cell BK337.out 1).trans rfl; have hcz19_2 : w18.cell? ⟨gb337, 2, none⟩ = some (.int .u8 a2_2) := (blk_cell BK337.out 2).trans rfl; have hcz19_3 : w18.cell? ⟨gb337, 3, none⟩ = some (.int .u8 a2_3) := (blk_cell BK337.out 3).trans rfl; have hcz19_4 : w18.cell? ⟨gb337, 4, none⟩ = some (.int .u8 a2_4) := (blk_cell BK337.out 4).trans rfl; have hfz19_0 := blk_frozen BK337.out 0; have hfz19_1 := blk_frozen BK337.out 1; have hfz19_2 := blk_frozen BK337.out 2; have hfz19_3 := blk_frozen BK337.out 3; have hfz19_4 := blk_frozen BK337.out 4) | ((with_reducible refine gate_callee (f := 10) rfl ?_); refine goesL_ (some 48) rfl rfl Tryd.func10 (by kernel_rfl) rfl #[.string (a0 ++ a1), .agg #[.int .u8 a2_0, .int .u8 a2_1, .int .u8 a2_2, .int .u8 a2_3, .int .u8 a2_4]] rfl (by (try simp only [List.map_toArray, List.map_cons, List.map_nil]); first | done | rfl | (simp only [List.length_drop, List.length_take]; rfl)) ?_; (with_reducible refine (escape_Encode.calls (a0 ++ a1) a2_0 a2_1 a2_2 a2_3 a2_4 t343 t344 _ A13.out).mono ?_); rintro e w20 ⟨rfl, hb⟩; refine ⟨_, rfl, ?_⟩; have n0_ := Aside0.mk (blk_below (g := gb337) (o := .cells #[.int .u8 a2_0, .int .u8 a2_1, .int .u8 a2_2, .int .u8 a2_3, .int .u8 a2_4] 23 (0, 0)) (by (with_reducible repeat (first | refine blk_drewN ?_ _ | refine blk_drew ?_ | refine blk_alloc ?_ _)); exact BK337.out) hb); have n1_ := Aside0.mk (below_step (by repeat (first | (with_reducible first | exact HB.out | apply below_alloc | apply pw_below_drewN | apply below_drew1 | refine below_set ?_ GE337.out) | exact HB.out)) hb); clear BK337; clear HB; have BK337 := n0_; have HB := n1_; clear n0_ n1_; (try clear hb); (try clear hb2); (try clear hk); (try clear hi)))
          (try simp only [Act.put, List.setIfInBounds_toArray, List.set_cons_zero, List.set_cons_succ])
          go_cut [69] (fun v69 wc => ∃ (kq : Nat) (x69_13 : Bool), v69 = .bool x69_13 ∧ Aside0 (lamplighterlaw07_EscapeJoins.j1 kq a0 a1 x69_13 a2_0 a2_1 a2_2 a2_3 a2_4 = some r) ∧ Aside0 (kq ≤ kj3) ∧ Aside0 (wc.heap[gb337]? = some (.cells #[.int .u8 a2_0, .int .u8 a2_1, .int .u8 a2_2, .int .u8 a2_3, .int .u8 a2_4] 23 (0, 0))) ∧ Aside0 (Below w.heap.size w wc))
          case first =>
            have H := HC14.out
            clear HC14
            replace H := Option.bind_eq_some_iff.mp H
            obtain ⟨t345, A210, H⟩ := H
            replace H : (if t345 = true then (if t340 = t342 then (if t340 = t344 then (if t339.size + t341.size ≤ 9223372036854775807 then (lamplighterlaw07_EscapeJoins.j1 kj3 a0 a1 (t343.toList != (t339 ++ t341).toList) a2_0 a2_1 a2_2 a2_3 a2_4) else (none)) else (lamplighterlaw07_EscapeJoins.j1 kj3 a0 a1 true a2_0 a2_1 a2_2 a2_3 a2_4)) else (lamplighterlaw07_EscapeJoins.j1 kj3 a0 a1 true a2_0 a2_1 a2_2 a2_3 a2_4)) else (lamplighterlaw07_EscapeJoins.j1 kj3 a0 a1 true a2_0 a2_1 a2_2 a2_3 a2_4)) = some r := H
            have A21 := Aside0.mk A210
            clear A210
            by_cases c22 : t345 = true
            · subst c22
              have H1 : (if t340 = t342 then (if t340 = t344 then (if t339.size + t341.size ≤ 9223372036854775807 then (lamplighterlaw07_EscapeJoins.j1 kj3 a0 a1 (t343.toList != (t339 ++ t341).toList) a2_0 a2_1 a2_2 a2_3 a2_4) else (none)) else (lamplighterlaw07_EscapeJoins.j1 kj3 a0 a1 true a2_0 a2_1 a2_2 a2_3 a2_4)) else (lamplighterlaw07_EscapeJoins.j1 kj3 a0 a1 true a2_0 a2_1 a2_2 a2_3 a2_4)) = some r := by rw [if_pos rfl] at H; exact H
              clear H
              have H := H1
              clear H1
              by_cases c23 : t340 = t342
              · rw [if_pos c23] at H
                have c23b0 : (t340 == t342) = true := beq_iff_eq.mpr c23
                have c23b1 : (t340 != t342) = false := bne_eq_false_iff_eq.mpr c23
                clear c23
                (first | rw [c23b0] | (simp only [i64_w, i32_w]; rw [c23b0]) | skip)
                by_cases c24 : t340 = t344
                · rw [if_pos c24] at H
                  have c24b0 : (t340 == t344) = true := beq_iff_eq.mpr c24
                  have c24b1 : (t340 != t344) = false := bne_eq_false_iff_eq.mpr c24
                  clear c24
                  by_cases c25 : t339.size + t341.size ≤ 9223372036854775807
                  · rw [if_pos c25] at H
                    have c25b0 := eq_true c25
                    have c25b1 : decide (t339.size + t341.size ≤ 9223372036854775807) = true := decide_eq_true c25
                    try have c25b2 : (9223372036854775807 < t339.size + t341.size) = False := eq_false (Nat.not_lt.2 c25)
                    try (have c25b4 := c25b2; simp only [ByteArray.size_append] at c25b4)
                    have H' := Aside0.mk H
                    clear H
                    go_wp2_with (first | ((with_reducible refine gate_callee (f := 9) rfl ?_); refine goesL_ (some 51) rfl rfl Tryd.func9 (by kernel_rfl) rfl #[] rfl (by (try simp only [List.map_toArray, List.map_cons, List.map_nil]); first | done | rfl | (simp only [List.length_drop, List.length_take]; rfl)) ?_; (with_reducible refine (lamplighterlaw07_alive.calls  true _ A21.out).mono ?_); rintro e w26 ⟨rfl, hb⟩; refine ⟨_, rfl, ?_⟩; have n0_ := Aside0.mk (blk_below (g := gb337) (o := .cells #[.int .u8 a2_0, .int .u8 a2_1, .int .u8 a2_2, .int .u8 a2_3, .int .u8 a2_4] 23 (0, 0)) (by (with_reducible repeat (first | refine blk_drewN ?_ _ | refine blk_drew ?_ | refine blk_alloc ?_ _)); exact BK337.out) hb); have n1_ := Aside0.mk (below_step (by repeat (first | (with_reducible first | exact HB.out | apply below_alloc | apply pw_below_drewN | apply below_drew1 | refine below_set ?_ GE337.out) | exact HB.out)) hb); clear BK337; clear HB; have BK337 := n0_; have HB := n1_; clear n0_ n1_; (try clear hb); (try clear hb2); (try clear hk); (try clear hi)))
                    go_meet
                    case rel => exact ⟨_, ((t343.toList != (t339 ++ t341).toList)), (by first | rfl | (simp; done) | (simp [*]; done)), H', ⟨by have := HJ3.out; first | omega | exact Nat.le_refl _⟩, ⟨by (with_reducible repeat (first | refine blk_drewN ?_ _ | refine blk_drew ?_ | refine blk_alloc ?_ _)); exact BK337.out⟩, ⟨by repeat (first | (with_reducible first | exact HB.out | apply below_alloc | apply pw_below_drewN | apply below_drew1 | refine below_set ?_ GE337.out) | exact HB.out)⟩⟩
                  · rw [if_neg c25] at H
                    exact absurd H (by simp)
                · rw [if_neg c24] at H
                  have c24b0 : (t340 == t344) = false := beq_eq_false_iff_ne.mpr c24
                  have c24b1 : (t340 != t344) = true := bne_iff_ne.mpr c24
                  have H' := Aside0.mk H
                  clear H
                  go_wp2_with (first | ((with_reducible refine gate_callee (f := 9) rfl ?_); refine goesL_ (some 51) rfl rfl Tryd.func9 (by kernel_rfl) rfl #[] rfl (by (try simp only [List.map_toArray, List.map_cons, List.map_nil]); first | done | rfl | (simp only [List.length_drop, List.length_take]; rfl)) ?_; (with_reducible refine (lamplighterlaw07_alive.calls  true _ A21.out).mono ?_); rintro e w27 ⟨rfl, hb⟩; refine ⟨_, rfl, ?_⟩; have n0_ := Aside0.mk (blk_below (g := gb337) (o := .cells #[.int .u8 a2_0, .int .u8 a2_1, .int .u8 a2_2, .int .u8 a2_3, .int .u8 a2_4] 23 (0, 0)) (by (with_reducible repeat (first | refine blk_drewN ?_ _ | refine blk_drew ?_ | refine blk_alloc ?_ _)); exact BK337.out) hb); have n1_ := Aside0.mk (below_step (by repeat (first | (with_reducible first | exact HB.out | apply below_alloc | apply pw_below_drewN | apply below_drew1 | refine below_set ?_ GE337.out) | exact HB.out)) hb); clear BK337; clear HB; have BK337 := n0_; have HB := n1_; clear n0_ n1_; (try clear hb); (try clear hb2); (try clear hk); (try clear hi)))
                  go_meet
                  case rel => exact ⟨_, (true), (by first | rfl | (simp; done) | (simp [*]; done)), H', ⟨by have := HJ3.out; first | omega | exact Nat.le_refl _⟩, ⟨by (with_reducible repeat (first | refine blk_drewN ?_ _ | refine blk_drew ?_ | refine blk_alloc ?_ _)); exact BK337.out⟩, ⟨by repeat (first | (with_reducible first | exact HB.out | apply below_alloc | apply pw_below_drewN | apply below_drew1 | refine below_set ?_ GE337.out) | exact HB.out)⟩⟩
              · rw [if_neg c23] at H
                have c23b0 : (t340 == t342) = false := beq_eq_false_iff_ne.mpr c23
                have c23b1 : (t340 != t342) = true := bne_iff_ne.mpr c23
                (first | rw [c23b0] | (simp only [i64_w, i32_w]; rw [c23b0]) | skip)
                have H' := Aside0.mk H
                clear H
                go_wp2_with (first | ((with_reducible refine gate_callee (f := 9) rfl ?_); refine goesL_ (some 51) rfl rfl Tryd.func9 (by kernel_rfl) rfl #[] rfl (by (try simp only [List.map_toArray, List.map_cons, List.map_nil]); first | done | rfl | (simp only [List.length_drop, List.length_take]; rfl)) ?_; (with_reducible refine (lamplighterlaw07_alive.calls  true _ A21.out).mono ?_); rintro e w28 ⟨rfl, hb⟩; refine ⟨_, rfl, ?_⟩; have n0_ := Aside0.mk (blk_below (g := gb337) (o := .cells #[.int .u8 a2_0, .int .u8 a2_1, .int .u8 a2_2, .int .u8 a2_3, .int .u8 a2_4] 23 (0, 0)) (by (with_reducible repeat (first | refine blk_drewN ?_ _ | refine blk_drew ?_ | refine blk_alloc ?_ _)); exact BK337.out) hb); have n1_ := Aside0.mk (below_step (by repeat (first | (with_reducible first | exact HB.out | apply below_alloc | apply pw_below_drewN | apply below_drew1 | refine below_set ?_ GE337.out) | exact HB.out)) hb); clear BK337; clear HB; have BK337 := n0_; have HB := n1_; clear n0_ n1_; (try clear hb); (try clear hb2); (try clear hk); (try clear hi)))
                go_meet
                case rel => exact ⟨_, (true), (by first | rfl | (simp; done) | (simp [*]; done)), H', ⟨by have := HJ3.out; first | omega | exact Nat.le_refl _⟩, ⟨by (with_reducible repeat (first | refine blk_drewN ?_ _ | refine blk_drew ?_ | refine blk_alloc ?_ _)); exact BK337.out⟩, ⟨by repeat (first | (with_reducible first | exact HB.out | apply below_alloc | apply pw_below_drewN | apply below_drew1 | refine below_set ?_ GE337.out) | exact HB.out)⟩⟩
            · replace c22 := Bool.eq_false_iff.mpr c22
              subst c22
              have H1 : (lamplighterlaw07_EscapeJoins.j1 kj3 a0 a1 true a2_0 a2_1 a2_2 a2_3 a2_4) = some r := by rw [if_neg (show ¬ (false = true) by decide)] at H; exact H
              clear H
              have H := H1
              clear H1
              have H' := Aside0.mk H
              clear H
              go_wp2_with (first | ((with_reducible refine gate_callee (f := 9) rfl ?_); refine goesL_ (some 51) rfl rfl Tryd.func9 (by kernel_rfl) rfl #[] rfl (by (try simp only [List.map_toArray, List.map_cons, List.map_nil]); first | done | rfl | (simp only [List.length_drop, List.length_take]; rfl)) ?_; (with_reducible refine (lamplighterlaw07_alive.calls  false _ A21.out).mono ?_); rintro e w29 ⟨rfl, hb⟩; refine ⟨_, rfl, ?_⟩; have n0_ := Aside0.mk (blk_below (g := gb337) (o := .cells #[.int .u8 a2_0, .int .u8 a2_1, .int .u8 a2_2, .int .u8 a2_3, .int .u8 a2_4] 23 (0, 0)) (by (with_reducible repeat (first | refine blk_drewN ?_ _ | refine blk_drew ?_ | refine blk_alloc ?_ _)); exact BK337.out) hb); have n1_ := Aside0.mk (below_step (by repeat (first | (with_reducible first | exact HB.out | apply below_alloc | apply pw_below_drewN | apply below_drew1 | refine below_set ?_ GE337.out) | exact HB.out)) hb); clear BK337; clear HB; have BK337 := n0_; have HB := n1_; clear n0_ n1_; (try clear hb); (try clear hb2); (try clear hk); (try clear hi)))
              go_meet
              case rel => exact ⟨_, (true), (by first | rfl | (simp; done) | (simp [*]; done)), H', ⟨by have := HJ3.out; first | omega | exact Nat.le_refl _⟩, ⟨by (with_reducible repeat (first | refine blk_drewN ?_ _ | refine blk_drew ?_ | refine blk_alloc ?_ _)); exact BK337.out⟩, ⟨by repeat (first | (with_reducible first | exact HB.out | apply below_alloc | apply pw_below_drewN | apply below_drew1 | refine below_set ?_ GE337.out) | exact HB.out)⟩⟩
          case rest =>
            clear HC14
            try clear c1
            try clear c2
            try clear p2
            try clear c6
            try clear c6b0
            try clear c6b1
            try clear c7
            try clear c9
            try clear c10
            try clear c12
            try clear c12b0
            try clear c12b1
            try clear c12b2
            try clear c22
            try clear c23
            try clear c23b0
            try clear c23b1
            try clear c24
            try clear c24b0
            try clear c24b1
            try clear c25
            try clear c25b0
            try clear c25b1
            try clear c25b2
            try clear hcz15_0
            try clear hcz15_1
            try clear hcz15_2
            try clear hcz15_3
            try clear hcz15_4
            try clear hcz17_0
            try clear hcz17_1
            try clear hcz17_2
            try clear hcz17_3
            try clear hcz17_4
            try clear hcz19_0
            try clear hcz19_1
            try clear hcz19_2
            try clear hcz19_3
            try clear hcz19_4
            try clear hfz15_0
            try clear hfz15_1
            try clear hfz15_2
            try clear hfz15_3
            try clear hfz15_4
            try clear hfz17_0
            try clear hfz17_1
            try clear hfz17_2
            try clear hfz17_3
            try clear hfz17_4
            try clear hfz19_0
            try clear hfz19_1
            try clear hfz19_2
            try clear hfz19_3
            try clear hfz19_4
            try clear p2
            obtain ⟨kq, x69_13, rfl, HA, HJ13, BK337, HB⟩ := hcut
            cases kq with
            | zero => exact absurd HA.out (by simp [lamplighterlaw07_EscapeJoins.j1])
            | succ kj13 =>
              have H := HA.out
              clear HA
              simp only [lamplighterlaw07_EscapeJoins.j1] at H
              by_cases c30 : x69_13 = true
              · subst c30
                have H1 : (some false) = some r := by rw [if_pos rfl] at H; exact H
                clear H
                have H := H1
                clear H1
                obtain rfl := Option.some.inj H
                cases hrt
              · replace c30 := Bool.eq_false_iff.mpr c30
                subst c30
                have H1 : ((escape_Decode.f a0 a2_0 a2_1 a2_2 a2_3 a2_4).bind fun bt346 => ((escape_Decode.f a1 a2_0 a2_1 a2_2 a2_3 a2_4).bind fun bt349 => (if bt346.2.2 = 0 then (if bt349.2.2 = 0 then (if a0.size + a1.size ≤ 9223372036854775807 then ((escape_Decode.f (a0 ++ a1) a2_0 a2_1 a2_2 a2_3 a2_4).bind fun bt352 => (if bt352.2.2 = 0 then (if bt346.1.size + bt349.1.size ≤ 9223372036854775807 then (if bt352.1.toList = (bt346.1 ++ bt349.1).toList then (some (bt352.2.1 == (wrap64 ((a0.size : Int) + (a1.size : Int))))) else (some false)) else (none)) else (some false))) else (none)) else (some true)) else (some true)))) = some r := by rw [if_neg (show ¬ (false = true) by decide)] at H; exact H
                clear H
                have H := H1
                clear H1
                replace H := Option.bind_eq_some_iff.mp H
                obtain ⟨⟨t346, t347, t348⟩, A310, H⟩ := H
                replace H : ((escape_Decode.f a1 a2_0 a2_1 a2_2 a2_3 a2_4).bind fun bt349 => (if t348 = 0 then (if bt349.2.2 = 0 then (if a0.size + a1.size ≤ 9223372036854775807 then ((escape_Decode.f (a0 ++ a1) a2_0 a2_1 a2_2 a2_3 a2_4).bind fun bt352 => (if bt352.2.2 = 0 then (if t346.size + bt349.1.size ≤ 9223372036854775807 then (if bt352.1.toList = (t346 ++ bt349.1).toList then (some (bt352.2.1 == (wrap64 ((a0.size : Int) + (a1.size : Int))))) else (some false)) else (none)) else (some false))) else (none)) else (some true)) else (some true))) = some r := H
                have A31 := Aside0.mk A310
                clear A310
                replace H := Option.bind_eq_some_iff.mp H
                obtain ⟨⟨t349, t350, t351⟩, A320, H⟩ := H
                replace H : (if t348 = 0 then (if t351 = 0 then (if a0.size + a1.size ≤ 9223372036854775807 then ((escape_Decode.f (a0 ++ a1) a2_0 a2_1 a2_2 a2_3 a2_4).bind fun bt352 => (if bt352.2.2 = 0 then (if t346.size + t349.size ≤ 9223372036854775807 then (if bt352.1.toList = (t346 ++ t349).toList then (some (bt352.2.1 == (wrap64 ((a0.size : Int) + (a1.size : Int))))) else (some false)) else (none)) else (some false))) else (none)) else (some true)) else (some true)) = some r := H
                have A32 := Aside0.mk A320
                clear A320
                by_cases c33 : t348 = 0
                · rw [if_pos c33] at H
                  have c33b0 : (t348 == 0) = true := beq_iff_eq.mpr c33
                  have c33b1 : (t348 != 0) = false := bne_eq_false_iff_eq.mpr c33
                  clear c33
                  by_cases c34 : t351 = 0
                  · rw [if_pos c34] at H
                    have c34b0 : (t351 == 0) = true := beq_iff_eq.mpr c34
                    have c34b1 : (t351 != 0) = false := bne_eq_false_iff_eq.mpr c34
                    clear c34
                    by_cases c35 : a0.size + a1.size ≤ 9223372036854775807
                    · rw [if_pos c35] at H
                      have c35b0 := eq_true c35
                      have c35b1 : decide (a0.size + a1.size ≤ 9223372036854775807) = true := decide_eq_true c35
                      try have c35b2 : (9223372036854775807 < a0.size + a1.size) = False := eq_false (Nat.not_lt.2 c35)
                      try (have c35b4 := c35b2; simp only [ByteArray.size_append] at c35b4)
                      replace H := Option.bind_eq_some_iff.mp H
                      obtain ⟨⟨t352, t353, t354⟩, A360, H⟩ := H
                      replace H : (if t354 = 0 then (if t346.size + t349.size ≤ 9223372036854775807 then (if t352.toList = (t346 ++ t349).toList then (some (t353 == (wrap64 ((a0.size : Int) + (a1.size : Int))))) else (some false)) else (none)) else (some false)) = some r := H
                      have A36 := Aside0.mk A360
                      clear A360
                      by_cases c37 : t354 = 0
                      · rw [if_pos c37] at H
                        have c37b0 : (t354 == 0) = true := beq_iff_eq.mpr c37
                        have c37b1 : (t354 != 0) = false := bne_eq_false_iff_eq.mpr c37
                        clear c37
                        by_cases c38 : t346.size + t349.size ≤ 9223372036854775807
                        · rw [if_pos c38] at H
                          have c38b0 := eq_true c38
                          have c38b1 : decide (t346.size + t349.size ≤ 9223372036854775807) = true := decide_eq_true c38
                          try have c38b2 : (9223372036854775807 < t346.size + t349.size) = False := eq_false (Nat.not_lt.2 c38)
                          try (have c38b4 := c38b2; simp only [ByteArray.size_append] at c38b4)
                          by_cases c39 : t352.toList = (t346 ++ t349).toList
                          · rw [if_pos c39] at H
                            have c39b0 : (t352.toList == (t346 ++ t349).toList) = true := beq_iff_eq.mpr c39
                            have c39b1 : (t352.toList != (t346 ++ t349).toList) = false := bne_eq_false_iff_eq.mpr c39
                            clear c39
                            obtain rfl := Option.some.inj H
                            clear hrt
                            have hcz40_0 : wc.cell? ⟨gb337, 0, none⟩ = some (.int .u8 a2_0) := (blk_cell BK337.out 0).trans rfl
                            have hcz40_1 : wc.cell? ⟨gb337, 1, none⟩ = some (.int .u8 a2_1) := (blk_cell BK337.out 1).trans rfl
                            have hcz40_2 : wc.cell? ⟨gb337, 2, none⟩ = some (.int .u8 a2_2) := (blk_cell BK337.out 2).trans rfl
                            have hcz40_3 : wc.cell? ⟨gb337, 3, none⟩ = some (.int .u8 a2_3) := (blk_cell BK337.out 3).trans rfl
                            have hcz40_4 : wc.cell? ⟨gb337, 4, none⟩ = some (.int .u8 a2_4) := (blk_cell BK337.out 4).trans rfl
                            have hfz40_0 := blk_frozen BK337.out 0
                            have hfz40_1 := blk_frozen BK337.out 1
                            have hfz40_2 := blk_frozen BK337.out 2
                            have hfz40_3 := blk_frozen BK337.out 3
                            have hfz40_4 := blk_frozen BK337.out 4
                            go_wp2_with (first | ((with_reducible refine gate_callee (f := 11) rfl ?_); refine goesL_ (some 73) rfl rfl Tryd.func11 (by kernel_rfl) rfl #[.string a0, .agg #[.int .u8 a2_0, .int .u8 a2_1, .int .u8 a2_2, .int .u8 a2_3, .int .u8 a2_4]] rfl (by (try simp only [List.map_toArray, List.map_cons, List.map_nil]); first | done | rfl | (simp only [List.length_drop, List.length_take]; rfl)) ?_; (with_reducible refine (escape_Decode.calls a0 a2_0 a2_1 a2_2 a2_3 a2_4 t346 t347 t348 _ A31.out).mono ?_); rintro e w41 ⟨rfl, hb⟩; refine ⟨_, rfl, ?_⟩; have n0_ := Aside0.mk (blk_below (g := gb337) (o := .cells #[.int .u8 a2_0, .int .u8 a2_1, .int .u8 a2_2, .int .u8 a2_3, .int .u8 a2_4] 23 (0, 0)) (by (with_reducible repeat (first | refine blk_drewN ?_ _ | refine blk_drew ?_ | refine blk_alloc ?_ _)); exact BK337.out) hb); have n1_ := Aside0.mk (below_step (by repeat (first | (with_reducible first | exact HB.out | apply below_alloc | apply pw_below_drewN | apply below_drew1 | refine below_set ?_ GE337.out) | exact HB.out)) hb); clear BK337; clear HB; have BK337 := n0_; have HB := n1_; clear n0_ n1_; (try clear hb); (try clear hb2); (try clear hk); (try clear hi); have hcz42_0 : w41.cell? ⟨gb337, 0, none⟩ = some (.int .u8 a2_0) := (blk_cell BK337.out 0).trans rfl; have hcz42_1 : w41.cell? ⟨gb337, 1, none⟩ = some (.int .u8 a2_1) := (blk_cell BK337.out 1).trans rfl; have hcz42_2 : w41.cell? ⟨gb337, 2, none⟩ = some (.int .u8 a2_2) := (blk_cell BK337.out 2).trans rfl; have hcz42_3 : w41.cell? ⟨gb337, 3, none⟩ = some (.int .u8 a2_3) := (blk_cell BK337.out 3).trans rfl; have hcz42_4 : w41.cell? ⟨gb337, 4, none⟩ = some (.int .u8 a2_4) := (blk_cell BK337.out 4).trans rfl; have hfz42_0 := blk_frozen BK337.out 0; have hfz42_1 := blk_frozen BK337.out 1; have hfz42_2 := blk_frozen BK337.out 2; have hfz42_3 := blk_frozen BK337.out 3; have hfz42_4 := blk_frozen BK337.out 4) | ((with_reducible refine gate_callee (f := 11) rfl ?_); refine goesL_ (some 80) rfl rfl Tryd.func11 (by kernel_rfl) rfl #[.string a1, .agg #[.int .u8 a2_0, .int .u8 a2_1, .int .u8 a2_2, .int .u8 a2_3, .int .u8 a2_4]] rfl (by (try simp only [List.map_toArray, List.map_cons, List.map_nil]); first | done | rfl | (simp only [List.length_drop, List.length_take]; rfl)) ?_; (with_reducible refine (escape_Decode.calls a1 a2_0 a2_1 a2_2 a2_3 a2_4 t349 t350 t351 _ A32.out).mono ?_); rintro e w43 ⟨rfl, hb⟩; refine ⟨_, rfl, ?_⟩; have n0_ := Aside0.mk (blk_below (g := gb337) (o := .cells #[.int .u8 a2_0, .int .u8 a2_1, .int .u8 a2_2, .int .u8 a2_3, .int .u8 a2_4] 23 (0, 0)) (by (with_reducible repeat (first | refine blk_drewN ?_ _ | refine blk_drew ?_ | refine blk_alloc ?_ _)); exact BK337.out) hb); have n1_ := Aside0.mk (below_step (by repeat (first | (with_reducible first | exact HB.out | apply below_alloc | apply pw_below_drewN | apply below_drew1 | refine below_set ?_ GE337.out) | exact HB.out)) hb); clear BK337; clear HB; have BK337 := n0_; have HB := n1_; clear n0_ n1_; (try clear hb); (try clear hb2); (try clear hk); (try clear hi); have hcz44_0 : w43.cell? ⟨gb337, 0, none⟩ = some (.int .u8 a2_0) := (blk_cell BK337.out 0).trans rfl; have hcz44_1 : w43.cell? ⟨gb337, 1, none⟩ = some (.int .u8 a2_1) := (blk_cell BK337.out 1).trans rfl; have hcz44_2 : w43.cell? ⟨gb337, 2, none⟩ = some (.int .u8 a2_2) := (blk_cell BK337.out 2).trans rfl; have hcz44_3 : w43.cell? ⟨gb337, 3, none⟩ = some (.int .u8 a2_3) := (blk_cell BK337.out 3).trans rfl; have hcz44_4 : w43.cell? ⟨gb337, 4, none⟩ = some (.int .u8 a2_4) := (blk_cell BK337.out 4).trans rfl; have hfz44_0 := blk_frozen BK337.out 0; have hfz44_1 := blk_frozen BK337.out 1; have hfz44_2 := blk_frozen BK337.out 2; have hfz44_3 := blk_frozen BK337.out 3; have hfz44_4 := blk_frozen BK337.out 4) | ((with_reducible refine gate_callee (f := 11) rfl ?_); refine goesL_ (some 95) rfl rfl Tryd.func11 (by kernel_rfl) rfl #[.string (a0 ++ a1), .agg #[.int .u8 a2_0, .int .u8 a2_1, .int .u8 a2_2, .int .u8 a2_3, .int .u8 a2_4]] rfl (by (try simp only [List.map_toArray, List.map_cons, List.map_nil]); first | done | rfl | (simp only [List.length_drop, List.length_take]; rfl)) ?_; (with_reducible refine (escape_Decode.calls (a0 ++ a1) a2_0 a2_1 a2_2 a2_3 a2_4 t352 t353 t354 _ A36.out).mono ?_); rintro e w45 ⟨rfl, hb⟩; refine ⟨_, rfl, ?_⟩; have n0_ := Aside0.mk (blk_below (g := gb337) (o := .cells #[.int .u8 a2_0, .int .u8 a2_1, .int .u8 a2_2, .int .u8 a2_3, .int .u8 a2_4] 23 (0, 0)) (by (with_reducible repeat (first | refine blk_drewN ?_ _ | refine blk_drew ?_ | refine blk_alloc ?_ _)); exact BK337.out) hb); have n1_ := Aside0.mk (below_step (by repeat (first | (with_reducible first | exact HB.out | apply below_alloc | apply pw_below_drewN | apply below_drew1 | refine below_set ?_ GE337.out) | exact HB.out)) hb); clear BK337; clear HB; have BK337 := n0_; have HB := n1_; clear n0_ n1_; (try clear hb); (try clear hb2); (try clear hk); (try clear hi)))
                            go_ret
                            exact ⟨by first | rfl | (rw [show wrap64 ((a0.size : Int) + (a1.size : Int)) = (a0.size : Int) + (a1.size : Int) by have z0 := dec_size_ A31.out; have z1 := dec_size_ A32.out; unfold wrap64; omega]; rfl) | (simp [errW_none, errW_some] <;> rfl) | (simp [*, errW_none, errW_some] <;> rfl), by repeat (first | (with_reducible first | exact HB.out | apply below_alloc | apply pw_below_drewN | apply below_drew1 | refine below_set ?_ GE337.out) | exact HB.out)⟩
                          · rw [if_neg c39] at H
                            have c39b0 : (t352.toList == (t346 ++ t349).toList) = false := beq_eq_false_iff_ne.mpr c39
                            have c39b1 : (t352.toList != (t346 ++ t349).toList) = true := bne_iff_ne.mpr c39
                            obtain rfl := Option.some.inj H
                            cases hrt
                        · rw [if_neg c38] at H
                          exact absurd H (by simp)
                      · rw [if_neg c37] at H
                        have c37b0 : (t354 == 0) = false := beq_eq_false_iff_ne.mpr c37
                        have c37b1 : (t354 != 0) = true := bne_iff_ne.mpr c37
                        obtain rfl := Option.some.inj H
                        cases hrt
                    · rw [if_neg c35] at H
                      exact absurd H (by simp)
                  · rw [if_neg c34] at H
                    have c34b0 : (t351 == 0) = false := beq_eq_false_iff_ne.mpr c34
                    have c34b1 : (t351 != 0) = true := bne_iff_ne.mpr c34
                    obtain rfl := Option.some.inj H
                    clear hrt
                    have hcz58_0 : wc.cell? ⟨gb337, 0, none⟩ = some (.int .u8 a2_0) := (blk_cell BK337.out 0).trans rfl
                    have hcz58_1 : wc.cell? ⟨gb337, 1, none⟩ = some (.int .u8 a2_1) := (blk_cell BK337.out 1).trans rfl
                    have hcz58_2 : wc.cell? ⟨gb337, 2, none⟩ = some (.int .u8 a2_2) := (blk_cell BK337.out 2).trans rfl
                    have hcz58_3 : wc.cell? ⟨gb337, 3, none⟩ = some (.int .u8 a2_3) := (blk_cell BK337.out 3).trans rfl
                    have hcz58_4 : wc.cell? ⟨gb337, 4, none⟩ = some (.int .u8 a2_4) := (blk_cell BK337.out 4).trans rfl
                    have hfz58_0 := blk_frozen BK337.out 0
                    have hfz58_1 := blk_frozen BK337.out 1
                    have hfz58_2 := blk_frozen BK337.out 2
                    have hfz58_3 := blk_frozen BK337.out 3
                    have hfz58_4 := blk_frozen BK337.out 4
                    go_wp2_with (first | ((with_reducible refine gate_callee (f := 11) rfl ?_); refine goesL_ (some 73) rfl rfl Tryd.func11 (by kernel_rfl) rfl #[.string a0, .agg #[.int .u8 a2_0, .int .u8 a2_1, .int .u8 a2_2, .int .u8 a2_3, .int .u8 a2_4]] rfl (by (try simp only [List.map_toArray, List.map_cons, List.map_nil]); first | done | rfl | (simp only [List.length_drop, List.length_take]; rfl)) ?_; (with_reducible refine (escape_Decode.calls a0 a2_0 a2_1 a2_2 a2_3 a2_4 t346 t347 t348 _ A31.out).mono ?_); rintro e w59 ⟨rfl, hb⟩; refine ⟨_, rfl, ?_⟩; have n0_ := Aside0.mk (blk_below (g := gb337) (o := .cells #[.int .u8 a2_0, .int .u8 a2_1, .int .u8 a2_2, .int .u8 a2_3, .int .u8 a2_4] 23 (0, 0)) (by (with_reducible repeat (first | refine blk_drewN ?_ _ | refine blk_drew ?_ | refine blk_alloc ?_ _)); exact BK337.out) hb); have n1_ := Aside0.mk (below_step (by repeat (first | (with_reducible first | exact HB.out | apply below_alloc | apply pw_below_drewN | apply below_drew1 | refine below_set ?_ GE337.out) | exact HB.out)) hb); clear BK337; clear HB; have BK337 := n0_; have HB := n1_; clear n0_ n1_; (try clear hb); (try clear hb2); (try clear hk); (try clear hi); have hcz60_0 : w59.cell? ⟨gb337, 0, none⟩ = some (.int .u8 a2_0) := (blk_cell BK337.out 0).trans rfl; have hcz60_1 : w59.cell? ⟨gb337, 1, none⟩ = some (.int .u8 a2_1) := (blk_cell BK337.out 1).trans rfl; have hcz60_2 : w59.cell? ⟨gb337, 2, none⟩ = some (.int .u8 a2_2) := (blk_cell BK337.out 2).trans rfl; have hcz60_3 : w59.cell? ⟨gb337, 3, none⟩ = some (.int .u8 a2_3) := (blk_cell BK337.out 3).trans rfl; have hcz60_4 : w59.cell? ⟨gb337, 4, none⟩ = some (.int .u8 a2_4) := (blk_cell BK337.out 4).trans rfl; have hfz60_0 := blk_frozen BK337.out 0; have hfz60_1 := blk_frozen BK337.out 1; have hfz60_2 := blk_frozen BK337.out 2; have hfz60_3 := blk_frozen BK337.out 3; have hfz60_4 := blk_frozen BK337.out 4) | ((with_reducible refine gate_callee (f := 11) rfl ?_); refine goesL_ (some 80) rfl rfl Tryd.func11 (by kernel_rfl) rfl #[.string a1, .agg #[.int .u8 a2_0, .int .u8 a2_1, .int .u8 a2_2, .int .u8 a2_3, .int .u8 a2_4]] rfl (by (try simp only [List.map_toArray, List.map_cons, List.map_nil]); first | done | rfl | (simp only [List.length_drop, List.length_take]; rfl)) ?_; (with_reducible refine (escape_Decode.calls a1 a2_0 a2_1 a2_2 a2_3 a2_4 t349 t350 t351 _ A32.out).mono ?_); rintro e w61 ⟨rfl, hb⟩; refine ⟨_, rfl, ?_⟩; have n0_ := Aside0.mk (blk_below (g := gb337) (o := .cells #[.int .u8 a2_0, .int .u8 a2_1, .int .u8 a2_2, .int .u8 a2_3, .int .u8 a2_4] 23 (0, 0)) (by (with_reducible repeat (first | refine blk_drewN ?_ _ | refine blk_drew ?_ | refine blk_alloc ?_ _)); exact BK337.out) hb); have n1_ := Aside0.mk (below_step (by repeat (first | (with_reducible first | exact HB.out | apply below_alloc | apply pw_below_drewN | apply below_drew1 | refine below_set ?_ GE337.out) | exact HB.out)) hb); clear BK337; clear HB; have BK337 := n0_; have HB := n1_; clear n0_ n1_; (try clear hb); (try clear hb2); (try clear hk); (try clear hi)))
                    go_ret
                    exact ⟨by first | rfl | (rw [show wrap64 ((a0.size : Int) + (a1.size : Int)) = (a0.size : Int) + (a1.size : Int) by have z0 := dec_size_ A31.out; have z1 := dec_size_ A32.out; unfold wrap64; omega]; rfl) | (simp [errW_none, errW_some] <;> rfl) | (simp [*, errW_none, errW_some] <;> rfl), by repeat (first | (with_reducible first | exact HB.out | apply below_alloc | apply pw_below_drewN | apply below_drew1 | refine below_set ?_ GE337.out) | exact HB.out)⟩
                · rw [if_neg c33] at H
                  have c33b0 : (t348 == 0) = false := beq_eq_false_iff_ne.mpr c33
                  have c33b1 : (t348 != 0) = true := bne_iff_ne.mpr c33
                  obtain rfl := Option.some.inj H
                  clear hrt
                  have hcz62_0 : wc.cell? ⟨gb337, 0, none⟩ = some (.int .u8 a2_0) := (blk_cell BK337.out 0).trans rfl
                  have hcz62_1 : wc.cell? ⟨gb337, 1, none⟩ = some (.int .u8 a2_1) := (blk_cell BK337.out 1).trans rfl
                  have hcz62_2 : wc.cell? ⟨gb337, 2, none⟩ = some (.int .u8 a2_2) := (blk_cell BK337.out 2).trans rfl
                  have hcz62_3 : wc.cell? ⟨gb337, 3, none⟩ = some (.int .u8 a2_3) := (blk_cell BK337.out 3).trans rfl
                  have hcz62_4 : wc.cell? ⟨gb337, 4, none⟩ = some (.int .u8 a2_4) := (blk_cell BK337.out 4).trans rfl
                  have hfz62_0 := blk_frozen BK337.out 0
                  have hfz62_1 := blk_frozen BK337.out 1
                  have hfz62_2 := blk_frozen BK337.out 2
                  have hfz62_3 := blk_frozen BK337.out 3
                  have hfz62_4 := blk_frozen BK337.out 4
                  go_wp2_with (first | ((with_reducible refine gate_callee (f := 11) rfl ?_); refine goesL_ (some 73) rfl rfl Tryd.func11 (by kernel_rfl) rfl #[.string a0, .agg #[.int .u8 a2_0, .int .u8 a2_1, .int .u8 a2_2, .int .u8 a2_3, .int .u8 a2_4]] rfl (by (try simp only [List.map_toArray, List.map_cons, List.map_nil]); first | done | rfl | (simp only [List.length_drop, List.length_take]; rfl)) ?_; (with_reducible refine (escape_Decode.calls a0 a2_0 a2_1 a2_2 a2_3 a2_4 t346 t347 t348 _ A31.out).mono ?_); rintro e w63 ⟨rfl, hb⟩; refine ⟨_, rfl, ?_⟩; have n0_ := Aside0.mk (blk_below (g := gb337) (o := .cells #[.int .u8 a2_0, .int .u8 a2_1, .int .u8 a2_2, .int .u8 a2_3, .int .u8 a2_4] 23 (0, 0)) (by (with_reducible repeat (first | refine blk_drewN ?_ _ | refine blk_drew ?_ | refine blk_alloc ?_ _)); exact BK337.out) hb); have n1_ := Aside0.mk (below_step (by repeat (first | (with_reducible first | exact HB.out | apply below_alloc | apply pw_below_drewN | apply below_drew1 | refine below_set ?_ GE337.out) | exact HB.out)) hb); clear BK337; clear HB; have BK337 := n0_; have HB := n1_; clear n0_ n1_; (try clear hb); (try clear hb2); (try clear hk); (try clear hi); have hcz64_0 : w63.cell? ⟨gb337, 0, none⟩ = some (.int .u8 a2_0) := (blk_cell BK337.out 0).trans rfl; have hcz64_1 : w63.cell? ⟨gb337, 1, none⟩ = some (.int .u8 a2_1) := (blk_cell BK337.out 1).trans rfl; have hcz64_2 : w63.cell? ⟨gb337, 2, none⟩ = some (.int .u8 a2_2) := (blk_cell BK337.out 2).trans rfl; have hcz64_3 : w63.cell? ⟨gb337, 3, none⟩ = some (.int .u8 a2_3) := (blk_cell BK337.out 3).trans rfl; have hcz64_4 : w63.cell? ⟨gb337, 4, none⟩ = some (.int .u8 a2_4) := (blk_cell BK337.out 4).trans rfl; have hfz64_0 := blk_frozen BK337.out 0; have hfz64_1 := blk_frozen BK337.out 1; have hfz64_2 := blk_frozen BK337.out 2; have hfz64_3 := blk_frozen BK337.out 3; have hfz64_4 := blk_frozen BK337.out 4) | ((with_reducible refine gate_callee (f := 11) rfl ?_); refine goesL_ (some 80) rfl rfl Tryd.func11 (by kernel_rfl) rfl #[.string a1, .agg #[.int .u8 a2_0, .int .u8 a2_1, .int .u8 a2_2, .int .u8 a2_3, .int .u8 a2_4]] rfl (by (try simp only [List.map_toArray, List.map_cons, List.map_nil]); first | done | rfl | (simp only [List.length_drop, List.length_take]; rfl)) ?_; (with_reducible refine (escape_Decode.calls a1 a2_0 a2_1 a2_2 a2_3 a2_4 t349 t350 t351 _ A32.out).mono ?_); rintro e w65 ⟨rfl, hb⟩; refine ⟨_, rfl, ?_⟩; have n0_ := Aside0.mk (blk_below (g := gb337) (o := .cells #[.int .u8 a2_0, .int .u8 a2_1, .int .u8 a2_2, .int .u8 a2_3, .int .u8 a2_4] 23 (0, 0)) (by (with_reducible repeat (first | refine blk_drewN ?_ _ | refine blk_drew ?_ | refine blk_alloc ?_ _)); exact BK337.out) hb); have n1_ := Aside0.mk (below_step (by repeat (first | (with_reducible first | exact HB.out | apply below_alloc | apply pw_below_drewN | apply below_drew1 | refine below_set ?_ GE337.out) | exact HB.out)) hb); clear BK337; clear HB; have BK337 := n0_; have HB := n1_; clear n0_ n1_; (try clear hb); (try clear hb2); (try clear hk); (try clear hi)))
                  go_ret
                  exact ⟨by first | rfl | (rw [show wrap64 ((a0.size : Int) + (a1.size : Int)) = (a0.size : Int) + (a1.size : Int) by have z0 := dec_size_ A31.out; have z1 := dec_size_ A32.out; unfold wrap64; omega]; rfl) | (simp [errW_none, errW_some] <;> rfl) | (simp [*, errW_none, errW_some] <;> rfl), by repeat (first | (with_reducible first | exact HB.out | apply below_alloc | apply pw_below_drewN | apply below_drew1 | refine below_set ?_ GE337.out) | exact HB.out)⟩
        · rw [if_neg c12] at H
          exact absurd H (by simp)

end Go.Proofs.YtokpkdmkdolmdaaDoor.PG
