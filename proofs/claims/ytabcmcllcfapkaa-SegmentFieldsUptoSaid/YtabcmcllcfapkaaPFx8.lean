-- Written by a program of this work (the kit's print, with contracts of this work's own taken in) out of the translation. Not trusted: Lean checks it.
import Derived.Test.YtabcmcllcfapkaaPFx0
import Derived.Test.YtabcmcllcfapkaaPFx1
import Derived.Test.YtabcmcllcfapkaaPFx2
import Derived.Test.YtabcmcllcfapkaaPFx5
import Derived.Test.YtabcmcllcfapkaaPFx6
import Derived.Test.YtabcmcllcfapkaaPFx7
namespace Go.Proofs.Ytabcmcllcfapkaa.PF
open Go.RowKit Go.Proofs.YtabcmcllcfapkaaW.PrintWords Go.Proofs.YtabcmcllcfapkaaW.PrintLast Go.Proofs.YtabcmcllcfapkaaW.PrintMore
attribute [local go_sem] max2_int min2_int max_two min_two max_three min_three max_four min_four   -- for this text's walks alone
set_option linter.unusedVariables false
set_option linter.unusedSimpArgs false

/-! ### lamplighterlaw08_SegmentFields: function 11 -/
mutual
def lamplighterlaw08_SegmentFields.j0 : Nat → ByteArray → List ByteArray → Bool → Int → Int → Int → Int → Int → Option (Bool)
  | 0, _, _, _, _, _, _, _, _ => none
  | k + 1, x0, x2, x21, x308000, x308001, x308002, x308003, x308004 => if x21 = true then ((lamplighterlaw08_alive.f).bind fun t309 => (some t309)) else ((lamplighterref08_Fields.f k x0 x308000 x308001 x308002 x308003 x308004).bind fun t310 => ((lamplighterlaw08_alive.f).bind fun t313 => (if t313 = true then ((segment_Count.f x0 x308000 x308001 x308002 x308003 x308004).bind fun t314 => (lamplighterlaw08_SegmentFields.j1 k x0 x2 t310 (t314 != (t310.length : Int)) x308000 x308001 x308002 x308003 x308004)) else (lamplighterlaw08_SegmentFields.j1 k x0 x2 t310 true x308000 x308001 x308002 x308003 x308004))))
def lamplighterlaw08_SegmentFields.j1 : Nat → ByteArray → List ByteArray → List ByteArray → Bool → Int → Int → Int → Int → Int → Option (Bool)
  | 0, _, _, _, _, _, _, _, _, _ => none
  | k + 1, x0, x2, x7, x35, x308000, x308001, x308002, x308003, x308004 => if x35 = true then (some false) else (lamplighterlaw08_SegmentFields.l0 k x0 x2 x7 (-1) x308000 x308001 x308002 x308003 x308004)
def lamplighterlaw08_SegmentFields.l0 : Nat → ByteArray → List ByteArray → List ByteArray → Int → Int → Int → Int → Int → Int → Option (Bool)
  | 0, _, _, _, _, _, _, _, _, _ => none
  | k + 1, x0, x2, x7, x8, x308000, x308001, x308002, x308003, x308004 => if x8 ≤ (wrap64 ((x7.length : Int) + 2)) then ((segment_Field.f x0 x8 x308000 x308001 x308002 x308003 x308004).bind fun bt318 => ((lamplighterref08_Field.f k x0 x8 x308000 x308001 x308002 x308003 x308004).bind fun bt320 => (if bt318.1.toList = bt320.1.toList then (if (bt318.2 != bt320.2) = true then (some false) else (lamplighterlaw08_SegmentFields.l0 k x0 x2 x7 (wrap64 (x8 + 1)) x308000 x308001 x308002 x308003 x308004)) else (some false)))) else ((segment_Name.f x0).bind fun t315 => ((segment_Make.f x308000 x308001 x308002 x308003 x308004 t315 x2).bind fun t316 => ((lamplighterref08_Make.f k x308000 x308001 x308002 x308003 x308004 t315 x2).bind fun t317 => (some (t316.toList == t317.toList)))))
end
def lamplighterlaw08_SegmentFields.f (k : Nat) (a0 : ByteArray) (a1_0 : Int) (a1_1 : Int) (a1_2 : Int) (a1_3 : Int) (a1_4 : Int) (l2 : List ByteArray) : Option (Bool) := if (a0.size : Int) > 1000 then (lamplighterlaw08_SegmentFields.j0 k a0 l2 true a1_0 a1_1 a1_2 a1_3 a1_4) else ((lamplighterlaw08_bytes.f k l2).bind fun t308 => (lamplighterlaw08_SegmentFields.j0 k a0 l2 (decide (t308 > 1000)) a1_0 a1_1 a1_2 a1_3 a1_4))
theorem lamplighterlaw08_SegmentFields.mono_l : ∀ k, (∀ y0 y1 y2 y3 y4 y5 y6 y7, LeO (lamplighterlaw08_SegmentFields.j0 k y0 y1 y2 y3 y4 y5 y6 y7) (lamplighterlaw08_SegmentFields.j0 (k + 1) y0 y1 y2 y3 y4 y5 y6 y7)) ∧ (∀ y0 y1 y2 y3 y4 y5 y6 y7 y8, LeO (lamplighterlaw08_SegmentFields.j1 k y0 y1 y2 y3 y4 y5 y6 y7 y8) (lamplighterlaw08_SegmentFields.j1 (k + 1) y0 y1 y2 y3 y4 y5 y6 y7 y8)) ∧ (∀ y0 y1 y2 y3 y4 y5 y6 y7 y8, LeO (lamplighterlaw08_SegmentFields.l0 k y0 y1 y2 y3 y4 y5 y6 y7 y8) (lamplighterlaw08_SegmentFields.l0 (k + 1) y0 y1 y2 y3 y4 y5 y6 y7 y8))
  | 0 => ⟨fun _ _ _ _ _ _ _ _ r h => by simp [lamplighterlaw08_SegmentFields.j0] at h, fun _ _ _ _ _ _ _ _ _ r h => by simp [lamplighterlaw08_SegmentFields.j1] at h, fun _ _ _ _ _ _ _ _ _ r h => by simp [lamplighterlaw08_SegmentFields.l0] at h⟩
  | k + 1 => by
    obtain ⟨ih0, ih1, ih2⟩ := lamplighterlaw08_SegmentFields.mono_l k
    refine ⟨?_, ?_, ?_⟩
    · intro y0 y1 y2 y3 y4 y5 y6 y7
      unfold lamplighterlaw08_SegmentFields.j0
      repeat' first
      | (with_reducible exact ih0 _ _ _ _ _ _ _ _)
      | (with_reducible exact ih1 _ _ _ _ _ _ _ _ _)
      | (with_reducible exact ih2 _ _ _ _ _ _ _ _ _)
      | (with_reducible exact lamplighterlaw08_bytes.mono _ _)
      | (with_reducible exact lamplighterref08_Field.mono _ _ _ _ _ _ _ _)
      | (with_reducible exact lamplighterref08_Fields.mono _ _ _ _ _ _ _)
      | (with_reducible exact lamplighterref08_Make.mono _ _ _ _ _ _ _ _)
      | (with_reducible exact LeO.refl _)
      | (with_reducible exact LeO.none _)
      | (with_reducible refine LeO.ite ?_ ?_)
      | (with_reducible refine LeO.bind ?_ (fun _ => ?_))
      | exact ih0 _ _ _ _ _ _ _ _
      | exact ih1 _ _ _ _ _ _ _ _ _
      | exact ih2 _ _ _ _ _ _ _ _ _
      | exact lamplighterlaw08_bytes.mono _ _
      | exact lamplighterref08_Field.mono _ _ _ _ _ _ _ _
      | exact lamplighterref08_Fields.mono _ _ _ _ _ _ _
      | exact lamplighterref08_Make.mono _ _ _ _ _ _ _ _
      | exact LeO.none _
      | refine LeO.ite ?_ ?_
      | refine LeO.bind ?_ (fun _ => ?_)
    · intro y0 y1 y2 y3 y4 y5 y6 y7 y8
      unfold lamplighterlaw08_SegmentFields.j1
      repeat' first
      | (with_reducible exact ih0 _ _ _ _ _ _ _ _)
      | (with_reducible exact ih1 _ _ _ _ _ _ _ _ _)
      | (with_reducible exact ih2 _ _ _ _ _ _ _ _ _)
      | (with_reducible exact lamplighterlaw08_bytes.mono _ _)
      | (with_reducible exact lamplighterref08_Field.mono _ _ _ _ _ _ _ _)
      | (with_reducible exact lamplighterref08_Fields.mono _ _ _ _ _ _ _)
      | (with_reducible exact lamplighterref08_Make.mono _ _ _ _ _ _ _ _)
      | (with_reducible exact LeO.refl _)
      | (with_reducible exact LeO.none _)
      | (with_reducible refine LeO.ite ?_ ?_)
      | (with_reducible refine LeO.bind ?_ (fun _ => ?_))
      | exact ih0 _ _ _ _ _ _ _ _
      | exact ih1 _ _ _ _ _ _ _ _ _
      | exact ih2 _ _ _ _ _ _ _ _ _
      | exact lamplighterlaw08_bytes.mono _ _
      | exact lamplighterref08_Field.mono _ _ _ _ _ _ _ _
      | exact lamplighterref08_Fields.mono _ _ _ _ _ _ _
      | exact lamplighterref08_Make.mono _ _ _ _ _ _ _ _
      | exact LeO.none _
      | refine LeO.ite ?_ ?_
      | refine LeO.bind ?_ (fun _ => ?_)
    · intro y0 y1 y2 y3 y4 y5 y6 y7 y8
      unfold lamplighterlaw08_SegmentFields.l0
      repeat' first
      | (with_reducible exact ih0 _ _ _ _ _ _ _ _)
      | (with_reducible exact ih1 _ _ _ _ _ _ _ _ _)
      | (with_reducible exact ih2 _ _ _ _ _ _ _ _ _)
      | (with_reducible exact lamplighterlaw08_bytes.mono _ _)
      | (with_reducible exact lamplighterref08_Field.mono _ _ _ _ _ _ _ _)
      | (with_reducible exact lamplighterref08_Fields.mono _ _ _ _ _ _ _)
      | (with_reducible exact lamplighterref08_Make.mono _ _ _ _ _ _ _ _)
      | (with_reducible exact LeO.refl _)
      | (with_reducible exact LeO.none _)
      | (with_reducible refine LeO.ite ?_ ?_)
      | (with_reducible refine LeO.bind ?_ (fun _ => ?_))
      | exact ih0 _ _ _ _ _ _ _ _
      | exact ih1 _ _ _ _ _ _ _ _ _
      | exact ih2 _ _ _ _ _ _ _ _ _
      | exact lamplighterlaw08_bytes.mono _ _
      | exact lamplighterref08_Field.mono _ _ _ _ _ _ _ _
      | exact lamplighterref08_Fields.mono _ _ _ _ _ _ _
      | exact lamplighterref08_Make.mono _ _ _ _ _ _ _ _
      | exact LeO.none _
      | refine LeO.ite ?_ ?_
      | refine LeO.bind ?_ (fun _ => ?_)
theorem lamplighterlaw08_SegmentFields.mono : ∀ a0 a1 a2 a3 a4 a5 a6 k, LeO (lamplighterlaw08_SegmentFields.f k a0 a1 a2 a3 a4 a5 a6) (lamplighterlaw08_SegmentFields.f (k + 1) a0 a1 a2 a3 a4 a5 a6) := by
  intro a0 a1 a2 a3 a4 a5 a6 k
  obtain ⟨ih0, ih1, ih2⟩ := lamplighterlaw08_SegmentFields.mono_l k
  unfold lamplighterlaw08_SegmentFields.f
  repeat' first
      | (with_reducible exact ih0 _ _ _ _ _ _ _ _)
      | (with_reducible exact ih1 _ _ _ _ _ _ _ _ _)
      | (with_reducible exact ih2 _ _ _ _ _ _ _ _ _)
      | (with_reducible exact lamplighterlaw08_bytes.mono _ _)
      | (with_reducible exact lamplighterref08_Field.mono _ _ _ _ _ _ _ _)
      | (with_reducible exact lamplighterref08_Fields.mono _ _ _ _ _ _ _)
      | (with_reducible exact lamplighterref08_Make.mono _ _ _ _ _ _ _ _)
      | (with_reducible exact LeO.refl _)
      | (with_reducible exact LeO.none _)
      | (with_reducible refine LeO.ite ?_ ?_)
      | (with_reducible refine LeO.bind ?_ (fun _ => ?_))
      | exact ih0 _ _ _ _ _ _ _ _
      | exact ih1 _ _ _ _ _ _ _ _ _
      | exact ih2 _ _ _ _ _ _ _ _ _
      | exact lamplighterlaw08_bytes.mono _ _
      | exact lamplighterref08_Field.mono _ _ _ _ _ _ _ _
      | exact lamplighterref08_Fields.mono _ _ _ _ _ _ _
      | exact lamplighterref08_Make.mono _ _ _ _ _ _ _ _
      | exact LeO.none _
      | refine LeO.ite ?_ ?_
      | refine LeO.bind ?_ (fun _ => ?_)
def lamplighterlaw08_SegmentFields.T14 : Bool × List (List Nat × List Nat) := (true, [([], []), ([], []), ([], []), ([0, 1, 2], [0, 1, 2]), ([], []), ([], []), ([], []), ([4, 5, 6, 3], [4, 5, 6]), ([3, 7], [3, 7]), ([8, 7, 0, 1, 2, 3, 4, 5, 6, 7, 8], [8])])
def lamplighterlaw08_SegmentFields.B14 : List Nat := [0, 0, 0, 7, 0, 0, 0, 127, 255, 511]
theorem lamplighterlaw08_SegmentFields.tab14 : rtab .any (opsOf Try.f11 14) = lamplighterlaw08_SegmentFields.T14 := by kernel_rfl
theorem lamplighterlaw08_SegmentFields.bits14 : waitsOk lamplighterlaw08_SegmentFields.T14.2 lamplighterlaw08_SegmentFields.B14 = true := by kernel_rfl
set_option maxHeartbeats 8000000 in
set_option maxRecDepth 100000 in
theorem lamplighterlaw08_SegmentFields.calls (k : Nat) (a0 : ByteArray) (a1_0 : Int) (a1_1 : Int) (a1_2 : Int) (a1_3 : Int) (a1_4 : Int) (A2 : Option Addr) (c2 : Nat) (l2 : List ByteArray) (r : Bool) (w : World) (hr2 : Kd.C Kd.string w A2 l2.length l2) (hc2 : l2.length ≤ c2) (h : lamplighterlaw08_SegmentFields.f k a0 a1_0 a1_1 a1_2 a1_3 a1_4 l2 = some r) :
    Calls Try.prog 11 #[.string a0, .agg #[.int .u8 a1_0, .int .u8 a1_1, .int .u8 a1_2, .int .u8 a1_3, .int .u8 a1_4], .slice A2 l2.length c2] w fun e w' => e = .returned (.bool r) ∧ Below w.heap.size w w' := by
  have hu23 := Try.underlying23
  have HR2 := Aside0.mk hr2
  have HC2 := Aside0.mk hc2
  clear hr2 hc2
  have HB := Aside0.mk (Below.refl w.heap.size w)
  have H : (if (a0.size : Int) > 1000 then (lamplighterlaw08_SegmentFields.j0 k a0 l2 true a1_0 a1_1 a1_2 a1_3 a1_4) else ((lamplighterlaw08_bytes.f k l2).bind fun t308 => (lamplighterlaw08_SegmentFields.j0 k a0 l2 (decide (t308 > 1000)) a1_0 a1_1 a1_2 a1_3 a1_4))) = some r := h
  clear h
  have HC4 := Aside0.mk H
  clear H
  go_enter Try.func11, Try.ntmps11
  go_upto_region 1 with (first | ((with_reducible refine gate_dst (N := 4) rfl ?_); (try (refine gate_guard (by rfl) ?_; dsimp only)); refine box_event ?hg (N := 4) ?hd (cs := #[.int .u8 a1_0, .int .u8 a1_1, .int .u8 a1_2, .int .u8 a1_3, .int .u8 a1_4]) (t := 23) ?hr ?_; (case hd => rfl); (case hg => rfl); (case hr => first | (go_simp; done) | (go_simp; rfl)); intro gb307 hg w5 hbox hb; have n0_ := Aside0.mk (below_step (by repeat (first | (with_reducible first | exact HB.out | apply below_alloc | apply pw_below_drewN | apply below_drew1) | exact HB.out)) hb); have n1_ := Aside0.mk (hbox); have n2_ := Aside0.mk ((by rw [hg]; exact (below_size (by repeat (first | (with_reducible first | exact HB.out | apply below_alloc | apply pw_below_drewN | apply below_drew1) | exact HB.out))) : w.heap.size ≤ gb307)); have n3_ := Aside0.mk ((by rw [hg]; exact (below_size (by repeat (first | (with_reducible first | exact HB.out | apply below_alloc | apply pw_below_drewN | apply below_drew1) | exact HB.out))) : w.heap.size ≤ gb307)); clear HB; have HB := n0_; have BK307 := n1_; have GW307 := n2_; have GE307 := n3_; clear n0_ n1_ n2_ n3_; clear hb hbox hg))
  (try simp only [Act.put, List.setIfInBounds_toArray, List.set_cons_zero, List.set_cons_succ])
  go_cut [21] (fun v21 wc => ∃ (kq : Nat) (x21_3 : Bool), v21 = .bool x21_3 ∧ Aside0 (lamplighterlaw08_SegmentFields.j0 kq a0 l2 x21_3 a1_0 a1_1 a1_2 a1_3 a1_4 = some r) ∧ Aside0 (kq ≤ k) ∧ Aside0 (wc.heap[gb307]? = some (.cells #[.int .u8 a1_0, .int .u8 a1_1, .int .u8 a1_2, .int .u8 a1_3, .int .u8 a1_4] 23 (0, 0))) ∧ Aside0 (Below w.heap.size w wc))
  case first =>
    have H := HC4.out
    clear HC4
    by_cases c6 : (a0.size : Int) > 1000
    · rw [if_pos c6] at H
      have c6b0 : decide (1000 < (a0.size : Int)) = true := decide_eq_true c6
      have c6b1 : decide (1000 < a0.size) = true := decide_eq_true (by omega)
      clear c6
      (first | rw [c6b0] | (simp only [i64_w, i32_w]; rw [c6b0]) | skip)
      have H' := Aside0.mk H
      clear H
      go_wp2
      go_meet
      case rel => exact ⟨_, (true), (by first | rfl | (simp; done) | (simp [*]; done)), H', ⟨by first | omega | exact Nat.le_refl _⟩, ⟨by (with_reducible repeat (first | refine blk_drewN ?_ _ | refine blk_drew ?_ | refine blk_alloc ?_ _)); exact BK307.out⟩, ⟨by repeat (first | (with_reducible first | exact HB.out | apply below_alloc | apply pw_below_drewN | apply below_drew1 | refine below_set ?_ GE307.out) | exact HB.out)⟩⟩
    · rw [if_neg c6] at H
      have c6b0 : decide (1000 < (a0.size : Int)) = false := decide_eq_false c6
      have c6b1 : decide (1000 < a0.size) = false := decide_eq_false (by omega)
      clear c6
      (first | rw [c6b0] | (simp only [i64_w, i32_w]; rw [c6b0]) | skip)
      replace H := Option.bind_eq_some_iff.mp H
      obtain ⟨t308, A70, H⟩ := H
      replace H : (lamplighterlaw08_SegmentFields.j0 k a0 l2 (decide (t308 > 1000)) a1_0 a1_1 a1_2 a1_3 a1_4) = some r := H
      have A7 := Aside0.mk A70
      clear A70
      have H' := Aside0.mk H
      clear H
      go_wp2_with (first | (go_at_call 30; (with_reducible refine (lamplighterlaw08_bytes.calls k _ _ l2 t308 _ ?side1 ?side2 A7.out).mono ?_); (case side1 => repeat (first | exact (Kd.C_below HR2.out HB.out) | (with_reducible refine Kd.C_alloc ?_ _) | (with_reducible refine Kd.C_drewN ?_ _) | (with_reducible refine Kd.C_drew ?_))); (case side2 => exact HC2.out); rintro e w' ⟨rfl, ⟨nd, rfl⟩⟩))
      go_meet
      case rel => exact ⟨_, (decide (t308 > 1000)), (by first | rfl | (simp; done) | (simp [*]; done)), H', ⟨by first | omega | exact Nat.le_refl _⟩, ⟨by (with_reducible repeat (first | refine blk_drewN ?_ _ | refine blk_drew ?_ | refine blk_alloc ?_ _)); exact BK307.out⟩, ⟨by repeat (first | (with_reducible first | exact HB.out | apply below_alloc | apply pw_below_drewN | apply below_drew1 | refine below_set ?_ GE307.out) | exact HB.out)⟩⟩
  case rest =>
    clear HC4
    try clear c1
    try clear c2
    try clear p2
    try clear c6
    try clear c6b0
    try clear c6b1
    obtain ⟨kq, x21_3, rfl, HA, HJ3, BK307, HB⟩ := hcut
    cases kq with
    | zero => exact absurd HA.out (by simp [lamplighterlaw08_SegmentFields.j0])
    | succ kj3 =>
      have H := HA.out
      clear HA
      simp only [lamplighterlaw08_SegmentFields.j0] at H
      by_cases c8 : x21_3 = true
      · subst c8
        have H1 : ((lamplighterlaw08_alive.f).bind fun t309 => (some t309)) = some r := by rw [if_pos rfl] at H; exact H
        clear H
        have H := H1
        clear H1
        replace H := Option.bind_eq_some_iff.mp H
        obtain ⟨t309, A90, H⟩ := H
        replace H : (some t309) = some r := H
        have A9 := Aside0.mk A90
        clear A90
        obtain rfl := Option.some.inj H
        go_wp2_with (first | ((with_reducible refine gate_callee (f := 22) rfl ?_); refine goesL_ (some 22) rfl rfl Try.func22 (by kernel_rfl) rfl #[] rfl (by (try simp only [List.map_toArray, List.map_cons, List.map_nil]); first | done | rfl | (simp only [List.length_drop, List.length_take]; rfl)) ?_; (with_reducible refine (lamplighterlaw08_alive.calls  t309 _ A9.out).mono ?_); rintro e w10 ⟨rfl, hb⟩; refine ⟨_, rfl, ?_⟩; have n0_ := Aside0.mk (blk_below (g := gb307) (o := .cells #[.int .u8 a1_0, .int .u8 a1_1, .int .u8 a1_2, .int .u8 a1_3, .int .u8 a1_4] 23 (0, 0)) (by (with_reducible repeat (first | refine blk_drewN ?_ _ | refine blk_drew ?_ | refine blk_alloc ?_ _)); exact BK307.out) hb); have n1_ := Aside0.mk (below_step (by repeat (first | (with_reducible first | exact HB.out | apply below_alloc | apply pw_below_drewN | apply below_drew1 | refine below_set ?_ GE307.out) | exact HB.out)) hb); clear BK307; clear HB; have BK307 := n0_; have HB := n1_; clear n0_ n1_; (try clear hb); (try clear hb2); (try clear hk); (try clear hi)))
        go_ret
        exact ⟨by first | rfl | (simp [errW_none, errW_some] <;> rfl) | (simp [*, errW_none, errW_some] <;> rfl), by repeat (first | (with_reducible first | exact HB.out | apply below_alloc | apply pw_below_drewN | apply below_drew1 | refine below_set ?_ GE307.out) | exact HB.out)⟩
      · replace c8 := Bool.eq_false_iff.mpr c8
        subst c8
        have H1 : ((lamplighterref08_Fields.f kj3 a0 a1_0 a1_1 a1_2 a1_3 a1_4).bind fun t310 => ((lamplighterlaw08_alive.f).bind fun t313 => (if t313 = true then ((segment_Count.f a0 a1_0 a1_1 a1_2 a1_3 a1_4).bind fun t314 => (lamplighterlaw08_SegmentFields.j1 kj3 a0 l2 t310 (t314 != (t310.length : Int)) a1_0 a1_1 a1_2 a1_3 a1_4)) else (lamplighterlaw08_SegmentFields.j1 kj3 a0 l2 t310 true a1_0 a1_1 a1_2 a1_3 a1_4)))) = some r := by rw [if_neg (show ¬ (false = true) by decide)] at H; exact H
        clear H
        have H := H1
        clear H1
        replace H := Option.bind_eq_some_iff.mp H
        obtain ⟨t310, A110, H⟩ := H
        replace H : ((lamplighterlaw08_alive.f).bind fun t313 => (if t313 = true then ((segment_Count.f a0 a1_0 a1_1 a1_2 a1_3 a1_4).bind fun t314 => (lamplighterlaw08_SegmentFields.j1 kj3 a0 l2 t310 (t314 != (t310.length : Int)) a1_0 a1_1 a1_2 a1_3 a1_4)) else (lamplighterlaw08_SegmentFields.j1 kj3 a0 l2 t310 true a1_0 a1_1 a1_2 a1_3 a1_4))) = some r := H
        have A11 := Aside0.mk A110
        clear A110
        have HC12 := Aside0.mk H
        clear H
        have hcz13_0 : wc.cell? ⟨gb307, 0, none⟩ = some (.int .u8 a1_0) := (blk_cell BK307.out 0).trans rfl
        have hcz13_1 : wc.cell? ⟨gb307, 1, none⟩ = some (.int .u8 a1_1) := (blk_cell BK307.out 1).trans rfl
        have hcz13_2 : wc.cell? ⟨gb307, 2, none⟩ = some (.int .u8 a1_2) := (blk_cell BK307.out 2).trans rfl
        have hcz13_3 : wc.cell? ⟨gb307, 3, none⟩ = some (.int .u8 a1_3) := (blk_cell BK307.out 3).trans rfl
        have hcz13_4 : wc.cell? ⟨gb307, 4, none⟩ = some (.int .u8 a1_4) := (blk_cell BK307.out 4).trans rfl
        have hfz13_0 := blk_frozen BK307.out 0
        have hfz13_1 := blk_frozen BK307.out 1
        have hfz13_2 := blk_frozen BK307.out 2
        have hfz13_3 := blk_frozen BK307.out 3
        have hfz13_4 := blk_frozen BK307.out 4
        go_upto_region 4 with (first | ((with_reducible refine gate_callee (f := 37) rfl ?_); refine goesL_ (some 25) rfl rfl Try.func37 (by kernel_rfl) rfl #[.string a0, .agg #[.int .u8 a1_0, .int .u8 a1_1, .int .u8 a1_2, .int .u8 a1_3, .int .u8 a1_4]] rfl (by (try simp only [List.map_toArray, List.map_cons, List.map_nil]); first | done | rfl | (simp only [List.length_drop, List.length_take]; rfl)) ?_; (with_reducible refine (lamplighterref08_Fields.calls kj3 a0 a1_0 a1_1 a1_2 a1_3 a1_4 t310 _ A11.out).mono ?_); rintro e w14 ⟨v311, rfl, ho0, hb⟩; refine ⟨_, rfl, ?_⟩; have n0_ := Aside0.mk (Kd.Q_lower ho0 (below_size (by repeat (first | (with_reducible first | exact HB.out | apply below_alloc | apply pw_below_drewN | apply below_drew1 | refine below_set ?_ GE307.out) | exact HB.out)))); have n1_ := Aside0.mk (blk_below (g := gb307) (o := .cells #[.int .u8 a1_0, .int .u8 a1_1, .int .u8 a1_2, .int .u8 a1_3, .int .u8 a1_4] 23 (0, 0)) (by (with_reducible repeat (first | refine blk_drewN ?_ _ | refine blk_drew ?_ | refine blk_alloc ?_ _)); exact BK307.out) hb); have n2_ := Aside0.mk (below_step (by repeat (first | (with_reducible first | exact HB.out | apply below_alloc | apply pw_below_drewN | apply below_drew1 | refine below_set ?_ GE307.out) | exact HB.out)) hb); clear BK307; clear HB; have HO312 := n0_; have BK307 := n1_; have HB := n2_; clear n0_ n1_ n2_; (try clear hb); (try clear hb2); (try clear hk); (try clear hi); (try clear ho0)))
        (try simp only [Act.put, List.setIfInBounds_toArray, List.set_cons_zero, List.set_cons_succ])
        go_cut [35] (fun v35 wc => ∃ (kq : Nat) (x35_11 : Bool), v35 = .bool x35_11 ∧ Aside0 (lamplighterlaw08_SegmentFields.j1 kq a0 l2 t310 x35_11 a1_0 a1_1 a1_2 a1_3 a1_4 = some r) ∧ Aside0 (kq ≤ kj3) ∧ Aside0 (Kd.Q Kd.string 9 wc w.heap.size (fun _ => True) v311 t310) ∧ Aside0 (wc.heap[gb307]? = some (.cells #[.int .u8 a1_0, .int .u8 a1_1, .int .u8 a1_2, .int .u8 a1_3, .int .u8 a1_4] 23 (0, 0))) ∧ Aside0 (Below w.heap.size w wc))
        case first =>
          have H := HC12.out
          clear HC12
          replace H := Option.bind_eq_some_iff.mp H
          obtain ⟨t313, A150, H⟩ := H
          replace H : (if t313 = true then ((segment_Count.f a0 a1_0 a1_1 a1_2 a1_3 a1_4).bind fun t314 => (lamplighterlaw08_SegmentFields.j1 kj3 a0 l2 t310 (t314 != (t310.length : Int)) a1_0 a1_1 a1_2 a1_3 a1_4)) else (lamplighterlaw08_SegmentFields.j1 kj3 a0 l2 t310 true a1_0 a1_1 a1_2 a1_3 a1_4)) = some r := H
          have A15 := Aside0.mk A150
          clear A150
          by_cases c16 : t313 = true
          · subst c16
            have H1 : ((segment_Count.f a0 a1_0 a1_1 a1_2 a1_3 a1_4).bind fun t314 => (lamplighterlaw08_SegmentFields.j1 kj3 a0 l2 t310 (t314 != (t310.length : Int)) a1_0 a1_1 a1_2 a1_3 a1_4)) = some r := by rw [if_pos rfl] at H; exact H
            clear H
            have H := H1
            clear H1
            replace H := Option.bind_eq_some_iff.mp H
            obtain ⟨t314, A170, H⟩ := H
            replace H : (lamplighterlaw08_SegmentFields.j1 kj3 a0 l2 t310 (t314 != (t310.length : Int)) a1_0 a1_1 a1_2 a1_3 a1_4) = some r := H
            have A17 := Aside0.mk A170
            clear A170
            have H' := Aside0.mk H
            clear H
            go_wp2_with (first | ((with_reducible refine gate_callee (f := 22) rfl ?_); refine goesL_ (some 26) rfl rfl Try.func22 (by kernel_rfl) rfl #[] rfl (by (try simp only [List.map_toArray, List.map_cons, List.map_nil]); first | done | rfl | (simp only [List.length_drop, List.length_take]; rfl)) ?_; (with_reducible refine (lamplighterlaw08_alive.calls  true _ A15.out).mono ?_); rintro e w18 ⟨rfl, hb⟩; refine ⟨_, rfl, ?_⟩; have n0_ := Aside0.mk (Kd.Q_below (by (with_reducible repeat (first | apply Kd.Q_alloc | apply Kd.Q_drewN | apply Kd.Q_drew)); exact HO312.out) hb); have n1_ := Aside0.mk (blk_below (g := gb307) (o := .cells #[.int .u8 a1_0, .int .u8 a1_1, .int .u8 a1_2, .int .u8 a1_3, .int .u8 a1_4] 23 (0, 0)) (by (with_reducible repeat (first | refine blk_drewN ?_ _ | refine blk_drew ?_ | refine blk_alloc ?_ _)); exact BK307.out) hb); have n2_ := Aside0.mk (below_step (by repeat (first | (with_reducible first | exact HB.out | apply below_alloc | apply pw_below_drewN | apply below_drew1 | refine below_set ?_ GE307.out) | exact HB.out)) hb); clear HO312; clear BK307; clear HB; have HO312 := n0_; have BK307 := n1_; have HB := n2_; clear n0_ n1_ n2_; (try clear hb); (try clear hb2); (try clear hk); (try clear hi); have hcz19_0 : w18.cell? ⟨gb307, 0, none⟩ = some (.int .u8 a1_0) := (blk_cell BK307.out 0).trans rfl; have hcz19_1 : w18.cell? ⟨gb307, 1, none⟩ = some (.int .u8 a1_1) := (blk_cell BK307.out 1).trans rfl; have hcz19_2 : w18.cell? ⟨gb307, 2, none⟩ = some (.int .u8 a1_2) := (blk_cell BK307.out 2).trans rfl; have hcz19_3 : w18.cell? ⟨gb307, 3, none⟩ = some (.int .u8 a1_3) := (blk_cell BK307.out 3).trans rfl; have hcz19_4 : w18.cell? ⟨gb307, 4, none⟩ = some (.int .u8 a1_4) := (blk_cell BK307.out 4).trans rfl; have hfz19_0 := blk_frozen BK307.out 0; have hfz19_1 := blk_frozen BK307.out 1; have hfz19_2 := blk_frozen BK307.out 2; have hfz19_3 := blk_frozen BK307.out 3; have hfz19_4 := blk_frozen BK307.out 4) | (go_at_call 21; (with_reducible refine (segment_Count.calls a0 a1_0 a1_1 a1_2 a1_3 a1_4 t314 _ A17.out).mono ?_); rintro e w20 ⟨rfl, hb⟩; have n0_ := Aside0.mk (Kd.Q_below (by (with_reducible repeat (first | apply Kd.Q_alloc | apply Kd.Q_drewN | apply Kd.Q_drew)); exact HO312.out) hb); have n1_ := Aside0.mk (blk_below (g := gb307) (o := .cells #[.int .u8 a1_0, .int .u8 a1_1, .int .u8 a1_2, .int .u8 a1_3, .int .u8 a1_4] 23 (0, 0)) (by (with_reducible repeat (first | refine blk_drewN ?_ _ | refine blk_drew ?_ | refine blk_alloc ?_ _)); exact BK307.out) hb); have n2_ := Aside0.mk (below_step (by repeat (first | (with_reducible first | exact HB.out | apply below_alloc | apply pw_below_drewN | apply below_drew1 | refine below_set ?_ GE307.out) | exact HB.out)) hb); clear HO312; clear BK307; clear HB; have HO312 := n0_; have BK307 := n1_; have HB := n2_; clear n0_ n1_ n2_; (try clear hb); (try clear hb2); (try clear hk); (try clear hi); obtain ⟨Ao21, co21, eo21, _⟩ := Kd.Q_slice HO312.out; subst eo21))
            go_meet
            case rel => exact ⟨_, ((t314 != (t310.length : Int))), (by first | rfl | (simp; done) | (simp [*]; done)), H', ⟨by have := HJ3.out; first | omega | exact Nat.le_refl _⟩, ⟨by (with_reducible repeat (first | apply Kd.Q_alloc | apply Kd.Q_drewN | apply Kd.Q_drew)); exact HO312.out⟩, ⟨by (with_reducible repeat (first | refine blk_drewN ?_ _ | refine blk_drew ?_ | refine blk_alloc ?_ _)); exact BK307.out⟩, ⟨by repeat (first | (with_reducible first | exact HB.out | apply below_alloc | apply pw_below_drewN | apply below_drew1 | refine below_set ?_ GE307.out) | exact HB.out)⟩⟩
          · replace c16 := Bool.eq_false_iff.mpr c16
            subst c16
            have H1 : (lamplighterlaw08_SegmentFields.j1 kj3 a0 l2 t310 true a1_0 a1_1 a1_2 a1_3 a1_4) = some r := by rw [if_neg (show ¬ (false = true) by decide)] at H; exact H
            clear H
            have H := H1
            clear H1
            have H' := Aside0.mk H
            clear H
            go_wp2_with (first | ((with_reducible refine gate_callee (f := 22) rfl ?_); refine goesL_ (some 26) rfl rfl Try.func22 (by kernel_rfl) rfl #[] rfl (by (try simp only [List.map_toArray, List.map_cons, List.map_nil]); first | done | rfl | (simp only [List.length_drop, List.length_take]; rfl)) ?_; (with_reducible refine (lamplighterlaw08_alive.calls  false _ A15.out).mono ?_); rintro e w22 ⟨rfl, hb⟩; refine ⟨_, rfl, ?_⟩; have n0_ := Aside0.mk (Kd.Q_below (by (with_reducible repeat (first | apply Kd.Q_alloc | apply Kd.Q_drewN | apply Kd.Q_drew)); exact HO312.out) hb); have n1_ := Aside0.mk (blk_below (g := gb307) (o := .cells #[.int .u8 a1_0, .int .u8 a1_1, .int .u8 a1_2, .int .u8 a1_3, .int .u8 a1_4] 23 (0, 0)) (by (with_reducible repeat (first | refine blk_drewN ?_ _ | refine blk_drew ?_ | refine blk_alloc ?_ _)); exact BK307.out) hb); have n2_ := Aside0.mk (below_step (by repeat (first | (with_reducible first | exact HB.out | apply below_alloc | apply pw_below_drewN | apply below_drew1 | refine below_set ?_ GE307.out) | exact HB.out)) hb); clear HO312; clear BK307; clear HB; have HO312 := n0_; have BK307 := n1_; have HB := n2_; clear n0_ n1_ n2_; (try clear hb); (try clear hb2); (try clear hk); (try clear hi)))
            go_meet
            case rel => exact ⟨_, (true), (by first | rfl | (simp; done) | (simp [*]; done)), H', ⟨by have := HJ3.out; first | omega | exact Nat.le_refl _⟩, ⟨by (with_reducible repeat (first | apply Kd.Q_alloc | apply Kd.Q_drewN | apply Kd.Q_drew)); exact HO312.out⟩, ⟨by (with_reducible repeat (first | refine blk_drewN ?_ _ | refine blk_drew ?_ | refine blk_alloc ?_ _)); exact BK307.out⟩, ⟨by repeat (first | (with_reducible first | exact HB.out | apply below_alloc | apply pw_below_drewN | apply below_drew1 | refine below_set ?_ GE307.out) | exact HB.out)⟩⟩
        case rest =>
          clear HC12
          try clear c1
          try clear c2
          try clear p2
          try clear c3
          try clear c6
          try clear c6b0
          try clear c6b1
          try clear c8
          try clear c11
          try clear c16
          try clear c22
          try clear hcz13_0
          try clear hcz13_1
          try clear hcz13_2
          try clear hcz13_3
          try clear hcz13_4
          try clear hcz19_0
          try clear hcz19_1
          try clear hcz19_2
          try clear hcz19_3
          try clear hcz19_4
          try clear hfz13_0
          try clear hfz13_1
          try clear hfz13_2
          try clear hfz13_3
          try clear hfz13_4
          try clear hfz19_0
          try clear hfz19_1
          try clear hfz19_2
          try clear hfz19_3
          try clear hfz19_4
          try clear p2
          obtain ⟨kq, x35_11, rfl, HA, HJ11, HO_7, BK307, HB⟩ := hcut
          cases kq with
          | zero => exact absurd HA.out (by simp [lamplighterlaw08_SegmentFields.j1])
          | succ kj11 =>
            have H := HA.out
            clear HA
            simp only [lamplighterlaw08_SegmentFields.j1] at H
            by_cases c23 : x35_11 = true
            · subst c23
              have H1 : (some false) = some r := by rw [if_pos rfl] at H; exact H
              clear H
              have H := H1
              clear H1
              obtain rfl := Option.some.inj H
              go_wp2
              go_ret
              exact ⟨by first | rfl | (simp [errW_none, errW_some] <;> rfl) | (simp [*, errW_none, errW_some] <;> rfl), by repeat (first | (with_reducible first | exact HB.out | apply below_alloc | apply pw_below_drewN | apply below_drew1 | refine below_set ?_ GE307.out) | exact HB.out)⟩
            · replace c23 := Bool.eq_false_iff.mpr c23
              subst c23
              have H1 : (lamplighterlaw08_SegmentFields.l0 kj11 a0 l2 t310 (-1) a1_0 a1_1 a1_2 a1_3 a1_4) = some r := by rw [if_neg (show ¬ (false = true) by decide)] at H; exact H
              clear H
              have H := H1
              clear H1
              have H' := Aside0.mk H
              clear H
              go_wp2
              go_loopg [8] kj11 (fun kq v8 w' => ∃ (x8_3 : Int), v8 = .int .i64 x8_3 ∧ Aside0 (lamplighterlaw08_SegmentFields.l0 kq a0 l2 t310 x8_3 a1_0 a1_1 a1_2 a1_3 a1_4 = some r) ∧ Aside0 (kq ≤ kj11) ∧ Aside0 (Kd.Q Kd.string 9 w' w.heap.size (fun _ => True) v311 t310) ∧ Aside0 (w'.heap[gb307]? = some (.cells #[.int .u8 a1_0, .int .u8 a1_1, .int .u8 a1_2, .int .u8 a1_3, .int .u8 a1_4] 23 (0, 0))) ∧ Aside0 (Below w.heap.size w w'))
              case atStart => exact ⟨((-1)), (by first | rfl | (simp; done) | (simp [*]; done)), H', ⟨Nat.le_refl _⟩, ⟨by (with_reducible repeat (first | apply Kd.Q_alloc | apply Kd.Q_drewN | apply Kd.Q_drew)); exact HO_7.out⟩, ⟨by (with_reducible repeat (first | refine blk_drewN ?_ _ | refine blk_drew ?_ | refine blk_alloc ?_ _)); exact BK307.out⟩, ⟨by repeat (first | (with_reducible first | exact HB.out | apply below_alloc | apply pw_below_drewN | apply below_drew1 | refine below_set ?_ GE307.out) | exact HB.out)⟩⟩
              case round =>
                clear H'
                try clear c1
                try clear c2
                try clear p2
                try clear c3
                try clear c6
                try clear c6b0
                try clear c6b1
                try clear c8
                try clear c11
                try clear c16
                try clear c22
                try clear c23
                try clear hcz13_0
                try clear hcz13_1
                try clear hcz13_2
                try clear hcz13_3
                try clear hcz13_4
                try clear hcz19_0
                try clear hcz19_1
                try clear hcz19_2
                try clear hcz19_3
                try clear hcz19_4
                try clear hfz13_0
                try clear hfz13_1
                try clear hfz13_2
                try clear hfz13_3
                try clear hfz13_4
                try clear hfz19_0
                try clear hfz19_1
                try clear hfz19_2
                try clear hfz19_3
                try clear hfz19_4
                try clear p2
                obtain ⟨x8_3, rfl, HA, HK3, HO_7, BK307, HB⟩ := hrel
                cases gk with
                | zero => exact absurd HA.out (by simp [lamplighterlaw08_SegmentFields.l0])
                | succ k3 =>
                  have H := HA.out
                  clear HA
                  simp only [lamplighterlaw08_SegmentFields.l0] at H
                  by_cases c24 : x8_3 ≤ (wrap64 ((t310.length : Int) + 2))
                  · rw [if_pos c24] at H
                    have c24b0 : decide (x8_3 ≤ (wrap64 ((t310.length : Int) + 2))) = true := decide_eq_true c24
                    clear c24
                    replace H := Option.bind_eq_some_iff.mp H
                    obtain ⟨⟨t318, t319⟩, A250, H⟩ := H
                    replace H : ((lamplighterref08_Field.f k3 a0 x8_3 a1_0 a1_1 a1_2 a1_3 a1_4).bind fun bt320 => (if t318.toList = bt320.1.toList then (if (t319 != bt320.2) = true then (some false) else (lamplighterlaw08_SegmentFields.l0 k3 a0 l2 t310 (wrap64 (x8_3 + 1)) a1_0 a1_1 a1_2 a1_3 a1_4)) else (some false))) = some r := H
                    have A25 := Aside0.mk A250
                    clear A250
                    replace H := Option.bind_eq_some_iff.mp H
                    obtain ⟨⟨t320, t321⟩, A260, H⟩ := H
                    replace H : (if t318.toList = t320.toList then (if (t319 != t321) = true then (some false) else (lamplighterlaw08_SegmentFields.l0 k3 a0 l2 t310 (wrap64 (x8_3 + 1)) a1_0 a1_1 a1_2 a1_3 a1_4)) else (some false)) = some r := H
                    have A26 := Aside0.mk A260
                    clear A260
                    by_cases c27 : t318.toList = t320.toList
                    · rw [if_pos c27] at H
                      have c27b0 : (t318.toList == t320.toList) = true := beq_iff_eq.mpr c27
                      have c27b1 : (t318.toList != t320.toList) = false := bne_eq_false_iff_eq.mpr c27
                      clear c27
                      by_cases c28 : (t319 != t321) = true
                      · rw [if_pos c28] at H
                        have c28b0 : (t319 != t321) = true := c28
                        (try (have c28b1 : decide (t319 = t321) = false := by simpa using c28))
                        (try (have c28b2 : (t319 == t321) = false := by simpa using c28))
                        (try (have c28b3 : ¬ (t319 = t321) := by simpa using c28))
                        clear c28
                        obtain rfl := Option.some.inj H
                        obtain ⟨Ao29, co29, eo29, _⟩ := Kd.Q_slice HO_7.out
                        subst eo29
                        have hcz30_0 : wr.cell? ⟨gb307, 0, none⟩ = some (.int .u8 a1_0) := (blk_cell BK307.out 0).trans rfl
                        have hcz30_1 : wr.cell? ⟨gb307, 1, none⟩ = some (.int .u8 a1_1) := (blk_cell BK307.out 1).trans rfl
                        have hcz30_2 : wr.cell? ⟨gb307, 2, none⟩ = some (.int .u8 a1_2) := (blk_cell BK307.out 2).trans rfl
                        have hcz30_3 : wr.cell? ⟨gb307, 3, none⟩ = some (.int .u8 a1_3) := (blk_cell BK307.out 3).trans rfl
                        have hcz30_4 : wr.cell? ⟨gb307, 4, none⟩ = some (.int .u8 a1_4) := (blk_cell BK307.out 4).trans rfl
                        have hfz30_0 := blk_frozen BK307.out 0
                        have hfz30_1 := blk_frozen BK307.out 1
                        have hfz30_2 := blk_frozen BK307.out 2
                        have hfz30_3 := blk_frozen BK307.out 3
                        have hfz30_4 := blk_frozen BK307.out 4
                        go_wp2_with (first | ((with_reducible refine gate_callee (f := 24) rfl ?_); refine goesL_ (some 47) rfl rfl Try.func24 (by kernel_rfl) rfl #[.string a0, .int .i64 x8_3, .agg #[.int .u8 a1_0, .int .u8 a1_1, .int .u8 a1_2, .int .u8 a1_3, .int .u8 a1_4]] rfl (by (try simp only [List.map_toArray, List.map_cons, List.map_nil]); first | done | rfl | (simp only [List.length_drop, List.length_take]; rfl)) ?_; (with_reducible refine (segment_Field.calls a0 x8_3 a1_0 a1_1 a1_2 a1_3 a1_4 t318 t319 _ A25.out).mono ?_); rintro e w31 ⟨rfl, hb⟩; refine ⟨_, rfl, ?_⟩; have n0_ := Aside0.mk (Kd.Q_below (by (with_reducible repeat (first | apply Kd.Q_alloc | apply Kd.Q_drewN | apply Kd.Q_drew)); exact HO_7.out) hb); have n1_ := Aside0.mk (blk_below (g := gb307) (o := .cells #[.int .u8 a1_0, .int .u8 a1_1, .int .u8 a1_2, .int .u8 a1_3, .int .u8 a1_4] 23 (0, 0)) (by (with_reducible repeat (first | refine blk_drewN ?_ _ | refine blk_drew ?_ | refine blk_alloc ?_ _)); exact BK307.out) hb); have n2_ := Aside0.mk (below_step (by repeat (first | (with_reducible first | exact HB.out | apply below_alloc | apply pw_below_drewN | apply below_drew1 | refine below_set ?_ GE307.out) | exact HB.out)) hb); clear HO_7; clear BK307; clear HB; have HO_7 := n0_; have BK307 := n1_; have HB := n2_; clear n0_ n1_ n2_; (try clear hb); (try clear hb2); (try clear hk); (try clear hi); have hcz32_0 : w31.cell? ⟨gb307, 0, none⟩ = some (.int .u8 a1_0) := (blk_cell BK307.out 0).trans rfl; have hcz32_1 : w31.cell? ⟨gb307, 1, none⟩ = some (.int .u8 a1_1) := (blk_cell BK307.out 1).trans rfl; have hcz32_2 : w31.cell? ⟨gb307, 2, none⟩ = some (.int .u8 a1_2) := (blk_cell BK307.out 2).trans rfl; have hcz32_3 : w31.cell? ⟨gb307, 3, none⟩ = some (.int .u8 a1_3) := (blk_cell BK307.out 3).trans rfl; have hcz32_4 : w31.cell? ⟨gb307, 4, none⟩ = some (.int .u8 a1_4) := (blk_cell BK307.out 4).trans rfl; have hfz32_0 := blk_frozen BK307.out 0; have hfz32_1 := blk_frozen BK307.out 1; have hfz32_2 := blk_frozen BK307.out 2; have hfz32_3 := blk_frozen BK307.out 3; have hfz32_4 := blk_frozen BK307.out 4) | ((with_reducible refine gate_callee (f := 38) rfl ?_); refine goesL_ (some 54) rfl rfl Try.func38 (by kernel_rfl) rfl #[.string a0, .int .i64 x8_3, .agg #[.int .u8 a1_0, .int .u8 a1_1, .int .u8 a1_2, .int .u8 a1_3, .int .u8 a1_4]] rfl (by (try simp only [List.map_toArray, List.map_cons, List.map_nil]); first | done | rfl | (simp only [List.length_drop, List.length_take]; rfl)) ?_; (with_reducible refine (lamplighterref08_Field.calls k3 a0 x8_3 a1_0 a1_1 a1_2 a1_3 a1_4 t320 t321 _ A26.out).mono ?_); rintro e w33 ⟨rfl, hb⟩; refine ⟨_, rfl, ?_⟩; have n0_ := Aside0.mk (Kd.Q_below (by (with_reducible repeat (first | apply Kd.Q_alloc | apply Kd.Q_drewN | apply Kd.Q_drew)); exact HO_7.out) hb); have n1_ := Aside0.mk (blk_below (g := gb307) (o := .cells #[.int .u8 a1_0, .int .u8 a1_1, .int .u8 a1_2, .int .u8 a1_3, .int .u8 a1_4] 23 (0, 0)) (by (with_reducible repeat (first | refine blk_drewN ?_ _ | refine blk_drew ?_ | refine blk_alloc ?_ _)); exact BK307.out) hb); have n2_ := Aside0.mk (below_step (by repeat (first | (with_reducible first | exact HB.out | apply below_alloc | apply pw_below_drewN | apply below_drew1 | refine below_set ?_ GE307.out) | exact HB.out)) hb); clear HO_7; clear BK307; clear HB; have HO_7 := n0_; have BK307 := n1_; have HB := n2_; clear n0_ n1_ n2_; (try clear hb); (try clear hb2); (try clear hk); (try clear hi)))
                        go_ret
                        exact ⟨by first | rfl | (simp [errW_none, errW_some] <;> rfl) | (simp [*, errW_none, errW_some] <;> rfl), by repeat (first | (with_reducible first | exact HB.out | apply below_alloc | apply pw_below_drewN | apply below_drew1 | refine below_set ?_ GE307.out) | exact HB.out)⟩
                      · rw [if_neg c28] at H
                        have c28b0 : (t319 != t321) = false := by simpa using c28
                        (try (have c28b1 : decide (t319 = t321) = true := by simpa using c28))
                        (try (have c28b2 : (t319 == t321) = true := by simpa using c28))
                        clear c28
                        have H' := Aside0.mk H
                        clear H
                        obtain ⟨Ao34, co34, eo34, _⟩ := Kd.Q_slice HO_7.out
                        subst eo34
                        have hcz35_0 : wr.cell? ⟨gb307, 0, none⟩ = some (.int .u8 a1_0) := (blk_cell BK307.out 0).trans rfl
                        have hcz35_1 : wr.cell? ⟨gb307, 1, none⟩ = some (.int .u8 a1_1) := (blk_cell BK307.out 1).trans rfl
                        have hcz35_2 : wr.cell? ⟨gb307, 2, none⟩ = some (.int .u8 a1_2) := (blk_cell BK307.out 2).trans rfl
                        have hcz35_3 : wr.cell? ⟨gb307, 3, none⟩ = some (.int .u8 a1_3) := (blk_cell BK307.out 3).trans rfl
                        have hcz35_4 : wr.cell? ⟨gb307, 4, none⟩ = some (.int .u8 a1_4) := (blk_cell BK307.out 4).trans rfl
                        have hfz35_0 := blk_frozen BK307.out 0
                        have hfz35_1 := blk_frozen BK307.out 1
                        have hfz35_2 := blk_frozen BK307.out 2
                        have hfz35_3 := blk_frozen BK307.out 3
                        have hfz35_4 := blk_frozen BK307.out 4
                        go_wp2_with (first | ((with_reducible refine gate_callee (f := 24) rfl ?_); refine goesL_ (some 47) rfl rfl Try.func24 (by kernel_rfl) rfl #[.string a0, .int .i64 x8_3, .agg #[.int .u8 a1_0, .int .u8 a1_1, .int .u8 a1_2, .int .u8 a1_3, .int .u8 a1_4]] rfl (by (try simp only [List.map_toArray, List.map_cons, List.map_nil]); first | done | rfl | (simp only [List.length_drop, List.length_take]; rfl)) ?_; (with_reducible refine (segment_Field.calls a0 x8_3 a1_0 a1_1 a1_2 a1_3 a1_4 t318 t319 _ A25.out).mono ?_); rintro e w36 ⟨rfl, hb⟩; refine ⟨_, rfl, ?_⟩; have n0_ := Aside0.mk (Kd.Q_below (by (with_reducible repeat (first | apply Kd.Q_alloc | apply Kd.Q_drewN | apply Kd.Q_drew)); exact HO_7.out) hb); have n1_ := Aside0.mk (blk_below (g := gb307) (o := .cells #[.int .u8 a1_0, .int .u8 a1_1, .int .u8 a1_2, .int .u8 a1_3, .int .u8 a1_4] 23 (0, 0)) (by (with_reducible repeat (first | refine blk_drewN ?_ _ | refine blk_drew ?_ | refine blk_alloc ?_ _)); exact BK307.out) hb); have n2_ := Aside0.mk (below_step (by repeat (first | (with_reducible first | exact HB.out | apply below_alloc | apply pw_below_drewN | apply below_drew1 | refine below_set ?_ GE307.out) | exact HB.out)) hb); clear HO_7; clear BK307; clear HB; have HO_7 := n0_; have BK307 := n1_; have HB := n2_; clear n0_ n1_ n2_; (try clear hb); (try clear hb2); (try clear hk); (try clear hi); have hcz37_0 : w36.cell? ⟨gb307, 0, none⟩ = some (.int .u8 a1_0) := (blk_cell BK307.out 0).trans rfl; have hcz37_1 : w36.cell? ⟨gb307, 1, none⟩ = some (.int .u8 a1_1) := (blk_cell BK307.out 1).trans rfl; have hcz37_2 : w36.cell? ⟨gb307, 2, none⟩ = some (.int .u8 a1_2) := (blk_cell BK307.out 2).trans rfl; have hcz37_3 : w36.cell? ⟨gb307, 3, none⟩ = some (.int .u8 a1_3) := (blk_cell BK307.out 3).trans rfl; have hcz37_4 : w36.cell? ⟨gb307, 4, none⟩ = some (.int .u8 a1_4) := (blk_cell BK307.out 4).trans rfl; have hfz37_0 := blk_frozen BK307.out 0; have hfz37_1 := blk_frozen BK307.out 1; have hfz37_2 := blk_frozen BK307.out 2; have hfz37_3 := blk_frozen BK307.out 3; have hfz37_4 := blk_frozen BK307.out 4) | ((with_reducible refine gate_callee (f := 38) rfl ?_); refine goesL_ (some 54) rfl rfl Try.func38 (by kernel_rfl) rfl #[.string a0, .int .i64 x8_3, .agg #[.int .u8 a1_0, .int .u8 a1_1, .int .u8 a1_2, .int .u8 a1_3, .int .u8 a1_4]] rfl (by (try simp only [List.map_toArray, List.map_cons, List.map_nil]); first | done | rfl | (simp only [List.length_drop, List.length_take]; rfl)) ?_; (with_reducible refine (lamplighterref08_Field.calls k3 a0 x8_3 a1_0 a1_1 a1_2 a1_3 a1_4 t320 t321 _ A26.out).mono ?_); rintro e w38 ⟨rfl, hb⟩; refine ⟨_, rfl, ?_⟩; have n0_ := Aside0.mk (Kd.Q_below (by (with_reducible repeat (first | apply Kd.Q_alloc | apply Kd.Q_drewN | apply Kd.Q_drew)); exact HO_7.out) hb); have n1_ := Aside0.mk (blk_below (g := gb307) (o := .cells #[.int .u8 a1_0, .int .u8 a1_1, .int .u8 a1_2, .int .u8 a1_3, .int .u8 a1_4] 23 (0, 0)) (by (with_reducible repeat (first | refine blk_drewN ?_ _ | refine blk_drew ?_ | refine blk_alloc ?_ _)); exact BK307.out) hb); have n2_ := Aside0.mk (below_step (by repeat (first | (with_reducible first | exact HB.out | apply below_alloc | apply pw_below_drewN | apply below_drew1 | refine below_set ?_ GE307.out) | exact HB.out)) hb); clear HO_7; clear BK307; clear HB; have HO_7 := n0_; have BK307 := n1_; have HB := n2_; clear n0_ n1_ n2_; (try clear hb); (try clear hb2); (try clear hk); (try clear hi)))
                        go_roundg k3
                        case measure => have := HJ3.out; have := HJ11.out; have := HK3.out; omega
                        case rel => exact ⟨(wrap64 (x8_3 + 1)), (by first | rfl | (simp; done) | (simp [*]; done)), H', ⟨by have := HJ3.out; have := HJ11.out; have := HK3.out; omega⟩, ⟨by (with_reducible repeat (first | apply Kd.Q_alloc | apply Kd.Q_drewN | apply Kd.Q_drew)); exact HO_7.out⟩, ⟨by (with_reducible repeat (first | refine blk_drewN ?_ _ | refine blk_drew ?_ | refine blk_alloc ?_ _)); exact BK307.out⟩, ⟨by repeat (first | (with_reducible first | exact HB.out | apply below_alloc | apply pw_below_drewN | apply below_drew1 | refine below_set ?_ GE307.out) | exact HB.out)⟩⟩
                    · rw [if_neg c27] at H
                      have c27b0 : (t318.toList == t320.toList) = false := beq_eq_false_iff_ne.mpr c27
                      have c27b1 : (t318.toList != t320.toList) = true := bne_iff_ne.mpr c27
                      obtain rfl := Option.some.inj H
                      obtain ⟨Ao39, co39, eo39, _⟩ := Kd.Q_slice HO_7.out
                      subst eo39
                      have hcz40_0 : wr.cell? ⟨gb307, 0, none⟩ = some (.int .u8 a1_0) := (blk_cell BK307.out 0).trans rfl
                      have hcz40_1 : wr.cell? ⟨gb307, 1, none⟩ = some (.int .u8 a1_1) := (blk_cell BK307.out 1).trans rfl
                      have hcz40_2 : wr.cell? ⟨gb307, 2, none⟩ = some (.int .u8 a1_2) := (blk_cell BK307.out 2).trans rfl
                      have hcz40_3 : wr.cell? ⟨gb307, 3, none⟩ = some (.int .u8 a1_3) := (blk_cell BK307.out 3).trans rfl
                      have hcz40_4 : wr.cell? ⟨gb307, 4, none⟩ = some (.int .u8 a1_4) := (blk_cell BK307.out 4).trans rfl
                      have hfz40_0 := blk_frozen BK307.out 0
                      have hfz40_1 := blk_frozen BK307.out 1
                      have hfz40_2 := blk_frozen BK307.out 2
                      have hfz40_3 := blk_frozen BK307.out 3
                      have hfz40_4 := blk_frozen BK307.out 4
                      go_wp2_with (first | ((with_reducible refine gate_callee (f := 24) rfl ?_); refine goesL_ (some 47) rfl rfl Try.func24 (by kernel_rfl) rfl #[.string a0, .int .i64 x8_3, .agg #[.int .u8 a1_0, .int .u8 a1_1, .int .u8 a1_2, .int .u8 a1_3, .int .u8 a1_4]] rfl (by (try simp only [List.map_toArray, List.map_cons, List.map_nil]); first | done | rfl | (simp only [List.length_drop, List.length_take]; rfl)) ?_; (with_reducible refine (segment_Field.calls a0 x8_3 a1_0 a1_1 a1_2 a1_3 a1_4 t318 t319 _ A25.out).mono ?_); rintro e w41 ⟨rfl, hb⟩; refine ⟨_, rfl, ?_⟩; have n0_ := Aside0.mk (Kd.Q_below (by (with_reducible repeat (first | apply Kd.Q_alloc | apply Kd.Q_drewN | apply Kd.Q_drew)); exact HO_7.out) hb); have n1_ := Aside0.mk (blk_below (g := gb307) (o := .cells #[.int .u8 a1_0, .int .u8 a1_1, .int .u8 a1_2, .int .u8 a1_3, .int .u8 a1_4] 23 (0, 0)) (by (with_reducible repeat (first | refine blk_drewN ?_ _ | refine blk_drew ?_ | refine blk_alloc ?_ _)); exact BK307.out) hb); have n2_ := Aside0.mk (below_step (by repeat (first | (with_reducible first | exact HB.out | apply below_alloc | apply pw_below_drewN | apply below_drew1 | refine below_set ?_ GE307.out) | exact HB.out)) hb); clear HO_7; clear BK307; clear HB; have HO_7 := n0_; have BK307 := n1_; have HB := n2_; clear n0_ n1_ n2_; (try clear hb); (try clear hb2); (try clear hk); (try clear hi); have hcz42_0 : w41.cell? ⟨gb307, 0, none⟩ = some (.int .u8 a1_0) := (blk_cell BK307.out 0).trans rfl; have hcz42_1 : w41.cell? ⟨gb307, 1, none⟩ = some (.int .u8 a1_1) := (blk_cell BK307.out 1).trans rfl; have hcz42_2 : w41.cell? ⟨gb307, 2, none⟩ = some (.int .u8 a1_2) := (blk_cell BK307.out 2).trans rfl; have hcz42_3 : w41.cell? ⟨gb307, 3, none⟩ = some (.int .u8 a1_3) := (blk_cell BK307.out 3).trans rfl; have hcz42_4 : w41.cell? ⟨gb307, 4, none⟩ = some (.int .u8 a1_4) := (blk_cell BK307.out 4).trans rfl; have hfz42_0 := blk_frozen BK307.out 0; have hfz42_1 := blk_frozen BK307.out 1; have hfz42_2 := blk_frozen BK307.out 2; have hfz42_3 := blk_frozen BK307.out 3; have hfz42_4 := blk_frozen BK307.out 4) | ((with_reducible refine gate_callee (f := 38) rfl ?_); refine goesL_ (some 54) rfl rfl Try.func38 (by kernel_rfl) rfl #[.string a0, .int .i64 x8_3, .agg #[.int .u8 a1_0, .int .u8 a1_1, .int .u8 a1_2, .int .u8 a1_3, .int .u8 a1_4]] rfl (by (try simp only [List.map_toArray, List.map_cons, List.map_nil]); first | done | rfl | (simp only [List.length_drop, List.length_take]; rfl)) ?_; (with_reducible refine (lamplighterref08_Field.calls k3 a0 x8_3 a1_0 a1_1 a1_2 a1_3 a1_4 t320 t321 _ A26.out).mono ?_); rintro e w43 ⟨rfl, hb⟩; refine ⟨_, rfl, ?_⟩; have n0_ := Aside0.mk (Kd.Q_below (by (with_reducible repeat (first | apply Kd.Q_alloc | apply Kd.Q_drewN | apply Kd.Q_drew)); exact HO_7.out) hb); have n1_ := Aside0.mk (blk_below (g := gb307) (o := .cells #[.int .u8 a1_0, .int .u8 a1_1, .int .u8 a1_2, .int .u8 a1_3, .int .u8 a1_4] 23 (0, 0)) (by (with_reducible repeat (first | refine blk_drewN ?_ _ | refine blk_drew ?_ | refine blk_alloc ?_ _)); exact BK307.out) hb); have n2_ := Aside0.mk (below_step (by repeat (first | (with_reducible first | exact HB.out | apply below_alloc | apply pw_below_drewN | apply below_drew1 | refine below_set ?_ GE307.out) | exact HB.out)) hb); clear HO_7; clear BK307; clear HB; have HO_7 := n0_; have BK307 := n1_; have HB := n2_; clear n0_ n1_ n2_; (try clear hb); (try clear hb2); (try clear hk); (try clear hi)))
                      go_ret
                      exact ⟨by first | rfl | (simp [errW_none, errW_some] <;> rfl) | (simp [*, errW_none, errW_some] <;> rfl), by repeat (first | (with_reducible first | exact HB.out | apply below_alloc | apply pw_below_drewN | apply below_drew1 | refine below_set ?_ GE307.out) | exact HB.out)⟩
                  · rw [if_neg c24] at H
                    have c24b0 : decide (x8_3 ≤ (wrap64 ((t310.length : Int) + 2))) = false := decide_eq_false c24
                    clear c24
                    replace H := Option.bind_eq_some_iff.mp H
                    obtain ⟨t315, A440, H⟩ := H
                    replace H : ((segment_Make.f a1_0 a1_1 a1_2 a1_3 a1_4 t315 l2).bind fun t316 => ((lamplighterref08_Make.f k3 a1_0 a1_1 a1_2 a1_3 a1_4 t315 l2).bind fun t317 => (some (t316.toList == t317.toList)))) = some r := H
                    have A44 := Aside0.mk A440
                    clear A440
                    replace H := Option.bind_eq_some_iff.mp H
                    obtain ⟨t316, A450, H⟩ := H
                    replace H : ((lamplighterref08_Make.f k3 a1_0 a1_1 a1_2 a1_3 a1_4 t315 l2).bind fun t317 => (some (t316.toList == t317.toList))) = some r := H
                    have A45 := Aside0.mk A450
                    clear A450
                    replace H := Option.bind_eq_some_iff.mp H
                    obtain ⟨t317, A460, H⟩ := H
                    replace H : (some (t316.toList == t317.toList)) = some r := H
                    have A46 := Aside0.mk A460
                    clear A460
                    obtain rfl := Option.some.inj H
                    obtain ⟨Ao47, co47, eo47, _⟩ := Kd.Q_slice HO_7.out
                    subst eo47
                    try go_wp2_with (first | ((with_reducible refine gate_callee (f := 23) rfl ?_); refine goesL_ (some 66) rfl rfl Try.func23 (by kernel_rfl) rfl #[.string a0] rfl (by (try simp only [List.map_toArray, List.map_cons, List.map_nil]); first | done | rfl | (simp only [List.length_drop, List.length_take]; rfl)) ?_; (with_reducible refine (segment_Name.calls a0 t315 _ A44.out).mono ?_); rintro e w48 ⟨rfl, hb⟩; refine ⟨_, rfl, ?_⟩; have n0_ := Aside0.mk (Kd.Q_below (by (with_reducible repeat (first | apply Kd.Q_alloc | apply Kd.Q_drewN | apply Kd.Q_drew)); exact HO_7.out) hb); have n1_ := Aside0.mk (blk_below (g := gb307) (o := .cells #[.int .u8 a1_0, .int .u8 a1_1, .int .u8 a1_2, .int .u8 a1_3, .int .u8 a1_4] 23 (0, 0)) (by (with_reducible repeat (first | refine blk_drewN ?_ _ | refine blk_drew ?_ | refine blk_alloc ?_ _)); exact BK307.out) hb); have n2_ := Aside0.mk (below_step (by repeat (first | (with_reducible first | exact HB.out | apply below_alloc | apply pw_below_drewN | apply below_drew1 | refine below_set ?_ GE307.out) | exact HB.out)) hb); clear HO_7; clear BK307; clear HB; have HO_7 := n0_; have BK307 := n1_; have HB := n2_; clear n0_ n1_ n2_; (try clear hb); (try clear hb2); (try clear hk); (try clear hi)))
                    have n0_ := Aside0.mk (Kd.Q_drew HO_7.out)
                    have n1_ := Aside0.mk (blk_drew BK307.out)
                    have n2_ := Aside0.mk (below_drew1 HB.out)
                    clear HO_7
                    clear BK307
                    clear HB
                    have HO_7 := n0_
                    have BK307 := n1_
                    have HB := n2_
                    clear n0_ n1_ n2_
                    refine start_ (n := 10) (S := fun w' => w'.cell? ⟨gb307, 0, none⟩ = some (.int .u8 a1_0) ∧ w'.cell? ⟨gb307, 1, none⟩ = some (.int .u8 a1_1) ∧ w'.cell? ⟨gb307, 2, none⟩ = some (.int .u8 a1_2) ∧ w'.cell? ⟨gb307, 3, none⟩ = some (.int .u8 a1_3) ∧ w'.cell? ⟨gb307, 4, none⟩ = some (.int .u8 a1_4)) (ds := []) #[false, false, false, false, false, false, false, false, false, false] (by kernel_rfl) rfl rfl ⟨(blk_cell BK307.out 0).trans rfl, (blk_cell BK307.out 1).trans rfl, (blk_cell BK307.out 2).trans rfl, (blk_cell BK307.out 3).trans rfl, (blk_cell BK307.out 4).trans rfl⟩ (fun hHeld => ?_); refine with_tabW lamplighterlaw08_SegmentFields.tab14 lamplighterlaw08_SegmentFields.bits14 (fun HT_ HW_ => ?_)
                    generalize w48.drew = w49 at HO_7 BK307 HB hHeld ⊢
                    refine pure_ (i := 1) (N := some 68) (v := ?_) (a' := ?_) #[false, true, false, false, false, false, false, false, false, false] rfl rfl (any_of HT_.out (by kernel_rfl)) (fun _ _ _ h => h) (Or.inl ⟨by rfl, ?_⟩) ?_ ?_
                    rotate_left
                    · intro w'
                      go_simp
                      with_reducible rfl
                    rotate_left
                    · simp only [Act.put, List.setIfInBounds_toArray, List.set_cons_zero, List.set_cons_succ, i64_w, i32_w]
                      rfl
                    refine pure_ (i := 2) (N := some 69) (v := ?_) (a' := ?_) #[false, true, true, false, false, false, false, false, false, false] rfl rfl (any_of HT_.out (by kernel_rfl)) (fun _ _ _ h => h) (Or.inl ⟨by rfl, ?_⟩) ?_ ?_
                    rotate_left
                    · intro w'
                      go_simp
                      with_reducible rfl
                    rotate_left
                    · simp only [Act.put, List.setIfInBounds_toArray, List.set_cons_zero, List.set_cons_succ, i64_w, i32_w]
                      rfl
                    refine pure_ (i := 5) (N := some 72) (v := ?_) (a' := ?_) #[false, true, true, false, false, true, false, false, false, false] rfl rfl (any_of HT_.out (by kernel_rfl)) (fun _ _ _ h => h) (Or.inl ⟨by rfl, ?_⟩) ?_ ?_
                    rotate_left
                    · intro w'
                      go_simp
                      with_reducible rfl
                    rotate_left
                    · simp only [Act.put, List.setIfInBounds_toArray, List.set_cons_zero, List.set_cons_succ, i64_w, i32_w]
                      rfl
                    refine pure_ (i := 6) (N := some 73) (v := ?_) (a' := ?_) #[false, true, true, false, false, true, true, false, false, false] rfl rfl (any_of HT_.out (by kernel_rfl)) (fun _ _ _ h => h) (Or.inl ⟨by rfl, ?_⟩) ?_ ?_
                    rotate_left
                    · intro w'
                      go_simp
                      with_reducible rfl
                    rotate_left
                    · simp only [Act.put, List.setIfInBounds_toArray, List.set_cons_zero, List.set_cons_succ, i64_w, i32_w]
                      rfl
                    refine take_ (i := 0) (N := some 67) (v := ?_) (a' := ?_) #[true, true, true, false, false, true, true, false, false, false] rfl rfl (take_ofW HT_.out HW_.out (by kernel_rfl)) (fun _ _ _ h => h) (Or.inl ⟨by rfl, ?_⟩) hHeld ?_ ?_
                    rotate_left
                    · rintro w' ⟨s0, s1, s2, s3, s4⟩
                      go_simp
                      with_reducible rfl
                    rotate_left
                    · simp only [Act.put, List.setIfInBounds_toArray, List.set_cons_zero, List.set_cons_succ, i64_w, i32_w]
                      rfl
                    refine take_ (i := 4) (N := some 71) (v := ?_) (a' := ?_) #[true, true, true, false, true, true, true, false, false, false] rfl rfl (take_ofW HT_.out HW_.out (by kernel_rfl)) (fun _ _ _ h => h) (Or.inl ⟨by rfl, ?_⟩) hHeld ?_ ?_
                    rotate_left
                    · rintro w' ⟨s0, s1, s2, s3, s4⟩
                      go_simp
                      with_reducible rfl
                    rotate_left
                    · simp only [Act.put, List.setIfInBounds_toArray, List.set_cons_zero, List.set_cons_succ, i64_w, i32_w]
                      rfl
                    refine one_ (i := 3) (N := some 70) #[true, true, true, true, true, true, true, false, false, false] rfl rfl (one_of HT_.out (by kernel_rfl)) (by decide) (fun K hK => ?_)
                    refine goes_ Try.func39 (by kernel_rfl) rfl #[.agg #[.int .u8 a1_0, .int .u8 a1_1, .int .u8 a1_2, .int .u8 a1_3, .int .u8 a1_4], .string t315, .slice A2 l2.length c2] (by rfl) rfl rfl (by (try simp only [List.map_toArray, List.map_cons, List.map_nil]); first | done | rfl | (simp only [List.length_drop, List.length_take]; rfl)) ?_
                    with_reducible refine (segment_Make.calls a1_0 a1_1 a1_2 a1_3 a1_4 t315 _ _ l2 t316 _ ?side1 ?side2 A45.out).mono ?_
                    (case side1 => repeat (first | exact (Kd.C_below HR2.out HB.out) | (with_reducible refine Kd.C_alloc ?_ _) | (with_reducible refine Kd.C_drewN ?_ _) | (with_reducible refine Kd.C_drew ?_)))
                    (case side2 => exact HC2.out)
                    rintro e w50 ⟨rfl, hb⟩
                    refine ⟨_, rfl, ?_⟩
                    have n0_ := Aside0.mk (Kd.Q_below (by (with_reducible repeat (first | apply Kd.Q_alloc | apply Kd.Q_drewN | apply Kd.Q_drew)); exact HO_7.out) hb)
                    have n1_ := Aside0.mk (blk_below (g := gb307) (o := .cells #[.int .u8 a1_0, .int .u8 a1_1, .int .u8 a1_2, .int .u8 a1_3, .int .u8 a1_4] 23 (0, 0)) (by (with_reducible repeat (first | refine blk_drewN ?_ _ | refine blk_drew ?_ | refine blk_alloc ?_ _)); exact BK307.out) hb)
                    have n2_ := Aside0.mk (below_step (by repeat (first | (with_reducible first | exact HB.out | apply below_alloc | apply pw_below_drewN | apply below_drew1 | refine below_set ?_ GE307.out) | exact HB.out)) hb)
                    clear HO_7
                    clear BK307
                    clear HB
                    have HO_7 := n0_
                    have BK307 := n1_
                    have HB := n2_
                    clear n0_ n1_ n2_
                    (try clear hb)
                    (try clear hb2)
                    (try clear hk)
                    (try clear hi)
                    refine hK.out _ _ ⟨(blk_cell BK307.out 0).trans rfl, (blk_cell BK307.out 1).trans rfl, (blk_cell BK307.out 2).trans rfl, (blk_cell BK307.out 3).trans rfl, (blk_cell BK307.out 4).trans rfl⟩ (fun hHeld => ?_)
                    clear hK K
                    refine norm_ (a' := ?_) ?_ ?_
                    rotate_left
                    · show Act.put _ (some 70) _ = _
                      simp only [Act.put, List.setIfInBounds_toArray, List.set_cons_zero, List.set_cons_succ, i64_w, i32_w]
                      rfl
                    refine one_ (i := 7) (N := some 74) #[true, true, true, true, true, true, true, true, false, false] rfl rfl (one_of HT_.out (by kernel_rfl)) (by decide) (fun K hK => ?_)
                    refine goes_ Try.func40 (by kernel_rfl) rfl #[.agg #[.int .u8 a1_0, .int .u8 a1_1, .int .u8 a1_2, .int .u8 a1_3, .int .u8 a1_4], .string t315, .slice A2 l2.length c2] (by rfl) rfl rfl (by (try simp only [List.map_toArray, List.map_cons, List.map_nil]); first | done | rfl | (simp only [List.length_drop, List.length_take]; rfl)) ?_
                    with_reducible refine (lamplighterref08_Make.calls k3 a1_0 a1_1 a1_2 a1_3 a1_4 t315 _ _ l2 t317 _ ?side1 ?side2 A46.out).mono ?_
                    (case side1 => repeat (first | exact (Kd.C_below HR2.out HB.out) | (with_reducible refine Kd.C_alloc ?_ _) | (with_reducible refine Kd.C_drewN ?_ _) | (with_reducible refine Kd.C_drew ?_)))
                    (case side2 => exact HC2.out)
                    rintro e w51 ⟨rfl, hb⟩
                    refine ⟨_, rfl, ?_⟩
                    have n0_ := Aside0.mk (Kd.Q_below (by (with_reducible repeat (first | apply Kd.Q_alloc | apply Kd.Q_drewN | apply Kd.Q_drew)); exact HO_7.out) hb)
                    have n1_ := Aside0.mk (blk_below (g := gb307) (o := .cells #[.int .u8 a1_0, .int .u8 a1_1, .int .u8 a1_2, .int .u8 a1_3, .int .u8 a1_4] 23 (0, 0)) (by (with_reducible repeat (first | refine blk_drewN ?_ _ | refine blk_drew ?_ | refine blk_alloc ?_ _)); exact BK307.out) hb)
                    have n2_ := Aside0.mk (below_step (by repeat (first | (with_reducible first | exact HB.out | apply below_alloc | apply pw_below_drewN | apply below_drew1 | refine below_set ?_ GE307.out) | exact HB.out)) hb)
                    clear HO_7
                    clear BK307
                    clear HB
                    have HO_7 := n0_
                    have BK307 := n1_
                    have HB := n2_
                    clear n0_ n1_ n2_
                    (try clear hb)
                    (try clear hb2)
                    (try clear hk)
                    (try clear hi)
                    refine hK.out _ _ ⟨(blk_cell BK307.out 0).trans rfl, (blk_cell BK307.out 1).trans rfl, (blk_cell BK307.out 2).trans rfl, (blk_cell BK307.out 3).trans rfl, (blk_cell BK307.out 4).trans rfl⟩ (fun hHeld => ?_)
                    clear hK K
                    refine norm_ (a' := ?_) ?_ ?_
                    rotate_left
                    · show Act.put _ (some 74) _ = _
                      simp only [Act.put, List.setIfInBounds_toArray, List.set_cons_zero, List.set_cons_succ, i64_w, i32_w]
                      rfl
                    refine pure_ (i := 8) (N := some 75) (v := ?_) (a' := ?_) #[true, true, true, true, true, true, true, true, true, false] rfl rfl (any_of HT_.out (by kernel_rfl)) (fun _ _ _ h => h) (Or.inl ⟨by rfl, ?_⟩) ?_ ?_
                    rotate_left
                    · intro w'
                      go_simp
                      with_reducible rfl
                    rotate_left
                    · simp only [Act.put, List.setIfInBounds_toArray, List.set_cons_zero, List.set_cons_succ, i64_w, i32_w]
                      rfl
                    refine pure_ (i := 9) (N := some 6) (v := ?_) (a' := ?_) #[true, true, true, true, true, true, true, true, true, true] rfl rfl (any_of HT_.out (by kernel_rfl)) (fun _ _ _ h => h) (Or.inl ⟨by rfl, ?_⟩) ?_ ?_
                    rotate_left
                    · intro w'
                      go_simp
                      with_reducible rfl
                    rotate_left
                    · simp only [Act.put, List.setIfInBounds_toArray, List.set_cons_zero, List.set_cons_succ, i64_w, i32_w]
                      rfl
                    refine done_ (done_of HT_.out (by kernel_rfl)) ?_
                    try go_wp2
                    go_ret
                    exact ⟨by first | rfl | (simp [errW_none, errW_some] <;> rfl) | (simp [*, errW_none, errW_some] <;> rfl), by repeat (first | (with_reducible first | exact HB.out | apply below_alloc | apply pw_below_drewN | apply below_drew1 | refine below_set ?_ GE307.out) | exact HB.out)⟩

-- NOT PRINTED: function 12 (lamplighterlaw08_SegmentMakes)

end Go.Proofs.Ytabcmcllcfapkaa.PF
