-- Written by a program of this work (the kit's print, with contracts of this work's own taken in) out of the translation. Not trusted: Lean checks it.
import Derived.Test.YtlildjmkeccjjaaPDx0
import Derived.Test.YtlildjmkeccjjaaPDx1
import Derived.Test.YtlildjmkeccjjaaPDx2
import Derived.Test.YtlildjmkeccjjaaPDx3
namespace Go.Proofs.Ytlildjmkeccjjaa.PD
open Go.RowKit Go.Proofs.YtlildjmkeccjjaaW.PrintWords Go.Proofs.YtlildjmkeccjjaaW.PrintLast Go.Proofs.YtlildjmkeccjjaaW.PrintMore
attribute [local go_sem] max2_int min2_int max_two min_two max_three min_three max_four min_four   -- for this text's walks alone
set_option linter.unusedVariables false
set_option linter.unusedSimpArgs false

/-! ### lamplighterlaw08_SegmentParts: function 7 -/
mutual
def lamplighterlaw08_SegmentParts.j0 : Nat → ByteArray → Int → Bool → Int → Int → Int → Int → Int → Option (Bool)
  | 0, _, _, _, _, _, _, _, _ => none
  | k + 1, x0, x5, x27, x208000, x208001, x208002, x208003, x208004 => if x27 = true then (some false) else (lamplighterlaw08_SegmentParts.l0 k x0 x5 (-1) x208000 x208001 x208002 x208003 x208004)
def lamplighterlaw08_SegmentParts.l0 : Nat → ByteArray → Int → Int → Int → Int → Int → Int → Int → Option (Bool)
  | 0, _, _, _, _, _, _, _, _ => none
  | k + 1, x0, x5, x6, x208000, x208001, x208002, x208003, x208004 => if x6 ≤ (wrap64 (x5 + 1)) then ((lamplighterref08_Parts.f k x0 x6 x208000 x208001 x208002 x208003 x208004).bind fun t214 => ((segment_Parts.f x0 x6 x208000 x208001 x208002 x208003 x208004).bind fun t217 => (if t217 = (t214.length : Int) then (lamplighterlaw08_SegmentParts.l1 k x0 x5 x6 t214 (-1) x208000 x208001 x208002 x208003 x208004) else (some false)))) else (some true)
def lamplighterlaw08_SegmentParts.l1 : Nat → ByteArray → Int → Int → List ByteArray → Int → Int → Int → Int → Int → Int → Option (Bool)
  | 0, _, _, _, _, _, _, _, _, _, _ => none
  | k + 1, x0, x5, x6, x7, x8, x208000, x208001, x208002, x208003, x208004 => if x8 ≤ (wrap64 ((x7.length : Int) + 1)) then ((segment_Part.f x0 x6 x8 x208000 x208001 x208002 x208003 x208004).bind fun bt218 => (if x8 < 1 then (lamplighterlaw08_SegmentParts.j3 k x0 x5 x6 x7 x8 bt218.1 bt218.2 true x208000 x208001 x208002 x208003 x208004) else (lamplighterlaw08_SegmentParts.j3 k x0 x5 x6 x7 x8 bt218.1 bt218.2 (decide (x8 > (x7.length : Int))) x208000 x208001 x208002 x208003 x208004))) else (lamplighterlaw08_SegmentParts.l0 k x0 x5 (wrap64 (x6 + 1)) x208000 x208001 x208002 x208003 x208004)
def lamplighterlaw08_SegmentParts.j3 : Nat → ByteArray → Int → Int → List ByteArray → Int → ByteArray → Bool → Bool → Int → Int → Int → Int → Int → Option (Bool)
  | 0, _, _, _, _, _, _, _, _, _, _, _, _, _ => none
  | k + 1, x0, x5, x6, x7, x8, x9, x10, x67, x208000, x208001, x208002, x208003, x208004 => if x67 = true then (if x10 = true then (some false) else (if x9.toList = ([] : List UInt8) then (lamplighterlaw08_SegmentParts.l1 k x0 x5 x6 x7 (wrap64 (x8 + 1)) x208000 x208001 x208002 x208003 x208004) else (some false))) else (if x10 = true then (if 0 ≤ (wrap64 (x8 - 1)) then (if (wrap64 (x8 - 1)) < (x7.length : Int) then (if x9.toList = (rdOf ByteArray.empty x7 (wrap64 (x8 - 1))).toList then (lamplighterlaw08_SegmentParts.l1 k x0 x5 x6 x7 (wrap64 (x8 + 1)) x208000 x208001 x208002 x208003 x208004) else (some false)) else (none)) else (none)) else (some false))
end
def lamplighterlaw08_SegmentParts.f (k : Nat) (a0 : ByteArray) (a1_0 : Int) (a1_1 : Int) (a1_2 : Int) (a1_3 : Int) (a1_4 : Int) : Option (Bool) := if (a0.size : Int) > 400 then ((lamplighterlaw08_alive.f).bind fun t208 => (some t208)) else ((lamplighterref08_Agains.f k a0 a1_0 a1_1 a1_2 a1_3 a1_4).bind fun t209 => ((lamplighterlaw08_alive.f).bind fun t212 => (if t212 = true then ((segment_Agains.f a0 a1_0 a1_1 a1_2 a1_3 a1_4).bind fun t213 => (lamplighterlaw08_SegmentParts.j0 k a0 (t209.length : Int) (t213 != (t209.length : Int)) a1_0 a1_1 a1_2 a1_3 a1_4)) else (lamplighterlaw08_SegmentParts.j0 k a0 (t209.length : Int) true a1_0 a1_1 a1_2 a1_3 a1_4))))
theorem lamplighterlaw08_SegmentParts.mono_l : ∀ k, (∀ y0 y1 y2 y3 y4 y5 y6 y7, LeO (lamplighterlaw08_SegmentParts.j0 k y0 y1 y2 y3 y4 y5 y6 y7) (lamplighterlaw08_SegmentParts.j0 (k + 1) y0 y1 y2 y3 y4 y5 y6 y7)) ∧ (∀ y0 y1 y2 y3 y4 y5 y6 y7, LeO (lamplighterlaw08_SegmentParts.l0 k y0 y1 y2 y3 y4 y5 y6 y7) (lamplighterlaw08_SegmentParts.l0 (k + 1) y0 y1 y2 y3 y4 y5 y6 y7)) ∧ (∀ y0 y1 y2 y3 y4 y5 y6 y7 y8 y9, LeO (lamplighterlaw08_SegmentParts.l1 k y0 y1 y2 y3 y4 y5 y6 y7 y8 y9) (lamplighterlaw08_SegmentParts.l1 (k + 1) y0 y1 y2 y3 y4 y5 y6 y7 y8 y9)) ∧ (∀ y0 y1 y2 y3 y4 y5 y6 y7 y8 y9 y10 y11 y12, LeO (lamplighterlaw08_SegmentParts.j3 k y0 y1 y2 y3 y4 y5 y6 y7 y8 y9 y10 y11 y12) (lamplighterlaw08_SegmentParts.j3 (k + 1) y0 y1 y2 y3 y4 y5 y6 y7 y8 y9 y10 y11 y12))
  | 0 => ⟨fun _ _ _ _ _ _ _ _ r h => by simp [lamplighterlaw08_SegmentParts.j0] at h, fun _ _ _ _ _ _ _ _ r h => by simp [lamplighterlaw08_SegmentParts.l0] at h, fun _ _ _ _ _ _ _ _ _ _ r h => by simp [lamplighterlaw08_SegmentParts.l1] at h, fun _ _ _ _ _ _ _ _ _ _ _ _ _ r h => by simp [lamplighterlaw08_SegmentParts.j3] at h⟩
  | k + 1 => by
    obtain ⟨ih0, ih1, ih2, ih3⟩ := lamplighterlaw08_SegmentParts.mono_l k
    refine ⟨?_, ?_, ?_, ?_⟩
    · intro y0 y1 y2 y3 y4 y5 y6 y7
      unfold lamplighterlaw08_SegmentParts.j0
      repeat' first
      | (with_reducible exact ih0 _ _ _ _ _ _ _ _)
      | (with_reducible exact ih1 _ _ _ _ _ _ _ _)
      | (with_reducible exact ih2 _ _ _ _ _ _ _ _ _ _)
      | (with_reducible exact ih3 _ _ _ _ _ _ _ _ _ _ _ _ _)
      | (with_reducible exact lamplighterref08_Agains.mono _ _ _ _ _ _ _)
      | (with_reducible exact lamplighterref08_Parts.mono _ _ _ _ _ _ _ _)
      | (with_reducible exact LeO.refl _)
      | (with_reducible exact LeO.none _)
      | (with_reducible refine LeO.ite ?_ ?_)
      | (with_reducible refine LeO.bind ?_ (fun _ => ?_))
      | exact ih0 _ _ _ _ _ _ _ _
      | exact ih1 _ _ _ _ _ _ _ _
      | exact ih2 _ _ _ _ _ _ _ _ _ _
      | exact ih3 _ _ _ _ _ _ _ _ _ _ _ _ _
      | exact lamplighterref08_Agains.mono _ _ _ _ _ _ _
      | exact lamplighterref08_Parts.mono _ _ _ _ _ _ _ _
      | exact LeO.none _
      | refine LeO.ite ?_ ?_
      | refine LeO.bind ?_ (fun _ => ?_)
    · intro y0 y1 y2 y3 y4 y5 y6 y7
      unfold lamplighterlaw08_SegmentParts.l0
      repeat' first
      | (with_reducible exact ih0 _ _ _ _ _ _ _ _)
      | (with_reducible exact ih1 _ _ _ _ _ _ _ _)
      | (with_reducible exact ih2 _ _ _ _ _ _ _ _ _ _)
      | (with_reducible exact ih3 _ _ _ _ _ _ _ _ _ _ _ _ _)
      | (with_reducible exact lamplighterref08_Agains.mono _ _ _ _ _ _ _)
      | (with_reducible exact lamplighterref08_Parts.mono _ _ _ _ _ _ _ _)
      | (with_reducible exact LeO.refl _)
      | (with_reducible exact LeO.none _)
      | (with_reducible refine LeO.ite ?_ ?_)
      | (with_reducible refine LeO.bind ?_ (fun _ => ?_))
      | exact ih0 _ _ _ _ _ _ _ _
      | exact ih1 _ _ _ _ _ _ _ _
      | exact ih2 _ _ _ _ _ _ _ _ _ _
      | exact ih3 _ _ _ _ _ _ _ _ _ _ _ _ _
      | exact lamplighterref08_Agains.mono _ _ _ _ _ _ _
      | exact lamplighterref08_Parts.mono _ _ _ _ _ _ _ _
      | exact LeO.none _
      | refine LeO.ite ?_ ?_
      | refine LeO.bind ?_ (fun _ => ?_)
    · intro y0 y1 y2 y3 y4 y5 y6 y7 y8 y9
      unfold lamplighterlaw08_SegmentParts.l1
      repeat' first
      | (with_reducible exact ih0 _ _ _ _ _ _ _ _)
      | (with_reducible exact ih1 _ _ _ _ _ _ _ _)
      | (with_reducible exact ih2 _ _ _ _ _ _ _ _ _ _)
      | (with_reducible exact ih3 _ _ _ _ _ _ _ _ _ _ _ _ _)
      | (with_reducible exact lamplighterref08_Agains.mono _ _ _ _ _ _ _)
      | (with_reducible exact lamplighterref08_Parts.mono _ _ _ _ _ _ _ _)
      | (with_reducible exact LeO.refl _)
      | (with_reducible exact LeO.none _)
      | (with_reducible refine LeO.ite ?_ ?_)
      | (with_reducible refine LeO.bind ?_ (fun _ => ?_))
      | exact ih0 _ _ _ _ _ _ _ _
      | exact ih1 _ _ _ _ _ _ _ _
      | exact ih2 _ _ _ _ _ _ _ _ _ _
      | exact ih3 _ _ _ _ _ _ _ _ _ _ _ _ _
      | exact lamplighterref08_Agains.mono _ _ _ _ _ _ _
      | exact lamplighterref08_Parts.mono _ _ _ _ _ _ _ _
      | exact LeO.none _
      | refine LeO.ite ?_ ?_
      | refine LeO.bind ?_ (fun _ => ?_)
    · intro y0 y1 y2 y3 y4 y5 y6 y7 y8 y9 y10 y11 y12
      unfold lamplighterlaw08_SegmentParts.j3
      repeat' first
      | (with_reducible exact ih0 _ _ _ _ _ _ _ _)
      | (with_reducible exact ih1 _ _ _ _ _ _ _ _)
      | (with_reducible exact ih2 _ _ _ _ _ _ _ _ _ _)
      | (with_reducible exact ih3 _ _ _ _ _ _ _ _ _ _ _ _ _)
      | (with_reducible exact lamplighterref08_Agains.mono _ _ _ _ _ _ _)
      | (with_reducible exact lamplighterref08_Parts.mono _ _ _ _ _ _ _ _)
      | (with_reducible exact LeO.refl _)
      | (with_reducible exact LeO.none _)
      | (with_reducible refine LeO.ite ?_ ?_)
      | (with_reducible refine LeO.bind ?_ (fun _ => ?_))
      | exact ih0 _ _ _ _ _ _ _ _
      | exact ih1 _ _ _ _ _ _ _ _
      | exact ih2 _ _ _ _ _ _ _ _ _ _
      | exact ih3 _ _ _ _ _ _ _ _ _ _ _ _ _
      | exact lamplighterref08_Agains.mono _ _ _ _ _ _ _
      | exact lamplighterref08_Parts.mono _ _ _ _ _ _ _ _
      | exact LeO.none _
      | refine LeO.ite ?_ ?_
      | refine LeO.bind ?_ (fun _ => ?_)
theorem lamplighterlaw08_SegmentParts.mono : ∀ a0 a1 a2 a3 a4 a5 k, LeO (lamplighterlaw08_SegmentParts.f k a0 a1 a2 a3 a4 a5) (lamplighterlaw08_SegmentParts.f (k + 1) a0 a1 a2 a3 a4 a5) := by
  intro a0 a1 a2 a3 a4 a5 k
  obtain ⟨ih0, ih1, ih2, ih3⟩ := lamplighterlaw08_SegmentParts.mono_l k
  unfold lamplighterlaw08_SegmentParts.f
  repeat' first
      | (with_reducible exact ih0 _ _ _ _ _ _ _ _)
      | (with_reducible exact ih1 _ _ _ _ _ _ _ _)
      | (with_reducible exact ih2 _ _ _ _ _ _ _ _ _ _)
      | (with_reducible exact ih3 _ _ _ _ _ _ _ _ _ _ _ _ _)
      | (with_reducible exact lamplighterref08_Agains.mono _ _ _ _ _ _ _)
      | (with_reducible exact lamplighterref08_Parts.mono _ _ _ _ _ _ _ _)
      | (with_reducible exact LeO.refl _)
      | (with_reducible exact LeO.none _)
      | (with_reducible refine LeO.ite ?_ ?_)
      | (with_reducible refine LeO.bind ?_ (fun _ => ?_))
      | exact ih0 _ _ _ _ _ _ _ _
      | exact ih1 _ _ _ _ _ _ _ _
      | exact ih2 _ _ _ _ _ _ _ _ _ _
      | exact ih3 _ _ _ _ _ _ _ _ _ _ _ _ _
      | exact lamplighterref08_Agains.mono _ _ _ _ _ _ _
      | exact lamplighterref08_Parts.mono _ _ _ _ _ _ _ _
      | exact LeO.none _
      | refine LeO.ite ?_ ?_
      | refine LeO.bind ?_ (fun _ => ?_)
set_option maxHeartbeats 8000000 in
set_option maxRecDepth 100000 in
theorem lamplighterlaw08_SegmentParts.calls (k : Nat) (a0 : ByteArray) (a1_0 : Int) (a1_1 : Int) (a1_2 : Int) (a1_3 : Int) (a1_4 : Int) (r : Bool) (w : World) (h : lamplighterlaw08_SegmentParts.f k a0 a1_0 a1_1 a1_2 a1_3 a1_4 = some r) :
    Calls Try.prog 7 #[.string a0, .agg #[.int .u8 a1_0, .int .u8 a1_1, .int .u8 a1_2, .int .u8 a1_3, .int .u8 a1_4]] w fun e w' => e = .returned (.bool r) ∧ Below w.heap.size w w' := by
  have hu23 := Try.underlying23
  have HB := Aside0.mk (Below.refl w.heap.size w)
  have H : (if (a0.size : Int) > 400 then ((lamplighterlaw08_alive.f).bind fun t208 => (some t208)) else ((lamplighterref08_Agains.f k a0 a1_0 a1_1 a1_2 a1_3 a1_4).bind fun t209 => ((lamplighterlaw08_alive.f).bind fun t212 => (if t212 = true then ((segment_Agains.f a0 a1_0 a1_1 a1_2 a1_3 a1_4).bind fun t213 => (lamplighterlaw08_SegmentParts.j0 k a0 (t209.length : Int) (t213 != (t209.length : Int)) a1_0 a1_1 a1_2 a1_3 a1_4)) else (lamplighterlaw08_SegmentParts.j0 k a0 (t209.length : Int) true a1_0 a1_1 a1_2 a1_3 a1_4))))) = some r := h
  clear h
  by_cases c3 : (a0.size : Int) > 400
  · rw [if_pos c3] at H
    have c3b0 : decide (400 < (a0.size : Int)) = true := decide_eq_true c3
    have c3b1 : decide (400 < a0.size) = true := decide_eq_true (by omega)
    clear c3
    replace H := Option.bind_eq_some_iff.mp H
    obtain ⟨t208, A40, H⟩ := H
    replace H : (some t208) = some r := H
    have A4 := Aside0.mk A40
    clear A40
    obtain rfl := Option.some.inj H
    go_enter Try.func7, Try.ntmps7
    go_wp2_with (first | ((with_reducible refine gate_dst (N := 3) rfl ?_); (try (refine gate_guard (by rfl) ?_; dsimp only)); refine box_event ?hg (N := 3) ?hd (cs := #[.int .u8 a1_0, .int .u8 a1_1, .int .u8 a1_2, .int .u8 a1_3, .int .u8 a1_4]) (t := 23) ?hr ?_; (case hd => rfl); (case hg => rfl); (case hr => first | (go_simp; done) | (go_simp; rfl)); intro gb207 hg w5 hbox hb; have n0_ := Aside0.mk (below_step (by repeat (first | (with_reducible first | exact HB.out | apply below_alloc | apply pw_below_drewN | apply below_drew1) | exact HB.out)) hb); have n1_ := Aside0.mk (hbox); have n2_ := Aside0.mk ((by rw [hg]; exact (below_size (by repeat (first | (with_reducible first | exact HB.out | apply below_alloc | apply pw_below_drewN | apply below_drew1) | exact HB.out))) : w.heap.size ≤ gb207)); have n3_ := Aside0.mk ((by rw [hg]; exact (below_size (by repeat (first | (with_reducible first | exact HB.out | apply below_alloc | apply pw_below_drewN | apply below_drew1) | exact HB.out))) : w.heap.size ≤ gb207)); clear HB; have HB := n0_; have BK207 := n1_; have GW207 := n2_; have GE207 := n3_; clear n0_ n1_ n2_ n3_; clear hb hbox hg) | ((with_reducible refine gate_callee (f := 22) rfl ?_); refine goesL_ (some 14) rfl rfl Try.func22 (by kernel_rfl) rfl #[] rfl (by (try simp only [List.map_toArray, List.map_cons, List.map_nil]); first | done | rfl | (simp only [List.length_drop, List.length_take]; rfl)) ?_; (with_reducible refine (lamplighterlaw08_alive.calls  t208 _ A4.out).mono ?_); rintro e w6 ⟨rfl, hb⟩; refine ⟨_, rfl, ?_⟩; have n0_ := Aside0.mk (blk_below (g := gb207) (o := .cells #[.int .u8 a1_0, .int .u8 a1_1, .int .u8 a1_2, .int .u8 a1_3, .int .u8 a1_4] 23 (0, 0)) (by (with_reducible repeat (first | refine blk_drewN ?_ _ | refine blk_drew ?_ | refine blk_alloc ?_ _)); exact BK207.out) hb); have n1_ := Aside0.mk (below_step (by repeat (first | (with_reducible first | exact HB.out | apply below_alloc | apply pw_below_drewN | apply below_drew1 | refine below_set ?_ GE207.out) | exact HB.out)) hb); clear BK207; clear HB; have BK207 := n0_; have HB := n1_; clear n0_ n1_; (try clear hb); (try clear hb2); (try clear hk); (try clear hi)))
    go_ret
    exact ⟨by first | rfl | (simp [errW_none, errW_some] <;> rfl) | (simp [*, errW_none, errW_some] <;> rfl), by repeat (first | (with_reducible first | exact HB.out | apply below_alloc | apply pw_below_drewN | apply below_drew1 | refine below_set ?_ GE207.out) | exact HB.out)⟩
  · rw [if_neg c3] at H
    have c3b0 : decide (400 < (a0.size : Int)) = false := decide_eq_false c3
    have c3b1 : decide (400 < a0.size) = false := decide_eq_false (by omega)
    clear c3
    replace H := Option.bind_eq_some_iff.mp H
    obtain ⟨t209, A70, H⟩ := H
    replace H : ((lamplighterlaw08_alive.f).bind fun t212 => (if t212 = true then ((segment_Agains.f a0 a1_0 a1_1 a1_2 a1_3 a1_4).bind fun t213 => (lamplighterlaw08_SegmentParts.j0 k a0 (t209.length : Int) (t213 != (t209.length : Int)) a1_0 a1_1 a1_2 a1_3 a1_4)) else (lamplighterlaw08_SegmentParts.j0 k a0 (t209.length : Int) true a1_0 a1_1 a1_2 a1_3 a1_4))) = some r := H
    have A7 := Aside0.mk A70
    clear A70
    have HC8 := Aside0.mk H
    clear H
    go_enter Try.func7, Try.ntmps7
    go_upto_region 4 with (first | ((with_reducible refine gate_dst (N := 3) rfl ?_); (try (refine gate_guard (by rfl) ?_; dsimp only)); refine box_event ?hg (N := 3) ?hd (cs := #[.int .u8 a1_0, .int .u8 a1_1, .int .u8 a1_2, .int .u8 a1_3, .int .u8 a1_4]) (t := 23) ?hr ?_; (case hd => rfl); (case hg => rfl); (case hr => first | (go_simp; done) | (go_simp; rfl)); intro gb207 hg w9 hbox hb; have n0_ := Aside0.mk (below_step (by repeat (first | (with_reducible first | exact HB.out | apply below_alloc | apply pw_below_drewN | apply below_drew1) | exact HB.out)) hb); have n1_ := Aside0.mk (hbox); have n2_ := Aside0.mk ((by rw [hg]; exact (below_size (by repeat (first | (with_reducible first | exact HB.out | apply below_alloc | apply pw_below_drewN | apply below_drew1) | exact HB.out))) : w.heap.size ≤ gb207)); have n3_ := Aside0.mk ((by rw [hg]; exact (below_size (by repeat (first | (with_reducible first | exact HB.out | apply below_alloc | apply pw_below_drewN | apply below_drew1) | exact HB.out))) : w.heap.size ≤ gb207)); clear HB; have HB := n0_; have BK207 := n1_; have GW207 := n2_; have GE207 := n3_; clear n0_ n1_ n2_ n3_; clear hb hbox hg; have hcz10_0 : w9.cell? ⟨gb207, 0, none⟩ = some (.int .u8 a1_0) := (blk_cell BK207.out 0).trans rfl; have hcz10_1 : w9.cell? ⟨gb207, 1, none⟩ = some (.int .u8 a1_1) := (blk_cell BK207.out 1).trans rfl; have hcz10_2 : w9.cell? ⟨gb207, 2, none⟩ = some (.int .u8 a1_2) := (blk_cell BK207.out 2).trans rfl; have hcz10_3 : w9.cell? ⟨gb207, 3, none⟩ = some (.int .u8 a1_3) := (blk_cell BK207.out 3).trans rfl; have hcz10_4 : w9.cell? ⟨gb207, 4, none⟩ = some (.int .u8 a1_4) := (blk_cell BK207.out 4).trans rfl; have hfz10_0 := blk_frozen BK207.out 0; have hfz10_1 := blk_frozen BK207.out 1; have hfz10_2 := blk_frozen BK207.out 2; have hfz10_3 := blk_frozen BK207.out 3; have hfz10_4 := blk_frozen BK207.out 4) | ((with_reducible refine gate_callee (f := 25) rfl ?_); refine goesL_ (some 17) rfl rfl Try.func25 (by kernel_rfl) rfl #[.string a0, .agg #[.int .u8 a1_0, .int .u8 a1_1, .int .u8 a1_2, .int .u8 a1_3, .int .u8 a1_4]] rfl (by (try simp only [List.map_toArray, List.map_cons, List.map_nil]); first | done | rfl | (simp only [List.length_drop, List.length_take]; rfl)) ?_; (with_reducible refine (lamplighterref08_Agains.calls k a0 a1_0 a1_1 a1_2 a1_3 a1_4 t209 _ A7.out).mono ?_); rintro e w11 ⟨v210, rfl, ho0, hb⟩; refine ⟨_, rfl, ?_⟩; have n0_ := Aside0.mk (Kd.R_lower ho0 (below_size (by repeat (first | (with_reducible first | exact HB.out | apply below_alloc | apply pw_below_drewN | apply below_drew1 | refine below_set ?_ GE207.out) | exact HB.out)))); have n1_ := Aside0.mk (blk_below (g := gb207) (o := .cells #[.int .u8 a1_0, .int .u8 a1_1, .int .u8 a1_2, .int .u8 a1_3, .int .u8 a1_4] 23 (0, 0)) (by (with_reducible repeat (first | refine blk_drewN ?_ _ | refine blk_drew ?_ | refine blk_alloc ?_ _)); exact BK207.out) hb); have n2_ := Aside0.mk (below_step (by repeat (first | (with_reducible first | exact HB.out | apply below_alloc | apply pw_below_drewN | apply below_drew1 | refine below_set ?_ GE207.out) | exact HB.out)) hb); clear BK207; clear HB; have HO211 := n0_; have BK207 := n1_; have HB := n2_; clear n0_ n1_ n2_; (try clear hb); (try clear hb2); (try clear hk); (try clear hi); (try clear ho0); obtain ⟨Ao12, co12, eo12⟩ := Kd.R_slice HO211.out; subst eo12))
    (try simp only [Act.put, List.setIfInBounds_toArray, List.set_cons_zero, List.set_cons_succ])
    go_cut [27] (fun v27 wc => ∃ (kq : Nat) (x27_7 : Bool), v27 = .bool x27_7 ∧ Aside0 (lamplighterlaw08_SegmentParts.j0 kq a0 (t209.length : Int) x27_7 a1_0 a1_1 a1_2 a1_3 a1_4 = some r) ∧ Aside0 (kq ≤ k) ∧ Aside0 (wc.heap[gb207]? = some (.cells #[.int .u8 a1_0, .int .u8 a1_1, .int .u8 a1_2, .int .u8 a1_3, .int .u8 a1_4] 23 (0, 0))) ∧ Aside0 (Below w.heap.size w wc))
    case first =>
      have H := HC8.out
      clear HC8
      replace H := Option.bind_eq_some_iff.mp H
      obtain ⟨t212, A130, H⟩ := H
      replace H : (if t212 = true then ((segment_Agains.f a0 a1_0 a1_1 a1_2 a1_3 a1_4).bind fun t213 => (lamplighterlaw08_SegmentParts.j0 k a0 (t209.length : Int) (t213 != (t209.length : Int)) a1_0 a1_1 a1_2 a1_3 a1_4)) else (lamplighterlaw08_SegmentParts.j0 k a0 (t209.length : Int) true a1_0 a1_1 a1_2 a1_3 a1_4)) = some r := H
      have A13 := Aside0.mk A130
      clear A130
      by_cases c14 : t212 = true
      · subst c14
        have H1 : ((segment_Agains.f a0 a1_0 a1_1 a1_2 a1_3 a1_4).bind fun t213 => (lamplighterlaw08_SegmentParts.j0 k a0 (t209.length : Int) (t213 != (t209.length : Int)) a1_0 a1_1 a1_2 a1_3 a1_4)) = some r := by rw [if_pos rfl] at H; exact H
        clear H
        have H := H1
        clear H1
        replace H := Option.bind_eq_some_iff.mp H
        obtain ⟨t213, A150, H⟩ := H
        replace H : (lamplighterlaw08_SegmentParts.j0 k a0 (t209.length : Int) (t213 != (t209.length : Int)) a1_0 a1_1 a1_2 a1_3 a1_4) = some r := H
        have A15 := Aside0.mk A150
        clear A150
        have H' := Aside0.mk H
        clear H
        go_wp2_with (first | ((with_reducible refine gate_callee (f := 22) rfl ?_); refine goesL_ (some 19) rfl rfl Try.func22 (by kernel_rfl) rfl #[] rfl (by (try simp only [List.map_toArray, List.map_cons, List.map_nil]); first | done | rfl | (simp only [List.length_drop, List.length_take]; rfl)) ?_; (with_reducible refine (lamplighterlaw08_alive.calls  true _ A13.out).mono ?_); rintro e w16 ⟨rfl, hb⟩; refine ⟨_, rfl, ?_⟩; have n0_ := Aside0.mk (Kd.R_below (by (with_reducible repeat (first | apply Kd.R_alloc | apply Kd.R_drewN | apply Kd.R_drew)); exact HO211.out) hb); have n1_ := Aside0.mk (blk_below (g := gb207) (o := .cells #[.int .u8 a1_0, .int .u8 a1_1, .int .u8 a1_2, .int .u8 a1_3, .int .u8 a1_4] 23 (0, 0)) (by (with_reducible repeat (first | refine blk_drewN ?_ _ | refine blk_drew ?_ | refine blk_alloc ?_ _)); exact BK207.out) hb); have n2_ := Aside0.mk (below_step (by repeat (first | (with_reducible first | exact HB.out | apply below_alloc | apply pw_below_drewN | apply below_drew1 | refine below_set ?_ GE207.out) | exact HB.out)) hb); clear HO211; clear BK207; clear HB; have HO211 := n0_; have BK207 := n1_; have HB := n2_; clear n0_ n1_ n2_; (try clear hb); (try clear hb2); (try clear hk); (try clear hi); have hcz17_0 : w16.cell? ⟨gb207, 0, none⟩ = some (.int .u8 a1_0) := (blk_cell BK207.out 0).trans rfl; have hcz17_1 : w16.cell? ⟨gb207, 1, none⟩ = some (.int .u8 a1_1) := (blk_cell BK207.out 1).trans rfl; have hcz17_2 : w16.cell? ⟨gb207, 2, none⟩ = some (.int .u8 a1_2) := (blk_cell BK207.out 2).trans rfl; have hcz17_3 : w16.cell? ⟨gb207, 3, none⟩ = some (.int .u8 a1_3) := (blk_cell BK207.out 3).trans rfl; have hcz17_4 : w16.cell? ⟨gb207, 4, none⟩ = some (.int .u8 a1_4) := (blk_cell BK207.out 4).trans rfl; have hfz17_0 := blk_frozen BK207.out 0; have hfz17_1 := blk_frozen BK207.out 1; have hfz17_2 := blk_frozen BK207.out 2; have hfz17_3 := blk_frozen BK207.out 3; have hfz17_4 := blk_frozen BK207.out 4) | (go_at_call 26; (with_reducible refine (segment_Agains.calls a0 a1_0 a1_1 a1_2 a1_3 a1_4 t213 _ A15.out).mono ?_); rintro e w18 ⟨rfl, hb⟩; have n0_ := Aside0.mk (Kd.R_below (by (with_reducible repeat (first | apply Kd.R_alloc | apply Kd.R_drewN | apply Kd.R_drew)); exact HO211.out) hb); have n1_ := Aside0.mk (blk_below (g := gb207) (o := .cells #[.int .u8 a1_0, .int .u8 a1_1, .int .u8 a1_2, .int .u8 a1_3, .int .u8 a1_4] 23 (0, 0)) (by (with_reducible repeat (first | refine blk_drewN ?_ _ | refine blk_drew ?_ | refine blk_alloc ?_ _)); exact BK207.out) hb); have n2_ := Aside0.mk (below_step (by repeat (first | (with_reducible first | exact HB.out | apply below_alloc | apply pw_below_drewN | apply below_drew1 | refine below_set ?_ GE207.out) | exact HB.out)) hb); clear HO211; clear BK207; clear HB; have HO211 := n0_; have BK207 := n1_; have HB := n2_; clear n0_ n1_ n2_; (try clear hb); (try clear hb2); (try clear hk); (try clear hi)))
        go_meet
        case rel => exact ⟨_, ((t213 != (t209.length : Int))), (by first | rfl | (simp; done) | (simp [*]; done)), H', ⟨by first | omega | exact Nat.le_refl _⟩, ⟨by (with_reducible repeat (first | refine blk_drewN ?_ _ | refine blk_drew ?_ | refine blk_alloc ?_ _)); exact BK207.out⟩, ⟨by repeat (first | (with_reducible first | exact HB.out | apply below_alloc | apply pw_below_drewN | apply below_drew1 | refine below_set ?_ GE207.out) | exact HB.out)⟩⟩
      · replace c14 := Bool.eq_false_iff.mpr c14
        subst c14
        have H1 : (lamplighterlaw08_SegmentParts.j0 k a0 (t209.length : Int) true a1_0 a1_1 a1_2 a1_3 a1_4) = some r := by rw [if_neg (show ¬ (false = true) by decide)] at H; exact H
        clear H
        have H := H1
        clear H1
        have H' := Aside0.mk H
        clear H
        go_wp2_with (first | ((with_reducible refine gate_callee (f := 22) rfl ?_); refine goesL_ (some 19) rfl rfl Try.func22 (by kernel_rfl) rfl #[] rfl (by (try simp only [List.map_toArray, List.map_cons, List.map_nil]); first | done | rfl | (simp only [List.length_drop, List.length_take]; rfl)) ?_; (with_reducible refine (lamplighterlaw08_alive.calls  false _ A13.out).mono ?_); rintro e w19 ⟨rfl, hb⟩; refine ⟨_, rfl, ?_⟩; have n0_ := Aside0.mk (Kd.R_below (by (with_reducible repeat (first | apply Kd.R_alloc | apply Kd.R_drewN | apply Kd.R_drew)); exact HO211.out) hb); have n1_ := Aside0.mk (blk_below (g := gb207) (o := .cells #[.int .u8 a1_0, .int .u8 a1_1, .int .u8 a1_2, .int .u8 a1_3, .int .u8 a1_4] 23 (0, 0)) (by (with_reducible repeat (first | refine blk_drewN ?_ _ | refine blk_drew ?_ | refine blk_alloc ?_ _)); exact BK207.out) hb); have n2_ := Aside0.mk (below_step (by repeat (first | (with_reducible first | exact HB.out | apply below_alloc | apply pw_below_drewN | apply below_drew1 | refine below_set ?_ GE207.out) | exact HB.out)) hb); clear HO211; clear BK207; clear HB; have HO211 := n0_; have BK207 := n1_; have HB := n2_; clear n0_ n1_ n2_; (try clear hb); (try clear hb2); (try clear hk); (try clear hi)))
        go_meet
        case rel => exact ⟨_, (true), (by first | rfl | (simp; done) | (simp [*]; done)), H', ⟨by first | omega | exact Nat.le_refl _⟩, ⟨by (with_reducible repeat (first | refine blk_drewN ?_ _ | refine blk_drew ?_ | refine blk_alloc ?_ _)); exact BK207.out⟩, ⟨by repeat (first | (with_reducible first | exact HB.out | apply below_alloc | apply pw_below_drewN | apply below_drew1 | refine below_set ?_ GE207.out) | exact HB.out)⟩⟩
    case rest =>
      clear HC8
      try clear c1
      try clear c2
      try clear p2
      try clear c3
      try clear c3b0
      try clear c3b1
      try clear c7
      try clear c14
      try clear hcz10_0
      try clear hcz10_1
      try clear hcz10_2
      try clear hcz10_3
      try clear hcz10_4
      try clear hcz17_0
      try clear hcz17_1
      try clear hcz17_2
      try clear hcz17_3
      try clear hcz17_4
      try clear hfz10_0
      try clear hfz10_1
      try clear hfz10_2
      try clear hfz10_3
      try clear hfz10_4
      try clear hfz17_0
      try clear hfz17_1
      try clear hfz17_2
      try clear hfz17_3
      try clear hfz17_4
      obtain ⟨kq, x27_7, rfl, HA, HJ7, BK207, HB⟩ := hcut
      cases kq with
      | zero => exact absurd HA.out (by simp [lamplighterlaw08_SegmentParts.j0])
      | succ kj7 =>
        have H := HA.out
        clear HA
        simp only [lamplighterlaw08_SegmentParts.j0] at H
        by_cases c20 : x27_7 = true
        · subst c20
          have H1 : (some false) = some r := by rw [if_pos rfl] at H; exact H
          clear H
          have H := H1
          clear H1
          obtain rfl := Option.some.inj H
          go_wp2
          go_ret
          exact ⟨by first | rfl | (simp [errW_none, errW_some] <;> rfl) | (simp [*, errW_none, errW_some] <;> rfl), by repeat (first | (with_reducible first | exact HB.out | apply below_alloc | apply pw_below_drewN | apply below_drew1 | refine below_set ?_ GE207.out) | exact HB.out)⟩
        · replace c20 := Bool.eq_false_iff.mpr c20
          subst c20
          have H1 : (lamplighterlaw08_SegmentParts.l0 kj7 a0 (t209.length : Int) (-1) a1_0 a1_1 a1_2 a1_3 a1_4) = some r := by rw [if_neg (show ¬ (false = true) by decide)] at H; exact H
          clear H
          have H := H1
          clear H1
          have H' := Aside0.mk H
          clear H
          go_wp2
          go_loopg [6] kj7 (fun kq v6 w' => ∃ (x6_2 : Int), v6 = .int .i64 x6_2 ∧ Aside0 (lamplighterlaw08_SegmentParts.l0 kq a0 (t209.length : Int) x6_2 a1_0 a1_1 a1_2 a1_3 a1_4 = some r) ∧ Aside0 (kq ≤ kj7) ∧ Aside0 (w'.heap[gb207]? = some (.cells #[.int .u8 a1_0, .int .u8 a1_1, .int .u8 a1_2, .int .u8 a1_3, .int .u8 a1_4] 23 (0, 0))) ∧ Aside0 (Below w.heap.size w w'))
          case atStart => exact ⟨((-1)), (by first | rfl | (simp; done) | (simp [*]; done)), H', ⟨Nat.le_refl _⟩, ⟨by (with_reducible repeat (first | refine blk_drewN ?_ _ | refine blk_drew ?_ | refine blk_alloc ?_ _)); exact BK207.out⟩, ⟨by repeat (first | (with_reducible first | exact HB.out | apply below_alloc | apply pw_below_drewN | apply below_drew1 | refine below_set ?_ GE207.out) | exact HB.out)⟩⟩
          case round =>
            clear H'
            try clear c1
            try clear c2
            try clear p2
            try clear c3
            try clear c3b0
            try clear c3b1
            try clear c7
            try clear c14
            try clear c20
            try clear hcz10_0
            try clear hcz10_1
            try clear hcz10_2
            try clear hcz10_3
            try clear hcz10_4
            try clear hcz17_0
            try clear hcz17_1
            try clear hcz17_2
            try clear hcz17_3
            try clear hcz17_4
            try clear hfz10_0
            try clear hfz10_1
            try clear hfz10_2
            try clear hfz10_3
            try clear hfz10_4
            try clear hfz17_0
            try clear hfz17_1
            try clear hfz17_2
            try clear hfz17_3
            try clear hfz17_4
            try clear p2
            obtain ⟨x6_2, rfl, HA, HK2, BK207, HB⟩ := hrel
            cases gk with
            | zero => exact absurd HA.out (by simp [lamplighterlaw08_SegmentParts.l0])
            | succ k2 =>
              have H := HA.out
              clear HA
              simp only [lamplighterlaw08_SegmentParts.l0] at H
              by_cases c21 : x6_2 ≤ (wrap64 ((t209.length : Int) + 1))
              · rw [if_pos c21] at H
                have c21b0 : decide (x6_2 ≤ (wrap64 ((t209.length : Int) + 1))) = true := decide_eq_true c21
                clear c21
                replace H := Option.bind_eq_some_iff.mp H
                obtain ⟨t214, A220, H⟩ := H
                replace H : ((segment_Parts.f a0 x6_2 a1_0 a1_1 a1_2 a1_3 a1_4).bind fun t217 => (if t217 = (t214.length : Int) then (lamplighterlaw08_SegmentParts.l1 k2 a0 (t209.length : Int) x6_2 t214 (-1) a1_0 a1_1 a1_2 a1_3 a1_4) else (some false))) = some r := H
                have A22 := Aside0.mk A220
                clear A220
                replace H := Option.bind_eq_some_iff.mp H
                obtain ⟨t217, A230, H⟩ := H
                replace H : (if t217 = (t214.length : Int) then (lamplighterlaw08_SegmentParts.l1 k2 a0 (t209.length : Int) x6_2 t214 (-1) a1_0 a1_1 a1_2 a1_3 a1_4) else (some false)) = some r := H
                have A23 := Aside0.mk A230
                clear A230
                by_cases c24 : t217 = (t214.length : Int)
                · rw [if_pos c24] at H
                  have c24b0 : (t217 == (t214.length : Int)) = true := beq_iff_eq.mpr c24
                  have c24b1 : (t217 != (t214.length : Int)) = false := bne_eq_false_iff_eq.mpr c24
                  clear c24
                  have H' := Aside0.mk H
                  clear H
                  have hcz25_0 : wr.cell? ⟨gb207, 0, none⟩ = some (.int .u8 a1_0) := (blk_cell BK207.out 0).trans rfl
                  have hcz25_1 : wr.cell? ⟨gb207, 1, none⟩ = some (.int .u8 a1_1) := (blk_cell BK207.out 1).trans rfl
                  have hcz25_2 : wr.cell? ⟨gb207, 2, none⟩ = some (.int .u8 a1_2) := (blk_cell BK207.out 2).trans rfl
                  have hcz25_3 : wr.cell? ⟨gb207, 3, none⟩ = some (.int .u8 a1_3) := (blk_cell BK207.out 3).trans rfl
                  have hcz25_4 : wr.cell? ⟨gb207, 4, none⟩ = some (.int .u8 a1_4) := (blk_cell BK207.out 4).trans rfl
                  have hfz25_0 := blk_frozen BK207.out 0
                  have hfz25_1 := blk_frozen BK207.out 1
                  have hfz25_2 := blk_frozen BK207.out 2
                  have hfz25_3 := blk_frozen BK207.out 3
                  have hfz25_4 := blk_frozen BK207.out 4
                  go_wp2_with (first | ((with_reducible refine gate_callee (f := 27) rfl ?_); refine goesL_ (some 37) rfl rfl Try.func27 (by kernel_rfl) rfl #[.string a0, .int .i64 x6_2, .agg #[.int .u8 a1_0, .int .u8 a1_1, .int .u8 a1_2, .int .u8 a1_3, .int .u8 a1_4]] rfl (by (try simp only [List.map_toArray, List.map_cons, List.map_nil]); first | done | rfl | (simp only [List.length_drop, List.length_take]; rfl)) ?_; (with_reducible refine (lamplighterref08_Parts.calls k2 a0 x6_2 a1_0 a1_1 a1_2 a1_3 a1_4 t214 _ A22.out).mono ?_); rintro e w26 ⟨v215, rfl, ho0, hb⟩; refine ⟨_, rfl, ?_⟩; have n0_ := Aside0.mk (Kd.R_lower ho0 (below_size (by repeat (first | (with_reducible first | exact HB.out | apply below_alloc | apply pw_below_drewN | apply below_drew1 | refine below_set ?_ GE207.out) | exact HB.out)))); have n1_ := Aside0.mk (blk_below (g := gb207) (o := .cells #[.int .u8 a1_0, .int .u8 a1_1, .int .u8 a1_2, .int .u8 a1_3, .int .u8 a1_4] 23 (0, 0)) (by (with_reducible repeat (first | refine blk_drewN ?_ _ | refine blk_drew ?_ | refine blk_alloc ?_ _)); exact BK207.out) hb); have n2_ := Aside0.mk (below_step (by repeat (first | (with_reducible first | exact HB.out | apply below_alloc | apply pw_below_drewN | apply below_drew1 | refine below_set ?_ GE207.out) | exact HB.out)) hb); clear BK207; clear HB; have HO216 := n0_; have BK207 := n1_; have HB := n2_; clear n0_ n1_ n2_; (try clear hb); (try clear hb2); (try clear hk); (try clear hi); (try clear ho0); have hcz27_0 : w26.cell? ⟨gb207, 0, none⟩ = some (.int .u8 a1_0) := (blk_cell BK207.out 0).trans rfl; have hcz27_1 : w26.cell? ⟨gb207, 1, none⟩ = some (.int .u8 a1_1) := (blk_cell BK207.out 1).trans rfl; have hcz27_2 : w26.cell? ⟨gb207, 2, none⟩ = some (.int .u8 a1_2) := (blk_cell BK207.out 2).trans rfl; have hcz27_3 : w26.cell? ⟨gb207, 3, none⟩ = some (.int .u8 a1_3) := (blk_cell BK207.out 3).trans rfl; have hcz27_4 : w26.cell? ⟨gb207, 4, none⟩ = some (.int .u8 a1_4) := (blk_cell BK207.out 4).trans rfl; have hfz27_0 := blk_frozen BK207.out 0; have hfz27_1 := blk_frozen BK207.out 1; have hfz27_2 := blk_frozen BK207.out 2; have hfz27_3 := blk_frozen BK207.out 3; have hfz27_4 := blk_frozen BK207.out 4) | ((with_reducible refine gate_callee (f := 28) rfl ?_); refine goesL_ (some 41) rfl rfl Try.func28 (by kernel_rfl) rfl #[.string a0, .int .i64 x6_2, .agg #[.int .u8 a1_0, .int .u8 a1_1, .int .u8 a1_2, .int .u8 a1_3, .int .u8 a1_4]] rfl (by (try simp only [List.map_toArray, List.map_cons, List.map_nil]); first | done | rfl | (simp only [List.length_drop, List.length_take]; rfl)) ?_; (with_reducible refine (segment_Parts.calls a0 x6_2 a1_0 a1_1 a1_2 a1_3 a1_4 t217 _ A23.out).mono ?_); rintro e w28 ⟨rfl, hb⟩; refine ⟨_, rfl, ?_⟩; have n0_ := Aside0.mk (Kd.R_below (by (with_reducible repeat (first | apply Kd.R_alloc | apply Kd.R_drewN | apply Kd.R_drew)); exact HO216.out) hb); have n1_ := Aside0.mk (blk_below (g := gb207) (o := .cells #[.int .u8 a1_0, .int .u8 a1_1, .int .u8 a1_2, .int .u8 a1_3, .int .u8 a1_4] 23 (0, 0)) (by (with_reducible repeat (first | refine blk_drewN ?_ _ | refine blk_drew ?_ | refine blk_alloc ?_ _)); exact BK207.out) hb); have n2_ := Aside0.mk (below_step (by repeat (first | (with_reducible first | exact HB.out | apply below_alloc | apply pw_below_drewN | apply below_drew1 | refine below_set ?_ GE207.out) | exact HB.out)) hb); clear HO216; clear BK207; clear HB; have HO216 := n0_; have BK207 := n1_; have HB := n2_; clear n0_ n1_ n2_; (try clear hb); (try clear hb2); (try clear hk); (try clear hi); obtain ⟨Ao29, co29, eo29⟩ := Kd.R_slice HO216.out; subst eo29))
                  go_loopg [8] k2 (fun kq v8 w' => ∃ (x8_3 : Int), v8 = .int .i64 x8_3 ∧ Aside0 (lamplighterlaw08_SegmentParts.l1 kq a0 (t209.length : Int) x6_2 t214 x8_3 a1_0 a1_1 a1_2 a1_3 a1_4 = some r) ∧ Aside0 (kq ≤ k2) ∧ Aside0 (Kd.R Kd.string 9 w' w.heap.size (fun _ => True) (.slice Ao29 t214.length co29) t214) ∧ Aside0 (w'.heap[gb207]? = some (.cells #[.int .u8 a1_0, .int .u8 a1_1, .int .u8 a1_2, .int .u8 a1_3, .int .u8 a1_4] 23 (0, 0))) ∧ Aside0 (Below w.heap.size w w'))
                  case atStart => exact ⟨((-1)), (by first | rfl | (simp; done) | (simp [*]; done)), H', ⟨Nat.le_refl _⟩, ⟨by (with_reducible repeat (first | apply Kd.R_alloc | apply Kd.R_drewN | apply Kd.R_drew)); exact HO216.out⟩, ⟨by (with_reducible repeat (first | refine blk_drewN ?_ _ | refine blk_drew ?_ | refine blk_alloc ?_ _)); exact BK207.out⟩, ⟨by repeat (first | (with_reducible first | exact HB.out | apply below_alloc | apply pw_below_drewN | apply below_drew1 | refine below_set ?_ GE207.out) | exact HB.out)⟩⟩
                  case round =>
                    clear H'
                    try clear c1
                    try clear c2
                    try clear p2
                    try clear c3
                    try clear c3b0
                    try clear c3b1
                    try clear p6
                    try clear c7
                    try clear c14
                    try clear c20
                    try clear c21
                    try clear c21b0
                    try clear c22
                    try clear c24
                    try clear c24b0
                    try clear c24b1
                    try clear c25
                    try clear c27
                    try clear c28
                    try clear hcz10_0
                    try clear hcz10_1
                    try clear hcz10_2
                    try clear hcz10_3
                    try clear hcz10_4
                    try clear hcz17_0
                    try clear hcz17_1
                    try clear hcz17_2
                    try clear hcz17_3
                    try clear hcz17_4
                    try clear hcz25_0
                    try clear hcz25_1
                    try clear hcz25_2
                    try clear hcz25_3
                    try clear hcz25_4
                    try clear hcz27_0
                    try clear hcz27_1
                    try clear hcz27_2
                    try clear hcz27_3
                    try clear hcz27_4
                    try clear hfz10_0
                    try clear hfz10_1
                    try clear hfz10_2
                    try clear hfz10_3
                    try clear hfz10_4
                    try clear hfz17_0
                    try clear hfz17_1
                    try clear hfz17_2
                    try clear hfz17_3
                    try clear hfz17_4
                    try clear hfz25_0
                    try clear hfz25_1
                    try clear hfz25_2
                    try clear hfz25_3
                    try clear hfz25_4
                    try clear hfz27_0
                    try clear hfz27_1
                    try clear hfz27_2
                    try clear hfz27_3
                    try clear hfz27_4
                    try clear p2
                    obtain ⟨x8_3, rfl, HA, HK3, HO_7, BK207, HB⟩ := hrel
                    cases gk with
                    | zero => exact absurd HA.out (by simp [lamplighterlaw08_SegmentParts.l1])
                    | succ k3 =>
                      have H := HA.out
                      clear HA
                      simp only [lamplighterlaw08_SegmentParts.l1] at H
                      by_cases c30 : x8_3 ≤ (wrap64 ((t214.length : Int) + 1))
                      · rw [if_pos c30] at H
                        have c30b0 : decide (x8_3 ≤ (wrap64 ((t214.length : Int) + 1))) = true := decide_eq_true c30
                        clear c30
                        replace H := Option.bind_eq_some_iff.mp H
                        obtain ⟨⟨t218, t219⟩, A310, H⟩ := H
                        replace H : (if x8_3 < 1 then (lamplighterlaw08_SegmentParts.j3 k3 a0 (t209.length : Int) x6_2 t214 x8_3 t218 t219 true a1_0 a1_1 a1_2 a1_3 a1_4) else (lamplighterlaw08_SegmentParts.j3 k3 a0 (t209.length : Int) x6_2 t214 x8_3 t218 t219 (decide (x8_3 > (t214.length : Int))) a1_0 a1_1 a1_2 a1_3 a1_4)) = some r := H
                        have A31 := Aside0.mk A310
                        clear A310
                        have HC32 := Aside0.mk H
                        clear H
                        have hcz33_0 : wr.cell? ⟨gb207, 0, none⟩ = some (.int .u8 a1_0) := (blk_cell BK207.out 0).trans rfl
                        have hcz33_1 : wr.cell? ⟨gb207, 1, none⟩ = some (.int .u8 a1_1) := (blk_cell BK207.out 1).trans rfl
                        have hcz33_2 : wr.cell? ⟨gb207, 2, none⟩ = some (.int .u8 a1_2) := (blk_cell BK207.out 2).trans rfl
                        have hcz33_3 : wr.cell? ⟨gb207, 3, none⟩ = some (.int .u8 a1_3) := (blk_cell BK207.out 3).trans rfl
                        have hcz33_4 : wr.cell? ⟨gb207, 4, none⟩ = some (.int .u8 a1_4) := (blk_cell BK207.out 4).trans rfl
                        have hfz33_0 := blk_frozen BK207.out 0
                        have hfz33_1 := blk_frozen BK207.out 1
                        have hfz33_2 := blk_frozen BK207.out 2
                        have hfz33_3 := blk_frozen BK207.out 3
                        have hfz33_4 := blk_frozen BK207.out 4
                        go_upto_region 16 with (first | ((with_reducible refine gate_callee (f := 29) rfl ?_); refine goesL_ (some 57) rfl rfl Try.func29 (by kernel_rfl) rfl #[.string a0, .int .i64 x6_2, .int .i64 x8_3, .agg #[.int .u8 a1_0, .int .u8 a1_1, .int .u8 a1_2, .int .u8 a1_3, .int .u8 a1_4]] rfl (by (try simp only [List.map_toArray, List.map_cons, List.map_nil]); first | done | rfl | (simp only [List.length_drop, List.length_take]; rfl)) ?_; (with_reducible refine (segment_Part.calls a0 x6_2 x8_3 a1_0 a1_1 a1_2 a1_3 a1_4 t218 t219 _ A31.out).mono ?_); rintro e w34 ⟨rfl, hb⟩; refine ⟨_, rfl, ?_⟩; have n0_ := Aside0.mk (Kd.R_below (by (with_reducible repeat (first | apply Kd.R_alloc | apply Kd.R_drewN | apply Kd.R_drew)); exact HO_7.out) hb); have n1_ := Aside0.mk (blk_below (g := gb207) (o := .cells #[.int .u8 a1_0, .int .u8 a1_1, .int .u8 a1_2, .int .u8 a1_3, .int .u8 a1_4] 23 (0, 0)) (by (with_reducible repeat (first | refine blk_drewN ?_ _ | refine blk_drew ?_ | refine blk_alloc ?_ _)); exact BK207.out) hb); have n2_ := Aside0.mk (below_step (by repeat (first | (with_reducible first | exact HB.out | apply below_alloc | apply pw_below_drewN | apply below_drew1 | refine below_set ?_ GE207.out) | exact HB.out)) hb); clear HO_7; clear BK207; clear HB; have HO_7 := n0_; have BK207 := n1_; have HB := n2_; clear n0_ n1_ n2_; (try clear hb); (try clear hb2); (try clear hk); (try clear hi)))
                        (try simp only [Act.put, List.setIfInBounds_toArray, List.set_cons_zero, List.set_cons_succ])
                        go_cut [67] (fun v67 wc => ∃ (kq : Nat) (x67_31 : Bool), v67 = .bool x67_31 ∧ Aside0 (lamplighterlaw08_SegmentParts.j3 kq a0 (t209.length : Int) x6_2 t214 x8_3 t218 t219 x67_31 a1_0 a1_1 a1_2 a1_3 a1_4 = some r) ∧ Aside0 (kq ≤ k3) ∧ Aside0 (Kd.R Kd.string 9 wc w.heap.size (fun _ => True) (.slice Ao29 t214.length co29) t214) ∧ Aside0 (wc.heap[gb207]? = some (.cells #[.int .u8 a1_0, .int .u8 a1_1, .int .u8 a1_2, .int .u8 a1_3, .int .u8 a1_4] 23 (0, 0))) ∧ Aside0 (Below w.heap.size w wc))
                        case first =>
                          have H := HC32.out
                          clear HC32
                          by_cases c35 : x8_3 < 1
                          · rw [if_pos c35] at H
                            have c35b0 : decide (x8_3 < 1) = true := decide_eq_true c35
                            clear c35
                            (first | rw [c35b0] | (simp only [i64_w, i32_w]; rw [c35b0]) | skip)
                            have H' := Aside0.mk H
                            clear H
                            go_wp2
                            go_meet
                            case rel => exact ⟨_, (true), (by first | rfl | (simp; done) | (simp [*]; done)), H', ⟨by have := HJ7.out; have := HK2.out; have := HK3.out; first | omega | exact Nat.le_refl _⟩, ⟨by (with_reducible repeat (first | apply Kd.R_alloc | apply Kd.R_drewN | apply Kd.R_drew)); exact HO_7.out⟩, ⟨by (with_reducible repeat (first | refine blk_drewN ?_ _ | refine blk_drew ?_ | refine blk_alloc ?_ _)); exact BK207.out⟩, ⟨by repeat (first | (with_reducible first | exact HB.out | apply below_alloc | apply pw_below_drewN | apply below_drew1 | refine below_set ?_ GE207.out) | exact HB.out)⟩⟩
                          · rw [if_neg c35] at H
                            have c35b0 : decide (x8_3 < 1) = false := decide_eq_false c35
                            clear c35
                            (first | rw [c35b0] | (simp only [i64_w, i32_w]; rw [c35b0]) | skip)
                            have H' := Aside0.mk H
                            clear H
                            go_wp2
                            go_meet
                            case rel => exact ⟨_, (decide (x8_3 > (t214.length : Int))), (by first | rfl | (simp; done) | (simp [*]; done)), H', ⟨by have := HJ7.out; have := HK2.out; have := HK3.out; first | omega | exact Nat.le_refl _⟩, ⟨by (with_reducible repeat (first | apply Kd.R_alloc | apply Kd.R_drewN | apply Kd.R_drew)); exact HO_7.out⟩, ⟨by (with_reducible repeat (first | refine blk_drewN ?_ _ | refine blk_drew ?_ | refine blk_alloc ?_ _)); exact BK207.out⟩, ⟨by repeat (first | (with_reducible first | exact HB.out | apply below_alloc | apply pw_below_drewN | apply below_drew1 | refine below_set ?_ GE207.out) | exact HB.out)⟩⟩
                        case rest =>
                          clear HC32
                          try clear c1
                          try clear c2
                          try clear p2
                          try clear c3
                          try clear c3b0
                          try clear c3b1
                          try clear p6
                          try clear c7
                          try clear c14
                          try clear c20
                          try clear c21
                          try clear c21b0
                          try clear c22
                          try clear c24
                          try clear c24b0
                          try clear c24b1
                          try clear c25
                          try clear c27
                          try clear c28
                          try clear c29
                          try clear c30
                          try clear c30b0
                          try clear c35
                          try clear c35b0
                          try clear hcz10_0
                          try clear hcz10_1
                          try clear hcz10_2
                          try clear hcz10_3
                          try clear hcz10_4
                          try clear hcz17_0
                          try clear hcz17_1
                          try clear hcz17_2
                          try clear hcz17_3
                          try clear hcz17_4
                          try clear hcz25_0
                          try clear hcz25_1
                          try clear hcz25_2
                          try clear hcz25_3
                          try clear hcz25_4
                          try clear hcz27_0
                          try clear hcz27_1
                          try clear hcz27_2
                          try clear hcz27_3
                          try clear hcz27_4
                          try clear hcz33_0
                          try clear hcz33_1
                          try clear hcz33_2
                          try clear hcz33_3
                          try clear hcz33_4
                          try clear hfz10_0
                          try clear hfz10_1
                          try clear hfz10_2
                          try clear hfz10_3
                          try clear hfz10_4
                          try clear hfz17_0
                          try clear hfz17_1
                          try clear hfz17_2
                          try clear hfz17_3
                          try clear hfz17_4
                          try clear hfz25_0
                          try clear hfz25_1
                          try clear hfz25_2
                          try clear hfz25_3
                          try clear hfz25_4
                          try clear hfz27_0
                          try clear hfz27_1
                          try clear hfz27_2
                          try clear hfz27_3
                          try clear hfz27_4
                          try clear hfz33_0
                          try clear hfz33_1
                          try clear hfz33_2
                          try clear hfz33_3
                          try clear hfz33_4
                          try clear p2
                          try clear p6
                          obtain ⟨kq, x67_31, rfl, HA, HJ31, HO_7, BK207, HB⟩ := hcut
                          cases kq with
                          | zero => exact absurd HA.out (by simp [lamplighterlaw08_SegmentParts.j3])
                          | succ kj31 =>
                            have H := HA.out
                            clear HA
                            simp only [lamplighterlaw08_SegmentParts.j3] at H
                            by_cases c36 : x67_31 = true
                            · subst c36
                              have H1 : (if t219 = true then (some false) else (if t218.toList = ([] : List UInt8) then (lamplighterlaw08_SegmentParts.l1 kj31 a0 (t209.length : Int) x6_2 t214 (wrap64 (x8_3 + 1)) a1_0 a1_1 a1_2 a1_3 a1_4) else (some false))) = some r := by rw [if_pos rfl] at H; exact H
                              clear H
                              have H := H1
                              clear H1
                              by_cases c37 : t219 = true
                              · subst c37
                                have H1 : (some false) = some r := by rw [if_pos rfl] at H; exact H
                                clear H
                                have H := H1
                                clear H1
                                obtain rfl := Option.some.inj H
                                go_wp2
                                go_ret
                                exact ⟨by first | rfl | (simp [errW_none, errW_some] <;> rfl) | (simp [*, errW_none, errW_some] <;> rfl), by repeat (first | (with_reducible first | exact HB.out | apply below_alloc | apply pw_below_drewN | apply below_drew1 | refine below_set ?_ GE207.out) | exact HB.out)⟩
                              · replace c37 := Bool.eq_false_iff.mpr c37
                                subst c37
                                have H1 : (if t218.toList = ([] : List UInt8) then (lamplighterlaw08_SegmentParts.l1 kj31 a0 (t209.length : Int) x6_2 t214 (wrap64 (x8_3 + 1)) a1_0 a1_1 a1_2 a1_3 a1_4) else (some false)) = some r := by rw [if_neg (show ¬ (false = true) by decide)] at H; exact H
                                clear H
                                have H := H1
                                clear H1
                                by_cases c38 : t218.toList = ([] : List UInt8)
                                · rw [if_pos c38] at H
                                  have c38b0 : (t218.toList == ([] : List UInt8)) = true := beq_iff_eq.mpr c38
                                  have c38b1 : (t218.toList != ([] : List UInt8)) = false := bne_eq_false_iff_eq.mpr c38
                                  clear c38
                                  have H' := Aside0.mk H
                                  clear H
                                  go_wp2
                                  go_roundg kj31
                                  case measure => have := HJ7.out; have := HK2.out; have := HK3.out; have := HJ31.out; omega
                                  case rel => exact ⟨(wrap64 (x8_3 + 1)), (by first | rfl | (simp; done) | (simp [*]; done)), H', ⟨by have := HJ7.out; have := HK2.out; have := HK3.out; have := HJ31.out; omega⟩, ⟨by (with_reducible repeat (first | apply Kd.R_alloc | apply Kd.R_drewN | apply Kd.R_drew)); exact HO_7.out⟩, ⟨by (with_reducible repeat (first | refine blk_drewN ?_ _ | refine blk_drew ?_ | refine blk_alloc ?_ _)); exact BK207.out⟩, ⟨by repeat (first | (with_reducible first | exact HB.out | apply below_alloc | apply pw_below_drewN | apply below_drew1 | refine below_set ?_ GE207.out) | exact HB.out)⟩⟩
                                · rw [if_neg c38] at H
                                  have c38b0 : (t218.toList == ([] : List UInt8)) = false := beq_eq_false_iff_ne.mpr c38
                                  have c38b1 : (t218.toList != ([] : List UInt8)) = true := bne_iff_ne.mpr c38
                                  obtain rfl := Option.some.inj H
                                  go_wp2
                                  go_ret
                                  exact ⟨by first | rfl | (simp [errW_none, errW_some] <;> rfl) | (simp [*, errW_none, errW_some] <;> rfl), by repeat (first | (with_reducible first | exact HB.out | apply below_alloc | apply pw_below_drewN | apply below_drew1 | refine below_set ?_ GE207.out) | exact HB.out)⟩
                            · replace c36 := Bool.eq_false_iff.mpr c36
                              subst c36
                              have H1 : (if t219 = true then (if 0 ≤ (wrap64 (x8_3 - 1)) then (if (wrap64 (x8_3 - 1)) < (t214.length : Int) then (if t218.toList = (rdOf ByteArray.empty t214 (wrap64 (x8_3 - 1))).toList then (lamplighterlaw08_SegmentParts.l1 kj31 a0 (t209.length : Int) x6_2 t214 (wrap64 (x8_3 + 1)) a1_0 a1_1 a1_2 a1_3 a1_4) else (some false)) else (none)) else (none)) else (some false)) = some r := by rw [if_neg (show ¬ (false = true) by decide)] at H; exact H
                              clear H
                              have H := H1
                              clear H1
                              by_cases c39 : t219 = true
                              · subst c39
                                have H1 : (if 0 ≤ (wrap64 (x8_3 - 1)) then (if (wrap64 (x8_3 - 1)) < (t214.length : Int) then (if t218.toList = (rdOf ByteArray.empty t214 (wrap64 (x8_3 - 1))).toList then (lamplighterlaw08_SegmentParts.l1 kj31 a0 (t209.length : Int) x6_2 t214 (wrap64 (x8_3 + 1)) a1_0 a1_1 a1_2 a1_3 a1_4) else (some false)) else (none)) else (none)) = some r := by rw [if_pos rfl] at H; exact H
                                clear H
                                have H := H1
                                clear H1
                                obtain ⟨ji40, hji40⟩ : ∃ j_ : Int, (wrap64 (x8_3 - 1)) = j_ := ⟨_, rfl⟩
                                replace H : (if 0 ≤ (ji40) then (if (ji40) < (t214.length : Int) then (if t218.toList = (rdOf ByteArray.empty t214 (ji40)).toList then (lamplighterlaw08_SegmentParts.l1 kj31 a0 (t209.length : Int) x6_2 t214 (wrap64 (x8_3 + 1)) a1_0 a1_1 a1_2 a1_3 a1_4) else (some false)) else (none)) else (none)) = some r := by first | (rw [hji40] at H; exact H) | (simp only [hji40] at H ⊢; exact H)
                                have hji40w : (IntKind.i64.wrap (x8_3 - 1)) = ji40 := (i64_w _).trans hji40
                                by_cases c41 : 0 ≤ (ji40)
                                · rw [if_pos c41] at H
                                  have c41b0 : decide (0 ≤ (ji40)) = true := decide_eq_true c41
                                  clear c41
                                  by_cases c42 : (ji40) < (t214.length : Int)
                                  · rw [if_pos c42] at H
                                    have c42b0 : decide ((ji40) < (t214.length : Int)) = true := decide_eq_true c42
                                    clear c42
                                    by_cases c43 : t218.toList = (rdOf ByteArray.empty t214 (ji40)).toList
                                    · rw [if_pos c43] at H
                                      have c43b0 : (t218.toList == (rdOf ByteArray.empty t214 (ji40)).toList) = true := beq_iff_eq.mpr c43
                                      have c43b1 : (t218.toList != (rdOf ByteArray.empty t214 (ji40)).toList) = false := bne_eq_false_iff_eq.mpr c43
                                      clear c43
                                      have H' := Aside0.mk H
                                      clear H
                                      have p220 : 0 ≤ ((ji40) : Int) := of_decide_eq_true (by first | (with_reducible assumption) | assumption)
                                      have q220 : (ji40) < (t214.length : Int) := of_decide_eq_true (by first | (with_reducible assumption) | assumption)
                                      obtain ⟨ad220, e220, hx220_0⟩ := Kd.at_string (Kd.R_reads' HO_7.out).2.2 (ji40) p220 q220
                                      cases e220
                                      replace p220 := eq_true p220
                                      replace q220 := eq_true q220
                                      go_wp2
                                      go_roundg kj31
                                      case measure => have := HJ7.out; have := HK2.out; have := HK3.out; have := HJ31.out; omega
                                      case rel => exact ⟨(wrap64 (x8_3 + 1)), (by first | rfl | (simp; done) | (simp [*]; done)), H', ⟨by have := HJ7.out; have := HK2.out; have := HK3.out; have := HJ31.out; omega⟩, ⟨by (with_reducible repeat (first | apply Kd.R_alloc | apply Kd.R_drewN | apply Kd.R_drew)); exact HO_7.out⟩, ⟨by (with_reducible repeat (first | refine blk_drewN ?_ _ | refine blk_drew ?_ | refine blk_alloc ?_ _)); exact BK207.out⟩, ⟨by repeat (first | (with_reducible first | exact HB.out | apply below_alloc | apply pw_below_drewN | apply below_drew1 | refine below_set ?_ GE207.out) | exact HB.out)⟩⟩
                                    · rw [if_neg c43] at H
                                      have c43b0 : (t218.toList == (rdOf ByteArray.empty t214 (ji40)).toList) = false := beq_eq_false_iff_ne.mpr c43
                                      have c43b1 : (t218.toList != (rdOf ByteArray.empty t214 (ji40)).toList) = true := bne_iff_ne.mpr c43
                                      obtain rfl := Option.some.inj H
                                      have p220 : 0 ≤ ((ji40) : Int) := of_decide_eq_true (by first | (with_reducible assumption) | assumption)
                                      have q220 : (ji40) < (t214.length : Int) := of_decide_eq_true (by first | (with_reducible assumption) | assumption)
                                      obtain ⟨ad220, e220, hx220_0⟩ := Kd.at_string (Kd.R_reads' HO_7.out).2.2 (ji40) p220 q220
                                      cases e220
                                      replace p220 := eq_true p220
                                      replace q220 := eq_true q220
                                      go_wp2
                                      go_ret
                                      exact ⟨by first | rfl | (simp [errW_none, errW_some] <;> rfl) | (simp only [← hji40]; first | rfl | (simp [errW_none, errW_some] <;> rfl)) | (simp [*, errW_none, errW_some] <;> rfl), by repeat (first | (with_reducible first | exact HB.out | apply below_alloc | apply pw_below_drewN | apply below_drew1 | refine below_set ?_ GE207.out) | exact HB.out)⟩
                                  · rw [if_neg c42] at H
                                    exact absurd H (by simp)
                                · rw [if_neg c41] at H
                                  exact absurd H (by simp)
                              · replace c39 := Bool.eq_false_iff.mpr c39
                                subst c39
                                have H1 : (some false) = some r := by rw [if_neg (show ¬ (false = true) by decide)] at H; exact H
                                clear H
                                have H := H1
                                clear H1
                                obtain rfl := Option.some.inj H
                                go_wp2
                                go_ret
                                exact ⟨by first | rfl | (simp [errW_none, errW_some] <;> rfl) | (simp [*, errW_none, errW_some] <;> rfl), by repeat (first | (with_reducible first | exact HB.out | apply below_alloc | apply pw_below_drewN | apply below_drew1 | refine below_set ?_ GE207.out) | exact HB.out)⟩
                      · rw [if_neg c30] at H
                        have c30b0 : decide (x8_3 ≤ (wrap64 ((t214.length : Int) + 1))) = false := decide_eq_false c30
                        clear c30
                        have H' := Aside0.mk H
                        clear H
                        go_wp2
                        go_roundg k3
                        case measure => have := HJ7.out; have := HK2.out; have := HK3.out; omega
                        case rel => exact ⟨(wrap64 (x6_2 + 1)), (by first | rfl | (simp; done) | (simp [*]; done)), H', ⟨by have := HJ7.out; have := HK2.out; have := HK3.out; omega⟩, ⟨by (with_reducible repeat (first | refine blk_drewN ?_ _ | refine blk_drew ?_ | refine blk_alloc ?_ _)); exact BK207.out⟩, ⟨by repeat (first | (with_reducible first | exact HB.out | apply below_alloc | apply pw_below_drewN | apply below_drew1 | refine below_set ?_ GE207.out) | exact HB.out)⟩⟩
                · rw [if_neg c24] at H
                  have c24b0 : (t217 == (t214.length : Int)) = false := beq_eq_false_iff_ne.mpr c24
                  have c24b1 : (t217 != (t214.length : Int)) = true := bne_iff_ne.mpr c24
                  obtain rfl := Option.some.inj H
                  have hcz44_0 : wr.cell? ⟨gb207, 0, none⟩ = some (.int .u8 a1_0) := (blk_cell BK207.out 0).trans rfl
                  have hcz44_1 : wr.cell? ⟨gb207, 1, none⟩ = some (.int .u8 a1_1) := (blk_cell BK207.out 1).trans rfl
                  have hcz44_2 : wr.cell? ⟨gb207, 2, none⟩ = some (.int .u8 a1_2) := (blk_cell BK207.out 2).trans rfl
                  have hcz44_3 : wr.cell? ⟨gb207, 3, none⟩ = some (.int .u8 a1_3) := (blk_cell BK207.out 3).trans rfl
                  have hcz44_4 : wr.cell? ⟨gb207, 4, none⟩ = some (.int .u8 a1_4) := (blk_cell BK207.out 4).trans rfl
                  have hfz44_0 := blk_frozen BK207.out 0
                  have hfz44_1 := blk_frozen BK207.out 1
                  have hfz44_2 := blk_frozen BK207.out 2
                  have hfz44_3 := blk_frozen BK207.out 3
                  have hfz44_4 := blk_frozen BK207.out 4
                  go_wp2_with (first | ((with_reducible refine gate_callee (f := 27) rfl ?_); refine goesL_ (some 37) rfl rfl Try.func27 (by kernel_rfl) rfl #[.string a0, .int .i64 x6_2, .agg #[.int .u8 a1_0, .int .u8 a1_1, .int .u8 a1_2, .int .u8 a1_3, .int .u8 a1_4]] rfl (by (try simp only [List.map_toArray, List.map_cons, List.map_nil]); first | done | rfl | (simp only [List.length_drop, List.length_take]; rfl)) ?_; (with_reducible refine (lamplighterref08_Parts.calls k2 a0 x6_2 a1_0 a1_1 a1_2 a1_3 a1_4 t214 _ A22.out).mono ?_); rintro e w45 ⟨v215, rfl, ho0, hb⟩; refine ⟨_, rfl, ?_⟩; have n0_ := Aside0.mk (Kd.R_lower ho0 (below_size (by repeat (first | (with_reducible first | exact HB.out | apply below_alloc | apply pw_below_drewN | apply below_drew1 | refine below_set ?_ GE207.out) | exact HB.out)))); have n1_ := Aside0.mk (blk_below (g := gb207) (o := .cells #[.int .u8 a1_0, .int .u8 a1_1, .int .u8 a1_2, .int .u8 a1_3, .int .u8 a1_4] 23 (0, 0)) (by (with_reducible repeat (first | refine blk_drewN ?_ _ | refine blk_drew ?_ | refine blk_alloc ?_ _)); exact BK207.out) hb); have n2_ := Aside0.mk (below_step (by repeat (first | (with_reducible first | exact HB.out | apply below_alloc | apply pw_below_drewN | apply below_drew1 | refine below_set ?_ GE207.out) | exact HB.out)) hb); clear BK207; clear HB; have HO216 := n0_; have BK207 := n1_; have HB := n2_; clear n0_ n1_ n2_; (try clear hb); (try clear hb2); (try clear hk); (try clear hi); (try clear ho0); have hcz46_0 : w45.cell? ⟨gb207, 0, none⟩ = some (.int .u8 a1_0) := (blk_cell BK207.out 0).trans rfl; have hcz46_1 : w45.cell? ⟨gb207, 1, none⟩ = some (.int .u8 a1_1) := (blk_cell BK207.out 1).trans rfl; have hcz46_2 : w45.cell? ⟨gb207, 2, none⟩ = some (.int .u8 a1_2) := (blk_cell BK207.out 2).trans rfl; have hcz46_3 : w45.cell? ⟨gb207, 3, none⟩ = some (.int .u8 a1_3) := (blk_cell BK207.out 3).trans rfl; have hcz46_4 : w45.cell? ⟨gb207, 4, none⟩ = some (.int .u8 a1_4) := (blk_cell BK207.out 4).trans rfl; have hfz46_0 := blk_frozen BK207.out 0; have hfz46_1 := blk_frozen BK207.out 1; have hfz46_2 := blk_frozen BK207.out 2; have hfz46_3 := blk_frozen BK207.out 3; have hfz46_4 := blk_frozen BK207.out 4) | ((with_reducible refine gate_callee (f := 28) rfl ?_); refine goesL_ (some 41) rfl rfl Try.func28 (by kernel_rfl) rfl #[.string a0, .int .i64 x6_2, .agg #[.int .u8 a1_0, .int .u8 a1_1, .int .u8 a1_2, .int .u8 a1_3, .int .u8 a1_4]] rfl (by (try simp only [List.map_toArray, List.map_cons, List.map_nil]); first | done | rfl | (simp only [List.length_drop, List.length_take]; rfl)) ?_; (with_reducible refine (segment_Parts.calls a0 x6_2 a1_0 a1_1 a1_2 a1_3 a1_4 t217 _ A23.out).mono ?_); rintro e w47 ⟨rfl, hb⟩; refine ⟨_, rfl, ?_⟩; have n0_ := Aside0.mk (Kd.R_below (by (with_reducible repeat (first | apply Kd.R_alloc | apply Kd.R_drewN | apply Kd.R_drew)); exact HO216.out) hb); have n1_ := Aside0.mk (blk_below (g := gb207) (o := .cells #[.int .u8 a1_0, .int .u8 a1_1, .int .u8 a1_2, .int .u8 a1_3, .int .u8 a1_4] 23 (0, 0)) (by (with_reducible repeat (first | refine blk_drewN ?_ _ | refine blk_drew ?_ | refine blk_alloc ?_ _)); exact BK207.out) hb); have n2_ := Aside0.mk (below_step (by repeat (first | (with_reducible first | exact HB.out | apply below_alloc | apply pw_below_drewN | apply below_drew1 | refine below_set ?_ GE207.out) | exact HB.out)) hb); clear HO216; clear BK207; clear HB; have HO216 := n0_; have BK207 := n1_; have HB := n2_; clear n0_ n1_ n2_; (try clear hb); (try clear hb2); (try clear hk); (try clear hi); obtain ⟨Ao48, co48, eo48⟩ := Kd.R_slice HO216.out; subst eo48))
                  go_ret
                  exact ⟨by first | rfl | (simp [errW_none, errW_some] <;> rfl) | (simp [*, errW_none, errW_some] <;> rfl), by repeat (first | (with_reducible first | exact HB.out | apply below_alloc | apply pw_below_drewN | apply below_drew1 | refine below_set ?_ GE207.out) | exact HB.out)⟩
              · rw [if_neg c21] at H
                have c21b0 : decide (x6_2 ≤ (wrap64 ((t209.length : Int) + 1))) = false := decide_eq_false c21
                clear c21
                obtain rfl := Option.some.inj H
                go_wp2
                go_ret
                exact ⟨by first | rfl | (simp [errW_none, errW_some] <;> rfl) | (simp [*, errW_none, errW_some] <;> rfl), by repeat (first | (with_reducible first | exact HB.out | apply below_alloc | apply pw_below_drewN | apply below_drew1 | refine below_set ?_ GE207.out) | exact HB.out)⟩

-- NOT PRINTED: function 8 (lamplighterlaw08_SegmentNested)

/-! ### lamplighterlaw08_bytes: function 30 -/
def lamplighterlaw08_bytes.l0 : Nat → Int → List ByteArray → Int → Int → Option (Int)
  | 0, _, _, _, _ => none
  | k + 1, x3, x6, x7, x8 => if x8 < x7 then (if 0 ≤ x8 then (if x8 < (x6.length : Int) then (lamplighterlaw08_bytes.l0 k (wrap64 (x3 + (wrap64 (1 + ((rdOf ByteArray.empty x6 x8).size : Int))))) x6 x7 (wrap64 (x8 + 1))) else (none)) else (none)) else (some x3)
def lamplighterlaw08_bytes.f (k : Nat) (l0 : List ByteArray) : Option (Int) := lamplighterlaw08_bytes.l0 k 0 l0 (l0.length : Int) 0
theorem lamplighterlaw08_bytes.mono_l : ∀ k, (∀ y0 y1 y2 y3, LeO (lamplighterlaw08_bytes.l0 k y0 y1 y2 y3) (lamplighterlaw08_bytes.l0 (k + 1) y0 y1 y2 y3))
  | 0 => fun _ _ _ _ r h => by simp [lamplighterlaw08_bytes.l0] at h
  | k + 1 => by
    have ih0 := lamplighterlaw08_bytes.mono_l k
    · intro y0 y1 y2 y3
      unfold lamplighterlaw08_bytes.l0
      repeat' first
      | (with_reducible exact ih0 _ _ _ _)
      | (with_reducible exact LeO.refl _)
      | (with_reducible exact LeO.none _)
      | (with_reducible refine LeO.ite ?_ ?_)
      | (with_reducible refine LeO.bind ?_ (fun _ => ?_))
      | exact ih0 _ _ _ _
      | exact LeO.none _
      | refine LeO.ite ?_ ?_
      | refine LeO.bind ?_ (fun _ => ?_)
theorem lamplighterlaw08_bytes.mono : ∀ a0 k, LeO (lamplighterlaw08_bytes.f k a0) (lamplighterlaw08_bytes.f (k + 1) a0) := by
  intro a0 k
  have ih0 := lamplighterlaw08_bytes.mono_l k
  unfold lamplighterlaw08_bytes.f
  repeat' first
      | (with_reducible exact ih0 _ _ _ _)
      | (with_reducible exact LeO.refl _)
      | (with_reducible exact LeO.none _)
      | (with_reducible refine LeO.ite ?_ ?_)
      | (with_reducible refine LeO.bind ?_ (fun _ => ?_))
      | exact ih0 _ _ _ _
      | exact LeO.none _
      | refine LeO.ite ?_ ?_
      | refine LeO.bind ?_ (fun _ => ?_)
set_option maxHeartbeats 8000000 in
set_option maxRecDepth 100000 in
theorem lamplighterlaw08_bytes.calls (k : Nat) (A0 : Option Addr) (c0 : Nat) (l0 : List ByteArray) (r : Int) (w : World) (hr0 : Kd.C Kd.string w A0 l0.length l0) (hc0 : l0.length ≤ c0) (h : lamplighterlaw08_bytes.f k l0 = some r) :
    Calls Try.prog 30 #[.slice A0 l0.length c0] w fun e w' => e = .returned (.int .i64 r) ∧ Drawn0 w w' := by
  have HR0 := Aside0.mk hr0
  have HC0 := Aside0.mk hc0
  clear hr0 hc0
  have H : (lamplighterlaw08_bytes.l0 k 0 l0 (l0.length : Int) 0) = some r := h
  clear h
  have H' := Aside0.mk H
  clear H
  go_enter Try.func30, Try.ntmps30
  go_wp2
  go_loopg [3, 8] k (fun kq v3 v8 w' => ∃ (x3_1 : Int) (x8_1 : Int), v3 = .int .i64 x3_1 ∧ v8 = .int .i64 x8_1 ∧ Aside0 (lamplighterlaw08_bytes.l0 kq x3_1 l0 (l0.length : Int) x8_1 = some r) ∧ Aside0 (kq ≤ k) ∧ Drawn0 w w')
  case atStart => exact ⟨(0), (0), (by first | rfl | (simp; done) | (simp [*]; done)), (by first | rfl | (simp; done) | (simp [*]; done)), H', ⟨Nat.le_refl _⟩, by repeat (first | exact Drawn0.refl _ | apply Drawn0.step)⟩
  case round =>
    clear H'
    obtain ⟨x3_1, x8_1, rfl, rfl, HA, HK1, ⟨m1, rfl⟩⟩ := hrel
    cases gk with
    | zero => exact absurd HA.out (by simp [lamplighterlaw08_bytes.l0])
    | succ k1 =>
      have H := HA.out
      clear HA
      simp only [lamplighterlaw08_bytes.l0] at H
      by_cases c2 : x8_1 < (l0.length : Int)
      · rw [if_pos c2] at H
        have c2b0 : decide (x8_1 < (l0.length : Int)) = true := decide_eq_true c2
        clear c2
        by_cases c3 : 0 ≤ x8_1
        · rw [if_pos c3] at H
          have c3b0 : decide (0 ≤ x8_1) = true := decide_eq_true c3
          clear c3
          by_cases c4 : x8_1 < (l0.length : Int)
          · rw [if_pos c4] at H
            have c4b0 : decide (x8_1 < (l0.length : Int)) = true := decide_eq_true c4
            clear c4
            have H' := Aside0.mk H
            clear H
            have p238 : 0 ≤ (x8_1 : Int) := of_decide_eq_true (by first | (with_reducible assumption) | assumption)
            have q238 : x8_1 < (l0.length : Int) := of_decide_eq_true (by first | (with_reducible assumption) | assumption)
            obtain ⟨ad238, e238, hx238_0⟩ := Kd.at_string HR0.out x8_1 p238 q238
            cases e238
            replace p238 := eq_true p238
            replace q238 := eq_true q238
            go_wp2
            go_roundg k1
            case measure => have := HK1.out; omega
            case rel => exact ⟨(wrap64 (x3_1 + (wrap64 (1 + ((rdOf ByteArray.empty l0 x8_1).size : Int))))), (wrap64 (x8_1 + 1)), (by first | rfl | (simp; done) | (simp [*]; done)), (by first | rfl | (simp; done) | (simp [*]; done)), H', ⟨by have := HK1.out; omega⟩, by repeat (first | exact Drawn0.refl _ | apply Drawn0.step)⟩
          · rw [if_neg c4] at H
            exact absurd H (by simp)
        · rw [if_neg c3] at H
          exact absurd H (by simp)
      · rw [if_neg c2] at H
        have c2b0 : decide (x8_1 < (l0.length : Int)) = false := decide_eq_false c2
        clear c2
        obtain rfl := Option.some.inj H
        go_wp2
        go_ret
        exact ⟨by first | rfl | (simp; done) | (simp [*]; done), by repeat (first | exact Drawn0.refl _ | apply Drawn0.step)⟩

/-! ### lamplighterref08_Name: function 31 -/
def lamplighterref08_Name.f (a0 : ByteArray) : Option (ByteArray) := if (a0.size : Int) < 3 then (some a0) else (if 0 ≤ 3 then (if 3 ≤ (a0.size : Int) then (some (a0.extract 0 3)) else (none)) else (none))
set_option maxHeartbeats 8000000 in
set_option maxRecDepth 100000 in
theorem lamplighterref08_Name.calls (a0 : ByteArray) (r : ByteArray) (w : World) (h : lamplighterref08_Name.f a0 = some r) :
    Calls Try.prog 31 #[.string a0] w fun e w' => e = .returned (.string r) ∧ Drawn0 w w' := by
  have H : (if (a0.size : Int) < 3 then (some a0) else (if 0 ≤ 3 then (if 3 ≤ (a0.size : Int) then (some (a0.extract 0 3)) else (none)) else (none))) = some r := h
  clear h
  by_cases c2 : (a0.size : Int) < 3
  · rw [if_pos c2] at H
    have c2b0 : decide ((a0.size : Int) < 3) = true := decide_eq_true c2
    have c2b1 : decide (a0.size < 3) = true := decide_eq_true (by omega)
    clear c2
    obtain rfl := Option.some.inj H
    go_enter Try.func31, Try.ntmps31
    go_wp2
    go_ret
    exact ⟨by first | rfl | (simp; done) | (simp [*]; done), by repeat (first | exact Drawn0.refl _ | apply Drawn0.step)⟩
  · rw [if_neg c2] at H
    have c2b0 : decide ((a0.size : Int) < 3) = false := decide_eq_false c2
    have c2b1 : decide (a0.size < 3) = false := decide_eq_false (by omega)
    clear c2
    by_cases c3 : 0 ≤ 3
    · rw [if_pos c3] at H
      have c3b0 := eq_true c3
      have c3b1 : decide (0 ≤ 3) = true := decide_eq_true c3
      clear c3
      by_cases c4 : 3 ≤ (a0.size : Int)
      · rw [if_pos c4] at H
        have c4b0 := eq_true c4
        have c4b1 : decide (3 ≤ (a0.size : Int)) = true := decide_eq_true c4
        clear c4
        obtain rfl := Option.some.inj H
        go_enter Try.func31, Try.ntmps31
        go_wp2
        go_ret
        exact ⟨by first | rfl | (simp; done) | (simp [*]; done), by repeat (first | exact Drawn0.refl _ | apply Drawn0.step)⟩
      · rw [if_neg c4] at H
        exact absurd H (by simp)
    · rw [if_neg c3] at H
      exact absurd H (by simp)

end Go.Proofs.Ytlildjmkeccjjaa.PD
