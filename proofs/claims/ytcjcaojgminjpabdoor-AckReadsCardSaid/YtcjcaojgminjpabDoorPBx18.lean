-- Written by a program of this work (the kit's print, with contracts of this work's own taken in) out of the translation. Not trusted: Lean checks it.
import Derived.Test.YtcjcaojgminjpabDoorPBx0
import Derived.Test.YtcjcaojgminjpabDoorPBx2
import Derived.Test.YtcjcaojgminjpabDoorPBx14
import Derived.Test.YtcjcaojgminjpabDoorPBx15
import Derived.Test.YtcjcaojgminjpabDoorPBx17
namespace Go.Proofs.YtcjcaojgminjpabDoor.PB
open Go.RowKit Go.Proofs.YtcjcaojgminjpabDoorW.PrintWords Go.Proofs.YtcjcaojgminjpabDoorW.PrintLast Go.Proofs.YtcjcaojgminjpabDoorW.PrintMore
set_option maxHeartbeats 8000000
set_option maxRecDepth 100000
attribute [local go_sem] max2_int min2_int max_two min_two max_three min_three max_four min_four   -- for this text's walks alone
set_option linter.unusedVariables false
set_option linter.unusedSimpArgs false

attribute [local go_sem high] eqA45
/-! ### lamplighterlaw10_AckReads: function 5 -/
def lamplighterlaw10_AckReads.f (k : Nat) (l0 : List Int) : Option (Bool) := if (l0.length : Int) > 3000 then ((lamplighterlaw10_alive.f k).bind fun t336 => (some t336)) else ((ack_Read.f k l0).bind fun bt337 => ((lamplighterref10_Read.f k l0).bind fun bt341 => ((lamplighterlaw10_alive.f k).bind fun t345 => (if t345 = true then (if (bt337.1.toList == bt341.1.toList && (bt337.2.1.toList == bt341.2.1.toList)) = true then (some (bt337.2.2 == bt341.2.2)) else (some false)) else (some false)))))
theorem lamplighterlaw10_AckReads.mono : ∀ a0 k, LeO (lamplighterlaw10_AckReads.f k a0) (lamplighterlaw10_AckReads.f (k + 1) a0) := by
 intro a0 k
 unfold lamplighterlaw10_AckReads.f
 repeat' first
   | (with_reducible exact ack_Read.mono _ _)
   | (with_reducible exact lamplighterlaw10_alive.mono _)
   | (with_reducible exact lamplighterref10_Read.mono _ _)
   | (with_reducible exact LeO.refl _)
   | (with_reducible exact LeO.none _)
   | (with_reducible refine LeO.ite ?_ ?_)
   | (with_reducible refine LeO.bind ?_ (fun _ => ?_))
   | exact ack_Read.mono _ _
   | exact lamplighterlaw10_alive.mono _
   | exact lamplighterref10_Read.mono _ _
   | exact LeO.none _
   | refine LeO.ite ?_ ?_
   | refine LeO.bind ?_ (fun _ => ?_)
theorem lamplighterlaw10_AckReads.calls (k : Nat) (A0 : Option Addr) (c0 : Nat) (l0 : List Int) (r : Bool) (w : World) (hr0 : Kd.C (Kd.int .u8) w A0 l0.length l0) (hc0 : l0.length ≤ c0) (h : lamplighterlaw10_AckReads.f k l0 = some r) (hrt : r = true) (hGC : GlobC w) :
  Calls Tryd.prog 5 #[.slice A0 l0.length c0] w fun e w' => e = .returned (.bool r) ∧ Below w.heap.size w w' := by
 have HGLOC := Lib.hid hGC
 clear hGC
 have hu45 := Tryd.underlying45
 have HR0 := Aside0.mk hr0
 have HC0 := Aside0.mk hc0
 clear hr0 hc0
 have HB := Aside0.mk (Below.refl w.heap.size w)
 have H : (if (l0.length : Int) > 3000 then ((lamplighterlaw10_alive.f k).bind fun t336 => (some t336)) else ((ack_Read.f k l0).bind fun bt337 => ((lamplighterref10_Read.f k l0).bind fun bt341 => ((lamplighterlaw10_alive.f k).bind fun t345 => (if t345 = true then (if (bt337.1.toList == bt341.1.toList && (bt337.2.1.toList == bt341.2.1.toList)) = true then (some (bt337.2.2 == bt341.2.2)) else (some false)) else (some false)))))) = some r := h
 clear h
 by_cases c2 : (l0.length : Int) > 3000
 ·rw [if_pos c2] at H
  have c2b0 : decide (3000 < (l0.length : Int)) = true := decide_eq_true c2
  have c2b1 : decide (3000 < l0.length) = true := decide_eq_true (by omega)
  clear c2
  replace H := Option.bind_eq_some_iff.mp H
  obtain ⟨t336, A30, H⟩ := H
  replace H : (some t336) = some r := H
  have A3 := Aside0.mk A30
  clear A30
  obtain rfl := Option.some.inj H
  clear hrt
  go_enter Tryd.func5, Tryd.ntmps5
  go_wp2_with (first | ((with_reducible refine gate_callee (f := 18) rfl ?_); refine goesL_ (some 10) rfl rfl Tryd.func18 (by kernel_rfl) rfl #[] rfl (by (try simp only [List.map_toArray, List.map_cons, List.map_nil]); first | done | rfl | (simp only [List.length_drop, List.length_take]; rfl)) ?_; (with_reducible refine (lamplighterlaw10_alive.calls k  t336 _ A3.out (globc_below HGLOC.out (by repeat (first | (with_reducible first | exact HB.out | apply bA | apply bN | apply bD) | exact HB.out)))).mono ?_); rintro e w4 ⟨rfl, hb⟩; refine ⟨_, rfl, ?_⟩; have n0_ := Aside0.mk (below_step (by repeat (first | (with_reducible first | exact HB.out | apply bA | apply bN | apply bD) | exact HB.out)) hb); clear HB; have HB := n0_; clear n0_; (try clear hb)))
  go_ret
  exact ⟨by first | rfl | (simp [errW_none, errW_some] <;> rfl) | (simp [*, errW_none, errW_some] <;> rfl), by repeat (first | (with_reducible first | exact HB.out | apply bA | apply bN | apply bD) | exact HB.out)⟩
 ·rw [if_neg c2] at H
  have c2b0 : decide (3000 < (l0.length : Int)) = false := decide_eq_false c2
  have c2b1 : decide (3000 < l0.length) = false := decide_eq_false (by omega)
  clear c2
  replace H := Option.bind_eq_some_iff.mp H
  obtain ⟨⟨t337, t338, t339⟩, A50, H⟩ := H
  replace H : ((lamplighterref10_Read.f k l0).bind fun bt341 => ((lamplighterlaw10_alive.f k).bind fun t345 => (if t345 = true then (if (t337.toList == bt341.1.toList && (t338.toList == bt341.2.1.toList)) = true then (some (t339 == bt341.2.2)) else (some false)) else (some false)))) = some r := H
  have A5 := Aside0.mk A50
  clear A50
  replace H := Option.bind_eq_some_iff.mp H
  obtain ⟨⟨t341, t342, t343⟩, A60, H⟩ := H
  replace H : ((lamplighterlaw10_alive.f k).bind fun t345 => (if t345 = true then (if (t337.toList == t341.toList && (t338.toList == t342.toList)) = true then (some (t339 == t343)) else (some false)) else (some false))) = some r := H
  have A6 := Aside0.mk A60
  clear A60
  replace H := Option.bind_eq_some_iff.mp H
  obtain ⟨t345, A70, H⟩ := H
  replace H : (if t345 = true then (if (t337.toList == t341.toList && (t338.toList == t342.toList)) = true then (some (t339 == t343)) else (some false)) else (some false)) = some r := H
  have A7 := Aside0.mk A70
  clear A70
  by_cases c8 : t345 = true
  ·subst c8
   have H1 : (if (t337.toList == t341.toList && (t338.toList == t342.toList)) = true then (some (t339 == t343)) else (some false)) = some r := by rw [if_pos rfl] at H; exact H
   clear H
   have H := H1
   clear H1
   by_cases c9 : (t337.toList == t341.toList && (t338.toList == t342.toList)) = true
   ·rw [if_pos c9] at H
    have c9b0 : (t337.toList == t341.toList && (t338.toList == t342.toList)) = true := c9
    (try (have c9b1 : decide (t337.toList = t341.toList && (t338.toList == t342.toList)) = true := by simpa using c9))
    (try (have c9b2 : (t337.toList == t341.toList && (t338.toList == t342.toList)) = true := by simpa using c9))
    clear c9
    obtain rfl := Option.some.inj H
    clear hrt
    go_enter Tryd.func5, Tryd.ntmps5
    go_wp2_with (first | ((with_reducible refine gate_callee (f := 19) rfl ?_); refine goesL_ (some 13) rfl rfl Tryd.func19 (by kernel_rfl) rfl #[.slice A0 l0.length c0] rfl (by (try simp only [List.map_toArray, List.map_cons, List.map_nil]); first | done | rfl | (simp only [List.length_drop, List.length_take]; rfl)) ?_; (with_reducible refine (ack_Read.calls k _ _ l0 t337 t338 t339 _ ?side1 ?side2 A5.out (globc_below HGLOC.out (by repeat (first | (with_reducible first | exact HB.out | apply bA | apply bN | apply bD) | exact HB.out)))).mono ?_); (case side1 => repeat (first | exact HR0.out | (with_reducible refine Kd.C_alloc ?_ _) | (with_reducible refine Kd.C_drewN ?_ _) | (with_reducible refine Kd.C_drew ?_))); (case side2 => exact HC0.out); rintro e w10 ⟨rfl, hb⟩; refine ⟨_, rfl, ?_⟩; have n0_ := Aside0.mk (below_step (by repeat (first | (with_reducible first | exact HB.out | apply bA | apply bN | apply bD) | exact HB.out)) hb); clear HB; have HB := n0_; clear n0_; (try clear hb)) | ((with_reducible refine gate_dst (N := 3) rfl ?_); refine box_event ?hg (N := 3) ?hd (cs := #[.string (⟨#[]⟩ : ByteArray), .string (⟨#[]⟩ : ByteArray)]) (t := 45) ?hr ?_; (case hd => rfl); (case hg => rfl); (case hr => first | (go_simp; done) | (go_simp; rfl)); intro gb340 hg w11 hbox hb; have n0_ := Aside0.mk (below_step (by repeat (first | (with_reducible first | exact HB.out | apply bA | apply bN | apply bD) | exact HB.out)) hb); have n1_ := Aside0.mk (hbox); have n2_ := Aside0.mk ((by rw [hg]; exact (below_size (by repeat (first | (with_reducible first | exact HB.out | apply bA | apply bN | apply bD) | exact HB.out))) : w.heap.size ≤ gb340)); have n3_ := Aside0.mk ((by rw [hg]; exact (below_size (by repeat (first | (with_reducible first | exact HB.out | apply bA | apply bN | apply bD) | exact HB.out))) : w.heap.size ≤ gb340)); clear HB; have HB := n0_; have BK340 := n1_; have GW340 := n2_; have GE340 := n3_; clear n0_ n1_ n2_ n3_; clear hb hbox hg; have hcz12_0 : w11.cell? ⟨gb340, 0, none⟩ = some (.string (⟨#[]⟩ : ByteArray)) := blk_cell BK340.out 0; have hcz12_1 : w11.cell? ⟨gb340, 1, none⟩ = some (.string (⟨#[]⟩ : ByteArray)) := blk_cell BK340.out 1; have hfz12_0 := blk_frozen BK340.out 0; have hfz12_1 := blk_frozen BK340.out 1) | ((with_reducible refine gate_callee (f := 20) rfl ?_); refine goesL_ (some 18) rfl rfl Tryd.func20 (by kernel_rfl) rfl #[.slice A0 l0.length c0] rfl (by (try simp only [List.map_toArray, List.map_cons, List.map_nil]); first | done | rfl | (simp only [List.length_drop, List.length_take]; rfl)) ?_; (with_reducible refine (lamplighterref10_Read.calls k _ _ l0 t341 t342 t343 _ ?side1 ?side2 A6.out).mono ?_); (case side1 => exact Kd.C_below HR0.out (by repeat (first | (with_reducible first | exact HB.out | apply bA | apply bN | apply bD | refine below_set ?_ GE340.out) | exact HB.out))); (case side2 => exact HC0.out); rintro e w13 ⟨rfl, hb⟩; refine ⟨_, rfl, ?_⟩; have n0_ := Aside0.mk (blk_below (g := gb340) (o := .cells #[.string t337, .string t338] 45 (0, 0)) (by (with_reducible repeat (first | refine kN ?_ _ | refine kD ?_ | refine kA ?_ _)); refine blk_put (cs := #[.string t337, .string (⟨#[]⟩ : ByteArray)]) ?_ 1 _ rfl; (with_reducible repeat (first | refine kN ?_ _ | refine kD ?_ | refine kA ?_ _)); refine blk_put (cs := #[.string (⟨#[]⟩ : ByteArray), .string (⟨#[]⟩ : ByteArray)]) ?_ 0 _ rfl; (with_reducible repeat (first | refine kN ?_ _ | refine kD ?_ | refine kA ?_ _)); exact BK340.out) hb); have n1_ := Aside0.mk (below_step (by repeat (first | (with_reducible first | exact HB.out | apply bA | apply bN | apply bD | refine below_set ?_ GE340.out) | exact HB.out)) hb); clear BK340; clear HB; have BK340 := n0_; have HB := n1_; clear n0_ n1_; (try clear hb)) | ((with_reducible refine gate_dst (N := 5) rfl ?_); refine box_event ?hg (N := 5) ?hd (cs := #[.string (⟨#[]⟩ : ByteArray), .string (⟨#[]⟩ : ByteArray)]) (t := 45) ?hr ?_; (case hd => rfl); (case hg => rfl); (case hr => first | (go_simp; done) | (go_simp; rfl)); intro gb344 hg w14 hbox hb; have n0_ := Aside0.mk (blk_below (g := gb340) (o := .cells #[.string t337, .string t338] 45 (0, 0)) (by (with_reducible repeat (first | refine kN ?_ _ | refine kD ?_ | refine kA ?_ _)); exact BK340.out) hb); have n1_ := Aside0.mk (below_step (by repeat (first | (with_reducible first | exact HB.out | apply bA | apply bN | apply bD | refine below_set ?_ GE340.out) | exact HB.out)) hb); have n2_ := Aside0.mk (hbox); have n3_ := Aside0.mk ((by rw [hg]; exact (below_size (by repeat (first | (with_reducible first | exact HB.out | apply bA | apply bN | apply bD | refine below_set ?_ GE340.out) | exact HB.out))) : w.heap.size ≤ gb344)); have n4_ := Aside0.mk ((by rw [hg]; exact (below_size (by repeat (first | (with_reducible first | exact HB.out | apply bA | apply bN | apply bD | refine below_set ?_ GE340.out) | exact HB.out))) : w.heap.size ≤ gb344)); have n5_ := Aside0.mk ((by rw [hg]; exact Nat.ne_of_lt (blk_lt (g := gb340) (o := .cells #[.string t337, .string t338] 45 (0, 0)) (by (with_reducible repeat (first | refine kN ?_ _ | refine kD ?_ | refine kA ?_ _)); exact BK340.out)) : gb340 ≠ gb344)); have n6_ := Aside0.mk ((by rw [hg]; exact Nat.ne_of_gt (blk_lt (g := gb340) (o := .cells #[.string t337, .string t338] 45 (0, 0)) (by (with_reducible repeat (first | refine kN ?_ _ | refine kD ?_ | refine kA ?_ _)); exact BK340.out)) : gb344 ≠ gb340)); clear BK340; clear HB; have BK340 := n0_; have HB := n1_; have BK344 := n2_; have GW344 := n3_; have GE344 := n4_; have NB340_344 := n5_; have NB344_340 := n6_; clear n0_ n1_ n2_ n3_ n4_ n5_ n6_; clear hb hbox hg; have hnb15 := NB344_340.out; have hnc15 := NB340_344.out; have hcz16_0 : w14.cell? ⟨gb344, 0, none⟩ = some (.string (⟨#[]⟩ : ByteArray)) := blk_cell BK344.out 0; have hcz16_1 : w14.cell? ⟨gb344, 1, none⟩ = some (.string (⟨#[]⟩ : ByteArray)) := blk_cell BK344.out 1; have hfz16_0 := blk_frozen BK344.out 0; have hfz16_1 := blk_frozen BK344.out 1) | ((with_reducible refine gate_callee (f := 18) rfl ?_); refine goesL_ (some 21) rfl rfl Tryd.func18 (by kernel_rfl) rfl #[] rfl (by (try simp only [List.map_toArray, List.map_cons, List.map_nil]); first | done | rfl | (simp only [List.length_drop, List.length_take]; rfl)) ?_; (with_reducible refine (lamplighterlaw10_alive.calls k  true _ A7.out (globc_below HGLOC.out (by repeat (first | (with_reducible first | exact HB.out | apply bA | apply bN | apply bD | refine below_set ?_ GE340.out | refine below_set ?_ GE344.out) | exact HB.out)))).mono ?_); rintro e w17 ⟨rfl, hb⟩; refine ⟨_, rfl, ?_⟩; have n0_ := Aside0.mk (blk_below (g := gb340) (o := .cells #[.string t337, .string t338] 45 (0, 0)) (by (with_reducible repeat (first | refine kN ?_ _ | refine kD ?_ | refine kA ?_ _)); refine blk_far ?_ NB340_344.out _; (with_reducible repeat (first | refine kN ?_ _ | refine kD ?_ | refine kA ?_ _)); refine blk_far ?_ NB340_344.out _; (with_reducible repeat (first | refine kN ?_ _ | refine kD ?_ | refine kA ?_ _)); exact BK340.out) hb); have n1_ := Aside0.mk (blk_below (g := gb344) (o := .cells #[.string t341, .string t342] 45 (0, 0)) (by (with_reducible repeat (first | refine kN ?_ _ | refine kD ?_ | refine kA ?_ _)); refine blk_put (cs := #[.string t341, .string (⟨#[]⟩ : ByteArray)]) ?_ 1 _ rfl; (with_reducible repeat (first | refine kN ?_ _ | refine kD ?_ | refine kA ?_ _)); refine blk_put (cs := #[.string (⟨#[]⟩ : ByteArray), .string (⟨#[]⟩ : ByteArray)]) ?_ 0 _ rfl; (with_reducible repeat (first | refine kN ?_ _ | refine kD ?_ | refine kA ?_ _)); exact BK344.out) hb); have n2_ := Aside0.mk (below_step (by repeat (first | (with_reducible first | exact HB.out | apply bA | apply bN | apply bD | refine below_set ?_ GE340.out | refine below_set ?_ GE344.out) | exact HB.out)) hb); clear BK340; clear BK344; clear HB; have BK340 := n0_; have BK344 := n1_; have HB := n2_; clear n0_ n1_ n2_; (try clear hb); have hcz18_0 : w17.cell? ⟨gb340, 0, none⟩ = some (.string t337) := blk_cell BK340.out 0; have hcz18_1 : w17.cell? ⟨gb340, 1, none⟩ = some (.string t338) := blk_cell BK340.out 1; have hfz18_0 := blk_frozen BK340.out 0; have hfz18_1 := blk_frozen BK340.out 1; have hcz19_0 : w17.cell? ⟨gb344, 0, none⟩ = some (.string t341) := blk_cell BK344.out 0; have hcz19_1 : w17.cell? ⟨gb344, 1, none⟩ = some (.string t342) := blk_cell BK344.out 1; have hfz19_0 := blk_frozen BK344.out 0; have hfz19_1 := blk_frozen BK344.out 1))
    go_ret
    exact ⟨by first | rfl | (simp [errW_none, errW_some] <;> rfl) | (simp [*, errW_none, errW_some] <;> rfl), by repeat (first | (with_reducible first | exact HB.out | apply bA | apply bN | apply bD | refine below_set ?_ GE340.out | refine below_set ?_ GE344.out) | exact HB.out)⟩
   ·rw [if_neg c9] at H
    have c9b0 : (t337.toList == t341.toList && (t338.toList == t342.toList)) = false := by simpa using c9
    (try (have c9b1 : decide (t337.toList = t341.toList && (t338.toList == t342.toList)) = false := by simpa using c9))
    (try (have c9b2 : (t337.toList == t341.toList && (t338.toList == t342.toList)) = false := by simpa using c9))
    (try (have c9b3 : ¬ (t337.toList = t341.toList && (t338.toList == t342.toList)) := by simpa using c9))
    clear c9
    obtain rfl := Option.some.inj H
    cases hrt
  ·replace c8 := Bool.eq_false_iff.mpr c8
   subst c8
   have H1 : (some false) = some r := by rw [if_neg (show ¬ (false = true) by decide)] at H; exact H
   clear H
   have H := H1
   clear H1
   obtain rfl := Option.some.inj H
   cases hrt

end Go.Proofs.YtcjcaojgminjpabDoor.PB
