-- Written by a program of this work (the kit's print, with contracts of this work's own taken in) out of the translation. Not trusted: Lean checks it.
import Derived.Test.YtcjcaojgminjpaaDoorPAx0
import Derived.Test.YtcjcaojgminjpaaDoorPAx2
import Derived.Test.YtcjcaojgminjpaaDoorPAx4
import Derived.Test.YtcjcaojgminjpaaDoorPAx6
import Derived.Test.YtcjcaojgminjpaaDoorPAx8
import Derived.Test.YtcjcaojgminjpaaDoorPAx13
namespace Go.Proofs.YtcjcaojgminjpaaDoor.PA
open Go.RowKit Go.Proofs.YtcjcaojgminjpaaDoorW.PrintWords Go.Proofs.YtcjcaojgminjpaaDoorW.PrintLast Go.Proofs.YtcjcaojgminjpaaDoorW.PrintMore
attribute [local go_sem] max2_int min2_int max_two min_two max_three min_three max_four min_four   -- for this text's walks alone
set_option linter.unusedVariables false
set_option linter.unusedSimpArgs false

attribute [local go_sem high] eqA25
/-! ### lamplighterlaw09_MshReads: function 4 -/
def lamplighterlaw09_MshReads.f (k : Nat) (l0 : List Int) : Option (Bool) := if (l0.length : Int) > 3000 then ((lamplighterlaw09_alive.f k).bind fun t211 => (some t211)) else ((msh_Read.f k l0).bind fun bt212 => ((lamplighterref09_Read.f k l0).bind fun bt229 => ((lamplighterlaw09_alive.f k).bind fun t246 => (if t246 = true then (if ((bt212.1 == bt229.1 && (bt212.2.1 == bt229.2.1 && (bt212.2.2.1 == bt229.2.2.1 && (bt212.2.2.2.1 == bt229.2.2.2.1 && (bt212.2.2.2.2.1 == bt229.2.2.2.2.1))))) && (bt212.2.2.2.2.2.1.toList == bt229.2.2.2.2.2.1.toList && (bt212.2.2.2.2.2.2.1.toList == bt229.2.2.2.2.2.2.1.toList && (bt212.2.2.2.2.2.2.2.1.toList == bt229.2.2.2.2.2.2.2.1.toList && (bt212.2.2.2.2.2.2.2.2.1.toList == bt229.2.2.2.2.2.2.2.2.1.toList && (bt212.2.2.2.2.2.2.2.2.2.1.toList == bt229.2.2.2.2.2.2.2.2.2.1.toList && (bt212.2.2.2.2.2.2.2.2.2.2.1.toList == bt229.2.2.2.2.2.2.2.2.2.2.1.toList && (bt212.2.2.2.2.2.2.2.2.2.2.2.1.toList == bt229.2.2.2.2.2.2.2.2.2.2.2.1.toList && (bt212.2.2.2.2.2.2.2.2.2.2.2.2.1.toList == bt229.2.2.2.2.2.2.2.2.2.2.2.2.1.toList && (bt212.2.2.2.2.2.2.2.2.2.2.2.2.2.1.toList == bt229.2.2.2.2.2.2.2.2.2.2.2.2.2.1.toList && (bt212.2.2.2.2.2.2.2.2.2.2.2.2.2.2.1.toList == bt229.2.2.2.2.2.2.2.2.2.2.2.2.2.2.1.toList))))))))))) = true then (some (bt212.2.2.2.2.2.2.2.2.2.2.2.2.2.2.2 == bt229.2.2.2.2.2.2.2.2.2.2.2.2.2.2.2)) else (some false)) else (some false)))))
theorem lamplighterlaw09_MshReads.mono : ∀ a0 k, LeO (lamplighterlaw09_MshReads.f k a0) (lamplighterlaw09_MshReads.f (k + 1) a0) := by
  intro a0 k
  unfold lamplighterlaw09_MshReads.f
  repeat' first
      | (with_reducible exact lamplighterlaw09_alive.mono _)
      | (with_reducible exact lamplighterref09_Read.mono _ _)
      | (with_reducible exact msh_Read.mono _ _)
      | (with_reducible exact LeO.refl _)
      | (with_reducible exact LeO.none _)
      | (with_reducible refine LeO.ite ?_ ?_)
      | (with_reducible refine LeO.bind ?_ (fun _ => ?_))
      | exact lamplighterlaw09_alive.mono _
      | exact lamplighterref09_Read.mono _ _
      | exact msh_Read.mono _ _
      | exact LeO.none _
      | refine LeO.ite ?_ ?_
      | refine LeO.bind ?_ (fun _ => ?_)
set_option maxHeartbeats 8000000 in
set_option maxRecDepth 100000 in
theorem lamplighterlaw09_MshReads.calls (k : Nat) (A0 : Option Addr) (c0 : Nat) (l0 : List Int) (r : Bool) (w : World) (hr0 : Kd.C (Kd.int .u8) w A0 l0.length l0) (hc0 : l0.length ≤ c0) (h : lamplighterlaw09_MshReads.f k l0 = some r) (hrt : r = true) (hG : GlobOK w) :
    Calls Tryd.prog 4 #[.slice A0 l0.length c0] w fun e w' => e = .returned (.bool r) ∧ Below w.heap.size w w' := by
  have HGLOB := Lib.hid hG
  clear hG
  have hu25 := Tryd.underlying25
  have HR0 := Aside0.mk hr0
  have HC0 := Aside0.mk hc0
  clear hr0 hc0
  have HB := Aside0.mk (Below.refl w.heap.size w)
  have H : (if (l0.length : Int) > 3000 then ((lamplighterlaw09_alive.f k).bind fun t211 => (some t211)) else ((msh_Read.f k l0).bind fun bt212 => ((lamplighterref09_Read.f k l0).bind fun bt229 => ((lamplighterlaw09_alive.f k).bind fun t246 => (if t246 = true then (if ((bt212.1 == bt229.1 && (bt212.2.1 == bt229.2.1 && (bt212.2.2.1 == bt229.2.2.1 && (bt212.2.2.2.1 == bt229.2.2.2.1 && (bt212.2.2.2.2.1 == bt229.2.2.2.2.1))))) && (bt212.2.2.2.2.2.1.toList == bt229.2.2.2.2.2.1.toList && (bt212.2.2.2.2.2.2.1.toList == bt229.2.2.2.2.2.2.1.toList && (bt212.2.2.2.2.2.2.2.1.toList == bt229.2.2.2.2.2.2.2.1.toList && (bt212.2.2.2.2.2.2.2.2.1.toList == bt229.2.2.2.2.2.2.2.2.1.toList && (bt212.2.2.2.2.2.2.2.2.2.1.toList == bt229.2.2.2.2.2.2.2.2.2.1.toList && (bt212.2.2.2.2.2.2.2.2.2.2.1.toList == bt229.2.2.2.2.2.2.2.2.2.2.1.toList && (bt212.2.2.2.2.2.2.2.2.2.2.2.1.toList == bt229.2.2.2.2.2.2.2.2.2.2.2.1.toList && (bt212.2.2.2.2.2.2.2.2.2.2.2.2.1.toList == bt229.2.2.2.2.2.2.2.2.2.2.2.2.1.toList && (bt212.2.2.2.2.2.2.2.2.2.2.2.2.2.1.toList == bt229.2.2.2.2.2.2.2.2.2.2.2.2.2.1.toList && (bt212.2.2.2.2.2.2.2.2.2.2.2.2.2.2.1.toList == bt229.2.2.2.2.2.2.2.2.2.2.2.2.2.2.1.toList))))))))))) = true then (some (bt212.2.2.2.2.2.2.2.2.2.2.2.2.2.2.2 == bt229.2.2.2.2.2.2.2.2.2.2.2.2.2.2.2)) else (some false)) else (some false)))))) = some r := h
  clear h
  by_cases c2 : (l0.length : Int) > 3000
  · rw [if_pos c2] at H
    have c2b0 : decide (3000 < (l0.length : Int)) = true := decide_eq_true c2
    have c2b1 : decide (3000 < l0.length) = true := decide_eq_true (by omega)
    clear c2
    replace H := Option.bind_eq_some_iff.mp H
    obtain ⟨t211, A30, H⟩ := H
    replace H : (some t211) = some r := H
    have A3 := Aside0.mk A30
    clear A30
    obtain rfl := Option.some.inj H
    clear hrt
    go_enter Tryd.func4, Tryd.ntmps4
    go_wp2_with (first | ((with_reducible refine gate_callee (f := 17) rfl ?_); refine goesL_ (some 10) rfl rfl Tryd.func17 (by kernel_rfl) rfl #[] rfl (by (try simp only [List.map_toArray, List.map_cons, List.map_nil]); first | done | rfl | (simp only [List.length_drop, List.length_take]; rfl)) ?_; (with_reducible refine (lamplighterlaw09_alive.calls k  t211 _ A3.out (glob_below HGLOB.out (by repeat (first | (with_reducible first | exact HB.out | apply below_alloc | apply pw_below_drewN | apply below_drew1) | exact HB.out)))).mono ?_); rintro e w4 ⟨rfl, hb⟩; refine ⟨_, rfl, ?_⟩; have n0_ := Aside0.mk (below_step (by repeat (first | (with_reducible first | exact HB.out | apply below_alloc | apply pw_below_drewN | apply below_drew1) | exact HB.out)) hb); clear HB; have HB := n0_; clear n0_; (try clear hb); (try clear hb2); (try clear hk); (try clear hi)))
    go_ret
    exact ⟨by first | rfl | (simp [errW_none, errW_some] <;> rfl) | (simp [*, errW_none, errW_some] <;> rfl), by repeat (first | (with_reducible first | exact HB.out | apply below_alloc | apply pw_below_drewN | apply below_drew1) | exact HB.out)⟩
  · rw [if_neg c2] at H
    have c2b0 : decide (3000 < (l0.length : Int)) = false := decide_eq_false c2
    have c2b1 : decide (3000 < l0.length) = false := decide_eq_false (by omega)
    clear c2
    replace H := Option.bind_eq_some_iff.mp H
    obtain ⟨⟨t212, t213, t214, t215, t216, t217, t218, t219, t220, t221, t222, t223, t224, t225, t226, t227⟩, A50, H⟩ := H
    replace H : ((lamplighterref09_Read.f k l0).bind fun bt229 => ((lamplighterlaw09_alive.f k).bind fun t246 => (if t246 = true then (if ((t212 == bt229.1 && (t213 == bt229.2.1 && (t214 == bt229.2.2.1 && (t215 == bt229.2.2.2.1 && (t216 == bt229.2.2.2.2.1))))) && (t217.toList == bt229.2.2.2.2.2.1.toList && (t218.toList == bt229.2.2.2.2.2.2.1.toList && (t219.toList == bt229.2.2.2.2.2.2.2.1.toList && (t220.toList == bt229.2.2.2.2.2.2.2.2.1.toList && (t221.toList == bt229.2.2.2.2.2.2.2.2.2.1.toList && (t222.toList == bt229.2.2.2.2.2.2.2.2.2.2.1.toList && (t223.toList == bt229.2.2.2.2.2.2.2.2.2.2.2.1.toList && (t224.toList == bt229.2.2.2.2.2.2.2.2.2.2.2.2.1.toList && (t225.toList == bt229.2.2.2.2.2.2.2.2.2.2.2.2.2.1.toList && (t226.toList == bt229.2.2.2.2.2.2.2.2.2.2.2.2.2.2.1.toList))))))))))) = true then (some (t227 == bt229.2.2.2.2.2.2.2.2.2.2.2.2.2.2.2)) else (some false)) else (some false)))) = some r := H
    have A5 := Aside0.mk A50
    clear A50
    replace H := Option.bind_eq_some_iff.mp H
    obtain ⟨⟨t229, t230, t231, t232, t233, t234, t235, t236, t237, t238, t239, t240, t241, t242, t243, t244⟩, A60, H⟩ := H
    replace H : ((lamplighterlaw09_alive.f k).bind fun t246 => (if t246 = true then (if ((t212 == t229 && (t213 == t230 && (t214 == t231 && (t215 == t232 && (t216 == t233))))) && (t217.toList == t234.toList && (t218.toList == t235.toList && (t219.toList == t236.toList && (t220.toList == t237.toList && (t221.toList == t238.toList && (t222.toList == t239.toList && (t223.toList == t240.toList && (t224.toList == t241.toList && (t225.toList == t242.toList && (t226.toList == t243.toList))))))))))) = true then (some (t227 == t244)) else (some false)) else (some false))) = some r := H
    have A6 := Aside0.mk A60
    clear A60
    replace H := Option.bind_eq_some_iff.mp H
    obtain ⟨t246, A70, H⟩ := H
    replace H : (if t246 = true then (if ((t212 == t229 && (t213 == t230 && (t214 == t231 && (t215 == t232 && (t216 == t233))))) && (t217.toList == t234.toList && (t218.toList == t235.toList && (t219.toList == t236.toList && (t220.toList == t237.toList && (t221.toList == t238.toList && (t222.toList == t239.toList && (t223.toList == t240.toList && (t224.toList == t241.toList && (t225.toList == t242.toList && (t226.toList == t243.toList))))))))))) = true then (some (t227 == t244)) else (some false)) else (some false)) = some r := H
    have A7 := Aside0.mk A70
    clear A70
    by_cases c8 : t246 = true
    · subst c8
      have H1 : (if ((t212 == t229 && (t213 == t230 && (t214 == t231 && (t215 == t232 && (t216 == t233))))) && (t217.toList == t234.toList && (t218.toList == t235.toList && (t219.toList == t236.toList && (t220.toList == t237.toList && (t221.toList == t238.toList && (t222.toList == t239.toList && (t223.toList == t240.toList && (t224.toList == t241.toList && (t225.toList == t242.toList && (t226.toList == t243.toList))))))))))) = true then (some (t227 == t244)) else (some false)) = some r := by rw [if_pos rfl] at H; exact H
      clear H
      have H := H1
      clear H1
      by_cases c9 : ((t212 == t229 && (t213 == t230 && (t214 == t231 && (t215 == t232 && (t216 == t233))))) && (t217.toList == t234.toList && (t218.toList == t235.toList && (t219.toList == t236.toList && (t220.toList == t237.toList && (t221.toList == t238.toList && (t222.toList == t239.toList && (t223.toList == t240.toList && (t224.toList == t241.toList && (t225.toList == t242.toList && (t226.toList == t243.toList))))))))))) = true
      · rw [if_pos c9] at H
        have c9b0 : ((t212 == t229 && (t213 == t230 && (t214 == t231 && (t215 == t232 && (t216 == t233))))) && (t217.toList == t234.toList && (t218.toList == t235.toList && (t219.toList == t236.toList && (t220.toList == t237.toList && (t221.toList == t238.toList && (t222.toList == t239.toList && (t223.toList == t240.toList && (t224.toList == t241.toList && (t225.toList == t242.toList && (t226.toList == t243.toList))))))))))) = true := c9
        clear c9
        obtain rfl := Option.some.inj H
        clear hrt
        go_enter Tryd.func4, Tryd.ntmps4
        go_wp2_with (first | ((with_reducible refine gate_callee (f := 18) rfl ?_); refine goesL_ (some 13) rfl rfl Tryd.func18 (by kernel_rfl) rfl #[.slice A0 l0.length c0] rfl (by (try simp only [List.map_toArray, List.map_cons, List.map_nil]); first | done | rfl | (simp only [List.length_drop, List.length_take]; rfl)) ?_; (with_reducible refine (msh_Read.calls k _ _ l0 t212 t213 t214 t215 t216 t217 t218 t219 t220 t221 t222 t223 t224 t225 t226 t227 _ ?side1 ?side2 A5.out).mono ?_); (case side1 => repeat (first | exact HR0.out | (with_reducible refine Kd.C_alloc ?_ _) | (with_reducible refine Kd.C_drewN ?_ _) | (with_reducible refine Kd.C_drew ?_))); (case side2 => exact HC0.out); rintro e w10 ⟨rfl, hb⟩; refine ⟨_, rfl, ?_⟩; have n0_ := Aside0.mk (below_step (by repeat (first | (with_reducible first | exact HB.out | apply below_alloc | apply pw_below_drewN | apply below_drew1) | exact HB.out)) hb); clear HB; have HB := n0_; clear n0_; (try clear hb); (try clear hb2); (try clear hk); (try clear hi)) | ((with_reducible refine gate_dst (N := 3) rfl ?_); refine box_event ?hg (N := 3) ?hd (cs := #[.int .u8 0, .int .u8 0, .int .u8 0, .int .u8 0, .int .u8 0, .string (⟨#[]⟩ : ByteArray), .string (⟨#[]⟩ : ByteArray), .string (⟨#[]⟩ : ByteArray), .string (⟨#[]⟩ : ByteArray), .string (⟨#[]⟩ : ByteArray), .string (⟨#[]⟩ : ByteArray), .string (⟨#[]⟩ : ByteArray), .string (⟨#[]⟩ : ByteArray), .string (⟨#[]⟩ : ByteArray), .string (⟨#[]⟩ : ByteArray)]) (t := 25) ?hr ?_; (case hd => rfl); (case hg => rfl); (case hr => first | (go_simp; done) | (go_simp; rfl)); intro gb228 hg w11 hbox hb; have n0_ := Aside0.mk (below_step (by repeat (first | (with_reducible first | exact HB.out | apply below_alloc | apply pw_below_drewN | apply below_drew1) | exact HB.out)) hb); have n1_ := Aside0.mk (hbox); have n2_ := Aside0.mk ((by rw [hg]; exact (below_size (by repeat (first | (with_reducible first | exact HB.out | apply below_alloc | apply pw_below_drewN | apply below_drew1) | exact HB.out))) : w.heap.size ≤ gb228)); have n3_ := Aside0.mk ((by rw [hg]; exact (below_size (by repeat (first | (with_reducible first | exact HB.out | apply below_alloc | apply pw_below_drewN | apply below_drew1) | exact HB.out))) : w.heap.size ≤ gb228)); clear HB; have HB := n0_; have BK228 := n1_; have GW228 := n2_; have GE228 := n3_; clear n0_ n1_ n2_ n3_; clear hb hbox hg; have hcz12_0 : w11.cell? ⟨gb228, 0, none⟩ = some (.int .u8 0) := (blk_cell BK228.out 0).trans rfl; have hcz12_1 : w11.cell? ⟨gb228, 1, none⟩ = some (.int .u8 0) := (blk_cell BK228.out 1).trans rfl; have hcz12_2 : w11.cell? ⟨gb228, 2, none⟩ = some (.int .u8 0) := (blk_cell BK228.out 2).trans rfl; have hcz12_3 : w11.cell? ⟨gb228, 3, none⟩ = some (.int .u8 0) := (blk_cell BK228.out 3).trans rfl; have hcz12_4 : w11.cell? ⟨gb228, 4, none⟩ = some (.int .u8 0) := (blk_cell BK228.out 4).trans rfl; have hcz12_5 : w11.cell? ⟨gb228, 5, none⟩ = some (.string (⟨#[]⟩ : ByteArray)) := (blk_cell BK228.out 5).trans rfl; have hcz12_6 : w11.cell? ⟨gb228, 6, none⟩ = some (.string (⟨#[]⟩ : ByteArray)) := (blk_cell BK228.out 6).trans rfl; have hcz12_7 : w11.cell? ⟨gb228, 7, none⟩ = some (.string (⟨#[]⟩ : ByteArray)) := (blk_cell BK228.out 7).trans rfl; have hcz12_8 : w11.cell? ⟨gb228, 8, none⟩ = some (.string (⟨#[]⟩ : ByteArray)) := (blk_cell BK228.out 8).trans rfl; have hcz12_9 : w11.cell? ⟨gb228, 9, none⟩ = some (.string (⟨#[]⟩ : ByteArray)) := (blk_cell BK228.out 9).trans rfl; have hcz12_10 : w11.cell? ⟨gb228, 10, none⟩ = some (.string (⟨#[]⟩ : ByteArray)) := (blk_cell BK228.out 10).trans rfl; have hcz12_11 : w11.cell? ⟨gb228, 11, none⟩ = some (.string (⟨#[]⟩ : ByteArray)) := (blk_cell BK228.out 11).trans rfl; have hcz12_12 : w11.cell? ⟨gb228, 12, none⟩ = some (.string (⟨#[]⟩ : ByteArray)) := (blk_cell BK228.out 12).trans rfl; have hcz12_13 : w11.cell? ⟨gb228, 13, none⟩ = some (.string (⟨#[]⟩ : ByteArray)) := (blk_cell BK228.out 13).trans rfl; have hcz12_14 : w11.cell? ⟨gb228, 14, none⟩ = some (.string (⟨#[]⟩ : ByteArray)) := (blk_cell BK228.out 14).trans rfl; have hfz12_0 := blk_frozen BK228.out 0; have hfz12_1 := blk_frozen BK228.out 1; have hfz12_2 := blk_frozen BK228.out 2; have hfz12_3 := blk_frozen BK228.out 3; have hfz12_4 := blk_frozen BK228.out 4; have hfz12_5 := blk_frozen BK228.out 5; have hfz12_6 := blk_frozen BK228.out 6; have hfz12_7 := blk_frozen BK228.out 7; have hfz12_8 := blk_frozen BK228.out 8; have hfz12_9 := blk_frozen BK228.out 9; have hfz12_10 := blk_frozen BK228.out 10; have hfz12_11 := blk_frozen BK228.out 11; have hfz12_12 := blk_frozen BK228.out 12; have hfz12_13 := blk_frozen BK228.out 13; have hfz12_14 := blk_frozen BK228.out 14) | ((with_reducible refine gate_callee (f := 19) rfl ?_); refine goesL_ (some 18) rfl rfl Tryd.func19 (by kernel_rfl) rfl #[.slice A0 l0.length c0] rfl (by (try simp only [List.map_toArray, List.map_cons, List.map_nil]); first | done | rfl | (simp only [List.length_drop, List.length_take]; rfl)) ?_; (with_reducible refine (lamplighterref09_Read.calls k _ _ l0 t229 t230 t231 t232 t233 t234 t235 t236 t237 t238 t239 t240 t241 t242 t243 t244 _ ?side1 ?side2 A6.out).mono ?_); (case side1 => exact Kd.C_below HR0.out (by repeat (first | (with_reducible first | exact HB.out | apply below_alloc | apply pw_below_drewN | apply below_drew1 | refine below_set ?_ GE228.out) | exact HB.out))); (case side2 => exact HC0.out); rintro e w13 ⟨rfl, hb⟩; refine ⟨_, rfl, ?_⟩; have n0_ := Aside0.mk (blk_below (g := gb228) (o := .cells #[.int .u8 t212, .int .u8 t213, .int .u8 t214, .int .u8 t215, .int .u8 t216, .string t217, .string t218, .string t219, .string t220, .string t221, .string t222, .string t223, .string t224, .string t225, .string t226] 25 (0, 0)) (by (with_reducible repeat (first | refine blk_drewN ?_ _ | refine blk_drew ?_ | refine blk_alloc ?_ _)); refine blk_put (cs := #[.int .u8 t212, .int .u8 t213, .int .u8 t214, .int .u8 t215, .int .u8 t216, .string t217, .string t218, .string t219, .string t220, .string t221, .string t222, .string t223, .string t224, .string t225, .string (⟨#[]⟩ : ByteArray)]) ?_ 14 _ rfl; (with_reducible repeat (first | refine blk_drewN ?_ _ | refine blk_drew ?_ | refine blk_alloc ?_ _)); refine blk_put (cs := #[.int .u8 t212, .int .u8 t213, .int .u8 t214, .int .u8 t215, .int .u8 t216, .string t217, .string t218, .string t219, .string t220, .string t221, .string t222, .string t223, .string t224, .string (⟨#[]⟩ : ByteArray), .string (⟨#[]⟩ : ByteArray)]) ?_ 13 _ rfl; (with_reducible repeat (first | refine blk_drewN ?_ _ | refine blk_drew ?_ | refine blk_alloc ?_ _)); refine blk_put (cs := #[.int .u8 t212, .int .u8 t213, .int .u8 t214, .int .u8 t215, .int .u8 t216, .string t217, .string t218, .string t219, .string t220, .string t221, .string t222, .string t223, .string (⟨#[]⟩ : ByteArray), .string (⟨#[]⟩ : ByteArray), .string (⟨#[]⟩ : ByteArray)]) ?_ 12 _ rfl; (with_reducible repeat (first | refine blk_drewN ?_ _ | refine blk_drew ?_ | refine blk_alloc ?_ _)); refine blk_put (cs := #[.int .u8 t212, .int .u8 t213, .int .u8 t214, .int .u8 t215, .int .u8 t216, .string t217, .string t218, .string t219, .string t220, .string t221, .string t222, .string (⟨#[]⟩ : ByteArray), .string (⟨#[]⟩ : ByteArray), .string (⟨#[]⟩ : ByteArray), .string (⟨#[]⟩ : ByteArray)]) ?_ 11 _ rfl; (with_reducible repeat (first | refine blk_drewN ?_ _ | refine blk_drew ?_ | refine blk_alloc ?_ _)); refine blk_put (cs := #[.int .u8 t212, .int .u8 t213, .int .u8 t214, .int .u8 t215, .int .u8 t216, .string t217, .string t218, .string t219, .string t220, .string t221, .string (⟨#[]⟩ : ByteArray), .string (⟨#[]⟩ : ByteArray), .string (⟨#[]⟩ : ByteArray), .string (⟨#[]⟩ : ByteArray), .string (⟨#[]⟩ : ByteArray)]) ?_ 10 _ rfl; (with_reducible repeat (first | refine blk_drewN ?_ _ | refine blk_drew ?_ | refine blk_alloc ?_ _)); refine blk_put (cs := #[.int .u8 t212, .int .u8 t213, .int .u8 t214, .int .u8 t215, .int .u8 t216, .string t217, .string t218, .string t219, .string t220, .string (⟨#[]⟩ : ByteArray), .string (⟨#[]⟩ : ByteArray), .string (⟨#[]⟩ : ByteArray), .string (⟨#[]⟩ : ByteArray), .string (⟨#[]⟩ : ByteArray), .string (⟨#[]⟩ : ByteArray)]) ?_ 9 _ rfl; (with_reducible repeat (first | refine blk_drewN ?_ _ | refine blk_drew ?_ | refine blk_alloc ?_ _)); refine blk_put (cs := #[.int .u8 t212, .int .u8 t213, .int .u8 t214, .int .u8 t215, .int .u8 t216, .string t217, .string t218, .string t219, .string (⟨#[]⟩ : ByteArray), .string (⟨#[]⟩ : ByteArray), .string (⟨#[]⟩ : ByteArray), .string (⟨#[]⟩ : ByteArray), .string (⟨#[]⟩ : ByteArray), .string (⟨#[]⟩ : ByteArray), .string (⟨#[]⟩ : ByteArray)]) ?_ 8 _ rfl; (with_reducible repeat (first | refine blk_drewN ?_ _ | refine blk_drew ?_ | refine blk_alloc ?_ _)); refine blk_put (cs := #[.int .u8 t212, .int .u8 t213, .int .u8 t214, .int .u8 t215, .int .u8 t216, .string t217, .string t218, .string (⟨#[]⟩ : ByteArray), .string (⟨#[]⟩ : ByteArray), .string (⟨#[]⟩ : ByteArray), .string (⟨#[]⟩ : ByteArray), .string (⟨#[]⟩ : ByteArray), .string (⟨#[]⟩ : ByteArray), .string (⟨#[]⟩ : ByteArray), .string (⟨#[]⟩ : ByteArray)]) ?_ 7 _ rfl; (with_reducible repeat (first | refine blk_drewN ?_ _ | refine blk_drew ?_ | refine blk_alloc ?_ _)); refine blk_put (cs := #[.int .u8 t212, .int .u8 t213, .int .u8 t214, .int .u8 t215, .int .u8 t216, .string t217, .string (⟨#[]⟩ : ByteArray), .string (⟨#[]⟩ : ByteArray), .string (⟨#[]⟩ : ByteArray), .string (⟨#[]⟩ : ByteArray), .string (⟨#[]⟩ : ByteArray), .string (⟨#[]⟩ : ByteArray), .string (⟨#[]⟩ : ByteArray), .string (⟨#[]⟩ : ByteArray), .string (⟨#[]⟩ : ByteArray)]) ?_ 6 _ rfl; (with_reducible repeat (first | refine blk_drewN ?_ _ | refine blk_drew ?_ | refine blk_alloc ?_ _)); refine blk_put (cs := #[.int .u8 t212, .int .u8 t213, .int .u8 t214, .int .u8 t215, .int .u8 t216, .string (⟨#[]⟩ : ByteArray), .string (⟨#[]⟩ : ByteArray), .string (⟨#[]⟩ : ByteArray), .string (⟨#[]⟩ : ByteArray), .string (⟨#[]⟩ : ByteArray), .string (⟨#[]⟩ : ByteArray), .string (⟨#[]⟩ : ByteArray), .string (⟨#[]⟩ : ByteArray), .string (⟨#[]⟩ : ByteArray), .string (⟨#[]⟩ : ByteArray)]) ?_ 5 _ rfl; (with_reducible repeat (first | refine blk_drewN ?_ _ | refine blk_drew ?_ | refine blk_alloc ?_ _)); refine blk_put (cs := #[.int .u8 t212, .int .u8 t213, .int .u8 t214, .int .u8 t215, .int .u8 0, .string (⟨#[]⟩ : ByteArray), .string (⟨#[]⟩ : ByteArray), .string (⟨#[]⟩ : ByteArray), .string (⟨#[]⟩ : ByteArray), .string (⟨#[]⟩ : ByteArray), .string (⟨#[]⟩ : ByteArray), .string (⟨#[]⟩ : ByteArray), .string (⟨#[]⟩ : ByteArray), .string (⟨#[]⟩ : ByteArray), .string (⟨#[]⟩ : ByteArray)]) ?_ 4 _ rfl; (with_reducible repeat (first | refine blk_drewN ?_ _ | refine blk_drew ?_ | refine blk_alloc ?_ _)); refine blk_put (cs := #[.int .u8 t212, .int .u8 t213, .int .u8 t214, .int .u8 0, .int .u8 0, .string (⟨#[]⟩ : ByteArray), .string (⟨#[]⟩ : ByteArray), .string (⟨#[]⟩ : ByteArray), .string (⟨#[]⟩ : ByteArray), .string (⟨#[]⟩ : ByteArray), .string (⟨#[]⟩ : ByteArray), .string (⟨#[]⟩ : ByteArray), .string (⟨#[]⟩ : ByteArray), .string (⟨#[]⟩ : ByteArray), .string (⟨#[]⟩ : ByteArray)]) ?_ 3 _ rfl; (with_reducible repeat (first | refine blk_drewN ?_ _ | refine blk_drew ?_ | refine blk_alloc ?_ _)); refine blk_put (cs := #[.int .u8 t212, .int .u8 t213, .int .u8 0, .int .u8 0, .int .u8 0, .string (⟨#[]⟩ : ByteArray), .string (⟨#[]⟩ : ByteArray), .string (⟨#[]⟩ : ByteArray), .string (⟨#[]⟩ : ByteArray), .string (⟨#[]⟩ : ByteArray), .string (⟨#[]⟩ : ByteArray), .string (⟨#[]⟩ : ByteArray), .string (⟨#[]⟩ : ByteArray), .string (⟨#[]⟩ : ByteArray), .string (⟨#[]⟩ : ByteArray)]) ?_ 2 _ rfl; (with_reducible repeat (first | refine blk_drewN ?_ _ | refine blk_drew ?_ | refine blk_alloc ?_ _)); refine blk_put (cs := #[.int .u8 t212, .int .u8 0, .int .u8 0, .int .u8 0, .int .u8 0, .string (⟨#[]⟩ : ByteArray), .string (⟨#[]⟩ : ByteArray), .string (⟨#[]⟩ : ByteArray), .string (⟨#[]⟩ : ByteArray), .string (⟨#[]⟩ : ByteArray), .string (⟨#[]⟩ : ByteArray), .string (⟨#[]⟩ : ByteArray), .string (⟨#[]⟩ : ByteArray), .string (⟨#[]⟩ : ByteArray), .string (⟨#[]⟩ : ByteArray)]) ?_ 1 _ rfl; (with_reducible repeat (first | refine blk_drewN ?_ _ | refine blk_drew ?_ | refine blk_alloc ?_ _)); refine blk_put (cs := #[.int .u8 0, .int .u8 0, .int .u8 0, .int .u8 0, .int .u8 0, .string (⟨#[]⟩ : ByteArray), .string (⟨#[]⟩ : ByteArray), .string (⟨#[]⟩ : ByteArray), .string (⟨#[]⟩ : ByteArray), .string (⟨#[]⟩ : ByteArray), .string (⟨#[]⟩ : ByteArray), .string (⟨#[]⟩ : ByteArray), .string (⟨#[]⟩ : ByteArray), .string (⟨#[]⟩ : ByteArray), .string (⟨#[]⟩ : ByteArray)]) ?_ 0 _ rfl; (with_reducible repeat (first | refine blk_drewN ?_ _ | refine blk_drew ?_ | refine blk_alloc ?_ _)); exact BK228.out) hb); have n1_ := Aside0.mk (below_step (by repeat (first | (with_reducible first | exact HB.out | apply below_alloc | apply pw_below_drewN | apply below_drew1 | refine below_set ?_ GE228.out) | exact HB.out)) hb); clear BK228; clear HB; have BK228 := n0_; have HB := n1_; clear n0_ n1_; (try clear hb); (try clear hb2); (try clear hk); (try clear hi)) | ((with_reducible refine gate_dst (N := 5) rfl ?_); refine box_event ?hg (N := 5) ?hd (cs := #[.int .u8 0, .int .u8 0, .int .u8 0, .int .u8 0, .int .u8 0, .string (⟨#[]⟩ : ByteArray), .string (⟨#[]⟩ : ByteArray), .string (⟨#[]⟩ : ByteArray), .string (⟨#[]⟩ : ByteArray), .string (⟨#[]⟩ : ByteArray), .string (⟨#[]⟩ : ByteArray), .string (⟨#[]⟩ : ByteArray), .string (⟨#[]⟩ : ByteArray), .string (⟨#[]⟩ : ByteArray), .string (⟨#[]⟩ : ByteArray)]) (t := 25) ?hr ?_; (case hd => rfl); (case hg => rfl); (case hr => first | (go_simp; done) | (go_simp; rfl)); intro gb245 hg w14 hbox hb; have n0_ := Aside0.mk (blk_below (g := gb228) (o := .cells #[.int .u8 t212, .int .u8 t213, .int .u8 t214, .int .u8 t215, .int .u8 t216, .string t217, .string t218, .string t219, .string t220, .string t221, .string t222, .string t223, .string t224, .string t225, .string t226] 25 (0, 0)) (by (with_reducible repeat (first | refine blk_drewN ?_ _ | refine blk_drew ?_ | refine blk_alloc ?_ _)); exact BK228.out) hb); have n1_ := Aside0.mk (below_step (by repeat (first | (with_reducible first | exact HB.out | apply below_alloc | apply pw_below_drewN | apply below_drew1 | refine below_set ?_ GE228.out) | exact HB.out)) hb); have n2_ := Aside0.mk (hbox); have n3_ := Aside0.mk ((by rw [hg]; exact (below_size (by repeat (first | (with_reducible first | exact HB.out | apply below_alloc | apply pw_below_drewN | apply below_drew1 | refine below_set ?_ GE228.out) | exact HB.out))) : w.heap.size ≤ gb245)); have n4_ := Aside0.mk ((by rw [hg]; exact (below_size (by repeat (first | (with_reducible first | exact HB.out | apply below_alloc | apply pw_below_drewN | apply below_drew1 | refine below_set ?_ GE228.out) | exact HB.out))) : w.heap.size ≤ gb245)); have n5_ := Aside0.mk ((by rw [hg]; exact Nat.ne_of_lt (blk_lt (g := gb228) (o := .cells #[.int .u8 t212, .int .u8 t213, .int .u8 t214, .int .u8 t215, .int .u8 t216, .string t217, .string t218, .string t219, .string t220, .string t221, .string t222, .string t223, .string t224, .string t225, .string t226] 25 (0, 0)) (by (with_reducible repeat (first | refine blk_drewN ?_ _ | refine blk_drew ?_ | refine blk_alloc ?_ _)); exact BK228.out)) : gb228 ≠ gb245)); have n6_ := Aside0.mk ((by rw [hg]; exact Nat.ne_of_gt (blk_lt (g := gb228) (o := .cells #[.int .u8 t212, .int .u8 t213, .int .u8 t214, .int .u8 t215, .int .u8 t216, .string t217, .string t218, .string t219, .string t220, .string t221, .string t222, .string t223, .string t224, .string t225, .string t226] 25 (0, 0)) (by (with_reducible repeat (first | refine blk_drewN ?_ _ | refine blk_drew ?_ | refine blk_alloc ?_ _)); exact BK228.out)) : gb245 ≠ gb228)); clear BK228; clear HB; have BK228 := n0_; have HB := n1_; have BK245 := n2_; have GW245 := n3_; have GE245 := n4_; have NB228_245 := n5_; have NB245_228 := n6_; clear n0_ n1_ n2_ n3_ n4_ n5_ n6_; clear hb hbox hg; have hnb15 := NB245_228.out; have hnc15 := NB228_245.out; have hcz16_0 : w14.cell? ⟨gb245, 0, none⟩ = some (.int .u8 0) := (blk_cell BK245.out 0).trans rfl; have hcz16_1 : w14.cell? ⟨gb245, 1, none⟩ = some (.int .u8 0) := (blk_cell BK245.out 1).trans rfl; have hcz16_2 : w14.cell? ⟨gb245, 2, none⟩ = some (.int .u8 0) := (blk_cell BK245.out 2).trans rfl; have hcz16_3 : w14.cell? ⟨gb245, 3, none⟩ = some (.int .u8 0) := (blk_cell BK245.out 3).trans rfl; have hcz16_4 : w14.cell? ⟨gb245, 4, none⟩ = some (.int .u8 0) := (blk_cell BK245.out 4).trans rfl; have hcz16_5 : w14.cell? ⟨gb245, 5, none⟩ = some (.string (⟨#[]⟩ : ByteArray)) := (blk_cell BK245.out 5).trans rfl; have hcz16_6 : w14.cell? ⟨gb245, 6, none⟩ = some (.string (⟨#[]⟩ : ByteArray)) := (blk_cell BK245.out 6).trans rfl; have hcz16_7 : w14.cell? ⟨gb245, 7, none⟩ = some (.string (⟨#[]⟩ : ByteArray)) := (blk_cell BK245.out 7).trans rfl; have hcz16_8 : w14.cell? ⟨gb245, 8, none⟩ = some (.string (⟨#[]⟩ : ByteArray)) := (blk_cell BK245.out 8).trans rfl; have hcz16_9 : w14.cell? ⟨gb245, 9, none⟩ = some (.string (⟨#[]⟩ : ByteArray)) := (blk_cell BK245.out 9).trans rfl; have hcz16_10 : w14.cell? ⟨gb245, 10, none⟩ = some (.string (⟨#[]⟩ : ByteArray)) := (blk_cell BK245.out 10).trans rfl; have hcz16_11 : w14.cell? ⟨gb245, 11, none⟩ = some (.string (⟨#[]⟩ : ByteArray)) := (blk_cell BK245.out 11).trans rfl; have hcz16_12 : w14.cell? ⟨gb245, 12, none⟩ = some (.string (⟨#[]⟩ : ByteArray)) := (blk_cell BK245.out 12).trans rfl; have hcz16_13 : w14.cell? ⟨gb245, 13, none⟩ = some (.string (⟨#[]⟩ : ByteArray)) := (blk_cell BK245.out 13).trans rfl; have hcz16_14 : w14.cell? ⟨gb245, 14, none⟩ = some (.string (⟨#[]⟩ : ByteArray)) := (blk_cell BK245.out 14).trans rfl; have hfz16_0 := blk_frozen BK245.out 0; have hfz16_1 := blk_frozen BK245.out 1; have hfz16_2 := blk_frozen BK245.out 2; have hfz16_3 := blk_frozen BK245.out 3; have hfz16_4 := blk_frozen BK245.out 4; have hfz16_5 := blk_frozen BK245.out 5; have hfz16_6 := blk_frozen BK245.out 6; have hfz16_7 := blk_frozen BK245.out 7; have hfz16_8 := blk_frozen BK245.out 8; have hfz16_9 := blk_frozen BK245.out 9; have hfz16_10 := blk_frozen BK245.out 10; have hfz16_11 := blk_frozen BK245.out 11; have hfz16_12 := blk_frozen BK245.out 12; have hfz16_13 := blk_frozen BK245.out 13; have hfz16_14 := blk_frozen BK245.out 14) | ((with_reducible refine gate_callee (f := 17) rfl ?_); refine goesL_ (some 21) rfl rfl Tryd.func17 (by kernel_rfl) rfl #[] rfl (by (try simp only [List.map_toArray, List.map_cons, List.map_nil]); first | done | rfl | (simp only [List.length_drop, List.length_take]; rfl)) ?_; (with_reducible refine (lamplighterlaw09_alive.calls k  true _ A7.out (glob_below HGLOB.out (by repeat (first | (with_reducible first | exact HB.out | apply below_alloc | apply pw_below_drewN | apply below_drew1 | refine below_set ?_ GE228.out | refine below_set ?_ GE245.out) | exact HB.out)))).mono ?_); rintro e w17 ⟨rfl, hb⟩; refine ⟨_, rfl, ?_⟩; have n0_ := Aside0.mk (blk_below (g := gb228) (o := .cells #[.int .u8 t212, .int .u8 t213, .int .u8 t214, .int .u8 t215, .int .u8 t216, .string t217, .string t218, .string t219, .string t220, .string t221, .string t222, .string t223, .string t224, .string t225, .string t226] 25 (0, 0)) (by (with_reducible repeat (first | refine blk_drewN ?_ _ | refine blk_drew ?_ | refine blk_alloc ?_ _)); refine blk_far ?_ NB228_245.out _; (with_reducible repeat (first | refine blk_drewN ?_ _ | refine blk_drew ?_ | refine blk_alloc ?_ _)); refine blk_far ?_ NB228_245.out _; (with_reducible repeat (first | refine blk_drewN ?_ _ | refine blk_drew ?_ | refine blk_alloc ?_ _)); refine blk_far ?_ NB228_245.out _; (with_reducible repeat (first | refine blk_drewN ?_ _ | refine blk_drew ?_ | refine blk_alloc ?_ _)); refine blk_far ?_ NB228_245.out _; (with_reducible repeat (first | refine blk_drewN ?_ _ | refine blk_drew ?_ | refine blk_alloc ?_ _)); refine blk_far ?_ NB228_245.out _; (with_reducible repeat (first | refine blk_drewN ?_ _ | refine blk_drew ?_ | refine blk_alloc ?_ _)); refine blk_far ?_ NB228_245.out _; (with_reducible repeat (first | refine blk_drewN ?_ _ | refine blk_drew ?_ | refine blk_alloc ?_ _)); refine blk_far ?_ NB228_245.out _; (with_reducible repeat (first | refine blk_drewN ?_ _ | refine blk_drew ?_ | refine blk_alloc ?_ _)); refine blk_far ?_ NB228_245.out _; (with_reducible repeat (first | refine blk_drewN ?_ _ | refine blk_drew ?_ | refine blk_alloc ?_ _)); refine blk_far ?_ NB228_245.out _; (with_reducible repeat (first | refine blk_drewN ?_ _ | refine blk_drew ?_ | refine blk_alloc ?_ _)); refine blk_far ?_ NB228_245.out _; (with_reducible repeat (first | refine blk_drewN ?_ _ | refine blk_drew ?_ | refine blk_alloc ?_ _)); refine blk_far ?_ NB228_245.out _; (with_reducible repeat (first | refine blk_drewN ?_ _ | refine blk_drew ?_ | refine blk_alloc ?_ _)); refine blk_far ?_ NB228_245.out _; (with_reducible repeat (first | refine blk_drewN ?_ _ | refine blk_drew ?_ | refine blk_alloc ?_ _)); refine blk_far ?_ NB228_245.out _; (with_reducible repeat (first | refine blk_drewN ?_ _ | refine blk_drew ?_ | refine blk_alloc ?_ _)); refine blk_far ?_ NB228_245.out _; (with_reducible repeat (first | refine blk_drewN ?_ _ | refine blk_drew ?_ | refine blk_alloc ?_ _)); refine blk_far ?_ NB228_245.out _; (with_reducible repeat (first | refine blk_drewN ?_ _ | refine blk_drew ?_ | refine blk_alloc ?_ _)); exact BK228.out) hb); have n1_ := Aside0.mk (blk_below (g := gb245) (o := .cells #[.int .u8 t229, .int .u8 t230, .int .u8 t231, .int .u8 t232, .int .u8 t233, .string t234, .string t235, .string t236, .string t237, .string t238, .string t239, .string t240, .string t241, .string t242, .string t243] 25 (0, 0)) (by (with_reducible repeat (first | refine blk_drewN ?_ _ | refine blk_drew ?_ | refine blk_alloc ?_ _)); refine blk_put (cs := #[.int .u8 t229, .int .u8 t230, .int .u8 t231, .int .u8 t232, .int .u8 t233, .string t234, .string t235, .string t236, .string t237, .string t238, .string t239, .string t240, .string t241, .string t242, .string (⟨#[]⟩ : ByteArray)]) ?_ 14 _ rfl; (with_reducible repeat (first | refine blk_drewN ?_ _ | refine blk_drew ?_ | refine blk_alloc ?_ _)); refine blk_put (cs := #[.int .u8 t229, .int .u8 t230, .int .u8 t231, .int .u8 t232, .int .u8 t233, .string t234, .string t235, .string t236, .string t237, .string t238, .string t239, .string t240, .string t241, .string (⟨#[]⟩ : ByteArray), .string (⟨#[]⟩ : ByteArray)]) ?_ 13 _ rfl; (with_reducible repeat (first | refine blk_drewN ?_ _ | refine blk_drew ?_ | refine blk_alloc ?_ _)); refine blk_put (cs := #[.int .u8 t229, .int .u8 t230, .int .u8 t231, .int .u8 t232, .int .u8 t233, .string t234, .string t235, .string t236, .string t237, .string t238, .string t239, .string t240, .string (⟨#[]⟩ : ByteArray), .string (⟨#[]⟩ : ByteArray), .string (⟨#[]⟩ : ByteArray)]) ?_ 12 _ rfl; (with_reducible repeat (first | refine blk_drewN ?_ _ | refine blk_drew ?_ | refine blk_alloc ?_ _)); refine blk_put (cs := #[.int .u8 t229, .int .u8 t230, .int .u8 t231, .int .u8 t232, .int .u8 t233, .string t234, .string t235, .string t236, .string t237, .string t238, .string t239, .string (⟨#[]⟩ : ByteArray), .string (⟨#[]⟩ : ByteArray), .string (⟨#[]⟩ : ByteArray), .string (⟨#[]⟩ : ByteArray)]) ?_ 11 _ rfl; (with_reducible repeat (first | refine blk_drewN ?_ _ | refine blk_drew ?_ | refine blk_alloc ?_ _)); refine blk_put (cs := #[.int .u8 t229, .int .u8 t230, .int .u8 t231, .int .u8 t232, .int .u8 t233, .string t234, .string t235, .string t236, .string t237, .string t238, .string (⟨#[]⟩ : ByteArray), .string (⟨#[]⟩ : ByteArray), .string (⟨#[]⟩ : ByteArray), .string (⟨#[]⟩ : ByteArray), .string (⟨#[]⟩ : ByteArray)]) ?_ 10 _ rfl; (with_reducible repeat (first | refine blk_drewN ?_ _ | refine blk_drew ?_ | refine blk_alloc ?_ _)); refine blk_put (cs := #[.int .u8 t229, .int .u8 t230, .int .u8 t231, .int .u8 t232, .int .u8 t233, .string t234, .string t235, .string t236, .string t237, .string (⟨#[]⟩ : ByteArray), .string (⟨#[]⟩ : ByteArray), .string (⟨#[]⟩ : ByteArray), .string (⟨#[]⟩ : ByteArray), .string (⟨#[]⟩ : ByteArray), .string (⟨#[]⟩ : ByteArray)]) ?_ 9 _ rfl; (with_reducible repeat (first | refine blk_drewN ?_ _ | refine blk_drew ?_ | refine blk_alloc ?_ _)); refine blk_put (cs := #[.int .u8 t229, .int .u8 t230, .int .u8 t231, .int .u8 t232, .int .u8 t233, .string t234, .string t235, .string t236, .string (⟨#[]⟩ : ByteArray), .string (⟨#[]⟩ : ByteArray), .string (⟨#[]⟩ : ByteArray), .string (⟨#[]⟩ : ByteArray), .string (⟨#[]⟩ : ByteArray), .string (⟨#[]⟩ : ByteArray), .string (⟨#[]⟩ : ByteArray)]) ?_ 8 _ rfl; (with_reducible repeat (first | refine blk_drewN ?_ _ | refine blk_drew ?_ | refine blk_alloc ?_ _)); refine blk_put (cs := #[.int .u8 t229, .int .u8 t230, .int .u8 t231, .int .u8 t232, .int .u8 t233, .string t234, .string t235, .string (⟨#[]⟩ : ByteArray), .string (⟨#[]⟩ : ByteArray), .string (⟨#[]⟩ : ByteArray), .string (⟨#[]⟩ : ByteArray), .string (⟨#[]⟩ : ByteArray), .string (⟨#[]⟩ : ByteArray), .string (⟨#[]⟩ : ByteArray), .string (⟨#[]⟩ : ByteArray)]) ?_ 7 _ rfl; (with_reducible repeat (first | refine blk_drewN ?_ _ | refine blk_drew ?_ | refine blk_alloc ?_ _)); refine blk_put (cs := #[.int .u8 t229, .int .u8 t230, .int .u8 t231, .int .u8 t232, .int .u8 t233, .string t234, .string (⟨#[]⟩ : ByteArray), .string (⟨#[]⟩ : ByteArray), .string (⟨#[]⟩ : ByteArray), .string (⟨#[]⟩ : ByteArray), .string (⟨#[]⟩ : ByteArray), .string (⟨#[]⟩ : ByteArray), .string (⟨#[]⟩ : ByteArray), .string (⟨#[]⟩ : ByteArray), .string (⟨#[]⟩ : ByteArray)]) ?_ 6 _ rfl; (with_reducible repeat (first | refine blk_drewN ?_ _ | refine blk_drew ?_ | refine blk_alloc ?_ _)); refine blk_put (cs := #[.int .u8 t229, .int .u8 t230, .int .u8 t231, .int .u8 t232, .int .u8 t233, .string (⟨#[]⟩ : ByteArray), .string (⟨#[]⟩ : ByteArray), .string (⟨#[]⟩ : ByteArray), .string (⟨#[]⟩ : ByteArray), .string (⟨#[]⟩ : ByteArray), .string (⟨#[]⟩ : ByteArray), .string (⟨#[]⟩ : ByteArray), .string (⟨#[]⟩ : ByteArray), .string (⟨#[]⟩ : ByteArray), .string (⟨#[]⟩ : ByteArray)]) ?_ 5 _ rfl; (with_reducible repeat (first | refine blk_drewN ?_ _ | refine blk_drew ?_ | refine blk_alloc ?_ _)); refine blk_put (cs := #[.int .u8 t229, .int .u8 t230, .int .u8 t231, .int .u8 t232, .int .u8 0, .string (⟨#[]⟩ : ByteArray), .string (⟨#[]⟩ : ByteArray), .string (⟨#[]⟩ : ByteArray), .string (⟨#[]⟩ : ByteArray), .string (⟨#[]⟩ : ByteArray), .string (⟨#[]⟩ : ByteArray), .string (⟨#[]⟩ : ByteArray), .string (⟨#[]⟩ : ByteArray), .string (⟨#[]⟩ : ByteArray), .string (⟨#[]⟩ : ByteArray)]) ?_ 4 _ rfl; (with_reducible repeat (first | refine blk_drewN ?_ _ | refine blk_drew ?_ | refine blk_alloc ?_ _)); refine blk_put (cs := #[.int .u8 t229, .int .u8 t230, .int .u8 t231, .int .u8 0, .int .u8 0, .string (⟨#[]⟩ : ByteArray), .string (⟨#[]⟩ : ByteArray), .string (⟨#[]⟩ : ByteArray), .string (⟨#[]⟩ : ByteArray), .string (⟨#[]⟩ : ByteArray), .string (⟨#[]⟩ : ByteArray), .string (⟨#[]⟩ : ByteArray), .string (⟨#[]⟩ : ByteArray), .string (⟨#[]⟩ : ByteArray), .string (⟨#[]⟩ : ByteArray)]) ?_ 3 _ rfl; (with_reducible repeat (first | refine blk_drewN ?_ _ | refine blk_drew ?_ | refine blk_alloc ?_ _)); refine blk_put (cs := #[.int .u8 t229, .int .u8 t230, .int .u8 0, .int .u8 0, .int .u8 0, .string (⟨#[]⟩ : ByteArray), .string (⟨#[]⟩ : ByteArray), .string (⟨#[]⟩ : ByteArray), .string (⟨#[]⟩ : ByteArray), .string (⟨#[]⟩ : ByteArray), .string (⟨#[]⟩ : ByteArray), .string (⟨#[]⟩ : ByteArray), .string (⟨#[]⟩ : ByteArray), .string (⟨#[]⟩ : ByteArray), .string (⟨#[]⟩ : ByteArray)]) ?_ 2 _ rfl; (with_reducible repeat (first | refine blk_drewN ?_ _ | refine blk_drew ?_ | refine blk_alloc ?_ _)); refine blk_put (cs := #[.int .u8 t229, .int .u8 0, .int .u8 0, .int .u8 0, .int .u8 0, .string (⟨#[]⟩ : ByteArray), .string (⟨#[]⟩ : ByteArray), .string (⟨#[]⟩ : ByteArray), .string (⟨#[]⟩ : ByteArray), .string (⟨#[]⟩ : ByteArray), .string (⟨#[]⟩ : ByteArray), .string (⟨#[]⟩ : ByteArray), .string (⟨#[]⟩ : ByteArray), .string (⟨#[]⟩ : ByteArray), .string (⟨#[]⟩ : ByteArray)]) ?_ 1 _ rfl; (with_reducible repeat (first | refine blk_drewN ?_ _ | refine blk_drew ?_ | refine blk_alloc ?_ _)); refine blk_put (cs := #[.int .u8 0, .int .u8 0, .int .u8 0, .int .u8 0, .int .u8 0, .string (⟨#[]⟩ : ByteArray), .string (⟨#[]⟩ : ByteArray), .string (⟨#[]⟩ : ByteArray), .string (⟨#[]⟩ : ByteArray), .string (⟨#[]⟩ : ByteArray), .string (⟨#[]⟩ : ByteArray), .string (⟨#[]⟩ : ByteArray), .string (⟨#[]⟩ : ByteArray), .string (⟨#[]⟩ : ByteArray), .string (⟨#[]⟩ : ByteArray)]) ?_ 0 _ rfl; (with_reducible repeat (first | refine blk_drewN ?_ _ | refine blk_drew ?_ | refine blk_alloc ?_ _)); exact BK245.out) hb); have n2_ := Aside0.mk (below_step (by repeat (first | (with_reducible first | exact HB.out | apply below_alloc | apply pw_below_drewN | apply below_drew1 | refine below_set ?_ GE228.out | refine below_set ?_ GE245.out) | exact HB.out)) hb); clear BK228; clear BK245; clear HB; have BK228 := n0_; have BK245 := n1_; have HB := n2_; clear n0_ n1_ n2_; (try clear hb); (try clear hb2); (try clear hk); (try clear hi); have hcz18_0 : w17.cell? ⟨gb228, 0, none⟩ = some (.int .u8 t212) := (blk_cell BK228.out 0).trans rfl; have hcz18_1 : w17.cell? ⟨gb228, 1, none⟩ = some (.int .u8 t213) := (blk_cell BK228.out 1).trans rfl; have hcz18_2 : w17.cell? ⟨gb228, 2, none⟩ = some (.int .u8 t214) := (blk_cell BK228.out 2).trans rfl; have hcz18_3 : w17.cell? ⟨gb228, 3, none⟩ = some (.int .u8 t215) := (blk_cell BK228.out 3).trans rfl; have hcz18_4 : w17.cell? ⟨gb228, 4, none⟩ = some (.int .u8 t216) := (blk_cell BK228.out 4).trans rfl; have hcz18_5 : w17.cell? ⟨gb228, 5, none⟩ = some (.string t217) := (blk_cell BK228.out 5).trans rfl; have hcz18_6 : w17.cell? ⟨gb228, 6, none⟩ = some (.string t218) := (blk_cell BK228.out 6).trans rfl; have hcz18_7 : w17.cell? ⟨gb228, 7, none⟩ = some (.string t219) := (blk_cell BK228.out 7).trans rfl; have hcz18_8 : w17.cell? ⟨gb228, 8, none⟩ = some (.string t220) := (blk_cell BK228.out 8).trans rfl; have hcz18_9 : w17.cell? ⟨gb228, 9, none⟩ = some (.string t221) := (blk_cell BK228.out 9).trans rfl; have hcz18_10 : w17.cell? ⟨gb228, 10, none⟩ = some (.string t222) := (blk_cell BK228.out 10).trans rfl; have hcz18_11 : w17.cell? ⟨gb228, 11, none⟩ = some (.string t223) := (blk_cell BK228.out 11).trans rfl; have hcz18_12 : w17.cell? ⟨gb228, 12, none⟩ = some (.string t224) := (blk_cell BK228.out 12).trans rfl; have hcz18_13 : w17.cell? ⟨gb228, 13, none⟩ = some (.string t225) := (blk_cell BK228.out 13).trans rfl; have hcz18_14 : w17.cell? ⟨gb228, 14, none⟩ = some (.string t226) := (blk_cell BK228.out 14).trans rfl; have hfz18_0 := blk_frozen BK228.out 0; have hfz18_1 := blk_frozen BK228.out 1; have hfz18_2 := blk_frozen BK228.out 2; have hfz18_3 := blk_frozen BK228.out 3; have hfz18_4 := blk_frozen BK228.out 4; have hfz18_5 := blk_frozen BK228.out 5; have hfz18_6 := blk_frozen BK228.out 6; have hfz18_7 := blk_frozen BK228.out 7; have hfz18_8 := blk_frozen BK228.out 8; have hfz18_9 := blk_frozen BK228.out 9; have hfz18_10 := blk_frozen BK228.out 10; have hfz18_11 := blk_frozen BK228.out 11; have hfz18_12 := blk_frozen BK228.out 12; have hfz18_13 := blk_frozen BK228.out 13; have hfz18_14 := blk_frozen BK228.out 14; have hcz19_0 : w17.cell? ⟨gb245, 0, none⟩ = some (.int .u8 t229) := (blk_cell BK245.out 0).trans rfl; have hcz19_1 : w17.cell? ⟨gb245, 1, none⟩ = some (.int .u8 t230) := (blk_cell BK245.out 1).trans rfl; have hcz19_2 : w17.cell? ⟨gb245, 2, none⟩ = some (.int .u8 t231) := (blk_cell BK245.out 2).trans rfl; have hcz19_3 : w17.cell? ⟨gb245, 3, none⟩ = some (.int .u8 t232) := (blk_cell BK245.out 3).trans rfl; have hcz19_4 : w17.cell? ⟨gb245, 4, none⟩ = some (.int .u8 t233) := (blk_cell BK245.out 4).trans rfl; have hcz19_5 : w17.cell? ⟨gb245, 5, none⟩ = some (.string t234) := (blk_cell BK245.out 5).trans rfl; have hcz19_6 : w17.cell? ⟨gb245, 6, none⟩ = some (.string t235) := (blk_cell BK245.out 6).trans rfl; have hcz19_7 : w17.cell? ⟨gb245, 7, none⟩ = some (.string t236) := (blk_cell BK245.out 7).trans rfl; have hcz19_8 : w17.cell? ⟨gb245, 8, none⟩ = some (.string t237) := (blk_cell BK245.out 8).trans rfl; have hcz19_9 : w17.cell? ⟨gb245, 9, none⟩ = some (.string t238) := (blk_cell BK245.out 9).trans rfl; have hcz19_10 : w17.cell? ⟨gb245, 10, none⟩ = some (.string t239) := (blk_cell BK245.out 10).trans rfl; have hcz19_11 : w17.cell? ⟨gb245, 11, none⟩ = some (.string t240) := (blk_cell BK245.out 11).trans rfl; have hcz19_12 : w17.cell? ⟨gb245, 12, none⟩ = some (.string t241) := (blk_cell BK245.out 12).trans rfl; have hcz19_13 : w17.cell? ⟨gb245, 13, none⟩ = some (.string t242) := (blk_cell BK245.out 13).trans rfl; have hcz19_14 : w17.cell? ⟨gb245, 14, none⟩ = some (.string t243) := (blk_cell BK245.out 14).trans rfl; have hfz19_0 := blk_frozen BK245.out 0; have hfz19_1 := blk_frozen BK245.out 1; have hfz19_2 := blk_frozen BK245.out 2; have hfz19_3 := blk_frozen BK245.out 3; have hfz19_4 := blk_frozen BK245.out 4; have hfz19_5 := blk_frozen BK245.out 5; have hfz19_6 := blk_frozen BK245.out 6; have hfz19_7 := blk_frozen BK245.out 7; have hfz19_8 := blk_frozen BK245.out 8; have hfz19_9 := blk_frozen BK245.out 9; have hfz19_10 := blk_frozen BK245.out 10; have hfz19_11 := blk_frozen BK245.out 11; have hfz19_12 := blk_frozen BK245.out 12; have hfz19_13 := blk_frozen BK245.out 13; have hfz19_14 := blk_frozen BK245.out 14))
        go_ret
        exact ⟨by first | rfl | (simp [errW_none, errW_some] <;> rfl) | (simp [*, errW_none, errW_some] <;> rfl), by repeat (first | (with_reducible first | exact HB.out | apply below_alloc | apply pw_below_drewN | apply below_drew1 | refine below_set ?_ GE228.out | refine below_set ?_ GE245.out) | exact HB.out)⟩
      · rw [if_neg c9] at H
        have c9b0 : ((t212 == t229 && (t213 == t230 && (t214 == t231 && (t215 == t232 && (t216 == t233))))) && (t217.toList == t234.toList && (t218.toList == t235.toList && (t219.toList == t236.toList && (t220.toList == t237.toList && (t221.toList == t238.toList && (t222.toList == t239.toList && (t223.toList == t240.toList && (t224.toList == t241.toList && (t225.toList == t242.toList && (t226.toList == t243.toList))))))))))) = false := by simpa using c9
        clear c9
        obtain rfl := Option.some.inj H
        cases hrt
    · replace c8 := Bool.eq_false_iff.mpr c8
      subst c8
      have H1 : (some false) = some r := by rw [if_neg (show ¬ (false = true) by decide)] at H; exact H
      clear H
      have H := H1
      clear H1
      obtain rfl := Option.some.inj H
      cases hrt

/-! ### lamplighterlaw09_great: function 22 -/
def lamplighterlaw09_great.f (a0_0 : Int) (a0_1 : Int) (a0_2 : Int) (a0_3 : Int) (a0_4 : Int) (a0_5 : ByteArray) (a0_6 : ByteArray) (a0_7 : ByteArray) (a0_8 : ByteArray) (a0_9 : ByteArray) (a0_10 : ByteArray) (a0_11 : ByteArray) (a0_12 : ByteArray) (a0_13 : ByteArray) (a0_14 : ByteArray) : Option (Bool) := some (decide ((wrap64 ((wrap64 ((wrap64 ((wrap64 ((wrap64 ((wrap64 ((wrap64 ((wrap64 ((wrap64 ((a0_5.size : Int) + (a0_6.size : Int))) + (a0_7.size : Int))) + (a0_8.size : Int))) + (a0_9.size : Int))) + (a0_10.size : Int))) + (a0_11.size : Int))) + (a0_12.size : Int))) + (a0_13.size : Int))) + (a0_14.size : Int))) > 3000))
set_option maxHeartbeats 8000000 in
set_option maxRecDepth 100000 in
theorem lamplighterlaw09_great.calls (a0_0 : Int) (a0_1 : Int) (a0_2 : Int) (a0_3 : Int) (a0_4 : Int) (a0_5 : ByteArray) (a0_6 : ByteArray) (a0_7 : ByteArray) (a0_8 : ByteArray) (a0_9 : ByteArray) (a0_10 : ByteArray) (a0_11 : ByteArray) (a0_12 : ByteArray) (a0_13 : ByteArray) (a0_14 : ByteArray) (r : Bool) (w : World) (h : lamplighterlaw09_great.f a0_0 a0_1 a0_2 a0_3 a0_4 a0_5 a0_6 a0_7 a0_8 a0_9 a0_10 a0_11 a0_12 a0_13 a0_14 = some r) :
    Calls Tryd.prog 22 #[.agg #[.int .u8 a0_0, .int .u8 a0_1, .int .u8 a0_2, .int .u8 a0_3, .int .u8 a0_4, .string a0_5, .string a0_6, .string a0_7, .string a0_8, .string a0_9, .string a0_10, .string a0_11, .string a0_12, .string a0_13, .string a0_14]] w fun e w' => e = .returned (.bool r) ∧ Below w.heap.size w w' := by
  have hu25 := Tryd.underlying25
  have HB := Aside0.mk (Below.refl w.heap.size w)
  have H : (some (decide ((wrap64 ((wrap64 ((wrap64 ((wrap64 ((wrap64 ((wrap64 ((wrap64 ((wrap64 ((wrap64 ((a0_5.size : Int) + (a0_6.size : Int))) + (a0_7.size : Int))) + (a0_8.size : Int))) + (a0_9.size : Int))) + (a0_10.size : Int))) + (a0_11.size : Int))) + (a0_12.size : Int))) + (a0_13.size : Int))) + (a0_14.size : Int))) > 3000))) = some r := h
  clear h
  obtain rfl := Option.some.inj H
  go_enter Tryd.func22, Tryd.ntmps22
  go_wp2_with (first | ((with_reducible refine gate_dst (N := 1) rfl ?_); refine box_event ?hg (N := 1) ?hd (cs := #[.int .u8 a0_0, .int .u8 a0_1, .int .u8 a0_2, .int .u8 a0_3, .int .u8 a0_4, .string a0_5, .string a0_6, .string a0_7, .string a0_8, .string a0_9, .string a0_10, .string a0_11, .string a0_12, .string a0_13, .string a0_14]) (t := 25) ?hr ?_; (case hd => rfl); (case hg => rfl); (case hr => first | (go_simp; done) | (go_simp; rfl)); intro gb247 hg w2 hbox hb; have n0_ := Aside0.mk (below_step (by repeat (first | (with_reducible first | exact HB.out | apply below_alloc | apply pw_below_drewN | apply below_drew1) | exact HB.out)) hb); have n1_ := Aside0.mk (hbox); have n2_ := Aside0.mk ((by rw [hg]; exact (below_size (by repeat (first | (with_reducible first | exact HB.out | apply below_alloc | apply pw_below_drewN | apply below_drew1) | exact HB.out))) : w.heap.size ≤ gb247)); have n3_ := Aside0.mk ((by rw [hg]; exact (below_size (by repeat (first | (with_reducible first | exact HB.out | apply below_alloc | apply pw_below_drewN | apply below_drew1) | exact HB.out))) : w.heap.size ≤ gb247)); clear HB; have HB := n0_; have BK247 := n1_; have GW247 := n2_; have GE247 := n3_; clear n0_ n1_ n2_ n3_; clear hb hbox hg; have hcz3_0 : w2.cell? ⟨gb247, 0, none⟩ = some (.int .u8 a0_0) := (blk_cell BK247.out 0).trans rfl; have hcz3_1 : w2.cell? ⟨gb247, 1, none⟩ = some (.int .u8 a0_1) := (blk_cell BK247.out 1).trans rfl; have hcz3_2 : w2.cell? ⟨gb247, 2, none⟩ = some (.int .u8 a0_2) := (blk_cell BK247.out 2).trans rfl; have hcz3_3 : w2.cell? ⟨gb247, 3, none⟩ = some (.int .u8 a0_3) := (blk_cell BK247.out 3).trans rfl; have hcz3_4 : w2.cell? ⟨gb247, 4, none⟩ = some (.int .u8 a0_4) := (blk_cell BK247.out 4).trans rfl; have hcz3_5 : w2.cell? ⟨gb247, 5, none⟩ = some (.string a0_5) := (blk_cell BK247.out 5).trans rfl; have hcz3_6 : w2.cell? ⟨gb247, 6, none⟩ = some (.string a0_6) := (blk_cell BK247.out 6).trans rfl; have hcz3_7 : w2.cell? ⟨gb247, 7, none⟩ = some (.string a0_7) := (blk_cell BK247.out 7).trans rfl; have hcz3_8 : w2.cell? ⟨gb247, 8, none⟩ = some (.string a0_8) := (blk_cell BK247.out 8).trans rfl; have hcz3_9 : w2.cell? ⟨gb247, 9, none⟩ = some (.string a0_9) := (blk_cell BK247.out 9).trans rfl; have hcz3_10 : w2.cell? ⟨gb247, 10, none⟩ = some (.string a0_10) := (blk_cell BK247.out 10).trans rfl; have hcz3_11 : w2.cell? ⟨gb247, 11, none⟩ = some (.string a0_11) := (blk_cell BK247.out 11).trans rfl; have hcz3_12 : w2.cell? ⟨gb247, 12, none⟩ = some (.string a0_12) := (blk_cell BK247.out 12).trans rfl; have hcz3_13 : w2.cell? ⟨gb247, 13, none⟩ = some (.string a0_13) := (blk_cell BK247.out 13).trans rfl; have hcz3_14 : w2.cell? ⟨gb247, 14, none⟩ = some (.string a0_14) := (blk_cell BK247.out 14).trans rfl; have hfz3_0 := blk_frozen BK247.out 0; have hfz3_1 := blk_frozen BK247.out 1; have hfz3_2 := blk_frozen BK247.out 2; have hfz3_3 := blk_frozen BK247.out 3; have hfz3_4 := blk_frozen BK247.out 4; have hfz3_5 := blk_frozen BK247.out 5; have hfz3_6 := blk_frozen BK247.out 6; have hfz3_7 := blk_frozen BK247.out 7; have hfz3_8 := blk_frozen BK247.out 8; have hfz3_9 := blk_frozen BK247.out 9; have hfz3_10 := blk_frozen BK247.out 10; have hfz3_11 := blk_frozen BK247.out 11; have hfz3_12 := blk_frozen BK247.out 12; have hfz3_13 := blk_frozen BK247.out 13; have hfz3_14 := blk_frozen BK247.out 14))
  go_ret
  exact ⟨by first | rfl | (simp [errW_none, errW_some] <;> rfl) | (simp [*, errW_none, errW_some] <;> rfl), by repeat (first | (with_reducible first | exact HB.out | apply below_alloc | apply pw_below_drewN | apply below_drew1 | refine below_set ?_ GE247.out) | exact HB.out)⟩

-- NOT PRINTED: function 90 (abi_NoEscape)

-- NOT PRINTED: function 81 (strings_Builder_copyCheck)

-- NOT PRINTED: function 91 (bytealg_MakeNoZero)

-- NOT PRINTED: function 82 (strings_Builder_grow)

-- NOT PRINTED: function 67 (strings_Builder_Grow)

-- NOT PRINTED: function 68 (strings_Builder_WriteString)

-- NOT PRINTED: function 69 (strings_Builder_String)

/-! ### strings_Join: function 42 -/
def strings_Join.f (l0 : List ByteArray) (a1 : ByteArray) : Option (ByteArray) := if l0.length ≤ 140737488355328 ∧ (Lib.join (l0.map (·.data.toList)) a1.data.toList).length ≤ 140737488355328 then some ⟨(Lib.join (l0.map (·.data.toList)) a1.data.toList).toArray⟩ else none
theorem strings_Join.calls (A0 : Option Addr) (c0 : Nat) (l0 : List ByteArray) (a1 : ByteArray) (r : ByteArray) (w : World) (hr0 : Kd.C Kd.string w A0 l0.length l0) (hc0 : l0.length ≤ c0) (h : strings_Join.f l0 a1 = some r) :
    Calls Tryd.prog 42 #[.slice A0 l0.length c0, .string a1] w fun e w' => e = .returned (.string r) ∧ Below w.heap.size w w' := by
  unfold strings_Join.f at h
  split at h
  · rename_i hb
    obtain rfl := Option.some.inj h
    cases hl : l0 with
    | nil =>
      refine (Tryd.strings_Join_none A0 c0 a1 w).mono ?_
      rintro e w' ⟨rfl, rfl⟩
      exact ⟨by simp [Lib.join], Below.refl _ _⟩
    | cons x t =>
      rw [hl] at hr0 hc0 hb
      have hcell : ∀ j : Nat, j < (x :: t).length → ∃ ad, A0 = some ad ∧ w.cell? (ad.add j) = some (.string (rdOf ByteArray.empty (x :: t) j)) := fun j hj => by
        obtain ⟨ad, e, hc⟩ := Kd.at_string hr0 (j : Int) (by omega) (by omega)
        exact ⟨ad, e, by simpa using hc⟩
      obtain ⟨ad, rfl, hc⟩ := hcell 0 (by simp)
      obtain ⟨b, o, sp⟩ := ad
      have hsp : sp = none := by
        cases sp with
        | none => rfl
        | some s =>
          exfalso
          have h0 : (⟨b, o, some s⟩ : Addr).add 0 = ⟨b, o, some s⟩ := by simp [Addr.add]
          rw [h0] at hc
          unfold World.cell? at hc
          split at hc
          · simp at hc
          · cases hc
      subst hsp
      refine Tryd.strings_Join b o c0 (x :: t) a1 w (fun j y hy => ?_) ?_ hb.1 hc0 hb.2
      · obtain ⟨hj, hy2⟩ := List.getElem?_eq_some_iff.1 hy
        obtain ⟨ad, e, hc2⟩ := hcell j hj
        cases e
        have ha : (⟨b, o, none⟩ : Addr).add j = ⟨b, o + j, none⟩ := by unfold Addr.add; split <;> simp_all
        rw [ha] at hc2
        rw [hc2, ← hy2]
        simp [rdOf, List.getElem?_eq_getElem hj]
      · have h0 : (⟨b, o, none⟩ : Addr).add 0 = ⟨b, o, none⟩ := by simp [Addr.add]
        rw [h0] at hc
        exact World.block_lt_of_cell? w ⟨b, o, none⟩ hc
  · cases h


/-! ### delim_Join: function 43 -/
def delim_Join.f (a0 : Int) (l1 : List ByteArray) : Option (ByteArray) := (strings_Join.f l1 (strOfNums (([a0] : List Int)))).bind fun t251 => (some t251)
set_option maxHeartbeats 8000000 in
set_option maxRecDepth 100000 in
theorem delim_Join.calls (a0 : Int) (A1 : Option Addr) (c1 : Nat) (l1 : List ByteArray) (r : ByteArray) (w : World) (hr1 : Kd.C Kd.string w A1 l1.length l1) (hc1 : l1.length ≤ c1) (h : delim_Join.f a0 l1 = some r) :
    Calls Tryd.prog 43 #[.int .u8 a0, .slice A1 l1.length c1] w fun e w' => e = .returned (.string r) ∧ Below w.heap.size w w' := by
  have HR1 := Aside0.mk hr1
  have HC1 := Aside0.mk hc1
  clear hr1 hc1
  have HB := Aside0.mk (Below.refl w.heap.size w)
  have H : ((strings_Join.f l1 (strOfNums (([a0] : List Int)))).bind fun t251 => (some t251)) = some r := h
  clear h
  obtain ⟨y248, hy248⟩ : ∃ y_ : List Int, y_ = (([a0] : List Int)) := ⟨_, rfl⟩
  replace H : ((strings_Join.f l1 (strOfNums y248)).bind fun t251 => (some t251)) = some r := by first | (rw [hy248]; with_reducible exact H) | (have H2_ := (Option.bind_some _ _).symm.trans H; rw [hy248]; with_reducible exact H2_) | (have H2_ := (Option.bind_some _ _).symm.trans H; with_reducible exact H2_) | with_reducible exact H | (rw [hy248]; exact H) | exact H
  have Ny248 := Aside0.mk hy248
  clear hy248
  replace H := Option.bind_eq_some_iff.mp H
  obtain ⟨t251, A30, H⟩ := H
  replace H : (some t251) = some r := H
  have A3 := Aside0.mk A30
  clear A30
  obtain rfl := Option.some.inj H
  go_enter Tryd.func43, Tryd.ntmps43
  go_wp2_with (first | ((with_reducible refine gate_dst (N := 7) rfl ?_); refine Kd.R_lit (Kd.int .u8) _ 5 ?hg (N := 7) ?hd (xs := ([a0] : List Int)) (inner := [.int .u8 a0]) (ok := fun _ => True) (okp := fun _ => True) ?hr ?hp (fun _ hk => hk) trivial (Below.refl _ _) (Nat.le_refl _) (by simp) ?_; (case hd => rfl); (case hg => rfl); (case hr => first | (go_simp; done) | (go_simp; rfl)); (case hp => exact (Reps.one (show Kd.M (Kd.int .u8) _ _ _ a0 [.int .u8 a0] from rfl) (Reps.none _ _))); intro v249 w4 ho5 hb hg_ hnew_; clear hg_ hnew_; (first | rw [← Ny248.out] at ho5 | (simp only [Int.reduceToNat] at ho5; rw [← Ny248.out] at ho5)); have n0_ := Aside0.mk (Kd.R_lower ho5 (below_size (by repeat (first | (with_reducible first | exact HB.out | apply below_alloc | apply pw_below_drewN | apply below_drew1) | exact HB.out)))); have n1_ := Aside0.mk (below_step (by repeat (first | (with_reducible first | exact HB.out | apply below_alloc | apply pw_below_drewN | apply below_drew1) | exact HB.out)) hb); clear HB; have HO250 := n0_; have HB := n1_; clear n0_ n1_; clear hb ho5; have hcv6 := own_string (P := Tryd.prog) Tryd.underlying28 Tryd.underlying5 Tryd.underlying9 (Kd.own_of_R HO250.out)) | ((with_reducible refine gate_callee (f := 42) rfl ?_); refine goesL_ (some 9) rfl rfl Tryd.func42 (by kernel_rfl) rfl #[.slice A1 l1.length c1, .string (strOfNums y248)] rfl (by (try simp only [List.map_toArray, List.map_cons, List.map_nil]); first | done | rfl | (simp only [List.length_drop, List.length_take]; rfl)) ?_; (with_reducible refine (strings_Join.calls _ _ l1 (strOfNums y248) t251 _ ?side1 ?side2 A3.out).mono ?_); (case side1 => repeat (first | exact (Kd.C_below HR1.out HB.out) | (with_reducible refine Kd.C_alloc ?_ _) | (with_reducible refine Kd.C_drewN ?_ _) | (with_reducible refine Kd.C_drew ?_))); (case side2 => exact HC1.out); rintro e w7 ⟨rfl, hb⟩; refine ⟨_, rfl, ?_⟩; have n0_ := Aside0.mk (Kd.R_below (by (with_reducible repeat (first | apply Kd.R_alloc | apply Kd.R_drewN | apply Kd.R_drew)); exact HO250.out) hb); have n1_ := Aside0.mk (below_step (by repeat (first | (with_reducible first | exact HB.out | apply below_alloc | apply pw_below_drewN | apply below_drew1) | exact HB.out)) hb); clear HO250; clear HB; have HO250 := n0_; have HB := n1_; clear n0_ n1_; (try clear hb); (try clear hb2); (try clear hk); (try clear hi)))
  go_ret
  exact ⟨by first | rfl | (simp [errW_none, errW_some] <;> rfl) | (simp [*, errW_none, errW_some] <;> rfl), by repeat (first | (with_reducible first | exact HB.out | apply below_alloc | apply pw_below_drewN | apply below_drew1) | exact HB.out)⟩

/-! ### segment_Make: function 25 -/
def segment_Make.f (a0_0 : Int) (a0_1 : Int) (a0_2 : Int) (a0_3 : Int) (a0_4 : Int) (a1 : ByteArray) (l2 : List ByteArray) : Option (ByteArray) := if a1.toList = ([77, 83, 72] : List UInt8) then (if 0 ≤ (mn (l2.length : Int) 2) then (if (mn (l2.length : Int) 2) ≤ (l2.length : Int) then ((strings_Join.f (l2.take ((mn (l2.length : Int) 2) : Int).toNat) (⟨#[]⟩ : ByteArray)).bind fun t254 => (if a1.size + t254.size ≤ 9223372036854775807 then ((some (([a1 ++ t254] : List ByteArray) : List ByteArray)).bind fun y256 => (if y256.length + (l2.drop ((mn (l2.length : Int) 2) : Int).toNat).length < 8796093022208 then ((delim_Join.f a0_0 (y256 ++ (l2.drop ((mn (l2.length : Int) 2) : Int).toNat))).bind fun t262 => (some t262)) else (none))) else (none))) else (none)) else (none)) else ((some (([a1] : List ByteArray) : List ByteArray)).bind fun y263 => (if y263.length + l2.length < 8796093022208 then ((delim_Join.f a0_0 (y263 ++ l2)).bind fun t269 => (some t269)) else (none)))
def segment_Make.T5 : Bool × List (List Nat × List Nat) := (true, [([], []), ([0], [0]), ([], []), ([2], [2]), ([], []), ([3, 4], [3, 4]), ([1, 5, 5], [1, 5]), ([6, 6, 0, 1, 2, 3, 4, 5, 6], [6])])
def segment_Make.B5 : List Nat := [0, 1, 0, 4, 0, 28, 63, 127]
theorem segment_Make.tab5 : rtab .any (opsOf Tryd.f25 5) = segment_Make.T5 := by kernel_rfl
theorem segment_Make.bits5 : waitsOk segment_Make.T5.2 segment_Make.B5 = true := by kernel_rfl
set_option maxHeartbeats 8000000 in
set_option maxRecDepth 100000 in
theorem segment_Make.calls (a0_0 : Int) (a0_1 : Int) (a0_2 : Int) (a0_3 : Int) (a0_4 : Int) (a1 : ByteArray) (A2 : Option Addr) (c2 : Nat) (l2 : List ByteArray) (r : ByteArray) (w : World) (hr2 : Kd.C Kd.string w A2 l2.length l2) (hc2 : l2.length ≤ c2) (h : segment_Make.f a0_0 a0_1 a0_2 a0_3 a0_4 a1 l2 = some r) :
    Calls Tryd.prog 25 #[.agg #[.int .u8 a0_0, .int .u8 a0_1, .int .u8 a0_2, .int .u8 a0_3, .int .u8 a0_4], .string a1, .slice A2 l2.length c2] w fun e w' => e = .returned (.string r) ∧ Below w.heap.size w w' := by
  have hu23 := Tryd.underlying23
  have HR2 := Aside0.mk hr2
  have HC2 := Aside0.mk hc2
  clear hr2 hc2
  have HB := Aside0.mk (Below.refl w.heap.size w)
  have H : (if a1.toList = ([77, 83, 72] : List UInt8) then (if 0 ≤ (mn (l2.length : Int) 2) then (if (mn (l2.length : Int) 2) ≤ (l2.length : Int) then ((strings_Join.f (l2.take ((mn (l2.length : Int) 2) : Int).toNat) (⟨#[]⟩ : ByteArray)).bind fun t254 => (if a1.size + t254.size ≤ 9223372036854775807 then ((some (([a1 ++ t254] : List ByteArray) : List ByteArray)).bind fun y256 => (if y256.length + (l2.drop ((mn (l2.length : Int) 2) : Int).toNat).length < 8796093022208 then ((delim_Join.f a0_0 (y256 ++ (l2.drop ((mn (l2.length : Int) 2) : Int).toNat))).bind fun t262 => (some t262)) else (none))) else (none))) else (none)) else (none)) else ((some (([a1] : List ByteArray) : List ByteArray)).bind fun y263 => (if y263.length + l2.length < 8796093022208 then ((delim_Join.f a0_0 (y263 ++ l2)).bind fun t269 => (some t269)) else (none)))) = some r := h
  clear h
  by_cases c4 : a1.toList = ([77, 83, 72] : List UInt8)
  · rw [if_pos c4] at H
    have c4b0 : (a1.toList == ([77, 83, 72] : List UInt8)) = true := beq_iff_eq.mpr c4
    have c4b1 : (a1.toList != ([77, 83, 72] : List UInt8)) = false := bne_eq_false_iff_eq.mpr c4
    clear c4
    obtain ⟨ji5, hji5⟩ : ∃ j_ : Int, (mn (l2.length : Int) 2) = j_ := ⟨_, rfl⟩
    replace H : (if 0 ≤ (ji5) then (if (ji5) ≤ (l2.length : Int) then ((strings_Join.f (l2.take ((ji5) : Int).toNat) (⟨#[]⟩ : ByteArray)).bind fun t254 => (if a1.size + t254.size ≤ 9223372036854775807 then ((some (([a1 ++ t254] : List ByteArray) : List ByteArray)).bind fun y256 => (if y256.length + (l2.drop ((ji5) : Int).toNat).length < 8796093022208 then ((delim_Join.f a0_0 (y256 ++ (l2.drop ((ji5) : Int).toNat))).bind fun t262 => (some t262)) else (none))) else (none))) else (none)) else (none)) = some r := by first | (rw [hji5] at H; exact H) | (simp only [hji5] at H ⊢; exact H)
    (try (have hji5h : ji5 ≤ 2 := by (rw [← hji5]; unfold mn; (repeat' split) <;> omega)))
    (try (have hji5g : ji5 ≤ 64 := by omega))
    (try (have hji5l : 0 ≤ ji5 := by (rw [← hji5]; unfold mn; (repeat' split) <;> omega)))
    (try (have hji5m : 0 ≤ ji5 := by omega))
    have hji5_ : (if 2 < (l2.length : Int) then 2 else (l2.length : Int)) = ji5 := hji5
    by_cases c6 : 0 ≤ (ji5)
    · rw [if_pos c6] at H
      have c6b0 := eq_true c6
      have c6b1 : decide (0 ≤ (ji5)) = true := decide_eq_true c6
      clear c6
      by_cases c7 : (ji5) ≤ (l2.length : Int)
      · rw [if_pos c7] at H
        have c7b0 := eq_true c7
        have c7b1 : decide ((ji5) ≤ (l2.length : Int)) = true := decide_eq_true c7
        clear c7
        replace H := Option.bind_eq_some_iff.mp H
        obtain ⟨t254, A80, H⟩ := H
        replace H : (if a1.size + t254.size ≤ 9223372036854775807 then ((some (([a1 ++ t254] : List ByteArray) : List ByteArray)).bind fun y256 => (if y256.length + (l2.drop ((ji5) : Int).toNat).length < 8796093022208 then ((delim_Join.f a0_0 (y256 ++ (l2.drop ((ji5) : Int).toNat))).bind fun t262 => (some t262)) else (none))) else (none)) = some r := H
        have A8 := Aside0.mk A80
        clear A80
        by_cases c9 : a1.size + t254.size ≤ 9223372036854775807
        · rw [if_pos c9] at H
          have c9b0 := eq_true c9
          have c9b1 : decide (a1.size + t254.size ≤ 9223372036854775807) = true := decide_eq_true c9
          try have c9b2 : (9223372036854775807 < a1.size + t254.size) = False := eq_false (Nat.not_lt.2 c9)
          try (have c9b4 := c9b2; simp only [ByteArray.size_append] at c9b4)
          have c10b0 := eq_true (of_decide_eq_true (by first | (with_reducible assumption) | assumption) : 0 ≤ (ji5))
          have c11b0 := eq_true (of_decide_eq_true (by first | (with_reducible assumption) | assumption) : (ji5) ≤ (l2.length : Int))
          obtain ⟨y256, hy256⟩ : ∃ y_ : List ByteArray, y_ = (([a1 ++ t254] : List ByteArray)) := ⟨_, rfl⟩
          replace H : (if y256.length + (l2.drop ((ji5) : Int).toNat).length < 8796093022208 then ((delim_Join.f a0_0 (y256 ++ (l2.drop ((ji5) : Int).toNat))).bind fun t262 => (some t262)) else (none)) = some r := by first | (rw [hy256]; with_reducible exact H) | (have H2_ := (Option.bind_some _ _).symm.trans H; rw [hy256]; with_reducible exact H2_) | (have H2_ := (Option.bind_some _ _).symm.trans H; with_reducible exact H2_) | with_reducible exact H | (rw [hy256]; exact H) | exact H
          have Ny256 := Aside0.mk hy256
          clear hy256
          by_cases c12 : y256.length + (l2.drop ((ji5) : Int).toNat).length < 8796093022208
          · rw [if_pos c12] at H
            have LMc12 := Aside0.mk c12
            clear c12
            obtain ⟨y259, hy259⟩ : ∃ y_ : List ByteArray, y_ = (y256 ++ (l2.drop ((ji5) : Int).toNat)) := ⟨_, rfl⟩
            replace H : ((delim_Join.f a0_0 y259).bind fun t262 => (some t262)) = some r := by first | (rw [hy259]; with_reducible exact H) | (have H2_ := (Option.bind_some _ _).symm.trans H; rw [hy259]; with_reducible exact H2_) | (have H2_ := (Option.bind_some _ _).symm.trans H; with_reducible exact H2_) | with_reducible exact H | (rw [hy259]; exact H) | exact H
            have Ny259 := Aside0.mk hy259
            clear hy259
            replace H := Option.bind_eq_some_iff.mp H
            obtain ⟨t262, A130, H⟩ := H
            replace H : (some t262) = some r := H
            have A13 := Aside0.mk A130
            clear A130
            obtain rfl := Option.some.inj H
            go_enter Tryd.func25, Tryd.ntmps25
            try go_wp2_with (first | ((with_reducible refine gate_dst (N := 3) rfl ?_); refine box_event ?hg (N := 3) ?hd (cs := #[.int .u8 a0_0, .int .u8 a0_1, .int .u8 a0_2, .int .u8 a0_3, .int .u8 a0_4]) (t := 23) ?hr ?_; (case hd => rfl); (case hg => rfl); (case hr => first | (go_simp; done) | (go_simp; rfl)); intro gb252 hg w14 hbox hb; have n0_ := Aside0.mk (below_step (by repeat (first | (with_reducible first | exact HB.out | apply below_alloc | apply pw_below_drewN | apply below_drew1) | exact HB.out)) hb); have n1_ := Aside0.mk (hbox); have n2_ := Aside0.mk ((by rw [hg]; exact (below_size (by repeat (first | (with_reducible first | exact HB.out | apply below_alloc | apply pw_below_drewN | apply below_drew1) | exact HB.out))) : w.heap.size ≤ gb252)); have n3_ := Aside0.mk ((by rw [hg]; exact (below_size (by repeat (first | (with_reducible first | exact HB.out | apply below_alloc | apply pw_below_drewN | apply below_drew1) | exact HB.out))) : w.heap.size ≤ gb252)); clear HB; have HB := n0_; have BK252 := n1_; have GW252 := n2_; have GE252 := n3_; clear n0_ n1_ n2_ n3_; clear hb hbox hg; obtain ⟨i015, hi015, _, hsz15, _⟩ := info_parts info9; obtain ⟨hcut15, hA15, hC15⟩ := print_take_of (P := Tryd.prog) Value.string (⟨#[]⟩ : ByteArray) 34 9 .i64 Tryd.underlying34 hi015 hsz15 A2 c2 l2 (ji5) (of_decide_eq_true (by first | (with_reducible assumption) | assumption)) (of_decide_eq_true (by first | (with_reducible assumption) | assumption)) HC2.out; have HR253 := Aside0.mk (Kd.C_of_reads (h1 := fun _ => rfl) (hA15 _ (Kd.reads_of_C HR2.out))); have HC253 := Aside0.mk hC15; clear hA15 hC15 hi015 hsz15) | ((with_reducible refine gate_callee (f := 42) rfl ?_); refine goesL_ (some 17) rfl rfl Tryd.func42 (by kernel_rfl) rfl #[.slice A2 (l2.take ((ji5) : Int).toNat).length c2, .string (⟨#[]⟩ : ByteArray)] rfl (by (try simp only [List.map_toArray, List.map_cons, List.map_nil]); first | done | (rw [show (l2.take ((ji5) : Int).toNat).length = (ji5).toNat from (by rw [List.length_take]; have h_ : ((ji5) : Int) ≤ (l2.length : Int) := of_decide_eq_true (by first | (with_reducible assumption) | assumption); omega)] <;> rfl) | (simp only [hji5]; rfl) | rfl | (simp only [List.length_drop, List.length_take]; rfl)) ?_; (with_reducible refine (strings_Join.calls _ _ (l2.take ((ji5) : Int).toNat) (⟨#[]⟩ : ByteArray) t254 _ ?side1 ?side2 A8.out).mono ?_); (case side1 => repeat (first | exact (Kd.C_below HR253.out HB.out) | (with_reducible refine Kd.C_alloc ?_ _) | (with_reducible refine Kd.C_drewN ?_ _) | (with_reducible refine Kd.C_drew ?_))); (case side2 => exact HC253.out); rintro e w16 ⟨rfl, hb⟩; refine ⟨_, rfl, ?_⟩; have n0_ := Aside0.mk (blk_below (g := gb252) (o := .cells #[.int .u8 a0_0, .int .u8 a0_1, .int .u8 a0_2, .int .u8 a0_3, .int .u8 a0_4] 23 (0, 0)) (by (with_reducible repeat (first | refine blk_drewN ?_ _ | refine blk_drew ?_ | refine blk_alloc ?_ _)); exact BK252.out) hb); have n1_ := Aside0.mk (below_step (by repeat (first | (with_reducible first | exact HB.out | apply below_alloc | apply pw_below_drewN | apply below_drew1 | refine below_set ?_ GE252.out) | exact HB.out)) hb); clear BK252; clear HB; have BK252 := n0_; have HB := n1_; clear n0_ n1_; (try clear hb); (try clear hb2); (try clear hk); (try clear hi); obtain ⟨i017, hi017, _, hsz17, _⟩ := info_parts info9; obtain ⟨A17, hcut17, hA17, hC17⟩ := print_drop_of (P := Tryd.prog) Value.string (⟨#[]⟩ : ByteArray) 34 9 .i64 Tryd.underlying34 hi017 hsz17 A2 c2 l2 (ji5) (of_decide_eq_true (by first | (with_reducible assumption) | assumption)) (of_decide_eq_true (by first | (with_reducible assumption) | assumption)) HC2.out; have HR255 := Aside0.mk (Kd.C_of_reads (h1 := fun _ => rfl) (hA17 _ (Kd.reads_of_C HR2.out))); have HC255 := Aside0.mk hC17; clear hA17 hC17 hi017 hsz17))
            have n0_ := Aside0.mk (blk_drew BK252.out)
            have n1_ := Aside0.mk (below_drew1 HB.out)
            clear BK252
            clear HB
            have BK252 := n0_
            have HB := n1_
            clear n0_ n1_
            refine start_ (n := 8) (S := fun w' => w'.cell? ⟨gb252, 0, none⟩ = some (.int .u8 a0_0) ∧ w'.cell? ⟨gb252, 1, none⟩ = some (.int .u8 a0_1) ∧ w'.cell? ⟨gb252, 2, none⟩ = some (.int .u8 a0_2) ∧ w'.cell? ⟨gb252, 3, none⟩ = some (.int .u8 a0_3) ∧ w'.cell? ⟨gb252, 4, none⟩ = some (.int .u8 a0_4)) (ds := []) #[false, false, false, false, false, false, false, false] (by kernel_rfl) rfl rfl ⟨(blk_cell BK252.out 0).trans rfl, (blk_cell BK252.out 1).trans rfl, (blk_cell BK252.out 2).trans rfl, (blk_cell BK252.out 3).trans rfl, (blk_cell BK252.out 4).trans rfl⟩ (fun hHeld => ?_); refine with_tabW segment_Make.tab5 segment_Make.bits5 (fun HT_ HW_ => ?_)
            generalize w16.drew = w18 at BK252 HB hHeld ⊢
            refine pure_ (i := 0) (N := some 22) (v := ?_) (a' := ?_) #[true, false, false, false, false, false, false, false] rfl rfl (any_of HT_.out (by kernel_rfl)) (fun _ _ _ h => h) (Or.inl ⟨by rfl, ?_⟩) ?_ ?_
            rotate_left
            · intro w'
              go_simp
              with_reducible rfl
            rotate_left
            · simp only [Act.put, List.setIfInBounds_toArray, List.set_cons_zero, List.set_cons_succ, i64_w, i32_w]
              rfl
            refine pure_ (i := 2) (N := some 24) (v := ?_) (a' := ?_) #[true, false, true, false, false, false, false, false] rfl rfl (any_of HT_.out (by kernel_rfl)) (fun _ _ _ h => h) (Or.inl ⟨by rfl, ?_⟩) ?_ ?_
            rotate_left
            · intro w'
              go_simp
              with_reducible rfl
            rotate_left
            · simp only [Act.put, List.setIfInBounds_toArray, List.set_cons_zero, List.set_cons_succ, i64_w, i32_w]
              rfl
            refine pure_ (i := 4) (N := some 26) (v := ?_) (a' := ?_) #[true, false, true, false, true, false, false, false] rfl rfl (any_of HT_.out (by kernel_rfl)) (fun _ _ _ h => h) (Or.inl ⟨by rfl, ?_⟩) ?_ ?_
            rotate_left
            · intro w'
              go_simp
              with_reducible rfl
            rotate_left
            · simp only [Act.put, List.setIfInBounds_toArray, List.set_cons_zero, List.set_cons_succ, i64_w, i32_w]
              rfl
            refine take_ (i := 1) (N := some 23) (v := ?_) (a' := ?_) #[true, true, true, false, true, false, false, false] rfl rfl (take_ofW HT_.out HW_.out (by kernel_rfl)) (fun _ _ _ h => h) (Or.inl ⟨by rfl, ?_⟩) hHeld ?_ ?_
            rotate_left
            · rintro w' ⟨s0, s1, s2, s3, s4⟩
              go_simp
              with_reducible rfl
            rotate_left
            · simp only [Act.put, List.setIfInBounds_toArray, List.set_cons_zero, List.set_cons_succ, i64_w, i32_w]
              rfl
            refine one_ (i := 3) (N := some 25) #[true, true, true, true, true, false, false, false] rfl rfl (one_of HT_.out (by kernel_rfl)) (by decide) (fun K hK => ?_)
            refine Kd.R_lit_step Kd.string _ 9 ?hg (N := 25) ?hd (xs := ([a1 ++ t254] : List ByteArray)) (inner := [.string (a1 ++ t254)]) (ok := fun _ => True) (okp := fun _ => True) ?hr ?hp (fun _ hk => hk) trivial (Below.refl _ _) (Nat.le_refl _) (by simp) ?_; (case hd => rfl); (case hg => rfl); (case hr => first | (go_simp; done) | (go_simp; rfl)); (case hp => exact (Reps.one (show Kd.M Kd.string _ _ _ (a1 ++ t254) [.string (a1 ++ t254)] from rfl) (Reps.none _ _)))
            intro v257 w19 ho20 hb hg_ hnew_
            clear hg_ hnew_
            (first | rw [← Ny256.out] at ho20 | (simp only [Int.reduceToNat] at ho20; rw [← Ny256.out] at ho20))
            have n0_ := Aside0.mk (Kd.R_lower ho20 (below_size (by repeat (first | (with_reducible first | exact HB.out | apply below_alloc | apply pw_below_drewN | apply below_drew1 | refine below_set ?_ GE252.out) | exact HB.out))))
            have n1_ := Aside0.mk (blk_below (g := gb252) (o := .cells #[.int .u8 a0_0, .int .u8 a0_1, .int .u8 a0_2, .int .u8 a0_3, .int .u8 a0_4] 23 (0, 0)) (by (with_reducible repeat (first | refine blk_drewN ?_ _ | refine blk_drew ?_ | refine blk_alloc ?_ _)); exact BK252.out) hb)
            have n2_ := Aside0.mk (below_step (by repeat (first | (with_reducible first | exact HB.out | apply below_alloc | apply pw_below_drewN | apply below_drew1 | refine below_set ?_ GE252.out) | exact HB.out)) hb)
            clear BK252
            clear HB
            have HO258 := n0_
            have BK252 := n1_
            have HB := n2_
            clear n0_ n1_ n2_
            clear hb ho20
            refine hK.out _ _ ⟨(blk_cell BK252.out 0).trans rfl, (blk_cell BK252.out 1).trans rfl, (blk_cell BK252.out 2).trans rfl, (blk_cell BK252.out 3).trans rfl, (blk_cell BK252.out 4).trans rfl⟩ (fun hHeld => ?_)
            clear hK K
            refine norm_ (a' := ?_) ?_ ?_
            rotate_left
            · show Act.put _ (some 25) _ = _
              simp only [Act.put, List.setIfInBounds_toArray, List.set_cons_zero, List.set_cons_succ, i64_w, i32_w]
              rfl
            refine one_ (i := 5) (N := some 27) #[true, true, true, true, true, true, false, false] rfl rfl (one_of HT_.out (by kernel_rfl)) (by decide) (fun K hK => ?_)
            refine Kd.R_append_rows_step Kd.string (w0 := w) w.heap.size (by rfl) (.tmp 25) (.tmp 26) 34 9 (.string ⟨#[]⟩) 16 rfl Tryd.underlying34 info9 rfl (by decide) (by omega) v257 y256 (l2.drop ((ji5) : Int).toNat) _ _ _ (fun _ => True) (fun _ => False) rfl rfl ?aO ?aR (fun _ _ h => h) (fun _ h => h.elim) ?aF ?aB ?aS ?aL ?_
            (case aR => first | (rw [← show (l2.drop ((ji5) : Int).toNat).length = (l2.length - (ji5).toNat) from List.length_drop]; repeat (first | exact (Kd.C_below HR255.out HB.out) | (with_reducible refine Kd.C_alloc ?_ _) | (with_reducible refine Kd.C_drewN ?_ _) | (with_reducible refine Kd.C_drew ?_))) | (repeat (first | exact (Kd.C_below HR255.out HB.out) | (with_reducible refine Kd.C_alloc ?_ _) | (with_reducible refine Kd.C_drewN ?_ _) | (with_reducible refine Kd.C_drew ?_))))
            (case aB => exact (by repeat (first | (with_reducible first | exact HB.out | apply below_alloc | apply pw_below_drewN | apply below_drew1 | refine below_set ?_ GE252.out) | exact HB.out)))
            (case aF => exact (fun _ _ => trivial))
            (case aO => exact (by (with_reducible repeat (first | apply Kd.R_alloc | apply Kd.R_drewN | apply Kd.R_drew)); exact HO258.out))
            (case aS => exact (below_size (by repeat (first | (with_reducible first | exact HB.out | apply below_alloc | apply pw_below_drewN | apply below_drew1 | refine below_set ?_ GE252.out) | exact HB.out))))
            (case aL => have := LMc12.out; have hlx_ := (show (l2.drop ((ji5) : Int).toNat).length = (l2.length - (ji5).toNat) from List.length_drop); omega)
            intro v260 w21 ho hb hg hat
            rw [← Ny259.out] at ho
            have n0_ := Aside0.mk (blk_grown (g := gb252) (o := .cells #[.int .u8 a0_0, .int .u8 a0_1, .int .u8 a0_2, .int .u8 a0_3, .int .u8 a0_4] 23 (0, 0)) (by (with_reducible repeat (first | refine blk_drewN ?_ _ | refine blk_drew ?_ | refine blk_alloc ?_ _)); exact BK252.out) hg (Kd.R_ne HO258.out BK252.out (by decide)))
            have n1_ := Aside0.mk (hb)
            have n2_ := Aside0.mk (ho)
            clear BK252
            clear HB
            clear HO258
            have BK252 := n0_
            have HB := n1_
            have HO261 := n2_
            clear n0_ n1_ n2_
            clear ho hb hg hat
            obtain ⟨Ao22, co22, eo22⟩ := Kd.R_slice HO261.out
            (first | subst eo22 | (injection eo22 with f1_ f2_ f3_; have f4_ := f1_.symm; have f5_ := f3_.symm; clear f1_ f2_ f3_; subst f4_; subst f5_))
            refine hK.out _ _ ⟨(blk_cell BK252.out 0).trans rfl, (blk_cell BK252.out 1).trans rfl, (blk_cell BK252.out 2).trans rfl, (blk_cell BK252.out 3).trans rfl, (blk_cell BK252.out 4).trans rfl⟩ (fun hHeld => ?_)
            clear hK K
            refine norm_ (a' := ?_) ?_ ?_
            rotate_left
            · show Act.put _ (some 27) _ = _
              simp only [Act.put, List.setIfInBounds_toArray, List.set_cons_zero, List.set_cons_succ, i64_w, i32_w]
              rfl
            refine one_ (i := 6) (N := some 28) #[true, true, true, true, true, true, true, false] rfl rfl (one_of HT_.out (by kernel_rfl)) (by decide) (fun K hK => ?_)
            refine goes_ Tryd.func43 (by kernel_rfl) rfl #[.int .u8 a0_0, .slice Ao22 y259.length co22] (by rfl) rfl rfl (by (try simp only [List.map_toArray, List.map_cons, List.map_nil]); first | done | rfl | (simp only [List.length_drop, List.length_take]; rfl)) ?_
            with_reducible refine (delim_Join.calls a0_0 _ _ y259 t262 _ ?side1 ?side2 A13.out).mono ?_
            (case side1 => repeat (first | exact (Kd.R_reads' HO261.out).2.2 | (with_reducible refine Kd.C_alloc ?_ _) | (with_reducible refine Kd.C_drewN ?_ _) | (with_reducible refine Kd.C_drew ?_)))
            (case side2 => exact (Kd.R_reads' HO261.out).2.1)
            rintro e w23 ⟨rfl, hb⟩
            refine ⟨_, rfl, ?_⟩
            have n0_ := Aside0.mk (Kd.R_below (by (with_reducible repeat (first | apply Kd.R_alloc | apply Kd.R_drewN | apply Kd.R_drew)); exact HO261.out) hb)
            have n1_ := Aside0.mk (blk_below (g := gb252) (o := .cells #[.int .u8 a0_0, .int .u8 a0_1, .int .u8 a0_2, .int .u8 a0_3, .int .u8 a0_4] 23 (0, 0)) (by (with_reducible repeat (first | refine blk_drewN ?_ _ | refine blk_drew ?_ | refine blk_alloc ?_ _)); exact BK252.out) hb)
            have n2_ := Aside0.mk (below_step (by repeat (first | (with_reducible first | exact HB.out | apply below_alloc | apply pw_below_drewN | apply below_drew1 | refine below_set ?_ GE252.out) | exact HB.out)) hb)
            clear HO261
            clear BK252
            clear HB
            have HO261 := n0_
            have BK252 := n1_
            have HB := n2_
            clear n0_ n1_ n2_
            (try clear hb)
            (try clear hb2)
            (try clear hk)
            (try clear hi)
            refine hK.out _ _ ⟨(blk_cell BK252.out 0).trans rfl, (blk_cell BK252.out 1).trans rfl, (blk_cell BK252.out 2).trans rfl, (blk_cell BK252.out 3).trans rfl, (blk_cell BK252.out 4).trans rfl⟩ (fun hHeld => ?_)
            clear hK K
            refine norm_ (a' := ?_) ?_ ?_
            rotate_left
            · show Act.put _ (some 28) _ = _
              simp only [Act.put, List.setIfInBounds_toArray, List.set_cons_zero, List.set_cons_succ, i64_w, i32_w]
              rfl
            refine pure_ (i := 7) (N := some 6) (v := ?_) (a' := ?_) #[true, true, true, true, true, true, true, true] rfl rfl (any_of HT_.out (by kernel_rfl)) (fun _ _ _ h => h) (Or.inl ⟨by rfl, ?_⟩) ?_ ?_
            rotate_left
            · intro w'
              go_simp
              with_reducible rfl
            rotate_left
            · simp only [Act.put, List.setIfInBounds_toArray, List.set_cons_zero, List.set_cons_succ, i64_w, i32_w]
              rfl
            refine done_ (done_of HT_.out (by kernel_rfl)) ?_
            try go_wp2
            go_ret
            exact ⟨by first | rfl | (simp [errW_none, errW_some] <;> rfl) | (simp only [← hji5]; first | rfl | (simp [errW_none, errW_some] <;> rfl)) | (simp [*, errW_none, errW_some] <;> rfl), by repeat (first | (with_reducible first | exact HB.out | apply below_alloc | apply pw_below_drewN | apply below_drew1 | refine below_set ?_ GE252.out) | exact HB.out)⟩
          · rw [if_neg c12] at H
            exact absurd H (by simp)
        · rw [if_neg c9] at H
          exact absurd H (by simp)
      · rw [if_neg c7] at H
        exact absurd H (by simp)
    · rw [if_neg c6] at H
      exact absurd H (by simp)
  · rw [if_neg c4] at H
    have c4b0 : (a1.toList == ([77, 83, 72] : List UInt8)) = false := beq_eq_false_iff_ne.mpr c4
    have c4b1 : (a1.toList != ([77, 83, 72] : List UInt8)) = true := bne_iff_ne.mpr c4
    obtain ⟨y263, hy263⟩ : ∃ y_ : List ByteArray, y_ = (([a1] : List ByteArray)) := ⟨_, rfl⟩
    replace H : (if y263.length + l2.length < 8796093022208 then ((delim_Join.f a0_0 (y263 ++ l2)).bind fun t269 => (some t269)) else (none)) = some r := by first | (rw [hy263]; with_reducible exact H) | (have H2_ := (Option.bind_some _ _).symm.trans H; rw [hy263]; with_reducible exact H2_) | (have H2_ := (Option.bind_some _ _).symm.trans H; with_reducible exact H2_) | with_reducible exact H | (rw [hy263]; exact H) | exact H
    have Ny263 := Aside0.mk hy263
    clear hy263
    by_cases c24 : y263.length + l2.length < 8796093022208
    · rw [if_pos c24] at H
      have LMc24 := Aside0.mk c24
      clear c24
      obtain ⟨y266, hy266⟩ : ∃ y_ : List ByteArray, y_ = (y263 ++ l2) := ⟨_, rfl⟩
      replace H : ((delim_Join.f a0_0 y266).bind fun t269 => (some t269)) = some r := by first | (rw [hy266]; with_reducible exact H) | (have H2_ := (Option.bind_some _ _).symm.trans H; rw [hy266]; with_reducible exact H2_) | (have H2_ := (Option.bind_some _ _).symm.trans H; with_reducible exact H2_) | with_reducible exact H | (rw [hy266]; exact H) | exact H
      have Ny266 := Aside0.mk hy266
      clear hy266
      replace H := Option.bind_eq_some_iff.mp H
      obtain ⟨t269, A250, H⟩ := H
      replace H : (some t269) = some r := H
      have A25 := Aside0.mk A250
      clear A250
      obtain rfl := Option.some.inj H
      go_enter Tryd.func25, Tryd.ntmps25
      try go_wp2_with (first | ((with_reducible refine gate_dst (N := 3) rfl ?_); refine box_event ?hg (N := 3) ?hd (cs := #[.int .u8 a0_0, .int .u8 a0_1, .int .u8 a0_2, .int .u8 a0_3, .int .u8 a0_4]) (t := 23) ?hr ?_; (case hd => rfl); (case hg => rfl); (case hr => first | (go_simp; done) | (go_simp; rfl)); intro gb252 hg w26 hbox hb; have n0_ := Aside0.mk (below_step (by repeat (first | (with_reducible first | exact HB.out | apply below_alloc | apply pw_below_drewN | apply below_drew1) | exact HB.out)) hb); have n1_ := Aside0.mk (hbox); have n2_ := Aside0.mk ((by rw [hg]; exact (below_size (by repeat (first | (with_reducible first | exact HB.out | apply below_alloc | apply pw_below_drewN | apply below_drew1) | exact HB.out))) : w.heap.size ≤ gb252)); have n3_ := Aside0.mk ((by rw [hg]; exact (below_size (by repeat (first | (with_reducible first | exact HB.out | apply below_alloc | apply pw_below_drewN | apply below_drew1) | exact HB.out))) : w.heap.size ≤ gb252)); clear HB; have HB := n0_; have BK252 := n1_; have GW252 := n2_; have GE252 := n3_; clear n0_ n1_ n2_ n3_; clear hb hbox hg))
      have n0_ := Aside0.mk (blk_drew BK252.out)
      have n1_ := Aside0.mk (below_drew1 HB.out)
      clear BK252
      clear HB
      have BK252 := n0_
      have HB := n1_
      clear n0_ n1_
      refine start_ (n := 8) (S := fun w' => w'.cell? ⟨gb252, 0, none⟩ = some (.int .u8 a0_0) ∧ w'.cell? ⟨gb252, 1, none⟩ = some (.int .u8 a0_1) ∧ w'.cell? ⟨gb252, 2, none⟩ = some (.int .u8 a0_2) ∧ w'.cell? ⟨gb252, 3, none⟩ = some (.int .u8 a0_3) ∧ w'.cell? ⟨gb252, 4, none⟩ = some (.int .u8 a0_4)) (ds := []) #[false, false, false, false, false, false, false, false] (by kernel_rfl) rfl rfl ⟨(blk_cell BK252.out 0).trans rfl, (blk_cell BK252.out 1).trans rfl, (blk_cell BK252.out 2).trans rfl, (blk_cell BK252.out 3).trans rfl, (blk_cell BK252.out 4).trans rfl⟩ (fun hHeld => ?_); refine with_tabW segment_Make.tab5 segment_Make.bits5 (fun HT_ HW_ => ?_)
      generalize w26.drew = w27 at BK252 HB hHeld ⊢
      refine pure_ (i := 0) (N := some 22) (v := ?_) (a' := ?_) #[true, false, false, false, false, false, false, false] rfl rfl (any_of HT_.out (by kernel_rfl)) (fun _ _ _ h => h) (Or.inl ⟨by rfl, ?_⟩) ?_ ?_
      rotate_left
      · intro w'
        go_simp
        with_reducible rfl
      rotate_left
      · simp only [Act.put, List.setIfInBounds_toArray, List.set_cons_zero, List.set_cons_succ, i64_w, i32_w]
        rfl
      refine pure_ (i := 2) (N := some 24) (v := ?_) (a' := ?_) #[true, false, true, false, false, false, false, false] rfl rfl (any_of HT_.out (by kernel_rfl)) (fun _ _ _ h => h) (Or.inl ⟨by rfl, ?_⟩) ?_ ?_
      rotate_left
      · intro w'
        go_simp
        with_reducible rfl
      rotate_left
      · simp only [Act.put, List.setIfInBounds_toArray, List.set_cons_zero, List.set_cons_succ, i64_w, i32_w]
        rfl
      refine pure_ (i := 4) (N := some 26) (v := ?_) (a' := ?_) #[true, false, true, false, true, false, false, false] rfl rfl (any_of HT_.out (by kernel_rfl)) (fun _ _ _ h => h) (Or.inl ⟨by rfl, ?_⟩) ?_ ?_
      rotate_left
      · intro w'
        go_simp
        with_reducible rfl
      rotate_left
      · simp only [Act.put, List.setIfInBounds_toArray, List.set_cons_zero, List.set_cons_succ, i64_w, i32_w]
        rfl
      refine take_ (i := 1) (N := some 23) (v := ?_) (a' := ?_) #[true, true, true, false, true, false, false, false] rfl rfl (take_ofW HT_.out HW_.out (by kernel_rfl)) (fun _ _ _ h => h) (Or.inl ⟨by rfl, ?_⟩) hHeld ?_ ?_
      rotate_left
      · rintro w' ⟨s0, s1, s2, s3, s4⟩
        go_simp
        with_reducible rfl
      rotate_left
      · simp only [Act.put, List.setIfInBounds_toArray, List.set_cons_zero, List.set_cons_succ, i64_w, i32_w]
        rfl
      refine one_ (i := 3) (N := some 25) #[true, true, true, true, true, false, false, false] rfl rfl (one_of HT_.out (by kernel_rfl)) (by decide) (fun K hK => ?_)
      refine Kd.R_lit_step Kd.string _ 9 ?hg (N := 25) ?hd (xs := ([a1] : List ByteArray)) (inner := [.string a1]) (ok := fun _ => True) (okp := fun _ => True) ?hr ?hp (fun _ hk => hk) trivial (Below.refl _ _) (Nat.le_refl _) (by simp) ?_; (case hd => rfl); (case hg => rfl); (case hr => first | (go_simp; done) | (go_simp; rfl)); (case hp => exact (Reps.one (show Kd.M Kd.string _ _ _ a1 [.string a1] from rfl) (Reps.none _ _)))
      intro v264 w28 ho29 hb hg_ hnew_
      clear hg_ hnew_
      (first | rw [← Ny263.out] at ho29 | (simp only [Int.reduceToNat] at ho29; rw [← Ny263.out] at ho29))
      have n0_ := Aside0.mk (Kd.R_lower ho29 (below_size (by repeat (first | (with_reducible first | exact HB.out | apply below_alloc | apply pw_below_drewN | apply below_drew1 | refine below_set ?_ GE252.out) | exact HB.out))))
      have n1_ := Aside0.mk (blk_below (g := gb252) (o := .cells #[.int .u8 a0_0, .int .u8 a0_1, .int .u8 a0_2, .int .u8 a0_3, .int .u8 a0_4] 23 (0, 0)) (by (with_reducible repeat (first | refine blk_drewN ?_ _ | refine blk_drew ?_ | refine blk_alloc ?_ _)); exact BK252.out) hb)
      have n2_ := Aside0.mk (below_step (by repeat (first | (with_reducible first | exact HB.out | apply below_alloc | apply pw_below_drewN | apply below_drew1 | refine below_set ?_ GE252.out) | exact HB.out)) hb)
      clear BK252
      clear HB
      have HO265 := n0_
      have BK252 := n1_
      have HB := n2_
      clear n0_ n1_ n2_
      clear hb ho29
      refine hK.out _ _ ⟨(blk_cell BK252.out 0).trans rfl, (blk_cell BK252.out 1).trans rfl, (blk_cell BK252.out 2).trans rfl, (blk_cell BK252.out 3).trans rfl, (blk_cell BK252.out 4).trans rfl⟩ (fun hHeld => ?_)
      clear hK K
      refine norm_ (a' := ?_) ?_ ?_
      rotate_left
      · show Act.put _ (some 25) _ = _
        simp only [Act.put, List.setIfInBounds_toArray, List.set_cons_zero, List.set_cons_succ, i64_w, i32_w]
        rfl
      refine one_ (i := 5) (N := some 27) #[true, true, true, true, true, true, false, false] rfl rfl (one_of HT_.out (by kernel_rfl)) (by decide) (fun K hK => ?_)
      refine Kd.R_append_rows_step Kd.string (w0 := w) w.heap.size (by rfl) (.tmp 25) (.tmp 26) 34 9 (.string ⟨#[]⟩) 16 rfl Tryd.underlying34 info9 rfl (by decide) (by omega) v264 y263 l2 _ _ _ (fun _ => True) (fun _ => False) rfl rfl ?aO ?aR (fun _ _ h => h) (fun _ h => h.elim) ?aF ?aB ?aS ?aL ?_
      (case aR => repeat (first | exact (Kd.C_below HR2.out HB.out) | (with_reducible refine Kd.C_alloc ?_ _) | (with_reducible refine Kd.C_drewN ?_ _) | (with_reducible refine Kd.C_drew ?_)))
      (case aB => exact (by repeat (first | (with_reducible first | exact HB.out | apply below_alloc | apply pw_below_drewN | apply below_drew1 | refine below_set ?_ GE252.out) | exact HB.out)))
      (case aF => exact (fun _ _ => trivial))
      (case aO => exact (by (with_reducible repeat (first | apply Kd.R_alloc | apply Kd.R_drewN | apply Kd.R_drew)); exact HO265.out))
      (case aS => exact (below_size (by repeat (first | (with_reducible first | exact HB.out | apply below_alloc | apply pw_below_drewN | apply below_drew1 | refine below_set ?_ GE252.out) | exact HB.out))))
      (case aL => have := LMc24.out; omega)
      intro v267 w30 ho hb hg hat
      rw [← Ny266.out] at ho
      have n0_ := Aside0.mk (blk_grown (g := gb252) (o := .cells #[.int .u8 a0_0, .int .u8 a0_1, .int .u8 a0_2, .int .u8 a0_3, .int .u8 a0_4] 23 (0, 0)) (by (with_reducible repeat (first | refine blk_drewN ?_ _ | refine blk_drew ?_ | refine blk_alloc ?_ _)); exact BK252.out) hg (Kd.R_ne HO265.out BK252.out (by decide)))
      have n1_ := Aside0.mk (hb)
      have n2_ := Aside0.mk (ho)
      clear BK252
      clear HB
      clear HO265
      have BK252 := n0_
      have HB := n1_
      have HO268 := n2_
      clear n0_ n1_ n2_
      clear ho hb hg hat
      obtain ⟨Ao31, co31, eo31⟩ := Kd.R_slice HO268.out
      (first | subst eo31 | (injection eo31 with f1_ f2_ f3_; have f4_ := f1_.symm; have f5_ := f3_.symm; clear f1_ f2_ f3_; subst f4_; subst f5_))
      refine hK.out _ _ ⟨(blk_cell BK252.out 0).trans rfl, (blk_cell BK252.out 1).trans rfl, (blk_cell BK252.out 2).trans rfl, (blk_cell BK252.out 3).trans rfl, (blk_cell BK252.out 4).trans rfl⟩ (fun hHeld => ?_)
      clear hK K
      refine norm_ (a' := ?_) ?_ ?_
      rotate_left
      · show Act.put _ (some 27) _ = _
        simp only [Act.put, List.setIfInBounds_toArray, List.set_cons_zero, List.set_cons_succ, i64_w, i32_w]
        rfl
      refine one_ (i := 6) (N := some 28) #[true, true, true, true, true, true, true, false] rfl rfl (one_of HT_.out (by kernel_rfl)) (by decide) (fun K hK => ?_)
      refine goes_ Tryd.func43 (by kernel_rfl) rfl #[.int .u8 a0_0, .slice Ao31 y266.length co31] (by rfl) rfl rfl (by (try simp only [List.map_toArray, List.map_cons, List.map_nil]); first | done | rfl | (simp only [List.length_drop, List.length_take]; rfl)) ?_
      with_reducible refine (delim_Join.calls a0_0 _ _ y266 t269 _ ?side1 ?side2 A25.out).mono ?_
      (case side1 => repeat (first | exact (Kd.R_reads' HO268.out).2.2 | (with_reducible refine Kd.C_alloc ?_ _) | (with_reducible refine Kd.C_drewN ?_ _) | (with_reducible refine Kd.C_drew ?_)))
      (case side2 => exact (Kd.R_reads' HO268.out).2.1)
      rintro e w32 ⟨rfl, hb⟩
      refine ⟨_, rfl, ?_⟩
      have n0_ := Aside0.mk (Kd.R_below (by (with_reducible repeat (first | apply Kd.R_alloc | apply Kd.R_drewN | apply Kd.R_drew)); exact HO268.out) hb)
      have n1_ := Aside0.mk (blk_below (g := gb252) (o := .cells #[.int .u8 a0_0, .int .u8 a0_1, .int .u8 a0_2, .int .u8 a0_3, .int .u8 a0_4] 23 (0, 0)) (by (with_reducible repeat (first | refine blk_drewN ?_ _ | refine blk_drew ?_ | refine blk_alloc ?_ _)); exact BK252.out) hb)
      have n2_ := Aside0.mk (below_step (by repeat (first | (with_reducible first | exact HB.out | apply below_alloc | apply pw_below_drewN | apply below_drew1 | refine below_set ?_ GE252.out) | exact HB.out)) hb)
      clear HO268
      clear BK252
      clear HB
      have HO268 := n0_
      have BK252 := n1_
      have HB := n2_
      clear n0_ n1_ n2_
      (try clear hb)
      (try clear hb2)
      (try clear hk)
      (try clear hi)
      refine hK.out _ _ ⟨(blk_cell BK252.out 0).trans rfl, (blk_cell BK252.out 1).trans rfl, (blk_cell BK252.out 2).trans rfl, (blk_cell BK252.out 3).trans rfl, (blk_cell BK252.out 4).trans rfl⟩ (fun hHeld => ?_)
      clear hK K
      refine norm_ (a' := ?_) ?_ ?_
      rotate_left
      · show Act.put _ (some 28) _ = _
        simp only [Act.put, List.setIfInBounds_toArray, List.set_cons_zero, List.set_cons_succ, i64_w, i32_w]
        rfl
      refine pure_ (i := 7) (N := some 6) (v := ?_) (a' := ?_) #[true, true, true, true, true, true, true, true] rfl rfl (any_of HT_.out (by kernel_rfl)) (fun _ _ _ h => h) (Or.inl ⟨by rfl, ?_⟩) ?_ ?_
      rotate_left
      · intro w'
        go_simp
        with_reducible rfl
      rotate_left
      · simp only [Act.put, List.setIfInBounds_toArray, List.set_cons_zero, List.set_cons_succ, i64_w, i32_w]
        rfl
      refine done_ (done_of HT_.out (by kernel_rfl)) ?_
      try go_wp2
      go_ret
      exact ⟨by first | rfl | (simp [errW_none, errW_some] <;> rfl) | (simp [*, errW_none, errW_some] <;> rfl), by repeat (first | (with_reducible first | exact HB.out | apply below_alloc | apply pw_below_drewN | apply below_drew1 | refine below_set ?_ GE252.out) | exact HB.out)⟩
    · rw [if_neg c24] at H
      exact absurd H (by simp)

/-! ### strings_Index: function 66 -/
def strings_Index.f (a0 : ByteArray) (a1 : ByteArray) : Option (Int) := (stringslite_Index.f a0 a1).bind fun t270 => (some t270)
set_option maxHeartbeats 8000000 in
set_option maxRecDepth 100000 in
theorem strings_Index.calls (a0 : ByteArray) (a1 : ByteArray) (r : Int) (w : World) (h : strings_Index.f a0 a1 = some r) :
    Calls Tryd.prog 66 #[.string a0, .string a1] w fun e w' => e = .returned (.int .i64 r) ∧ Drawn0 w w' := by
  have H : ((stringslite_Index.f a0 a1).bind fun t270 => (some t270)) = some r := h
  clear h
  replace H := Option.bind_eq_some_iff.mp H
  obtain ⟨t270, A30, H⟩ := H
  replace H : (some t270) = some r := H
  have A3 := Aside0.mk A30
  clear A30
  obtain rfl := Option.some.inj H
  go_enter Tryd.func66, Tryd.ntmps66
  go_wp2_with (first | ((with_reducible refine gate_callee (f := 80) rfl ?_); refine goesL_ (some 7) rfl rfl Tryd.func80 (by kernel_rfl) rfl #[.string a0, .string a1] rfl (by (try simp only [List.map_toArray, List.map_cons, List.map_nil]); first | done | rfl | (simp only [List.length_drop, List.length_take]; rfl)) ?_; (with_reducible refine (stringslite_Index.calls a0 a1 t270 _ A3.out).mono ?_); rintro e w' ⟨rfl, ⟨nd, rfl⟩⟩; refine ⟨_, rfl, ?_⟩))
  go_ret
  exact ⟨by first | rfl | (simp; done) | (simp [*]; done), by repeat (first | exact Drawn0.refl _ | apply Drawn0.step)⟩

/-! ### strings_Contains: function 41 -/
def strings_Contains.f (a0 : ByteArray) (a1 : ByteArray) : Option (Bool) := (strings_Index.f a0 a1).bind fun t271 => (some (decide (t271 ≥ 0)))
set_option maxHeartbeats 8000000 in
set_option maxRecDepth 100000 in
theorem strings_Contains.calls (a0 : ByteArray) (a1 : ByteArray) (r : Bool) (w : World) (h : strings_Contains.f a0 a1 = some r) :
    Calls Tryd.prog 41 #[.string a0, .string a1] w fun e w' => e = .returned (.bool r) ∧ Drawn0 w w' := by
  have H : ((strings_Index.f a0 a1).bind fun t271 => (some (decide (t271 ≥ 0)))) = some r := h
  clear h
  replace H := Option.bind_eq_some_iff.mp H
  obtain ⟨t271, A30, H⟩ := H
  replace H : (some (decide (t271 ≥ 0))) = some r := H
  have A3 := Aside0.mk A30
  clear A30
  obtain rfl := Option.some.inj H
  go_enter Tryd.func41, Tryd.ntmps41
  go_wp2_with (first | ((with_reducible refine gate_callee (f := 66) rfl ?_); refine goesL_ (some 7) rfl rfl Tryd.func66 (by kernel_rfl) rfl #[.string a0, .string a1] rfl (by (try simp only [List.map_toArray, List.map_cons, List.map_nil]); first | done | rfl | (simp only [List.length_drop, List.length_take]; rfl)) ?_; (with_reducible refine (strings_Index.calls a0 a1 t271 _ A3.out).mono ?_); rintro e w' ⟨rfl, ⟨nd, rfl⟩⟩; refine ⟨_, rfl, ?_⟩))
  go_ret
  exact ⟨by first | rfl | (simp; done) | (simp [*]; done), by repeat (first | exact Drawn0.refl _ | apply Drawn0.step)⟩

end Go.Proofs.YtcjcaojgminjpaaDoor.PA
