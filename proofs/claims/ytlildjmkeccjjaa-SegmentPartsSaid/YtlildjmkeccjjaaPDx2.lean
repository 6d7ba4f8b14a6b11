-- Written by a program of this work (the kit's print, with contracts of this work's own taken in) out of the translation. Not trusted: Lean checks it.
import Derived.Test.YtlildjmkeccjjaaPDx0
import Derived.Test.YtlildjmkeccjjaaPDx1
namespace Go.Proofs.Ytlildjmkeccjjaa.PD
open Go.RowKit Go.Proofs.YtlildjmkeccjjaaW.PrintWords Go.Proofs.YtlildjmkeccjjaaW.PrintLast Go.Proofs.YtlildjmkeccjjaaW.PrintMore
attribute [local go_sem] max2_int min2_int max_two min_two max_three min_three max_four min_four   -- for this text's walks alone
set_option linter.unusedVariables false
set_option linter.unusedSimpArgs false

/-! ### lamplighterlaw08_alive: function 22 -/
def lamplighterlaw08_alive.f  : Option (Bool) := (lamplighterlaw08_plain.f).bind fun bt143 => ((segment_Field.f (⟨#[80, 73, 68, 124, 97, 94, 98, 126, 99, 124, 100]⟩ : ByteArray) 1 bt143.1 bt143.2.1 bt143.2.2.1 bt143.2.2.2.1 bt143.2.2.2.2).bind fun bt148 => ((lamplighterlaw08_plain.f).bind fun bt150 => ((segment_Part.f bt148.1 2 1 bt150.1 bt150.2.1 bt150.2.2.1 bt150.2.2.2.1 bt150.2.2.2.2).bind fun bt155 => ((lamplighterlaw08_plain.f).bind fun bt157 => ((segment_Field.f (⟨#[77, 83, 72, 124, 94, 126, 92, 38, 124, 120]⟩ : ByteArray) 2 bt157.1 bt157.2.1 bt157.2.2.1 bt157.2.2.2.1 bt157.2.2.2.2).bind fun bt162 => (if bt148.2 = true then (if bt148.1.toList = ([97, 94, 98, 126, 99] : List UInt8) then (if bt155.2 = true then (if bt155.1.toList = ([99] : List UInt8) then (if bt162.2 = true then (some (bt162.1.toList == ([94, 126, 92, 38] : List UInt8))) else (some false)) else (some false)) else (some false)) else (some false)) else (some false)))))))
set_option maxHeartbeats 8000000 in
set_option maxRecDepth 100000 in
theorem lamplighterlaw08_alive.calls  (r : Bool) (w : World) (h : lamplighterlaw08_alive.f  = some r) :
    Calls Try.prog 22 #[] w fun e w' => e = .returned (.bool r) ∧ Below w.heap.size w w' := by
  have HB := Aside0.mk (Below.refl w.heap.size w)
  have H : ((lamplighterlaw08_plain.f).bind fun bt143 => ((segment_Field.f (⟨#[80, 73, 68, 124, 97, 94, 98, 126, 99, 124, 100]⟩ : ByteArray) 1 bt143.1 bt143.2.1 bt143.2.2.1 bt143.2.2.2.1 bt143.2.2.2.2).bind fun bt148 => ((lamplighterlaw08_plain.f).bind fun bt150 => ((segment_Part.f bt148.1 2 1 bt150.1 bt150.2.1 bt150.2.2.1 bt150.2.2.2.1 bt150.2.2.2.2).bind fun bt155 => ((lamplighterlaw08_plain.f).bind fun bt157 => ((segment_Field.f (⟨#[77, 83, 72, 124, 94, 126, 92, 38, 124, 120]⟩ : ByteArray) 2 bt157.1 bt157.2.1 bt157.2.2.1 bt157.2.2.2.1 bt157.2.2.2.2).bind fun bt162 => (if bt148.2 = true then (if bt148.1.toList = ([97, 94, 98, 126, 99] : List UInt8) then (if bt155.2 = true then (if bt155.1.toList = ([99] : List UInt8) then (if bt162.2 = true then (some (bt162.1.toList == ([94, 126, 92, 38] : List UInt8))) else (some false)) else (some false)) else (some false)) else (some false)) else (some false)))))))) = some r := h
  clear h
  replace H := Option.bind_eq_some_iff.mp H
  obtain ⟨⟨t143, t144, t145, t146, t147⟩, A10, H⟩ := H
  replace H : ((segment_Field.f (⟨#[80, 73, 68, 124, 97, 94, 98, 126, 99, 124, 100]⟩ : ByteArray) 1 t143 t144 t145 t146 t147).bind fun bt148 => ((lamplighterlaw08_plain.f).bind fun bt150 => ((segment_Part.f bt148.1 2 1 bt150.1 bt150.2.1 bt150.2.2.1 bt150.2.2.2.1 bt150.2.2.2.2).bind fun bt155 => ((lamplighterlaw08_plain.f).bind fun bt157 => ((segment_Field.f (⟨#[77, 83, 72, 124, 94, 126, 92, 38, 124, 120]⟩ : ByteArray) 2 bt157.1 bt157.2.1 bt157.2.2.1 bt157.2.2.2.1 bt157.2.2.2.2).bind fun bt162 => (if bt148.2 = true then (if bt148.1.toList = ([97, 94, 98, 126, 99] : List UInt8) then (if bt155.2 = true then (if bt155.1.toList = ([99] : List UInt8) then (if bt162.2 = true then (some (bt162.1.toList == ([94, 126, 92, 38] : List UInt8))) else (some false)) else (some false)) else (some false)) else (some false)) else (some false))))))) = some r := H
  have A1 := Aside0.mk A10
  clear A10
  replace H := Option.bind_eq_some_iff.mp H
  obtain ⟨⟨t148, t149⟩, A20, H⟩ := H
  replace H : ((lamplighterlaw08_plain.f).bind fun bt150 => ((segment_Part.f t148 2 1 bt150.1 bt150.2.1 bt150.2.2.1 bt150.2.2.2.1 bt150.2.2.2.2).bind fun bt155 => ((lamplighterlaw08_plain.f).bind fun bt157 => ((segment_Field.f (⟨#[77, 83, 72, 124, 94, 126, 92, 38, 124, 120]⟩ : ByteArray) 2 bt157.1 bt157.2.1 bt157.2.2.1 bt157.2.2.2.1 bt157.2.2.2.2).bind fun bt162 => (if t149 = true then (if t148.toList = ([97, 94, 98, 126, 99] : List UInt8) then (if bt155.2 = true then (if bt155.1.toList = ([99] : List UInt8) then (if bt162.2 = true then (some (bt162.1.toList == ([94, 126, 92, 38] : List UInt8))) else (some false)) else (some false)) else (some false)) else (some false)) else (some false)))))) = some r := H
  have A2 := Aside0.mk A20
  clear A20
  replace H := Option.bind_eq_some_iff.mp H
  obtain ⟨⟨t150, t151, t152, t153, t154⟩, A30, H⟩ := H
  replace H : ((segment_Part.f t148 2 1 t150 t151 t152 t153 t154).bind fun bt155 => ((lamplighterlaw08_plain.f).bind fun bt157 => ((segment_Field.f (⟨#[77, 83, 72, 124, 94, 126, 92, 38, 124, 120]⟩ : ByteArray) 2 bt157.1 bt157.2.1 bt157.2.2.1 bt157.2.2.2.1 bt157.2.2.2.2).bind fun bt162 => (if t149 = true then (if t148.toList = ([97, 94, 98, 126, 99] : List UInt8) then (if bt155.2 = true then (if bt155.1.toList = ([99] : List UInt8) then (if bt162.2 = true then (some (bt162.1.toList == ([94, 126, 92, 38] : List UInt8))) else (some false)) else (some false)) else (some false)) else (some false)) else (some false))))) = some r := H
  have A3 := Aside0.mk A30
  clear A30
  replace H := Option.bind_eq_some_iff.mp H
  obtain ⟨⟨t155, t156⟩, A40, H⟩ := H
  replace H : ((lamplighterlaw08_plain.f).bind fun bt157 => ((segment_Field.f (⟨#[77, 83, 72, 124, 94, 126, 92, 38, 124, 120]⟩ : ByteArray) 2 bt157.1 bt157.2.1 bt157.2.2.1 bt157.2.2.2.1 bt157.2.2.2.2).bind fun bt162 => (if t149 = true then (if t148.toList = ([97, 94, 98, 126, 99] : List UInt8) then (if t156 = true then (if t155.toList = ([99] : List UInt8) then (if bt162.2 = true then (some (bt162.1.toList == ([94, 126, 92, 38] : List UInt8))) else (some false)) else (some false)) else (some false)) else (some false)) else (some false)))) = some r := H
  have A4 := Aside0.mk A40
  clear A40
  replace H := Option.bind_eq_some_iff.mp H
  obtain ⟨⟨t157, t158, t159, t160, t161⟩, A50, H⟩ := H
  replace H : ((segment_Field.f (⟨#[77, 83, 72, 124, 94, 126, 92, 38, 124, 120]⟩ : ByteArray) 2 t157 t158 t159 t160 t161).bind fun bt162 => (if t149 = true then (if t148.toList = ([97, 94, 98, 126, 99] : List UInt8) then (if t156 = true then (if t155.toList = ([99] : List UInt8) then (if bt162.2 = true then (some (bt162.1.toList == ([94, 126, 92, 38] : List UInt8))) else (some false)) else (some false)) else (some false)) else (some false)) else (some false))) = some r := H
  have A5 := Aside0.mk A50
  clear A50
  replace H := Option.bind_eq_some_iff.mp H
  obtain ⟨⟨t162, t163⟩, A60, H⟩ := H
  replace H : (if t149 = true then (if t148.toList = ([97, 94, 98, 126, 99] : List UInt8) then (if t156 = true then (if t155.toList = ([99] : List UInt8) then (if t163 = true then (some (t162.toList == ([94, 126, 92, 38] : List UInt8))) else (some false)) else (some false)) else (some false)) else (some false)) else (some false)) = some r := H
  have A6 := Aside0.mk A60
  clear A60
  by_cases c7 : t149 = true
  · subst c7
    have H1 : (if t148.toList = ([97, 94, 98, 126, 99] : List UInt8) then (if t156 = true then (if t155.toList = ([99] : List UInt8) then (if t163 = true then (some (t162.toList == ([94, 126, 92, 38] : List UInt8))) else (some false)) else (some false)) else (some false)) else (some false)) = some r := by rw [if_pos rfl] at H; exact H
    clear H
    have H := H1
    clear H1
    by_cases c8 : t148.toList = ([97, 94, 98, 126, 99] : List UInt8)
    · rw [if_pos c8] at H
      have c8b0 : (t148.toList == ([97, 94, 98, 126, 99] : List UInt8)) = true := beq_iff_eq.mpr c8
      have c8b1 : (t148.toList != ([97, 94, 98, 126, 99] : List UInt8)) = false := bne_eq_false_iff_eq.mpr c8
      clear c8
      by_cases c9 : t156 = true
      · subst c9
        have H1 : (if t155.toList = ([99] : List UInt8) then (if t163 = true then (some (t162.toList == ([94, 126, 92, 38] : List UInt8))) else (some false)) else (some false)) = some r := by rw [if_pos rfl] at H; exact H
        clear H
        have H := H1
        clear H1
        by_cases c10 : t155.toList = ([99] : List UInt8)
        · rw [if_pos c10] at H
          have c10b0 : (t155.toList == ([99] : List UInt8)) = true := beq_iff_eq.mpr c10
          have c10b1 : (t155.toList != ([99] : List UInt8)) = false := bne_eq_false_iff_eq.mpr c10
          clear c10
          by_cases c11 : t163 = true
          · subst c11
            have H1 : (some (t162.toList == ([94, 126, 92, 38] : List UInt8))) = some r := by rw [if_pos rfl] at H; exact H
            clear H
            have H := H1
            clear H1
            obtain rfl := Option.some.inj H
            go_enter Try.func22, Try.ntmps22
            go_wp2_with (first | ((with_reducible refine gate_callee (f := 20) rfl ?_); refine goesL_ (some 8) rfl rfl Try.func20 (by kernel_rfl) rfl #[] rfl (by (try simp only [List.map_toArray, List.map_cons, List.map_nil]); first | done | rfl | (simp only [List.length_drop, List.length_take]; rfl)) ?_; (with_reducible refine (lamplighterlaw08_plain.calls  t143 t144 t145 t146 t147 _ A1.out).mono ?_); rintro e w12 ⟨rfl, hb⟩; refine ⟨_, rfl, ?_⟩; have n0_ := Aside0.mk (below_step (by repeat (first | (with_reducible first | exact HB.out | apply below_alloc | apply pw_below_drewN | apply below_drew1) | exact HB.out)) hb); clear HB; have HB := n0_; clear n0_; (try clear hb); (try clear hb2); (try clear hk); (try clear hi)) | ((with_reducible refine gate_callee (f := 24) rfl ?_); refine goesL_ (some 9) rfl rfl Try.func24 (by kernel_rfl) rfl #[.string (⟨#[80, 73, 68, 124, 97, 94, 98, 126, 99, 124, 100]⟩ : ByteArray), .int .i64 1, .agg #[.int .u8 t143, .int .u8 t144, .int .u8 t145, .int .u8 t146, .int .u8 t147]] rfl (by (try simp only [List.map_toArray, List.map_cons, List.map_nil]); first | done | rfl | (simp only [List.length_drop, List.length_take]; rfl)) ?_; (with_reducible refine (segment_Field.calls (⟨#[80, 73, 68, 124, 97, 94, 98, 126, 99, 124, 100]⟩ : ByteArray) 1 t143 t144 t145 t146 t147 t148 true _ A2.out).mono ?_); rintro e w13 ⟨rfl, hb⟩; refine ⟨_, rfl, ?_⟩; have n0_ := Aside0.mk (below_step (by repeat (first | (with_reducible first | exact HB.out | apply below_alloc | apply pw_below_drewN | apply below_drew1) | exact HB.out)) hb); clear HB; have HB := n0_; clear n0_; (try clear hb); (try clear hb2); (try clear hk); (try clear hi)) | ((with_reducible refine gate_callee (f := 20) rfl ?_); refine goesL_ (some 14) rfl rfl Try.func20 (by kernel_rfl) rfl #[] rfl (by (try simp only [List.map_toArray, List.map_cons, List.map_nil]); first | done | rfl | (simp only [List.length_drop, List.length_take]; rfl)) ?_; (with_reducible refine (lamplighterlaw08_plain.calls  t150 t151 t152 t153 t154 _ A3.out).mono ?_); rintro e w14 ⟨rfl, hb⟩; refine ⟨_, rfl, ?_⟩; have n0_ := Aside0.mk (below_step (by repeat (first | (with_reducible first | exact HB.out | apply below_alloc | apply pw_below_drewN | apply below_drew1) | exact HB.out)) hb); clear HB; have HB := n0_; clear n0_; (try clear hb); (try clear hb2); (try clear hk); (try clear hi)) | ((with_reducible refine gate_callee (f := 29) rfl ?_); refine goesL_ (some 15) rfl rfl Try.func29 (by kernel_rfl) rfl #[.string t148, .int .i64 2, .int .i64 1, .agg #[.int .u8 t150, .int .u8 t151, .int .u8 t152, .int .u8 t153, .int .u8 t154]] rfl (by (try simp only [List.map_toArray, List.map_cons, List.map_nil]); first | done | rfl | (simp only [List.length_drop, List.length_take]; rfl)) ?_; (with_reducible refine (segment_Part.calls t148 2 1 t150 t151 t152 t153 t154 t155 true _ A4.out).mono ?_); rintro e w15 ⟨rfl, hb⟩; refine ⟨_, rfl, ?_⟩; have n0_ := Aside0.mk (below_step (by repeat (first | (with_reducible first | exact HB.out | apply below_alloc | apply pw_below_drewN | apply below_drew1) | exact HB.out)) hb); clear HB; have HB := n0_; clear n0_; (try clear hb); (try clear hb2); (try clear hk); (try clear hi)) | ((with_reducible refine gate_callee (f := 20) rfl ?_); refine goesL_ (some 19) rfl rfl Try.func20 (by kernel_rfl) rfl #[] rfl (by (try simp only [List.map_toArray, List.map_cons, List.map_nil]); first | done | rfl | (simp only [List.length_drop, List.length_take]; rfl)) ?_; (with_reducible refine (lamplighterlaw08_plain.calls  t157 t158 t159 t160 t161 _ A5.out).mono ?_); rintro e w16 ⟨rfl, hb⟩; refine ⟨_, rfl, ?_⟩; have n0_ := Aside0.mk (below_step (by repeat (first | (with_reducible first | exact HB.out | apply below_alloc | apply pw_below_drewN | apply below_drew1) | exact HB.out)) hb); clear HB; have HB := n0_; clear n0_; (try clear hb); (try clear hb2); (try clear hk); (try clear hi)) | ((with_reducible refine gate_callee (f := 24) rfl ?_); refine goesL_ (some 20) rfl rfl Try.func24 (by kernel_rfl) rfl #[.string (⟨#[77, 83, 72, 124, 94, 126, 92, 38, 124, 120]⟩ : ByteArray), .int .i64 2, .agg #[.int .u8 t157, .int .u8 t158, .int .u8 t159, .int .u8 t160, .int .u8 t161]] rfl (by (try simp only [List.map_toArray, List.map_cons, List.map_nil]); first | done | rfl | (simp only [List.length_drop, List.length_take]; rfl)) ?_; (with_reducible refine (segment_Field.calls (⟨#[77, 83, 72, 124, 94, 126, 92, 38, 124, 120]⟩ : ByteArray) 2 t157 t158 t159 t160 t161 t162 true _ A6.out).mono ?_); rintro e w17 ⟨rfl, hb⟩; refine ⟨_, rfl, ?_⟩; have n0_ := Aside0.mk (below_step (by repeat (first | (with_reducible first | exact HB.out | apply below_alloc | apply pw_below_drewN | apply below_drew1) | exact HB.out)) hb); clear HB; have HB := n0_; clear n0_; (try clear hb); (try clear hb2); (try clear hk); (try clear hi)))
            go_ret
            exact ⟨by first | rfl | (simp [errW_none, errW_some] <;> rfl) | (simp [*, errW_none, errW_some] <;> rfl), by repeat (first | (with_reducible first | exact HB.out | apply below_alloc | apply pw_below_drewN | apply below_drew1) | exact HB.out)⟩
          · replace c11 := Bool.eq_false_iff.mpr c11
            subst c11
            have H1 : (some false) = some r := by rw [if_neg (show ¬ (false = true) by decide)] at H; exact H
            clear H
            have H := H1
            clear H1
            obtain rfl := Option.some.inj H
            go_enter Try.func22, Try.ntmps22
            go_wp2_with (first | ((with_reducible refine gate_callee (f := 20) rfl ?_); refine goesL_ (some 8) rfl rfl Try.func20 (by kernel_rfl) rfl #[] rfl (by (try simp only [List.map_toArray, List.map_cons, List.map_nil]); first | done | rfl | (simp only [List.length_drop, List.length_take]; rfl)) ?_; (with_reducible refine (lamplighterlaw08_plain.calls  t143 t144 t145 t146 t147 _ A1.out).mono ?_); rintro e w18 ⟨rfl, hb⟩; refine ⟨_, rfl, ?_⟩; have n0_ := Aside0.mk (below_step (by repeat (first | (with_reducible first | exact HB.out | apply below_alloc | apply pw_below_drewN | apply below_drew1) | exact HB.out)) hb); clear HB; have HB := n0_; clear n0_; (try clear hb); (try clear hb2); (try clear hk); (try clear hi)) | ((with_reducible refine gate_callee (f := 24) rfl ?_); refine goesL_ (some 9) rfl rfl Try.func24 (by kernel_rfl) rfl #[.string (⟨#[80, 73, 68, 124, 97, 94, 98, 126, 99, 124, 100]⟩ : ByteArray), .int .i64 1, .agg #[.int .u8 t143, .int .u8 t144, .int .u8 t145, .int .u8 t146, .int .u8 t147]] rfl (by (try simp only [List.map_toArray, List.map_cons, List.map_nil]); first | done | rfl | (simp only [List.length_drop, List.length_take]; rfl)) ?_; (with_reducible refine (segment_Field.calls (⟨#[80, 73, 68, 124, 97, 94, 98, 126, 99, 124, 100]⟩ : ByteArray) 1 t143 t144 t145 t146 t147 t148 true _ A2.out).mono ?_); rintro e w19 ⟨rfl, hb⟩; refine ⟨_, rfl, ?_⟩; have n0_ := Aside0.mk (below_step (by repeat (first | (with_reducible first | exact HB.out | apply below_alloc | apply pw_below_drewN | apply below_drew1) | exact HB.out)) hb); clear HB; have HB := n0_; clear n0_; (try clear hb); (try clear hb2); (try clear hk); (try clear hi)) | ((with_reducible refine gate_callee (f := 20) rfl ?_); refine goesL_ (some 14) rfl rfl Try.func20 (by kernel_rfl) rfl #[] rfl (by (try simp only [List.map_toArray, List.map_cons, List.map_nil]); first | done | rfl | (simp only [List.length_drop, List.length_take]; rfl)) ?_; (with_reducible refine (lamplighterlaw08_plain.calls  t150 t151 t152 t153 t154 _ A3.out).mono ?_); rintro e w20 ⟨rfl, hb⟩; refine ⟨_, rfl, ?_⟩; have n0_ := Aside0.mk (below_step (by repeat (first | (with_reducible first | exact HB.out | apply below_alloc | apply pw_below_drewN | apply below_drew1) | exact HB.out)) hb); clear HB; have HB := n0_; clear n0_; (try clear hb); (try clear hb2); (try clear hk); (try clear hi)) | ((with_reducible refine gate_callee (f := 29) rfl ?_); refine goesL_ (some 15) rfl rfl Try.func29 (by kernel_rfl) rfl #[.string t148, .int .i64 2, .int .i64 1, .agg #[.int .u8 t150, .int .u8 t151, .int .u8 t152, .int .u8 t153, .int .u8 t154]] rfl (by (try simp only [List.map_toArray, List.map_cons, List.map_nil]); first | done | rfl | (simp only [List.length_drop, List.length_take]; rfl)) ?_; (with_reducible refine (segment_Part.calls t148 2 1 t150 t151 t152 t153 t154 t155 true _ A4.out).mono ?_); rintro e w21 ⟨rfl, hb⟩; refine ⟨_, rfl, ?_⟩; have n0_ := Aside0.mk (below_step (by repeat (first | (with_reducible first | exact HB.out | apply below_alloc | apply pw_below_drewN | apply below_drew1) | exact HB.out)) hb); clear HB; have HB := n0_; clear n0_; (try clear hb); (try clear hb2); (try clear hk); (try clear hi)) | ((with_reducible refine gate_callee (f := 20) rfl ?_); refine goesL_ (some 19) rfl rfl Try.func20 (by kernel_rfl) rfl #[] rfl (by (try simp only [List.map_toArray, List.map_cons, List.map_nil]); first | done | rfl | (simp only [List.length_drop, List.length_take]; rfl)) ?_; (with_reducible refine (lamplighterlaw08_plain.calls  t157 t158 t159 t160 t161 _ A5.out).mono ?_); rintro e w22 ⟨rfl, hb⟩; refine ⟨_, rfl, ?_⟩; have n0_ := Aside0.mk (below_step (by repeat (first | (with_reducible first | exact HB.out | apply below_alloc | apply pw_below_drewN | apply below_drew1) | exact HB.out)) hb); clear HB; have HB := n0_; clear n0_; (try clear hb); (try clear hb2); (try clear hk); (try clear hi)) | ((with_reducible refine gate_callee (f := 24) rfl ?_); refine goesL_ (some 20) rfl rfl Try.func24 (by kernel_rfl) rfl #[.string (⟨#[77, 83, 72, 124, 94, 126, 92, 38, 124, 120]⟩ : ByteArray), .int .i64 2, .agg #[.int .u8 t157, .int .u8 t158, .int .u8 t159, .int .u8 t160, .int .u8 t161]] rfl (by (try simp only [List.map_toArray, List.map_cons, List.map_nil]); first | done | rfl | (simp only [List.length_drop, List.length_take]; rfl)) ?_; (with_reducible refine (segment_Field.calls (⟨#[77, 83, 72, 124, 94, 126, 92, 38, 124, 120]⟩ : ByteArray) 2 t157 t158 t159 t160 t161 t162 false _ A6.out).mono ?_); rintro e w23 ⟨rfl, hb⟩; refine ⟨_, rfl, ?_⟩; have n0_ := Aside0.mk (below_step (by repeat (first | (with_reducible first | exact HB.out | apply below_alloc | apply pw_below_drewN | apply below_drew1) | exact HB.out)) hb); clear HB; have HB := n0_; clear n0_; (try clear hb); (try clear hb2); (try clear hk); (try clear hi)))
            go_ret
            exact ⟨by first | rfl | (simp [errW_none, errW_some] <;> rfl) | (simp [*, errW_none, errW_some] <;> rfl), by repeat (first | (with_reducible first | exact HB.out | apply below_alloc | apply pw_below_drewN | apply below_drew1) | exact HB.out)⟩
        · rw [if_neg c10] at H
          have c10b0 : (t155.toList == ([99] : List UInt8)) = false := beq_eq_false_iff_ne.mpr c10
          have c10b1 : (t155.toList != ([99] : List UInt8)) = true := bne_iff_ne.mpr c10
          obtain rfl := Option.some.inj H
          go_enter Try.func22, Try.ntmps22
          go_wp2_with (first | ((with_reducible refine gate_callee (f := 20) rfl ?_); refine goesL_ (some 8) rfl rfl Try.func20 (by kernel_rfl) rfl #[] rfl (by (try simp only [List.map_toArray, List.map_cons, List.map_nil]); first | done | rfl | (simp only [List.length_drop, List.length_take]; rfl)) ?_; (with_reducible refine (lamplighterlaw08_plain.calls  t143 t144 t145 t146 t147 _ A1.out).mono ?_); rintro e w24 ⟨rfl, hb⟩; refine ⟨_, rfl, ?_⟩; have n0_ := Aside0.mk (below_step (by repeat (first | (with_reducible first | exact HB.out | apply below_alloc | apply pw_below_drewN | apply below_drew1) | exact HB.out)) hb); clear HB; have HB := n0_; clear n0_; (try clear hb); (try clear hb2); (try clear hk); (try clear hi)) | ((with_reducible refine gate_callee (f := 24) rfl ?_); refine goesL_ (some 9) rfl rfl Try.func24 (by kernel_rfl) rfl #[.string (⟨#[80, 73, 68, 124, 97, 94, 98, 126, 99, 124, 100]⟩ : ByteArray), .int .i64 1, .agg #[.int .u8 t143, .int .u8 t144, .int .u8 t145, .int .u8 t146, .int .u8 t147]] rfl (by (try simp only [List.map_toArray, List.map_cons, List.map_nil]); first | done | rfl | (simp only [List.length_drop, List.length_take]; rfl)) ?_; (with_reducible refine (segment_Field.calls (⟨#[80, 73, 68, 124, 97, 94, 98, 126, 99, 124, 100]⟩ : ByteArray) 1 t143 t144 t145 t146 t147 t148 true _ A2.out).mono ?_); rintro e w25 ⟨rfl, hb⟩; refine ⟨_, rfl, ?_⟩; have n0_ := Aside0.mk (below_step (by repeat (first | (with_reducible first | exact HB.out | apply below_alloc | apply pw_below_drewN | apply below_drew1) | exact HB.out)) hb); clear HB; have HB := n0_; clear n0_; (try clear hb); (try clear hb2); (try clear hk); (try clear hi)) | ((with_reducible refine gate_callee (f := 20) rfl ?_); refine goesL_ (some 14) rfl rfl Try.func20 (by kernel_rfl) rfl #[] rfl (by (try simp only [List.map_toArray, List.map_cons, List.map_nil]); first | done | rfl | (simp only [List.length_drop, List.length_take]; rfl)) ?_; (with_reducible refine (lamplighterlaw08_plain.calls  t150 t151 t152 t153 t154 _ A3.out).mono ?_); rintro e w26 ⟨rfl, hb⟩; refine ⟨_, rfl, ?_⟩; have n0_ := Aside0.mk (below_step (by repeat (first | (with_reducible first | exact HB.out | apply below_alloc | apply pw_below_drewN | apply below_drew1) | exact HB.out)) hb); clear HB; have HB := n0_; clear n0_; (try clear hb); (try clear hb2); (try clear hk); (try clear hi)) | ((with_reducible refine gate_callee (f := 29) rfl ?_); refine goesL_ (some 15) rfl rfl Try.func29 (by kernel_rfl) rfl #[.string t148, .int .i64 2, .int .i64 1, .agg #[.int .u8 t150, .int .u8 t151, .int .u8 t152, .int .u8 t153, .int .u8 t154]] rfl (by (try simp only [List.map_toArray, List.map_cons, List.map_nil]); first | done | rfl | (simp only [List.length_drop, List.length_take]; rfl)) ?_; (with_reducible refine (segment_Part.calls t148 2 1 t150 t151 t152 t153 t154 t155 true _ A4.out).mono ?_); rintro e w27 ⟨rfl, hb⟩; refine ⟨_, rfl, ?_⟩; have n0_ := Aside0.mk (below_step (by repeat (first | (with_reducible first | exact HB.out | apply below_alloc | apply pw_below_drewN | apply below_drew1) | exact HB.out)) hb); clear HB; have HB := n0_; clear n0_; (try clear hb); (try clear hb2); (try clear hk); (try clear hi)) | ((with_reducible refine gate_callee (f := 20) rfl ?_); refine goesL_ (some 19) rfl rfl Try.func20 (by kernel_rfl) rfl #[] rfl (by (try simp only [List.map_toArray, List.map_cons, List.map_nil]); first | done | rfl | (simp only [List.length_drop, List.length_take]; rfl)) ?_; (with_reducible refine (lamplighterlaw08_plain.calls  t157 t158 t159 t160 t161 _ A5.out).mono ?_); rintro e w28 ⟨rfl, hb⟩; refine ⟨_, rfl, ?_⟩; have n0_ := Aside0.mk (below_step (by repeat (first | (with_reducible first | exact HB.out | apply below_alloc | apply pw_below_drewN | apply below_drew1) | exact HB.out)) hb); clear HB; have HB := n0_; clear n0_; (try clear hb); (try clear hb2); (try clear hk); (try clear hi)) | ((with_reducible refine gate_callee (f := 24) rfl ?_); refine goesL_ (some 20) rfl rfl Try.func24 (by kernel_rfl) rfl #[.string (⟨#[77, 83, 72, 124, 94, 126, 92, 38, 124, 120]⟩ : ByteArray), .int .i64 2, .agg #[.int .u8 t157, .int .u8 t158, .int .u8 t159, .int .u8 t160, .int .u8 t161]] rfl (by (try simp only [List.map_toArray, List.map_cons, List.map_nil]); first | done | rfl | (simp only [List.length_drop, List.length_take]; rfl)) ?_; (with_reducible refine (segment_Field.calls (⟨#[77, 83, 72, 124, 94, 126, 92, 38, 124, 120]⟩ : ByteArray) 2 t157 t158 t159 t160 t161 t162 t163 _ A6.out).mono ?_); rintro e w29 ⟨rfl, hb⟩; refine ⟨_, rfl, ?_⟩; have n0_ := Aside0.mk (below_step (by repeat (first | (with_reducible first | exact HB.out | apply below_alloc | apply pw_below_drewN | apply below_drew1) | exact HB.out)) hb); clear HB; have HB := n0_; clear n0_; (try clear hb); (try clear hb2); (try clear hk); (try clear hi)))
          go_ret
          exact ⟨by first | rfl | (simp [errW_none, errW_some] <;> rfl) | (simp [*, errW_none, errW_some] <;> rfl), by repeat (first | (with_reducible first | exact HB.out | apply below_alloc | apply pw_below_drewN | apply below_drew1) | exact HB.out)⟩
      · replace c9 := Bool.eq_false_iff.mpr c9
        subst c9
        have H1 : (some false) = some r := by rw [if_neg (show ¬ (false = true) by decide)] at H; exact H
        clear H
        have H := H1
        clear H1
        obtain rfl := Option.some.inj H
        go_enter Try.func22, Try.ntmps22
        go_wp2_with (first | ((with_reducible refine gate_callee (f := 20) rfl ?_); refine goesL_ (some 8) rfl rfl Try.func20 (by kernel_rfl) rfl #[] rfl (by (try simp only [List.map_toArray, List.map_cons, List.map_nil]); first | done | rfl | (simp only [List.length_drop, List.length_take]; rfl)) ?_; (with_reducible refine (lamplighterlaw08_plain.calls  t143 t144 t145 t146 t147 _ A1.out).mono ?_); rintro e w30 ⟨rfl, hb⟩; refine ⟨_, rfl, ?_⟩; have n0_ := Aside0.mk (below_step (by repeat (first | (with_reducible first | exact HB.out | apply below_alloc | apply pw_below_drewN | apply below_drew1) | exact HB.out)) hb); clear HB; have HB := n0_; clear n0_; (try clear hb); (try clear hb2); (try clear hk); (try clear hi)) | ((with_reducible refine gate_callee (f := 24) rfl ?_); refine goesL_ (some 9) rfl rfl Try.func24 (by kernel_rfl) rfl #[.string (⟨#[80, 73, 68, 124, 97, 94, 98, 126, 99, 124, 100]⟩ : ByteArray), .int .i64 1, .agg #[.int .u8 t143, .int .u8 t144, .int .u8 t145, .int .u8 t146, .int .u8 t147]] rfl (by (try simp only [List.map_toArray, List.map_cons, List.map_nil]); first | done | rfl | (simp only [List.length_drop, List.length_take]; rfl)) ?_; (with_reducible refine (segment_Field.calls (⟨#[80, 73, 68, 124, 97, 94, 98, 126, 99, 124, 100]⟩ : ByteArray) 1 t143 t144 t145 t146 t147 t148 true _ A2.out).mono ?_); rintro e w31 ⟨rfl, hb⟩; refine ⟨_, rfl, ?_⟩; have n0_ := Aside0.mk (below_step (by repeat (first | (with_reducible first | exact HB.out | apply below_alloc | apply pw_below_drewN | apply below_drew1) | exact HB.out)) hb); clear HB; have HB := n0_; clear n0_; (try clear hb); (try clear hb2); (try clear hk); (try clear hi)) | ((with_reducible refine gate_callee (f := 20) rfl ?_); refine goesL_ (some 14) rfl rfl Try.func20 (by kernel_rfl) rfl #[] rfl (by (try simp only [List.map_toArray, List.map_cons, List.map_nil]); first | done | rfl | (simp only [List.length_drop, List.length_take]; rfl)) ?_; (with_reducible refine (lamplighterlaw08_plain.calls  t150 t151 t152 t153 t154 _ A3.out).mono ?_); rintro e w32 ⟨rfl, hb⟩; refine ⟨_, rfl, ?_⟩; have n0_ := Aside0.mk (below_step (by repeat (first | (with_reducible first | exact HB.out | apply below_alloc | apply pw_below_drewN | apply below_drew1) | exact HB.out)) hb); clear HB; have HB := n0_; clear n0_; (try clear hb); (try clear hb2); (try clear hk); (try clear hi)) | ((with_reducible refine gate_callee (f := 29) rfl ?_); refine goesL_ (some 15) rfl rfl Try.func29 (by kernel_rfl) rfl #[.string t148, .int .i64 2, .int .i64 1, .agg #[.int .u8 t150, .int .u8 t151, .int .u8 t152, .int .u8 t153, .int .u8 t154]] rfl (by (try simp only [List.map_toArray, List.map_cons, List.map_nil]); first | done | rfl | (simp only [List.length_drop, List.length_take]; rfl)) ?_; (with_reducible refine (segment_Part.calls t148 2 1 t150 t151 t152 t153 t154 t155 false _ A4.out).mono ?_); rintro e w33 ⟨rfl, hb⟩; refine ⟨_, rfl, ?_⟩; have n0_ := Aside0.mk (below_step (by repeat (first | (with_reducible first | exact HB.out | apply below_alloc | apply pw_below_drewN | apply below_drew1) | exact HB.out)) hb); clear HB; have HB := n0_; clear n0_; (try clear hb); (try clear hb2); (try clear hk); (try clear hi)) | ((with_reducible refine gate_callee (f := 20) rfl ?_); refine goesL_ (some 19) rfl rfl Try.func20 (by kernel_rfl) rfl #[] rfl (by (try simp only [List.map_toArray, List.map_cons, List.map_nil]); first | done | rfl | (simp only [List.length_drop, List.length_take]; rfl)) ?_; (with_reducible refine (lamplighterlaw08_plain.calls  t157 t158 t159 t160 t161 _ A5.out).mono ?_); rintro e w34 ⟨rfl, hb⟩; refine ⟨_, rfl, ?_⟩; have n0_ := Aside0.mk (below_step (by repeat (first | (with_reducible first | exact HB.out | apply below_alloc | apply pw_below_drewN | apply below_drew1) | exact HB.out)) hb); clear HB; have HB := n0_; clear n0_; (try clear hb); (try clear hb2); (try clear hk); (try clear hi)) | ((with_reducible refine gate_callee (f := 24) rfl ?_); refine goesL_ (some 20) rfl rfl Try.func24 (by kernel_rfl) rfl #[.string (⟨#[77, 83, 72, 124, 94, 126, 92, 38, 124, 120]⟩ : ByteArray), .int .i64 2, .agg #[.int .u8 t157, .int .u8 t158, .int .u8 t159, .int .u8 t160, .int .u8 t161]] rfl (by (try simp only [List.map_toArray, List.map_cons, List.map_nil]); first | done | rfl | (simp only [List.length_drop, List.length_take]; rfl)) ?_; (with_reducible refine (segment_Field.calls (⟨#[77, 83, 72, 124, 94, 126, 92, 38, 124, 120]⟩ : ByteArray) 2 t157 t158 t159 t160 t161 t162 t163 _ A6.out).mono ?_); rintro e w35 ⟨rfl, hb⟩; refine ⟨_, rfl, ?_⟩; have n0_ := Aside0.mk (below_step (by repeat (first | (with_reducible first | exact HB.out | apply below_alloc | apply pw_below_drewN | apply below_drew1) | exact HB.out)) hb); clear HB; have HB := n0_; clear n0_; (try clear hb); (try clear hb2); (try clear hk); (try clear hi)))
        go_ret
        exact ⟨by first | rfl | (simp [errW_none, errW_some] <;> rfl) | (simp [*, errW_none, errW_some] <;> rfl), by repeat (first | (with_reducible first | exact HB.out | apply below_alloc | apply pw_below_drewN | apply below_drew1) | exact HB.out)⟩
    · rw [if_neg c8] at H
      have c8b0 : (t148.toList == ([97, 94, 98, 126, 99] : List UInt8)) = false := beq_eq_false_iff_ne.mpr c8
      have c8b1 : (t148.toList != ([97, 94, 98, 126, 99] : List UInt8)) = true := bne_iff_ne.mpr c8
      obtain rfl := Option.some.inj H
      go_enter Try.func22, Try.ntmps22
      go_wp2_with (first | ((with_reducible refine gate_callee (f := 20) rfl ?_); refine goesL_ (some 8) rfl rfl Try.func20 (by kernel_rfl) rfl #[] rfl (by (try simp only [List.map_toArray, List.map_cons, List.map_nil]); first | done | rfl | (simp only [List.length_drop, List.length_take]; rfl)) ?_; (with_reducible refine (lamplighterlaw08_plain.calls  t143 t144 t145 t146 t147 _ A1.out).mono ?_); rintro e w36 ⟨rfl, hb⟩; refine ⟨_, rfl, ?_⟩; have n0_ := Aside0.mk (below_step (by repeat (first | (with_reducible first | exact HB.out | apply below_alloc | apply pw_below_drewN | apply below_drew1) | exact HB.out)) hb); clear HB; have HB := n0_; clear n0_; (try clear hb); (try clear hb2); (try clear hk); (try clear hi)) | ((with_reducible refine gate_callee (f := 24) rfl ?_); refine goesL_ (some 9) rfl rfl Try.func24 (by kernel_rfl) rfl #[.string (⟨#[80, 73, 68, 124, 97, 94, 98, 126, 99, 124, 100]⟩ : ByteArray), .int .i64 1, .agg #[.int .u8 t143, .int .u8 t144, .int .u8 t145, .int .u8 t146, .int .u8 t147]] rfl (by (try simp only [List.map_toArray, List.map_cons, List.map_nil]); first | done | rfl | (simp only [List.length_drop, List.length_take]; rfl)) ?_; (with_reducible refine (segment_Field.calls (⟨#[80, 73, 68, 124, 97, 94, 98, 126, 99, 124, 100]⟩ : ByteArray) 1 t143 t144 t145 t146 t147 t148 true _ A2.out).mono ?_); rintro e w37 ⟨rfl, hb⟩; refine ⟨_, rfl, ?_⟩; have n0_ := Aside0.mk (below_step (by repeat (first | (with_reducible first | exact HB.out | apply below_alloc | apply pw_below_drewN | apply below_drew1) | exact HB.out)) hb); clear HB; have HB := n0_; clear n0_; (try clear hb); (try clear hb2); (try clear hk); (try clear hi)) | ((with_reducible refine gate_callee (f := 20) rfl ?_); refine goesL_ (some 14) rfl rfl Try.func20 (by kernel_rfl) rfl #[] rfl (by (try simp only [List.map_toArray, List.map_cons, List.map_nil]); first | done | rfl | (simp only [List.length_drop, List.length_take]; rfl)) ?_; (with_reducible refine (lamplighterlaw08_plain.calls  t150 t151 t152 t153 t154 _ A3.out).mono ?_); rintro e w38 ⟨rfl, hb⟩; refine ⟨_, rfl, ?_⟩; have n0_ := Aside0.mk (below_step (by repeat (first | (with_reducible first | exact HB.out | apply below_alloc | apply pw_below_drewN | apply below_drew1) | exact HB.out)) hb); clear HB; have HB := n0_; clear n0_; (try clear hb); (try clear hb2); (try clear hk); (try clear hi)) | ((with_reducible refine gate_callee (f := 29) rfl ?_); refine goesL_ (some 15) rfl rfl Try.func29 (by kernel_rfl) rfl #[.string t148, .int .i64 2, .int .i64 1, .agg #[.int .u8 t150, .int .u8 t151, .int .u8 t152, .int .u8 t153, .int .u8 t154]] rfl (by (try simp only [List.map_toArray, List.map_cons, List.map_nil]); first | done | rfl | (simp only [List.length_drop, List.length_take]; rfl)) ?_; (with_reducible refine (segment_Part.calls t148 2 1 t150 t151 t152 t153 t154 t155 t156 _ A4.out).mono ?_); rintro e w39 ⟨rfl, hb⟩; refine ⟨_, rfl, ?_⟩; have n0_ := Aside0.mk (below_step (by repeat (first | (with_reducible first | exact HB.out | apply below_alloc | apply pw_below_drewN | apply below_drew1) | exact HB.out)) hb); clear HB; have HB := n0_; clear n0_; (try clear hb); (try clear hb2); (try clear hk); (try clear hi)) | ((with_reducible refine gate_callee (f := 20) rfl ?_); refine goesL_ (some 19) rfl rfl Try.func20 (by kernel_rfl) rfl #[] rfl (by (try simp only [List.map_toArray, List.map_cons, List.map_nil]); first | done | rfl | (simp only [List.length_drop, List.length_take]; rfl)) ?_; (with_reducible refine (lamplighterlaw08_plain.calls  t157 t158 t159 t160 t161 _ A5.out).mono ?_); rintro e w40 ⟨rfl, hb⟩; refine ⟨_, rfl, ?_⟩; have n0_ := Aside0.mk (below_step (by repeat (first | (with_reducible first | exact HB.out | apply below_alloc | apply pw_below_drewN | apply below_drew1) | exact HB.out)) hb); clear HB; have HB := n0_; clear n0_; (try clear hb); (try clear hb2); (try clear hk); (try clear hi)) | ((with_reducible refine gate_callee (f := 24) rfl ?_); refine goesL_ (some 20) rfl rfl Try.func24 (by kernel_rfl) rfl #[.string (⟨#[77, 83, 72, 124, 94, 126, 92, 38, 124, 120]⟩ : ByteArray), .int .i64 2, .agg #[.int .u8 t157, .int .u8 t158, .int .u8 t159, .int .u8 t160, .int .u8 t161]] rfl (by (try simp only [List.map_toArray, List.map_cons, List.map_nil]); first | done | rfl | (simp only [List.length_drop, List.length_take]; rfl)) ?_; (with_reducible refine (segment_Field.calls (⟨#[77, 83, 72, 124, 94, 126, 92, 38, 124, 120]⟩ : ByteArray) 2 t157 t158 t159 t160 t161 t162 t163 _ A6.out).mono ?_); rintro e w41 ⟨rfl, hb⟩; refine ⟨_, rfl, ?_⟩; have n0_ := Aside0.mk (below_step (by repeat (first | (with_reducible first | exact HB.out | apply below_alloc | apply pw_below_drewN | apply below_drew1) | exact HB.out)) hb); clear HB; have HB := n0_; clear n0_; (try clear hb); (try clear hb2); (try clear hk); (try clear hi)))
      go_ret
      exact ⟨by first | rfl | (simp [errW_none, errW_some] <;> rfl) | (simp [*, errW_none, errW_some] <;> rfl), by repeat (first | (with_reducible first | exact HB.out | apply below_alloc | apply pw_below_drewN | apply below_drew1) | exact HB.out)⟩
  · replace c7 := Bool.eq_false_iff.mpr c7
    subst c7
    have H1 : (some false) = some r := by rw [if_neg (show ¬ (false = true) by decide)] at H; exact H
    clear H
    have H := H1
    clear H1
    obtain rfl := Option.some.inj H
    go_enter Try.func22, Try.ntmps22
    go_wp2_with (first | ((with_reducible refine gate_callee (f := 20) rfl ?_); refine goesL_ (some 8) rfl rfl Try.func20 (by kernel_rfl) rfl #[] rfl (by (try simp only [List.map_toArray, List.map_cons, List.map_nil]); first | done | rfl | (simp only [List.length_drop, List.length_take]; rfl)) ?_; (with_reducible refine (lamplighterlaw08_plain.calls  t143 t144 t145 t146 t147 _ A1.out).mono ?_); rintro e w42 ⟨rfl, hb⟩; refine ⟨_, rfl, ?_⟩; have n0_ := Aside0.mk (below_step (by repeat (first | (with_reducible first | exact HB.out | apply below_alloc | apply pw_below_drewN | apply below_drew1) | exact HB.out)) hb); clear HB; have HB := n0_; clear n0_; (try clear hb); (try clear hb2); (try clear hk); (try clear hi)) | ((with_reducible refine gate_callee (f := 24) rfl ?_); refine goesL_ (some 9) rfl rfl Try.func24 (by kernel_rfl) rfl #[.string (⟨#[80, 73, 68, 124, 97, 94, 98, 126, 99, 124, 100]⟩ : ByteArray), .int .i64 1, .agg #[.int .u8 t143, .int .u8 t144, .int .u8 t145, .int .u8 t146, .int .u8 t147]] rfl (by (try simp only [List.map_toArray, List.map_cons, List.map_nil]); first | done | rfl | (simp only [List.length_drop, List.length_take]; rfl)) ?_; (with_reducible refine (segment_Field.calls (⟨#[80, 73, 68, 124, 97, 94, 98, 126, 99, 124, 100]⟩ : ByteArray) 1 t143 t144 t145 t146 t147 t148 false _ A2.out).mono ?_); rintro e w43 ⟨rfl, hb⟩; refine ⟨_, rfl, ?_⟩; have n0_ := Aside0.mk (below_step (by repeat (first | (with_reducible first | exact HB.out | apply below_alloc | apply pw_below_drewN | apply below_drew1) | exact HB.out)) hb); clear HB; have HB := n0_; clear n0_; (try clear hb); (try clear hb2); (try clear hk); (try clear hi)) | ((with_reducible refine gate_callee (f := 20) rfl ?_); refine goesL_ (some 14) rfl rfl Try.func20 (by kernel_rfl) rfl #[] rfl (by (try simp only [List.map_toArray, List.map_cons, List.map_nil]); first | done | rfl | (simp only [List.length_drop, List.length_take]; rfl)) ?_; (with_reducible refine (lamplighterlaw08_plain.calls  t150 t151 t152 t153 t154 _ A3.out).mono ?_); rintro e w44 ⟨rfl, hb⟩; refine ⟨_, rfl, ?_⟩; have n0_ := Aside0.mk (below_step (by repeat (first | (with_reducible first | exact HB.out | apply below_alloc | apply pw_below_drewN | apply below_drew1) | exact HB.out)) hb); clear HB; have HB := n0_; clear n0_; (try clear hb); (try clear hb2); (try clear hk); (try clear hi)) | ((with_reducible refine gate_callee (f := 29) rfl ?_); refine goesL_ (some 15) rfl rfl Try.func29 (by kernel_rfl) rfl #[.string t148, .int .i64 2, .int .i64 1, .agg #[.int .u8 t150, .int .u8 t151, .int .u8 t152, .int .u8 t153, .int .u8 t154]] rfl (by (try simp only [List.map_toArray, List.map_cons, List.map_nil]); first | done | rfl | (simp only [List.length_drop, List.length_take]; rfl)) ?_; (with_reducible refine (segment_Part.calls t148 2 1 t150 t151 t152 t153 t154 t155 t156 _ A4.out).mono ?_); rintro e w45 ⟨rfl, hb⟩; refine ⟨_, rfl, ?_⟩; have n0_ := Aside0.mk (below_step (by repeat (first | (with_reducible first | exact HB.out | apply below_alloc | apply pw_below_drewN | apply below_drew1) | exact HB.out)) hb); clear HB; have HB := n0_; clear n0_; (try clear hb); (try clear hb2); (try clear hk); (try clear hi)) | ((with_reducible refine gate_callee (f := 20) rfl ?_); refine goesL_ (some 19) rfl rfl Try.func20 (by kernel_rfl) rfl #[] rfl (by (try simp only [List.map_toArray, List.map_cons, List.map_nil]); first | done | rfl | (simp only [List.length_drop, List.length_take]; rfl)) ?_; (with_reducible refine (lamplighterlaw08_plain.calls  t157 t158 t159 t160 t161 _ A5.out).mono ?_); rintro e w46 ⟨rfl, hb⟩; refine ⟨_, rfl, ?_⟩; have n0_ := Aside0.mk (below_step (by repeat (first | (with_reducible first | exact HB.out | apply below_alloc | apply pw_below_drewN | apply below_drew1) | exact HB.out)) hb); clear HB; have HB := n0_; clear n0_; (try clear hb); (try clear hb2); (try clear hk); (try clear hi)) | ((with_reducible refine gate_callee (f := 24) rfl ?_); refine goesL_ (some 20) rfl rfl Try.func24 (by kernel_rfl) rfl #[.string (⟨#[77, 83, 72, 124, 94, 126, 92, 38, 124, 120]⟩ : ByteArray), .int .i64 2, .agg #[.int .u8 t157, .int .u8 t158, .int .u8 t159, .int .u8 t160, .int .u8 t161]] rfl (by (try simp only [List.map_toArray, List.map_cons, List.map_nil]); first | done | rfl | (simp only [List.length_drop, List.length_take]; rfl)) ?_; (with_reducible refine (segment_Field.calls (⟨#[77, 83, 72, 124, 94, 126, 92, 38, 124, 120]⟩ : ByteArray) 2 t157 t158 t159 t160 t161 t162 t163 _ A6.out).mono ?_); rintro e w47 ⟨rfl, hb⟩; refine ⟨_, rfl, ?_⟩; have n0_ := Aside0.mk (below_step (by repeat (first | (with_reducible first | exact HB.out | apply below_alloc | apply pw_below_drewN | apply below_drew1) | exact HB.out)) hb); clear HB; have HB := n0_; clear n0_; (try clear hb); (try clear hb2); (try clear hk); (try clear hi)))
    go_ret
    exact ⟨by first | rfl | (simp [errW_none, errW_some] <;> rfl) | (simp [*, errW_none, errW_some] <;> rfl), by repeat (first | (with_reducible first | exact HB.out | apply below_alloc | apply pw_below_drewN | apply below_drew1) | exact HB.out)⟩

/-! ### lamplighterlaw08_SegmentCounts: function 6 -/
mutual
def lamplighterlaw08_SegmentCounts.j0 : Nat → ByteArray → Int → Int → Bool → Int → Int → Int → Int → Int → Option (Bool)
  | 0, _, _, _, _, _, _, _, _, _ => none
  | k + 1, x0, x1, x6, x38, x170000, x170001, x170002, x170003, x170004 => if x38 = true then ((lamplighterlaw08_alive.f).bind fun t173 => (some t173)) else (lamplighterlaw08_SegmentCounts.l0 k x0 x6 (wrap64 (Int.tmod x1 20)) x0 (wrap64 (Int.tmod x1 20)) 0 x170000 x170001 x170002 x170003 x170004)
def lamplighterlaw08_SegmentCounts.l0 : Nat → ByteArray → Int → Int → ByteArray → Int → Int → Int → Int → Int → Int → Int → Option (Bool)
  | 0, _, _, _, _, _, _, _, _, _, _, _ => none
  | k + 1, x0, x6, x7, x8, x44, x45, x170000, x170001, x170002, x170003, x170004 => if x45 < x44 then (if x8.size + 1 ≤ 9223372036854775807 then (lamplighterlaw08_SegmentCounts.l0 k x0 x6 x7 (x8 ++ (⟨#[124]⟩ : ByteArray)) x44 (wrap64 (x45 + 1)) x170000 x170001 x170002 x170003 x170004) else (none)) else ((segment_Count.f x8 x170000 x170001 x170002 x170003 x170004).bind fun t174 => (if t174 = (wrap64 (x6 + x7)) then (lamplighterlaw08_SegmentCounts.l1 k x0 x6 x7 x8 1 x170000 x170001 x170002 x170003 x170004) else (some false)))
def lamplighterlaw08_SegmentCounts.l1 : Nat → ByteArray → Int → Int → ByteArray → Int → Int → Int → Int → Int → Int → Option (Bool)
  | 0, _, _, _, _, _, _, _, _, _, _ => none
  | k + 1, x0, x6, x7, x8, x9, x170000, x170001, x170002, x170003, x170004 => if x9 ≤ (wrap64 (x6 + x7)) then ((segment_Field.f x8 x9 x170000 x170001 x170002 x170003 x170004).bind fun bt175 => ((segment_Field.f x0 x9 x170000 x170001 x170002 x170003 x170004).bind fun bt177 => (if bt175.2 = true then (if (bt177.2 != (decide (x9 ≤ x6))) = true then (some false) else (if bt175.1.toList = bt177.1.toList then (lamplighterlaw08_SegmentCounts.l1 k x0 x6 x7 x8 (wrap64 (x9 + 1)) x170000 x170001 x170002 x170003 x170004) else (some false))) else (some false)))) else (some true)
end
def lamplighterlaw08_SegmentCounts.f (k : Nat) (a0 : ByteArray) (a1 : Int) : Option (Bool) := (lamplighterlaw08_plain.f).bind fun bt164 => ((segment_Count.f a0 bt164.1 bt164.2.1 bt164.2.2.1 bt164.2.2.2.1 bt164.2.2.2.2).bind fun t170 => ((lamplighterlaw08_alive.f).bind fun t171 => (if t171 = true then (if (a0.size : Int) > 1000 then (lamplighterlaw08_SegmentCounts.j0 k a0 a1 t170 true bt164.1 bt164.2.1 bt164.2.2.1 bt164.2.2.2.1 bt164.2.2.2.2) else ((segment_Name.f a0).bind fun t172 => (if t172.toList = ([77, 83, 72] : List UInt8) then (if t170 = 0 then (lamplighterlaw08_SegmentCounts.j0 k a0 a1 t170 true bt164.1 bt164.2.1 bt164.2.2.1 bt164.2.2.2.1 bt164.2.2.2.2) else (lamplighterlaw08_SegmentCounts.j0 k a0 a1 t170 (decide ((a0.size : Int) < 3)) bt164.1 bt164.2.1 bt164.2.2.1 bt164.2.2.2.1 bt164.2.2.2.2)) else (lamplighterlaw08_SegmentCounts.j0 k a0 a1 t170 (decide ((a0.size : Int) < 3)) bt164.1 bt164.2.1 bt164.2.2.1 bt164.2.2.2.1 bt164.2.2.2.2)))) else (lamplighterlaw08_SegmentCounts.j0 k a0 a1 t170 true bt164.1 bt164.2.1 bt164.2.2.1 bt164.2.2.2.1 bt164.2.2.2.2))))
theorem lamplighterlaw08_SegmentCounts.mono_l : ∀ k, (∀ y0 y1 y2 y3 y4 y5 y6 y7 y8, LeO (lamplighterlaw08_SegmentCounts.j0 k y0 y1 y2 y3 y4 y5 y6 y7 y8) (lamplighterlaw08_SegmentCounts.j0 (k + 1) y0 y1 y2 y3 y4 y5 y6 y7 y8)) ∧ (∀ y0 y1 y2 y3 y4 y5 y6 y7 y8 y9 y10, LeO (lamplighterlaw08_SegmentCounts.l0 k y0 y1 y2 y3 y4 y5 y6 y7 y8 y9 y10) (lamplighterlaw08_SegmentCounts.l0 (k + 1) y0 y1 y2 y3 y4 y5 y6 y7 y8 y9 y10)) ∧ (∀ y0 y1 y2 y3 y4 y5 y6 y7 y8 y9, LeO (lamplighterlaw08_SegmentCounts.l1 k y0 y1 y2 y3 y4 y5 y6 y7 y8 y9) (lamplighterlaw08_SegmentCounts.l1 (k + 1) y0 y1 y2 y3 y4 y5 y6 y7 y8 y9))
  | 0 => ⟨fun _ _ _ _ _ _ _ _ _ r h => by simp [lamplighterlaw08_SegmentCounts.j0] at h, fun _ _ _ _ _ _ _ _ _ _ _ r h => by simp [lamplighterlaw08_SegmentCounts.l0] at h, fun _ _ _ _ _ _ _ _ _ _ r h => by simp [lamplighterlaw08_SegmentCounts.l1] at h⟩
  | k + 1 => by
    obtain ⟨ih0, ih1, ih2⟩ := lamplighterlaw08_SegmentCounts.mono_l k
    refine ⟨?_, ?_, ?_⟩
    · intro y0 y1 y2 y3 y4 y5 y6 y7 y8
      unfold lamplighterlaw08_SegmentCounts.j0
      repeat' first
      | (with_reducible exact ih0 _ _ _ _ _ _ _ _ _)
      | (with_reducible exact ih1 _ _ _ _ _ _ _ _ _ _ _)
      | (with_reducible exact ih2 _ _ _ _ _ _ _ _ _ _)
      | (with_reducible exact LeO.refl _)
      | (with_reducible exact LeO.none _)
      | (with_reducible refine LeO.ite ?_ ?_)
      | (with_reducible refine LeO.bind ?_ (fun _ => ?_))
      | exact ih0 _ _ _ _ _ _ _ _ _
      | exact ih1 _ _ _ _ _ _ _ _ _ _ _
      | exact ih2 _ _ _ _ _ _ _ _ _ _
      | exact LeO.none _
      | refine LeO.ite ?_ ?_
      | refine LeO.bind ?_ (fun _ => ?_)
    · intro y0 y1 y2 y3 y4 y5 y6 y7 y8 y9 y10
      unfold lamplighterlaw08_SegmentCounts.l0
      repeat' first
      | (with_reducible exact ih0 _ _ _ _ _ _ _ _ _)
      | (with_reducible exact ih1 _ _ _ _ _ _ _ _ _ _ _)
      | (with_reducible exact ih2 _ _ _ _ _ _ _ _ _ _)
      | (with_reducible exact LeO.refl _)
      | (with_reducible exact LeO.none _)
      | (with_reducible refine LeO.ite ?_ ?_)
      | (with_reducible refine LeO.bind ?_ (fun _ => ?_))
      | exact ih0 _ _ _ _ _ _ _ _ _
      | exact ih1 _ _ _ _ _ _ _ _ _ _ _
      | exact ih2 _ _ _ _ _ _ _ _ _ _
      | exact LeO.none _
      | refine LeO.ite ?_ ?_
      | refine LeO.bind ?_ (fun _ => ?_)
    · intro y0 y1 y2 y3 y4 y5 y6 y7 y8 y9
      unfold lamplighterlaw08_SegmentCounts.l1
      repeat' first
      | (with_reducible exact ih0 _ _ _ _ _ _ _ _ _)
      | (with_reducible exact ih1 _ _ _ _ _ _ _ _ _ _ _)
      | (with_reducible exact ih2 _ _ _ _ _ _ _ _ _ _)
      | (with_reducible exact LeO.refl _)
      | (with_reducible exact LeO.none _)
      | (with_reducible refine LeO.ite ?_ ?_)
      | (with_reducible refine LeO.bind ?_ (fun _ => ?_))
      | exact ih0 _ _ _ _ _ _ _ _ _
      | exact ih1 _ _ _ _ _ _ _ _ _ _ _
      | exact ih2 _ _ _ _ _ _ _ _ _ _
      | exact LeO.none _
      | refine LeO.ite ?_ ?_
      | refine LeO.bind ?_ (fun _ => ?_)
theorem lamplighterlaw08_SegmentCounts.mono : ∀ a0 a1 k, LeO (lamplighterlaw08_SegmentCounts.f k a0 a1) (lamplighterlaw08_SegmentCounts.f (k + 1) a0 a1) := by
  intro a0 a1 k
  obtain ⟨ih0, ih1, ih2⟩ := lamplighterlaw08_SegmentCounts.mono_l k
  unfold lamplighterlaw08_SegmentCounts.f
  repeat' first
      | (with_reducible exact ih0 _ _ _ _ _ _ _ _ _)
      | (with_reducible exact ih1 _ _ _ _ _ _ _ _ _ _ _)
      | (with_reducible exact ih2 _ _ _ _ _ _ _ _ _ _)
      | (with_reducible exact LeO.refl _)
      | (with_reducible exact LeO.none _)
      | (with_reducible refine LeO.ite ?_ ?_)
      | (with_reducible refine LeO.bind ?_ (fun _ => ?_))
      | exact ih0 _ _ _ _ _ _ _ _ _
      | exact ih1 _ _ _ _ _ _ _ _ _ _ _
      | exact ih2 _ _ _ _ _ _ _ _ _ _
      | exact LeO.none _
      | refine LeO.ite ?_ ?_
      | refine LeO.bind ?_ (fun _ => ?_)
set_option maxHeartbeats 8000000 in
set_option maxRecDepth 100000 in
theorem lamplighterlaw08_SegmentCounts.calls (k : Nat) (a0 : ByteArray) (a1 : Int) (r : Bool) (w : World) (h : lamplighterlaw08_SegmentCounts.f k a0 a1 = some r) :
    Calls Try.prog 6 #[.string a0, .int .u8 a1] w fun e w' => e = .returned (.bool r) ∧ Below w.heap.size w w' := by
  have hu23 := Try.underlying23
  have HB := Aside0.mk (Below.refl w.heap.size w)
  have H : ((lamplighterlaw08_plain.f).bind fun bt164 => ((segment_Count.f a0 bt164.1 bt164.2.1 bt164.2.2.1 bt164.2.2.2.1 bt164.2.2.2.2).bind fun t170 => ((lamplighterlaw08_alive.f).bind fun t171 => (if t171 = true then (if (a0.size : Int) > 1000 then (lamplighterlaw08_SegmentCounts.j0 k a0 a1 t170 true bt164.1 bt164.2.1 bt164.2.2.1 bt164.2.2.2.1 bt164.2.2.2.2) else ((segment_Name.f a0).bind fun t172 => (if t172.toList = ([77, 83, 72] : List UInt8) then (if t170 = 0 then (lamplighterlaw08_SegmentCounts.j0 k a0 a1 t170 true bt164.1 bt164.2.1 bt164.2.2.1 bt164.2.2.2.1 bt164.2.2.2.2) else (lamplighterlaw08_SegmentCounts.j0 k a0 a1 t170 (decide ((a0.size : Int) < 3)) bt164.1 bt164.2.1 bt164.2.2.1 bt164.2.2.2.1 bt164.2.2.2.2)) else (lamplighterlaw08_SegmentCounts.j0 k a0 a1 t170 (decide ((a0.size : Int) < 3)) bt164.1 bt164.2.1 bt164.2.2.1 bt164.2.2.2.1 bt164.2.2.2.2)))) else (lamplighterlaw08_SegmentCounts.j0 k a0 a1 t170 true bt164.1 bt164.2.1 bt164.2.2.1 bt164.2.2.2.1 bt164.2.2.2.2))))) = some r := h
  clear h
  replace H := Option.bind_eq_some_iff.mp H
  obtain ⟨⟨t164, t165, t166, t167, t168⟩, A30, H⟩ := H
  replace H : ((segment_Count.f a0 t164 t165 t166 t167 t168).bind fun t170 => ((lamplighterlaw08_alive.f).bind fun t171 => (if t171 = true then (if (a0.size : Int) > 1000 then (lamplighterlaw08_SegmentCounts.j0 k a0 a1 t170 true t164 t165 t166 t167 t168) else ((segment_Name.f a0).bind fun t172 => (if t172.toList = ([77, 83, 72] : List UInt8) then (if t170 = 0 then (lamplighterlaw08_SegmentCounts.j0 k a0 a1 t170 true t164 t165 t166 t167 t168) else (lamplighterlaw08_SegmentCounts.j0 k a0 a1 t170 (decide ((a0.size : Int) < 3)) t164 t165 t166 t167 t168)) else (lamplighterlaw08_SegmentCounts.j0 k a0 a1 t170 (decide ((a0.size : Int) < 3)) t164 t165 t166 t167 t168)))) else (lamplighterlaw08_SegmentCounts.j0 k a0 a1 t170 true t164 t165 t166 t167 t168)))) = some r := H
  have A3 := Aside0.mk A30
  clear A30
  replace H := Option.bind_eq_some_iff.mp H
  obtain ⟨t170, A40, H⟩ := H
  replace H : ((lamplighterlaw08_alive.f).bind fun t171 => (if t171 = true then (if (a0.size : Int) > 1000 then (lamplighterlaw08_SegmentCounts.j0 k a0 a1 t170 true t164 t165 t166 t167 t168) else ((segment_Name.f a0).bind fun t172 => (if t172.toList = ([77, 83, 72] : List UInt8) then (if t170 = 0 then (lamplighterlaw08_SegmentCounts.j0 k a0 a1 t170 true t164 t165 t166 t167 t168) else (lamplighterlaw08_SegmentCounts.j0 k a0 a1 t170 (decide ((a0.size : Int) < 3)) t164 t165 t166 t167 t168)) else (lamplighterlaw08_SegmentCounts.j0 k a0 a1 t170 (decide ((a0.size : Int) < 3)) t164 t165 t166 t167 t168)))) else (lamplighterlaw08_SegmentCounts.j0 k a0 a1 t170 true t164 t165 t166 t167 t168))) = some r := H
  have A4 := Aside0.mk A40
  clear A40
  have HC5 := Aside0.mk H
  clear H
  go_enter Try.func6, Try.ntmps6
  go_upto_region 3 with (first | ((with_reducible refine gate_callee (f := 20) rfl ?_); refine goesL_ (some 14) rfl rfl Try.func20 (by kernel_rfl) rfl #[] rfl (by (try simp only [List.map_toArray, List.map_cons, List.map_nil]); first | done | rfl | (simp only [List.length_drop, List.length_take]; rfl)) ?_; (with_reducible refine (lamplighterlaw08_plain.calls  t164 t165 t166 t167 t168 _ A3.out).mono ?_); rintro e w6 ⟨rfl, hb⟩; refine ⟨_, rfl, ?_⟩; have n0_ := Aside0.mk (below_step (by repeat (first | (with_reducible first | exact HB.out | apply below_alloc | apply pw_below_drewN | apply below_drew1) | exact HB.out)) hb); clear HB; have HB := n0_; clear n0_; (try clear hb); (try clear hb2); (try clear hk); (try clear hi)) | ((with_reducible refine gate_dst (N := 5) rfl ?_); (try (refine gate_guard (by rfl) ?_; dsimp only)); refine box_event ?hg (N := 5) ?hd (cs := #[.int .u8 0, .int .u8 0, .int .u8 0, .int .u8 0, .int .u8 0]) (t := 23) ?hr ?_; (case hd => rfl); (case hg => rfl); (case hr => first | (go_simp; done) | (go_simp; rfl)); intro gb169 hg w7 hbox hb; have n0_ := Aside0.mk (below_step (by repeat (first | (with_reducible first | exact HB.out | apply below_alloc | apply pw_below_drewN | apply below_drew1) | exact HB.out)) hb); have n1_ := Aside0.mk (hbox); have n2_ := Aside0.mk ((by rw [hg]; exact (below_size (by repeat (first | (with_reducible first | exact HB.out | apply below_alloc | apply pw_below_drewN | apply below_drew1) | exact HB.out))) : w.heap.size ≤ gb169)); have n3_ := Aside0.mk ((by rw [hg]; exact (below_size (by repeat (first | (with_reducible first | exact HB.out | apply below_alloc | apply pw_below_drewN | apply below_drew1) | exact HB.out))) : w.heap.size ≤ gb169)); clear HB; have HB := n0_; have BK169 := n1_; have GW169 := n2_; have GE169 := n3_; clear n0_ n1_ n2_ n3_; clear hb hbox hg; have hcz8_0 : w7.cell? ⟨gb169, 0, none⟩ = some (.int .u8 0) := (blk_cell BK169.out 0).trans rfl; have hcz8_1 : w7.cell? ⟨gb169, 1, none⟩ = some (.int .u8 0) := (blk_cell BK169.out 1).trans rfl; have hcz8_2 : w7.cell? ⟨gb169, 2, none⟩ = some (.int .u8 0) := (blk_cell BK169.out 2).trans rfl; have hcz8_3 : w7.cell? ⟨gb169, 3, none⟩ = some (.int .u8 0) := (blk_cell BK169.out 3).trans rfl; have hcz8_4 : w7.cell? ⟨gb169, 4, none⟩ = some (.int .u8 0) := (blk_cell BK169.out 4).trans rfl; have hfz8_0 := blk_frozen BK169.out 0; have hfz8_1 := blk_frozen BK169.out 1; have hfz8_2 := blk_frozen BK169.out 2; have hfz8_3 := blk_frozen BK169.out 3; have hfz8_4 := blk_frozen BK169.out 4) | ((with_reducible refine gate_callee (f := 21) rfl ?_); refine goesL_ (some 17) rfl rfl Try.func21 (by kernel_rfl) rfl #[.string a0, .agg #[.int .u8 t164, .int .u8 t165, .int .u8 t166, .int .u8 t167, .int .u8 t168]] rfl (by (try simp only [List.map_toArray, List.map_cons, List.map_nil]); first | done | rfl | (simp only [List.length_drop, List.length_take]; rfl)) ?_; (with_reducible refine (segment_Count.calls a0 t164 t165 t166 t167 t168 t170 _ A4.out).mono ?_); rintro e w9 ⟨rfl, hb⟩; refine ⟨_, rfl, ?_⟩; have n0_ := Aside0.mk (blk_below (g := gb169) (o := .cells #[.int .u8 t164, .int .u8 t165, .int .u8 t166, .int .u8 t167, .int .u8 t168] 23 (0, 0)) (by (with_reducible repeat (first | refine blk_drewN ?_ _ | refine blk_drew ?_ | refine blk_alloc ?_ _)); refine blk_put (cs := #[.int .u8 t164, .int .u8 t165, .int .u8 t166, .int .u8 t167, .int .u8 0]) ?_ 4 _ rfl; (with_reducible repeat (first | refine blk_drewN ?_ _ | refine blk_drew ?_ | refine blk_alloc ?_ _)); refine blk_put (cs := #[.int .u8 t164, .int .u8 t165, .int .u8 t166, .int .u8 0, .int .u8 0]) ?_ 3 _ rfl; (with_reducible repeat (first | refine blk_drewN ?_ _ | refine blk_drew ?_ | refine blk_alloc ?_ _)); refine blk_put (cs := #[.int .u8 t164, .int .u8 t165, .int .u8 0, .int .u8 0, .int .u8 0]) ?_ 2 _ rfl; (with_reducible repeat (first | refine blk_drewN ?_ _ | refine blk_drew ?_ | refine blk_alloc ?_ _)); refine blk_put (cs := #[.int .u8 t164, .int .u8 0, .int .u8 0, .int .u8 0, .int .u8 0]) ?_ 1 _ rfl; (with_reducible repeat (first | refine blk_drewN ?_ _ | refine blk_drew ?_ | refine blk_alloc ?_ _)); refine blk_put (cs := #[.int .u8 0, .int .u8 0, .int .u8 0, .int .u8 0, .int .u8 0]) ?_ 0 _ rfl; (with_reducible repeat (first | refine blk_drewN ?_ _ | refine blk_drew ?_ | refine blk_alloc ?_ _)); exact BK169.out) hb); have n1_ := Aside0.mk (below_step (by repeat (first | (with_reducible first | exact HB.out | apply below_alloc | apply pw_below_drewN | apply below_drew1 | refine below_set ?_ GE169.out) | exact HB.out)) hb); clear BK169; clear HB; have BK169 := n0_; have HB := n1_; clear n0_ n1_; (try clear hb); (try clear hb2); (try clear hk); (try clear hi)))
  (try simp only [Act.put, List.setIfInBounds_toArray, List.set_cons_zero, List.set_cons_succ])
  go_cut [38] (fun v38 wc => ∃ (kq : Nat) (x38_4 : Bool), v38 = .bool x38_4 ∧ Aside0 (lamplighterlaw08_SegmentCounts.j0 kq a0 a1 t170 x38_4 t164 t165 t166 t167 t168 = some r) ∧ Aside0 (kq ≤ k) ∧ Aside0 (wc.heap[gb169]? = some (.cells #[.int .u8 t164, .int .u8 t165, .int .u8 t166, .int .u8 t167, .int .u8 t168] 23 (0, 0))) ∧ Aside0 (Below w.heap.size w wc))
  case first =>
    have H := HC5.out
    clear HC5
    replace H := Option.bind_eq_some_iff.mp H
    obtain ⟨t171, A100, H⟩ := H
    replace H : (if t171 = true then (if (a0.size : Int) > 1000 then (lamplighterlaw08_SegmentCounts.j0 k a0 a1 t170 true t164 t165 t166 t167 t168) else ((segment_Name.f a0).bind fun t172 => (if t172.toList = ([77, 83, 72] : List UInt8) then (if t170 = 0 then (lamplighterlaw08_SegmentCounts.j0 k a0 a1 t170 true t164 t165 t166 t167 t168) else (lamplighterlaw08_SegmentCounts.j0 k a0 a1 t170 (decide ((a0.size : Int) < 3)) t164 t165 t166 t167 t168)) else (lamplighterlaw08_SegmentCounts.j0 k a0 a1 t170 (decide ((a0.size : Int) < 3)) t164 t165 t166 t167 t168)))) else (lamplighterlaw08_SegmentCounts.j0 k a0 a1 t170 true t164 t165 t166 t167 t168)) = some r := H
    have A10 := Aside0.mk A100
    clear A100
    by_cases c11 : t171 = true
    · subst c11
      have H1 : (if (a0.size : Int) > 1000 then (lamplighterlaw08_SegmentCounts.j0 k a0 a1 t170 true t164 t165 t166 t167 t168) else ((segment_Name.f a0).bind fun t172 => (if t172.toList = ([77, 83, 72] : List UInt8) then (if t170 = 0 then (lamplighterlaw08_SegmentCounts.j0 k a0 a1 t170 true t164 t165 t166 t167 t168) else (lamplighterlaw08_SegmentCounts.j0 k a0 a1 t170 (decide ((a0.size : Int) < 3)) t164 t165 t166 t167 t168)) else (lamplighterlaw08_SegmentCounts.j0 k a0 a1 t170 (decide ((a0.size : Int) < 3)) t164 t165 t166 t167 t168)))) = some r := by rw [if_pos rfl] at H; exact H
      clear H
      have H := H1
      clear H1
      by_cases c12 : (a0.size : Int) > 1000
      · rw [if_pos c12] at H
        have c12b0 : decide (1000 < (a0.size : Int)) = true := decide_eq_true c12
        have c12b1 : decide (1000 < a0.size) = true := decide_eq_true (by omega)
        clear c12
        (first | rw [c12b0] | (simp only [i64_w, i32_w]; rw [c12b0]) | skip)
        have H' := Aside0.mk H
        clear H
        go_wp2_with (first | ((with_reducible refine gate_callee (f := 22) rfl ?_); refine goesL_ (some 18) rfl rfl Try.func22 (by kernel_rfl) rfl #[] rfl (by (try simp only [List.map_toArray, List.map_cons, List.map_nil]); first | done | rfl | (simp only [List.length_drop, List.length_take]; rfl)) ?_; (with_reducible refine (lamplighterlaw08_alive.calls  true _ A10.out).mono ?_); rintro e w13 ⟨rfl, hb⟩; refine ⟨_, rfl, ?_⟩; have n0_ := Aside0.mk (blk_below (g := gb169) (o := .cells #[.int .u8 t164, .int .u8 t165, .int .u8 t166, .int .u8 t167, .int .u8 t168] 23 (0, 0)) (by (with_reducible repeat (first | refine blk_drewN ?_ _ | refine blk_drew ?_ | refine blk_alloc ?_ _)); exact BK169.out) hb); have n1_ := Aside0.mk (below_step (by repeat (first | (with_reducible first | exact HB.out | apply below_alloc | apply pw_below_drewN | apply below_drew1 | refine below_set ?_ GE169.out) | exact HB.out)) hb); clear BK169; clear HB; have BK169 := n0_; have HB := n1_; clear n0_ n1_; (try clear hb); (try clear hb2); (try clear hk); (try clear hi)))
        go_meet
        case rel => exact ⟨_, (true), (by first | rfl | (simp; done) | (simp [*]; done)), H', ⟨by first | omega | exact Nat.le_refl _⟩, ⟨by (with_reducible repeat (first | refine blk_drewN ?_ _ | refine blk_drew ?_ | refine blk_alloc ?_ _)); exact BK169.out⟩, ⟨by repeat (first | (with_reducible first | exact HB.out | apply below_alloc | apply pw_below_drewN | apply below_drew1 | refine below_set ?_ GE169.out) | exact HB.out)⟩⟩
      · rw [if_neg c12] at H
        have c12b0 : decide (1000 < (a0.size : Int)) = false := decide_eq_false c12
        have c12b1 : decide (1000 < a0.size) = false := decide_eq_false (by omega)
        clear c12
        (first | rw [c12b0] | (simp only [i64_w, i32_w]; rw [c12b0]) | skip)
        replace H := Option.bind_eq_some_iff.mp H
        obtain ⟨t172, A140, H⟩ := H
        replace H : (if t172.toList = ([77, 83, 72] : List UInt8) then (if t170 = 0 then (lamplighterlaw08_SegmentCounts.j0 k a0 a1 t170 true t164 t165 t166 t167 t168) else (lamplighterlaw08_SegmentCounts.j0 k a0 a1 t170 (decide ((a0.size : Int) < 3)) t164 t165 t166 t167 t168)) else (lamplighterlaw08_SegmentCounts.j0 k a0 a1 t170 (decide ((a0.size : Int) < 3)) t164 t165 t166 t167 t168)) = some r := H
        have A14 := Aside0.mk A140
        clear A140
        by_cases c15 : t172.toList = ([77, 83, 72] : List UInt8)
        · rw [if_pos c15] at H
          have c15b0 : (t172.toList == ([77, 83, 72] : List UInt8)) = true := beq_iff_eq.mpr c15
          have c15b1 : (t172.toList != ([77, 83, 72] : List UInt8)) = false := bne_eq_false_iff_eq.mpr c15
          clear c15
          by_cases c16 : t170 = 0
          · rw [if_pos c16] at H
            have c16b0 : (t170 == 0) = true := beq_iff_eq.mpr c16
            have c16b1 : (t170 != 0) = false := bne_eq_false_iff_eq.mpr c16
            clear c16
            have H' := Aside0.mk H
            clear H
            go_wp2_with (first | ((with_reducible refine gate_callee (f := 22) rfl ?_); refine goesL_ (some 18) rfl rfl Try.func22 (by kernel_rfl) rfl #[] rfl (by (try simp only [List.map_toArray, List.map_cons, List.map_nil]); first | done | rfl | (simp only [List.length_drop, List.length_take]; rfl)) ?_; (with_reducible refine (lamplighterlaw08_alive.calls  true _ A10.out).mono ?_); rintro e w17 ⟨rfl, hb⟩; refine ⟨_, rfl, ?_⟩; have n0_ := Aside0.mk (blk_below (g := gb169) (o := .cells #[.int .u8 t164, .int .u8 t165, .int .u8 t166, .int .u8 t167, .int .u8 t168] 23 (0, 0)) (by (with_reducible repeat (first | refine blk_drewN ?_ _ | refine blk_drew ?_ | refine blk_alloc ?_ _)); exact BK169.out) hb); have n1_ := Aside0.mk (below_step (by repeat (first | (with_reducible first | exact HB.out | apply below_alloc | apply pw_below_drewN | apply below_drew1 | refine below_set ?_ GE169.out) | exact HB.out)) hb); clear BK169; clear HB; have BK169 := n0_; have HB := n1_; clear n0_ n1_; (try clear hb); (try clear hb2); (try clear hk); (try clear hi)) | (go_at_call 23; (with_reducible refine (segment_Name.calls a0 t172 _ A14.out).mono ?_); rintro e w18 ⟨rfl, hb⟩; have n0_ := Aside0.mk (blk_below (g := gb169) (o := .cells #[.int .u8 t164, .int .u8 t165, .int .u8 t166, .int .u8 t167, .int .u8 t168] 23 (0, 0)) (by (with_reducible repeat (first | refine blk_drewN ?_ _ | refine blk_drew ?_ | refine blk_alloc ?_ _)); exact BK169.out) hb); have n1_ := Aside0.mk (below_step (by repeat (first | (with_reducible first | exact HB.out | apply below_alloc | apply pw_below_drewN | apply below_drew1 | refine below_set ?_ GE169.out) | exact HB.out)) hb); clear BK169; clear HB; have BK169 := n0_; have HB := n1_; clear n0_ n1_; (try clear hb); (try clear hb2); (try clear hk); (try clear hi)))
            go_meet
            case rel => exact ⟨_, (true), (by first | rfl | (simp; done) | (simp [*]; done)), H', ⟨by first | omega | exact Nat.le_refl _⟩, ⟨by (with_reducible repeat (first | refine blk_drewN ?_ _ | refine blk_drew ?_ | refine blk_alloc ?_ _)); exact BK169.out⟩, ⟨by repeat (first | (with_reducible first | exact HB.out | apply below_alloc | apply pw_below_drewN | apply below_drew1 | refine below_set ?_ GE169.out) | exact HB.out)⟩⟩
          · rw [if_neg c16] at H
            have c16b0 : (t170 == 0) = false := beq_eq_false_iff_ne.mpr c16
            have c16b1 : (t170 != 0) = true := bne_iff_ne.mpr c16
            have H' := Aside0.mk H
            clear H
            go_wp2_with (first | ((with_reducible refine gate_callee (f := 22) rfl ?_); refine goesL_ (some 18) rfl rfl Try.func22 (by kernel_rfl) rfl #[] rfl (by (try simp only [List.map_toArray, List.map_cons, List.map_nil]); first | done | rfl | (simp only [List.length_drop, List.length_take]; rfl)) ?_; (with_reducible refine (lamplighterlaw08_alive.calls  true _ A10.out).mono ?_); rintro e w19 ⟨rfl, hb⟩; refine ⟨_, rfl, ?_⟩; have n0_ := Aside0.mk (blk_below (g := gb169) (o := .cells #[.int .u8 t164, .int .u8 t165, .int .u8 t166, .int .u8 t167, .int .u8 t168] 23 (0, 0)) (by (with_reducible repeat (first | refine blk_drewN ?_ _ | refine blk_drew ?_ | refine blk_alloc ?_ _)); exact BK169.out) hb); have n1_ := Aside0.mk (below_step (by repeat (first | (with_reducible first | exact HB.out | apply below_alloc | apply pw_below_drewN | apply below_drew1 | refine below_set ?_ GE169.out) | exact HB.out)) hb); clear BK169; clear HB; have BK169 := n0_; have HB := n1_; clear n0_ n1_; (try clear hb); (try clear hb2); (try clear hk); (try clear hi)) | (go_at_call 23; (with_reducible refine (segment_Name.calls a0 t172 _ A14.out).mono ?_); rintro e w20 ⟨rfl, hb⟩; have n0_ := Aside0.mk (blk_below (g := gb169) (o := .cells #[.int .u8 t164, .int .u8 t165, .int .u8 t166, .int .u8 t167, .int .u8 t168] 23 (0, 0)) (by (with_reducible repeat (first | refine blk_drewN ?_ _ | refine blk_drew ?_ | refine blk_alloc ?_ _)); exact BK169.out) hb); have n1_ := Aside0.mk (below_step (by repeat (first | (with_reducible first | exact HB.out | apply below_alloc | apply pw_below_drewN | apply below_drew1 | refine below_set ?_ GE169.out) | exact HB.out)) hb); clear BK169; clear HB; have BK169 := n0_; have HB := n1_; clear n0_ n1_; (try clear hb); (try clear hb2); (try clear hk); (try clear hi)))
            go_meet
            case rel => exact ⟨_, (decide ((a0.size : Int) < 3)), (by first | rfl | (simp; done) | (simp [*]; done)), H', ⟨by first | omega | exact Nat.le_refl _⟩, ⟨by (with_reducible repeat (first | refine blk_drewN ?_ _ | refine blk_drew ?_ | refine blk_alloc ?_ _)); exact BK169.out⟩, ⟨by repeat (first | (with_reducible first | exact HB.out | apply below_alloc | apply pw_below_drewN | apply below_drew1 | refine below_set ?_ GE169.out) | exact HB.out)⟩⟩
        · rw [if_neg c15] at H
          have c15b0 : (t172.toList == ([77, 83, 72] : List UInt8)) = false := beq_eq_false_iff_ne.mpr c15
          have c15b1 : (t172.toList != ([77, 83, 72] : List UInt8)) = true := bne_iff_ne.mpr c15
          have H' := Aside0.mk H
          clear H
          go_wp2_with (first | ((with_reducible refine gate_callee (f := 22) rfl ?_); refine goesL_ (some 18) rfl rfl Try.func22 (by kernel_rfl) rfl #[] rfl (by (try simp only [List.map_toArray, List.map_cons, List.map_nil]); first | done | rfl | (simp only [List.length_drop, List.length_take]; rfl)) ?_; (with_reducible refine (lamplighterlaw08_alive.calls  true _ A10.out).mono ?_); rintro e w21 ⟨rfl, hb⟩; refine ⟨_, rfl, ?_⟩; have n0_ := Aside0.mk (blk_below (g := gb169) (o := .cells #[.int .u8 t164, .int .u8 t165, .int .u8 t166, .int .u8 t167, .int .u8 t168] 23 (0, 0)) (by (with_reducible repeat (first | refine blk_drewN ?_ _ | refine blk_drew ?_ | refine blk_alloc ?_ _)); exact BK169.out) hb); have n1_ := Aside0.mk (below_step (by repeat (first | (with_reducible first | exact HB.out | apply below_alloc | apply pw_below_drewN | apply below_drew1 | refine below_set ?_ GE169.out) | exact HB.out)) hb); clear BK169; clear HB; have BK169 := n0_; have HB := n1_; clear n0_ n1_; (try clear hb); (try clear hb2); (try clear hk); (try clear hi)) | (go_at_call 23; (with_reducible refine (segment_Name.calls a0 t172 _ A14.out).mono ?_); rintro e w22 ⟨rfl, hb⟩; have n0_ := Aside0.mk (blk_below (g := gb169) (o := .cells #[.int .u8 t164, .int .u8 t165, .int .u8 t166, .int .u8 t167, .int .u8 t168] 23 (0, 0)) (by (with_reducible repeat (first | refine blk_drewN ?_ _ | refine blk_drew ?_ | refine blk_alloc ?_ _)); exact BK169.out) hb); have n1_ := Aside0.mk (below_step (by repeat (first | (with_reducible first | exact HB.out | apply below_alloc | apply pw_below_drewN | apply below_drew1 | refine below_set ?_ GE169.out) | exact HB.out)) hb); clear BK169; clear HB; have BK169 := n0_; have HB := n1_; clear n0_ n1_; (try clear hb); (try clear hb2); (try clear hk); (try clear hi)))
          go_meet
          case rel => exact ⟨_, (decide ((a0.size : Int) < 3)), (by first | rfl | (simp; done) | (simp [*]; done)), H', ⟨by first | omega | exact Nat.le_refl _⟩, ⟨by (with_reducible repeat (first | refine blk_drewN ?_ _ | refine blk_drew ?_ | refine blk_alloc ?_ _)); exact BK169.out⟩, ⟨by repeat (first | (with_reducible first | exact HB.out | apply below_alloc | apply pw_below_drewN | apply below_drew1 | refine below_set ?_ GE169.out) | exact HB.out)⟩⟩
    · replace c11 := Bool.eq_false_iff.mpr c11
      subst c11
      have H1 : (lamplighterlaw08_SegmentCounts.j0 k a0 a1 t170 true t164 t165 t166 t167 t168) = some r := by rw [if_neg (show ¬ (false = true) by decide)] at H; exact H
      clear H
      have H := H1
      clear H1
      have H' := Aside0.mk H
      clear H
      go_wp2_with (first | ((with_reducible refine gate_callee (f := 22) rfl ?_); refine goesL_ (some 18) rfl rfl Try.func22 (by kernel_rfl) rfl #[] rfl (by (try simp only [List.map_toArray, List.map_cons, List.map_nil]); first | done | rfl | (simp only [List.length_drop, List.length_take]; rfl)) ?_; (with_reducible refine (lamplighterlaw08_alive.calls  false _ A10.out).mono ?_); rintro e w23 ⟨rfl, hb⟩; refine ⟨_, rfl, ?_⟩; have n0_ := Aside0.mk (blk_below (g := gb169) (o := .cells #[.int .u8 t164, .int .u8 t165, .int .u8 t166, .int .u8 t167, .int .u8 t168] 23 (0, 0)) (by (with_reducible repeat (first | refine blk_drewN ?_ _ | refine blk_drew ?_ | refine blk_alloc ?_ _)); exact BK169.out) hb); have n1_ := Aside0.mk (below_step (by repeat (first | (with_reducible first | exact HB.out | apply below_alloc | apply pw_below_drewN | apply below_drew1 | refine below_set ?_ GE169.out) | exact HB.out)) hb); clear BK169; clear HB; have BK169 := n0_; have HB := n1_; clear n0_ n1_; (try clear hb); (try clear hb2); (try clear hk); (try clear hi)))
      go_meet
      case rel => exact ⟨_, (true), (by first | rfl | (simp; done) | (simp [*]; done)), H', ⟨by first | omega | exact Nat.le_refl _⟩, ⟨by (with_reducible repeat (first | refine blk_drewN ?_ _ | refine blk_drew ?_ | refine blk_alloc ?_ _)); exact BK169.out⟩, ⟨by repeat (first | (with_reducible first | exact HB.out | apply below_alloc | apply pw_below_drewN | apply below_drew1 | refine below_set ?_ GE169.out) | exact HB.out)⟩⟩
  case rest =>
    clear HC5
    try clear c1
    try clear c2
    try clear p2
    try clear c6
    try clear c11
    try clear c12
    try clear c12b0
    try clear c12b1
    try clear c15
    try clear c15b0
    try clear c15b1
    try clear c16
    try clear c16b0
    try clear c16b1
    try clear c20
    try clear c21
    try clear c22
    try clear hcz8_0
    try clear hcz8_1
    try clear hcz8_2
    try clear hcz8_3
    try clear hcz8_4
    try clear hfz8_0
    try clear hfz8_1
    try clear hfz8_2
    try clear hfz8_3
    try clear hfz8_4
    obtain ⟨kq, x38_4, rfl, HA, HJ4, BK169, HB⟩ := hcut
    cases kq with
    | zero => exact absurd HA.out (by simp [lamplighterlaw08_SegmentCounts.j0])
    | succ kj4 =>
      have H := HA.out
      clear HA
      simp only [lamplighterlaw08_SegmentCounts.j0] at H
      by_cases c24 : x38_4 = true
      · subst c24
        have H1 : ((lamplighterlaw08_alive.f).bind fun t173 => (some t173)) = some r := by rw [if_pos rfl] at H; exact H
        clear H
        have H := H1
        clear H1
        replace H := Option.bind_eq_some_iff.mp H
        obtain ⟨t173, A250, H⟩ := H
        replace H : (some t173) = some r := H
        have A25 := Aside0.mk A250
        clear A250
        obtain rfl := Option.some.inj H
        go_wp2_with (first | ((with_reducible refine gate_callee (f := 22) rfl ?_); refine goesL_ (some 39) rfl rfl Try.func22 (by kernel_rfl) rfl #[] rfl (by (try simp only [List.map_toArray, List.map_cons, List.map_nil]); first | done | rfl | (simp only [List.length_drop, List.length_take]; rfl)) ?_; (with_reducible refine (lamplighterlaw08_alive.calls  t173 _ A25.out).mono ?_); rintro e w26 ⟨rfl, hb⟩; refine ⟨_, rfl, ?_⟩; have n0_ := Aside0.mk (blk_below (g := gb169) (o := .cells #[.int .u8 t164, .int .u8 t165, .int .u8 t166, .int .u8 t167, .int .u8 t168] 23 (0, 0)) (by (with_reducible repeat (first | refine blk_drewN ?_ _ | refine blk_drew ?_ | refine blk_alloc ?_ _)); exact BK169.out) hb); have n1_ := Aside0.mk (below_step (by repeat (first | (with_reducible first | exact HB.out | apply below_alloc | apply pw_below_drewN | apply below_drew1 | refine below_set ?_ GE169.out) | exact HB.out)) hb); clear BK169; clear HB; have BK169 := n0_; have HB := n1_; clear n0_ n1_; (try clear hb); (try clear hb2); (try clear hk); (try clear hi)))
        go_ret
        exact ⟨by first | rfl | (simp [errW_none, errW_some] <;> rfl) | (simp [*, errW_none, errW_some] <;> rfl), by repeat (first | (with_reducible first | exact HB.out | apply below_alloc | apply pw_below_drewN | apply below_drew1 | refine below_set ?_ GE169.out) | exact HB.out)⟩
      · replace c24 := Bool.eq_false_iff.mpr c24
        subst c24
        have H1 : (lamplighterlaw08_SegmentCounts.l0 kj4 a0 t170 (wrap64 (Int.tmod a1 20)) a0 (wrap64 (Int.tmod a1 20)) 0 t164 t165 t166 t167 t168) = some r := by rw [if_neg (show ¬ (false = true) by decide)] at H; exact H
        clear H
        have H := H1
        clear H1
        have H' := Aside0.mk H
        clear H
        go_wp2
        go_loopg [8, 45] kj4 (fun kq v8 v45 w' => ∃ (x8_2 : ByteArray) (x45_2 : Int), v8 = .string x8_2 ∧ v45 = .int .i64 x45_2 ∧ Aside0 (lamplighterlaw08_SegmentCounts.l0 kq a0 t170 (wrap64 (Int.tmod a1 20)) x8_2 (wrap64 (Int.tmod a1 20)) x45_2 t164 t165 t166 t167 t168 = some r) ∧ Aside0 (kq ≤ kj4) ∧ Aside0 (w'.heap[gb169]? = some (.cells #[.int .u8 t164, .int .u8 t165, .int .u8 t166, .int .u8 t167, .int .u8 t168] 23 (0, 0))) ∧ Aside0 (Below w.heap.size w w'))
        case atStart => exact ⟨(a0), (0), (by first | rfl | (simp; done) | (simp [*]; done)), (by first | rfl | (simp; done) | (simp [*]; done)), H', ⟨Nat.le_refl _⟩, ⟨by (with_reducible repeat (first | refine blk_drewN ?_ _ | refine blk_drew ?_ | refine blk_alloc ?_ _)); exact BK169.out⟩, ⟨by repeat (first | (with_reducible first | exact HB.out | apply below_alloc | apply pw_below_drewN | apply below_drew1 | refine below_set ?_ GE169.out) | exact HB.out)⟩⟩
        case round =>
          clear H'
          try clear c1
          try clear c2
          try clear p2
          try clear c6
          try clear p6
          try clear c11
          try clear c12
          try clear c12b0
          try clear c12b1
          try clear c15
          try clear c15b0
          try clear c15b1
          try clear c16
          try clear c16b0
          try clear c16b1
          try clear c20
          try clear c21
          try clear c22
          try clear c24
          try clear hcz8_0
          try clear hcz8_1
          try clear hcz8_2
          try clear hcz8_3
          try clear hcz8_4
          try clear hfz8_0
          try clear hfz8_1
          try clear hfz8_2
          try clear hfz8_3
          try clear hfz8_4
          try clear p2
          obtain ⟨x8_2, x45_2, rfl, rfl, HA, HK2, BK169, HB⟩ := hrel
          cases gk with
          | zero => exact absurd HA.out (by simp [lamplighterlaw08_SegmentCounts.l0])
          | succ k2 =>
            have H := HA.out
            clear HA
            simp only [lamplighterlaw08_SegmentCounts.l0] at H
            by_cases c27 : x45_2 < (wrap64 (Int.tmod a1 20))
            · rw [if_pos c27] at H
              have c27b0 : decide (x45_2 < (wrap64 (Int.tmod a1 20))) = true := decide_eq_true c27
              clear c27
              by_cases c28 : x8_2.size + 1 ≤ 9223372036854775807
              · rw [if_pos c28] at H
                have c28b0 := eq_true c28
                have c28b1 : decide (x8_2.size + 1 ≤ 9223372036854775807) = true := decide_eq_true c28
                try have c28b2 : (9223372036854775807 < x8_2.size + 1) = False := eq_false (Nat.not_lt.2 c28)
                have H' := Aside0.mk H
                clear H
                go_wp2
                go_roundg k2
                case measure => have := HJ4.out; have := HK2.out; omega
                case rel => exact ⟨(x8_2 ++ (⟨#[124]⟩ : ByteArray)), (wrap64 (x45_2 + 1)), (by first | rfl | (simp; done) | (simp [*]; done)), (by first | rfl | (simp; done) | (simp [*]; done)), H', ⟨by have := HJ4.out; have := HK2.out; omega⟩, ⟨by (with_reducible repeat (first | refine blk_drewN ?_ _ | refine blk_drew ?_ | refine blk_alloc ?_ _)); exact BK169.out⟩, ⟨by repeat (first | (with_reducible first | exact HB.out | apply below_alloc | apply pw_below_drewN | apply below_drew1 | refine below_set ?_ GE169.out) | exact HB.out)⟩⟩
              · rw [if_neg c28] at H
                exact absurd H (by simp)
            · rw [if_neg c27] at H
              have c27b0 : decide (x45_2 < (wrap64 (Int.tmod a1 20))) = false := decide_eq_false c27
              clear c27
              replace H := Option.bind_eq_some_iff.mp H
              obtain ⟨t174, A290, H⟩ := H
              replace H : (if t174 = (wrap64 (t170 + (wrap64 (Int.tmod a1 20)))) then (lamplighterlaw08_SegmentCounts.l1 k2 a0 t170 (wrap64 (Int.tmod a1 20)) x8_2 1 t164 t165 t166 t167 t168) else (some false)) = some r := H
              have A29 := Aside0.mk A290
              clear A290
              by_cases c30 : t174 = (wrap64 (t170 + (wrap64 (Int.tmod a1 20))))
              · rw [if_pos c30] at H
                have c30b0 : (t174 == (wrap64 (t170 + (wrap64 (Int.tmod a1 20))))) = true := beq_iff_eq.mpr c30
                have c30b1 : (t174 != (wrap64 (t170 + (wrap64 (Int.tmod a1 20))))) = false := bne_eq_false_iff_eq.mpr c30
                clear c30
                have H' := Aside0.mk H
                clear H
                have hcz31_0 : wr.cell? ⟨gb169, 0, none⟩ = some (.int .u8 t164) := (blk_cell BK169.out 0).trans rfl
                have hcz31_1 : wr.cell? ⟨gb169, 1, none⟩ = some (.int .u8 t165) := (blk_cell BK169.out 1).trans rfl
                have hcz31_2 : wr.cell? ⟨gb169, 2, none⟩ = some (.int .u8 t166) := (blk_cell BK169.out 2).trans rfl
                have hcz31_3 : wr.cell? ⟨gb169, 3, none⟩ = some (.int .u8 t167) := (blk_cell BK169.out 3).trans rfl
                have hcz31_4 : wr.cell? ⟨gb169, 4, none⟩ = some (.int .u8 t168) := (blk_cell BK169.out 4).trans rfl
                have hfz31_0 := blk_frozen BK169.out 0
                have hfz31_1 := blk_frozen BK169.out 1
                have hfz31_2 := blk_frozen BK169.out 2
                have hfz31_3 := blk_frozen BK169.out 3
                have hfz31_4 := blk_frozen BK169.out 4
                go_wp2_with (first | ((with_reducible refine gate_callee (f := 21) rfl ?_); refine goesL_ (some 52) rfl rfl Try.func21 (by kernel_rfl) rfl #[.string x8_2, .agg #[.int .u8 t164, .int .u8 t165, .int .u8 t166, .int .u8 t167, .int .u8 t168]] rfl (by (try simp only [List.map_toArray, List.map_cons, List.map_nil]); first | done | rfl | (simp only [List.length_drop, List.length_take]; rfl)) ?_; (with_reducible refine (segment_Count.calls x8_2 t164 t165 t166 t167 t168 t174 _ A29.out).mono ?_); rintro e w32 ⟨rfl, hb⟩; refine ⟨_, rfl, ?_⟩; have n0_ := Aside0.mk (blk_below (g := gb169) (o := .cells #[.int .u8 t164, .int .u8 t165, .int .u8 t166, .int .u8 t167, .int .u8 t168] 23 (0, 0)) (by (with_reducible repeat (first | refine blk_drewN ?_ _ | refine blk_drew ?_ | refine blk_alloc ?_ _)); exact BK169.out) hb); have n1_ := Aside0.mk (below_step (by repeat (first | (with_reducible first | exact HB.out | apply below_alloc | apply pw_below_drewN | apply below_drew1 | refine below_set ?_ GE169.out) | exact HB.out)) hb); clear BK169; clear HB; have BK169 := n0_; have HB := n1_; clear n0_ n1_; (try clear hb); (try clear hb2); (try clear hk); (try clear hi)))
                go_loopg [9] k2 (fun kq v9 w' => ∃ (x9_3 : Int), v9 = .int .i64 x9_3 ∧ Aside0 (lamplighterlaw08_SegmentCounts.l1 kq a0 t170 (wrap64 (Int.tmod a1 20)) x8_2 x9_3 t164 t165 t166 t167 t168 = some r) ∧ Aside0 (kq ≤ k2) ∧ Aside0 (w'.heap[gb169]? = some (.cells #[.int .u8 t164, .int .u8 t165, .int .u8 t166, .int .u8 t167, .int .u8 t168] 23 (0, 0))) ∧ Aside0 (Below w.heap.size w w'))
                case atStart => exact ⟨(1), (by first | rfl | (simp; done) | (simp [*]; done)), H', ⟨Nat.le_refl _⟩, ⟨by (with_reducible repeat (first | refine blk_drewN ?_ _ | refine blk_drew ?_ | refine blk_alloc ?_ _)); exact BK169.out⟩, ⟨by repeat (first | (with_reducible first | exact HB.out | apply below_alloc | apply pw_below_drewN | apply below_drew1 | refine below_set ?_ GE169.out) | exact HB.out)⟩⟩
                case round =>
                  clear H'
                  try clear c1
                  try clear c2
                  try clear p2
                  try clear c3
                  try clear c6
                  try clear p6
                  try clear c11
                  try clear c12
                  try clear c12b0
                  try clear c12b1
                  try clear c15
                  try clear c15b0
                  try clear c15b1
                  try clear c16
                  try clear c16b0
                  try clear c16b1
                  try clear c20
                  try clear c21
                  try clear c22
                  try clear c24
                  try clear c27
                  try clear c27b0
                  try clear c28
                  try clear c28b0
                  try clear c28b1
                  try clear c28b2
                  try clear c30
                  try clear c30b0
                  try clear c30b1
                  try clear hcz31_0
                  try clear hcz31_1
                  try clear hcz31_2
                  try clear hcz31_3
                  try clear hcz31_4
                  try clear hcz8_0
                  try clear hcz8_1
                  try clear hcz8_2
                  try clear hcz8_3
                  try clear hcz8_4
                  try clear hfz31_0
                  try clear hfz31_1
                  try clear hfz31_2
                  try clear hfz31_3
                  try clear hfz31_4
                  try clear hfz8_0
                  try clear hfz8_1
                  try clear hfz8_2
                  try clear hfz8_3
                  try clear hfz8_4
                  try clear p2
                  try clear p6
                  obtain ⟨x9_3, rfl, HA, HK3, BK169, HB⟩ := hrel
                  cases gk with
                  | zero => exact absurd HA.out (by simp [lamplighterlaw08_SegmentCounts.l1])
                  | succ k3 =>
                    have H := HA.out
                    clear HA
                    simp only [lamplighterlaw08_SegmentCounts.l1] at H
                    by_cases c33 : x9_3 ≤ (wrap64 (t170 + (wrap64 (Int.tmod a1 20))))
                    · rw [if_pos c33] at H
                      have c33b0 : decide (x9_3 ≤ (wrap64 (t170 + (wrap64 (Int.tmod a1 20))))) = true := decide_eq_true c33
                      clear c33
                      replace H := Option.bind_eq_some_iff.mp H
                      obtain ⟨⟨t175, t176⟩, A340, H⟩ := H
                      replace H : ((segment_Field.f a0 x9_3 t164 t165 t166 t167 t168).bind fun bt177 => (if t176 = true then (if (bt177.2 != (decide (x9_3 ≤ t170))) = true then (some false) else (if t175.toList = bt177.1.toList then (lamplighterlaw08_SegmentCounts.l1 k3 a0 t170 (wrap64 (Int.tmod a1 20)) x8_2 (wrap64 (x9_3 + 1)) t164 t165 t166 t167 t168) else (some false))) else (some false))) = some r := H
                      have A34 := Aside0.mk A340
                      clear A340
                      replace H := Option.bind_eq_some_iff.mp H
                      obtain ⟨⟨t177, t178⟩, A350, H⟩ := H
                      replace H : (if t176 = true then (if (t178 != (decide (x9_3 ≤ t170))) = true then (some false) else (if t175.toList = t177.toList then (lamplighterlaw08_SegmentCounts.l1 k3 a0 t170 (wrap64 (Int.tmod a1 20)) x8_2 (wrap64 (x9_3 + 1)) t164 t165 t166 t167 t168) else (some false))) else (some false)) = some r := H
                      have A35 := Aside0.mk A350
                      clear A350
                      by_cases c36 : t176 = true
                      · subst c36
                        have H1 : (if (t178 != (decide (x9_3 ≤ t170))) = true then (some false) else (if t175.toList = t177.toList then (lamplighterlaw08_SegmentCounts.l1 k3 a0 t170 (wrap64 (Int.tmod a1 20)) x8_2 (wrap64 (x9_3 + 1)) t164 t165 t166 t167 t168) else (some false))) = some r := by rw [if_pos rfl] at H; exact H
                        clear H
                        have H := H1
                        clear H1
                        by_cases c37 : (t178 != (decide (x9_3 ≤ t170))) = true
                        · rw [if_pos c37] at H
                          have c37b0 : (t178 != (decide (x9_3 ≤ t170))) = true := c37
                          (try (have c37b1 : decide (t178 = (decide (x9_3 ≤ t170))) = false := by simpa using c37))
                          (try (have c37b2 : (t178 == (decide (x9_3 ≤ t170))) = false := by simpa using c37))
                          (try (have c37b3 : ¬ (t178 = (decide (x9_3 ≤ t170))) := by simpa using c37))
                          clear c37
                          obtain rfl := Option.some.inj H
                          have hcz38_0 : wr.cell? ⟨gb169, 0, none⟩ = some (.int .u8 t164) := (blk_cell BK169.out 0).trans rfl
                          have hcz38_1 : wr.cell? ⟨gb169, 1, none⟩ = some (.int .u8 t165) := (blk_cell BK169.out 1).trans rfl
                          have hcz38_2 : wr.cell? ⟨gb169, 2, none⟩ = some (.int .u8 t166) := (blk_cell BK169.out 2).trans rfl
                          have hcz38_3 : wr.cell? ⟨gb169, 3, none⟩ = some (.int .u8 t167) := (blk_cell BK169.out 3).trans rfl
                          have hcz38_4 : wr.cell? ⟨gb169, 4, none⟩ = some (.int .u8 t168) := (blk_cell BK169.out 4).trans rfl
                          have hfz38_0 := blk_frozen BK169.out 0
                          have hfz38_1 := blk_frozen BK169.out 1
                          have hfz38_2 := blk_frozen BK169.out 2
                          have hfz38_3 := blk_frozen BK169.out 3
                          have hfz38_4 := blk_frozen BK169.out 4
                          go_wp2_with (first | ((with_reducible refine gate_callee (f := 24) rfl ?_); refine goesL_ (some 68) rfl rfl Try.func24 (by kernel_rfl) rfl #[.string x8_2, .int .i64 x9_3, .agg #[.int .u8 t164, .int .u8 t165, .int .u8 t166, .int .u8 t167, .int .u8 t168]] rfl (by (try simp only [List.map_toArray, List.map_cons, List.map_nil]); first | done | rfl | (simp only [List.length_drop, List.length_take]; rfl)) ?_; (with_reducible refine (segment_Field.calls x8_2 x9_3 t164 t165 t166 t167 t168 t175 true _ A34.out).mono ?_); rintro e w39 ⟨rfl, hb⟩; refine ⟨_, rfl, ?_⟩; have n0_ := Aside0.mk (blk_below (g := gb169) (o := .cells #[.int .u8 t164, .int .u8 t165, .int .u8 t166, .int .u8 t167, .int .u8 t168] 23 (0, 0)) (by (with_reducible repeat (first | refine blk_drewN ?_ _ | refine blk_drew ?_ | refine blk_alloc ?_ _)); exact BK169.out) hb); have n1_ := Aside0.mk (below_step (by repeat (first | (with_reducible first | exact HB.out | apply below_alloc | apply pw_below_drewN | apply below_drew1 | refine below_set ?_ GE169.out) | exact HB.out)) hb); clear BK169; clear HB; have BK169 := n0_; have HB := n1_; clear n0_ n1_; (try clear hb); (try clear hb2); (try clear hk); (try clear hi); have hcz40_0 : w39.cell? ⟨gb169, 0, none⟩ = some (.int .u8 t164) := (blk_cell BK169.out 0).trans rfl; have hcz40_1 : w39.cell? ⟨gb169, 1, none⟩ = some (.int .u8 t165) := (blk_cell BK169.out 1).trans rfl; have hcz40_2 : w39.cell? ⟨gb169, 2, none⟩ = some (.int .u8 t166) := (blk_cell BK169.out 2).trans rfl; have hcz40_3 : w39.cell? ⟨gb169, 3, none⟩ = some (.int .u8 t167) := (blk_cell BK169.out 3).trans rfl; have hcz40_4 : w39.cell? ⟨gb169, 4, none⟩ = some (.int .u8 t168) := (blk_cell BK169.out 4).trans rfl; have hfz40_0 := blk_frozen BK169.out 0; have hfz40_1 := blk_frozen BK169.out 1; have hfz40_2 := blk_frozen BK169.out 2; have hfz40_3 := blk_frozen BK169.out 3; have hfz40_4 := blk_frozen BK169.out 4) | ((with_reducible refine gate_callee (f := 24) rfl ?_); refine goesL_ (some 75) rfl rfl Try.func24 (by kernel_rfl) rfl #[.string a0, .int .i64 x9_3, .agg #[.int .u8 t164, .int .u8 t165, .int .u8 t166, .int .u8 t167, .int .u8 t168]] rfl (by (try simp only [List.map_toArray, List.map_cons, List.map_nil]); first | done | rfl | (simp only [List.length_drop, List.length_take]; rfl)) ?_; (with_reducible refine (segment_Field.calls a0 x9_3 t164 t165 t166 t167 t168 t177 t178 _ A35.out).mono ?_); rintro e w41 ⟨rfl, hb⟩; refine ⟨_, rfl, ?_⟩; have n0_ := Aside0.mk (blk_below (g := gb169) (o := .cells #[.int .u8 t164, .int .u8 t165, .int .u8 t166, .int .u8 t167, .int .u8 t168] 23 (0, 0)) (by (with_reducible repeat (first | refine blk_drewN ?_ _ | refine blk_drew ?_ | refine blk_alloc ?_ _)); exact BK169.out) hb); have n1_ := Aside0.mk (below_step (by repeat (first | (with_reducible first | exact HB.out | apply below_alloc | apply pw_below_drewN | apply below_drew1 | refine below_set ?_ GE169.out) | exact HB.out)) hb); clear BK169; clear HB; have BK169 := n0_; have HB := n1_; clear n0_ n1_; (try clear hb); (try clear hb2); (try clear hk); (try clear hi)))
                          go_ret
                          exact ⟨by first | rfl | (simp [errW_none, errW_some] <;> rfl) | (simp [*, errW_none, errW_some] <;> rfl), by repeat (first | (with_reducible first | exact HB.out | apply below_alloc | apply pw_below_drewN | apply below_drew1 | refine below_set ?_ GE169.out) | exact HB.out)⟩
                        · rw [if_neg c37] at H
                          have c37b0 : (t178 != (decide (x9_3 ≤ t170))) = false := by simpa using c37
                          (try (have c37b1 : decide (t178 = (decide (x9_3 ≤ t170))) = true := by simpa using c37))
                          (try (have c37b2 : (t178 == (decide (x9_3 ≤ t170))) = true := by simpa using c37))
                          clear c37
                          by_cases c42 : t175.toList = t177.toList
                          · rw [if_pos c42] at H
                            have c42b0 : (t175.toList == t177.toList) = true := beq_iff_eq.mpr c42
                            have c42b1 : (t175.toList != t177.toList) = false := bne_eq_false_iff_eq.mpr c42
                            clear c42
                            have H' := Aside0.mk H
                            clear H
                            have hcz43_0 : wr.cell? ⟨gb169, 0, none⟩ = some (.int .u8 t164) := (blk_cell BK169.out 0).trans rfl
                            have hcz43_1 : wr.cell? ⟨gb169, 1, none⟩ = some (.int .u8 t165) := (blk_cell BK169.out 1).trans rfl
                            have hcz43_2 : wr.cell? ⟨gb169, 2, none⟩ = some (.int .u8 t166) := (blk_cell BK169.out 2).trans rfl
                            have hcz43_3 : wr.cell? ⟨gb169, 3, none⟩ = some (.int .u8 t167) := (blk_cell BK169.out 3).trans rfl
                            have hcz43_4 : wr.cell? ⟨gb169, 4, none⟩ = some (.int .u8 t168) := (blk_cell BK169.out 4).trans rfl
                            have hfz43_0 := blk_frozen BK169.out 0
                            have hfz43_1 := blk_frozen BK169.out 1
                            have hfz43_2 := blk_frozen BK169.out 2
                            have hfz43_3 := blk_frozen BK169.out 3
                            have hfz43_4 := blk_frozen BK169.out 4
                            go_wp2_with (first | ((with_reducible refine gate_callee (f := 24) rfl ?_); refine goesL_ (some 68) rfl rfl Try.func24 (by kernel_rfl) rfl #[.string x8_2, .int .i64 x9_3, .agg #[.int .u8 t164, .int .u8 t165, .int .u8 t166, .int .u8 t167, .int .u8 t168]] rfl (by (try simp only [List.map_toArray, List.map_cons, List.map_nil]); first | done | rfl | (simp only [List.length_drop, List.length_take]; rfl)) ?_; (with_reducible refine (segment_Field.calls x8_2 x9_3 t164 t165 t166 t167 t168 t175 true _ A34.out).mono ?_); rintro e w44 ⟨rfl, hb⟩; refine ⟨_, rfl, ?_⟩; have n0_ := Aside0.mk (blk_below (g := gb169) (o := .cells #[.int .u8 t164, .int .u8 t165, .int .u8 t166, .int .u8 t167, .int .u8 t168] 23 (0, 0)) (by (with_reducible repeat (first | refine blk_drewN ?_ _ | refine blk_drew ?_ | refine blk_alloc ?_ _)); exact BK169.out) hb); have n1_ := Aside0.mk (below_step (by repeat (first | (with_reducible first | exact HB.out | apply below_alloc | apply pw_below_drewN | apply below_drew1 | refine below_set ?_ GE169.out) | exact HB.out)) hb); clear BK169; clear HB; have BK169 := n0_; have HB := n1_; clear n0_ n1_; (try clear hb); (try clear hb2); (try clear hk); (try clear hi); have hcz45_0 : w44.cell? ⟨gb169, 0, none⟩ = some (.int .u8 t164) := (blk_cell BK169.out 0).trans rfl; have hcz45_1 : w44.cell? ⟨gb169, 1, none⟩ = some (.int .u8 t165) := (blk_cell BK169.out 1).trans rfl; have hcz45_2 : w44.cell? ⟨gb169, 2, none⟩ = some (.int .u8 t166) := (blk_cell BK169.out 2).trans rfl; have hcz45_3 : w44.cell? ⟨gb169, 3, none⟩ = some (.int .u8 t167) := (blk_cell BK169.out 3).trans rfl; have hcz45_4 : w44.cell? ⟨gb169, 4, none⟩ = some (.int .u8 t168) := (blk_cell BK169.out 4).trans rfl; have hfz45_0 := blk_frozen BK169.out 0; have hfz45_1 := blk_frozen BK169.out 1; have hfz45_2 := blk_frozen BK169.out 2; have hfz45_3 := blk_frozen BK169.out 3; have hfz45_4 := blk_frozen BK169.out 4) | ((with_reducible refine gate_callee (f := 24) rfl ?_); refine goesL_ (some 75) rfl rfl Try.func24 (by kernel_rfl) rfl #[.string a0, .int .i64 x9_3, .agg #[.int .u8 t164, .int .u8 t165, .int .u8 t166, .int .u8 t167, .int .u8 t168]] rfl (by (try simp only [List.map_toArray, List.map_cons, List.map_nil]); first | done | rfl | (simp only [List.length_drop, List.length_take]; rfl)) ?_; (with_reducible refine (segment_Field.calls a0 x9_3 t164 t165 t166 t167 t168 t177 t178 _ A35.out).mono ?_); rintro e w46 ⟨rfl, hb⟩; refine ⟨_, rfl, ?_⟩; have n0_ := Aside0.mk (blk_below (g := gb169) (o := .cells #[.int .u8 t164, .int .u8 t165, .int .u8 t166, .int .u8 t167, .int .u8 t168] 23 (0, 0)) (by (with_reducible repeat (first | refine blk_drewN ?_ _ | refine blk_drew ?_ | refine blk_alloc ?_ _)); exact BK169.out) hb); have n1_ := Aside0.mk (below_step (by repeat (first | (with_reducible first | exact HB.out | apply below_alloc | apply pw_below_drewN | apply below_drew1 | refine below_set ?_ GE169.out) | exact HB.out)) hb); clear BK169; clear HB; have BK169 := n0_; have HB := n1_; clear n0_ n1_; (try clear hb); (try clear hb2); (try clear hk); (try clear hi)))
                            go_roundg k3
                            case measure => have := HJ4.out; have := HK2.out; have := HK3.out; omega
                            case rel => exact ⟨(wrap64 (x9_3 + 1)), (by first | rfl | (simp; done) | (simp [*]; done)), H', ⟨by have := HJ4.out; have := HK2.out; have := HK3.out; omega⟩, ⟨by (with_reducible repeat (first | refine blk_drewN ?_ _ | refine blk_drew ?_ | refine blk_alloc ?_ _)); exact BK169.out⟩, ⟨by repeat (first | (with_reducible first | exact HB.out | apply below_alloc | apply pw_below_drewN | apply below_drew1 | refine below_set ?_ GE169.out) | exact HB.out)⟩⟩
                          · rw [if_neg c42] at H
                            have c42b0 : (t175.toList == t177.toList) = false := beq_eq_false_iff_ne.mpr c42
                            have c42b1 : (t175.toList != t177.toList) = true := bne_iff_ne.mpr c42
                            obtain rfl := Option.some.inj H
                            have hcz47_0 : wr.cell? ⟨gb169, 0, none⟩ = some (.int .u8 t164) := (blk_cell BK169.out 0).trans rfl
                            have hcz47_1 : wr.cell? ⟨gb169, 1, none⟩ = some (.int .u8 t165) := (blk_cell BK169.out 1).trans rfl
                            have hcz47_2 : wr.cell? ⟨gb169, 2, none⟩ = some (.int .u8 t166) := (blk_cell BK169.out 2).trans rfl
                            have hcz47_3 : wr.cell? ⟨gb169, 3, none⟩ = some (.int .u8 t167) := (blk_cell BK169.out 3).trans rfl
                            have hcz47_4 : wr.cell? ⟨gb169, 4, none⟩ = some (.int .u8 t168) := (blk_cell BK169.out 4).trans rfl
                            have hfz47_0 := blk_frozen BK169.out 0
                            have hfz47_1 := blk_frozen BK169.out 1
                            have hfz47_2 := blk_frozen BK169.out 2
                            have hfz47_3 := blk_frozen BK169.out 3
                            have hfz47_4 := blk_frozen BK169.out 4
                            go_wp2_with (first | ((with_reducible refine gate_callee (f := 24) rfl ?_); refine goesL_ (some 68) rfl rfl Try.func24 (by kernel_rfl) rfl #[.string x8_2, .int .i64 x9_3, .agg #[.int .u8 t164, .int .u8 t165, .int .u8 t166, .int .u8 t167, .int .u8 t168]] rfl (by (try simp only [List.map_toArray, List.map_cons, List.map_nil]); first | done | rfl | (simp only [List.length_drop, List.length_take]; rfl)) ?_; (with_reducible refine (segment_Field.calls x8_2 x9_3 t164 t165 t166 t167 t168 t175 true _ A34.out).mono ?_); rintro e w48 ⟨rfl, hb⟩; refine ⟨_, rfl, ?_⟩; have n0_ := Aside0.mk (blk_below (g := gb169) (o := .cells #[.int .u8 t164, .int .u8 t165, .int .u8 t166, .int .u8 t167, .int .u8 t168] 23 (0, 0)) (by (with_reducible repeat (first | refine blk_drewN ?_ _ | refine blk_drew ?_ | refine blk_alloc ?_ _)); exact BK169.out) hb); have n1_ := Aside0.mk (below_step (by repeat (first | (with_reducible first | exact HB.out | apply below_alloc | apply pw_below_drewN | apply below_drew1 | refine below_set ?_ GE169.out) | exact HB.out)) hb); clear BK169; clear HB; have BK169 := n0_; have HB := n1_; clear n0_ n1_; (try clear hb); (try clear hb2); (try clear hk); (try clear hi); have hcz49_0 : w48.cell? ⟨gb169, 0, none⟩ = some (.int .u8 t164) := (blk_cell BK169.out 0).trans rfl; have hcz49_1 : w48.cell? ⟨gb169, 1, none⟩ = some (.int .u8 t165) := (blk_cell BK169.out 1).trans rfl; have hcz49_2 : w48.cell? ⟨gb169, 2, none⟩ = some (.int .u8 t166) := (blk_cell BK169.out 2).trans rfl; have hcz49_3 : w48.cell? ⟨gb169, 3, none⟩ = some (.int .u8 t167) := (blk_cell BK169.out 3).trans rfl; have hcz49_4 : w48.cell? ⟨gb169, 4, none⟩ = some (.int .u8 t168) := (blk_cell BK169.out 4).trans rfl; have hfz49_0 := blk_frozen BK169.out 0; have hfz49_1 := blk_frozen BK169.out 1; have hfz49_2 := blk_frozen BK169.out 2; have hfz49_3 := blk_frozen BK169.out 3; have hfz49_4 := blk_frozen BK169.out 4) | ((with_reducible refine gate_callee (f := 24) rfl ?_); refine goesL_ (some 75) rfl rfl Try.func24 (by kernel_rfl) rfl #[.string a0, .int .i64 x9_3, .agg #[.int .u8 t164, .int .u8 t165, .int .u8 t166, .int .u8 t167, .int .u8 t168]] rfl (by (try simp only [List.map_toArray, List.map_cons, List.map_nil]); first | done | rfl | (simp only [List.length_drop, List.length_take]; rfl)) ?_; (with_reducible refine (segment_Field.calls a0 x9_3 t164 t165 t166 t167 t168 t177 t178 _ A35.out).mono ?_); rintro e w50 ⟨rfl, hb⟩; refine ⟨_, rfl, ?_⟩; have n0_ := Aside0.mk (blk_below (g := gb169) (o := .cells #[.int .u8 t164, .int .u8 t165, .int .u8 t166, .int .u8 t167, .int .u8 t168] 23 (0, 0)) (by (with_reducible repeat (first | refine blk_drewN ?_ _ | refine blk_drew ?_ | refine blk_alloc ?_ _)); exact BK169.out) hb); have n1_ := Aside0.mk (below_step (by repeat (first | (with_reducible first | exact HB.out | apply below_alloc | apply pw_below_drewN | apply below_drew1 | refine below_set ?_ GE169.out) | exact HB.out)) hb); clear BK169; clear HB; have BK169 := n0_; have HB := n1_; clear n0_ n1_; (try clear hb); (try clear hb2); (try clear hk); (try clear hi)))
                            go_ret
                            exact ⟨by first | rfl | (simp [errW_none, errW_some] <;> rfl) | (simp [*, errW_none, errW_some] <;> rfl), by repeat (first | (with_reducible first | exact HB.out | apply below_alloc | apply pw_below_drewN | apply below_drew1 | refine below_set ?_ GE169.out) | exact HB.out)⟩
                      · replace c36 := Bool.eq_false_iff.mpr c36
                        subst c36
                        have H1 : (some false) = some r := by rw [if_neg (show ¬ (false = true) by decide)] at H; exact H
                        clear H
                        have H := H1
                        clear H1
                        obtain rfl := Option.some.inj H
                        have hcz51_0 : wr.cell? ⟨gb169, 0, none⟩ = some (.int .u8 t164) := (blk_cell BK169.out 0).trans rfl
                        have hcz51_1 : wr.cell? ⟨gb169, 1, none⟩ = some (.int .u8 t165) := (blk_cell BK169.out 1).trans rfl
                        have hcz51_2 : wr.cell? ⟨gb169, 2, none⟩ = some (.int .u8 t166) := (blk_cell BK169.out 2).trans rfl
                        have hcz51_3 : wr.cell? ⟨gb169, 3, none⟩ = some (.int .u8 t167) := (blk_cell BK169.out 3).trans rfl
                        have hcz51_4 : wr.cell? ⟨gb169, 4, none⟩ = some (.int .u8 t168) := (blk_cell BK169.out 4).trans rfl
                        have hfz51_0 := blk_frozen BK169.out 0
                        have hfz51_1 := blk_frozen BK169.out 1
                        have hfz51_2 := blk_frozen BK169.out 2
                        have hfz51_3 := blk_frozen BK169.out 3
                        have hfz51_4 := blk_frozen BK169.out 4
                        go_wp2_with (first | ((with_reducible refine gate_callee (f := 24) rfl ?_); refine goesL_ (some 68) rfl rfl Try.func24 (by kernel_rfl) rfl #[.string x8_2, .int .i64 x9_3, .agg #[.int .u8 t164, .int .u8 t165, .int .u8 t166, .int .u8 t167, .int .u8 t168]] rfl (by (try simp only [List.map_toArray, List.map_cons, List.map_nil]); first | done | rfl | (simp only [List.length_drop, List.length_take]; rfl)) ?_; (with_reducible refine (segment_Field.calls x8_2 x9_3 t164 t165 t166 t167 t168 t175 false _ A34.out).mono ?_); rintro e w52 ⟨rfl, hb⟩; refine ⟨_, rfl, ?_⟩; have n0_ := Aside0.mk (blk_below (g := gb169) (o := .cells #[.int .u8 t164, .int .u8 t165, .int .u8 t166, .int .u8 t167, .int .u8 t168] 23 (0, 0)) (by (with_reducible repeat (first | refine blk_drewN ?_ _ | refine blk_drew ?_ | refine blk_alloc ?_ _)); exact BK169.out) hb); have n1_ := Aside0.mk (below_step (by repeat (first | (with_reducible first | exact HB.out | apply below_alloc | apply pw_below_drewN | apply below_drew1 | refine below_set ?_ GE169.out) | exact HB.out)) hb); clear BK169; clear HB; have BK169 := n0_; have HB := n1_; clear n0_ n1_; (try clear hb); (try clear hb2); (try clear hk); (try clear hi); have hcz53_0 : w52.cell? ⟨gb169, 0, none⟩ = some (.int .u8 t164) := (blk_cell BK169.out 0).trans rfl; have hcz53_1 : w52.cell? ⟨gb169, 1, none⟩ = some (.int .u8 t165) := (blk_cell BK169.out 1).trans rfl; have hcz53_2 : w52.cell? ⟨gb169, 2, none⟩ = some (.int .u8 t166) := (blk_cell BK169.out 2).trans rfl; have hcz53_3 : w52.cell? ⟨gb169, 3, none⟩ = some (.int .u8 t167) := (blk_cell BK169.out 3).trans rfl; have hcz53_4 : w52.cell? ⟨gb169, 4, none⟩ = some (.int .u8 t168) := (blk_cell BK169.out 4).trans rfl; have hfz53_0 := blk_frozen BK169.out 0; have hfz53_1 := blk_frozen BK169.out 1; have hfz53_2 := blk_frozen BK169.out 2; have hfz53_3 := blk_frozen BK169.out 3; have hfz53_4 := blk_frozen BK169.out 4) | ((with_reducible refine gate_callee (f := 24) rfl ?_); refine goesL_ (some 75) rfl rfl Try.func24 (by kernel_rfl) rfl #[.string a0, .int .i64 x9_3, .agg #[.int .u8 t164, .int .u8 t165, .int .u8 t166, .int .u8 t167, .int .u8 t168]] rfl (by (try simp only [List.map_toArray, List.map_cons, List.map_nil]); first | done | rfl | (simp only [List.length_drop, List.length_take]; rfl)) ?_; (with_reducible refine (segment_Field.calls a0 x9_3 t164 t165 t166 t167 t168 t177 t178 _ A35.out).mono ?_); rintro e w54 ⟨rfl, hb⟩; refine ⟨_, rfl, ?_⟩; have n0_ := Aside0.mk (blk_below (g := gb169) (o := .cells #[.int .u8 t164, .int .u8 t165, .int .u8 t166, .int .u8 t167, .int .u8 t168] 23 (0, 0)) (by (with_reducible repeat (first | refine blk_drewN ?_ _ | refine blk_drew ?_ | refine blk_alloc ?_ _)); exact BK169.out) hb); have n1_ := Aside0.mk (below_step (by repeat (first | (with_reducible first | exact HB.out | apply below_alloc | apply pw_below_drewN | apply below_drew1 | refine below_set ?_ GE169.out) | exact HB.out)) hb); clear BK169; clear HB; have BK169 := n0_; have HB := n1_; clear n0_ n1_; (try clear hb); (try clear hb2); (try clear hk); (try clear hi)))
                        go_ret
                        exact ⟨by first | rfl | (simp [errW_none, errW_some] <;> rfl) | (simp [*, errW_none, errW_some] <;> rfl), by repeat (first | (with_reducible first | exact HB.out | apply below_alloc | apply pw_below_drewN | apply below_drew1 | refine below_set ?_ GE169.out) | exact HB.out)⟩
                    · rw [if_neg c33] at H
                      have c33b0 : decide (x9_3 ≤ (wrap64 (t170 + (wrap64 (Int.tmod a1 20))))) = false := decide_eq_false c33
                      clear c33
                      obtain rfl := Option.some.inj H
                      go_wp2
                      go_ret
                      exact ⟨by first | rfl | (simp [errW_none, errW_some] <;> rfl) | (simp [*, errW_none, errW_some] <;> rfl), by repeat (first | (with_reducible first | exact HB.out | apply below_alloc | apply pw_below_drewN | apply below_drew1 | refine below_set ?_ GE169.out) | exact HB.out)⟩
              · rw [if_neg c30] at H
                have c30b0 : (t174 == (wrap64 (t170 + (wrap64 (Int.tmod a1 20))))) = false := beq_eq_false_iff_ne.mpr c30
                have c30b1 : (t174 != (wrap64 (t170 + (wrap64 (Int.tmod a1 20))))) = true := bne_iff_ne.mpr c30
                obtain rfl := Option.some.inj H
                have hcz55_0 : wr.cell? ⟨gb169, 0, none⟩ = some (.int .u8 t164) := (blk_cell BK169.out 0).trans rfl
                have hcz55_1 : wr.cell? ⟨gb169, 1, none⟩ = some (.int .u8 t165) := (blk_cell BK169.out 1).trans rfl
                have hcz55_2 : wr.cell? ⟨gb169, 2, none⟩ = some (.int .u8 t166) := (blk_cell BK169.out 2).trans rfl
                have hcz55_3 : wr.cell? ⟨gb169, 3, none⟩ = some (.int .u8 t167) := (blk_cell BK169.out 3).trans rfl
                have hcz55_4 : wr.cell? ⟨gb169, 4, none⟩ = some (.int .u8 t168) := (blk_cell BK169.out 4).trans rfl
                have hfz55_0 := blk_frozen BK169.out 0
                have hfz55_1 := blk_frozen BK169.out 1
                have hfz55_2 := blk_frozen BK169.out 2
                have hfz55_3 := blk_frozen BK169.out 3
                have hfz55_4 := blk_frozen BK169.out 4
                go_wp2_with (first | ((with_reducible refine gate_callee (f := 21) rfl ?_); refine goesL_ (some 52) rfl rfl Try.func21 (by kernel_rfl) rfl #[.string x8_2, .agg #[.int .u8 t164, .int .u8 t165, .int .u8 t166, .int .u8 t167, .int .u8 t168]] rfl (by (try simp only [List.map_toArray, List.map_cons, List.map_nil]); first | done | rfl | (simp only [List.length_drop, List.length_take]; rfl)) ?_; (with_reducible refine (segment_Count.calls x8_2 t164 t165 t166 t167 t168 t174 _ A29.out).mono ?_); rintro e w56 ⟨rfl, hb⟩; refine ⟨_, rfl, ?_⟩; have n0_ := Aside0.mk (blk_below (g := gb169) (o := .cells #[.int .u8 t164, .int .u8 t165, .int .u8 t166, .int .u8 t167, .int .u8 t168] 23 (0, 0)) (by (with_reducible repeat (first | refine blk_drewN ?_ _ | refine blk_drew ?_ | refine blk_alloc ?_ _)); exact BK169.out) hb); have n1_ := Aside0.mk (below_step (by repeat (first | (with_reducible first | exact HB.out | apply below_alloc | apply pw_below_drewN | apply below_drew1 | refine below_set ?_ GE169.out) | exact HB.out)) hb); clear BK169; clear HB; have BK169 := n0_; have HB := n1_; clear n0_ n1_; (try clear hb); (try clear hb2); (try clear hk); (try clear hi)))
                go_ret
                exact ⟨by first | rfl | (simp [errW_none, errW_some] <;> rfl) | (simp [*, errW_none, errW_some] <;> rfl), by repeat (first | (with_reducible first | exact HB.out | apply below_alloc | apply pw_below_drewN | apply below_drew1 | refine below_set ?_ GE169.out) | exact HB.out)⟩

/-- THE ONE PURE STATEMENT of lamplighterlaw08_SegmentCounts: yours. -/
def lamplighterlaw08_SegmentCounts.Pure : Prop := ∀ (a0 : ByteArray) (a1 : Int), a0.size ≤ 140737488351232 → (Lit.int .u8 a1).wf = true → ∃ k, lamplighterlaw08_SegmentCounts.f k a0 a1 = some true
theorem lamplighterlaw08_SegmentCounts.walk (P : lamplighterlaw08_SegmentCounts.Pure) (a0 : ByteArray) (a1 : Int) (w : World) (w0 : a0.size ≤ 140737488351232) (w1 : (Lit.int .u8 a1).wf = true) :
    Calls Try.prog 6 #[.string a0, .int .u8 a1] w fun e w' => e = .returned (.bool true) ∧ Below w.heap.size w w' := by
  obtain ⟨k, h⟩ := P a0 a1 w0 w1
  refine (lamplighterlaw08_SegmentCounts.calls k a0 a1 true w h).mono ?_
  rintro e w' ⟨rfl, hd⟩
  exact ⟨rfl, hd⟩

end Go.Proofs.Ytlildjmkeccjjaa.PD
