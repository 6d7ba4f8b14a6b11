-- Written by a program of this work (the kit's print, with contracts of this work's own taken in) out of the translation. Not trusted: Lean checks it.
import Derived.Test.YtbkalgkjkcfplaaDoorPMx0
import Derived.Test.YtbkalgkjkcfplaaDoorPMx11
namespace Go.Proofs.YtbkalgkjkcfplaaDoor.PM
open Go.RowKit Go.Proofs.YtbkalgkjkcfplaaDoorW.PrintWords Go.Proofs.YtbkalgkjkcfplaaDoorW.PrintLast Go.Proofs.YtbkalgkjkcfplaaDoorW.PrintMore
attribute [local go_sem] max2_int min2_int max_two min_two max_three min_three max_four min_four   -- for this text's walks alone
set_option linter.unusedVariables false
set_option linter.unusedSimpArgs false

/-! ### segment_Make: function 33 -/
def segment_Make.f (a0_0 : Int) (a0_1 : Int) (a0_2 : Int) (a0_3 : Int) (a0_4 : Int) (a1 : ByteArray) (l2 : List ByteArray) : Option (ByteArray) := if a1.toList = ([77, 83, 72] : List UInt8) then (if 0 ≤ (mn (l2.length : Int) 2) then (if (mn (l2.length : Int) 2) ≤ (l2.length : Int) then ((strings_Join.f (l2.take ((mn (l2.length : Int) 2) : Int).toNat) (⟨#[]⟩ : ByteArray)).bind fun t291 => (if a1.size + t291.size ≤ 9223372036854775807 then ((some (([a1 ++ t291] : List ByteArray) : List ByteArray)).bind fun y293 => (if y293.length + (l2.drop ((mn (l2.length : Int) 2) : Int).toNat).length < 8796093022208 then ((delim_Join.f a0_0 (y293 ++ (l2.drop ((mn (l2.length : Int) 2) : Int).toNat))).bind fun t299 => (some t299)) else (none))) else (none))) else (none)) else (none)) else ((some (([a1] : List ByteArray) : List ByteArray)).bind fun y300 => (if y300.length + l2.length < 8796093022208 then ((delim_Join.f a0_0 (y300 ++ l2)).bind fun t306 => (some t306)) else (none)))
def segment_Make.T5 : Bool × List (List Nat × List Nat) := (true, [([], []), ([0], [0]), ([], []), ([2], [2]), ([], []), ([3, 4], [3, 4]), ([1, 5, 5], [1, 5]), ([6, 6, 0, 1, 2, 3, 4, 5, 6], [6])])
def segment_Make.B5 : List Nat := [0, 1, 0, 4, 0, 28, 63, 127]
theorem segment_Make.tab5 : rtab .any (opsOf Tryd.f33 5) = segment_Make.T5 := by kernel_rfl
theorem segment_Make.bits5 : waitsOk segment_Make.T5.2 segment_Make.B5 = true := by kernel_rfl
set_option maxHeartbeats 8000000 in
set_option maxRecDepth 100000 in
theorem segment_Make.calls (a0_0 : Int) (a0_1 : Int) (a0_2 : Int) (a0_3 : Int) (a0_4 : Int) (a1 : ByteArray) (A2 : Option Addr) (c2 : Nat) (l2 : List ByteArray) (r : ByteArray) (w : World) (hr2 : Kd.C Kd.string w A2 l2.length l2) (hc2 : l2.length ≤ c2) (h : segment_Make.f a0_0 a0_1 a0_2 a0_3 a0_4 a1 l2 = some r) :
  Calls Tryd.prog 33 #[.agg #[.int .u8 a0_0, .int .u8 a0_1, .int .u8 a0_2, .int .u8 a0_3, .int .u8 a0_4], .string a1, .slice A2 l2.length c2] w fun e w' => e = .returned (.string r) ∧ Below w.heap.size w w' := by
 have hu25 := Tryd.underlying25
 have HR2 := Aside0.mk hr2
 have HC2 := Aside0.mk hc2
 clear hr2 hc2
 have HB := Aside0.mk (Below.refl w.heap.size w)
 have H : (if a1.toList = ([77, 83, 72] : List UInt8) then (if 0 ≤ (mn (l2.length : Int) 2) then (if (mn (l2.length : Int) 2) ≤ (l2.length : Int) then ((strings_Join.f (l2.take ((mn (l2.length : Int) 2) : Int).toNat) (⟨#[]⟩ : ByteArray)).bind fun t291 => (if a1.size + t291.size ≤ 9223372036854775807 then ((some (([a1 ++ t291] : List ByteArray) : List ByteArray)).bind fun y293 => (if y293.length + (l2.drop ((mn (l2.length : Int) 2) : Int).toNat).length < 8796093022208 then ((delim_Join.f a0_0 (y293 ++ (l2.drop ((mn (l2.length : Int) 2) : Int).toNat))).bind fun t299 => (some t299)) else (none))) else (none))) else (none)) else (none)) else ((some (([a1] : List ByteArray) : List ByteArray)).bind fun y300 => (if y300.length + l2.length < 8796093022208 then ((delim_Join.f a0_0 (y300 ++ l2)).bind fun t306 => (some t306)) else (none)))) = some r := h
 clear h
 by_cases c4 : a1.toList = ([77, 83, 72] : List UInt8)
 ·rw [if_pos c4] at H
  have c4b0 : (a1.toList == ([77, 83, 72] : List UInt8)) = true := beq_iff_eq.mpr c4
  have c4b1 : (a1.toList != ([77, 83, 72] : List UInt8)) = false := bne_eq_false_iff_eq.mpr c4
  clear c4
  obtain ⟨ji5, hji5⟩ : ∃ j_ : Int, (mn (l2.length : Int) 2) = j_ := ⟨_, rfl⟩
  replace H : (if 0 ≤ (ji5) then (if (ji5) ≤ (l2.length : Int) then ((strings_Join.f (l2.take ((ji5) : Int).toNat) (⟨#[]⟩ : ByteArray)).bind fun t291 => (if a1.size + t291.size ≤ 9223372036854775807 then ((some (([a1 ++ t291] : List ByteArray) : List ByteArray)).bind fun y293 => (if y293.length + (l2.drop ((ji5) : Int).toNat).length < 8796093022208 then ((delim_Join.f a0_0 (y293 ++ (l2.drop ((ji5) : Int).toNat))).bind fun t299 => (some t299)) else (none))) else (none))) else (none)) else (none)) = some r := by first | (rw [hji5] at H; exact H) | (simp only [hji5] at H ⊢; exact H)
  (try (have hji5h : ji5 ≤ 2 := by (rw [← hji5]; unfold mn; (repeat' split) <;> omega)))
  (try (have hji5g : ji5 ≤ 64 := by omega))
  (try (have hji5l : 0 ≤ ji5 := by (rw [← hji5]; unfold mn; (repeat' split) <;> omega)))
  (try (have hji5m : 0 ≤ ji5 := by omega))
  have hji5_ : (if 2 < (l2.length : Int) then 2 else (l2.length : Int)) = ji5 := hji5
  by_cases c6 : 0 ≤ (ji5)
  ·rw [if_pos c6] at H
   have c6b0 := eq_true c6
   have c6b1 : decide (0 ≤ (ji5)) = true := decide_eq_true c6
   clear c6
   by_cases c7 : (ji5) ≤ (l2.length : Int)
   ·rw [if_pos c7] at H
    have c7b0 := eq_true c7
    have c7b1 : decide ((ji5) ≤ (l2.length : Int)) = true := decide_eq_true c7
    clear c7
    replace H := Option.bind_eq_some_iff.mp H
    obtain ⟨t291, A80, H⟩ := H
    replace H : (if a1.size + t291.size ≤ 9223372036854775807 then ((some (([a1 ++ t291] : List ByteArray) : List ByteArray)).bind fun y293 => (if y293.length + (l2.drop ((ji5) : Int).toNat).length < 8796093022208 then ((delim_Join.f a0_0 (y293 ++ (l2.drop ((ji5) : Int).toNat))).bind fun t299 => (some t299)) else (none))) else (none)) = some r := H
    have A8 := Aside0.mk A80
    clear A80
    by_cases c9 : a1.size + t291.size ≤ 9223372036854775807
    ·rw [if_pos c9] at H
     have c9b0 := eq_true c9
     have c9b1 : decide (a1.size + t291.size ≤ 9223372036854775807) = true := decide_eq_true c9
     try have c9b2 : (9223372036854775807 < a1.size + t291.size) = False := eq_false (Nat.not_lt.2 c9)
     try (have c9b4 := c9b2; simp only [ByteArray.size_append] at c9b4)
     have c10b0 := eq_true (of_decide_eq_true (by first | (with_reducible assumption) | assumption) : 0 ≤ (ji5))
     have c11b0 := eq_true (of_decide_eq_true (by first | (with_reducible assumption) | assumption) : (ji5) ≤ (l2.length : Int))
     obtain ⟨y293, hy293⟩ : ∃ y_ : List ByteArray, y_ = (([a1 ++ t291] : List ByteArray)) := ⟨_, rfl⟩
     replace H : (if y293.length + (l2.drop ((ji5) : Int).toNat).length < 8796093022208 then ((delim_Join.f a0_0 (y293 ++ (l2.drop ((ji5) : Int).toNat))).bind fun t299 => (some t299)) else (none)) = some r := by first | (rw [hy293]; with_reducible exact H) | (have H2_ := (Option.bind_some _ _).symm.trans H; rw [hy293]; with_reducible exact H2_) | (have H2_ := (Option.bind_some _ _).symm.trans H; with_reducible exact H2_) | with_reducible exact H | (rw [hy293]; exact H) | exact H
     have Ny293 := Aside0.mk hy293
     clear hy293
     by_cases c12 : y293.length + (l2.drop ((ji5) : Int).toNat).length < 8796093022208
     ·rw [if_pos c12] at H
      have LMc12 := Aside0.mk c12
      clear c12
      obtain ⟨y296, hy296⟩ : ∃ y_ : List ByteArray, y_ = (y293 ++ (l2.drop ((ji5) : Int).toNat)) := ⟨_, rfl⟩
      replace H : ((delim_Join.f a0_0 y296).bind fun t299 => (some t299)) = some r := by first | (rw [hy296]; with_reducible exact H) | (have H2_ := (Option.bind_some _ _).symm.trans H; rw [hy296]; with_reducible exact H2_) | (have H2_ := (Option.bind_some _ _).symm.trans H; with_reducible exact H2_) | with_reducible exact H | (rw [hy296]; exact H) | exact H
      have Ny296 := Aside0.mk hy296
      clear hy296
      replace H := Option.bind_eq_some_iff.mp H
      obtain ⟨t299, A130, H⟩ := H
      replace H : (some t299) = some r := H
      have A13 := Aside0.mk A130
      clear A130
      obtain rfl := Option.some.inj H
      go_enter Tryd.func33, Tryd.ntmps33
      try go_wp2_with (first | ((with_reducible refine gate_dst (N := 3) rfl ?_); refine box_event ?hg (N := 3) ?hd (cs := #[.int .u8 a0_0, .int .u8 a0_1, .int .u8 a0_2, .int .u8 a0_3, .int .u8 a0_4]) (t := 25) ?hr ?_; (case hd => rfl); (case hg => rfl); (case hr => first | (go_simp; done) | (go_simp; rfl)); intro gb289 hg w14 hbox hb; have n0_ := Aside0.mk (below_step (by repeat (first | (with_reducible first | exact HB.out | apply below_alloc | apply pw_below_drewN | apply below_drew1) | exact HB.out)) hb); have n1_ := Aside0.mk (hbox); have n2_ := Aside0.mk ((by rw [hg]; exact (below_size (by repeat (first | (with_reducible first | exact HB.out | apply below_alloc | apply pw_below_drewN | apply below_drew1) | exact HB.out))) : w.heap.size ≤ gb289)); have n3_ := Aside0.mk ((by rw [hg]; exact (below_size (by repeat (first | (with_reducible first | exact HB.out | apply below_alloc | apply pw_below_drewN | apply below_drew1) | exact HB.out))) : w.heap.size ≤ gb289)); clear HB; have HB := n0_; have BK289 := n1_; have GW289 := n2_; have GE289 := n3_; clear n0_ n1_ n2_ n3_; clear hb hbox hg; obtain ⟨i015, hi015, _, hsz15, _⟩ := info_parts info9; obtain ⟨hcut15, hA15, hC15⟩ := print_take_of (P := Tryd.prog) Value.string (⟨#[]⟩ : ByteArray) 36 9 .i64 Tryd.underlying36 hi015 hsz15 A2 c2 l2 (ji5) (of_decide_eq_true (by first | (with_reducible assumption) | assumption)) (of_decide_eq_true (by first | (with_reducible assumption) | assumption)) HC2.out; have HR290 := Aside0.mk (Kd.C_of_reads (h1 := fun _ => rfl) (hA15 _ (Kd.reads_of_C HR2.out))); have HC290 := Aside0.mk hC15; clear hA15 hC15 hi015 hsz15) | ((with_reducible refine gate_callee (f := 59) rfl ?_); refine goesL_ (some 17) rfl rfl Tryd.func59 (by kernel_rfl) rfl #[.slice A2 (l2.take ((ji5) : Int).toNat).length c2, .string (⟨#[]⟩ : ByteArray)] rfl (by (try simp only [List.map_toArray, List.map_cons, List.map_nil]); first | done | (rw [show (l2.take ((ji5) : Int).toNat).length = (ji5).toNat from (by rw [List.length_take]; have h_ : ((ji5) : Int) ≤ (l2.length : Int) := of_decide_eq_true (by first | (with_reducible assumption) | assumption); omega)] <;> rfl) | (simp only [hji5]; rfl) | rfl | (simp only [List.length_drop, List.length_take]; rfl)) ?_; (with_reducible refine (strings_Join.calls _ _ (l2.take ((ji5) : Int).toNat) (⟨#[]⟩ : ByteArray) t291 _ ?side1 ?side2 A8.out).mono ?_); (case side1 => repeat (first | exact (Kd.C_below HR290.out HB.out) | (with_reducible refine Kd.C_alloc ?_ _) | (with_reducible refine Kd.C_drewN ?_ _) | (with_reducible refine Kd.C_drew ?_))); (case side2 => exact HC290.out); rintro e w16 ⟨rfl, hb⟩; refine ⟨_, rfl, ?_⟩; have n0_ := Aside0.mk (blk_below (g := gb289) (o := .cells #[.int .u8 a0_0, .int .u8 a0_1, .int .u8 a0_2, .int .u8 a0_3, .int .u8 a0_4] 25 (0, 0)) (by (with_reducible repeat (first | refine blk_drewN ?_ _ | refine blk_drew ?_ | refine blk_alloc ?_ _)); exact BK289.out) hb); have n1_ := Aside0.mk (below_step (by repeat (first | (with_reducible first | exact HB.out | apply below_alloc | apply pw_below_drewN | apply below_drew1 | refine below_set ?_ GE289.out) | exact HB.out)) hb); clear BK289; clear HB; have BK289 := n0_; have HB := n1_; clear n0_ n1_; (try clear hb); (try clear hb2); (try clear hk); (try clear hi); obtain ⟨i017, hi017, _, hsz17, _⟩ := info_parts info9; obtain ⟨A17, hcut17, hA17, hC17⟩ := print_drop_of (P := Tryd.prog) Value.string (⟨#[]⟩ : ByteArray) 36 9 .i64 Tryd.underlying36 hi017 hsz17 A2 c2 l2 (ji5) (of_decide_eq_true (by first | (with_reducible assumption) | assumption)) (of_decide_eq_true (by first | (with_reducible assumption) | assumption)) HC2.out; have HR292 := Aside0.mk (Kd.C_of_reads (h1 := fun _ => rfl) (hA17 _ (Kd.reads_of_C HR2.out))); have HC292 := Aside0.mk hC17; clear hA17 hC17 hi017 hsz17))
      have n0_ := Aside0.mk (blk_drew BK289.out)
      have n1_ := Aside0.mk (below_drew1 HB.out)
      clear BK289
      clear HB
      have BK289 := n0_
      have HB := n1_
      clear n0_ n1_
      refine start_ (n := 8) (S := fun w' => w'.cell? ⟨gb289, 0, none⟩ = some (.int .u8 a0_0) ∧ w'.cell? ⟨gb289, 1, none⟩ = some (.int .u8 a0_1) ∧ w'.cell? ⟨gb289, 2, none⟩ = some (.int .u8 a0_2) ∧ w'.cell? ⟨gb289, 3, none⟩ = some (.int .u8 a0_3) ∧ w'.cell? ⟨gb289, 4, none⟩ = some (.int .u8 a0_4)) (ds := []) #[false, false, false, false, false, false, false, false] (by kernel_rfl) rfl rfl ⟨(blk_cell BK289.out 0).trans rfl, (blk_cell BK289.out 1).trans rfl, (blk_cell BK289.out 2).trans rfl, (blk_cell BK289.out 3).trans rfl, (blk_cell BK289.out 4).trans rfl⟩ (fun hHeld => ?_); refine with_tabW segment_Make.tab5 segment_Make.bits5 (fun HT_ HW_ => ?_)
      generalize w16.drew = w18 at BK289 HB hHeld ⊢
      refine pure_ (i := 0) (N := some 22) (v := ?_) (a' := ?_) #[true, false, false, false, false, false, false, false] rfl rfl (any_of HT_.out (by kernel_rfl)) (fun _ _ _ h => h) (Or.inl ⟨by rfl, ?_⟩) ?_ ?_
      rotate_left
      ·intro w'
       go_simp
       with_reducible rfl
      rotate_left
      ·simp only [Act.put, List.setIfInBounds_toArray, List.set_cons_zero, List.set_cons_succ, i64_w, i32_w]
       rfl
      refine pure_ (i := 2) (N := some 24) (v := ?_) (a' := ?_) #[true, false, true, false, false, false, false, false] rfl rfl (any_of HT_.out (by kernel_rfl)) (fun _ _ _ h => h) (Or.inl ⟨by rfl, ?_⟩) ?_ ?_
      rotate_left
      ·intro w'
       go_simp
       with_reducible rfl
      rotate_left
      ·simp only [Act.put, List.setIfInBounds_toArray, List.set_cons_zero, List.set_cons_succ, i64_w, i32_w]
       rfl
      refine pure_ (i := 4) (N := some 26) (v := ?_) (a' := ?_) #[true, false, true, false, true, false, false, false] rfl rfl (any_of HT_.out (by kernel_rfl)) (fun _ _ _ h => h) (Or.inl ⟨by rfl, ?_⟩) ?_ ?_
      rotate_left
      ·intro w'
       go_simp
       with_reducible rfl
      rotate_left
      ·simp only [Act.put, List.setIfInBounds_toArray, List.set_cons_zero, List.set_cons_succ, i64_w, i32_w]
       rfl
      refine take_ (i := 1) (N := some 23) (v := ?_) (a' := ?_) #[true, true, true, false, true, false, false, false] rfl rfl (take_ofW HT_.out HW_.out (by kernel_rfl)) (fun _ _ _ h => h) (Or.inl ⟨by rfl, ?_⟩) hHeld ?_ ?_
      rotate_left
      ·rintro w' ⟨s0, s1, s2, s3, s4⟩
       go_simp
       with_reducible rfl
      rotate_left
      ·simp only [Act.put, List.setIfInBounds_toArray, List.set_cons_zero, List.set_cons_succ, i64_w, i32_w]
       rfl
      refine one_ (i := 3) (N := some 25) #[true, true, true, true, true, false, false, false] rfl rfl (one_of HT_.out (by kernel_rfl)) (by decide) (fun K hK => ?_)
      refine Kd.R_lit_step Kd.string _ 9 ?hg (N := 25) ?hd (xs := ([a1 ++ t291] : List ByteArray)) (inner := [.string (a1 ++ t291)]) (ok := fun _ => True) (okp := fun _ => True) ?hr ?hp (fun _ hk => hk) trivial (Below.refl _ _) (Nat.le_refl _) (by simp) ?_; (case hd => rfl); (case hg => rfl); (case hr => first | (go_simp; done) | (go_simp; rfl)); (case hp => exact (Reps.one (show Kd.M Kd.string _ _ _ (a1 ++ t291) [.string (a1 ++ t291)] from rfl) (Reps.none _ _)))
      intro v294 w19 ho20 hb hg_ hnew_
      clear hg_ hnew_
      (first | rw [← Ny293.out] at ho20 | (simp only [Int.reduceToNat] at ho20; rw [← Ny293.out] at ho20))
      have n0_ := Aside0.mk (Kd.R_lower ho20 (below_size (by repeat (first | (with_reducible first | exact HB.out | apply below_alloc | apply pw_below_drewN | apply below_drew1 | refine below_set ?_ GE289.out) | exact HB.out))))
      have n1_ := Aside0.mk (blk_below (g := gb289) (o := .cells #[.int .u8 a0_0, .int .u8 a0_1, .int .u8 a0_2, .int .u8 a0_3, .int .u8 a0_4] 25 (0, 0)) (by (with_reducible repeat (first | refine blk_drewN ?_ _ | refine blk_drew ?_ | refine blk_alloc ?_ _)); exact BK289.out) hb)
      have n2_ := Aside0.mk (below_step (by repeat (first | (with_reducible first | exact HB.out | apply below_alloc | apply pw_below_drewN | apply below_drew1 | refine below_set ?_ GE289.out) | exact HB.out)) hb)
      clear BK289
      clear HB
      have HO295 := n0_
      have BK289 := n1_
      have HB := n2_
      clear n0_ n1_ n2_
      clear hb ho20
      refine hK.out _ _ ⟨(blk_cell BK289.out 0).trans rfl, (blk_cell BK289.out 1).trans rfl, (blk_cell BK289.out 2).trans rfl, (blk_cell BK289.out 3).trans rfl, (blk_cell BK289.out 4).trans rfl⟩ (fun hHeld => ?_)
      clear hK K
      refine norm_ (a' := ?_) ?_ ?_
      rotate_left
      ·show Act.put _ (some 25) _ = _
       simp only [Act.put, List.setIfInBounds_toArray, List.set_cons_zero, List.set_cons_succ, i64_w, i32_w]
       rfl
      refine one_ (i := 5) (N := some 27) #[true, true, true, true, true, true, false, false] rfl rfl (one_of HT_.out (by kernel_rfl)) (by decide) (fun K hK => ?_)
      refine Kd.R_append_rows_step Kd.string (w0 := w) w.heap.size (by rfl) (.tmp 25) (.tmp 26) 36 9 (.string ⟨#[]⟩) 16 rfl Tryd.underlying36 info9 rfl (by decide) (by omega) v294 y293 (l2.drop ((ji5) : Int).toNat) _ _ _ (fun _ => True) (fun _ => False) rfl rfl ?aO ?aR (fun _ _ h => h) (fun _ h => h.elim) ?aF ?aB ?aS ?aL ?_
      (case aR => first | (rw [← show (l2.drop ((ji5) : Int).toNat).length = (l2.length - (ji5).toNat) from List.length_drop]; repeat (first | exact (Kd.C_below HR292.out HB.out) | (with_reducible refine Kd.C_alloc ?_ _) | (with_reducible refine Kd.C_drewN ?_ _) | (with_reducible refine Kd.C_drew ?_))) | (repeat (first | exact (Kd.C_below HR292.out HB.out) | (with_reducible refine Kd.C_alloc ?_ _) | (with_reducible refine Kd.C_drewN ?_ _) | (with_reducible refine Kd.C_drew ?_))))
      (case aB => exact (by repeat (first | (with_reducible first | exact HB.out | apply below_alloc | apply pw_below_drewN | apply below_drew1 | refine below_set ?_ GE289.out) | exact HB.out)))
      (case aF => exact (fun _ _ => trivial))
      (case aO => exact (by (with_reducible repeat (first | apply Kd.R_alloc | apply Kd.R_drewN | apply Kd.R_drew)); exact HO295.out))
      (case aS => exact (below_size (by repeat (first | (with_reducible first | exact HB.out | apply below_alloc | apply pw_below_drewN | apply below_drew1 | refine below_set ?_ GE289.out) | exact HB.out))))
      (case aL => have := LMc12.out; have hlx_ := (show (l2.drop ((ji5) : Int).toNat).length = (l2.length - (ji5).toNat) from List.length_drop); omega)
      intro v297 w21 ho hb hg hat
      rw [← Ny296.out] at ho
      have n0_ := Aside0.mk (blk_grown (g := gb289) (o := .cells #[.int .u8 a0_0, .int .u8 a0_1, .int .u8 a0_2, .int .u8 a0_3, .int .u8 a0_4] 25 (0, 0)) (by (with_reducible repeat (first | refine blk_drewN ?_ _ | refine blk_drew ?_ | refine blk_alloc ?_ _)); exact BK289.out) hg (Kd.R_ne HO295.out BK289.out (by decide)))
      have n1_ := Aside0.mk (hb)
      have n2_ := Aside0.mk (ho)
      clear BK289
      clear HB
      clear HO295
      have BK289 := n0_
      have HB := n1_
      have HO298 := n2_
      clear n0_ n1_ n2_
      clear ho hb hg hat
      obtain ⟨Ao22, co22, eo22⟩ := Kd.R_slice HO298.out
      (first | subst eo22 | (injection eo22 with f1_ f2_ f3_; have f4_ := f1_.symm; have f5_ := f3_.symm; clear f1_ f2_ f3_; subst f4_; subst f5_))
      refine hK.out _ _ ⟨(blk_cell BK289.out 0).trans rfl, (blk_cell BK289.out 1).trans rfl, (blk_cell BK289.out 2).trans rfl, (blk_cell BK289.out 3).trans rfl, (blk_cell BK289.out 4).trans rfl⟩ (fun hHeld => ?_)
      clear hK K
      refine norm_ (a' := ?_) ?_ ?_
      rotate_left
      ·show Act.put _ (some 27) _ = _
       simp only [Act.put, List.setIfInBounds_toArray, List.set_cons_zero, List.set_cons_succ, i64_w, i32_w]
       rfl
      refine one_ (i := 6) (N := some 28) #[true, true, true, true, true, true, true, false] rfl rfl (one_of HT_.out (by kernel_rfl)) (by decide) (fun K hK => ?_)
      refine goes_ Tryd.func60 (by kernel_rfl) rfl #[.int .u8 a0_0, .slice Ao22 y296.length co22] (by rfl) rfl rfl (by (try simp only [List.map_toArray, List.map_cons, List.map_nil]); first | done | rfl | (simp only [List.length_drop, List.length_take]; rfl)) ?_
      with_reducible refine (delim_Join.calls a0_0 _ _ y296 t299 _ ?side1 ?side2 A13.out).mono ?_
      (case side1 => repeat (first | exact (Kd.R_reads' HO298.out).2.2 | (with_reducible refine Kd.C_alloc ?_ _) | (with_reducible refine Kd.C_drewN ?_ _) | (with_reducible refine Kd.C_drew ?_)))
      (case side2 => exact (Kd.R_reads' HO298.out).2.1)
      rintro e w23 ⟨rfl, hb⟩
      refine ⟨_, rfl, ?_⟩
      have n0_ := Aside0.mk (Kd.R_below (by (with_reducible repeat (first | apply Kd.R_alloc | apply Kd.R_drewN | apply Kd.R_drew)); exact HO298.out) hb)
      have n1_ := Aside0.mk (blk_below (g := gb289) (o := .cells #[.int .u8 a0_0, .int .u8 a0_1, .int .u8 a0_2, .int .u8 a0_3, .int .u8 a0_4] 25 (0, 0)) (by (with_reducible repeat (first | refine blk_drewN ?_ _ | refine blk_drew ?_ | refine blk_alloc ?_ _)); exact BK289.out) hb)
      have n2_ := Aside0.mk (below_step (by repeat (first | (with_reducible first | exact HB.out | apply below_alloc | apply pw_below_drewN | apply below_drew1 | refine below_set ?_ GE289.out) | exact HB.out)) hb)
      clear HO298
      clear BK289
      clear HB
      have HO298 := n0_
      have BK289 := n1_
      have HB := n2_
      clear n0_ n1_ n2_
      (try clear hb)
      (try clear hb2)
      (try clear hk)
      (try clear hi)
      refine hK.out _ _ ⟨(blk_cell BK289.out 0).trans rfl, (blk_cell BK289.out 1).trans rfl, (blk_cell BK289.out 2).trans rfl, (blk_cell BK289.out 3).trans rfl, (blk_cell BK289.out 4).trans rfl⟩ (fun hHeld => ?_)
      clear hK K
      refine norm_ (a' := ?_) ?_ ?_
      rotate_left
      ·show Act.put _ (some 28) _ = _
       simp only [Act.put, List.setIfInBounds_toArray, List.set_cons_zero, List.set_cons_succ, i64_w, i32_w]
       rfl
      refine pure_ (i := 7) (N := some 6) (v := ?_) (a' := ?_) #[true, true, true, true, true, true, true, true] rfl rfl (any_of HT_.out (by kernel_rfl)) (fun _ _ _ h => h) (Or.inl ⟨by rfl, ?_⟩) ?_ ?_
      rotate_left
      ·intro w'
       go_simp
       with_reducible rfl
      rotate_left
      ·simp only [Act.put, List.setIfInBounds_toArray, List.set_cons_zero, List.set_cons_succ, i64_w, i32_w]
       rfl
      refine done_ (done_of HT_.out (by kernel_rfl)) ?_
      try go_wp2
      go_ret
      exact ⟨by first | rfl | (simp [errW_none, errW_some] <;> rfl) | (simp only [← hji5]; first | rfl | (simp [errW_none, errW_some] <;> rfl)) | (simp [*, errW_none, errW_some] <;> rfl), by repeat (first | (with_reducible first | exact HB.out | apply below_alloc | apply pw_below_drewN | apply below_drew1 | refine below_set ?_ GE289.out) | exact HB.out)⟩
     ·rw [if_neg c12] at H
      exact absurd H (by simp)
    ·rw [if_neg c9] at H
     exact absurd H (by simp)
   ·rw [if_neg c7] at H
    exact absurd H (by simp)
  ·rw [if_neg c6] at H
   exact absurd H (by simp)
 ·rw [if_neg c4] at H
  have c4b0 : (a1.toList == ([77, 83, 72] : List UInt8)) = false := beq_eq_false_iff_ne.mpr c4
  have c4b1 : (a1.toList != ([77, 83, 72] : List UInt8)) = true := bne_iff_ne.mpr c4
  obtain ⟨y300, hy300⟩ : ∃ y_ : List ByteArray, y_ = (([a1] : List ByteArray)) := ⟨_, rfl⟩
  replace H : (if y300.length + l2.length < 8796093022208 then ((delim_Join.f a0_0 (y300 ++ l2)).bind fun t306 => (some t306)) else (none)) = some r := by first | (rw [hy300]; with_reducible exact H) | (have H2_ := (Option.bind_some _ _).symm.trans H; rw [hy300]; with_reducible exact H2_) | (have H2_ := (Option.bind_some _ _).symm.trans H; with_reducible exact H2_) | with_reducible exact H | (rw [hy300]; exact H) | exact H
  have Ny300 := Aside0.mk hy300
  clear hy300
  by_cases c24 : y300.length + l2.length < 8796093022208
  ·rw [if_pos c24] at H
   have LMc24 := Aside0.mk c24
   clear c24
   obtain ⟨y303, hy303⟩ : ∃ y_ : List ByteArray, y_ = (y300 ++ l2) := ⟨_, rfl⟩
   replace H : ((delim_Join.f a0_0 y303).bind fun t306 => (some t306)) = some r := by first | (rw [hy303]; with_reducible exact H) | (have H2_ := (Option.bind_some _ _).symm.trans H; rw [hy303]; with_reducible exact H2_) | (have H2_ := (Option.bind_some _ _).symm.trans H; with_reducible exact H2_) | with_reducible exact H | (rw [hy303]; exact H) | exact H
   have Ny303 := Aside0.mk hy303
   clear hy303
   replace H := Option.bind_eq_some_iff.mp H
   obtain ⟨t306, A250, H⟩ := H
   replace H : (some t306) = some r := H
   have A25 := Aside0.mk A250
   clear A250
   obtain rfl := Option.some.inj H
   go_enter Tryd.func33, Tryd.ntmps33
   try go_wp2_with (first | ((with_reducible refine gate_dst (N := 3) rfl ?_); refine box_event ?hg (N := 3) ?hd (cs := #[.int .u8 a0_0, .int .u8 a0_1, .int .u8 a0_2, .int .u8 a0_3, .int .u8 a0_4]) (t := 25) ?hr ?_; (case hd => rfl); (case hg => rfl); (case hr => first | (go_simp; done) | (go_simp; rfl)); intro gb289 hg w26 hbox hb; have n0_ := Aside0.mk (below_step (by repeat (first | (with_reducible first | exact HB.out | apply below_alloc | apply pw_below_drewN | apply below_drew1) | exact HB.out)) hb); have n1_ := Aside0.mk (hbox); have n2_ := Aside0.mk ((by rw [hg]; exact (below_size (by repeat (first | (with_reducible first | exact HB.out | apply below_alloc | apply pw_below_drewN | apply below_drew1) | exact HB.out))) : w.heap.size ≤ gb289)); have n3_ := Aside0.mk ((by rw [hg]; exact (below_size (by repeat (first | (with_reducible first | exact HB.out | apply below_alloc | apply pw_below_drewN | apply below_drew1) | exact HB.out))) : w.heap.size ≤ gb289)); clear HB; have HB := n0_; have BK289 := n1_; have GW289 := n2_; have GE289 := n3_; clear n0_ n1_ n2_ n3_; clear hb hbox hg))
   have n0_ := Aside0.mk (blk_drew BK289.out)
   have n1_ := Aside0.mk (below_drew1 HB.out)
   clear BK289
   clear HB
   have BK289 := n0_
   have HB := n1_
   clear n0_ n1_
   refine start_ (n := 8) (S := fun w' => w'.cell? ⟨gb289, 0, none⟩ = some (.int .u8 a0_0) ∧ w'.cell? ⟨gb289, 1, none⟩ = some (.int .u8 a0_1) ∧ w'.cell? ⟨gb289, 2, none⟩ = some (.int .u8 a0_2) ∧ w'.cell? ⟨gb289, 3, none⟩ = some (.int .u8 a0_3) ∧ w'.cell? ⟨gb289, 4, none⟩ = some (.int .u8 a0_4)) (ds := []) #[false, false, false, false, false, false, false, false] (by kernel_rfl) rfl rfl ⟨(blk_cell BK289.out 0).trans rfl, (blk_cell BK289.out 1).trans rfl, (blk_cell BK289.out 2).trans rfl, (blk_cell BK289.out 3).trans rfl, (blk_cell BK289.out 4).trans rfl⟩ (fun hHeld => ?_); refine with_tabW segment_Make.tab5 segment_Make.bits5 (fun HT_ HW_ => ?_)
   generalize w26.drew = w27 at BK289 HB hHeld ⊢
   refine pure_ (i := 0) (N := some 22) (v := ?_) (a' := ?_) #[true, false, false, false, false, false, false, false] rfl rfl (any_of HT_.out (by kernel_rfl)) (fun _ _ _ h => h) (Or.inl ⟨by rfl, ?_⟩) ?_ ?_
   rotate_left
   ·intro w'
    go_simp
    with_reducible rfl
   rotate_left
   ·simp only [Act.put, List.setIfInBounds_toArray, List.set_cons_zero, List.set_cons_succ, i64_w, i32_w]
    rfl
   refine pure_ (i := 2) (N := some 24) (v := ?_) (a' := ?_) #[true, false, true, false, false, false, false, false] rfl rfl (any_of HT_.out (by kernel_rfl)) (fun _ _ _ h => h) (Or.inl ⟨by rfl, ?_⟩) ?_ ?_
   rotate_left
   ·intro w'
    go_simp
    with_reducible rfl
   rotate_left
   ·simp only [Act.put, List.setIfInBounds_toArray, List.set_cons_zero, List.set_cons_succ, i64_w, i32_w]
    rfl
   refine pure_ (i := 4) (N := some 26) (v := ?_) (a' := ?_) #[true, false, true, false, true, false, false, false] rfl rfl (any_of HT_.out (by kernel_rfl)) (fun _ _ _ h => h) (Or.inl ⟨by rfl, ?_⟩) ?_ ?_
   rotate_left
   ·intro w'
    go_simp
    with_reducible rfl
   rotate_left
   ·simp only [Act.put, List.setIfInBounds_toArray, List.set_cons_zero, List.set_cons_succ, i64_w, i32_w]
    rfl
   refine take_ (i := 1) (N := some 23) (v := ?_) (a' := ?_) #[true, true, true, false, true, false, false, false] rfl rfl (take_ofW HT_.out HW_.out (by kernel_rfl)) (fun _ _ _ h => h) (Or.inl ⟨by rfl, ?_⟩) hHeld ?_ ?_
   rotate_left
   ·rintro w' ⟨s0, s1, s2, s3, s4⟩
    go_simp
    with_reducible rfl
   rotate_left
   ·simp only [Act.put, List.setIfInBounds_toArray, List.set_cons_zero, List.set_cons_succ, i64_w, i32_w]
    rfl
   refine one_ (i := 3) (N := some 25) #[true, true, true, true, true, false, false, false] rfl rfl (one_of HT_.out (by kernel_rfl)) (by decide) (fun K hK => ?_)
   refine Kd.R_lit_step Kd.string _ 9 ?hg (N := 25) ?hd (xs := ([a1] : List ByteArray)) (inner := [.string a1]) (ok := fun _ => True) (okp := fun _ => True) ?hr ?hp (fun _ hk => hk) trivial (Below.refl _ _) (Nat.le_refl _) (by simp) ?_; (case hd => rfl); (case hg => rfl); (case hr => first | (go_simp; done) | (go_simp; rfl)); (case hp => exact (Reps.one (show Kd.M Kd.string _ _ _ a1 [.string a1] from rfl) (Reps.none _ _)))
   intro v301 w28 ho29 hb hg_ hnew_
   clear hg_ hnew_
   (first | rw [← Ny300.out] at ho29 | (simp only [Int.reduceToNat] at ho29; rw [← Ny300.out] at ho29))
   have n0_ := Aside0.mk (Kd.R_lower ho29 (below_size (by repeat (first | (with_reducible first | exact HB.out | apply below_alloc | apply pw_below_drewN | apply below_drew1 | refine below_set ?_ GE289.out) | exact HB.out))))
   have n1_ := Aside0.mk (blk_below (g := gb289) (o := .cells #[.int .u8 a0_0, .int .u8 a0_1, .int .u8 a0_2, .int .u8 a0_3, .int .u8 a0_4] 25 (0, 0)) (by (with_reducible repeat (first | refine blk_drewN ?_ _ | refine blk_drew ?_ | refine blk_alloc ?_ _)); exact BK289.out) hb)
   have n2_ := Aside0.mk (below_step (by repeat (first | (with_reducible first | exact HB.out | apply below_alloc | apply pw_below_drewN | apply below_drew1 | refine below_set ?_ GE289.out) | exact HB.out)) hb)
   clear BK289
   clear HB
   have HO302 := n0_
   have BK289 := n1_
   have HB := n2_
   clear n0_ n1_ n2_
   clear hb ho29
   refine hK.out _ _ ⟨(blk_cell BK289.out 0).trans rfl, (blk_cell BK289.out 1).trans rfl, (blk_cell BK289.out 2).trans rfl, (blk_cell BK289.out 3).trans rfl, (blk_cell BK289.out 4).trans rfl⟩ (fun hHeld => ?_)
   clear hK K
   refine norm_ (a' := ?_) ?_ ?_
   rotate_left
   ·show Act.put _ (some 25) _ = _
    simp only [Act.put, List.setIfInBounds_toArray, List.set_cons_zero, List.set_cons_succ, i64_w, i32_w]
    rfl
   refine one_ (i := 5) (N := some 27) #[true, true, true, true, true, true, false, false] rfl rfl (one_of HT_.out (by kernel_rfl)) (by decide) (fun K hK => ?_)
   refine Kd.R_append_rows_step Kd.string (w0 := w) w.heap.size (by rfl) (.tmp 25) (.tmp 26) 36 9 (.string ⟨#[]⟩) 16 rfl Tryd.underlying36 info9 rfl (by decide) (by omega) v301 y300 l2 _ _ _ (fun _ => True) (fun _ => False) rfl rfl ?aO ?aR (fun _ _ h => h) (fun _ h => h.elim) ?aF ?aB ?aS ?aL ?_
   (case aR => repeat (first | exact (Kd.C_below HR2.out HB.out) | (with_reducible refine Kd.C_alloc ?_ _) | (with_reducible refine Kd.C_drewN ?_ _) | (with_reducible refine Kd.C_drew ?_)))
   (case aB => exact (by repeat (first | (with_reducible first | exact HB.out | apply below_alloc | apply pw_below_drewN | apply below_drew1 | refine below_set ?_ GE289.out) | exact HB.out)))
   (case aF => exact (fun _ _ => trivial))
   (case aO => exact (by (with_reducible repeat (first | apply Kd.R_alloc | apply Kd.R_drewN | apply Kd.R_drew)); exact HO302.out))
   (case aS => exact (below_size (by repeat (first | (with_reducible first | exact HB.out | apply below_alloc | apply pw_below_drewN | apply below_drew1 | refine below_set ?_ GE289.out) | exact HB.out))))
   (case aL => have := LMc24.out; omega)
   intro v304 w30 ho hb hg hat
   rw [← Ny303.out] at ho
   have n0_ := Aside0.mk (blk_grown (g := gb289) (o := .cells #[.int .u8 a0_0, .int .u8 a0_1, .int .u8 a0_2, .int .u8 a0_3, .int .u8 a0_4] 25 (0, 0)) (by (with_reducible repeat (first | refine blk_drewN ?_ _ | refine blk_drew ?_ | refine blk_alloc ?_ _)); exact BK289.out) hg (Kd.R_ne HO302.out BK289.out (by decide)))
   have n1_ := Aside0.mk (hb)
   have n2_ := Aside0.mk (ho)
   clear BK289
   clear HB
   clear HO302
   have BK289 := n0_
   have HB := n1_
   have HO305 := n2_
   clear n0_ n1_ n2_
   clear ho hb hg hat
   obtain ⟨Ao31, co31, eo31⟩ := Kd.R_slice HO305.out
   (first | subst eo31 | (injection eo31 with f1_ f2_ f3_; have f4_ := f1_.symm; have f5_ := f3_.symm; clear f1_ f2_ f3_; subst f4_; subst f5_))
   refine hK.out _ _ ⟨(blk_cell BK289.out 0).trans rfl, (blk_cell BK289.out 1).trans rfl, (blk_cell BK289.out 2).trans rfl, (blk_cell BK289.out 3).trans rfl, (blk_cell BK289.out 4).trans rfl⟩ (fun hHeld => ?_)
   clear hK K
   refine norm_ (a' := ?_) ?_ ?_
   rotate_left
   ·show Act.put _ (some 27) _ = _
    simp only [Act.put, List.setIfInBounds_toArray, List.set_cons_zero, List.set_cons_succ, i64_w, i32_w]
    rfl
   refine one_ (i := 6) (N := some 28) #[true, true, true, true, true, true, true, false] rfl rfl (one_of HT_.out (by kernel_rfl)) (by decide) (fun K hK => ?_)
   refine goes_ Tryd.func60 (by kernel_rfl) rfl #[.int .u8 a0_0, .slice Ao31 y303.length co31] (by rfl) rfl rfl (by (try simp only [List.map_toArray, List.map_cons, List.map_nil]); first | done | rfl | (simp only [List.length_drop, List.length_take]; rfl)) ?_
   with_reducible refine (delim_Join.calls a0_0 _ _ y303 t306 _ ?side1 ?side2 A25.out).mono ?_
   (case side1 => repeat (first | exact (Kd.R_reads' HO305.out).2.2 | (with_reducible refine Kd.C_alloc ?_ _) | (with_reducible refine Kd.C_drewN ?_ _) | (with_reducible refine Kd.C_drew ?_)))
   (case side2 => exact (Kd.R_reads' HO305.out).2.1)
   rintro e w32 ⟨rfl, hb⟩
   refine ⟨_, rfl, ?_⟩
   have n0_ := Aside0.mk (Kd.R_below (by (with_reducible repeat (first | apply Kd.R_alloc | apply Kd.R_drewN | apply Kd.R_drew)); exact HO305.out) hb)
   have n1_ := Aside0.mk (blk_below (g := gb289) (o := .cells #[.int .u8 a0_0, .int .u8 a0_1, .int .u8 a0_2, .int .u8 a0_3, .int .u8 a0_4] 25 (0, 0)) (by (with_reducible repeat (first | refine blk_drewN ?_ _ | refine blk_drew ?_ | refine blk_alloc ?_ _)); exact BK289.out) hb)
   have n2_ := Aside0.mk (below_step (by repeat (first | (with_reducible first | exact HB.out | apply below_alloc | apply pw_below_drewN | apply below_drew1 | refine below_set ?_ GE289.out) | exact HB.out)) hb)
   clear HO305
   clear BK289
   clear HB
   have HO305 := n0_
   have BK289 := n1_
   have HB := n2_
   clear n0_ n1_ n2_
   (try clear hb)
   (try clear hb2)
   (try clear hk)
   (try clear hi)
   refine hK.out _ _ ⟨(blk_cell BK289.out 0).trans rfl, (blk_cell BK289.out 1).trans rfl, (blk_cell BK289.out 2).trans rfl, (blk_cell BK289.out 3).trans rfl, (blk_cell BK289.out 4).trans rfl⟩ (fun hHeld => ?_)
   clear hK K
   refine norm_ (a' := ?_) ?_ ?_
   rotate_left
   ·show Act.put _ (some 28) _ = _
    simp only [Act.put, List.setIfInBounds_toArray, List.set_cons_zero, List.set_cons_succ, i64_w, i32_w]
    rfl
   refine pure_ (i := 7) (N := some 6) (v := ?_) (a' := ?_) #[true, true, true, true, true, true, true, true] rfl rfl (any_of HT_.out (by kernel_rfl)) (fun _ _ _ h => h) (Or.inl ⟨by rfl, ?_⟩) ?_ ?_
   rotate_left
   ·intro w'
    go_simp
    with_reducible rfl
   rotate_left
   ·simp only [Act.put, List.setIfInBounds_toArray, List.set_cons_zero, List.set_cons_succ, i64_w, i32_w]
    rfl
   refine done_ (done_of HT_.out (by kernel_rfl)) ?_
   try go_wp2
   go_ret
   exact ⟨by first | rfl | (simp [errW_none, errW_some] <;> rfl) | (simp [*, errW_none, errW_some] <;> rfl), by repeat (first | (with_reducible first | exact HB.out | apply below_alloc | apply pw_below_drewN | apply below_drew1 | refine below_set ?_ GE289.out) | exact HB.out)⟩
  ·rw [if_neg c24] at H
   exact absurd H (by simp)

end Go.Proofs.YtbkalgkjkcfplaaDoor.PM
