-- Written by a program of this work (the kit's print, with contracts of this work's own taken in) out of the translation. Not trusted: Lean checks it.
import Derived.Test.YteaehlkpghpnkaaDoorPHx0
import Derived.Test.YteaehlkpghpnkaaDoorPHx3
namespace Go.Proofs.YteaehlkpghpnkaaDoor.PH
open Go.RowKit Go.Proofs.YteaehlkpghpnkaaDoorW.PrintWords Go.Proofs.YteaehlkpghpnkaaDoorW.PrintLast Go.Proofs.YteaehlkpghpnkaaDoorW.PrintMore
set_option maxHeartbeats 8000000
set_option maxRecDepth 100000
attribute [local go_sem] max2_int min2_int max_two min_two max_three min_three max_four min_four   -- for this text's walks alone
set_option linter.unusedVariables false
set_option linter.unusedSimpArgs false

/-! ### strings_Index: function 32 -/
def strings_Index.f (a0 : ByteArray) (a1 : ByteArray) : Option (Int) := (stringslite_Index.f a0 a1).bind fun t168 => (some t168)
theorem strings_Index.calls (a0 : ByteArray) (a1 : ByteArray) (r : Int) (w : World) (h : strings_Index.f a0 a1 = some r) :
  Calls Tryd.prog 32 #[.string a0, .string a1] w fun e w' => e = .returned (.int .i64 r) ∧ Drawn0 w w' := by
 have H : ((stringslite_Index.f a0 a1).bind fun t168 => (some t168)) = some r := h
 clear h
 replace H := Option.bind_eq_some_iff.mp H
 obtain ⟨t168, A30, H⟩ := H
 replace H : (some t168) = some r := H
 have A3 := Aside0.mk A30
 clear A30
 obtain rfl := Option.some.inj H
 go_enter Tryd.func32, Tryd.ntmps32
 go_wp2_with (first | ((with_reducible refine gate_callee (f := 41) rfl ?_); refine goesL_ (some 7) rfl rfl Tryd.func41 (by kernel_rfl) rfl #[.string a0, .string a1] rfl (by (try simp only [List.map_toArray, List.map_cons, List.map_nil]); first | done | rfl | (simp only [List.length_drop, List.length_take]; rfl)) ?_; (with_reducible refine (stringslite_Index.calls a0 a1 t168 _ A3.out).mono ?_); rintro e w' ⟨rfl, ⟨nd, rfl⟩⟩; refine ⟨_, rfl, ?_⟩))
 go_ret
 exact ⟨by first | rfl | (simp; done) | (simp [*]; done), by repeat (first | exact Drawn0.refl _ | apply Drawn0.step)⟩

/-! ### strings_Contains: function 12 -/
def strings_Contains.f (a0 : ByteArray) (a1 : ByteArray) : Option (Bool) := (strings_Index.f a0 a1).bind fun t169 => (some (decide (t169 ≥ 0)))
theorem strings_Contains.calls (a0 : ByteArray) (a1 : ByteArray) (r : Bool) (w : World) (h : strings_Contains.f a0 a1 = some r) :
  Calls Tryd.prog 12 #[.string a0, .string a1] w fun e w' => e = .returned (.bool r) ∧ Drawn0 w w' := by
 have H : ((strings_Index.f a0 a1).bind fun t169 => (some (decide (t169 ≥ 0)))) = some r := h
 clear h
 replace H := Option.bind_eq_some_iff.mp H
 obtain ⟨t169, A30, H⟩ := H
 replace H : (some (decide (t169 ≥ 0))) = some r := H
 have A3 := Aside0.mk A30
 clear A30
 obtain rfl := Option.some.inj H
 go_enter Tryd.func12, Tryd.ntmps12
 go_wp2_with (first | ((with_reducible refine gate_callee (f := 32) rfl ?_); refine goesL_ (some 7) rfl rfl Tryd.func32 (by kernel_rfl) rfl #[.string a0, .string a1] rfl (by (try simp only [List.map_toArray, List.map_cons, List.map_nil]); first | done | rfl | (simp only [List.length_drop, List.length_take]; rfl)) ?_; (with_reducible refine (strings_Index.calls a0 a1 t169 _ A3.out).mono ?_); rintro e w' ⟨rfl, ⟨nd, rfl⟩⟩; refine ⟨_, rfl, ?_⟩))
 go_ret
 exact ⟨by first | rfl | (simp; done) | (simp [*]; done), by repeat (first | exact Drawn0.refl _ | apply Drawn0.step)⟩

-- NOT PRINTED: function 63 (abi_NoEscape)

-- NOT PRINTED: function 56 (strings_Builder_copyCheck)

-- NOT PRINTED: function 64 (bytealg_MakeNoZero)

-- NOT PRINTED: function 57 (strings_Builder_grow)

-- NOT PRINTED: function 42 (strings_Builder_Grow)

-- NOT PRINTED: function 43 (strings_Builder_WriteString)

-- NOT PRINTED: function 44 (strings_Builder_String)

/-! ### strings_Join: function 33 -/
def strings_Join.f (l0 : List ByteArray) (a1 : ByteArray) : Option (ByteArray) := if l0.length ≤ 140737488355328 ∧ (Lib.join (l0.map (·.data.toList)) a1.data.toList).length ≤ 140737488355328 then some ⟨(Lib.join (l0.map (·.data.toList)) a1.data.toList).toArray⟩ else none
theorem strings_Join.calls (A0 : Option Addr) (c0 : Nat) (l0 : List ByteArray) (a1 : ByteArray) (r : ByteArray) (w : World) (hr0 : Kd.C Kd.string w A0 l0.length l0) (hc0 : l0.length ≤ c0) (h : strings_Join.f l0 a1 = some r) :
  Calls Tryd.prog 33 #[.slice A0 l0.length c0, .string a1] w fun e w' => e = .returned (.string r) ∧ Below w.heap.size w w' := by
 unfold strings_Join.f at h
 split at h
 ·rename_i hb
  obtain rfl := Option.some.inj h
  cases hl : l0 with
  | nil =>
   refine (Tryd.strings_Join_none A0 c0 a1 w).mono ?_
   rintro e w' ⟨rfl, rfl⟩
   exact ⟨by simp [Lib.join], Below.refl _ _⟩
  | cons x t =>
   rw [hl] at hr0 hc0 hb
   have hcell : ∀ j : Nat, j < (x :: t).length → ∃ ad, A0 = some ad ∧ w.cell? (ad.add j) = some (.string (rdOf ByteArray.empty (x :: t) j)) := fun j hj => by
    obtain ⟨ad, e, hc⟩ := Kd.at_string hr0 (j : Int) (by omega) (by omega)
    exact ⟨ad, e, by simpa using hc⟩
   obtain ⟨ad, rfl, hc⟩ := hcell 0 (by simp)
   obtain ⟨b, o, sp⟩ := ad
   have hsp : sp = none := by
    cases sp with
    | none => rfl
    | some s =>
     exfalso
     have h0 : (⟨b, o, some s⟩ : Addr).add 0 = ⟨b, o, some s⟩ := by simp [Addr.add]
     rw [h0] at hc
     unfold World.cell? at hc
     split at hc
     ·simp at hc
     ·cases hc
   subst hsp
   refine Tryd.strings_Join b o c0 (x :: t) a1 w (fun j y hy => ?_) ?_ hb.1 hc0 hb.2
   ·obtain ⟨hj, hy2⟩ := List.getElem?_eq_some_iff.1 hy
    obtain ⟨ad, e, hc2⟩ := hcell j hj
    cases e
    have ha : (⟨b, o, none⟩ : Addr).add j = ⟨b, o + j, none⟩ := by unfold Addr.add; split <;> simp_all
    rw [ha] at hc2
    rw [hc2, ← hy2]
    simp [rdOf, List.getElem?_eq_getElem hj]
   ·have h0 : (⟨b, o, none⟩ : Addr).add 0 = ⟨b, o, none⟩ := by simp [Addr.add]
    rw [h0] at hc
    exact World.block_lt_of_cell? w ⟨b, o, none⟩ hc
 ·cases h


/-! ### delim_Join: function 34 -/
def delim_Join.f (a0 : Int) (l1 : List ByteArray) : Option (ByteArray) := (strings_Join.f l1 (strOfNums (([a0] : List Int)))).bind fun t173 => (some t173)
theorem delim_Join.calls (a0 : Int) (A1 : Option Addr) (c1 : Nat) (l1 : List ByteArray) (r : ByteArray) (w : World) (hr1 : Kd.C Kd.string w A1 l1.length l1) (hc1 : l1.length ≤ c1) (h : delim_Join.f a0 l1 = some r) :
  Calls Tryd.prog 34 #[.int .u8 a0, .slice A1 l1.length c1] w fun e w' => e = .returned (.string r) ∧ Below w.heap.size w w' := by
 have HR1 := Aside0.mk hr1
 have HC1 := Aside0.mk hc1
 clear hr1 hc1
 have HB := Aside0.mk (Below.refl w.heap.size w)
 have H : ((strings_Join.f l1 (strOfNums (([a0] : List Int)))).bind fun t173 => (some t173)) = some r := h
 clear h
 obtain ⟨y170, hy170⟩ : ∃ y_ : List Int, y_ = (([a0] : List Int)) := ⟨_, rfl⟩
 replace H : ((strings_Join.f l1 (strOfNums y170)).bind fun t173 => (some t173)) = some r := by first | (rw [hy170]; with_reducible exact H) | (have H2_ := (Option.bind_some _ _).symm.trans H; rw [hy170]; with_reducible exact H2_) | (have H2_ := (Option.bind_some _ _).symm.trans H; with_reducible exact H2_) | with_reducible exact H | (rw [hy170]; exact H) | exact H
 have Ny170 := Aside0.mk hy170
 clear hy170
 replace H := Option.bind_eq_some_iff.mp H
 obtain ⟨t173, A30, H⟩ := H
 replace H : (some t173) = some r := H
 have A3 := Aside0.mk A30
 clear A30
 obtain rfl := Option.some.inj H
 go_enter Tryd.func34, Tryd.ntmps34
 go_wp2_with (first | ((with_reducible refine gate_dst (N := 7) rfl ?_); refine Kd.R_lit (Kd.int .u8) _ 5 ?hg (N := 7) ?hd (xs := ([a0] : List Int)) (inner := [.int .u8 a0]) (ok := fun _ => True) (okp := fun _ => True) ?hr ?hp (fun _ hk => hk) trivial (Below.refl _ _) (Nat.le_refl _) (by simp) ?_; (case hd => rfl); (case hg => rfl); (case hr => first | (go_simp; done) | (go_simp; rfl)); (case hp => exact (Reps.one (show Kd.M (Kd.int .u8) _ _ _ a0 [.int .u8 a0] from rfl) (Reps.none _ _))); intro v171 w4 ho5 hb hg_ hnew_; clear hg_ hnew_; (first | rw [← Ny170.out] at ho5 | (simp only [Int.reduceToNat] at ho5; rw [← Ny170.out] at ho5)); have n0_ := Aside0.mk (Kd.R_lower ho5 (below_size (by repeat (first | (with_reducible first | exact HB.out | apply bA | apply bN | apply bD) | exact HB.out)))); have n1_ := Aside0.mk (below_step (by repeat (first | (with_reducible first | exact HB.out | apply bA | apply bN | apply bD) | exact HB.out)) hb); clear HB; have HO172 := n0_; have HB := n1_; clear n0_ n1_; clear hb ho5; have hcv6 := own_string (P := Tryd.prog) Tryd.underlying34 Tryd.underlying5 Tryd.underlying9 (Kd.own_of_R HO172.out)) | ((with_reducible refine gate_callee (f := 33) rfl ?_); refine goesL_ (some 9) rfl rfl Tryd.func33 (by kernel_rfl) rfl #[.slice A1 l1.length c1, .string (strOfNums y170)] rfl (by (try simp only [List.map_toArray, List.map_cons, List.map_nil]); first | done | rfl | (simp only [List.length_drop, List.length_take]; rfl)) ?_; (with_reducible refine (strings_Join.calls _ _ l1 (strOfNums y170) t173 _ ?side1 ?side2 A3.out).mono ?_); (case side1 => repeat (first | exact (Kd.C_below HR1.out HB.out) | (with_reducible refine Kd.C_alloc ?_ _) | (with_reducible refine Kd.C_drewN ?_ _) | (with_reducible refine Kd.C_drew ?_))); (case side2 => exact HC1.out); rintro e w7 ⟨rfl, hb⟩; refine ⟨_, rfl, ?_⟩; have n0_ := Aside0.mk (Kd.R_below (by (with_reducible repeat (first | apply Kd.R_alloc | apply Kd.R_drewN | apply Kd.R_drew)); exact HO172.out) hb); have n1_ := Aside0.mk (below_step (by repeat (first | (with_reducible first | exact HB.out | apply bA | apply bN | apply bD) | exact HB.out)) hb); clear HO172; clear HB; have HO172 := n0_; have HB := n1_; clear n0_ n1_; (try clear hb)))
 go_ret
 exact ⟨by first | rfl | (simp [errW_none, errW_some] <;> rfl) | (simp [*, errW_none, errW_some] <;> rfl), by repeat (first | (with_reducible first | exact HB.out | apply bA | apply bN | apply bD) | exact HB.out)⟩

/-! ### segment_Make: function 13 -/
def segment_Make.f (a0_0 : Int) (a0_1 : Int) (a0_2 : Int) (a0_3 : Int) (a0_4 : Int) (a1 : ByteArray) (l2 : List ByteArray) : Option (ByteArray) := if a1.toList = ([77, 83, 72] : List UInt8) then (if 0 ≤ (mn (l2.length : Int) 2) then (if (mn (l2.length : Int) 2) ≤ (l2.length : Int) then ((strings_Join.f (l2.take ((mn (l2.length : Int) 2) : Int).toNat) (⟨#[]⟩ : ByteArray)).bind fun t176 => (if a1.size + t176.size ≤ 9223372036854775807 then ((some (([a1 ++ t176] : List ByteArray) : List ByteArray)).bind fun y178 => (if y178.length + (l2.drop ((mn (l2.length : Int) 2) : Int).toNat).length < 8796093022208 then ((delim_Join.f a0_0 (y178 ++ (l2.drop ((mn (l2.length : Int) 2) : Int).toNat))).bind fun t184 => (some t184)) else (none))) else (none))) else (none)) else (none)) else ((some (([a1] : List ByteArray) : List ByteArray)).bind fun y185 => (if y185.length + l2.length < 8796093022208 then ((delim_Join.f a0_0 (y185 ++ l2)).bind fun t191 => (some t191)) else (none)))
def segment_Make.T5 : Bool × List (List Nat × List Nat) := (true, [([], []), ([0], [0]), ([], []), ([2], [2]), ([], []), ([3, 4], [3, 4]), ([1, 5, 5], [1, 5]), ([6, 6, 0, 1, 2, 3, 4, 5, 6], [6])])
def segment_Make.B5 : List Nat := [0, 1, 0, 4, 0, 28, 63, 127]
theorem segment_Make.tab5 : rtab .any (opsOf Tryd.f13 5) = segment_Make.T5 := by kernel_rfl
theorem segment_Make.bits5 : waitsOk segment_Make.T5.2 segment_Make.B5 = true := by kernel_rfl
theorem segment_Make.calls (a0_0 : Int) (a0_1 : Int) (a0_2 : Int) (a0_3 : Int) (a0_4 : Int) (a1 : ByteArray) (A2 : Option Addr) (c2 : Nat) (l2 : List ByteArray) (r : ByteArray) (w : World) (hr2 : Kd.C Kd.string w A2 l2.length l2) (hc2 : l2.length ≤ c2) (h : segment_Make.f a0_0 a0_1 a0_2 a0_3 a0_4 a1 l2 = some r) :
  Calls Tryd.prog 13 #[.agg #[.int .u8 a0_0, .int .u8 a0_1, .int .u8 a0_2, .int .u8 a0_3, .int .u8 a0_4], .string a1, .slice A2 l2.length c2] w fun e w' => e = .returned (.string r) ∧ Below w.heap.size w w' := by
 have hu23 := Tryd.underlying23
 have HR2 := Aside0.mk hr2
 have HC2 := Aside0.mk hc2
 clear hr2 hc2
 have HB := Aside0.mk (Below.refl w.heap.size w)
 have H : (if a1.toList = ([77, 83, 72] : List UInt8) then (if 0 ≤ (mn (l2.length : Int) 2) then (if (mn (l2.length : Int) 2) ≤ (l2.length : Int) then ((strings_Join.f (l2.take ((mn (l2.length : Int) 2) : Int).toNat) (⟨#[]⟩ : ByteArray)).bind fun t176 => (if a1.size + t176.size ≤ 9223372036854775807 then ((some (([a1 ++ t176] : List ByteArray) : List ByteArray)).bind fun y178 => (if y178.length + (l2.drop ((mn (l2.length : Int) 2) : Int).toNat).length < 8796093022208 then ((delim_Join.f a0_0 (y178 ++ (l2.drop ((mn (l2.length : Int) 2) : Int).toNat))).bind fun t184 => (some t184)) else (none))) else (none))) else (none)) else (none)) else ((some (([a1] : List ByteArray) : List ByteArray)).bind fun y185 => (if y185.length + l2.length < 8796093022208 then ((delim_Join.f a0_0 (y185 ++ l2)).bind fun t191 => (some t191)) else (none)))) = some r := h
 clear h
 by_cases c4 : a1.toList = ([77, 83, 72] : List UInt8)
 ·rw [if_pos c4] at H
  have c4b0 : (a1.toList == ([77, 83, 72] : List UInt8)) = true := beq_iff_eq.mpr c4
  have c4b1 : (a1.toList != ([77, 83, 72] : List UInt8)) = false := bne_eq_false_iff_eq.mpr c4
  clear c4
  obtain ⟨ji5, hji5⟩ : ∃ j_ : Int, (mn (l2.length : Int) 2) = j_ := ⟨_, rfl⟩
  replace H : (if 0 ≤ (ji5) then (if (ji5) ≤ (l2.length : Int) then ((strings_Join.f (l2.take ((ji5) : Int).toNat) (⟨#[]⟩ : ByteArray)).bind fun t176 => (if a1.size + t176.size ≤ 9223372036854775807 then ((some (([a1 ++ t176] : List ByteArray) : List ByteArray)).bind fun y178 => (if y178.length + (l2.drop ((ji5) : Int).toNat).length < 8796093022208 then ((delim_Join.f a0_0 (y178 ++ (l2.drop ((ji5) : Int).toNat))).bind fun t184 => (some t184)) else (none))) else (none))) else (none)) else (none)) = some r := by first | (rw [hji5] at H; exact H) | (simp only [hji5] at H ⊢; exact H)
  (try (have hji5h : ji5 ≤ 2 := by (rw [← hji5]; unfold mn; (repeat' split) <;> omega)))
  (try (have hji5g : ji5 ≤ 64 := by omega))
  (try (have hji5l : 0 ≤ ji5 := by (rw [← hji5]; unfold mn; (repeat' split) <;> omega)))
  (try (have hji5m : 0 ≤ ji5 := by omega))
  have hji5_ : (if 2 < (l2.length : Int) then 2 else (l2.length : Int)) = ji5 := hji5
  by_cases c6 : 0 ≤ (ji5)
  ·rw [if_pos c6] at H
   have c6b0 := eq_true c6
   have c6b1 : decide (0 ≤ (ji5)) = true := decide_eq_true c6
   clear c6
   by_cases c7 : (ji5) ≤ (l2.length : Int)
   ·rw [if_pos c7] at H
    have c7b0 := eq_true c7
    have c7b1 : decide ((ji5) ≤ (l2.length : Int)) = true := decide_eq_true c7
    clear c7
    replace H := Option.bind_eq_some_iff.mp H
    obtain ⟨t176, A80, H⟩ := H
    replace H : (if a1.size + t176.size ≤ 9223372036854775807 then ((some (([a1 ++ t176] : List ByteArray) : List ByteArray)).bind fun y178 => (if y178.length + (l2.drop ((ji5) : Int).toNat).length < 8796093022208 then ((delim_Join.f a0_0 (y178 ++ (l2.drop ((ji5) : Int).toNat))).bind fun t184 => (some t184)) else (none))) else (none)) = some r := H
    have A8 := Aside0.mk A80
    clear A80
    by_cases c9 : a1.size + t176.size ≤ 9223372036854775807
    ·rw [if_pos c9] at H
     have c9b0 := eq_true c9
     have c9b1 : decide (a1.size + t176.size ≤ 9223372036854775807) = true := decide_eq_true c9
     try have c9b2 : (9223372036854775807 < a1.size + t176.size) = False := eq_false (Nat.not_lt.2 c9)
     try (have c9b4 := c9b2; simp only [ByteArray.size_append] at c9b4)
     have c10b0 := eq_true (of_decide_eq_true (by first | (with_reducible assumption) | assumption) : 0 ≤ (ji5))
     have c11b0 := eq_true (of_decide_eq_true (by first | (with_reducible assumption) | assumption) : (ji5) ≤ (l2.length : Int))
     obtain ⟨y178, hy178⟩ : ∃ y_ : List ByteArray, y_ = (([a1 ++ t176] : List ByteArray)) := ⟨_, rfl⟩
     replace H : (if y178.length + (l2.drop ((ji5) : Int).toNat).length < 8796093022208 then ((delim_Join.f a0_0 (y178 ++ (l2.drop ((ji5) : Int).toNat))).bind fun t184 => (some t184)) else (none)) = some r := by first | (rw [hy178]; with_reducible exact H) | (have H2_ := (Option.bind_some _ _).symm.trans H; rw [hy178]; with_reducible exact H2_) | (have H2_ := (Option.bind_some _ _).symm.trans H; with_reducible exact H2_) | with_reducible exact H | (rw [hy178]; exact H) | exact H
     have Ny178 := Aside0.mk hy178
     clear hy178
     by_cases c12 : y178.length + (l2.drop ((ji5) : Int).toNat).length < 8796093022208
     ·rw [if_pos c12] at H
      have LMc12 := Aside0.mk c12
      clear c12
      obtain ⟨y181, hy181⟩ : ∃ y_ : List ByteArray, y_ = (y178 ++ (l2.drop ((ji5) : Int).toNat)) := ⟨_, rfl⟩
      replace H : ((delim_Join.f a0_0 y181).bind fun t184 => (some t184)) = some r := by first | (rw [hy181]; with_reducible exact H) | (have H2_ := (Option.bind_some _ _).symm.trans H; rw [hy181]; with_reducible exact H2_) | (have H2_ := (Option.bind_some _ _).symm.trans H; with_reducible exact H2_) | with_reducible exact H | (rw [hy181]; exact H) | exact H
      have Ny181 := Aside0.mk hy181
      clear hy181
      replace H := Option.bind_eq_some_iff.mp H
      obtain ⟨t184, A130, H⟩ := H
      replace H : (some t184) = some r := H
      have A13 := Aside0.mk A130
      clear A130
      obtain rfl := Option.some.inj H
      go_enter Tryd.func13, Tryd.ntmps13
      try go_wp2_with (first | ((with_reducible refine gate_dst (N := 3) rfl ?_); refine box_event ?hg (N := 3) ?hd (cs := #[.int .u8 a0_0, .int .u8 a0_1, .int .u8 a0_2, .int .u8 a0_3, .int .u8 a0_4]) (t := 23) ?hr ?_; (case hd => rfl); (case hg => rfl); (case hr => first | (go_simp; done) | (go_simp; rfl)); intro gb174 hg w14 hbox hb; have n0_ := Aside0.mk (below_step (by repeat (first | (with_reducible first | exact HB.out | apply bA | apply bN | apply bD) | exact HB.out)) hb); have n1_ := Aside0.mk (hbox); have n2_ := Aside0.mk ((by rw [hg]; exact (below_size (by repeat (first | (with_reducible first | exact HB.out | apply bA | apply bN | apply bD) | exact HB.out))) : w.heap.size ≤ gb174)); have n3_ := Aside0.mk ((by rw [hg]; exact (below_size (by repeat (first | (with_reducible first | exact HB.out | apply bA | apply bN | apply bD) | exact HB.out))) : w.heap.size ≤ gb174)); clear HB; have HB := n0_; have BK174 := n1_; have GW174 := n2_; have GE174 := n3_; clear n0_ n1_ n2_ n3_; clear hb hbox hg; obtain ⟨i015, hi015, _, hsz15, _⟩ := info_parts info9; obtain ⟨hcut15, hA15, hC15⟩ := print_take_of (P := Tryd.prog) Value.string (⟨#[]⟩ : ByteArray) 41 9 .i64 Tryd.underlying41 hi015 hsz15 A2 c2 l2 (ji5) (of_decide_eq_true (by first | (with_reducible assumption) | assumption)) (of_decide_eq_true (by first | (with_reducible assumption) | assumption)) HC2.out; have HR175 := Aside0.mk (Kd.C_of_reads (h1 := fun _ => rfl) (hA15 _ (Kd.reads_of_C HR2.out))); have HC175 := Aside0.mk hC15; clear hA15 hC15 hi015 hsz15) | ((with_reducible refine gate_callee (f := 33) rfl ?_); refine goesL_ (some 17) rfl rfl Tryd.func33 (by kernel_rfl) rfl #[.slice A2 (l2.take ((ji5) : Int).toNat).length c2, .string (⟨#[]⟩ : ByteArray)] rfl (by (try simp only [List.map_toArray, List.map_cons, List.map_nil]); first | done | (rw [show (l2.take ((ji5) : Int).toNat).length = (ji5).toNat from (by rw [List.length_take]; have h_ : ((ji5) : Int) ≤ (l2.length : Int) := of_decide_eq_true (by first | (with_reducible assumption) | assumption); omega)] <;> rfl) | (simp only [hji5]; rfl) | rfl | (simp only [List.length_drop, List.length_take]; rfl)) ?_; (with_reducible refine (strings_Join.calls _ _ (l2.take ((ji5) : Int).toNat) (⟨#[]⟩ : ByteArray) t176 _ ?side1 ?side2 A8.out).mono ?_); (case side1 => repeat (first | exact (Kd.C_below HR175.out HB.out) | (with_reducible refine Kd.C_alloc ?_ _) | (with_reducible refine Kd.C_drewN ?_ _) | (with_reducible refine Kd.C_drew ?_))); (case side2 => exact HC175.out); rintro e w16 ⟨rfl, hb⟩; refine ⟨_, rfl, ?_⟩; have n0_ := Aside0.mk (blk_below (g := gb174) (o := .cells #[.int .u8 a0_0, .int .u8 a0_1, .int .u8 a0_2, .int .u8 a0_3, .int .u8 a0_4] 23 (0, 0)) (by (with_reducible repeat (first | refine kN ?_ _ | refine kD ?_ | refine kA ?_ _)); exact BK174.out) hb); have n1_ := Aside0.mk (below_step (by repeat (first | (with_reducible first | exact HB.out | apply bA | apply bN | apply bD | refine below_set ?_ GE174.out) | exact HB.out)) hb); clear BK174; clear HB; have BK174 := n0_; have HB := n1_; clear n0_ n1_; (try clear hb); obtain ⟨i017, hi017, _, hsz17, _⟩ := info_parts info9; obtain ⟨A17, hcut17, hA17, hC17⟩ := print_drop_of (P := Tryd.prog) Value.string (⟨#[]⟩ : ByteArray) 41 9 .i64 Tryd.underlying41 hi017 hsz17 A2 c2 l2 (ji5) (of_decide_eq_true (by first | (with_reducible assumption) | assumption)) (of_decide_eq_true (by first | (with_reducible assumption) | assumption)) HC2.out; have HR177 := Aside0.mk (Kd.C_of_reads (h1 := fun _ => rfl) (hA17 _ (Kd.reads_of_C HR2.out))); have HC177 := Aside0.mk hC17; clear hA17 hC17 hi017 hsz17))
      have n0_ := Aside0.mk (blk_drew BK174.out)
      have n1_ := Aside0.mk (below_drew1 HB.out)
      clear BK174
      clear HB
      have BK174 := n0_
      have HB := n1_
      clear n0_ n1_
      refine start_ (n := 8) (S := fun w' => w'.cell? ⟨gb174, 0, none⟩ = some (.int .u8 a0_0) ∧ w'.cell? ⟨gb174, 1, none⟩ = some (.int .u8 a0_1) ∧ w'.cell? ⟨gb174, 2, none⟩ = some (.int .u8 a0_2) ∧ w'.cell? ⟨gb174, 3, none⟩ = some (.int .u8 a0_3) ∧ w'.cell? ⟨gb174, 4, none⟩ = some (.int .u8 a0_4)) (ds := []) #[false, false, false, false, false, false, false, false] (by kernel_rfl) rfl rfl ⟨blk_cell BK174.out 0, blk_cell BK174.out 1, blk_cell BK174.out 2, blk_cell BK174.out 3, blk_cell BK174.out 4⟩ (fun hHeld => ?_); refine with_tabW segment_Make.tab5 segment_Make.bits5 (fun HT_ HW_ => ?_)
      generalize w16.drew = w18 at BK174 HB hHeld ⊢
      refine pure_ (i := 0) (N := some 22) (v := ?_) (a' := ?_) #[true, false, false, false, false, false, false, false] rfl rfl (any_of HT_.out (by kernel_rfl)) (fun _ _ _ h => h) (Or.inl ⟨by rfl, ?_⟩) ?_ ?_
      rotate_left
      ·intro w'
       go_simp
       with_reducible rfl
      rotate_left
      ·simp only [Act.put, sA_, s0_, s1_, i64_w, i32_w]
       rfl
      refine pure_ (i := 2) (N := some 24) (v := ?_) (a' := ?_) #[true, false, true, false, false, false, false, false] rfl rfl (any_of HT_.out (by kernel_rfl)) (fun _ _ _ h => h) (Or.inl ⟨by rfl, ?_⟩) ?_ ?_
      rotate_left
      ·intro w'
       go_simp
       with_reducible rfl
      rotate_left
      ·simp only [Act.put, sA_, s0_, s1_, i64_w, i32_w]
       rfl
      refine pure_ (i := 4) (N := some 26) (v := ?_) (a' := ?_) #[true, false, true, false, true, false, false, false] rfl rfl (any_of HT_.out (by kernel_rfl)) (fun _ _ _ h => h) (Or.inl ⟨by rfl, ?_⟩) ?_ ?_
      rotate_left
      ·intro w'
       go_simp
       with_reducible rfl
      rotate_left
      ·simp only [Act.put, sA_, s0_, s1_, i64_w, i32_w]
       rfl
      refine take_ (i := 1) (N := some 23) (v := ?_) (a' := ?_) #[true, true, true, false, true, false, false, false] rfl rfl (take_ofW HT_.out HW_.out (by kernel_rfl)) (fun _ _ _ h => h) (Or.inl ⟨by rfl, ?_⟩) hHeld ?_ ?_
      rotate_left
      ·rintro w' ⟨s0, s1, s2, s3, s4⟩
       go_simp
       with_reducible rfl
      rotate_left
      ·simp only [Act.put, sA_, s0_, s1_, i64_w, i32_w]
       rfl
      refine one_ (i := 3) (N := some 25) #[true, true, true, true, true, false, false, false] rfl rfl (one_of HT_.out (by kernel_rfl)) (by decide) (fun K hK => ?_)
      refine Kd.R_lit_step Kd.string _ 9 ?hg (N := 25) ?hd (xs := ([a1 ++ t176] : List ByteArray)) (inner := [.string (a1 ++ t176)]) (ok := fun _ => True) (okp := fun _ => True) ?hr ?hp (fun _ hk => hk) trivial (Below.refl _ _) (Nat.le_refl _) (by simp) ?_; (case hd => rfl); (case hg => rfl); (case hr => first | (go_simp; done) | (go_simp; rfl)); (case hp => exact (Reps.one (show Kd.M Kd.string _ _ _ (a1 ++ t176) [.string (a1 ++ t176)] from rfl) (Reps.none _ _)))
      intro v179 w19 ho20 hb hg_ hnew_
      clear hg_ hnew_
      (first | rw [← Ny178.out] at ho20 | (simp only [Int.reduceToNat] at ho20; rw [← Ny178.out] at ho20))
      have n0_ := Aside0.mk (Kd.R_lower ho20 (below_size (by repeat (first | (with_reducible first | exact HB.out | apply bA | apply bN | apply bD | refine below_set ?_ GE174.out) | exact HB.out))))
      have n1_ := Aside0.mk (blk_below (g := gb174) (o := .cells #[.int .u8 a0_0, .int .u8 a0_1, .int .u8 a0_2, .int .u8 a0_3, .int .u8 a0_4] 23 (0, 0)) (by (with_reducible repeat (first | refine kN ?_ _ | refine kD ?_ | refine kA ?_ _)); exact BK174.out) hb)
      have n2_ := Aside0.mk (below_step (by repeat (first | (with_reducible first | exact HB.out | apply bA | apply bN | apply bD | refine below_set ?_ GE174.out) | exact HB.out)) hb)
      clear BK174
      clear HB
      have HO180 := n0_
      have BK174 := n1_
      have HB := n2_
      clear n0_ n1_ n2_
      clear hb ho20
      refine hK.out _ _ ⟨blk_cell BK174.out 0, blk_cell BK174.out 1, blk_cell BK174.out 2, blk_cell BK174.out 3, blk_cell BK174.out 4⟩ (fun hHeld => ?_)
      clear hK K
      refine norm_ (a' := ?_) ?_ ?_
      rotate_left
      ·show Act.put _ (some 25) _ = _
       simp only [Act.put, sA_, s0_, s1_, i64_w, i32_w]
       rfl
      refine one_ (i := 5) (N := some 27) #[true, true, true, true, true, true, false, false] rfl rfl (one_of HT_.out (by kernel_rfl)) (by decide) (fun K hK => ?_)
      refine Kd.R_append_rows_step Kd.string (w0 := w) w.heap.size (by rfl) (.tmp 25) (.tmp 26) 41 9 (.string ⟨#[]⟩) 16 rfl Tryd.underlying41 info9 rfl (by decide) (by omega) v179 y178 (l2.drop ((ji5) : Int).toNat) _ _ _ (fun _ => True) (fun _ => False) rfl rfl ?aO ?aR (fun _ _ h => h) (fun _ h => h.elim) ?aF ?aB ?aS ?aL ?_
      (case aR => first | (rw [← show (l2.drop ((ji5) : Int).toNat).length = (l2.length - (ji5).toNat) from List.length_drop]; repeat (first | exact (Kd.C_below HR177.out HB.out) | (with_reducible refine Kd.C_alloc ?_ _) | (with_reducible refine Kd.C_drewN ?_ _) | (with_reducible refine Kd.C_drew ?_))) | (repeat (first | exact (Kd.C_below HR177.out HB.out) | (with_reducible refine Kd.C_alloc ?_ _) | (with_reducible refine Kd.C_drewN ?_ _) | (with_reducible refine Kd.C_drew ?_))))
      (case aB => exact (by repeat (first | (with_reducible first | exact HB.out | apply bA | apply bN | apply bD | refine below_set ?_ GE174.out) | exact HB.out)))
      (case aF => exact (fun _ _ => trivial))
      (case aO => exact (by (with_reducible repeat (first | apply Kd.R_alloc | apply Kd.R_drewN | apply Kd.R_drew)); exact HO180.out))
      (case aS => exact (below_size (by repeat (first | (with_reducible first | exact HB.out | apply bA | apply bN | apply bD | refine below_set ?_ GE174.out) | exact HB.out))))
      (case aL => have := LMc12.out; have hlx_ := (show (l2.drop ((ji5) : Int).toNat).length = (l2.length - (ji5).toNat) from List.length_drop); omega)
      intro v182 w21 ho hb hg hat
      rw [← Ny181.out] at ho
      have n0_ := Aside0.mk (blk_grown (g := gb174) (o := .cells #[.int .u8 a0_0, .int .u8 a0_1, .int .u8 a0_2, .int .u8 a0_3, .int .u8 a0_4] 23 (0, 0)) (by (with_reducible repeat (first | refine kN ?_ _ | refine kD ?_ | refine kA ?_ _)); exact BK174.out) hg (Kd.R_ne HO180.out BK174.out (by decide)))
      have n1_ := Aside0.mk (hb)
      have n2_ := Aside0.mk (ho)
      clear BK174
      clear HB
      clear HO180
      have BK174 := n0_
      have HB := n1_
      have HO183 := n2_
      clear n0_ n1_ n2_
      clear ho hb hg hat
      obtain ⟨Ao22, co22, eo22⟩ := Kd.R_slice HO183.out
      (first | subst eo22 | (injection eo22 with f1_ f2_ f3_; have f4_ := f1_.symm; have f5_ := f3_.symm; clear f1_ f2_ f3_; subst f4_; subst f5_))
      refine hK.out _ _ ⟨blk_cell BK174.out 0, blk_cell BK174.out 1, blk_cell BK174.out 2, blk_cell BK174.out 3, blk_cell BK174.out 4⟩ (fun hHeld => ?_)
      clear hK K
      refine norm_ (a' := ?_) ?_ ?_
      rotate_left
      ·show Act.put _ (some 27) _ = _
       simp only [Act.put, sA_, s0_, s1_, i64_w, i32_w]
       rfl
      refine one_ (i := 6) (N := some 28) #[true, true, true, true, true, true, true, false] rfl rfl (one_of HT_.out (by kernel_rfl)) (by decide) (fun K hK => ?_)
      refine goes_ Tryd.func34 (by kernel_rfl) rfl #[.int .u8 a0_0, .slice Ao22 y181.length co22] (by rfl) rfl rfl (by (try simp only [List.map_toArray, List.map_cons, List.map_nil]); first | done | rfl | (simp only [List.length_drop, List.length_take]; rfl)) ?_
      with_reducible refine (delim_Join.calls a0_0 _ _ y181 t184 _ ?side1 ?side2 A13.out).mono ?_
      (case side1 => repeat (first | exact (Kd.R_reads' HO183.out).2.2 | (with_reducible refine Kd.C_alloc ?_ _) | (with_reducible refine Kd.C_drewN ?_ _) | (with_reducible refine Kd.C_drew ?_)))
      (case side2 => exact (Kd.R_reads' HO183.out).2.1)
      rintro e w23 ⟨rfl, hb⟩
      refine ⟨_, rfl, ?_⟩
      have n0_ := Aside0.mk (Kd.R_below (by (with_reducible repeat (first | apply Kd.R_alloc | apply Kd.R_drewN | apply Kd.R_drew)); exact HO183.out) hb)
      have n1_ := Aside0.mk (blk_below (g := gb174) (o := .cells #[.int .u8 a0_0, .int .u8 a0_1, .int .u8 a0_2, .int .u8 a0_3, .int .u8 a0_4] 23 (0, 0)) (by (with_reducible repeat (first | refine kN ?_ _ | refine kD ?_ | refine kA ?_ _)); exact BK174.out) hb)
      have n2_ := Aside0.mk (below_step (by repeat (first | (with_reducible first | exact HB.out | apply bA | apply bN | apply bD | refine below_set ?_ GE174.out) | exact HB.out)) hb)
      clear HO183
      clear BK174
      clear HB
      have HO183 := n0_
      have BK174 := n1_
      have HB := n2_
      clear n0_ n1_ n2_
      (try clear hb)
      (try clear hb2)
      (try clear hk)
      (try clear hi)
      refine hK.out _ _ ⟨blk_cell BK174.out 0, blk_cell BK174.out 1, blk_cell BK174.out 2, blk_cell BK174.out 3, blk_cell BK174.out 4⟩ (fun hHeld => ?_)
      clear hK K
      refine norm_ (a' := ?_) ?_ ?_
      rotate_left
      ·show Act.put _ (some 28) _ = _
       simp only [Act.put, sA_, s0_, s1_, i64_w, i32_w]
       rfl
      refine pure_ (i := 7) (N := some 6) (v := ?_) (a' := ?_) #[true, true, true, true, true, true, true, true] rfl rfl (any_of HT_.out (by kernel_rfl)) (fun _ _ _ h => h) (Or.inl ⟨by rfl, ?_⟩) ?_ ?_
      rotate_left
      ·intro w'
       go_simp
       with_reducible rfl
      rotate_left
      ·simp only [Act.put, sA_, s0_, s1_, i64_w, i32_w]
       rfl
      refine done_ (done_of HT_.out (by kernel_rfl)) ?_
      try go_wp2
      go_ret
      exact ⟨by first | rfl | (simp [errW_none, errW_some] <;> rfl) | (simp only [← hji5]; first | rfl | (simp [errW_none, errW_some] <;> rfl)) | (simp [*, errW_none, errW_some] <;> rfl), by repeat (first | (with_reducible first | exact HB.out | apply bA | apply bN | apply bD | refine below_set ?_ GE174.out) | exact HB.out)⟩
     ·rw [if_neg c12] at H
      exact absurd H (by simp)
    ·rw [if_neg c9] at H
     exact absurd H (by simp)
   ·rw [if_neg c7] at H
    exact absurd H (by simp)
  ·rw [if_neg c6] at H
   exact absurd H (by simp)
 ·rw [if_neg c4] at H
  have c4b0 : (a1.toList == ([77, 83, 72] : List UInt8)) = false := beq_eq_false_iff_ne.mpr c4
  have c4b1 : (a1.toList != ([77, 83, 72] : List UInt8)) = true := bne_iff_ne.mpr c4
  obtain ⟨y185, hy185⟩ : ∃ y_ : List ByteArray, y_ = (([a1] : List ByteArray)) := ⟨_, rfl⟩
  replace H : (if y185.length + l2.length < 8796093022208 then ((delim_Join.f a0_0 (y185 ++ l2)).bind fun t191 => (some t191)) else (none)) = some r := by first | (rw [hy185]; with_reducible exact H) | (have H2_ := (Option.bind_some _ _).symm.trans H; rw [hy185]; with_reducible exact H2_) | (have H2_ := (Option.bind_some _ _).symm.trans H; with_reducible exact H2_) | with_reducible exact H | (rw [hy185]; exact H) | exact H
  have Ny185 := Aside0.mk hy185
  clear hy185
  by_cases c24 : y185.length + l2.length < 8796093022208
  ·rw [if_pos c24] at H
   have LMc24 := Aside0.mk c24
   clear c24
   obtain ⟨y188, hy188⟩ : ∃ y_ : List ByteArray, y_ = (y185 ++ l2) := ⟨_, rfl⟩
   replace H : ((delim_Join.f a0_0 y188).bind fun t191 => (some t191)) = some r := by first | (rw [hy188]; with_reducible exact H) | (have H2_ := (Option.bind_some _ _).symm.trans H; rw [hy188]; with_reducible exact H2_) | (have H2_ := (Option.bind_some _ _).symm.trans H; with_reducible exact H2_) | with_reducible exact H | (rw [hy188]; exact H) | exact H
   have Ny188 := Aside0.mk hy188
   clear hy188
   replace H := Option.bind_eq_some_iff.mp H
   obtain ⟨t191, A250, H⟩ := H
   replace H : (some t191) = some r := H
   have A25 := Aside0.mk A250
   clear A250
   obtain rfl := Option.some.inj H
   go_enter Tryd.func13, Tryd.ntmps13
   try go_wp2_with (first | ((with_reducible refine gate_dst (N := 3) rfl ?_); refine box_event ?hg (N := 3) ?hd (cs := #[.int .u8 a0_0, .int .u8 a0_1, .int .u8 a0_2, .int .u8 a0_3, .int .u8 a0_4]) (t := 23) ?hr ?_; (case hd => rfl); (case hg => rfl); (case hr => first | (go_simp; done) | (go_simp; rfl)); intro gb174 hg w26 hbox hb; have n0_ := Aside0.mk (below_step (by repeat (first | (with_reducible first | exact HB.out | apply bA | apply bN | apply bD) | exact HB.out)) hb); have n1_ := Aside0.mk (hbox); have n2_ := Aside0.mk ((by rw [hg]; exact (below_size (by repeat (first | (with_reducible first | exact HB.out | apply bA | apply bN | apply bD) | exact HB.out))) : w.heap.size ≤ gb174)); have n3_ := Aside0.mk ((by rw [hg]; exact (below_size (by repeat (first | (with_reducible first | exact HB.out | apply bA | apply bN | apply bD) | exact HB.out))) : w.heap.size ≤ gb174)); clear HB; have HB := n0_; have BK174 := n1_; have GW174 := n2_; have GE174 := n3_; clear n0_ n1_ n2_ n3_; clear hb hbox hg))
   have n0_ := Aside0.mk (blk_drew BK174.out)
   have n1_ := Aside0.mk (below_drew1 HB.out)
   clear BK174
   clear HB
   have BK174 := n0_
   have HB := n1_
   clear n0_ n1_
   refine start_ (n := 8) (S := fun w' => w'.cell? ⟨gb174, 0, none⟩ = some (.int .u8 a0_0) ∧ w'.cell? ⟨gb174, 1, none⟩ = some (.int .u8 a0_1) ∧ w'.cell? ⟨gb174, 2, none⟩ = some (.int .u8 a0_2) ∧ w'.cell? ⟨gb174, 3, none⟩ = some (.int .u8 a0_3) ∧ w'.cell? ⟨gb174, 4, none⟩ = some (.int .u8 a0_4)) (ds := []) #[false, false, false, false, false, false, false, false] (by kernel_rfl) rfl rfl ⟨blk_cell BK174.out 0, blk_cell BK174.out 1, blk_cell BK174.out 2, blk_cell BK174.out 3, blk_cell BK174.out 4⟩ (fun hHeld => ?_); refine with_tabW segment_Make.tab5 segment_Make.bits5 (fun HT_ HW_ => ?_)
   generalize w26.drew = w27 at BK174 HB hHeld ⊢
   refine pure_ (i := 0) (N := some 22) (v := ?_) (a' := ?_) #[true, false, false, false, false, false, false, false] rfl rfl (any_of HT_.out (by kernel_rfl)) (fun _ _ _ h => h) (Or.inl ⟨by rfl, ?_⟩) ?_ ?_
   rotate_left
   ·intro w'
    go_simp
    with_reducible rfl
   rotate_left
   ·simp only [Act.put, sA_, s0_, s1_, i64_w, i32_w]
    rfl
   refine pure_ (i := 2) (N := some 24) (v := ?_) (a' := ?_) #[true, false, true, false, false, false, false, false] rfl rfl (any_of HT_.out (by kernel_rfl)) (fun _ _ _ h => h) (Or.inl ⟨by rfl, ?_⟩) ?_ ?_
   rotate_left
   ·intro w'
    go_simp
    with_reducible rfl
   rotate_left
   ·simp only [Act.put, sA_, s0_, s1_, i64_w, i32_w]
    rfl
   refine pure_ (i := 4) (N := some 26) (v := ?_) (a' := ?_) #[true, false, true, false, true, false, false, false] rfl rfl (any_of HT_.out (by kernel_rfl)) (fun _ _ _ h => h) (Or.inl ⟨by rfl, ?_⟩) ?_ ?_
   rotate_left
   ·intro w'
    go_simp
    with_reducible rfl
   rotate_left
   ·simp only [Act.put, sA_, s0_, s1_, i64_w, i32_w]
    rfl
   refine take_ (i := 1) (N := some 23) (v := ?_) (a' := ?_) #[true, true, true, false, true, false, false, false] rfl rfl (take_ofW HT_.out HW_.out (by kernel_rfl)) (fun _ _ _ h => h) (Or.inl ⟨by rfl, ?_⟩) hHeld ?_ ?_
   rotate_left
   ·rintro w' ⟨s0, s1, s2, s3, s4⟩
    go_simp
    with_reducible rfl
   rotate_left
   ·simp only [Act.put, sA_, s0_, s1_, i64_w, i32_w]
    rfl
   refine one_ (i := 3) (N := some 25) #[true, true, true, true, true, false, false, false] rfl rfl (one_of HT_.out (by kernel_rfl)) (by decide) (fun K hK => ?_)
   refine Kd.R_lit_step Kd.string _ 9 ?hg (N := 25) ?hd (xs := ([a1] : List ByteArray)) (inner := [.string a1]) (ok := fun _ => True) (okp := fun _ => True) ?hr ?hp (fun _ hk => hk) trivial (Below.refl _ _) (Nat.le_refl _) (by simp) ?_; (case hd => rfl); (case hg => rfl); (case hr => first | (go_simp; done) | (go_simp; rfl)); (case hp => exact (Reps.one (show Kd.M Kd.string _ _ _ a1 [.string a1] from rfl) (Reps.none _ _)))
   intro v186 w28 ho29 hb hg_ hnew_
   clear hg_ hnew_
   (first | rw [← Ny185.out] at ho29 | (simp only [Int.reduceToNat] at ho29; rw [← Ny185.out] at ho29))
   have n0_ := Aside0.mk (Kd.R_lower ho29 (below_size (by repeat (first | (with_reducible first | exact HB.out | apply bA | apply bN | apply bD | refine below_set ?_ GE174.out) | exact HB.out))))
   have n1_ := Aside0.mk (blk_below (g := gb174) (o := .cells #[.int .u8 a0_0, .int .u8 a0_1, .int .u8 a0_2, .int .u8 a0_3, .int .u8 a0_4] 23 (0, 0)) (by (with_reducible repeat (first | refine kN ?_ _ | refine kD ?_ | refine kA ?_ _)); exact BK174.out) hb)
   have n2_ := Aside0.mk (below_step (by repeat (first | (with_reducible first | exact HB.out | apply bA | apply bN | apply bD | refine below_set ?_ GE174.out) | exact HB.out)) hb)
   clear BK174
   clear HB
   have HO187 := n0_
   have BK174 := n1_
   have HB := n2_
   clear n0_ n1_ n2_
   clear hb ho29
   refine hK.out _ _ ⟨blk_cell BK174.out 0, blk_cell BK174.out 1, blk_cell BK174.out 2, blk_cell BK174.out 3, blk_cell BK174.out 4⟩ (fun hHeld => ?_)
   clear hK K
   refine norm_ (a' := ?_) ?_ ?_
   rotate_left
   ·show Act.put _ (some 25) _ = _
    simp only [Act.put, sA_, s0_, s1_, i64_w, i32_w]
    rfl
   refine one_ (i := 5) (N := some 27) #[true, true, true, true, true, true, false, false] rfl rfl (one_of HT_.out (by kernel_rfl)) (by decide) (fun K hK => ?_)
   refine Kd.R_append_rows_step Kd.string (w0 := w) w.heap.size (by rfl) (.tmp 25) (.tmp 26) 41 9 (.string ⟨#[]⟩) 16 rfl Tryd.underlying41 info9 rfl (by decide) (by omega) v186 y185 l2 _ _ _ (fun _ => True) (fun _ => False) rfl rfl ?aO ?aR (fun _ _ h => h) (fun _ h => h.elim) ?aF ?aB ?aS ?aL ?_
   (case aR => repeat (first | exact (Kd.C_below HR2.out HB.out) | (with_reducible refine Kd.C_alloc ?_ _) | (with_reducible refine Kd.C_drewN ?_ _) | (with_reducible refine Kd.C_drew ?_)))
   (case aB => exact (by repeat (first | (with_reducible first | exact HB.out | apply bA | apply bN | apply bD | refine below_set ?_ GE174.out) | exact HB.out)))
   (case aF => exact (fun _ _ => trivial))
   (case aO => exact (by (with_reducible repeat (first | apply Kd.R_alloc | apply Kd.R_drewN | apply Kd.R_drew)); exact HO187.out))
   (case aS => exact (below_size (by repeat (first | (with_reducible first | exact HB.out | apply bA | apply bN | apply bD | refine below_set ?_ GE174.out) | exact HB.out))))
   (case aL => have := LMc24.out; omega)
   intro v189 w30 ho hb hg hat
   rw [← Ny188.out] at ho
   have n0_ := Aside0.mk (blk_grown (g := gb174) (o := .cells #[.int .u8 a0_0, .int .u8 a0_1, .int .u8 a0_2, .int .u8 a0_3, .int .u8 a0_4] 23 (0, 0)) (by (with_reducible repeat (first | refine kN ?_ _ | refine kD ?_ | refine kA ?_ _)); exact BK174.out) hg (Kd.R_ne HO187.out BK174.out (by decide)))
   have n1_ := Aside0.mk (hb)
   have n2_ := Aside0.mk (ho)
   clear BK174
   clear HB
   clear HO187
   have BK174 := n0_
   have HB := n1_
   have HO190 := n2_
   clear n0_ n1_ n2_
   clear ho hb hg hat
   obtain ⟨Ao31, co31, eo31⟩ := Kd.R_slice HO190.out
   (first | subst eo31 | (injection eo31 with f1_ f2_ f3_; have f4_ := f1_.symm; have f5_ := f3_.symm; clear f1_ f2_ f3_; subst f4_; subst f5_))
   refine hK.out _ _ ⟨blk_cell BK174.out 0, blk_cell BK174.out 1, blk_cell BK174.out 2, blk_cell BK174.out 3, blk_cell BK174.out 4⟩ (fun hHeld => ?_)
   clear hK K
   refine norm_ (a' := ?_) ?_ ?_
   rotate_left
   ·show Act.put _ (some 27) _ = _
    simp only [Act.put, sA_, s0_, s1_, i64_w, i32_w]
    rfl
   refine one_ (i := 6) (N := some 28) #[true, true, true, true, true, true, true, false] rfl rfl (one_of HT_.out (by kernel_rfl)) (by decide) (fun K hK => ?_)
   refine goes_ Tryd.func34 (by kernel_rfl) rfl #[.int .u8 a0_0, .slice Ao31 y188.length co31] (by rfl) rfl rfl (by (try simp only [List.map_toArray, List.map_cons, List.map_nil]); first | done | rfl | (simp only [List.length_drop, List.length_take]; rfl)) ?_
   with_reducible refine (delim_Join.calls a0_0 _ _ y188 t191 _ ?side1 ?side2 A25.out).mono ?_
   (case side1 => repeat (first | exact (Kd.R_reads' HO190.out).2.2 | (with_reducible refine Kd.C_alloc ?_ _) | (with_reducible refine Kd.C_drewN ?_ _) | (with_reducible refine Kd.C_drew ?_)))
   (case side2 => exact (Kd.R_reads' HO190.out).2.1)
   rintro e w32 ⟨rfl, hb⟩
   refine ⟨_, rfl, ?_⟩
   have n0_ := Aside0.mk (Kd.R_below (by (with_reducible repeat (first | apply Kd.R_alloc | apply Kd.R_drewN | apply Kd.R_drew)); exact HO190.out) hb)
   have n1_ := Aside0.mk (blk_below (g := gb174) (o := .cells #[.int .u8 a0_0, .int .u8 a0_1, .int .u8 a0_2, .int .u8 a0_3, .int .u8 a0_4] 23 (0, 0)) (by (with_reducible repeat (first | refine kN ?_ _ | refine kD ?_ | refine kA ?_ _)); exact BK174.out) hb)
   have n2_ := Aside0.mk (below_step (by repeat (first | (with_reducible first | exact HB.out | apply bA | apply bN | apply bD | refine below_set ?_ GE174.out) | exact HB.out)) hb)
   clear HO190
   clear BK174
   clear HB
   have HO190 := n0_
   have BK174 := n1_
   have HB := n2_
   clear n0_ n1_ n2_
   (try clear hb)
   (try clear hb2)
   (try clear hk)
   (try clear hi)
   refine hK.out _ _ ⟨blk_cell BK174.out 0, blk_cell BK174.out 1, blk_cell BK174.out 2, blk_cell BK174.out 3, blk_cell BK174.out 4⟩ (fun hHeld => ?_)
   clear hK K
   refine norm_ (a' := ?_) ?_ ?_
   rotate_left
   ·show Act.put _ (some 28) _ = _
    simp only [Act.put, sA_, s0_, s1_, i64_w, i32_w]
    rfl
   refine pure_ (i := 7) (N := some 6) (v := ?_) (a' := ?_) #[true, true, true, true, true, true, true, true] rfl rfl (any_of HT_.out (by kernel_rfl)) (fun _ _ _ h => h) (Or.inl ⟨by rfl, ?_⟩) ?_ ?_
   rotate_left
   ·intro w'
    go_simp
    with_reducible rfl
   rotate_left
   ·simp only [Act.put, sA_, s0_, s1_, i64_w, i32_w]
    rfl
   refine done_ (done_of HT_.out (by kernel_rfl)) ?_
   try go_wp2
   go_ret
   exact ⟨by first | rfl | (simp [errW_none, errW_some] <;> rfl) | (simp [*, errW_none, errW_some] <;> rfl), by repeat (first | (with_reducible first | exact HB.out | apply bA | apply bN | apply bD | refine below_set ?_ GE174.out) | exact HB.out)⟩
  ·rw [if_neg c24] at H
   exact absurd H (by simp)

end Go.Proofs.YteaehlkpghpnkaaDoor.PH
