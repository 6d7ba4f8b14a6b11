/- Texts of this work merged in their order (a claim may hold 60 files): PIx1, Num, NumW, FillW, TrNum, PIx2, TrBytes, GlobT, Fill. No conditions of its own. -/
import Derived.Test.YtoloooammaiipaaDoorCB3
import Derived.Shelf.Strconv.Itoa3
import Derived.Shelf.Strconv.AtoiAll
import Derived.Shelf.Strconv.ErrVarAll
import Derived.Test.YtoloooammaiipaaDoorProg
import Derived.WalkKit
import Derived.Lib.AppendIntMem
import Derived.Lib.AtoiAllCases
import Derived.Lib.SmallJoins
import Derived.BigCall
import Derived.StillTailTactics
import Derived.Lib.AtoiTie
import Derived.Lib.ItoaNum
import Derived.Lib.ItoaMem
import Derived.Lib.RabinKarpLaws
import Derived.Test.YtoloooammaiipaaDoorRows
import Derived.Lib.LaidTab
import Derived.ProofKit
import Derived.OpenShut
-- Written by a program of this work (the kit's print, with contracts of this work's own taken in) out of the translation. Not trusted: Lean checks it.
namespace Go.Proofs.YtoloooammaiipaaDoor.PI
open Go.RowKit Go.Proofs.YtoloooammaiipaaDoorW.PrintWords Go.Proofs.YtoloooammaiipaaDoorW.PrintLast Go.Proofs.YtoloooammaiipaaDoorW.PrintMore
attribute [local go_sem] max2_int min2_int max_two min_two max_three min_three max_four min_four   -- for this text's walks alone
set_option linter.unusedVariables false
set_option linter.unusedSimpArgs false

/-! ### stringslite_HasPrefix: function 58 -/
def stringslite_HasPrefix.f (a0 : ByteArray) (a1 : ByteArray) : Option (Bool) := if (a0.size : Int) ≥ (a1.size : Int) then (if 0 ≤ (a1.size : Int) then (if (a1.size : Int) ≤ (a0.size : Int) then (some ((a0.extract 0 ((a1.size : Int) : Int).toNat).toList == a1.toList)) else (none)) else (none)) else (some false)
set_option maxHeartbeats 8000000 in
set_option maxRecDepth 100000 in
theorem stringslite_HasPrefix.calls (a0 : ByteArray) (a1 : ByteArray) (r : Bool) (w : World) (h : stringslite_HasPrefix.f a0 a1 = some r) :
    Calls Tryd.prog 58 #[.string a0, .string a1] w fun e w' => e = .returned (.bool r) ∧ Drawn0 w w' := by
  have H : (if (a0.size : Int) ≥ (a1.size : Int) then (if 0 ≤ (a1.size : Int) then (if (a1.size : Int) ≤ (a0.size : Int) then (some ((a0.extract 0 ((a1.size : Int) : Int).toNat).toList == a1.toList)) else (none)) else (none)) else (some false)) = some r := h
  clear h
  by_cases c3 : (a0.size : Int) ≥ (a1.size : Int)
  · rw [if_pos c3] at H
    have c3b0 : decide ((a1.size : Int) ≤ (a0.size : Int)) = true := decide_eq_true c3
    have c3b1 : decide (a1.size ≤ a0.size) = true := decide_eq_true (Int.ofNat_le.mp c3)
    clear c3
    by_cases c4 : 0 ≤ (a1.size : Int)
    · rw [if_pos c4] at H
      have c4b0 := eq_true c4
      have c4b1 : decide (0 ≤ (a1.size : Int)) = true := decide_eq_true c4
      clear c4
      by_cases c5 : (a1.size : Int) ≤ (a0.size : Int)
      · rw [if_pos c5] at H
        have c5b0 := eq_true c5
        have c5b1 : decide ((a1.size : Int) ≤ (a0.size : Int)) = true := decide_eq_true c5
        clear c5
        obtain rfl := Option.some.inj H
        go_enter Tryd.func58, Tryd.ntmps58
        go_wp2
        go_ret
        exact ⟨by first | rfl | (simp; done) | (simp [*]; done), by repeat (first | exact Drawn0.refl _ | apply Drawn0.step)⟩
      · rw [if_neg c5] at H
        exact absurd H (by simp)
    · rw [if_neg c4] at H
      exact absurd H (by simp)
  · rw [if_neg c3] at H
    have c3b0 : decide ((a1.size : Int) ≤ (a0.size : Int)) = false := decide_eq_false c3
    have c3b1 : decide (a1.size ≤ a0.size) = false := decide_eq_false (fun h => c3 (Int.ofNat_le.mpr h))
    clear c3
    obtain rfl := Option.some.inj H
    go_enter Tryd.func58, Tryd.ntmps58
    go_wp2
    go_ret
    exact ⟨by first | rfl | (simp; done) | (simp [*]; done), by repeat (first | exact Drawn0.refl _ | apply Drawn0.step)⟩

/-! ### stringslite_CutPrefix: function 46 -/
def stringslite_CutPrefix.f (a0 : ByteArray) (a1 : ByteArray) : Option (ByteArray × Bool) := (stringslite_HasPrefix.f a0 a1).bind fun t101 => (if t101 = true then (if 0 ≤ (a1.size : Int) then (if (a1.size : Int) ≤ (a0.size : Int) then (some (a0.extract ((a1.size : Int) : Int).toNat a0.size, true)) else (none)) else (none)) else (some (a0, false)))
set_option maxHeartbeats 8000000 in
set_option maxRecDepth 100000 in
theorem stringslite_CutPrefix.calls (a0 : ByteArray) (a1 : ByteArray) (r1 : ByteArray) (r2 : Bool) (w : World) (h : stringslite_CutPrefix.f a0 a1 = some (r1, r2)) :
    Calls Tryd.prog 46 #[.string a0, .string a1] w fun e w' => e = .returned (.tuple #[.string r1, .bool r2]) ∧ Drawn0 w w' := by
  have H : ((stringslite_HasPrefix.f a0 a1).bind fun t101 => (if t101 = true then (if 0 ≤ (a1.size : Int) then (if (a1.size : Int) ≤ (a0.size : Int) then (some (a0.extract ((a1.size : Int) : Int).toNat a0.size, true)) else (none)) else (none)) else (some (a0, false)))) = some (r1, r2) := h
  clear h
  replace H := Option.bind_eq_some_iff.mp H
  obtain ⟨t101, A30, H⟩ := H
  replace H : (if t101 = true then (if 0 ≤ (a1.size : Int) then (if (a1.size : Int) ≤ (a0.size : Int) then (some (a0.extract ((a1.size : Int) : Int).toNat a0.size, true)) else (none)) else (none)) else (some (a0, false))) = some (r1, r2) := H
  have A3 := Aside0.mk A30
  clear A30
  by_cases c4 : t101 = true
  · subst c4
    have H1 : (if 0 ≤ (a1.size : Int) then (if (a1.size : Int) ≤ (a0.size : Int) then (some (a0.extract ((a1.size : Int) : Int).toNat a0.size, true)) else (none)) else (none)) = some (r1, r2) := by rw [if_pos rfl] at H; exact H
    clear H
    have H := H1
    clear H1
    by_cases c5 : 0 ≤ (a1.size : Int)
    · rw [if_pos c5] at H
      have c5b0 := eq_true c5
      have c5b1 : decide (0 ≤ (a1.size : Int)) = true := decide_eq_true c5
      clear c5
      by_cases c6 : (a1.size : Int) ≤ (a0.size : Int)
      · rw [if_pos c6] at H
        have c6b0 := eq_true c6
        have c6b1 : decide ((a1.size : Int) ≤ (a0.size : Int)) = true := decide_eq_true c6
        clear c6
        simp only [Option.some.injEq, Prod.mk.injEq] at H
        obtain ⟨rfl, rfl⟩ := H
        go_enter Tryd.func46, Tryd.ntmps46
        go_wp2_with (first | ((with_reducible refine gate_callee (f := 58) rfl ?_); refine goesL_ (some 8) rfl rfl Tryd.func58 (by kernel_rfl) rfl #[.string a0, .string a1] rfl (by (try simp only [List.map_toArray, List.map_cons, List.map_nil]); first | done | rfl | (simp only [List.length_drop, List.length_take]; rfl)) ?_; (with_reducible refine (stringslite_HasPrefix.calls a0 a1 true _ A3.out).mono ?_); rintro e w' ⟨rfl, ⟨nd, rfl⟩⟩; refine ⟨_, rfl, ?_⟩))
        go_ret2
        exact ⟨by first | rfl | (simp; done) | (simp [*]; done), by repeat (first | exact Drawn0.refl _ | apply Drawn0.step)⟩
      · rw [if_neg c6] at H
        exact absurd H (by simp)
    · rw [if_neg c5] at H
      exact absurd H (by simp)
  · replace c4 := Bool.eq_false_iff.mpr c4
    subst c4
    have H1 : (some (a0, false)) = some (r1, r2) := by rw [if_neg (show ¬ (false = true) by decide)] at H; exact H
    clear H
    have H := H1
    clear H1
    simp only [Option.some.injEq, Prod.mk.injEq] at H
    obtain ⟨rfl, rfl⟩ := H
    go_enter Tryd.func46, Tryd.ntmps46
    go_wp2_with (first | ((with_reducible refine gate_callee (f := 58) rfl ?_); refine goesL_ (some 8) rfl rfl Tryd.func58 (by kernel_rfl) rfl #[.string a0, .string a1] rfl (by (try simp only [List.map_toArray, List.map_cons, List.map_nil]); first | done | rfl | (simp only [List.length_drop, List.length_take]; rfl)) ?_; (with_reducible refine (stringslite_HasPrefix.calls a0 a1 false _ A3.out).mono ?_); rintro e w' ⟨rfl, ⟨nd, rfl⟩⟩; refine ⟨_, rfl, ?_⟩))
    go_ret2
    exact ⟨by first | rfl | (simp; done) | (simp [*]; done), by repeat (first | exact Drawn0.refl _ | apply Drawn0.step)⟩

/-! ### strings_CutPrefix: function 32 -/
def strings_CutPrefix.f (a0 : ByteArray) (a1 : ByteArray) : Option (ByteArray × Bool) := (stringslite_CutPrefix.f a0 a1).bind fun bt102 => (some (bt102.1, bt102.2))
set_option maxHeartbeats 8000000 in
set_option maxRecDepth 100000 in
theorem strings_CutPrefix.calls (a0 : ByteArray) (a1 : ByteArray) (r1 : ByteArray) (r2 : Bool) (w : World) (h : strings_CutPrefix.f a0 a1 = some (r1, r2)) :
    Calls Tryd.prog 32 #[.string a0, .string a1] w fun e w' => e = .returned (.tuple #[.string r1, .bool r2]) ∧ Drawn0 w w' := by
  have H : ((stringslite_CutPrefix.f a0 a1).bind fun bt102 => (some (bt102.1, bt102.2))) = some (r1, r2) := h
  clear h
  replace H := Option.bind_eq_some_iff.mp H
  obtain ⟨⟨t102, t103⟩, A30, H⟩ := H
  replace H : (some (t102, t103)) = some (r1, r2) := H
  have A3 := Aside0.mk A30
  clear A30
  simp only [Option.some.injEq, Prod.mk.injEq] at H
  obtain ⟨rfl, rfl⟩ := H
  go_enter Tryd.func32, Tryd.ntmps32
  go_wp2_with (first | ((with_reducible refine gate_callee (f := 46) rfl ?_); refine goesL_ (some 8) rfl rfl Tryd.func46 (by kernel_rfl) rfl #[.string a0, .string a1] rfl (by (try simp only [List.map_toArray, List.map_cons, List.map_nil]); first | done | rfl | (simp only [List.length_drop, List.length_take]; rfl)) ?_; (with_reducible refine (stringslite_CutPrefix.calls a0 a1 t102 t103 _ A3.out).mono ?_); rintro e w' ⟨rfl, ⟨nd, rfl⟩⟩; refine ⟨_, rfl, ?_⟩))
  go_ret2
  exact ⟨by first | rfl | (simp; done) | (simp [*]; done), by repeat (first | exact Drawn0.refl _ | apply Drawn0.step)⟩

-- NOT PRINTED: function 56 (bytealg_IndexByteString)

/-! ### stringslite_IndexByte: function 44 -/
def stringslite_IndexByte.f (a0 : ByteArray) (a1 : Int) : Option (Int) := some (Lib.indexByte a0.data.toList a1.toNat.toUInt8)
set_option maxHeartbeats 1000000 in
set_option maxRecDepth 100000 in
theorem stringslite_IndexByte.calls (a0 : ByteArray) (a1 : Int) (r : Int) (w : World) (h : stringslite_IndexByte.f a0 a1 = some r) :
    Calls Tryd.prog 44 #[.string a0, .int .u8 a1] w fun e w' => e = .returned (.int .i64 r) ∧ Drawn0 w w' := by
  obtain rfl := Option.some.inj h
  clear h
  go_enter Tryd.func44, Tryd.ntmps44
  go_wp2
  rw [run_callFunc_extern Tryd.func56 (by kernel_rfl) (by kernel_rfl) (by kernel_rfl) (e := Extern.BytealgIndexByte.indexByte) (by kernel_rfl), Lib.run_indexByteString]
  simp only [Result.andThen]
  rw [Oper.upon_value]
  go_wp2
  go_ret
  exact ⟨rfl, Drawn0.refl _⟩


/-! ### strings_IndexByte: function 28 -/
def strings_IndexByte.f (a0 : ByteArray) (a1 : Int) : Option (Int) := (stringslite_IndexByte.f a0 a1).bind fun t104 => (some t104)
set_option maxHeartbeats 8000000 in
set_option maxRecDepth 100000 in
theorem strings_IndexByte.calls (a0 : ByteArray) (a1 : Int) (r : Int) (w : World) (h : strings_IndexByte.f a0 a1 = some r) :
    Calls Tryd.prog 28 #[.string a0, .int .u8 a1] w fun e w' => e = .returned (.int .i64 r) ∧ Drawn0 w w' := by
  have H : ((stringslite_IndexByte.f a0 a1).bind fun t104 => (some t104)) = some r := h
  clear h
  replace H := Option.bind_eq_some_iff.mp H
  obtain ⟨t104, A30, H⟩ := H
  replace H : (some t104) = some r := H
  have A3 := Aside0.mk A30
  clear A30
  obtain rfl := Option.some.inj H
  go_enter Tryd.func28, Tryd.ntmps28
  go_wp2_with (first | ((with_reducible refine gate_callee (f := 44) rfl ?_); refine goesL_ (some 7) rfl rfl Tryd.func44 (by kernel_rfl) rfl #[.string a0, .int .u8 a1] rfl (by (try simp only [List.map_toArray, List.map_cons, List.map_nil]); first | done | rfl | (simp only [List.length_drop, List.length_take]; rfl)) ?_; (with_reducible refine (stringslite_IndexByte.calls a0 a1 t104 _ A3.out).mono ?_); rintro e w' ⟨rfl, ⟨nd, rfl⟩⟩; refine ⟨_, rfl, ?_⟩))
  go_ret
  exact ⟨by first | rfl | (simp; done) | (simp [*]; done), by repeat (first | exact Drawn0.refl _ | apply Drawn0.step)⟩

/-! ### trace_Bytes: function 12 -/
mutual
def trace_Bytes.j0 : Nat → ByteArray → Bool → Option (List Int × Bool)
  | 0, _, _ => none
  | k + 1, x0, x16 => if x16 = true then (some (([] : List Int), false)) else (if 0 ≤ (wrap64 ((x0.size : Int) / 2)) then (if (wrap64 ((x0.size : Int) / 2) : Int).toNat ≤ 281474976710656 then (trace_Bytes.l0 k x0 (List.replicate (wrap64 ((x0.size : Int) / 2) : Int).toNat 0) (x0.size : Int) 0) else (none)) else (none))
def trace_Bytes.l0 : Nat → ByteArray → List Int → Int → Int → Option (List Int × Bool)
  | 0, _, _, _, _ => none
  | k + 1, x0, x4, x22, x23 => if x23 < x22 then (if 0 ≤ x23 then (if x23 < (x0.size : Int) then ((strings_IndexByte.f (⟨#[48, 49, 50, 51, 52, 53, 54, 55, 56, 57, 97, 98, 99, 100, 101, 102]⟩ : ByteArray) (bt x0 x23)).bind fun t108 => (if t108 < 0 then (some (([] : List Int), false)) else (if 0 ≤ (wrap64 (Int.tdiv x23 2)) then (if (wrap64 (Int.tdiv x23 2)) < (x4.length : Int) then (trace_Bytes.l0 k x0 (x4.set ((wrap64 (Int.tdiv x23 2)) : Int).toNat (Go.bits .or .u8 (((rd x4 (wrap64 (Int.tdiv x23 2))) * 16) % 256) ((t108) % 256))) x22 (wrap64 (x23 + 1))) else (none)) else (none)))) else (none)) else (none)) else (some (x4, true))
end
def trace_Bytes.f (k : Nat) (a0 : ByteArray) : Option (List Int × Bool) := if a0.toList = ([45] : List UInt8) then (some (([] : List Int), true)) else (if a0.toList = ([] : List UInt8) then (trace_Bytes.j0 k a0 true) else (trace_Bytes.j0 k a0 (decide ((Go.bits .and .i64 (a0.size : Int) 1) > 0))))
theorem trace_Bytes.mono_l : ∀ k, (∀ y0 y1, LeO (trace_Bytes.j0 k y0 y1) (trace_Bytes.j0 (k + 1) y0 y1)) ∧ (∀ y0 y1 y2 y3, LeO (trace_Bytes.l0 k y0 y1 y2 y3) (trace_Bytes.l0 (k + 1) y0 y1 y2 y3))
  | 0 => ⟨fun _ _ r h => by simp [trace_Bytes.j0] at h, fun _ _ _ _ r h => by simp [trace_Bytes.l0] at h⟩
  | k + 1 => by
    obtain ⟨ih0, ih1⟩ := trace_Bytes.mono_l k
    refine ⟨?_, ?_⟩
    · intro y0 y1
      unfold trace_Bytes.j0
      repeat' first
      | (with_reducible exact ih0 _ _)
      | (with_reducible exact ih1 _ _ _ _)
      | (with_reducible exact LeO.refl _)
      | (with_reducible exact LeO.none _)
      | (with_reducible refine LeO.ite ?_ ?_)
      | (with_reducible refine LeO.bind ?_ (fun _ => ?_))
      | exact ih0 _ _
      | exact ih1 _ _ _ _
      | exact LeO.none _
      | refine LeO.ite ?_ ?_
      | refine LeO.bind ?_ (fun _ => ?_)
    · intro y0 y1 y2 y3
      unfold trace_Bytes.l0
      repeat' first
      | (with_reducible exact ih0 _ _)
      | (with_reducible exact ih1 _ _ _ _)
      | (with_reducible exact LeO.refl _)
      | (with_reducible exact LeO.none _)
      | (with_reducible refine LeO.ite ?_ ?_)
      | (with_reducible refine LeO.bind ?_ (fun _ => ?_))
      | exact ih0 _ _
      | exact ih1 _ _ _ _
      | exact LeO.none _
      | refine LeO.ite ?_ ?_
      | refine LeO.bind ?_ (fun _ => ?_)
theorem trace_Bytes.mono : ∀ a0 k, LeO (trace_Bytes.f k a0) (trace_Bytes.f (k + 1) a0) := by
  intro a0 k
  obtain ⟨ih0, ih1⟩ := trace_Bytes.mono_l k
  unfold trace_Bytes.f
  repeat' first
      | (with_reducible exact ih0 _ _)
      | (with_reducible exact ih1 _ _ _ _)
      | (with_reducible exact LeO.refl _)
      | (with_reducible exact LeO.none _)
      | (with_reducible refine LeO.ite ?_ ?_)
      | (with_reducible refine LeO.bind ?_ (fun _ => ?_))
      | exact ih0 _ _
      | exact ih1 _ _ _ _
      | exact LeO.none _
      | refine LeO.ite ?_ ?_
      | refine LeO.bind ?_ (fun _ => ?_)
set_option maxHeartbeats 8000000 in
set_option maxRecDepth 100000 in
theorem trace_Bytes.calls (k : Nat) (a0 : ByteArray) (r1 : List Int) (r2 : Bool) (w : World) (h : trace_Bytes.f k a0 = some (r1, r2)) :
    Calls Tryd.prog 12 #[.string a0] w fun e w' => ∃ v0_ : Value, e = .returned (.tuple #[v0_, .bool r2]) ∧ Kd.R (Kd.int .u8) 5 w' w.heap.size (fun _ => True) v0_ r1 ∧ Below w.heap.size w w' := by
  have HB := Aside0.mk (Below.refl w.heap.size w)
  have H : (if a0.toList = ([45] : List UInt8) then (some (([] : List Int), true)) else (if a0.toList = ([] : List UInt8) then (trace_Bytes.j0 k a0 true) else (trace_Bytes.j0 k a0 (decide ((Go.bits .and .i64 (a0.size : Int) 1) > 0))))) = some (r1, r2) := h
  clear h
  by_cases c2 : a0.toList = ([45] : List UInt8)
  · rw [if_pos c2] at H
    have c2b0 : (a0.toList == ([45] : List UInt8)) = true := beq_iff_eq.mpr c2
    have c2b1 : (a0.toList != ([45] : List UInt8)) = false := bne_eq_false_iff_eq.mpr c2
    clear c2
    simp only [Option.some.injEq, Prod.mk.injEq] at H
    obtain ⟨rfl, rfl⟩ := H
    go_enter Tryd.func12, Tryd.ntmps12
    go_wp2
    go_ret2
    exact ⟨_, by first | rfl | (simp [errW_none, errW_some] <;> rfl) | (simp [*, errW_none, errW_some] <;> rfl), by first | exact Kd.R_nil _ _ _ _ _ | exact Kd.N_nil _ _ _ _ _ | exact Kd.V_nil _ _ _ _ _ | exact Kd.Q_nil _ _ _ _ _ | exact Kd.S_nil _ _ _ _ _, by repeat (first | (with_reducible first | exact HB.out | apply below_alloc | apply pw_below_drewN | apply below_drew1) | exact HB.out)⟩
  · rw [if_neg c2] at H
    have c2b0 : (a0.toList == ([45] : List UInt8)) = false := beq_eq_false_iff_ne.mpr c2
    have c2b1 : (a0.toList != ([45] : List UInt8)) = true := bne_iff_ne.mpr c2
    have HC3 := Aside0.mk H
    clear H
    go_enter Tryd.func12, Tryd.ntmps12
    go_upto_region 3 with (fail)
    go_cut [16] (fun v16 wc => ∃ (kq : Nat) (x16_2 : Bool), v16 = .bool x16_2 ∧ Aside0 (trace_Bytes.j0 kq a0 x16_2 = some (r1, r2)) ∧ Aside0 (kq ≤ k) ∧ Aside0 (Below w.heap.size w wc))
    case first =>
      have H := HC3.out
      clear HC3
      by_cases c4 : a0.toList = ([] : List UInt8)
      · rw [if_pos c4] at H
        have c4b0 : (a0.toList == ([] : List UInt8)) = true := beq_iff_eq.mpr c4
        have c4b1 : (a0.toList != ([] : List UInt8)) = false := bne_eq_false_iff_eq.mpr c4
        clear c4
        (first | rw [c4b0] | (simp only [i64_w, i32_w]; rw [c4b0]) | skip)
        have H' := Aside0.mk H
        clear H
        go_wp2
        go_meet
        case rel => exact ⟨_, (true), (by first | rfl | (simp; done) | (simp [*]; done)), H', ⟨by first | omega | exact Nat.le_refl _⟩, ⟨by repeat (first | (with_reducible first | exact HB.out | apply below_alloc | apply pw_below_drewN | apply below_drew1) | exact HB.out)⟩⟩
      · rw [if_neg c4] at H
        have c4b0 : (a0.toList == ([] : List UInt8)) = false := beq_eq_false_iff_ne.mpr c4
        have c4b1 : (a0.toList != ([] : List UInt8)) = true := bne_iff_ne.mpr c4
        (first | rw [c4b0] | (simp only [i64_w, i32_w]; rw [c4b0]) | skip)
        have H' := Aside0.mk H
        clear H
        go_wp2
        go_meet
        case rel => exact ⟨_, (decide ((Go.bits .and .i64 (a0.size : Int) 1) > 0)), (by first | rfl | (simp; done) | (simp [*]; done)), H', ⟨by first | omega | exact Nat.le_refl _⟩, ⟨by repeat (first | (with_reducible first | exact HB.out | apply below_alloc | apply pw_below_drewN | apply below_drew1) | exact HB.out)⟩⟩
    case rest =>
      clear HC3
      try clear c1
      try clear c2
      try clear c2b0
      try clear c2b1
      try clear p2
      try clear c4
      try clear c4b0
      try clear c4b1
      obtain ⟨kq, x16_2, rfl, HA, HJ2, HB⟩ := hcut
      cases kq with
      | zero => exact absurd HA.out (by simp [trace_Bytes.j0])
      | succ kj2 =>
        have H := HA.out
        clear HA
        simp only [trace_Bytes.j0] at H
        by_cases c5 : x16_2 = true
        · subst c5
          have H1 : (some (([] : List Int), false)) = some (r1, r2) := by rw [if_pos rfl] at H; exact H
          clear H
          have H := H1
          clear H1
          simp only [Option.some.injEq, Prod.mk.injEq] at H
          obtain ⟨rfl, rfl⟩ := H
          go_wp2
          go_ret2
          exact ⟨_, by first | rfl | (simp [errW_none, errW_some] <;> rfl) | (simp [*, errW_none, errW_some] <;> rfl), by first | exact Kd.R_nil _ _ _ _ _ | exact Kd.N_nil _ _ _ _ _ | exact Kd.V_nil _ _ _ _ _ | exact Kd.Q_nil _ _ _ _ _ | exact Kd.S_nil _ _ _ _ _, by repeat (first | (with_reducible first | exact HB.out | apply below_alloc | apply pw_below_drewN | apply below_drew1) | exact HB.out)⟩
        · replace c5 := Bool.eq_false_iff.mpr c5
          subst c5
          have H1 : (if 0 ≤ (wrap64 ((a0.size : Int) / 2)) then (if (wrap64 ((a0.size : Int) / 2) : Int).toNat ≤ 281474976710656 then (trace_Bytes.l0 kj2 a0 (List.replicate (wrap64 ((a0.size : Int) / 2) : Int).toNat 0) (a0.size : Int) 0) else (none)) else (none)) = some (r1, r2) := by rw [if_neg (show ¬ (false = true) by decide)] at H; exact H
          clear H
          have H := H1
          clear H1
          obtain ⟨ji6, hji6⟩ : ∃ j_ : Int, (wrap64 ((a0.size : Int) / 2)) = j_ := ⟨_, rfl⟩
          replace H : (if 0 ≤ (ji6) then (if (ji6 : Int).toNat ≤ 281474976710656 then (trace_Bytes.l0 kj2 a0 (List.replicate (ji6 : Int).toNat 0) (a0.size : Int) 0) else (none)) else (none)) = some (r1, r2) := by first | (rw [hji6] at H; exact H) | (simp only [hji6] at H ⊢; exact H)
          have hji6w : (IntKind.i64.wrap ((a0.size : Int) / 2)) = ji6 := (i64_w _).trans hji6
          by_cases c7 : 0 ≤ (ji6)
          · rw [if_pos c7] at H
            have c7b0 := eq_true c7
            have c7b1 : decide (0 ≤ (ji6)) = true := decide_eq_true c7
            clear c7
            by_cases c8 : (ji6 : Int).toNat ≤ 281474976710656
            · rw [if_pos c8] at H
              have c8b0 := eq_true c8
              have c8b1 : decide ((ji6 : Int).toNat ≤ 281474976710656) = true := decide_eq_true c8
              clear c8
              obtain ⟨y105, hy105⟩ : ∃ y_ : List Int, y_ = (List.replicate (ji6 : Int).toNat 0) := ⟨_, rfl⟩
              replace H : (trace_Bytes.l0 kj2 a0 y105 (a0.size : Int) 0) = some (r1, r2) := by first | (rw [hy105]; with_reducible exact H) | (have H2_ := (Option.bind_some _ _).symm.trans H; rw [hy105]; with_reducible exact H2_) | (have H2_ := (Option.bind_some _ _).symm.trans H; with_reducible exact H2_) | with_reducible exact H | (rw [hy105]; exact H) | exact H
              have Ny105 := Aside0.mk hy105
              clear hy105
              have H' := Aside0.mk H
              clear H
              go_wp2_with (first | ((with_reducible refine gate_dst (N := 20) rfl ?_); (try (refine gate_guard (by rfl) ?_; dsimp only)); refine Kd.R_make (Kd.int .u8) _ 5 rfl (N := 20) rfl 22 _ _ rfl ji6 rfl rfl Tryd.underlying22 (.int .u8 0) 1 info5 rfl (by decide) (by omega) 0 (ok := fun _ => True) (okp := fun _ => True) rfl (fun _ hk => hk) trivial (of_decide_eq_true (by first | (with_reducible assumption) | assumption)) (Nat.le_trans (Nat.mul_le_mul_right _ (of_decide_eq_true (by first | (with_reducible assumption) | assumption) : ji6.toNat ≤ 281474976710656)) (by omega)) (Below.refl _ _) (Nat.le_refl _) ?_; intro v106 w9 ho10 hb hg_ hnew_; clear hg_ hnew_; (first | rw [← Ny105.out] at ho10 | (simp only [Int.reduceToNat] at ho10; rw [← Ny105.out] at ho10)); have n0_ := Aside0.mk (Kd.R_lower ho10 (below_size (by repeat (first | (with_reducible first | exact HB.out | apply below_alloc | apply pw_below_drewN | apply below_drew1) | exact HB.out)))); have n1_ := Aside0.mk (below_step (by repeat (first | (with_reducible first | exact HB.out | apply below_alloc | apply pw_below_drewN | apply below_drew1) | exact HB.out)) hb); clear HB; have HO107 := n0_; have HB := n1_; clear n0_ n1_; clear hb ho10))
              go_loopg [23] kj2 (fun kq v23 w' => ∃ (x4_2 : List Int) (x23_2 : Int), v23 = .int .i64 x23_2 ∧ Aside0 (trace_Bytes.l0 kq a0 x4_2 (a0.size : Int) x23_2 = some (r1, r2)) ∧ Aside0 (kq ≤ kj2) ∧ Aside0 (Kd.R (Kd.int .u8) 5 w' w.heap.size (fun _ => True) v106 x4_2) ∧ Aside0 (Below w.heap.size w w'))
              case atStart => exact ⟨(y105), (0), (by first | rfl | (simp; done) | (simp [*]; done)), H', ⟨Nat.le_refl _⟩, ⟨by (with_reducible repeat (first | apply Kd.R_alloc | apply Kd.R_drewN | apply Kd.R_drew)); exact HO107.out⟩, ⟨by repeat (first | (with_reducible first | exact HB.out | apply below_alloc | apply pw_below_drewN | apply below_drew1) | exact HB.out)⟩⟩
              case round =>
                clear H'
                try clear c1
                try clear c2
                try clear c2b0
                try clear c2b1
                try clear p2
                try clear c4
                try clear c4b0
                try clear c4b1
                try clear c5
                try clear p6
                try clear c7
                try clear c7b0
                try clear c7b1
                try clear c8
                try clear c8b0
                try clear c8b1
                try clear p2
                obtain ⟨x4_2, x23_2, rfl, HA, HK2, HO_4, HB⟩ := hrel
                cases gk with
                | zero => exact absurd HA.out (by simp [trace_Bytes.l0])
                | succ k2 =>
                  have H := HA.out
                  clear HA
                  simp only [trace_Bytes.l0] at H
                  by_cases c11 : x23_2 < (a0.size : Int)
                  · rw [if_pos c11] at H
                    have c11b0 : decide (x23_2 < (a0.size : Int)) = true := decide_eq_true c11
                    clear c11
                    by_cases c12 : 0 ≤ x23_2
                    · rw [if_pos c12] at H
                      have c12b0 : decide (0 ≤ x23_2) = true := decide_eq_true c12
                      clear c12
                      by_cases c13 : x23_2 < (a0.size : Int)
                      · rw [if_pos c13] at H
                        have c13b0 : decide (x23_2 < (a0.size : Int)) = true := decide_eq_true c13
                        clear c13
                        replace H := Option.bind_eq_some_iff.mp H
                        obtain ⟨t108, A150, H⟩ := H
                        replace H : (if t108 < 0 then (some (([] : List Int), false)) else (if 0 ≤ (wrap64 (Int.tdiv x23_2 2)) then (if (wrap64 (Int.tdiv x23_2 2)) < (x4_2.length : Int) then (trace_Bytes.l0 k2 a0 (x4_2.set ((wrap64 (Int.tdiv x23_2 2)) : Int).toNat (Go.bits .or .u8 (((rd x4_2 (wrap64 (Int.tdiv x23_2 2))) * 16) % 256) ((t108) % 256))) (a0.size : Int) (wrap64 (x23_2 + 1))) else (none)) else (none))) = some (r1, r2) := H
                        have A15 := Aside0.mk A150
                        clear A150
                        by_cases c16 : t108 < 0
                        · rw [if_pos c16] at H
                          have c16b0 : decide (t108 < 0) = true := decide_eq_true c16
                          clear c16
                          simp only [Option.some.injEq, Prod.mk.injEq] at H
                          obtain ⟨rfl, rfl⟩ := H
                          have p14 : 0 ≤ (x23_2 : Int) := of_decide_eq_true (by first | (with_reducible assumption) | assumption)
                          have q14 : x23_2 < (a0.size : Int) := of_decide_eq_true (by first | (with_reducible assumption) | assumption)
                          have hx14 := bt_at a0 x23_2
                          replace p14 := eq_true p14
                          replace q14 := eq_true q14
                          go_wp2_with (first | ((with_reducible refine gate_callee (f := 28) rfl ?_); refine goesL_ (some 29) rfl rfl Tryd.func28 (by kernel_rfl) rfl #[.string (⟨#[48, 49, 50, 51, 52, 53, 54, 55, 56, 57, 97, 98, 99, 100, 101, 102]⟩ : ByteArray), .int .u8 (bt a0 x23_2)] rfl (by (try simp only [List.map_toArray, List.map_cons, List.map_nil]); first | done | rfl | (simp only [List.length_drop, List.length_take]; rfl)) ?_; (with_reducible refine (strings_IndexByte.calls (⟨#[48, 49, 50, 51, 52, 53, 54, 55, 56, 57, 97, 98, 99, 100, 101, 102]⟩ : ByteArray) (bt a0 x23_2) t108 _ A15.out).mono ?_); rintro e w' ⟨rfl, ⟨nd, rfl⟩⟩; refine ⟨_, rfl, ?_⟩))
                          go_ret2
                          exact ⟨_, by first | rfl | (simp [errW_none, errW_some] <;> rfl) | (simp only [← hji6]; first | rfl | (simp [errW_none, errW_some] <;> rfl)) | (simp [*, errW_none, errW_some] <;> rfl), by first | exact Kd.R_nil _ _ _ _ _ | exact Kd.N_nil _ _ _ _ _ | exact Kd.V_nil _ _ _ _ _ | exact Kd.Q_nil _ _ _ _ _ | exact Kd.S_nil _ _ _ _ _, by repeat (first | (with_reducible first | exact HB.out | apply below_alloc | apply pw_below_drewN | apply below_drew1) | exact HB.out)⟩
                        · rw [if_neg c16] at H
                          have c16b0 : decide (t108 < 0) = false := decide_eq_false c16
                          clear c16
                          obtain ⟨ji17, hji17⟩ : ∃ j_ : Int, (wrap64 (Int.tdiv x23_2 2)) = j_ := ⟨_, rfl⟩
                          replace H : (if 0 ≤ (ji17) then (if (ji17) < (x4_2.length : Int) then (trace_Bytes.l0 k2 a0 (x4_2.set ((ji17) : Int).toNat (Go.bits .or .u8 (((rd x4_2 (ji17)) * 16) % 256) ((t108) % 256))) (a0.size : Int) (wrap64 (x23_2 + 1))) else (none)) else (none)) = some (r1, r2) := by first | (rw [hji17] at H; exact H) | (simp only [hji17] at H ⊢; exact H)
                          (try rw [hji17] at A15)
                          have hji17w : (IntKind.i64.wrap (Int.tdiv x23_2 2)) = ji17 := (i64_w _).trans hji17
                          by_cases c18 : 0 ≤ (ji17)
                          · rw [if_pos c18] at H
                            have c18b0 : decide (0 ≤ (ji17)) = true := decide_eq_true c18
                            clear c18
                            by_cases c19 : (ji17) < (x4_2.length : Int)
                            · rw [if_pos c19] at H
                              have c19b0 : decide ((ji17) < (x4_2.length : Int)) = true := decide_eq_true c19
                              clear c19
                              obtain ⟨y110, hy110⟩ : ∃ y_ : List Int, y_ = (x4_2.set ((ji17) : Int).toNat (Go.bits .or .u8 (((rd x4_2 (ji17)) * 16) % 256) ((t108) % 256))) := ⟨_, rfl⟩
                              replace H : (trace_Bytes.l0 k2 a0 y110 (a0.size : Int) (wrap64 (x23_2 + 1))) = some (r1, r2) := by first | (rw [hy110]; with_reducible exact H) | (have H2_ := (Option.bind_some _ _).symm.trans H; rw [hy110]; with_reducible exact H2_) | (have H2_ := (Option.bind_some _ _).symm.trans H; with_reducible exact H2_) | with_reducible exact H | (rw [hy110]; exact H) | exact H
                              have Ny110 := Aside0.mk hy110
                              clear hy110
                              have H' := Aside0.mk H
                              clear H
                              have p14 : 0 ≤ (x23_2 : Int) := of_decide_eq_true (by first | (with_reducible assumption) | assumption)
                              have q14 : x23_2 < (a0.size : Int) := of_decide_eq_true (by first | (with_reducible assumption) | assumption)
                              have hx14 := bt_at a0 x23_2
                              replace p14 := eq_true p14
                              replace q14 := eq_true q14
                              go_wp2_with (first | ((with_reducible refine gate_callee (f := 28) rfl ?_); refine goesL_ (some 29) rfl rfl Tryd.func28 (by kernel_rfl) rfl #[.string (⟨#[48, 49, 50, 51, 52, 53, 54, 55, 56, 57, 97, 98, 99, 100, 101, 102]⟩ : ByteArray), .int .u8 (bt a0 x23_2)] rfl (by (try simp only [List.map_toArray, List.map_cons, List.map_nil]); first | done | rfl | (simp only [List.length_drop, List.length_take]; rfl)) ?_; (with_reducible refine (strings_IndexByte.calls (⟨#[48, 49, 50, 51, 52, 53, 54, 55, 56, 57, 97, 98, 99, 100, 101, 102]⟩ : ByteArray) (bt a0 x23_2) t108 _ A15.out).mono ?_); rintro e w' ⟨rfl, ⟨nd, rfl⟩⟩; refine ⟨_, rfl, ?_⟩; (try (rw [drewN_self wr]; generalize hq_ : World.drewN wr _ = wr; have n0_ : Aside0 (Kd.R (Kd.int .u8) 5 wr w.heap.size (fun _ => True) v106 x4_2) := ⟨by rw [← hq_]; exact (by (with_reducible repeat (first | apply Kd.R_alloc | apply Kd.R_drewN | apply Kd.R_drew)); exact HO_4.out)⟩; have n1_ : Aside0 (Below w.heap.size w wr) := ⟨by rw [← hq_]; exact (by repeat (first | (with_reducible first | exact HB.out | apply below_alloc | apply pw_below_drewN | apply below_drew1) | exact HB.out))⟩; clear HO_4 HB hq_; have HO_4 := n0_; have HB := n1_; clear n0_ n1_)); obtain ⟨Ao21, co21, eo21⟩ := Kd.R_slice HO_4.out; subst eo21; have p109 : 0 ≤ ((ji17) : Int) := of_decide_eq_true (by first | (with_reducible assumption) | assumption); have q109 : (ji17) < (x4_2.length : Int) := of_decide_eq_true (by first | (with_reducible assumption) | assumption); obtain ⟨ad109, e109, hx109_0⟩ := Kd.at_int (Kd.R_reads' HO_4.out).2.2 (ji17) p109 q109; cases e109; replace p109 := eq_true p109; replace q109 := eq_true q109; have p20 : 0 ≤ ((ji17) : Int) := of_decide_eq_true (by first | (with_reducible assumption) | assumption); have q20 : ((ji17) : Int) < ((x4_2.length : Int) : Int) := of_decide_eq_true (by first | (with_reducible assumption) | assumption); obtain ⟨go20, co20, eo20, gb20, gl20, cl20, HG20⟩ := Kd.R_form HO_4.out (by omega); (first | cases eo20 | (injection eo20 with ea_ en_ ec_; (first | subst ea_ | (injection ea_ with ea_; subst ea_)); subst ec_; clear en_)); have GB20 := Aside0.mk gb20; have GG20 := Aside0.mk HG20; clear gb20 gl20 HG20; (first | simp only [add_plain] at hx109_0 | skip); obtain ⟨hx20_0, hf20_0⟩ := Kd.R_celln 0 HO_4.out ((ji17) : Int) p20 q20; replace p20 := eq_true p20; replace q20 := eq_true q20; obtain ⟨hy22_, hz22_⟩ := Kd.R_celln 0 HO_4.out ((ji17) : Int) (of_decide_eq_true (by first | (with_reducible assumption) | assumption)) (of_decide_eq_true (by first | (with_reducible assumption) | assumption)); have HP22 := Kd.R_putg HO_4.out ((ji17) : Int) (Go.bits .or .u8 (((rd x4_2 (ji17)) * 16) % 256) ((t108) % 256))) | ((with_reducible refine gate_store (t := 5) (p := 44) rfl ?_); refine store_event (t := 5) (p := 44) (v := ?vo_w23) (w1 := (wr.setCell ⟨go20, ((ji17) : Int).toNat, none⟩ (.int .u8 (Go.bits .or .u8 (((rd x4_2 (ji17)) * 16) % 256) ((t108) % 256))))) ?hg ?ho ?hn ?hr ?_; (case ho => rfl); (case hg => rfl); (case hn => rfl); (case hr => first | (go_simp; done) | (go_simp; rfl)); intro w23 hw; have hg : wr.grownBy w23 (some go20) := (by rw [hw]; exact HP22.2); have hp_ : Kd.R (Kd.int .u8) 5 w23 w.heap.size (fun _ => True) (.slice (some ⟨go20, 0, none⟩) x4_2.length co21) y110 := (by rw [hw, Ny110.out]; exact HP22.1); clear HP22; have n0_ := Aside0.mk (hp_); have n1_ := Aside0.mk ((by rw [hw]; exact below_set (HB.out) GB20.out : Below w.heap.size w w23)); clear HO_4; clear HB; have HO_4 := n0_; have HB := n1_; clear n0_ n1_; clear hg hw hp_))
                              go_roundg k2
                              case measure => have := HJ2.out; have := HK2.out; omega
                              case rel => exact ⟨(y110), (wrap64 (x23_2 + 1)), (by first | rfl | (simp; done) | (simp [*]; done)), H', ⟨by have := HJ2.out; have := HK2.out; omega⟩, ⟨by (with_reducible repeat (first | apply Kd.R_alloc | apply Kd.R_drewN | apply Kd.R_drew)); exact HO_4.out⟩, ⟨by repeat (first | (with_reducible first | exact HB.out | apply below_alloc | apply pw_below_drewN | apply below_drew1) | exact HB.out)⟩⟩
                            · rw [if_neg c19] at H
                              exact absurd H (by simp)
                          · rw [if_neg c18] at H
                            exact absurd H (by simp)
                      · rw [if_neg c13] at H
                        exact absurd H (by simp)
                    · rw [if_neg c12] at H
                      exact absurd H (by simp)
                  · rw [if_neg c11] at H
                    have c11b0 : decide (x23_2 < (a0.size : Int)) = false := decide_eq_false c11
                    clear c11
                    simp only [Option.some.injEq, Prod.mk.injEq] at H
                    obtain ⟨rfl, rfl⟩ := H
                    go_wp2
                    go_ret2
                    exact ⟨_, by first | rfl | (simp [errW_none, errW_some] <;> rfl) | (simp only [← hji6]; first | rfl | (simp [errW_none, errW_some] <;> rfl)) | (simp [*, errW_none, errW_some] <;> rfl), by (with_reducible repeat (first | apply Kd.R_alloc | apply Kd.R_drewN | apply Kd.R_drew)); exact HO_4.out, by repeat (first | (with_reducible first | exact HB.out | apply below_alloc | apply pw_below_drewN | apply below_drew1) | exact HB.out)⟩
            · rw [if_neg c8] at H
              exact absurd H (by simp)
          · rw [if_neg c7] at H
            exact absurd H (by simp)

-- LEFT OUT: function 63 (strconv_small)

-- LEFT OUT: function 74 (strconv_log10Pow2)

-- LEFT OUT: function 75 (bits_Len64)

-- LEFT OUT: function 76 (strconv_bool2_int)

-- NOT PRINTED: function 64 (strconv_numDigits)

-- NOT PRINTED: function 65 (strconv_formatBase10)

-- LEFT OUT: function 77 (strconv_isPowerOfTwo)

-- NOT PRINTED: function 86 (bits_TrailingZeros32)

-- NOT PRINTED: function 87 (bits_TrailingZeros64)

-- NOT PRINTED: function 78 (bits_TrailingZeros)

-- NOT PRINTED: function 66 (strconv_formatBits)

-- NOT PRINTED: function 57 (strconv_FormatInt)

-- NOT PRINTED: function 45 (strconv_Itoa_45)

-- NOT PRINTED: function 30 (strconv_Itoa_30)

-- LEFT OUT: function 91 (strconv_lower)

-- LEFT OUT: function 92 (strconv_underscoreOK)

-- LEFT OUT: function 88 (strconv_ParseUint)

-- NOT PRINTED: function 79 (strconv_ParseInt)

/-! ### cv_str: stands for a conversion -/
def cv_str.f (a0 : ByteArray) : Option (List Int) := if a0.size ≤ 9223372036854775807 then some (bytesOf a0) else none
theorem cv_str.calls (a0 : ByteArray) (r : List Int) (w : World) (h : cv_str.f a0 = some r) : ConvStr Tryd.prog 9 22 a0 w fun e w' => ∃ v0_ : Value, e = .returned (v0_) ∧ Kd.V (Kd.int .u8) 5 w' w.heap.size (fun k_ => w.heap.size ≤ k_) v0_ r ∧ Below w.heap.size w w' := by
  unfold cv_str.f at h
  split at h
  · obtain rfl := Option.some.inj h
    exact conv_str Tryd.underlying9 Tryd.underlying22 Tryd.underlying5 a0 (by assumption)
  · cases h

-- NOT PRINTED: function 67 (strconv_Atoi_67)

-- NOT PRINTED: function 89 (stringslite_Clone)

-- NOT PRINTED: function 80 (strconv_syntaxError)

-- NOT PRINTED: function 81 (strconv_rangeError)

-- NOT PRINTED: function 90 (errors_New)

-- NOT PRINTED: function 82 (strconv_baseError)

-- NOT PRINTED: function 83 (strconv_bitSizeError)

-- NOT PRINTED: function 68 (strconv_toError)

-- NOT PRINTED: function 59 (strconv_Atoi_59)

/-! ### stringslite_TrimPrefix: function 69 -/
def stringslite_TrimPrefix.f (a0 : ByteArray) (a1 : ByteArray) : Option (ByteArray) := (stringslite_HasPrefix.f a0 a1).bind fun t135 => (if t135 = true then (if 0 ≤ (a1.size : Int) then (if (a1.size : Int) ≤ (a0.size : Int) then (some (a0.extract ((a1.size : Int) : Int).toNat a0.size)) else (none)) else (none)) else (some a0))
set_option maxHeartbeats 8000000 in
set_option maxRecDepth 100000 in
theorem stringslite_TrimPrefix.calls (a0 : ByteArray) (a1 : ByteArray) (r : ByteArray) (w : World) (h : stringslite_TrimPrefix.f a0 a1 = some r) :
    Calls Tryd.prog 69 #[.string a0, .string a1] w fun e w' => e = .returned (.string r) ∧ Drawn0 w w' := by
  have H : ((stringslite_HasPrefix.f a0 a1).bind fun t135 => (if t135 = true then (if 0 ≤ (a1.size : Int) then (if (a1.size : Int) ≤ (a0.size : Int) then (some (a0.extract ((a1.size : Int) : Int).toNat a0.size)) else (none)) else (none)) else (some a0))) = some r := h
  clear h
  replace H := Option.bind_eq_some_iff.mp H
  obtain ⟨t135, A30, H⟩ := H
  replace H : (if t135 = true then (if 0 ≤ (a1.size : Int) then (if (a1.size : Int) ≤ (a0.size : Int) then (some (a0.extract ((a1.size : Int) : Int).toNat a0.size)) else (none)) else (none)) else (some a0)) = some r := H
  have A3 := Aside0.mk A30
  clear A30
  by_cases c4 : t135 = true
  · subst c4
    have H1 : (if 0 ≤ (a1.size : Int) then (if (a1.size : Int) ≤ (a0.size : Int) then (some (a0.extract ((a1.size : Int) : Int).toNat a0.size)) else (none)) else (none)) = some r := by rw [if_pos rfl] at H; exact H
    clear H
    have H := H1
    clear H1
    by_cases c5 : 0 ≤ (a1.size : Int)
    · rw [if_pos c5] at H
      have c5b0 := eq_true c5
      have c5b1 : decide (0 ≤ (a1.size : Int)) = true := decide_eq_true c5
      clear c5
      by_cases c6 : (a1.size : Int) ≤ (a0.size : Int)
      · rw [if_pos c6] at H
        have c6b0 := eq_true c6
        have c6b1 : decide ((a1.size : Int) ≤ (a0.size : Int)) = true := decide_eq_true c6
        clear c6
        obtain rfl := Option.some.inj H
        go_enter Tryd.func69, Tryd.ntmps69
        go_wp2_with (first | ((with_reducible refine gate_callee (f := 58) rfl ?_); refine goesL_ (some 7) rfl rfl Tryd.func58 (by kernel_rfl) rfl #[.string a0, .string a1] rfl (by (try simp only [List.map_toArray, List.map_cons, List.map_nil]); first | done | rfl | (simp only [List.length_drop, List.length_take]; rfl)) ?_; (with_reducible refine (stringslite_HasPrefix.calls a0 a1 true _ A3.out).mono ?_); rintro e w' ⟨rfl, ⟨nd, rfl⟩⟩; refine ⟨_, rfl, ?_⟩))
        go_ret
        exact ⟨by first | rfl | (simp; done) | (simp [*]; done), by repeat (first | exact Drawn0.refl _ | apply Drawn0.step)⟩
      · rw [if_neg c6] at H
        exact absurd H (by simp)
    · rw [if_neg c5] at H
      exact absurd H (by simp)
  · replace c4 := Bool.eq_false_iff.mpr c4
    subst c4
    have H1 : (some a0) = some r := by rw [if_neg (show ¬ (false = true) by decide)] at H; exact H
    clear H
    have H := H1
    clear H1
    obtain rfl := Option.some.inj H
    go_enter Tryd.func69, Tryd.ntmps69
    go_wp2_with (first | ((with_reducible refine gate_callee (f := 58) rfl ?_); refine goesL_ (some 7) rfl rfl Tryd.func58 (by kernel_rfl) rfl #[.string a0, .string a1] rfl (by (try simp only [List.map_toArray, List.map_cons, List.map_nil]); first | done | rfl | (simp only [List.length_drop, List.length_take]; rfl)) ?_; (with_reducible refine (stringslite_HasPrefix.calls a0 a1 false _ A3.out).mono ?_); rintro e w' ⟨rfl, ⟨nd, rfl⟩⟩; refine ⟨_, rfl, ?_⟩))
    go_ret
    exact ⟨by first | rfl | (simp; done) | (simp [*]; done), by repeat (first | exact Drawn0.refl _ | apply Drawn0.step)⟩

/-! ### strings_TrimPrefix: function 60 -/
def strings_TrimPrefix.f (a0 : ByteArray) (a1 : ByteArray) : Option (ByteArray) := (stringslite_TrimPrefix.f a0 a1).bind fun t136 => (some t136)
set_option maxHeartbeats 8000000 in
set_option maxRecDepth 100000 in
theorem strings_TrimPrefix.calls (a0 : ByteArray) (a1 : ByteArray) (r : ByteArray) (w : World) (h : strings_TrimPrefix.f a0 a1 = some r) :
    Calls Tryd.prog 60 #[.string a0, .string a1] w fun e w' => e = .returned (.string r) ∧ Drawn0 w w' := by
  have H : ((stringslite_TrimPrefix.f a0 a1).bind fun t136 => (some t136)) = some r := h
  clear h
  replace H := Option.bind_eq_some_iff.mp H
  obtain ⟨t136, A30, H⟩ := H
  replace H : (some t136) = some r := H
  have A3 := Aside0.mk A30
  clear A30
  obtain rfl := Option.some.inj H
  go_enter Tryd.func60, Tryd.ntmps60
  go_wp2_with (first | ((with_reducible refine gate_callee (f := 69) rfl ?_); refine goesL_ (some 7) rfl rfl Tryd.func69 (by kernel_rfl) rfl #[.string a0, .string a1] rfl (by (try simp only [List.map_toArray, List.map_cons, List.map_nil]); first | done | rfl | (simp only [List.length_drop, List.length_take]; rfl)) ?_; (with_reducible refine (stringslite_TrimPrefix.calls a0 a1 t136 _ A3.out).mono ?_); rintro e w' ⟨rfl, ⟨nd, rfl⟩⟩; refine ⟨_, rfl, ?_⟩))
  go_ret
  exact ⟨by first | rfl | (simp; done) | (simp [*]; done), by repeat (first | exact Drawn0.refl _ | apply Drawn0.step)⟩

-- NOT PRINTED: function 48 (trace_number)

-- NOT PRINTED: function 33 (trace_kind_fill)

-- NOT PRINTED: function 50 (utf8_RuneCountInString)

-- NOT PRINTED: function 51 (bytealg_CountString)

-- NOT PRINTED: function 71 (bytealg_IndexString)

-- LEFT OUT: function 72 (bytealg_Cutover)

-- LEFT OUT: function 85 (bytealg_hashStr_string)

-- LEFT OUT: function 73 (bytealg_IndexRabinKarp_string)

/-! ### stringslite_Index: function 62 -/
def stringslite_Index.f (a0 : ByteArray) (a1 : ByteArray) : Option (Int) := if a1.size = 1 then stringslite_IndexByte.f a0 (bt a1 0) else none
set_option maxHeartbeats 1000000 in
set_option maxRecDepth 100000 in
theorem stringslite_Index.calls (a0 : ByteArray) (a1 : ByteArray) (r : Int) (w : World) (h : stringslite_Index.f a0 a1 = some r) :
    Calls Tryd.prog 62 #[.string a0, .string a1] w fun e w' => e = .returned (.int .i64 r) ∧ Drawn0 w w' := by
  unfold stringslite_Index.f at h
  by_cases h1 : a1.size = 1
  · rw [if_pos h1] at h
    obtain ⟨c, rfl⟩ := Lib.one_byte a1 h1
    have e : bt ⟨#[c]⟩ 0 = (c.toNat : Int) := rfl
    rw [e] at h
    have HH := Lib.hid h
    clear h h1 e
    go_enter Tryd.func62, Tryd.ntmps62
    go_wp2_with (go_at_call 44; refine (stringslite_IndexByte.calls _ _ _ _ HH.out).mono ?_; rintro e w' ⟨rfl, ⟨nd, rfl⟩⟩)
    · have h : ([c] == a0.toList) = true := by assumption
      have hr : r = 0 := by
        have h2 := HH.out
        have e : a0.data.toList = [c] := by rw [← Lib.toList_data]; exact (beq_iff_eq.1 h).symm
        unfold stringslite_IndexByte.f at h2
        rw [e] at h2
        simpa [Lib.indexByte] using h2.symm
      go_ret
      exact ⟨by rw [hr]; rfl, by repeat (first | exact Drawn0.refl _ | apply Drawn0.step)⟩
    · go_ret
      exact ⟨rfl, by repeat (first | exact Drawn0.refl _ | apply Drawn0.step)⟩
  · rw [if_neg h1] at h
    cases h


/-! ### strings_Index: function 52 -/
def strings_Index.f (a0 : ByteArray) (a1 : ByteArray) : Option (Int) := (stringslite_Index.f a0 a1).bind fun t138 => (some t138)
set_option maxHeartbeats 8000000 in
set_option maxRecDepth 100000 in
theorem strings_Index.calls (a0 : ByteArray) (a1 : ByteArray) (r : Int) (w : World) (h : strings_Index.f a0 a1 = some r) :
    Calls Tryd.prog 52 #[.string a0, .string a1] w fun e w' => e = .returned (.int .i64 r) ∧ Drawn0 w w' := by
  have H : ((stringslite_Index.f a0 a1).bind fun t138 => (some t138)) = some r := h
  clear h
  replace H := Option.bind_eq_some_iff.mp H
  obtain ⟨t138, A30, H⟩ := H
  replace H : (some t138) = some r := H
  have A3 := Aside0.mk A30
  clear A30
  obtain rfl := Option.some.inj H
  go_enter Tryd.func52, Tryd.ntmps52
  go_wp2_with (first | ((with_reducible refine gate_callee (f := 62) rfl ?_); refine goesL_ (some 7) rfl rfl Tryd.func62 (by kernel_rfl) rfl #[.string a0, .string a1] rfl (by (try simp only [List.map_toArray, List.map_cons, List.map_nil]); first | done | rfl | (simp only [List.length_drop, List.length_take]; rfl)) ?_; (with_reducible refine (stringslite_Index.calls a0 a1 t138 _ A3.out).mono ?_); rintro e w' ⟨rfl, ⟨nd, rfl⟩⟩; refine ⟨_, rfl, ?_⟩))
  go_ret
  exact ⟨by first | rfl | (simp; done) | (simp [*]; done), by repeat (first | exact Drawn0.refl _ | apply Drawn0.step)⟩

-- NOT PRINTED: function 35 (strings_Count)

-- NOT PRINTED: function 84 (utf8_decodeRuneInStringSlow)

-- NOT PRINTED: function 70 (utf8_DecodeRuneInString)

-- NOT PRINTED: function 61 (strings_explode)

-- NOT PRINTED: function 49 (strings_genSplit)

/-! ### strings_Split: function 34 -/
def strings_Split.f (a0 : ByteArray) (a1 : ByteArray) : Option (List ByteArray) := if a1.size = 1 ∧ a0.size ≤ 4000000000 then some ((cutL (a1.data.toList.headD 0) a0.data.toList).map strOf) else none
theorem split_byte (s : ByteArray) (c : UInt8) (w : World) (hs : s.size < 4294967281) :
    Calls Tryd.prog 34 #[.string s, .string ⟨#[c]⟩] w fun e w' =>
      e = .returned (.slice (some ⟨w.heap.size, 0, none⟩) (Lib.countB s ⟨#[c]⟩ + 1) (Lib.countB s ⟨#[c]⟩ + 1)) ∧ w' = w.alloc (.cells ((Lib.splitB ⟨#[c]⟩ 0 (Lib.countB s ⟨#[c]⟩) s).map Value.string).toArray 9) := by
  have L := Tryd.lays146
  have h1 : 1 ≤ (⟨#[c]⟩ : ByteArray).size := Nat.le_refl _
  have hle := Lib.countB_le ⟨#[c]⟩ h1 s.size s (Nat.le_refl _)
  have hlen := Lib.splitB_all ⟨#[c]⟩ h1 0 _ s rfl
  have hcnt : (Lib.countByte s.data.toList c : Int) = (Lib.countB s ⟨#[c]⟩ : Int) := by
    show _ = ((Lib.count s.data.toList [c] : Nat) : Int)
    rw [Lib.count_one]
    rfl
  have hidx : ∀ x : ByteArray, Lib.indexByte x.data.toList c = Lib.indexB x ⟨#[c]⟩ := fun x => by
    show _ = Lib.index x.data.toList [c]
    by_cases hc : c ∈ x.data.toList
    · obtain ⟨a, b, e, ha⟩ := first_hit hc
      rw [e, index_one_some ha, indexByte_hit ha b]
    · rw [index_one_none hc, indexByte_miss hc]
  have k := Any.strings_genSplit_core (ρ := Tryd.lays146_ren) { L with } (by kernel_rfl) s ⟨#[c]⟩ 0 (-1) (Lib.countB s ⟨#[c]⟩ + 1) w hs h1 (Nat.zero_le _)
    (fun x cs _ => by rw [← hidx]; exact Any.strings_Index_one { L with } x c _) (by rw [← hcnt]; exact Any.strings_Count_one { L with } s c w) (by decide) (by decide) (by rw [if_pos (by decide)]; omega)
  rw [Nat.add_sub_cancel, hlen] at k
  have e2 : Lib.cellsOf (Lib.splitB ⟨#[c]⟩ 0 (Lib.countB s ⟨#[c]⟩) s) (Lib.countB s ⟨#[c]⟩ + 1) = ((Lib.splitB ⟨#[c]⟩ 0 (Lib.countB s ⟨#[c]⟩) s).map Value.string).toArray := by
    have h := Lib.cellsOf_full (Lib.splitB ⟨#[c]⟩ 0 (Lib.countB s ⟨#[c]⟩) s)
    rwa [hlen] at h
  rw [e2] at k
  go_enter Tryd.func34, Tryd.ntmps34
  go_wp2_with (go_at_call 49; refine (show Calls Tryd.prog 49 _ _ _ from k).mono ?_; rintro e w' ⟨rfl, hw⟩; rw [hw])
  go_ret
  exact ⟨rfl, rfl⟩
theorem strings_Split.calls (a0 : ByteArray) (a1 : ByteArray) (r : List ByteArray) (w : World) (h : strings_Split.f a0 a1 = some r) :
    Calls Tryd.prog 34 #[.string a0, .string a1] w fun e w' => ∃ v0_ : Value, e = .returned (v0_) ∧ Kd.R Kd.string 9 w' w.heap.size (fun _ => True) v0_ r ∧ Below w.heap.size w w' := by
  unfold strings_Split.f at h
  split at h
  · rename_i hb
    obtain ⟨h1, hs⟩ := hb
    obtain rfl := Option.some.inj h
    obtain ⟨c, rfl⟩ := Lib.one_byte a1 h1
    refine (split_byte a0 c w (by omega)).mono ?_
    rintro e w' ⟨rfl, rfl⟩
    have hd : (Lib.splitB ⟨#[c]⟩ 0 (Lib.countB a0 ⟨#[c]⟩) a0).map (·.data.toList) = cutL c a0.data.toList := by
      rw [Lib.splitB_data]
      exact splitK_one c _ _ (by
        have : Lib.countB a0 ⟨#[c]⟩ = a0.data.toList.count c := by
          show Lib.count a0.data.toList [c] = _
          rw [Lib.count_one]
        rw [this]; exact Nat.le_refl _)
    have hl : Lib.splitB ⟨#[c]⟩ 0 (Lib.countB a0 ⟨#[c]⟩) a0 = (cutL c a0.data.toList).map strOf := by
      rw [← hd, List.map_map]
      conv => lhs; rw [← List.map_id (Lib.splitB ⟨#[c]⟩ 0 (Lib.countB a0 ⟨#[c]⟩) a0)]
      exact List.map_congr_left (fun z _ => by simp [strOf])
    have hlen := Lib.splitB_all ⟨#[c]⟩ (Nat.le_refl _) 0 _ a0 rfl
    have hle := Lib.countB_le ⟨#[c]⟩ (Nat.le_refl _) a0.size a0 (Nat.le_refl _)
    rw [hl] at hlen ⊢
    have hh : (⟨#[c]⟩ : ByteArray).data.toList.headD 0 = c := rfl
    rw [hh]
    refine ⟨_, rfl, ?_, (Below.refl _ w).alloc (Nat.le_refl _) _⟩
    have ho := World.ownsRow_lit (base := w.heap.size) (e := 9) (size := 1) w (((cutL c a0.data.toList).map strOf).map Value.string).toArray (Lib.countB a0 ⟨#[c]⟩ + 1) (Nat.le_refl _) (by unfold maxLen; omega) (by simp only [List.size_toArray, List.length_map] at hlen ⊢; omega)
    refine Kd.R_of_own ?_ (fun _ _ => trivial)
    rw [hlen]
    exact ho
  · cases h


-- NOT PRINTED: function 17 (trace_Read)

/-! ### stringslite_Cut: function 53 -/
def stringslite_Cut.f (a0 : ByteArray) (a1 : ByteArray) : Option (ByteArray × ByteArray × Bool) := (stringslite_Index.f a0 a1).bind fun t141 => (if t141 ≥ 0 then (if 0 ≤ t141 then (if t141 ≤ (a0.size : Int) then (if 0 ≤ (wrap64 (t141 + (a1.size : Int))) then (if (wrap64 (t141 + (a1.size : Int))) ≤ (a0.size : Int) then (some (a0.extract 0 (t141 : Int).toNat, a0.extract ((wrap64 (t141 + (a1.size : Int))) : Int).toNat a0.size, true)) else (none)) else (none)) else (none)) else (none)) else (some (a0, (⟨#[]⟩ : ByteArray), false)))
set_option maxHeartbeats 8000000 in
set_option maxRecDepth 100000 in
theorem stringslite_Cut.calls (a0 : ByteArray) (a1 : ByteArray) (r1 : ByteArray) (r2 : ByteArray) (r3 : Bool) (w : World) (h : stringslite_Cut.f a0 a1 = some (r1, r2, r3)) :
    Calls Tryd.prog 53 #[.string a0, .string a1] w fun e w' => e = .returned (.tuple #[.string r1, .string r2, .bool r3]) ∧ Drawn0 w w' := by
  have H : ((stringslite_Index.f a0 a1).bind fun t141 => (if t141 ≥ 0 then (if 0 ≤ t141 then (if t141 ≤ (a0.size : Int) then (if 0 ≤ (wrap64 (t141 + (a1.size : Int))) then (if (wrap64 (t141 + (a1.size : Int))) ≤ (a0.size : Int) then (some (a0.extract 0 (t141 : Int).toNat, a0.extract ((wrap64 (t141 + (a1.size : Int))) : Int).toNat a0.size, true)) else (none)) else (none)) else (none)) else (none)) else (some (a0, (⟨#[]⟩ : ByteArray), false)))) = some (r1, r2, r3) := h
  clear h
  replace H := Option.bind_eq_some_iff.mp H
  obtain ⟨t141, A30, H⟩ := H
  replace H : (if t141 ≥ 0 then (if 0 ≤ t141 then (if t141 ≤ (a0.size : Int) then (if 0 ≤ (wrap64 (t141 + (a1.size : Int))) then (if (wrap64 (t141 + (a1.size : Int))) ≤ (a0.size : Int) then (some (a0.extract 0 (t141 : Int).toNat, a0.extract ((wrap64 (t141 + (a1.size : Int))) : Int).toNat a0.size, true)) else (none)) else (none)) else (none)) else (none)) else (some (a0, (⟨#[]⟩ : ByteArray), false))) = some (r1, r2, r3) := H
  have A3 := Aside0.mk A30
  clear A30
  by_cases c4 : t141 ≥ 0
  · rw [if_pos c4] at H
    have c4b0 : decide (0 ≤ t141) = true := decide_eq_true c4
    clear c4
    by_cases c5 : 0 ≤ t141
    · rw [if_pos c5] at H
      have c5b0 := eq_true c5
      have c5b1 : decide (0 ≤ t141) = true := decide_eq_true c5
      clear c5
      by_cases c6 : t141 ≤ (a0.size : Int)
      · rw [if_pos c6] at H
        have c6b0 := eq_true c6
        have c6b1 : decide (t141 ≤ (a0.size : Int)) = true := decide_eq_true c6
        clear c6
        obtain ⟨ji7, hji7⟩ : ∃ j_ : Int, (wrap64 (t141 + (a1.size : Int))) = j_ := ⟨_, rfl⟩
        replace H : (if 0 ≤ (ji7) then (if (ji7) ≤ (a0.size : Int) then (some (a0.extract 0 (t141 : Int).toNat, a0.extract ((ji7) : Int).toNat a0.size, true)) else (none)) else (none)) = some (r1, r2, r3) := by first | (rw [hji7] at H; exact H) | (simp only [hji7] at H ⊢; exact H)
        (try rw [hji7] at A3)
        have hji7w : (IntKind.i64.wrap (t141 + (a1.size : Int))) = ji7 := (i64_w _).trans hji7
        by_cases c8 : 0 ≤ (ji7)
        · rw [if_pos c8] at H
          have c8b0 := eq_true c8
          have c8b1 : decide (0 ≤ (ji7)) = true := decide_eq_true c8
          clear c8
          by_cases c9 : (ji7) ≤ (a0.size : Int)
          · rw [if_pos c9] at H
            have c9b0 := eq_true c9
            have c9b1 : decide ((ji7) ≤ (a0.size : Int)) = true := decide_eq_true c9
            clear c9
            simp only [Option.some.injEq, Prod.mk.injEq] at H
            obtain ⟨rfl, rfl, rfl⟩ := H
            go_enter Tryd.func53, Tryd.ntmps53
            go_wp2_with (first | (go_at_call 62; (with_reducible refine (stringslite_Index.calls a0 a1 t141 _ A3.out).mono ?_); rintro e w' ⟨rfl, ⟨nd, rfl⟩⟩; (try first | exact ⟨rfl, _, World.drewN_drewN _ _ _⟩ | exact ⟨rfl, _, Eq.trans (World.drewN_drewN _ _ _) (congrArg (World.drewN _) (Nat.add_assoc _ _ _))⟩)))
            repeat (go_quiet (first | (go_at_call 62; (with_reducible refine (stringslite_Index.calls a0 a1 t141 _ A3.out).mono ?_); rintro e w' ⟨rfl, ⟨nd, rfl⟩⟩; (try first | exact ⟨rfl, _, World.drewN_drewN _ _ _⟩ | exact ⟨rfl, _, Eq.trans (World.drewN_drewN _ _ _) (congrArg (World.drewN _) (Nat.add_assoc _ _ _))⟩))); try go_wp2_with (first | (go_at_call 62; (with_reducible refine (stringslite_Index.calls a0 a1 t141 _ A3.out).mono ?_); rintro e w' ⟨rfl, ⟨nd, rfl⟩⟩; (try first | exact ⟨rfl, _, World.drewN_drewN _ _ _⟩ | exact ⟨rfl, _, Eq.trans (World.drewN_drewN _ _ _) (congrArg (World.drewN _) (Nat.add_assoc _ _ _))⟩))))
            go_ret3
            exact ⟨by first | rfl | (simp; done) | (simp only [← hji7] <;> (first | rfl | simp)) | (simp [*]; done), by repeat (first | exact Drawn0.refl _ | apply Drawn0.step)⟩
          · rw [if_neg c9] at H
            exact absurd H (by simp)
        · rw [if_neg c8] at H
          exact absurd H (by simp)
      · rw [if_neg c6] at H
        exact absurd H (by simp)
    · rw [if_neg c5] at H
      exact absurd H (by simp)
  · rw [if_neg c4] at H
    have c4b0 : decide (0 ≤ t141) = false := decide_eq_false c4
    clear c4
    simp only [Option.some.injEq, Prod.mk.injEq] at H
    obtain ⟨rfl, rfl, rfl⟩ := H
    go_enter Tryd.func53, Tryd.ntmps53
    go_wp2_with (first | (go_at_call 62; (with_reducible refine (stringslite_Index.calls a0 a1 t141 _ A3.out).mono ?_); rintro e w' ⟨rfl, ⟨nd, rfl⟩⟩; (try first | exact ⟨rfl, _, World.drewN_drewN _ _ _⟩ | exact ⟨rfl, _, Eq.trans (World.drewN_drewN _ _ _) (congrArg (World.drewN _) (Nat.add_assoc _ _ _))⟩)))
    repeat (go_quiet (first | (go_at_call 62; (with_reducible refine (stringslite_Index.calls a0 a1 t141 _ A3.out).mono ?_); rintro e w' ⟨rfl, ⟨nd, rfl⟩⟩; (try first | exact ⟨rfl, _, World.drewN_drewN _ _ _⟩ | exact ⟨rfl, _, Eq.trans (World.drewN_drewN _ _ _) (congrArg (World.drewN _) (Nat.add_assoc _ _ _))⟩))); try go_wp2_with (first | (go_at_call 62; (with_reducible refine (stringslite_Index.calls a0 a1 t141 _ A3.out).mono ?_); rintro e w' ⟨rfl, ⟨nd, rfl⟩⟩; (try first | exact ⟨rfl, _, World.drewN_drewN _ _ _⟩ | exact ⟨rfl, _, Eq.trans (World.drewN_drewN _ _ _) (congrArg (World.drewN _) (Nat.add_assoc _ _ _))⟩))))
    go_ret3
    exact ⟨by first | rfl | (simp; done) | (simp [*]; done), by repeat (first | exact Drawn0.refl _ | apply Drawn0.step)⟩

/-! ### strings_Cut: function 40 -/
def strings_Cut.f (a0 : ByteArray) (a1 : ByteArray) : Option (ByteArray × ByteArray × Bool) := (stringslite_Cut.f a0 a1).bind fun bt142 => (some (bt142.1, bt142.2.1, bt142.2.2))
set_option maxHeartbeats 8000000 in
set_option maxRecDepth 100000 in
theorem strings_Cut.calls (a0 : ByteArray) (a1 : ByteArray) (r1 : ByteArray) (r2 : ByteArray) (r3 : Bool) (w : World) (h : strings_Cut.f a0 a1 = some (r1, r2, r3)) :
    Calls Tryd.prog 40 #[.string a0, .string a1] w fun e w' => e = .returned (.tuple #[.string r1, .string r2, .bool r3]) ∧ Drawn0 w w' := by
  have H : ((stringslite_Cut.f a0 a1).bind fun bt142 => (some (bt142.1, bt142.2.1, bt142.2.2))) = some (r1, r2, r3) := h
  clear h
  replace H := Option.bind_eq_some_iff.mp H
  obtain ⟨⟨t142, t143, t144⟩, A30, H⟩ := H
  replace H : (some (t142, t143, t144)) = some (r1, r2, r3) := H
  have A3 := Aside0.mk A30
  clear A30
  simp only [Option.some.injEq, Prod.mk.injEq] at H
  obtain ⟨rfl, rfl, rfl⟩ := H
  go_enter Tryd.func40, Tryd.ntmps40
  go_wp2_with (first | ((with_reducible refine gate_callee (f := 53) rfl ?_); refine goesL_ (some 9) rfl rfl Tryd.func53 (by kernel_rfl) rfl #[.string a0, .string a1] rfl (by (try simp only [List.map_toArray, List.map_cons, List.map_nil]); first | done | rfl | (simp only [List.length_drop, List.length_take]; rfl)) ?_; (with_reducible refine (stringslite_Cut.calls a0 a1 t142 t143 t144 _ A3.out).mono ?_); rintro e w' ⟨rfl, ⟨nd, rfl⟩⟩; refine ⟨_, rfl, ?_⟩))
  go_ret3
  exact ⟨by first | rfl | (simp; done) | (simp [*]; done), by repeat (first | exact Drawn0.refl _ | apply Drawn0.step)⟩

-- LEFT OUT: function 54 (trace_output)

-- NOT PRINTED: function 41 (trace_parser_line)

-- NOT PRINTED: function 23 (trace_Parse)

-- NOT PRINTED: function 10 (lamplighterlaw19_alive)

-- NOT PRINTED: function 55 (abi_NoEscape)

-- NOT PRINTED: function 43 (strings_Builder_copyCheck)

-- NOT PRINTED: function 26 (strings_Builder_WriteByte)

-- NOT PRINTED: function 27 (strings_Builder_String)

/-! ### trace_Hex: function 11 -/
def trace_Hex.f (l0 : List Int) : Option (ByteArray) := if (∀ x ∈ l0, 0 ≤ x ∧ x ≤ 255) ∧ l0.length ≤ 1000000 then some (strOf (hexT l0)) else none
theorem trace_Hex.calls (A0 : Option Addr) (c0 : Nat) (l0 : List Int) (r : ByteArray) (w : World) (hr0 : Kd.C (Kd.int .u8) w A0 l0.length l0) (hc0 : l0.length ≤ c0) (h : trace_Hex.f l0 = some r) :
    Calls Tryd.prog 11 #[.slice A0 l0.length c0] w fun e w' => e = .returned (.string r) ∧ Below w.heap.size w w' := by
  unfold trace_Hex.f at h
  by_cases q : (∀ x ∈ l0, 0 ≤ x ∧ x ≤ 255) ∧ l0.length ≤ 1000000
  · rw [if_pos q] at h
    obtain rfl := Option.some.inj h
    exact hex_walk A0 c0 l0 q.1 q.2 w hr0 hc0
  · rw [if_neg q] at h
    cases h


/-! ### lamplighterref19_value: function 29 -/
def lamplighterref19_value.j0 : Nat → Int → Bool → Option (Int)
  | 0, _, _ => none
  | k + 1, x0, x8 => if x8 = true then (some (wrap64 ((wrap64 (x0)) - 48))) else (if x0 ≥ 97 then (if x0 ≤ 102 then (some (wrap64 ((wrap64 (x0)) - 87))) else (some (-1))) else (some (-1)))
def lamplighterref19_value.f (k : Nat) (a0 : Int) : Option (Int) := if a0 ≥ 48 then (lamplighterref19_value.j0 k a0 (decide (a0 ≤ 57))) else (lamplighterref19_value.j0 k a0 false)
theorem lamplighterref19_value.mono_l : ∀ k, (∀ y0 y1, LeO (lamplighterref19_value.j0 k y0 y1) (lamplighterref19_value.j0 (k + 1) y0 y1))
  | 0 => fun _ _ r h => by simp [lamplighterref19_value.j0] at h
  | k + 1 => by
    have ih0 := lamplighterref19_value.mono_l k
    · intro y0 y1
      unfold lamplighterref19_value.j0
      repeat' first
      | (with_reducible exact ih0 _ _)
      | (with_reducible exact LeO.refl _)
      | (with_reducible exact LeO.none _)
      | (with_reducible refine LeO.ite ?_ ?_)
      | (with_reducible refine LeO.bind ?_ (fun _ => ?_))
      | exact ih0 _ _
      | exact LeO.none _
      | refine LeO.ite ?_ ?_
      | refine LeO.bind ?_ (fun _ => ?_)
theorem lamplighterref19_value.mono : ∀ a0 k, LeO (lamplighterref19_value.f k a0) (lamplighterref19_value.f (k + 1) a0) := by
  intro a0 k
  have ih0 := lamplighterref19_value.mono_l k
  unfold lamplighterref19_value.f
  repeat' first
      | (with_reducible exact ih0 _ _)
      | (with_reducible exact LeO.refl _)
      | (with_reducible exact LeO.none _)
      | (with_reducible refine LeO.ite ?_ ?_)
      | (with_reducible refine LeO.bind ?_ (fun _ => ?_))
      | exact ih0 _ _
      | exact LeO.none _
      | refine LeO.ite ?_ ?_
      | refine LeO.bind ?_ (fun _ => ?_)
set_option maxHeartbeats 8000000 in
set_option maxRecDepth 100000 in
theorem lamplighterref19_value.calls (k : Nat) (a0 : Int) (r : Int) (w : World) (h : lamplighterref19_value.f k a0 = some r) :
    Calls Tryd.prog 29 #[.int .u8 a0] w fun e w' => e = .returned (.int .i64 r) ∧ Drawn0 w w' := by
  have H : (if a0 ≥ 48 then (lamplighterref19_value.j0 k a0 (decide (a0 ≤ 57))) else (lamplighterref19_value.j0 k a0 false)) = some r := h
  clear h
  have HC2 := Aside0.mk H
  clear H
  go_enter Tryd.func29, Tryd.ntmps29
  go_upto_region 1 with (fail)
  go_cut [8] (fun v8 wc => ∃ (kq : Nat) (x8_1 : Bool), v8 = .bool x8_1 ∧ Aside0 (lamplighterref19_value.j0 kq a0 x8_1 = some r) ∧ Aside0 (kq ≤ k) ∧ Drawn0 w wc)
  case first =>
    have H := HC2.out
    clear HC2
    by_cases c3 : a0 ≥ 48
    · rw [if_pos c3] at H
      have c3b0 : decide (48 ≤ a0) = true := decide_eq_true c3
      clear c3
      (first | rw [c3b0] | (simp only [i64_w, i32_w]; rw [c3b0]) | skip)
      have H' := Aside0.mk H
      clear H
      go_wp2
      go_meet
      case rel => exact ⟨_, (decide (a0 ≤ 57)), (by first | rfl | (simp; done) | (simp [*]; done)), H', ⟨by first | omega | exact Nat.le_refl _⟩, by repeat (first | exact Drawn0.refl _ | apply Drawn0.step)⟩
    · rw [if_neg c3] at H
      have c3b0 : decide (48 ≤ a0) = false := decide_eq_false c3
      clear c3
      (first | rw [c3b0] | (simp only [i64_w, i32_w]; rw [c3b0]) | skip)
      have H' := Aside0.mk H
      clear H
      go_wp2
      go_meet
      case rel => exact ⟨_, (false), (by first | rfl | (simp; done) | (simp [*]; done)), H', ⟨by first | omega | exact Nat.le_refl _⟩, by repeat (first | exact Drawn0.refl _ | apply Drawn0.step)⟩
  case rest =>
    clear HC2
    try clear c2
    try clear p2
    try clear c3
    try clear c3b0
    obtain ⟨kq, x8_1, rfl, HA, HJ1, ⟨mc1, rfl⟩⟩ := hcut
    cases kq with
    | zero => exact absurd HA.out (by simp [lamplighterref19_value.j0])
    | succ kj1 =>
      have H := HA.out
      clear HA
      simp only [lamplighterref19_value.j0] at H
      by_cases c4 : x8_1 = true
      · subst c4
        have H1 : (some (wrap64 ((wrap64 (a0)) - 48))) = some r := by rw [if_pos rfl] at H; exact H
        clear H
        have H := H1
        clear H1
        obtain rfl := Option.some.inj H
        go_wp2
        go_ret
        exact ⟨by first | rfl | (simp; done) | (simp [*]; done), by repeat (first | exact Drawn0.refl _ | apply Drawn0.step)⟩
      · replace c4 := Bool.eq_false_iff.mpr c4
        subst c4
        have H1 : (if a0 ≥ 97 then (if a0 ≤ 102 then (some (wrap64 ((wrap64 (a0)) - 87))) else (some (-1))) else (some (-1))) = some r := by rw [if_neg (show ¬ (false = true) by decide)] at H; exact H
        clear H
        have H := H1
        clear H1
        by_cases c5 : a0 ≥ 97
        · rw [if_pos c5] at H
          have c5b0 : decide (97 ≤ a0) = true := decide_eq_true c5
          clear c5
          by_cases c6 : a0 ≤ 102
          · rw [if_pos c6] at H
            have c6b0 : decide (a0 ≤ 102) = true := decide_eq_true c6
            clear c6
            obtain rfl := Option.some.inj H
            go_wp2
            go_ret
            exact ⟨by first | rfl | (simp; done) | (simp [*]; done), by repeat (first | exact Drawn0.refl _ | apply Drawn0.step)⟩
          · rw [if_neg c6] at H
            have c6b0 : decide (a0 ≤ 102) = false := decide_eq_false c6
            clear c6
            obtain rfl := Option.some.inj H
            go_wp2
            go_ret
            exact ⟨by first | rfl | (simp; done) | (simp [*]; done), by repeat (first | exact Drawn0.refl _ | apply Drawn0.step)⟩
        · rw [if_neg c5] at H
          have c5b0 : decide (97 ≤ a0) = false := decide_eq_false c5
          clear c5
          obtain rfl := Option.some.inj H
          go_wp2
          go_ret
          exact ⟨by first | rfl | (simp; done) | (simp [*]; done), by repeat (first | exact Drawn0.refl _ | apply Drawn0.step)⟩

end Go.Proofs.YtoloooammaiipaaDoor.PI
/-
  DERIVED: THE SHELF's CONTRACTS AT THIS DUMP, IN PLAIN WORDS (tools/lay-plain.mjs out of 'YtoloooammaiipaaDoorSNum.lean', which tools/lay-shelf.mjs wrote): THE SAME DECLARATIONS UNDER THE SAME NAMES: 'import', 'namespace', 'open', 'def', 'theorem' AND NOTHING ELSE: no command of the shelf's: FOR A HAND-IN. Each laying: the table of numbers ('.._ren') and one theorem, a field a fact of the dump's own or the kernel's comparison; each contract: ONE APPLICATION.
-/
namespace Go.Proofs
open Go.Shelf
def Tryd.laysM246_ren : Go.Shelf.Ren := ⟨fun | 246 => 57 | 283 => 63 | 284 => 64 | 285 => 65 | 286 => 66 | 129 => 75 | 317 => 74 | 318 => 76 | 319 => 77 | 320 => 78 | 337 => 86 | 338 => 87 | n => n, fun | 2 => 2 | 3 => 3 | 9 => 9 | 4 => 4 | 171 => 101 | 0 => 0 | 53 => 102 | 37 => 22 | 5 => 5 | 173 => 105 | 212 => 112 | 51 => 113 | 20 => 20 | 213 => 114 | 46 => 63 | 232 => 135 | 233 => 136 | n => n, fun | 17 => 2 | 18 => 7 | 19 => 8 | n => n⟩
theorem Tryd.laysM246 : Go.Proofs.LaysM.n246 Tryd.prog Tryd.laysM246_ren := {
  mixed := by kernel_rfl
  f129 := Tryd.func75.trans (congrArg some (by kernel_rfl))
  f246 := Tryd.func57.trans (congrArg some (by kernel_rfl))
  f283 := Tryd.func63.trans (congrArg some (by kernel_rfl))
  f284 := Tryd.func64.trans (congrArg some (by kernel_rfl))
  f285 := Tryd.func65.trans (congrArg some (by kernel_rfl))
  f286 := Tryd.func66.trans (congrArg some (by kernel_rfl))
  f317 := Tryd.func74.trans (congrArg some (by kernel_rfl))
  f318 := Tryd.func76.trans (congrArg some (by kernel_rfl))
  f319 := Tryd.func77.trans (congrArg some (by kernel_rfl))
  f320 := Tryd.func78.trans (congrArg some (by kernel_rfl))
  f337 := Tryd.func86.trans (congrArg some (by kernel_rfl))
  f338 := Tryd.func87.trans (congrArg some (by kernel_rfl))
  t0 := Tryd.underlying0
  a0 := Tryd.isAgg0
  z0 := Tryd.sizeOf0
  v0 := Tryd.zeroValue0
  t2 := Tryd.underlying2
  a2 := Tryd.isAgg2
  z2 := Tryd.sizeOf2
  v2 := Tryd.zeroValue2
  t3 := Tryd.underlying3
  a3 := Tryd.isAgg3
  z3 := Tryd.sizeOf3
  v3 := Tryd.zeroValue3
  t4 := Tryd.underlying4
  a4 := Tryd.isAgg4
  z4 := Tryd.sizeOf4
  v4 := Tryd.zeroValue4
  t5 := Tryd.underlying5
  a5 := Tryd.isAgg5
  z5 := Tryd.sizeOf5
  v5 := Tryd.zeroValue5
  t9 := Tryd.underlying9
  a9 := Tryd.isAgg9
  z9 := Tryd.sizeOf9
  v9 := Tryd.zeroValue9
  t20 := Tryd.underlying20
  a20 := Tryd.isAgg20
  z20 := Tryd.sizeOf20
  v20 := Tryd.zeroValue20
  t37 := Tryd.underlying22
  a37 := Tryd.isAgg22
  z37 := Tryd.sizeOf22
  v37 := Tryd.zeroValue22
  t46 := Tryd.underlying63
  a46 := Tryd.isAgg63
  z46 := Tryd.sizeOf63
  v46 := Tryd.zeroValue63
  t51 := Tryd.underlying113
  a51 := Tryd.isAgg113
  z51 := Tryd.sizeOf113
  v51 := Tryd.zeroValue113
  t53 := Tryd.underlying102
  a53 := Tryd.isAgg102
  z53 := Tryd.sizeOf102
  v53 := Tryd.zeroValue102
  t171 := Tryd.underlying101
  a171 := Tryd.isAgg101
  z171 := Tryd.sizeOf101
  v171 := Tryd.zeroValue101
  t173 := Tryd.underlying105
  a173 := Tryd.isAgg105
  z173 := Tryd.sizeOf105
  v173 := Tryd.zeroValue105
  t212 := Tryd.underlying112
  a212 := Tryd.isAgg112
  z212 := Tryd.sizeOf112
  v212 := Tryd.zeroValue112
  t213 := Tryd.underlying114
  a213 := Tryd.isAgg114
  z213 := Tryd.sizeOf114
  t232 := Tryd.underlying135
  a232 := Tryd.isAgg135
  z232 := Tryd.sizeOf135
  v232 := Tryd.zeroValue135
  t233 := Tryd.underlying136
  a233 := Tryd.isAgg136
  z233 := Tryd.sizeOf136
  v233 := Tryd.zeroValue136
  g17 := by kernel_rfl
  g18 := by kernel_rfl
  g19 := by kernel_rfl
  i0 := by kernel_rfl
  i2 := by kernel_rfl
  i3 := by kernel_rfl
  i4 := by kernel_rfl
  i5 := by kernel_rfl
  i9 := by kernel_rfl
  i20 := by kernel_rfl
  i37 := by kernel_rfl
  i46 := by kernel_rfl
  i51 := by kernel_rfl
  i53 := by kernel_rfl
  i171 := by kernel_rfl
  i173 := by kernel_rfl
  i212 := by kernel_rfl
  i232 := by kernel_rfl
  i233 := by kernel_rfl
  m17 := by kernel_rfl
  m18 := by kernel_rfl
  m19 := by kernel_rfl }
open Go.RowKit Go.Sort Go.Lib in
/-- internal/strconv.FormatInt: "FormatInt returns the string representation of i in the given base": AT BASE 10: i's decimal numeral, for every int64. The world behind the call: the world before it, new blocks behind the heap, draws. (LAID: no walk: one application.) -/
theorem Tryd.internal_strconv_FormatInt_10 (n : Int) (h0 : -9223372036854775808 ≤ n) (h1 : n ≤ 9223372036854775807) (w : World) (htab : Lib.TabIs Tryd.prog w "internal/strconv.uint64pow10" .u64 Lib.pow10Tab) :
    Calls Tryd.prog 57 #[.int .i64 n, .int .i64 10] w fun e w' => e = .returned (.string ⟨(Lib.itoa n).toArray⟩) ∧ ∃ k os, w' = grow (w.drewN k) os := Any.internal_strconv_FormatInt_10 Tryd.laysM246 n h0 h1 w htab
def Tryd.laysC172_ren : Go.Shelf.Ren := ⟨fun | 172 => 59 | 244 => 67 | 245 => 68 | 247 => 79 | 279 => 80 | 280 => 81 | 281 => 82 | 282 => 83 | 287 => 88 | 316 => 89 | 171 => 30 | 205 => 90 | 321 => 91 | 322 => 92 | 243 => 45 | 246 => 57 | 283 => 63 | 284 => 64 | 285 => 65 | 286 => 66 | 129 => 75 | 317 => 74 | 318 => 76 | 319 => 77 | 320 => 78 | 337 => 86 | 338 => 87 | n => n, fun | 9 => 9 | 3 => 3 | 75 => 61 | 76 => 81 | 4 => 4 | 5 => 5 | 167 => 116 | 37 => 22 | 0 => 0 | 85 => 117 | 2 => 2 | 168 => 119 | 53 => 102 | 175 => 125 | 46 => 63 | 210 => 129 | 127 => 92 | 145 => 140 | 143 => 138 | 21 => 21 | 171 => 101 | 173 => 105 | 212 => 112 | 51 => 113 | 20 => 20 | 213 => 114 | 232 => 135 | 233 => 136 | 80 => 64 | n => n, fun | 15 => 3 | 16 => 4 | 17 => 2 | 18 => 7 | 19 => 8 | n => n⟩
theorem Tryd.laysC172 : Go.Proofs.LaysC.n172 Tryd.prog Tryd.laysC172_ren := {
  mixed := by kernel_rfl
  f129 := Tryd.func75.trans (congrArg some (by kernel_rfl))
  f171 := Tryd.func30.trans (congrArg some (by kernel_rfl))
  f172 := Tryd.func59.trans (congrArg some (by kernel_rfl))
  f205 := Tryd.func90.trans (congrArg some (by kernel_rfl))
  f243 := Tryd.func45.trans (congrArg some (by kernel_rfl))
  f244 := Tryd.func67.trans (congrArg some (by kernel_rfl))
  f245 := Tryd.func68.trans (congrArg some (by kernel_rfl))
  f246 := Tryd.func57.trans (congrArg some (by kernel_rfl))
  f247 := Tryd.func79.trans (congrArg some (by kernel_rfl))
  f279 := Tryd.func80.trans (congrArg some (by kernel_rfl))
  f280 := Tryd.func81.trans (congrArg some (by kernel_rfl))
  f281 := Tryd.func82.trans (congrArg some (by kernel_rfl))
  f282 := Tryd.func83.trans (congrArg some (by kernel_rfl))
  f283 := Tryd.func63.trans (congrArg some (by kernel_rfl))
  f284 := Tryd.func64.trans (congrArg some (by kernel_rfl))
  f285 := Tryd.func65.trans (congrArg some (by kernel_rfl))
  f286 := Tryd.func66.trans (congrArg some (by kernel_rfl))
  f287 := Tryd.func88.trans (congrArg some (by kernel_rfl))
  f316 := Tryd.func89.trans (congrArg some (by kernel_rfl))
  f317 := Tryd.func74.trans (congrArg some (by kernel_rfl))
  f318 := Tryd.func76.trans (congrArg some (by kernel_rfl))
  f319 := Tryd.func77.trans (congrArg some (by kernel_rfl))
  f320 := Tryd.func78.trans (congrArg some (by kernel_rfl))
  f321 := Tryd.func91.trans (congrArg some (by kernel_rfl))
  f322 := Tryd.func92.trans (congrArg some (by kernel_rfl))
  f337 := Tryd.func86.trans (congrArg some (by kernel_rfl))
  f338 := Tryd.func87.trans (congrArg some (by kernel_rfl))
  t0 := Tryd.underlying0
  a0 := Tryd.isAgg0
  z0 := Tryd.sizeOf0
  v0 := Tryd.zeroValue0
  t2 := Tryd.underlying2
  a2 := Tryd.isAgg2
  z2 := Tryd.sizeOf2
  v2 := Tryd.zeroValue2
  t3 := Tryd.underlying3
  a3 := Tryd.isAgg3
  z3 := Tryd.sizeOf3
  v3 := Tryd.zeroValue3
  t4 := Tryd.underlying4
  a4 := Tryd.isAgg4
  z4 := Tryd.sizeOf4
  v4 := Tryd.zeroValue4
  t5 := Tryd.underlying5
  a5 := Tryd.isAgg5
  z5 := Tryd.sizeOf5
  v5 := Tryd.zeroValue5
  t9 := Tryd.underlying9
  a9 := Tryd.isAgg9
  z9 := Tryd.sizeOf9
  v9 := Tryd.zeroValue9
  t20 := Tryd.underlying20
  a20 := Tryd.isAgg20
  z20 := Tryd.sizeOf20
  v20 := Tryd.zeroValue20
  t21 := Tryd.underlying21
  a21 := Tryd.isAgg21
  z21 := Tryd.sizeOf21
  v21 := Tryd.zeroValue21
  t37 := Tryd.underlying22
  a37 := Tryd.isAgg22
  z37 := Tryd.sizeOf22
  v37 := Tryd.zeroValue22
  t46 := Tryd.underlying63
  a46 := Tryd.isAgg63
  z46 := Tryd.sizeOf63
  v46 := Tryd.zeroValue63
  t51 := Tryd.underlying113
  a51 := Tryd.isAgg113
  z51 := Tryd.sizeOf113
  v51 := Tryd.zeroValue113
  t53 := Tryd.underlying102
  a53 := Tryd.isAgg102
  z53 := Tryd.sizeOf102
  v53 := Tryd.zeroValue102
  t75 := Tryd.underlying61
  a75 := Tryd.isAgg61
  z75 := Tryd.sizeOf61
  v75 := Tryd.zeroValue61
  t76 := Tryd.underlying81
  a76 := Tryd.isAgg81
  z76 := Tryd.sizeOf81
  v76 := Tryd.zeroValue81
  t85 := Tryd.underlying117
  a85 := Tryd.isAgg117
  z85 := Tryd.sizeOf117
  v85 := Tryd.zeroValue117
  t127 := Tryd.underlying92
  a127 := Tryd.isAgg92
  z127 := Tryd.sizeOf92
  v127 := Tryd.zeroValue92
  t143 := Tryd.underlying138
  a143 := Tryd.isAgg138
  z143 := Tryd.sizeOf138
  v143 := Tryd.zeroValue138
  t145 := Tryd.underlying140
  a145 := Tryd.isAgg140
  z145 := Tryd.sizeOf140
  v145 := Tryd.zeroValue140
  t167 := Tryd.underlying116
  a167 := Tryd.isAgg116
  z167 := Tryd.sizeOf116
  v167 := Tryd.zeroValue116
  t168 := Tryd.underlying119
  a168 := Tryd.isAgg119
  z168 := Tryd.sizeOf119
  v168 := Tryd.zeroValue119
  t171 := Tryd.underlying101
  a171 := Tryd.isAgg101
  z171 := Tryd.sizeOf101
  v171 := Tryd.zeroValue101
  t173 := Tryd.underlying105
  a173 := Tryd.isAgg105
  z173 := Tryd.sizeOf105
  v173 := Tryd.zeroValue105
  t175 := Tryd.underlying125
  a175 := Tryd.isAgg125
  z175 := Tryd.sizeOf125
  v175 := Tryd.zeroValue125
  t210 := Tryd.underlying129
  a210 := Tryd.isAgg129
  z210 := Tryd.sizeOf129
  v210 := Tryd.zeroValue129
  t212 := Tryd.underlying112
  a212 := Tryd.isAgg112
  z212 := Tryd.sizeOf112
  v212 := Tryd.zeroValue112
  t213 := Tryd.underlying114
  a213 := Tryd.isAgg114
  z213 := Tryd.sizeOf114
  t232 := Tryd.underlying135
  a232 := Tryd.isAgg135
  z232 := Tryd.sizeOf135
  v232 := Tryd.zeroValue135
  t233 := Tryd.underlying136
  a233 := Tryd.isAgg136
  z233 := Tryd.sizeOf136
  v233 := Tryd.zeroValue136
  g15 := by kernel_rfl
  g16 := by kernel_rfl
  g17 := by kernel_rfl
  g18 := by kernel_rfl
  g19 := by kernel_rfl
  t80 := Tryd.underlying64
  a80 := Tryd.isAgg64
  z80 := Tryd.sizeOf64
  v80 := Tryd.zeroValue64
  i0 := by kernel_rfl
  i2 := by kernel_rfl
  i3 := by kernel_rfl
  i4 := by kernel_rfl
  i5 := by kernel_rfl
  i9 := by kernel_rfl
  i20 := by kernel_rfl
  i21 := by kernel_rfl
  i37 := by kernel_rfl
  i46 := by kernel_rfl
  i51 := by kernel_rfl
  i53 := by kernel_rfl
  i75 := by kernel_rfl
  i76 := by kernel_rfl
  i80 := by kernel_rfl
  i85 := by kernel_rfl
  i127 := by kernel_rfl
  i143 := by kernel_rfl
  i145 := by kernel_rfl
  i167 := by kernel_rfl
  i168 := by kernel_rfl
  i171 := by kernel_rfl
  i173 := by kernel_rfl
  i175 := by kernel_rfl
  i210 := by kernel_rfl
  i212 := by kernel_rfl
  i232 := by kernel_rfl
  i233 := by kernel_rfl
  m15 := by kernel_rfl
  m16 := by kernel_rfl
  m17 := by kernel_rfl
  m18 := by kernel_rfl
  m19 := by kernel_rfl
  c0 := by kernel_rfl
  c2 := by kernel_rfl
  c3 := by kernel_rfl
  c4 := by kernel_rfl
  c5 := by kernel_rfl
  c9 := by kernel_rfl
  c20 := by kernel_rfl
  c21 := by kernel_rfl
  c37 := by kernel_rfl
  c46 := by kernel_rfl
  c51 := by kernel_rfl
  c53 := by kernel_rfl
  c75 := by kernel_rfl
  c76 := by kernel_rfl
  c80 := by kernel_rfl
  c85 := by kernel_rfl
  c127 := by kernel_rfl
  c143 := by kernel_rfl
  c145 := by kernel_rfl
  c167 := by kernel_rfl
  c168 := by kernel_rfl
  c171 := by kernel_rfl
  c173 := by kernel_rfl
  c175 := by kernel_rfl
  c210 := by kernel_rfl
  c212 := by kernel_rfl
  c213 := by kernel_rfl
  c232 := by kernel_rfl
  c233 := by kernel_rfl }
open Go.RowKit in
/-- strconv.Atoi, AT EVERY STRING THAT SPELLS AN int ('Lib.atoiAll .. = .ok v'; of whatever length: leading zeros count): v, AND NO ERROR. The world: as it was, or with the one new row that '[]byte(..)' lays. (LAID: no walk: one application.) -/
theorem Tryd.strconv_Atoi_ok (s : ByteArray) (hmax : s.size ≤ 9223372036854775806) (v : Int) (h : Lib.atoiAll s.data.toList = .ok v) (w : World) :
    Calls Tryd.prog 59 #[.string s] w fun e w' => e = .returned (.tuple #[.int .i64 v, .nilIface]) ∧ (w' = w ∨ ∃ t, w' = Lib.bytesWorld w 5 t) := Any.strconv_Atoi_ok Tryd.laysC172 s hmax v h w
open Go.RowKit in
theorem Tryd.strconv_Atoi_syntax_var (s : ByteArray) (hlim : s.size ≤ 281474976710656) (h : Lib.atoiAll s.data.toList = .«syntax») (tp : TypeId) (p : Value) (w : World) (hvar : w.var? Tryd.prog "strconv.ErrSyntax" = some #[.iface tp p]) :
    Calls Tryd.prog 59 #[.string s] w fun e w' => ∃ N, e = .returned (.tuple #[.int .i64 0, .iface 119 (.pointer (some ⟨N, 0, none⟩))]) ∧ w.heap.size ≤ N ∧ w'.heap[N]? = some (.cells #[.string ⟨#[65, 116, 111, 105]⟩, .string s, .iface tp p] 129 (0, 0)) ∧ Below w.heap.size w w' := Any.strconv_Atoi_syntax_var Tryd.laysC172 s hlim h tp p w hvar
open Go.RowKit in
theorem Tryd.strconv_Atoi_range_var (s : ByteArray) (hlim : s.size ≤ 281474976710656) (h : Lib.atoiAll s.data.toList = .range) (tp : TypeId) (p : Value) (w : World) (hvar : w.var? Tryd.prog "strconv.ErrRange" = some #[.iface tp p]) :
    Calls Tryd.prog 59 #[.string s] w fun e w' => ∃ N, e = .returned (.tuple #[.int .i64 (Lib.atoiSat s.data.toList), .iface 119 (.pointer (some ⟨N, 0, none⟩))]) ∧ w.heap.size ≤ N ∧ w'.heap[N]? = some (.cells #[.string ⟨#[65, 116, 111, 105]⟩, .string s, .iface tp p] 129 (0, 0)) ∧ Below w.heap.size w w' := Any.strconv_Atoi_range_var Tryd.laysC172 s hlim h tp p w hvar
end Go.Proofs
/- What trace.number gives: a walk; conditions: the library's two sentinels and its table of powers lie as its text lays them. -/
namespace Go.Proofs.YtoloooammaiipaaDoor
open Go Go.RowKit Go.Proofs.YtoloooammaiipaaDoor.PI Go.Proofs.YtoloooammaiipaaDoorW.PrintWords Go.Proofs.YtoloooammaiipaaDoorW.PrintLast Go.Proofs.YtoloooammaiipaaDoorW.PrintMore
set_option linter.unusedVariables false
set_option linter.unusedSimpArgs false
/-- What a number's text tells: the number, and whether it is one. -/
def numOf (s : ByteArray) : Int × Bool := match Lib.atoiAll s.data.toList with
  | .ok v => if Lib.itoa v = s.data.toList ∧ (if s.data.toList.head? = some 45 then s.size - 1 else s.size) ≤ 18 then (v, true) else (0, false)
  | _ => (0, false)
set_option maxHeartbeats 4000000 in
set_option maxRecDepth 100000 in
theorem itoa_in (v : Int) (h0 : -9223372036854775808 ≤ v) (h1 : v ≤ 9223372036854775807) (w : World) (htab : Lib.TabIs Tryd.prog w "internal/strconv.uint64pow10" .u64 Lib.pow10Tab) :
    Calls Tryd.prog 45 #[.int .i64 v] w fun e w' => e = .returned (.string ⟨(Lib.itoa v).toArray⟩) ∧ Below w.heap.size w w' := by
  have HT := Lib.hid (Tryd.internal_strconv_FormatInt_10 v h0 h1 w htab)
  have HW := Lib.hid (show wrap64 v = v from wrap_fit h0 h1)
  clear htab
  go_enter Tryd.func45, Tryd.ntmps45
  go_wp2_with fail
  try rw [HW.out]
  refine HT.out.mono ?_
  rintro e w1 ⟨rfl, k, os, rfl⟩
  go_wp2_with fail
  go_ret
  exact ⟨rfl, Lib.below_grow _ _ (Nat.le_refl _) _ _⟩
set_option maxHeartbeats 4000000 in
set_option maxRecDepth 100000 in
theorem itoa_walk (v : Int) (h0 : -9223372036854775808 ≤ v) (h1 : v ≤ 9223372036854775807) (w : World) (htab : Lib.TabIs Tryd.prog w "internal/strconv.uint64pow10" .u64 Lib.pow10Tab) :
    Calls Tryd.prog 30 #[.int .i64 v] w fun e w' => e = .returned (.string ⟨(Lib.itoa v).toArray⟩) ∧ Below w.heap.size w w' := by
  have HT := Lib.hid (itoa_in v h0 h1 w htab)
  clear htab
  go_enter Tryd.func30, Tryd.ntmps30
  go_wp2_with fail
  refine HT.out.mono ?_
  rintro e w1 ⟨rfl, hb⟩
  go_wp2_with fail
  go_ret
  exact ⟨rfl, hb⟩
theorem bytes_below (w : World) (e : TypeId) (t : ByteArray) : Below w.heap.size w (Lib.bytesWorld w e t) := ⟨rfl, rfl, rfl, by rw [Lib.bytesWorld_size]; omega, fun k hk => Lib.bytesWorld_at_old w e t k hk⟩
theorem tab_below {w w' : World} (hb : Below w.heap.size w w') (h : Lib.TabIs Tryd.prog w "internal/strconv.uint64pow10" .u64 Lib.pow10Tab) : Lib.TabIs Tryd.prog w' "internal/strconv.uint64pow10" .u64 Lib.pow10Tab := by
  obtain ⟨g, hg⟩ := Option.isSome_iff_exists.1 (show (Tryd.prog.globalNamed "internal/strconv.uint64pow10").isSome = true by kernel_rfl)
  exact Go.Joins.tab_stays hg h hb (Nat.le_refl _)
theorem trim_is (s : ByteArray) : ∃ r : ByteArray, strings_TrimPrefix.f s ⟨#[45]⟩ = some r ∧ r.size = (if s.data.toList.head? = some 45 then s.size - 1 else s.size) := by
  have h1 := len_size s
  have hz : (⟨#[45]⟩ : ByteArray).size = 1 := rfl
  have hp : stringslite_HasPrefix.f s ⟨#[45]⟩ = some (decide (s.data.toList.head? = some 45)) := by
    unfold stringslite_HasPrefix.f
    rw [hz]
    by_cases hl : 1 ≤ s.size
    · rw [if_pos (by omega), if_pos (by omega), if_pos (by omega)]
      congr 1
      rw [Lib.toList_data, Lib.extract_data, List.drop_zero]
      cases hs : s.data.toList with
      | nil => rw [hs] at h1; simp at h1; omega
      | cons x t =>
        have e2 : (⟨#[45]⟩ : ByteArray).toList = [45] := by rw [Lib.toList_data]
        have e3 : List.take ((((1 : Nat) : Int)).toNat - 0) (x :: t) = [x] := rfl
        rw [e2, e3, Bool.eq_iff_iff]
        simp
    · rw [if_neg (by omega)]
      congr 1
      have hs : s.data.toList = [] := List.eq_nil_of_length_eq_zero (by omega)
      rw [hs]
      rfl
  unfold strings_TrimPrefix.f stringslite_TrimPrefix.f
  rw [hp, Option.bind_some]
  by_cases h : s.data.toList.head? = some 45
  · have hl : 1 ≤ s.size := by
      cases hs : s.data.toList with
      | nil => rw [hs] at h; cases h
      | cons x t => rw [hs] at h1; simp at h1; omega
    rw [if_pos (decide_eq_true h), hz, if_pos (by omega), if_pos (by omega), if_pos h]
    refine ⟨_, rfl, ?_⟩
    rw [ByteArray.size_extract]
    show min s.size s.size - 1 = s.size - 1
    omega
  · rw [if_neg (by rw [decide_eq_true_eq]; exact h), if_neg h]
    exact ⟨s, rfl, rfl⟩
set_option maxHeartbeats 4000000 in
set_option maxRecDepth 100000 in
theorem number_walk (s : ByteArray) (hs : s.size ≤ 1000000) (w : World) (htab : Lib.TabIs Tryd.prog w "internal/strconv.uint64pow10" .u64 Lib.pow10Tab) (tp : TypeId) (p : Value) (hES : w.var? Tryd.prog "strconv.ErrSyntax" = some #[.iface tp p]) (tq : TypeId) (q : Value) (hER : w.var? Tryd.prog "strconv.ErrRange" = some #[.iface tq q]) :
    Calls Tryd.prog 48 #[.string s] w fun e w' => e = .returned (.tuple #[.int .i64 (numOf s).1, .bool (numOf s).2]) ∧ Below w.heap.size w w' := by
  have HT := Lib.hid htab
  have HS := Lib.hid hES
  have HR := Lib.hid hER
  clear htab hES hER
  cases hA : Lib.atoiAll s.data.toList with
  | ok v =>
    have hvr := Lib.atoiAll_bounds hA
    have HA := Lib.hid hA
    clear hA
    obtain ⟨r, hr, hrs⟩ := trim_is s
    have HRT := Lib.hid hr
    have HRS := Lib.hid hrs
    clear hr hrs
    go_enter Tryd.func48, Tryd.ntmps48
    go_wp2_with fail
    refine (Tryd.strconv_Atoi_ok s (by omega) v HA.out w).mono ?_
    rintro e w1 ⟨rfl, hw⟩
    have HB1 := Lib.hid (show Below w.heap.size w w1 from by
      rcases hw with rfl | ⟨t, rfl⟩
      · exact Below.refl _ _
      · exact bytes_below _ _ _)
    clear hw
    go_wp2_with fail
    refine (itoa_walk v hvr.1 hvr.2 _ (tab_below HB1.out HT.out)).mono ?_
    rintro e w2 ⟨rfl, hb2⟩
    have HB2 := Lib.hid (below_step HB1.out hb2)
    clear hb2
    by_cases hx : Lib.itoa v = s.data.toList
    · have x1 : (Lib.itoa v == s.toList) = true := by rw [beq_iff_eq, Lib.toList_data]; exact hx
      have HX := Lib.hid hx
      clear hx
      go_wp2_with fail
      refine (strings_TrimPrefix.calls s ⟨#[45]⟩ r _ HRT.out).mono ?_
      rintro e w3 ⟨rfl, hdr⟩
      have HB3 := Lib.hid (below_step HB2.out hdr.below)
      clear hdr
      by_cases h18 : (18 : Int) < (r.size : Int)
      · go_wp2_with fail
        go_ret2
        refine ⟨?_, HB3.out⟩
        unfold numOf
        rw [HA.out]
        simp only
        rw [← HRS.out, if_neg (by omega)]
        rfl
      · go_wp2_with fail
        go_ret2
        refine ⟨?_, HB3.out⟩
        unfold numOf
        rw [HA.out]
        simp only
        rw [← HRS.out, if_pos ⟨HX.out, by omega⟩]
        rfl
    · have x1 : (Lib.itoa v == s.toList) = false := by rw [beq_eq_false_iff_ne, Lib.toList_data]; exact hx
      have HX := Lib.hid hx
      clear hx
      go_wp2_with fail
      go_ret2
      refine ⟨?_, HB2.out⟩
      unfold numOf
      rw [HA.out]
      simp only
      rw [if_neg (fun h => HX.out h.1)]
      rfl
  | range =>
    have HA := Lib.hid hA
    clear hA
    go_enter Tryd.func48, Tryd.ntmps48
    go_wp2_with fail
    refine (Tryd.strconv_Atoi_range_var s (by omega) HA.out tq q w HR.out).mono ?_
    rintro e w1 ⟨N, rfl, _, _, hb⟩
    have HB1 := Lib.hid hb
    clear hb
    go_wp2_with fail
    go_ret2
    refine ⟨?_, HB1.out⟩
    unfold numOf
    rw [HA.out]
    rfl
  | _ =>
    have HA := Lib.hid hA
    clear hA
    go_enter Tryd.func48, Tryd.ntmps48
    go_wp2_with fail
    refine (Tryd.strconv_Atoi_syntax_var s (by omega) HA.out tp p w HS.out).mono ?_
    rintro e w1 ⟨N, rfl, _, _, hb⟩
    have HB1 := Lib.hid hb
    clear hb
    go_wp2_with fail
    go_ret2
    refine ⟨?_, HB1.out⟩
    unfold numOf
    rw [HA.out]
    rfl
end Go.Proofs.YtoloooammaiipaaDoor
/- What trace's (kind).fill gives: a walk (under way). -/
namespace Go.Proofs.YtoloooammaiipaaDoor
open Go Go.RowKit Go.Proofs.YtoloooammaiipaaDoor.PI Go.Proofs.YtoloooammaiipaaDoorW.PrintWords Go.Proofs.YtoloooammaiipaaDoorW.PrintLast Go.Proofs.YtoloooammaiipaaDoorW.PrintMore
set_option linter.unusedVariables false
set_option linter.unusedSimpArgs false
set_option maxHeartbeats 4000000 in
set_option maxRecDepth 100000 in
theorem next_none (b : Nat) (A : Option Addr) (c : Nat) (w : World) (hk : w.heap[b]? = some (.cells #[.slice A 0 c] 75 (0, 0))) :
    Calls Tryd.prog 47 #[.pointer (some ⟨b, 0, none⟩)] w fun e w' => e = .returned (.string ⟨#[]⟩) ∧ w' = w := by
  have e0 := cell_of_cells hk 0
  simp only [List.getElem?_toArray, List.getElem?_cons_zero] at e0
  go_enter Tryd.func47, Tryd.ntmps47
  go_wp2_with fail
  go_ret
  exact ⟨rfl, rfl⟩
set_option maxHeartbeats 4000000 in
set_option maxRecDepth 100000 in
theorem next_some (b ab ao : Nat) (n m : Nat) (x : ByteArray) (w : World) (hk : w.heap[b]? = some (.cells #[.slice (some ⟨ab, ao, none⟩) (n + 1) (m + 1)] 75 (0, 0))) (hx : w.cell? ⟨ab, ao, none⟩ = some (.string x)) (hnm : n ≤ m) (hn : n ≤ 1000000) :
    Calls Tryd.prog 47 #[.pointer (some ⟨b, 0, none⟩)] w fun e w' => e = .returned (.string x) ∧ w' = w.drew.setCell ⟨b, 0, none⟩ (.slice (some ⟨ab, if m = 0 then ao else ao + 1, none⟩) n m) := by
  have e0 := cell_of_cells hk 0
  simp only [List.getElem?_toArray, List.getElem?_cons_zero] at e0
  have hlt := blk_lt hk
  have fz := blk_frozen hk 0
  have n1 : (0 : Int) < (n : Int) + 1 := by omega
  have n2 : (1 : Int) ≤ (n : Int) + 1 := by omega
  go_enter Tryd.func47, Tryd.ntmps47
  go_wp2_with fail
  go_still_tail 6, (by kernel_rfl)
  have hk2 := blk_drew hk
  have hx2 : w.drew.cell? ⟨ab, ao, none⟩ = some (.string x) := hx
  change wpList _ _ _ _ _ w.drew
  clear e0 hlt fz hk hx
  generalize hw2 : w.drew = w2 at hk2 hx2 ⊢
  have HW2 := Lib.hid hw2
  clear hw2
  have e0 := cell_of_cells hk2 0
  simp only [List.getElem?_toArray, List.getElem?_cons_zero] at e0
  have hlt := blk_lt hk2
  have fz := blk_frozen hk2 0
  cases m with
  | zero =>
    obtain rfl : n = 0 := by omega
    go_wp2_with fail
    go_ret
    refine ⟨rfl, ?_⟩
    rw [← HW2.out]
    rfl
  | succ m =>
    go_wp2_with fail
    go_ret
    refine ⟨rfl, ?_⟩
    rw [← HW2.out]
    rfl
end Go.Proofs.YtoloooammaiipaaDoor
/- Numbers' texts, in plain words: what an event's number tells, as the library's two functions give it and as the reference spells it; no conditions. -/
namespace Go.Proofs.YtoloooammaiipaaDoor
open Go Go.Lib
/-- What a number's text tells. -/
def numL (s : List UInt8) : Option Int := match atoiAll s with
  | .ok v => if itoa v = s ∧ (if s.head? = some 45 then s.length - 1 else s.length) ≤ 18 then some v else none
  | _ => none
/-- The digits behind a sign. -/
def unsig (s : List UInt8) : List UInt8 := if s.head? = some 45 then s.tail else s
/-- The same, spelled out. -/
def refNum (s : List UInt8) : Option Int :=
  if unsig s = [] ∨ 18 < (unsig s).length ∨ ((unsig s).head? = some 48 ∧ s ≠ [48]) then none
  else (decFrom 0 (unsig s)).map fun (m : Nat) => if s.head? = some 45 then -(m : Int) else (m : Int)
theorem decFrom_snoc (l : List UInt8) (c : UInt8) : ∀ a, decFrom a (l ++ [c]) = (decFrom a l).bind fun n => (digitVal c).map fun d => n * 10 + d := by
  induction l with
  | nil =>
    intro a
    simp only [List.nil_append, decFrom, Option.bind_some]
    cases digitVal c <;> rfl
  | cons x r ih =>
    intro a
    simp only [List.cons_append, decFrom]
    cases digitVal x with
    | none => rfl
    | some d => exact ih _
theorem digitVal_of {c : UInt8} {d : Nat} (h : digitVal c = some d) : d < 10 ∧ c = UInt8.ofNat (48 + d) := by
  unfold digitVal at h
  split at h
  · rename_i hc
    obtain rfl := Option.some.inj h
    refine ⟨by omega, ?_⟩
    apply UInt8.toNat_inj.1
    simp
    omega
  · cases h
theorem digitVal_mk {d : Nat} (h : d < 10) : digitVal (UInt8.ofNat (48 + d)) = some d := by
  have hn : (UInt8.ofNat (48 + d)).toNat = 48 + d := by simp; omega
  unfold digitVal
  rw [hn, if_pos (by omega)]
  congr 1
  omega
theorem decDigits_step {u : Nat} (h : ¬ u < 10) : decDigits u = decDigits (u / 10) ++ [UInt8.ofNat (48 + u % 10)] := by
  rw [decDigits, dif_neg h]
theorem decFrom_decDigits (u : Nat) : decFrom 0 (decDigits u) = some u := by
  induction u using Nat.strongRecOn with
  | _ u ih =>
    by_cases h : u < 10
    · rw [decDigits_one h]
      simp only [decFrom, digitVal_mk h]
      simp
    · rw [decDigits_step h, decFrom_snoc, ih (u / 10) (by omega), Option.bind_some, digitVal_mk (by omega)]
      simp only [Option.map_some]
      congr 1
      omega
theorem decDigits_ne (u : Nat) : decDigits u ≠ [] := by
  intro h
  have h1 := decDigits_length u
  have h2 := nDigits_pos u
  rw [h] at h1
  simp at h1
  omega
theorem head_append {α : Type} {l : List α} (h : l ≠ []) (r : List α) : (l ++ r).head? = l.head? := by
  cases l with
  | nil => exact absurd rfl h
  | cons => rfl
theorem decDigits_head {u : Nat} (h : 1 ≤ u) : ∃ d, 1 ≤ d ∧ d < 10 ∧ (decDigits u).head? = some (UInt8.ofNat (48 + d)) := by
  induction u using Nat.strongRecOn with
  | _ u ih =>
    by_cases h1 : u < 10
    · exact ⟨u, h, h1, by rw [decDigits_one h1]; rfl⟩
    · obtain ⟨d, a, b, c⟩ := ih (u / 10) (by omega) (by omega)
      exact ⟨d, a, b, by rw [decDigits_step h1, head_append (decDigits_ne _), c]⟩
theorem digit_lit_ne {d : Nat} (h1 : 1 ≤ d) (h2 : d < 10) : UInt8.ofNat (48 + d) ≠ 48 ∧ UInt8.ofNat (48 + d) ≠ 45 ∧ UInt8.ofNat (48 + d) ≠ 43 := by
  have hn : (UInt8.ofNat (48 + d)).toNat = 48 + d := by simp; omega
  refine ⟨fun e => ?_, fun e => ?_, fun e => ?_⟩ <;> · rw [e] at hn; simp at hn; omega
theorem head_ne48 {u : Nat} (h : 1 ≤ u) : (decDigits u).head? ≠ some 48 := by
  obtain ⟨d, a, b, c⟩ := decDigits_head h
  rw [c]
  exact fun e => (digit_lit_ne a b).1 (Option.some.inj e)
theorem digits_any {u : Nat} : (decDigits u).head? ≠ some 45 ∧ (decDigits u).head? ≠ some 43 := by
  rcases Nat.eq_zero_or_pos u with rfl | h
  · rw [decDigits_one (by decide)]
    exact ⟨by decide, by decide⟩
  · obtain ⟨d, a, b, c⟩ := decDigits_head h
    rw [c]
    exact ⟨fun e => (digit_lit_ne a b).2.1 (Option.some.inj e), fun e => (digit_lit_ne a b).2.2 (Option.some.inj e)⟩
theorem zero_digits : decDigits 0 = [48] := by rw [decDigits_one (by decide)]; rfl
/-- Digits are a numeral just if no nought is ahead. -/
theorem numeral_of : ∀ (n : Nat) (t : List UInt8) (m : Nat), t.length = n → t ≠ [] → decFrom 0 t = some m → (t.head? ≠ some 48 ∨ t = [48]) → decDigits m = t
  | 0, t, m, hn, h0, _, _ => absurd (List.eq_nil_of_length_eq_zero hn) h0
  | n + 1, t, m, hn, h0, hd, hh => by
    obtain ⟨l, c, rfl⟩ : ∃ l c, t = l ++ [c] := ⟨t.dropLast, t.getLast h0, (List.dropLast_concat_getLast h0).symm⟩
    rw [decFrom_snoc] at hd
    obtain ⟨m', h1, h2⟩ := Option.bind_eq_some_iff.1 hd
    obtain ⟨d, h3, h4⟩ := Option.map_eq_some_iff.1 h2
    obtain ⟨h5, rfl⟩ := digitVal_of h3
    by_cases hl : l = []
    · subst hl
      simp only [decFrom, Option.some.injEq] at h1
      subst h1
      obtain rfl : d = m := by omega
      rw [decDigits_one h5]
      rfl
    · have hlen : l.length = n := by simpa using hn
      have hh' : l.head? ≠ some 48 := by
        rcases hh with h | h
        · rwa [head_append hl] at h
        · exfalso
          have := congrArg List.length h
          simp at this
          exact hl this
      have ih := numeral_of n l m' hlen hl h1 (Or.inl hh')
      have hm : m' ≠ 0 := by
        rintro rfl
        rw [zero_digits] at ih
        rw [← ih] at hh'
        exact hh' rfl
      subst h4
      rw [decDigits_step (by omega), show (m' * 10 + d) / 10 = m' by omega, show (m' * 10 + d) % 10 = d by omega, ih]
theorem numeral_iff {t : List UInt8} {m : Nat} (h0 : t ≠ []) (hd : decFrom 0 t = some m) : decDigits m = t ↔ (t.head? ≠ some 48 ∨ t = [48]) := by
  constructor
  · intro h
    rcases Nat.eq_zero_or_pos m with rfl | hm
    · right
      rw [← h, zero_digits]
    · left
      rw [← h]
      exact head_ne48 hm
  · exact numeral_of _ t m rfl h0 hd
theorem decNat_ne {t : List UInt8} (h : t ≠ []) : decNat t = decFrom 0 t := by
  cases t with
  | nil => exact absurd rfl h
  | cons => rfl
theorem numL_ref (s : List UInt8) : numL s = refNum s := by
  by_cases hneg : s.head? = some 45
  · obtain ⟨t, rfl⟩ : ∃ t, s = 45 :: t := by
      cases s with
      | nil => cases hneg
      | cons a r => exact ⟨r, by simp at hneg; rw [hneg]⟩
    have hu : unsig (45 :: t) = t := by unfold unsig; rw [if_pos hneg]; rfl
    unfold refNum numL
    rw [hu]
    by_cases hl : t.length ≤ 18
    · by_cases h0 : t = []
      · subst h0
        rfl
      rw [atoiAll_minus, signed_short hl, decNat_ne h0]
      cases hd : decFrom 0 t with
      | none => simp [NumEnd.ofOption]
      | some m =>
        have hi := numeral_iff h0 hd
        have e1 : (if (45 :: t).head? = some 45 then (45 :: t).length - 1 else (45 :: t).length) = t.length := by rw [if_pos hneg]; rfl
        simp only [Option.map_some, NumEnd.ofOption]
        rw [e1]
        by_cases hz : t.head? = some 48
        · rw [if_pos (Or.inr (Or.inr ⟨hz, by simp⟩)), if_neg]
          rintro ⟨h, -⟩
          rcases Nat.eq_zero_or_pos m with rfl | hm
          · have e : itoa (-((0 : Nat) : Int)) = [48] := by
              have := itoa_nonneg 0
              rw [zero_digits] at this
              simpa using this
            rw [e] at h
            simp at h
          · rw [itoa_neg m hm] at h
            have h' : decDigits m = t := by simpa using h
            have := head_ne48 hm
            rw [h'] at this
            exact this hz
        · have hm : 1 ≤ m := by
            rcases Nat.eq_zero_or_pos m with rfl | hm
            · have h9 := hi.2 (Or.inl hz)
              rw [zero_digits] at h9
              exact absurd (by rw [← h9]; rfl) hz
            · exact hm
          have hit : itoa (-(m : Int)) = 45 :: t := by rw [itoa_neg m hm, hi.2 (Or.inl hz)]
          rw [if_pos ⟨hit, hl⟩, if_neg (fun h : t = [] ∨ 18 < t.length ∨ t.head? = some 48 ∧ 45 :: t ≠ [48] => h.elim h0 (fun h => h.elim (fun h => absurd hl (by omega)) (fun h => hz h.1))), if_pos hneg]
    · rw [if_pos (Or.inr (Or.inl (by omega)))]
      split
      · rw [if_neg]
        rintro ⟨-, h⟩
        rw [if_pos hneg] at h
        simp at h
        omega
      · rfl
  · have hu : unsig s = s := by unfold unsig; rw [if_neg hneg]
    unfold refNum numL
    rw [hu]
    by_cases hl : s.length ≤ 18
    · by_cases h0 : s = []
      · subst h0
        rfl
      rw [atoiAll_short s hl]
      by_cases hp : s.head? = some 43
      · obtain ⟨t, rfl⟩ : ∃ t, s = 43 :: t := by
          cases s with
          | nil => cases hp
          | cons a r => exact ⟨r, by simp at hp; rw [hp]⟩
        have hd : decFrom 0 (43 :: t) = none := by simp [decFrom, digitVal]
        rw [hd]
        have h43 : atoi (43 :: t) = (decNat t).map fun (m : Nat) => (m : Int) := by
          rw [atoi]
          rw [if_neg (by decide), if_pos (by decide)]
        rw [h43]
        cases decNat t with
        | none => simp [NumEnd.ofOption]
        | some m =>
          simp only [Option.map_some, NumEnd.ofOption, Option.map_none]
          rw [if_neg, ite_self]
          rintro ⟨h, -⟩
          rw [itoa_nonneg] at h
          have := (digits_any (u := m)).2
          rw [h] at this
          exact this rfl
      · have hat : atoi s = (decFrom 0 s).map fun (m : Nat) => (m : Int) := by
          cases s with
          | nil => exact absurd rfl h0
          | cons a r =>
            have ha : a ≠ 45 := fun e => hneg (by rw [e]; rfl)
            have hb : a ≠ 43 := fun e => hp (by rw [e]; rfl)
            rw [atoi]
            rw [if_neg (by simpa using ha), if_neg (by simpa using hb)]
            rfl
        rw [hat]
        cases hd : decFrom 0 s with
        | none => simp [NumEnd.ofOption]
        | some m =>
          have hi := numeral_iff h0 hd
          simp only [Option.map_some, NumEnd.ofOption]
          rw [if_neg hneg, if_neg hneg, itoa_nonneg]
          by_cases hz : s.head? ≠ some 48 ∨ s = [48]
          · rw [if_pos ⟨hi.2 hz, hl⟩, if_neg]
            rintro (h | h | ⟨h, h'⟩)
            · exact h0 h
            · omega
            · rcases hz with hz | hz
              · exact hz h
              · exact h' hz
          · rw [if_neg (fun h => hz (hi.1 h.1)), if_pos]
            right; right
            refine ⟨Classical.not_not.1 (fun h => hz (Or.inl h)), fun h => hz (Or.inr h)⟩
    · rw [if_pos (Or.inr (Or.inl (by omega)))]
      split
      · rw [if_neg]
        rintro ⟨-, h⟩
        rw [if_neg hneg] at h
        omega
      · rfl
/-- A number of up to 18 digits is told by its text. -/
theorem numL_itoa {v : Int} (h0 : -1000000000000000000 < v) (h1 : v < 1000000000000000000) : numL (itoa v) = some v := by
  have len : ∀ u : Nat, u < 1000000000000000000 → (decDigits u).length ≤ 18 := fun u hu => by
    rw [decDigits_length]
    rcases Nat.lt_or_ge 18 (nDigits u) with h | h
    · exfalso
      have key : ∀ k u, k + 1 ≤ nDigits u → 1 ≤ k → 10 ^ k ≤ u := by
        intro k
        induction k with
        | zero => intro u _ h; omega
        | succ k ih =>
          intro u hu _
          by_cases h10 : u < 10
          · rw [nDigits_small h10] at hu; omega
          · rw [nDigits_big h10] at hu
            rcases Nat.eq_zero_or_pos k with rfl | hk
            · omega
            · have := ih (u / 10) (by omega) hk
              rw [Nat.pow_succ]
              omega
      have := key 18 u h (by decide)
      have e : (10 : Nat) ^ 18 = 1000000000000000000 := by decide
      omega
    · exact h
  rw [numL_ref]
  unfold refNum unsig
  by_cases hv : v < 0
  · obtain ⟨m, rfl⟩ : ∃ m : Nat, v = -(m : Int) := ⟨v.natAbs, by omega⟩
    have hm : 1 ≤ m := by omega
    have hh : (45 :: decDigits m).head? = some 45 := rfl
    rw [itoa_neg m hm, if_pos hh, List.tail_cons, if_neg, decFrom_decDigits, Option.map_some, if_pos hh]
    · rintro (h | h | ⟨h, -⟩)
      · exact decDigits_ne _ h
      · have := len m (by omega); omega
      · exact head_ne48 hm h
  · obtain ⟨m, rfl⟩ : ∃ m : Nat, v = (m : Int) := ⟨v.natAbs, by omega⟩
    have hne : (decDigits m).head? ≠ some 45 := digits_any.1
    rw [itoa_nonneg, if_neg hne, if_neg, decFrom_decDigits, Option.map_some, if_neg hne]
    · rintro (h | h | ⟨h, h'⟩)
      · exact decDigits_ne _ h
      · have := len m (by omega); omega
      · rcases Nat.eq_zero_or_pos m with rfl | hm
        · exact h' zero_digits
        · exact head_ne48 hm h
end Go.Proofs.YtoloooammaiipaaDoor
-- Written by a program of this work (the kit's print, with contracts of this work's own taken in) out of the translation. Not trusted: Lean checks it.
namespace Go.Proofs.YtoloooammaiipaaDoor.PI
open Go.RowKit Go.Proofs.YtoloooammaiipaaDoorW.PrintWords Go.Proofs.YtoloooammaiipaaDoorW.PrintLast Go.Proofs.YtoloooammaiipaaDoorW.PrintMore
attribute [local go_sem] max2_int min2_int max_two min_two max_three min_three max_four min_four   -- for this text's walks alone
set_option linter.unusedVariables false
set_option linter.unusedSimpArgs false

/-! ### lamplighterref19_Bytes: function 13 -/
mutual
def lamplighterref19_Bytes.j0 : Nat → ByteArray → Bool → Option (List Int × Bool)
  | 0, _, _ => none
  | k + 1, x0, x17 => if x17 = true then (some (([] : List Int), false)) else (lamplighterref19_Bytes.l0 k x0 ([] : List Int) 0)
def lamplighterref19_Bytes.l0 : Nat → ByteArray → List Int → Int → Option (List Int × Bool)
  | 0, _, _, _ => none
  | k + 1, x0, x4, x5 => if x5 < (x0.size : Int) then (if 0 ≤ x5 then ((lamplighterref19_value.f k (bt x0 x5)).bind fun t149 => (if 0 ≤ (wrap64 (x5 + 1)) then (if (wrap64 (x5 + 1)) < (x0.size : Int) then ((lamplighterref19_value.f k (bt x0 (wrap64 (x5 + 1)))).bind fun t150 => (if t149 < 0 then (some (([] : List Int), false)) else (if t150 < 0 then (some (([] : List Int), false)) else (if x4.length < 140737488355328 then (lamplighterref19_Bytes.l0 k x0 (x4 ++ [(wrap64 ((wrap64 (16 * t149)) + t150)) % 256]) (wrap64 (x5 + 2))) else (none))))) else (none)) else (none))) else (none)) else (some (x4, true))
end
def lamplighterref19_Bytes.f (k : Nat) (a0 : ByteArray) : Option (List Int × Bool) := if a0.toList = ([45] : List UInt8) then (some (([] : List Int), true)) else (if a0.toList = ([] : List UInt8) then (lamplighterref19_Bytes.j0 k a0 true) else (lamplighterref19_Bytes.j0 k a0 (((a0.size : Int) % 2) != 0)))
theorem lamplighterref19_Bytes.mono_l : ∀ k, (∀ y0 y1, LeO (lamplighterref19_Bytes.j0 k y0 y1) (lamplighterref19_Bytes.j0 (k + 1) y0 y1)) ∧ (∀ y0 y1 y2, LeO (lamplighterref19_Bytes.l0 k y0 y1 y2) (lamplighterref19_Bytes.l0 (k + 1) y0 y1 y2))
  | 0 => ⟨fun _ _ r h => by simp [lamplighterref19_Bytes.j0] at h, fun _ _ _ r h => by simp [lamplighterref19_Bytes.l0] at h⟩
  | k + 1 => by
    obtain ⟨ih0, ih1⟩ := lamplighterref19_Bytes.mono_l k
    refine ⟨?_, ?_⟩
    · intro y0 y1
      unfold lamplighterref19_Bytes.j0
      repeat' first
      | (with_reducible exact ih0 _ _)
      | (with_reducible exact ih1 _ _ _)
      | (with_reducible exact lamplighterref19_value.mono _ _)
      | (with_reducible exact LeO.refl _)
      | (with_reducible exact LeO.none _)
      | (with_reducible refine LeO.ite ?_ ?_)
      | (with_reducible refine LeO.bind ?_ (fun _ => ?_))
      | exact ih0 _ _
      | exact ih1 _ _ _
      | exact lamplighterref19_value.mono _ _
      | exact LeO.none _
      | refine LeO.ite ?_ ?_
      | refine LeO.bind ?_ (fun _ => ?_)
    · intro y0 y1 y2
      unfold lamplighterref19_Bytes.l0
      repeat' first
      | (with_reducible exact ih0 _ _)
      | (with_reducible exact ih1 _ _ _)
      | (with_reducible exact lamplighterref19_value.mono _ _)
      | (with_reducible exact LeO.refl _)
      | (with_reducible exact LeO.none _)
      | (with_reducible refine LeO.ite ?_ ?_)
      | (with_reducible refine LeO.bind ?_ (fun _ => ?_))
      | exact ih0 _ _
      | exact ih1 _ _ _
      | exact lamplighterref19_value.mono _ _
      | exact LeO.none _
      | refine LeO.ite ?_ ?_
      | refine LeO.bind ?_ (fun _ => ?_)
theorem lamplighterref19_Bytes.mono : ∀ a0 k, LeO (lamplighterref19_Bytes.f k a0) (lamplighterref19_Bytes.f (k + 1) a0) := by
  intro a0 k
  obtain ⟨ih0, ih1⟩ := lamplighterref19_Bytes.mono_l k
  unfold lamplighterref19_Bytes.f
  repeat' first
      | (with_reducible exact ih0 _ _)
      | (with_reducible exact ih1 _ _ _)
      | (with_reducible exact lamplighterref19_value.mono _ _)
      | (with_reducible exact LeO.refl _)
      | (with_reducible exact LeO.none _)
      | (with_reducible refine LeO.ite ?_ ?_)
      | (with_reducible refine LeO.bind ?_ (fun _ => ?_))
      | exact ih0 _ _
      | exact ih1 _ _ _
      | exact lamplighterref19_value.mono _ _
      | exact LeO.none _
      | refine LeO.ite ?_ ?_
      | refine LeO.bind ?_ (fun _ => ?_)
set_option maxHeartbeats 8000000 in
set_option maxRecDepth 100000 in
theorem lamplighterref19_Bytes.calls (k : Nat) (a0 : ByteArray) (r1 : List Int) (r2 : Bool) (w : World) (h : lamplighterref19_Bytes.f k a0 = some (r1, r2)) :
    Calls Tryd.prog 13 #[.string a0] w fun e w' => ∃ v0_ : Value, e = .returned (.tuple #[v0_, .bool r2]) ∧ Kd.R (Kd.int .u8) 5 w' w.heap.size (fun _ => True) v0_ r1 ∧ Below w.heap.size w w' := by
  have HB := Aside0.mk (Below.refl w.heap.size w)
  have H : (if a0.toList = ([45] : List UInt8) then (some (([] : List Int), true)) else (if a0.toList = ([] : List UInt8) then (lamplighterref19_Bytes.j0 k a0 true) else (lamplighterref19_Bytes.j0 k a0 (((a0.size : Int) % 2) != 0)))) = some (r1, r2) := h
  clear h
  by_cases c2 : a0.toList = ([45] : List UInt8)
  · rw [if_pos c2] at H
    have c2b0 : (a0.toList == ([45] : List UInt8)) = true := beq_iff_eq.mpr c2
    have c2b1 : (a0.toList != ([45] : List UInt8)) = false := bne_eq_false_iff_eq.mpr c2
    clear c2
    simp only [Option.some.injEq, Prod.mk.injEq] at H
    obtain ⟨rfl, rfl⟩ := H
    go_enter Tryd.func13, Tryd.ntmps13
    go_wp2
    go_ret2
    exact ⟨_, by first | rfl | (simp [errW_none, errW_some] <;> rfl) | (simp [*, errW_none, errW_some] <;> rfl), by first | exact Kd.R_nil _ _ _ _ _ | exact Kd.N_nil _ _ _ _ _ | exact Kd.V_nil _ _ _ _ _ | exact Kd.Q_nil _ _ _ _ _ | exact Kd.S_nil _ _ _ _ _, by repeat (first | (with_reducible first | exact HB.out | apply below_alloc | apply pw_below_drewN | apply below_drew1) | exact HB.out)⟩
  · rw [if_neg c2] at H
    have c2b0 : (a0.toList == ([45] : List UInt8)) = false := beq_eq_false_iff_ne.mpr c2
    have c2b1 : (a0.toList != ([45] : List UInt8)) = true := bne_iff_ne.mpr c2
    have HC3 := Aside0.mk H
    clear H
    go_enter Tryd.func13, Tryd.ntmps13
    go_upto_region 3 with (fail)
    go_cut [17] (fun v17 wc => ∃ (kq : Nat) (x17_2 : Bool), v17 = .bool x17_2 ∧ Aside0 (lamplighterref19_Bytes.j0 kq a0 x17_2 = some (r1, r2)) ∧ Aside0 (kq ≤ k) ∧ Aside0 (Below w.heap.size w wc))
    case first =>
      have H := HC3.out
      clear HC3
      by_cases c4 : a0.toList = ([] : List UInt8)
      · rw [if_pos c4] at H
        have c4b0 : (a0.toList == ([] : List UInt8)) = true := beq_iff_eq.mpr c4
        have c4b1 : (a0.toList != ([] : List UInt8)) = false := bne_eq_false_iff_eq.mpr c4
        clear c4
        (first | rw [c4b0] | (simp only [i64_w, i32_w]; rw [c4b0]) | skip)
        have H' := Aside0.mk H
        clear H
        go_wp2
        go_meet
        case rel => exact ⟨_, (true), (by first | rfl | (simp; done) | (simp [*]; done)), H', ⟨by first | omega | exact Nat.le_refl _⟩, ⟨by repeat (first | (with_reducible first | exact HB.out | apply below_alloc | apply pw_below_drewN | apply below_drew1) | exact HB.out)⟩⟩
      · rw [if_neg c4] at H
        have c4b0 : (a0.toList == ([] : List UInt8)) = false := beq_eq_false_iff_ne.mpr c4
        have c4b1 : (a0.toList != ([] : List UInt8)) = true := bne_iff_ne.mpr c4
        (first | rw [c4b0] | (simp only [i64_w, i32_w]; rw [c4b0]) | skip)
        have H' := Aside0.mk H
        clear H
        go_wp2
        go_meet
        case rel => exact ⟨_, ((((a0.size : Int) % 2) != 0)), (by first | rfl | (simp; done) | (simp [*]; done)), H', ⟨by first | omega | exact Nat.le_refl _⟩, ⟨by repeat (first | (with_reducible first | exact HB.out | apply below_alloc | apply pw_below_drewN | apply below_drew1) | exact HB.out)⟩⟩
    case rest =>
      clear HC3
      try clear c1
      try clear c2
      try clear c2b0
      try clear c2b1
      try clear p2
      try clear c4
      try clear c4b0
      try clear c4b1
      obtain ⟨kq, x17_2, rfl, HA, HJ2, HB⟩ := hcut
      cases kq with
      | zero => exact absurd HA.out (by simp [lamplighterref19_Bytes.j0])
      | succ kj2 =>
        have H := HA.out
        clear HA
        simp only [lamplighterref19_Bytes.j0] at H
        by_cases c5 : x17_2 = true
        · subst c5
          have H1 : (some (([] : List Int), false)) = some (r1, r2) := by rw [if_pos rfl] at H; exact H
          clear H
          have H := H1
          clear H1
          simp only [Option.some.injEq, Prod.mk.injEq] at H
          obtain ⟨rfl, rfl⟩ := H
          go_wp2
          go_ret2
          exact ⟨_, by first | rfl | (simp [errW_none, errW_some] <;> rfl) | (simp [*, errW_none, errW_some] <;> rfl), by first | exact Kd.R_nil _ _ _ _ _ | exact Kd.N_nil _ _ _ _ _ | exact Kd.V_nil _ _ _ _ _ | exact Kd.Q_nil _ _ _ _ _ | exact Kd.S_nil _ _ _ _ _, by repeat (first | (with_reducible first | exact HB.out | apply below_alloc | apply pw_below_drewN | apply below_drew1) | exact HB.out)⟩
        · replace c5 := Bool.eq_false_iff.mpr c5
          subst c5
          have H1 : (lamplighterref19_Bytes.l0 kj2 a0 ([] : List Int) 0) = some (r1, r2) := by rw [if_neg (show ¬ (false = true) by decide)] at H; exact H
          clear H
          have H := H1
          clear H1
          have H' := Aside0.mk H
          clear H
          go_wp2
          go_loopg [4, 5] kj2 (fun kq v4 v5 w' => ∃ (x4_2 : List Int) (x5_2 : Int), v5 = .int .i64 x5_2 ∧ Aside0 (lamplighterref19_Bytes.l0 kq a0 x4_2 x5_2 = some (r1, r2)) ∧ Aside0 (kq ≤ kj2) ∧ Aside0 (Kd.R (Kd.int .u8) 5 w' w.heap.size (fun _ => True) v4 x4_2) ∧ Aside0 (Below w.heap.size w w'))
          case atStart => exact ⟨(([] : List Int)), (0), (by first | rfl | (simp; done) | (simp [*]; done)), H', ⟨Nat.le_refl _⟩, ⟨by first | exact Kd.R_nil _ _ _ _ _ | exact Kd.N_nil _ _ _ _ _ | exact Kd.V_nil _ _ _ _ _ | exact Kd.Q_nil _ _ _ _ _ | exact Kd.S_nil _ _ _ _ _⟩, ⟨by repeat (first | (with_reducible first | exact HB.out | apply below_alloc | apply pw_below_drewN | apply below_drew1) | exact HB.out)⟩⟩
          case round =>
            clear H'
            try clear c1
            try clear c2
            try clear c2b0
            try clear c2b1
            try clear p2
            try clear c4
            try clear c4b0
            try clear c4b1
            try clear c5
            try clear p2
            obtain ⟨x4_2, x5_2, rfl, HA, HK2, HO_4, HB⟩ := hrel
            cases gk with
            | zero => exact absurd HA.out (by simp [lamplighterref19_Bytes.l0])
            | succ k2 =>
              have H := HA.out
              clear HA
              simp only [lamplighterref19_Bytes.l0] at H
              by_cases c6 : x5_2 < (a0.size : Int)
              · rw [if_pos c6] at H
                have c6b0 : decide (x5_2 < (a0.size : Int)) = true := decide_eq_true c6
                clear c6
                by_cases c7 : 0 ≤ x5_2
                · rw [if_pos c7] at H
                  have c7b0 : decide (0 ≤ x5_2) = true := decide_eq_true c7
                  clear c7
                  replace H := Option.bind_eq_some_iff.mp H
                  obtain ⟨t149, A90, H⟩ := H
                  replace H : (if 0 ≤ (wrap64 (x5_2 + 1)) then (if (wrap64 (x5_2 + 1)) < (a0.size : Int) then ((lamplighterref19_value.f k2 (bt a0 (wrap64 (x5_2 + 1)))).bind fun t150 => (if t149 < 0 then (some (([] : List Int), false)) else (if t150 < 0 then (some (([] : List Int), false)) else (if x4_2.length < 140737488355328 then (lamplighterref19_Bytes.l0 k2 a0 (x4_2 ++ [(wrap64 ((wrap64 (16 * t149)) + t150)) % 256]) (wrap64 (x5_2 + 2))) else (none))))) else (none)) else (none)) = some (r1, r2) := H
                  have A9 := Aside0.mk A90
                  clear A90
                  obtain ⟨ji10, hji10⟩ : ∃ j_ : Int, (wrap64 (x5_2 + 1)) = j_ := ⟨_, rfl⟩
                  replace H : (if 0 ≤ (ji10) then (if (ji10) < (a0.size : Int) then ((lamplighterref19_value.f k2 (bt a0 (ji10))).bind fun t150 => (if t149 < 0 then (some (([] : List Int), false)) else (if t150 < 0 then (some (([] : List Int), false)) else (if x4_2.length < 140737488355328 then (lamplighterref19_Bytes.l0 k2 a0 (x4_2 ++ [(wrap64 ((wrap64 (16 * t149)) + t150)) % 256]) (wrap64 (x5_2 + 2))) else (none))))) else (none)) else (none)) = some (r1, r2) := by first | (rw [hji10] at H; exact H) | (simp only [hji10] at H ⊢; exact H)
                  (try rw [hji10] at A9)
                  have hji10w : (IntKind.i64.wrap (x5_2 + 1)) = ji10 := (i64_w _).trans hji10
                  by_cases c11 : 0 ≤ (ji10)
                  · rw [if_pos c11] at H
                    have c11b0 : decide (0 ≤ (ji10)) = true := decide_eq_true c11
                    clear c11
                    by_cases c12 : (ji10) < (a0.size : Int)
                    · rw [if_pos c12] at H
                      have c12b0 : decide ((ji10) < (a0.size : Int)) = true := decide_eq_true c12
                      clear c12
                      replace H := Option.bind_eq_some_iff.mp H
                      obtain ⟨t150, A140, H⟩ := H
                      replace H : (if t149 < 0 then (some (([] : List Int), false)) else (if t150 < 0 then (some (([] : List Int), false)) else (if x4_2.length < 140737488355328 then (lamplighterref19_Bytes.l0 k2 a0 (x4_2 ++ [(wrap64 ((wrap64 (16 * t149)) + t150)) % 256]) (wrap64 (x5_2 + 2))) else (none)))) = some (r1, r2) := H
                      have A14 := Aside0.mk A140
                      clear A140
                      by_cases c15 : t149 < 0
                      · rw [if_pos c15] at H
                        have c15b0 : decide (t149 < 0) = true := decide_eq_true c15
                        clear c15
                        simp only [Option.some.injEq, Prod.mk.injEq] at H
                        obtain ⟨rfl, rfl⟩ := H
                        have p8 : 0 ≤ (x5_2 : Int) := of_decide_eq_true (by first | (with_reducible assumption) | assumption)
                        have q8 : x5_2 < (a0.size : Int) := of_decide_eq_true (by first | (with_reducible assumption) | assumption)
                        have hx8 := bt_at a0 x5_2
                        replace p8 := eq_true p8
                        replace q8 := eq_true q8
                        go_wp2_with (first | ((with_reducible refine gate_callee (f := 29) rfl ?_); refine goesL_ (some 27) rfl rfl Tryd.func29 (by kernel_rfl) rfl #[.int .u8 (bt a0 x5_2)] rfl (by (try simp only [List.map_toArray, List.map_cons, List.map_nil]); first | done | rfl | (simp only [List.length_drop, List.length_take]; rfl)) ?_; (with_reducible refine (lamplighterref19_value.calls k2 (bt a0 x5_2) t149 _ A9.out).mono ?_); rintro e w' ⟨rfl, ⟨nd, rfl⟩⟩; refine ⟨_, rfl, ?_⟩; have p13 : 0 ≤ ((ji10) : Int) := of_decide_eq_true (by first | (with_reducible assumption) | assumption); have q13 : (ji10) < (a0.size : Int) := of_decide_eq_true (by first | (with_reducible assumption) | assumption); have hx13 := bt_at a0 (ji10); replace p13 := eq_true p13; replace q13 := eq_true q13) | ((with_reducible refine gate_callee (f := 29) rfl ?_); refine goesL_ (some 32) rfl rfl Tryd.func29 (by kernel_rfl) rfl #[.int .u8 (bt a0 (ji10))] rfl (by (try simp only [List.map_toArray, List.map_cons, List.map_nil]); first | done | (simp only [hji10]; rfl) | rfl | (simp only [List.length_drop, List.length_take]; rfl)) ?_; (with_reducible refine (lamplighterref19_value.calls k2 (bt a0 (ji10)) t150 _ A14.out).mono ?_); rintro e w' ⟨rfl, ⟨nd, rfl⟩⟩; refine ⟨_, rfl, ?_⟩))
                        go_ret2
                        exact ⟨_, by first | rfl | (simp [errW_none, errW_some] <;> rfl) | (simp only [← hji10]; first | rfl | (simp [errW_none, errW_some] <;> rfl)) | (simp [*, errW_none, errW_some] <;> rfl), by first | exact Kd.R_nil _ _ _ _ _ | exact Kd.N_nil _ _ _ _ _ | exact Kd.V_nil _ _ _ _ _ | exact Kd.Q_nil _ _ _ _ _ | exact Kd.S_nil _ _ _ _ _, by repeat (first | (with_reducible first | exact HB.out | apply below_alloc | apply pw_below_drewN | apply below_drew1) | exact HB.out)⟩
                      · rw [if_neg c15] at H
                        have c15b0 : decide (t149 < 0) = false := decide_eq_false c15
                        clear c15
                        by_cases c16 : t150 < 0
                        · rw [if_pos c16] at H
                          have c16b0 : decide (t150 < 0) = true := decide_eq_true c16
                          clear c16
                          simp only [Option.some.injEq, Prod.mk.injEq] at H
                          obtain ⟨rfl, rfl⟩ := H
                          have p8 : 0 ≤ (x5_2 : Int) := of_decide_eq_true (by first | (with_reducible assumption) | assumption)
                          have q8 : x5_2 < (a0.size : Int) := of_decide_eq_true (by first | (with_reducible assumption) | assumption)
                          have hx8 := bt_at a0 x5_2
                          replace p8 := eq_true p8
                          replace q8 := eq_true q8
                          go_wp2_with (first | ((with_reducible refine gate_callee (f := 29) rfl ?_); refine goesL_ (some 27) rfl rfl Tryd.func29 (by kernel_rfl) rfl #[.int .u8 (bt a0 x5_2)] rfl (by (try simp only [List.map_toArray, List.map_cons, List.map_nil]); first | done | rfl | (simp only [List.length_drop, List.length_take]; rfl)) ?_; (with_reducible refine (lamplighterref19_value.calls k2 (bt a0 x5_2) t149 _ A9.out).mono ?_); rintro e w' ⟨rfl, ⟨nd, rfl⟩⟩; refine ⟨_, rfl, ?_⟩; have p13 : 0 ≤ ((ji10) : Int) := of_decide_eq_true (by first | (with_reducible assumption) | assumption); have q13 : (ji10) < (a0.size : Int) := of_decide_eq_true (by first | (with_reducible assumption) | assumption); have hx13 := bt_at a0 (ji10); replace p13 := eq_true p13; replace q13 := eq_true q13) | ((with_reducible refine gate_callee (f := 29) rfl ?_); refine goesL_ (some 32) rfl rfl Tryd.func29 (by kernel_rfl) rfl #[.int .u8 (bt a0 (ji10))] rfl (by (try simp only [List.map_toArray, List.map_cons, List.map_nil]); first | done | (simp only [hji10]; rfl) | rfl | (simp only [List.length_drop, List.length_take]; rfl)) ?_; (with_reducible refine (lamplighterref19_value.calls k2 (bt a0 (ji10)) t150 _ A14.out).mono ?_); rintro e w' ⟨rfl, ⟨nd, rfl⟩⟩; refine ⟨_, rfl, ?_⟩))
                          go_ret2
                          exact ⟨_, by first | rfl | (simp [errW_none, errW_some] <;> rfl) | (simp only [← hji10]; first | rfl | (simp [errW_none, errW_some] <;> rfl)) | (simp [*, errW_none, errW_some] <;> rfl), by first | exact Kd.R_nil _ _ _ _ _ | exact Kd.N_nil _ _ _ _ _ | exact Kd.V_nil _ _ _ _ _ | exact Kd.Q_nil _ _ _ _ _ | exact Kd.S_nil _ _ _ _ _, by repeat (first | (with_reducible first | exact HB.out | apply below_alloc | apply pw_below_drewN | apply below_drew1) | exact HB.out)⟩
                        · rw [if_neg c16] at H
                          have c16b0 : decide (t150 < 0) = false := decide_eq_false c16
                          clear c16
                          by_cases c17 : x4_2.length < 140737488355328
                          · rw [if_pos c17] at H
                            have LMc17 := Aside0.mk c17
                            clear c17
                            obtain ⟨y151, hy151⟩ : ∃ y_ : List Int, y_ = (x4_2 ++ [(wrap64 ((wrap64 (16 * t149)) + t150)) % 256]) := ⟨_, rfl⟩
                            replace H : (lamplighterref19_Bytes.l0 k2 a0 y151 (wrap64 (x5_2 + 2))) = some (r1, r2) := by first | (rw [hy151]; with_reducible exact H) | (have H2_ := (Option.bind_some _ _).symm.trans H; rw [hy151]; with_reducible exact H2_) | (have H2_ := (Option.bind_some _ _).symm.trans H; with_reducible exact H2_) | with_reducible exact H | (rw [hy151]; exact H) | exact H
                            have Ny151 := Aside0.mk hy151
                            clear hy151
                            have H' := Aside0.mk H
                            clear H
                            have p8 : 0 ≤ (x5_2 : Int) := of_decide_eq_true (by first | (with_reducible assumption) | assumption)
                            have q8 : x5_2 < (a0.size : Int) := of_decide_eq_true (by first | (with_reducible assumption) | assumption)
                            have hx8 := bt_at a0 x5_2
                            replace p8 := eq_true p8
                            replace q8 := eq_true q8
                            go_wp2_with (first | ((with_reducible refine gate_callee (f := 29) rfl ?_); refine goesL_ (some 27) rfl rfl Tryd.func29 (by kernel_rfl) rfl #[.int .u8 (bt a0 x5_2)] rfl (by (try simp only [List.map_toArray, List.map_cons, List.map_nil]); first | done | rfl | (simp only [List.length_drop, List.length_take]; rfl)) ?_; (with_reducible refine (lamplighterref19_value.calls k2 (bt a0 x5_2) t149 _ A9.out).mono ?_); rintro e w' ⟨rfl, ⟨nd, rfl⟩⟩; refine ⟨_, rfl, ?_⟩; have p13 : 0 ≤ ((ji10) : Int) := of_decide_eq_true (by first | (with_reducible assumption) | assumption); have q13 : (ji10) < (a0.size : Int) := of_decide_eq_true (by first | (with_reducible assumption) | assumption); have hx13 := bt_at a0 (ji10); replace p13 := eq_true p13; replace q13 := eq_true q13) | ((with_reducible refine gate_callee (f := 29) rfl ?_); refine goesL_ (some 32) rfl rfl Tryd.func29 (by kernel_rfl) rfl #[.int .u8 (bt a0 (ji10))] rfl (by (try simp only [List.map_toArray, List.map_cons, List.map_nil]); first | done | (simp only [hji10]; rfl) | rfl | (simp only [List.length_drop, List.length_take]; rfl)) ?_; (with_reducible refine (lamplighterref19_value.calls k2 (bt a0 (ji10)) t150 _ A14.out).mono ?_); rintro e w' ⟨rfl, ⟨nd, rfl⟩⟩; refine ⟨_, rfl, ?_⟩) | ((with_reducible refine gate_builtin (b := .append) (xs := #[.tmp 39, .tmp 45]) rfl ?_); (try (refine gate_guard (by rfl) ?_; dsimp only)); at_builtin; refine Kd.R_append (Kd.int .u8) (w0 := w) w.heap.size rfl (.tmp 39) (.tmp 45) 22 5 (.int .u8 0) 1 rfl Tryd.underlying22 info5 rfl (by decide) (by omega) u4 x4_2 ((wrap64 ((wrap64 (16 * t149)) + t150)) % 256) [.int .u8 ((wrap64 ((wrap64 (16 * t149)) + t150)) % 256)] (fun _ => True) (fun _ => False) rfl rfl ?aP (fun _ hk => hk.elim) ?aF ?aO ?aB ?aS ?aL ?_; (case aP => exact rfl); (case aB => exact (by repeat (first | (with_reducible first | exact HB.out | apply below_alloc | apply pw_below_drewN | apply below_drew1) | exact HB.out))); (case aF => exact (fun _ _ => trivial)); (case aO => exact (by (with_reducible repeat (first | apply Kd.R_alloc | apply Kd.R_drewN | apply Kd.R_drew)); exact HO_4.out)); (case aS => exact (below_size (by repeat (first | (with_reducible first | exact HB.out | apply below_alloc | apply pw_below_drewN | apply below_drew1) | exact HB.out)))); (case aL => have := LMc17.out; omega); intro v152 w18 ho hb hg hat; rw [← Ny151.out] at ho; have n0_ := Aside0.mk (hb); have n1_ := Aside0.mk (ho); clear HB; clear HO_4; have HB := n0_; have HO153 := n1_; clear n0_ n1_; clear ho hb hg hat))
                            go_roundg k2
                            case measure => have := HJ2.out; have := HK2.out; omega
                            case rel => exact ⟨(y151), (wrap64 (x5_2 + 2)), (by first | rfl | (simp; done) | (simp [*]; done)), H', ⟨by have := HJ2.out; have := HK2.out; omega⟩, ⟨by (with_reducible repeat (first | apply Kd.R_alloc | apply Kd.R_drewN | apply Kd.R_drew)); exact HO153.out⟩, ⟨by repeat (first | (with_reducible first | exact HB.out | apply below_alloc | apply pw_below_drewN | apply below_drew1) | exact HB.out)⟩⟩
                          · rw [if_neg c17] at H
                            exact absurd H (by simp)
                    · rw [if_neg c12] at H
                      exact absurd H (by simp)
                  · rw [if_neg c11] at H
                    exact absurd H (by simp)
                · rw [if_neg c7] at H
                  exact absurd H (by simp)
              · rw [if_neg c6] at H
                have c6b0 : decide (x5_2 < (a0.size : Int)) = false := decide_eq_false c6
                clear c6
                simp only [Option.some.injEq, Prod.mk.injEq] at H
                obtain ⟨rfl, rfl⟩ := H
                go_wp2
                go_ret2
                exact ⟨_, by first | rfl | (simp [errW_none, errW_some] <;> rfl) | (simp [*, errW_none, errW_some] <;> rfl), by (with_reducible repeat (first | apply Kd.R_alloc | apply Kd.R_drewN | apply Kd.R_drew)); exact HO_4.out, by repeat (first | (with_reducible first | exact HB.out | apply below_alloc | apply pw_below_drewN | apply below_drew1) | exact HB.out)⟩

/-! ### lamplighterref19_Hex: function 14 -/
def lamplighterref19_Hex.f (l0 : List Int) : Option (ByteArray) := if (∀ x ∈ l0, 0 ≤ x ∧ x ≤ 255) ∧ l0.length ≤ 1000000 then some (strOf (hexT l0)) else none
theorem lamplighterref19_Hex.calls (A0 : Option Addr) (c0 : Nat) (l0 : List Int) (r : ByteArray) (w : World) (hr0 : Kd.C (Kd.int .u8) w A0 l0.length l0) (hc0 : l0.length ≤ c0) (h : lamplighterref19_Hex.f l0 = some r) :
    Calls Tryd.prog 14 #[.slice A0 l0.length c0] w fun e w' => e = .returned (.string r) ∧ Below w.heap.size w w' := by
  unfold lamplighterref19_Hex.f at h
  by_cases q : (∀ x ∈ l0, 0 ≤ x ∧ x ≤ 255) ∧ l0.length ≤ 1000000
  · rw [if_pos q] at h
    obtain rfl := Option.some.inj h
    exact refhex_walk A0 c0 l0 q.1 q.2 w hr0 hc0
  · rw [if_neg q] at h
    cases h


-- NOT PRINTED: function 3 (lamplighterlaw19_TraceBytes)

-- NOT PRINTED: function 15 (trace_Event)

/-! ### lamplighterref19_Decimal: function 31 -/
mutual
def lamplighterref19_Decimal.l0 : Nat → Int → ByteArray → Option (ByteArray)
  | 0, _, _ => none
  | k + 1, x0, x3 => if x0 > 0 then ((some (([(wrap64 (48 + (Int.tmod x0 10))) % 256] : List Int) : List Int)).bind fun y156 => (if (strOfNums y156).size + x3.size ≤ 9223372036854775807 then (lamplighterref19_Decimal.l0 k (wrap64 (Int.tdiv x0 10)) ((strOfNums y156) ++ x3)) else (none))) else (if x3.toList = ([] : List UInt8) then ((some (([(wrap64 (48 + (Int.tmod x0 10))) % 256] : List Int) : List Int)).bind fun y159 => (if (strOfNums y159).size + x3.size ≤ 9223372036854775807 then (lamplighterref19_Decimal.l0 k (wrap64 (Int.tdiv x0 10)) ((strOfNums y159) ++ x3)) else (none))) else (some x3))
def lamplighterref19_Decimal.f : Nat → Int → Option (ByteArray)
  | 0, _ => none
  | k + 1, a0 => if a0 < 0 then (if a0 = (-9223372036854775808) then (some (⟨#[45, 57, 50, 50, 51, 51, 55, 50, 48, 51, 54, 56, 53, 52, 55, 55, 53, 56, 48, 56]⟩ : ByteArray)) else ((lamplighterref19_Decimal.f k (wrap64 (-a0))).bind fun t155 => (if 1 + t155.size ≤ 9223372036854775807 then (some ((⟨#[45]⟩ : ByteArray) ++ t155)) else (none)))) else (lamplighterref19_Decimal.l0 k a0 (⟨#[]⟩ : ByteArray))
end
theorem lamplighterref19_Decimal.mono_l : ∀ k, (∀ y0, LeO (lamplighterref19_Decimal.f k y0) (lamplighterref19_Decimal.f (k + 1) y0)) ∧ (∀ y0 y1, LeO (lamplighterref19_Decimal.l0 k y0 y1) (lamplighterref19_Decimal.l0 (k + 1) y0 y1))
  | 0 => ⟨fun _ r h => by simp [lamplighterref19_Decimal.f] at h, fun _ _ r h => by simp [lamplighterref19_Decimal.l0] at h⟩
  | k + 1 => by
    obtain ⟨ih0, ih1⟩ := lamplighterref19_Decimal.mono_l k
    refine ⟨?_, ?_⟩
    · intro y0
      unfold lamplighterref19_Decimal.f
      repeat' first
      | (with_reducible exact ih0 _)
      | (with_reducible exact ih1 _ _)
      | (with_reducible exact LeO.refl _)
      | (with_reducible exact LeO.none _)
      | (with_reducible refine LeO.ite ?_ ?_)
      | (with_reducible refine LeO.bind ?_ (fun _ => ?_))
      | exact ih0 _
      | exact ih1 _ _
      | exact LeO.none _
      | refine LeO.ite ?_ ?_
      | refine LeO.bind ?_ (fun _ => ?_)
    · intro y0 y1
      unfold lamplighterref19_Decimal.l0
      repeat' first
      | (with_reducible exact ih0 _)
      | (with_reducible exact ih1 _ _)
      | (with_reducible exact LeO.refl _)
      | (with_reducible exact LeO.none _)
      | (with_reducible refine LeO.ite ?_ ?_)
      | (with_reducible refine LeO.bind ?_ (fun _ => ?_))
      | exact ih0 _
      | exact ih1 _ _
      | exact LeO.none _
      | refine LeO.ite ?_ ?_
      | refine LeO.bind ?_ (fun _ => ?_)
theorem lamplighterref19_Decimal.mono : ∀ a0 k, LeO (lamplighterref19_Decimal.f k a0) (lamplighterref19_Decimal.f (k + 1) a0) := by
  intro a0 k
  obtain ⟨ih0, ih1⟩ := lamplighterref19_Decimal.mono_l k
  exact ih0 a0
set_option maxHeartbeats 8000000 in
set_option maxRecDepth 100000 in
theorem lamplighterref19_Decimal.calls (k : Nat) : ∀ (a0 : Int) (r : ByteArray) (w : World) (h : lamplighterref19_Decimal.f k a0 = some r),
    Calls Tryd.prog 31 #[.int .i64 a0] w fun e w' => e = .returned (.string r) ∧ Below w.heap.size w w' := by
  induction k using Nat.strongRecOn with
  | _ k ih =>
  intro a0 r w h
  cases k with
  | zero => exact absurd h (by simp [lamplighterref19_Decimal.f])
  | succ k =>
  simp only [lamplighterref19_Decimal.f] at h
  have HB := Aside0.mk (Below.refl w.heap.size w)
  have H : (if a0 < 0 then (if a0 = (-9223372036854775808) then (some (⟨#[45, 57, 50, 50, 51, 51, 55, 50, 48, 51, 54, 56, 53, 52, 55, 55, 53, 56, 48, 56]⟩ : ByteArray)) else ((lamplighterref19_Decimal.f k (wrap64 (-a0))).bind fun t155 => (if 1 + t155.size ≤ 9223372036854775807 then (some ((⟨#[45]⟩ : ByteArray) ++ t155)) else (none)))) else (lamplighterref19_Decimal.l0 k a0 (⟨#[]⟩ : ByteArray))) = some r := h
  clear h
  by_cases c2 : a0 < 0
  · rw [if_pos c2] at H
    have c2b0 : decide (a0 < 0) = true := decide_eq_true c2
    clear c2
    by_cases c3 : a0 = (-9223372036854775808)
    · rw [if_pos c3] at H
      have c3b0 : (a0 == (-9223372036854775808)) = true := beq_iff_eq.mpr c3
      have c3b1 : (a0 != (-9223372036854775808)) = false := bne_eq_false_iff_eq.mpr c3
      clear c3
      obtain rfl := Option.some.inj H
      go_enter Tryd.func31, Tryd.ntmps31
      go_wp2
      go_ret
      exact ⟨by first | rfl | (simp [errW_none, errW_some] <;> rfl) | (simp [*, errW_none, errW_some] <;> rfl), by repeat (first | (with_reducible first | exact HB.out | apply below_alloc | apply pw_below_drewN | apply below_drew1) | exact HB.out)⟩
    · rw [if_neg c3] at H
      have c3b0 : (a0 == (-9223372036854775808)) = false := beq_eq_false_iff_ne.mpr c3
      have c3b1 : (a0 != (-9223372036854775808)) = true := bne_iff_ne.mpr c3
      replace H := Option.bind_eq_some_iff.mp H
      obtain ⟨t155, A40, H⟩ := H
      replace H : (if 1 + t155.size ≤ 9223372036854775807 then (some ((⟨#[45]⟩ : ByteArray) ++ t155)) else (none)) = some r := H
      have A4 := Aside0.mk A40
      clear A40
      by_cases c5 : 1 + t155.size ≤ 9223372036854775807
      · rw [if_pos c5] at H
        have c5b0 := eq_true c5
        have c5b1 : decide (1 + t155.size ≤ 9223372036854775807) = true := decide_eq_true c5
        try have c5b2 : (9223372036854775807 < 1 + t155.size) = False := eq_false (Nat.not_lt.2 c5)
        try (have c5b4 := c5b2; simp only [ByteArray.size_append] at c5b4)
        obtain rfl := Option.some.inj H
        go_enter Tryd.func31, Tryd.ntmps31
        go_wp2_with (first | ((with_reducible refine gate_callee (f := 31) rfl ?_); refine goesL_ (some 10) rfl rfl Tryd.func31 (by kernel_rfl) rfl #[.int .i64 (wrap64 (-a0))] rfl (by (try simp only [List.map_toArray, List.map_cons, List.map_nil]); first | done | rfl | (simp only [List.length_drop, List.length_take]; rfl)) ?_; (with_reducible refine (ih k (by omega) (wrap64 (-a0)) t155 _ A4.out).mono ?_); rintro e w6 ⟨rfl, hb⟩; refine ⟨_, rfl, ?_⟩; have n0_ := Aside0.mk (below_step (by repeat (first | (with_reducible first | exact HB.out | apply below_alloc | apply pw_below_drewN | apply below_drew1) | exact HB.out)) hb); clear HB; have HB := n0_; clear n0_; (try clear hb); (try clear hb2); (try clear hk); (try clear hi)))
        go_ret
        exact ⟨by first | rfl | (simp [errW_none, errW_some] <;> rfl) | (simp [*, errW_none, errW_some] <;> rfl), by repeat (first | (with_reducible first | exact HB.out | apply below_alloc | apply pw_below_drewN | apply below_drew1) | exact HB.out)⟩
      · rw [if_neg c5] at H
        exact absurd H (by simp)
  · rw [if_neg c2] at H
    have c2b0 : decide (a0 < 0) = false := decide_eq_false c2
    clear c2
    have H' := Aside0.mk H
    clear H
    go_enter Tryd.func31, Tryd.ntmps31
    go_wp2
    go_loopg [0, 3] k (fun kq v0 v3 w' => ∃ (x0_1 : Int) (x3_1 : ByteArray), v0 = .int .i64 x0_1 ∧ v3 = .string x3_1 ∧ Aside0 (lamplighterref19_Decimal.l0 kq x0_1 x3_1 = some r) ∧ Aside0 (kq ≤ k) ∧ Aside0 (Below w.heap.size w w'))
    case atStart => exact ⟨(a0), ((⟨#[]⟩ : ByteArray)), (by first | rfl | (simp; done) | (simp [*]; done)), (by first | rfl | (simp; done) | (simp [*]; done)), H', ⟨Nat.le_refl _⟩, ⟨by repeat (first | (with_reducible first | exact HB.out | apply below_alloc | apply pw_below_drewN | apply below_drew1) | exact HB.out)⟩⟩
    case round =>
      clear H'
      try clear c2
      try clear c2b0
      try clear p2
      try clear c3
      try clear c3b0
      try clear c3b1
      try clear c5
      try clear c5b0
      try clear c5b1
      try clear c5b2
      try clear p6
      obtain ⟨x0_1, x3_1, rfl, rfl, HA, HK1, HB⟩ := hrel
      cases gk with
      | zero => exact absurd HA.out (by simp [lamplighterref19_Decimal.l0])
      | succ k1 =>
        have H := HA.out
        clear HA
        simp only [lamplighterref19_Decimal.l0] at H
        by_cases c7 : x0_1 > 0
        · rw [if_pos c7] at H
          have c7b0 : decide (0 < x0_1) = true := decide_eq_true c7
          clear c7
          obtain ⟨y156, hy156⟩ : ∃ y_ : List Int, y_ = (([(wrap64 (48 + (Int.tmod x0_1 10))) % 256] : List Int)) := ⟨_, rfl⟩
          replace H : (if (strOfNums y156).size + x3_1.size ≤ 9223372036854775807 then (lamplighterref19_Decimal.l0 k1 (wrap64 (Int.tdiv x0_1 10)) ((strOfNums y156) ++ x3_1)) else (none)) = some r := by first | (rw [hy156]; with_reducible exact H) | (have H2_ := (Option.bind_some _ _).symm.trans H; rw [hy156]; with_reducible exact H2_) | (have H2_ := (Option.bind_some _ _).symm.trans H; with_reducible exact H2_) | with_reducible exact H | (rw [hy156]; exact H) | exact H
          have Ny156 := Aside0.mk hy156
          clear hy156
          by_cases c8 : (strOfNums y156).size + x3_1.size ≤ 9223372036854775807
          · rw [if_pos c8] at H
            have c8b0 := eq_true c8
            have c8b1 : decide ((strOfNums y156).size + x3_1.size ≤ 9223372036854775807) = true := decide_eq_true c8
            try have c8b2 : (9223372036854775807 < (strOfNums y156).size + x3_1.size) = False := eq_false (Nat.not_lt.2 c8)
            try (have c8b4 := c8b2; simp only [ByteArray.size_append] at c8b4)
            have H' := Aside0.mk H
            clear H
            go_wp2_with (first | ((with_reducible refine gate_dst (N := 22) rfl ?_); refine Kd.R_lit (Kd.int .u8) _ 5 ?hg (N := 22) ?hd (xs := ([(wrap64 (48 + (Int.tmod x0_1 10))) % 256] : List Int)) (inner := [.int .u8 ((wrap64 (48 + (Int.tmod x0_1 10))) % 256)]) (ok := fun _ => True) (okp := fun _ => True) ?hr ?hp (fun _ hk => hk) trivial (Below.refl _ _) (Nat.le_refl _) (by simp) ?_; (case hd => rfl); (case hg => rfl); (case hr => first | (go_simp; done) | (go_simp; rfl)); (case hp => exact (Reps.one (show Kd.M (Kd.int .u8) _ _ _ ((wrap64 (48 + (Int.tmod x0_1 10))) % 256) [.int .u8 ((wrap64 (48 + (Int.tmod x0_1 10))) % 256)] from rfl) (Reps.none _ _))); intro v157 w9 ho10 hb hg_ hnew_; clear hg_ hnew_; (first | rw [← Ny156.out] at ho10 | (simp only [Int.reduceToNat] at ho10; rw [← Ny156.out] at ho10)); have n0_ := Aside0.mk (Kd.R_lower ho10 (below_size (by repeat (first | (with_reducible first | exact HB.out | apply below_alloc | apply pw_below_drewN | apply below_drew1) | exact HB.out)))); have n1_ := Aside0.mk (below_step (by repeat (first | (with_reducible first | exact HB.out | apply below_alloc | apply pw_below_drewN | apply below_drew1) | exact HB.out)) hb); clear HB; have HO158 := n0_; have HB := n1_; clear n0_ n1_; clear hb ho10; have hcv11 := own_string (P := Tryd.prog) Tryd.underlying22 Tryd.underlying5 Tryd.underlying9 (Kd.own_of_R HO158.out)))
            go_roundg k1
            case measure => have := HK1.out; omega
            case rel => exact ⟨(wrap64 (Int.tdiv x0_1 10)), ((strOfNums y156) ++ x3_1), (by first | rfl | (simp; done) | (simp [*]; done)), (by first | rfl | (simp; done) | (simp [*]; done)), H', ⟨by have := HK1.out; omega⟩, ⟨by repeat (first | (with_reducible first | exact HB.out | apply below_alloc | apply pw_below_drewN | apply below_drew1) | exact HB.out)⟩⟩
          · rw [if_neg c8] at H
            exact absurd H (by simp)
        · rw [if_neg c7] at H
          have c7b0 : decide (0 < x0_1) = false := decide_eq_false c7
          clear c7
          by_cases c12 : x3_1.toList = ([] : List UInt8)
          · rw [if_pos c12] at H
            have c12b0 : (x3_1.toList == ([] : List UInt8)) = true := beq_iff_eq.mpr c12
            have c12b1 : (x3_1.toList != ([] : List UInt8)) = false := bne_eq_false_iff_eq.mpr c12
            clear c12
            obtain ⟨y159, hy159⟩ : ∃ y_ : List Int, y_ = (([(wrap64 (48 + (Int.tmod x0_1 10))) % 256] : List Int)) := ⟨_, rfl⟩
            replace H : (if (strOfNums y159).size + x3_1.size ≤ 9223372036854775807 then (lamplighterref19_Decimal.l0 k1 (wrap64 (Int.tdiv x0_1 10)) ((strOfNums y159) ++ x3_1)) else (none)) = some r := by first | (rw [hy159]; with_reducible exact H) | (have H2_ := (Option.bind_some _ _).symm.trans H; rw [hy159]; with_reducible exact H2_) | (have H2_ := (Option.bind_some _ _).symm.trans H; with_reducible exact H2_) | with_reducible exact H | (rw [hy159]; exact H) | exact H
            have Ny159 := Aside0.mk hy159
            clear hy159
            by_cases c13 : (strOfNums y159).size + x3_1.size ≤ 9223372036854775807
            · rw [if_pos c13] at H
              have c13b0 := eq_true c13
              have c13b1 : decide ((strOfNums y159).size + x3_1.size ≤ 9223372036854775807) = true := decide_eq_true c13
              try have c13b2 : (9223372036854775807 < (strOfNums y159).size + x3_1.size) = False := eq_false (Nat.not_lt.2 c13)
              try (have c13b4 := c13b2; simp only [ByteArray.size_append] at c13b4)
              have H' := Aside0.mk H
              clear H
              go_wp2_with (first | ((with_reducible refine gate_dst (N := 22) rfl ?_); refine Kd.R_lit (Kd.int .u8) _ 5 ?hg (N := 22) ?hd (xs := ([(wrap64 (48 + (Int.tmod x0_1 10))) % 256] : List Int)) (inner := [.int .u8 ((wrap64 (48 + (Int.tmod x0_1 10))) % 256)]) (ok := fun _ => True) (okp := fun _ => True) ?hr ?hp (fun _ hk => hk) trivial (Below.refl _ _) (Nat.le_refl _) (by simp) ?_; (case hd => rfl); (case hg => rfl); (case hr => first | (go_simp; done) | (go_simp; rfl)); (case hp => exact (Reps.one (show Kd.M (Kd.int .u8) _ _ _ ((wrap64 (48 + (Int.tmod x0_1 10))) % 256) [.int .u8 ((wrap64 (48 + (Int.tmod x0_1 10))) % 256)] from rfl) (Reps.none _ _))); intro v160 w14 ho15 hb hg_ hnew_; clear hg_ hnew_; (first | rw [← Ny159.out] at ho15 | (simp only [Int.reduceToNat] at ho15; rw [← Ny159.out] at ho15)); have n0_ := Aside0.mk (Kd.R_lower ho15 (below_size (by repeat (first | (with_reducible first | exact HB.out | apply below_alloc | apply pw_below_drewN | apply below_drew1) | exact HB.out)))); have n1_ := Aside0.mk (below_step (by repeat (first | (with_reducible first | exact HB.out | apply below_alloc | apply pw_below_drewN | apply below_drew1) | exact HB.out)) hb); clear HB; have HO161 := n0_; have HB := n1_; clear n0_ n1_; clear hb ho15; have hcv16 := own_string (P := Tryd.prog) Tryd.underlying22 Tryd.underlying5 Tryd.underlying9 (Kd.own_of_R HO161.out)))
              go_roundg k1
              case measure => have := HK1.out; omega
              case rel => exact ⟨(wrap64 (Int.tdiv x0_1 10)), ((strOfNums y159) ++ x3_1), (by first | rfl | (simp; done) | (simp [*]; done)), (by first | rfl | (simp; done) | (simp [*]; done)), H', ⟨by have := HK1.out; omega⟩, ⟨by repeat (first | (with_reducible first | exact HB.out | apply below_alloc | apply pw_below_drewN | apply below_drew1) | exact HB.out)⟩⟩
            · rw [if_neg c13] at H
              exact absurd H (by simp)
          · rw [if_neg c12] at H
            have c12b0 : (x3_1.toList == ([] : List UInt8)) = false := beq_eq_false_iff_ne.mpr c12
            have c12b1 : (x3_1.toList != ([] : List UInt8)) = true := bne_iff_ne.mpr c12
            obtain rfl := Option.some.inj H
            go_wp2
            go_ret
            exact ⟨by first | rfl | (simp [errW_none, errW_some] <;> rfl) | (simp [*, errW_none, errW_some] <;> rfl), by repeat (first | (with_reducible first | exact HB.out | apply below_alloc | apply pw_below_drewN | apply below_drew1) | exact HB.out)⟩

end Go.Proofs.YtoloooammaiipaaDoor.PI
/- What trace.Bytes and the reference's give, in plain words: the bytes that pairs of digits tell, or none; conditions: at most a million bytes. -/
namespace Go.Proofs.YtoloooammaiipaaDoor
open Go Go.RowKit Go.Proofs.YtoloooammaiipaaDoor.PI Go.Proofs.YtoloooammaiipaaDoorW.PrintWords Go.Proofs.YtoloooammaiipaaDoorW.PrintLast
set_option linter.unusedVariables false
/-- What a text tells of bytes. -/
def bytesO (s : List UInt8) : Option (List Int) := if s = [45] then some [] else if s = [] then none else unhex s
def pairO : Option (List Int) → List Int × Bool
  | some l => (l, true)
  | none => ([], false)
theorem unhex_odd : ∀ (n : Nat) (l : List UInt8), l.length = n → n % 2 = 1 → unhex l = none
  | 0, _, _, h => by omega
  | 1, l, hl, _ => by
    match l, hl with
    | [_], _ => rfl
  | n + 2, l, hl, h => by
    match l, hl with
    | a :: b :: r, hl =>
      have := unhex_odd n r (by simpa using hl) (by omega)
      unfold unhex
      rw [this]
      split <;> rename_i h1 h2 h3
      · cases h3
      · rfl
theorem digit_index : ∀ c : Fin 256, Lib.indexByte [48, 49, 50, 51, 52, 53, 54, 55, 56, 57, 97, 98, 99, 100, 101, 102] (UInt8.ofNat c.1) = (match hexN (UInt8.ofNat c.1) with | some n => (n : Int) | none => -1) := by decide +kernel
theorem hexN_lt {c : UInt8} {n : Nat} (h : hexN c = some n) : n < 16 := by
  unfold hexN at h
  split at h
  · obtain rfl := Option.some.inj h; omega
  · split at h
    · obtain rfl := Option.some.inj h; omega
    · cases h
theorem or_lo : ∀ a b : Fin 16, Go.bits .or .u8 ((((Go.bits .or .u8 ((0 * 16) % 256) ((a.1 : Int) % 256)) : Int) * 16) % 256) ((b.1 : Int) % 256) = ((16 * a.1 + b.1 : Nat) : Int) := by decide +kernel
theorem byte_of {s : ByteArray} {i : Nat} (h : i < s.size) : bt s (i : Int) = ((s.data.toList[i]'(by rw [len_size]; exact h)).toNat : Int) := by
  unfold bt
  rw [dif_pos (by simpa using h)]
  rfl
theorem index_is {s : ByteArray} {i : Nat} (h : i < s.size) : strings_IndexByte.f (⟨#[48, 49, 50, 51, 52, 53, 54, 55, 56, 57, 97, 98, 99, 100, 101, 102]⟩ : ByteArray) (bt s (i : Int)) = some (match hexN (s.data.toList[i]'(by rw [len_size]; exact h)) with | some n => (n : Int) | none => -1) := by
  have hl : i < s.data.toList.length := by rw [len_size]; exact h
  have e := digit_index ⟨(s.data.toList[i]'hl).toNat, UInt8.toNat_lt _⟩
  unfold strings_IndexByte.f stringslite_IndexByte.f
  rw [byte_of h, Int.toNat_natCast, Option.bind_some]
  congr 1
  simp only [UInt8.ofNat_toNat] at e
  show Lib.indexByte [48, 49, 50, 51, 52, 53, 54, 55, 56, 57, 97, 98, 99, 100, 101, 102] (UInt8.ofNat (s.data.toList[i]'hl).toNat) = _
  rw [UInt8.ofNat_toNat]
  exact e
theorem unhex_n1 {a b : UInt8} {r : List UInt8} (h : hexN a = none) : unhex (a :: b :: r) = none := by
  unfold unhex
  rw [h]
theorem unhex_n2 {a b : UInt8} {r : List UInt8} (h : hexN b = none) : unhex (a :: b :: r) = none := by
  unfold unhex
  rw [h]
  cases hexN a <;> rfl
theorem unhex_s {a b : UInt8} {r : List UInt8} {x y : Nat} (h : hexN a = some x) (h' : hexN b = some y) : unhex (a :: b :: r) = (unhex r).map (((16 * x + y : Nat) : Int) :: ·) := by
  conv => lhs; unfold unhex
  rw [h, h']
  cases unhex r <;> rfl
theorem wrap_nat {n : Nat} (h : n ≤ 4000000000) : wrap64 (n : Int) = (n : Int) := wrap_fit (by omega) (by omega)
theorem half_even (j : Nat) (h : j ≤ 1000000) : wrap64 (Int.tdiv ((2 * j : Nat) : Int) 2) = (j : Int) := by
  have e : Int.tdiv ((2 * j : Nat) : Int) 2 = (j : Int) := by rw [Int.tdiv_eq_ediv_of_nonneg (by omega)]; omega
  rw [e, wrap_nat (by omega)]
theorem half_odd (j : Nat) (h : j ≤ 1000000) : wrap64 (Int.tdiv ((2 * j + 1 : Nat) : Int) 2) = (j : Int) := by
  have e : Int.tdiv ((2 * j + 1 : Nat) : Int) 2 = (j : Int) := by rw [Int.tdiv_eq_ediv_of_nonneg (by omega)]; omega
  rw [e, wrap_nat (by omega)]
theorem rd_mid (pre : List Int) (x : Int) (r : List Int) : rd (pre ++ x :: r) (pre.length : Int) = x := by
  unfold rd
  rw [Int.toNat_natCast, List.getD_eq_getElem?_getD, List.getElem?_append_right (Nat.le_refl _)]
  simp
theorem set_mid (pre : List Int) (x y : Int) (r : List Int) : (pre ++ x :: r).set ((pre.length : Int)).toNat y = pre ++ y :: r := by
  rw [Int.toNat_natCast, List.set_append_right _ _ (Nat.le_refl _)]
  simp
theorem bytes_loop (s : ByteArray) (hs : s.size ≤ 1000000) (m : Nat) (hm : s.size = 2 * m) : ∀ (d : Nat) (pre : List Int), pre.length + d = m → ∀ k, 2 * d < k →
    trace_Bytes.l0 k s (pre ++ List.replicate d 0) (s.size : Int) ((2 * pre.length : Nat) : Int) = some (pairO ((unhex (s.data.toList.drop (2 * pre.length))).map (pre ++ ·)))
  | 0, pre, hd, k, hk => by
    obtain ⟨k, rfl⟩ : ∃ j, k = j + 1 := ⟨k - 1, by omega⟩
    have hl := len_size s
    unfold trace_Bytes.l0
    rw [if_neg (by omega), List.drop_of_length_le (by omega)]
    simp [unhex, pairO]
  | d + 1, pre, hd, k, hk => by
    obtain ⟨k, rfl⟩ : ∃ j, k = j + 2 := ⟨k - 2, by omega⟩
    have hl := len_size s
    have i0 : 2 * pre.length < s.size := by omega
    have i1 : 2 * pre.length + 1 < s.size := by omega
    have l0 : 2 * pre.length < s.data.toList.length := by omega
    have l1 : 2 * pre.length + 1 < s.data.toList.length := by omega
    have ed : s.data.toList.drop (2 * pre.length) = s.data.toList[2 * pre.length] :: s.data.toList[2 * pre.length + 1] :: s.data.toList.drop (2 * (pre.length + 1)) := by
      rw [List.drop_eq_getElem_cons l0, List.drop_eq_getElem_cons l1, show 2 * pre.length + 1 + 1 = 2 * (pre.length + 1) by omega]
    have hrep : List.replicate (d + 1) (0 : Int) = 0 :: List.replicate d 0 := rfl
    have hlen : ((pre ++ List.replicate (d + 1) (0 : Int)).length : Int) = ((pre.length + (d + 1) : Nat) : Int) := by simp
    have q1 : ((2 * pre.length : Nat) : Int) < (s.size : Int) := by omega
    have q2 : (0 : Int) ≤ ((2 * pre.length : Nat) : Int) := by omega
    have hp : pre.length ≤ 1000000 := by omega
    rw [ed]
    unfold trace_Bytes.l0
    rw [if_pos q1, if_pos q2, if_pos q1, index_is i0, Option.bind_some]
    cases h0 : hexN (s.data.toList[2 * pre.length]) with
    | none =>
      simp only
      rw [if_pos (by decide), unhex_n1 h0]
      rfl
    | some x =>
      have hx := hexN_lt h0
      simp only
      rw [if_neg (by omega), half_even _ hp, if_pos (by omega), if_pos (by rw [hlen]; omega), hrep, rd_mid, set_mid]
      have ew : wrap64 (((2 * pre.length : Nat) : Int) + 1) = ((2 * pre.length + 1 : Nat) : Int) := by rw [wrap_fit (by omega) (by omega)]; rfl
      rw [ew]
      unfold trace_Bytes.l0
      have q3 : ((2 * pre.length + 1 : Nat) : Int) < (s.size : Int) := by omega
      have q4 : (0 : Int) ≤ ((2 * pre.length + 1 : Nat) : Int) := by omega
      rw [if_pos q3, if_pos q4, if_pos q3, index_is i1, Option.bind_some]
      cases h1 : hexN (s.data.toList[2 * pre.length + 1]) with
      | none =>
        simp only
        rw [if_pos (by decide), unhex_n2 h1]
        rfl
      | some y =>
        have hy := hexN_lt h1
        have hlen2 : ∀ z : Int, ((pre ++ z :: List.replicate d (0 : Int)).length : Int) = ((pre.length + (d + 1) : Nat) : Int) := fun z => by simp
        simp only
        rw [if_neg (by omega), half_odd _ hp, if_pos (by omega), if_pos (by rw [hlen2]; omega), rd_mid, set_mid]
        have eo := or_lo ⟨x, hx⟩ ⟨y, hy⟩
        simp only at eo
        rw [eo]
        have ew2 : wrap64 (((2 * pre.length + 1 : Nat) : Int) + 1) = ((2 * (pre ++ [((16 * x + y : Nat) : Int)]).length : Nat) : Int) := by
          rw [wrap_fit (by omega) (by omega)]
          simp
          omega
        rw [ew2]
        have ih := bytes_loop s hs m hm d (pre ++ [((16 * x + y : Nat) : Int)]) (by simp; omega) k (by omega)
        have ea : pre ++ ((16 * x + y : Nat) : Int) :: List.replicate d 0 = (pre ++ [((16 * x + y : Nat) : Int)]) ++ List.replicate d 0 := by simp
        rw [ea, ih]
        have el : (pre ++ [((16 * x + y : Nat) : Int)]).length = pre.length + 1 := by simp
        rw [el]
        rw [unhex_s h0 h1]
        cases unhex (s.data.toList.drop (2 * (pre.length + 1))) with
        | none => rfl
        | some r => simp [pairO]
theorem odd_bit : ∀ n : Nat, n ≤ 1000000 → (decide ((Go.bits .and .i64 (n : Int) 1) > 0)) = decide (n % 2 = 1) := fun n h => by
  have e : Go.bits .and .i64 (n : Int) 1 = ((n % 2 : Nat) : Int) := by
    exact Go.Proofs.and_one n (by omega)
  rw [e]
  apply decide_eq_decide.2
  omega
theorem bytes_is (s : ByteArray) (hs : s.size ≤ 1000000) (k : Nat) (hk : s.size + 2 ≤ k) : trace_Bytes.f k s = some (pairO (bytesO s.data.toList)) := by
  obtain ⟨k, rfl⟩ : ∃ j, k = j + 1 := ⟨k - 1, by omega⟩
  have hl := len_size s
  unfold trace_Bytes.f bytesO
  rw [Lib.toList_data]
  by_cases h1 : s.data.toList = [45]
  · rw [if_pos h1, if_pos h1]
    rfl
  rw [if_neg h1, if_neg h1]
  by_cases h2 : s.data.toList = []
  · rw [if_pos h2, if_pos h2]
    rw [trace_Bytes.j0]
    rw [if_pos rfl]
    rfl
  rw [if_neg h2, if_neg h2, odd_bit _ hs]
  rw [trace_Bytes.j0]
  by_cases h3 : s.size % 2 = 1
  · rw [if_pos (by simpa using h3), unhex_odd _ _ hl h3]
    rfl
  · obtain ⟨m, hm⟩ : ∃ m, s.size = 2 * m := ⟨s.size / 2, by omega⟩
    have e : wrap64 ((s.size : Int) / 2) = (m : Int) := by rw [wrap_fit (by omega) (by omega)]; omega
    rw [if_neg (by simpa using h3), e, if_pos (by omega), if_pos (by omega), Int.toNat_natCast]
    have := bytes_loop s hs m hm m [] (by simp) k (by omega)
    simp only [List.nil_append, List.length_nil, Nat.mul_zero, List.drop_zero] at this
    rw [show ((0 : Nat) : Int) = 0 from rfl] at this
    rw [this]
    cases unhex s.data.toList <;> rfl
theorem value_all : ∀ c : Fin 256, lamplighterref19_value.f 1 ((UInt8.ofNat c.1).toNat : Int) = some (match hexN (UInt8.ofNat c.1) with | some n => (n : Int) | none => -1) := by decide +kernel
theorem value_is (k : Nat) (c : UInt8) : lamplighterref19_value.f (k + 1) (c.toNat : Int) = some (match hexN c with | some n => (n : Int) | none => -1) := by
  have e : lamplighterref19_value.f (k + 1) (c.toNat : Int) = lamplighterref19_value.f 1 (c.toNat : Int) := rfl
  have h := value_all ⟨c.toNat, UInt8.toNat_lt c⟩
  simp only [UInt8.ofNat_toNat] at h
  rw [e, h]
theorem refbytes_loop (s : ByteArray) (hs : s.size ≤ 1000000) (m : Nat) (hm : s.size = 2 * m) : ∀ (d : Nat) (pre : List Int), pre.length + d = m → ∀ k, d + 1 < k →
    lamplighterref19_Bytes.l0 k s pre ((2 * pre.length : Nat) : Int) = some (pairO ((unhex (s.data.toList.drop (2 * pre.length))).map (pre ++ ·)))
  | 0, pre, hd, k, hk => by
    obtain ⟨k, rfl⟩ : ∃ j, k = j + 1 := ⟨k - 1, by omega⟩
    have hl := len_size s
    unfold lamplighterref19_Bytes.l0
    rw [if_neg (by omega), List.drop_of_length_le (by omega)]
    simp [unhex, pairO]
  | d + 1, pre, hd, k, hk => by
    obtain ⟨k, rfl⟩ : ∃ j, k = j + 2 := ⟨k - 2, by omega⟩
    have hl := len_size s
    have i0 : 2 * pre.length < s.size := by omega
    have i1 : 2 * pre.length + 1 < s.size := by omega
    have l0 : 2 * pre.length < s.data.toList.length := by omega
    have l1 : 2 * pre.length + 1 < s.data.toList.length := by omega
    have ed : s.data.toList.drop (2 * pre.length) = s.data.toList[2 * pre.length] :: s.data.toList[2 * pre.length + 1] :: s.data.toList.drop (2 * (pre.length + 1)) := by
      rw [List.drop_eq_getElem_cons l0, List.drop_eq_getElem_cons l1, show 2 * pre.length + 1 + 1 = 2 * (pre.length + 1) by omega]
    have ew : wrap64 (((2 * pre.length : Nat) : Int) + 1) = ((2 * pre.length + 1 : Nat) : Int) := by rw [wrap_fit (by omega) (by omega)]; rfl
    rw [ed]
    unfold lamplighterref19_Bytes.l0
    rw [if_pos (by omega), if_pos (by omega), byte_of i0, value_is, Option.bind_some, ew, if_pos (by omega), if_pos (by omega), byte_of i1, value_is, Option.bind_some]
    cases h0 : hexN (s.data.toList[2 * pre.length]) with
    | none =>
      simp only
      rw [if_pos (by decide), unhex_n1 h0]
      rfl
    | some x =>
      have hx := hexN_lt h0
      simp only
      rw [if_neg (by omega)]
      cases h1 : hexN (s.data.toList[2 * pre.length + 1]) with
      | none =>
        simp only
        rw [if_pos (by decide), unhex_n2 h1]
        rfl
      | some y =>
        have hy := hexN_lt h1
        simp only
        have ev : (wrap64 ((wrap64 (16 * (x : Int))) + (y : Int))) % 256 = ((16 * x + y : Nat) : Int) := by
          have w1 : wrap64 (16 * (x : Int)) = 16 * (x : Int) := wrap_fit (by omega) (by omega)
          rw [w1, wrap_fit (by omega) (by omega)]
          omega
        have ew2 : wrap64 (((2 * pre.length : Nat) : Int) + 2) = ((2 * (pre ++ [((16 * x + y : Nat) : Int)]).length : Nat) : Int) := by
          rw [wrap_fit (by omega) (by omega)]
          simp
          omega
        have g2 : ¬ (y : Int) < 0 := Int.not_lt.2 (Int.natCast_nonneg y)
        have g3 : pre.length < 140737488355328 := Nat.lt_of_lt_of_le (show pre.length < 1000001 from Nat.lt_of_le_of_lt (Nat.le_trans (Nat.le_add_right _ _) (Nat.le_of_eq hd)) (show m < 1000001 from Nat.lt_of_le_of_lt (Nat.le_trans (Nat.le_mul_of_pos_left m (by decide : 0 < 2)) (Nat.le_of_eq hm.symm)) (Nat.lt_succ_of_le hs))) (by decide)
        rw [if_neg g2, if_pos g3, ev, ew2]
        have ih := refbytes_loop s hs m hm d (pre ++ [((16 * x + y : Nat) : Int)]) (by clear ew ew2 ev; simp; omega) (k + 1) (by clear ew ew2 ev; omega)
        rw [ih]
        have el : (pre ++ [((16 * x + y : Nat) : Int)]).length = pre.length + 1 := by simp
        rw [el]
        rw [unhex_s h0 h1]
        cases unhex (s.data.toList.drop (2 * (pre.length + 1))) with
        | none => rfl
        | some r => simp [pairO]
theorem refbytes_is (s : ByteArray) (hs : s.size ≤ 1000000) (k : Nat) (hk : s.size + 4 ≤ k) : lamplighterref19_Bytes.f k s = some (pairO (bytesO s.data.toList)) := by
  obtain ⟨k, rfl⟩ : ∃ j, k = j + 1 := ⟨k - 1, by omega⟩
  have hl := len_size s
  unfold lamplighterref19_Bytes.f bytesO
  rw [Lib.toList_data]
  by_cases h1 : s.data.toList = [45]
  · rw [if_pos h1, if_pos h1]
    rfl
  rw [if_neg h1, if_neg h1]
  by_cases h2 : s.data.toList = []
  · rw [if_pos h2, if_pos h2]
    rw [lamplighterref19_Bytes.j0]
    rw [if_pos rfl]
    rfl
  rw [if_neg h2, if_neg h2]
  rw [lamplighterref19_Bytes.j0]
  by_cases h3 : s.size % 2 = 1
  · have e : (((s.size : Int) % 2) != 0) = true := by rw [bne_iff_ne]; omega
    rw [e, if_pos rfl, unhex_odd _ _ hl h3]
    rfl
  · have e : (((s.size : Int) % 2) != 0) = false := by rw [bne_eq_false_iff_eq]; omega
    obtain ⟨m, hm⟩ : ∃ m, s.size = 2 * m := ⟨s.size / 2, by omega⟩
    rw [e, if_neg (by decide)]
    have := refbytes_loop s hs m hm m [] (by simp) k (by omega)
    simp only [List.length_nil, Nat.mul_zero, List.drop_zero] at this
    rw [show ((0 : Nat) : Int) = 0 from rfl] at this
    rw [this]
    cases unhex s.data.toList <;> rfl
end Go.Proofs.YtoloooammaiipaaDoor
/- The table of an event's kinds, as the program's text lays it, with the library's table of powers and its two sentinels: what a world holds that bears them; no conditions. -/
namespace Go.Proofs.YtoloooammaiipaaDoor
open Go Go.ChangeShapes Go.WideShapes Go.ChangeAt Go.RowKit Go.Proofs.YtoloooammaiipaaDoorW.PrintWords Go.Proofs.YtoloooammaiipaaDoorW.PrintLast
theorem laid_at {P : Program} {w : World} : ∀ {laid : List (String × DataW Unit)} {ps : List MemPlace}, DataW.LaidVars P w laid ps → ∀ {n : String} {d : DataW Unit}, (n, d) ∈ laid → ∃ g t cs fuel p, P.globalNamed n = some g ∧ (P.globals[g]?).map (·.type) = some t ∧ w.var? P n = some cs ∧ DataW.trod (fun _ => ()) P w 0 (fun _ => true) false fuel t cs.toList = some (d, p)
  | [], _, _, _, _, hm => by cases hm
  | (_, _) :: _, _, ⟨g, t, cs, fuel, p, _, h1, h2, h3, h4, h5, _⟩, _, _, hm => by
    rcases List.mem_cons.1 hm with e | hm
    · cases e
      exact ⟨g, t, cs, fuel, p, h1, h2, h3, h4⟩
    · exact laid_at h5 hm
/-- A kind: its words, and which fields it has. -/
abbrev KRow := List UInt8 × Bool × Bool × Bool
/-- The kinds of events. -/
def kRows : List KRow := [([105, 110], true, false, false), ([111, 117, 116], true, false, false), ([100, 114, 111, 112, 32, 105, 110], false, false, false), ([100, 114, 111, 112, 32, 111, 117, 116], false, false, false), ([116, 105, 99, 107], false, true, false), ([114, 111, 111, 109], false, true, false), ([102, 97, 105, 108, 115, 121, 110, 99], false, true, false), ([97, 114, 109], false, true, true), ([112, 111, 119, 101, 114], false, false, true)]
def kVals (r : KRow) : List Value := [.string ⟨r.1.toArray⟩, .bool r.2.1, .bool r.2.2.1, .bool r.2.2.2]
def kDat {H : Type} (r : KRow) : DataW H := .agg [.lit (.string r.1), .lit (.bool r.2.1), .lit (.bool r.2.2.1), .lit (.bool r.2.2.2)]
theorem row_cells {H : Type} {enc : TypeId × Value → H} {P : Program} {w : World} {base : Nat} {sp : Nat → Bool} {held : Bool} {fuel : Nat} {t : TypeId} {f0 f1 f2 f3 : Field} {r : KRow} {cs : List Value} {p : List MemPlace}
    (ht : P.underlying t = some (.struct #[f0, f1, f2, f3])) (hc : P.cellsOf t = 4) (o0 : f0.offset = 0) (o1 : f1.offset = 1) (o2 : f2.offset = 2) (o3 : f3.offset = 3)
    (c0 : P.cellsOf f0.type = 1) (c1 : P.cellsOf f1.type = 1) (c2 : P.cellsOf f2.type = 1) (c3 : P.cellsOf f3.type = 1)
    (u0 : P.underlying f0.type = some .string) (u1 : P.underlying f1.type = some .bool) (u2 : P.underlying f2.type = some .bool) (u3 : P.underlying f3.type = some .bool)
    (h : DataW.trod enc P w base sp held fuel t cs = some (kDat r, p)) : cs = kVals r := by
  obtain ⟨xs, n, rfl, hx, hl, _, hf⟩ := DataW.trod_struct ht h
  have hxs : xs.map (·.1) = [.lit (.string r.1), .lit (.bool r.2.1), .lit (.bool r.2.2.1), .lit (.bool r.2.2.2)] := by
    have := congrArg Prod.fst hx
    simpa [kDat] using this.symm
  rw [hc] at hl
  match cs, hl with
  | [v0, v1, v2, v3], _ =>
    have e0 := hf 0 f0 rfl
    have e1 := hf 1 f1 rfl
    have e2 := hf 2 f2 rfl
    have e3 := hf 3 f3 rfl
    rw [o0, c0] at e0
    rw [o1, c1] at e1
    rw [o2, c2] at e2
    rw [o3, c3] at e3
    match xs, hxs with
    | [a0, a1, a2, a3], hxs =>
      simp only [List.map_cons, List.map_nil, List.cons.injEq, and_true] at hxs
      obtain ⟨x0, x1, x2, x3⟩ := hxs
      obtain ⟨s, q0, rfl, _⟩ := DataW.trod_string u0 e0
      obtain ⟨b1, q1, rfl⟩ := DataW.trod_bool u1 e1
      obtain ⟨b2, q2, rfl⟩ := DataW.trod_bool u2 e2
      obtain ⟨b3, q3, rfl⟩ := DataW.trod_bool u3 e3
      simp only [DataW.lit.injEq, Lit.string.injEq, Lit.bool.injEq] at x0 x1 x2 x3
      have q0' : v0 = .string s := by simpa using q0
      have q1' : v1 = .bool b1 := by simpa using q1
      have q2' : v2 = .bool b2 := by simpa using q2
      have q3' : v3 = .bool b3 := by simpa using q3
      subst q0' q1' q2' q3'
      unfold kVals
      rw [← x0, ← x1, ← x2, ← x3]
theorem nine_cells {cs : List Value} (hl : cs.length = 36) (h : ∀ i, (hi : i < 9) → (cs.drop (i * 4)).take 4 = kVals (kRows[i]'hi)) : cs = kRows.flatMap kVals := by
  have st : ∀ i, (hi : i < 9) → cs.drop (i * 4) = kVals (kRows[i]'hi) ++ cs.drop ((i + 1) * 4) := fun i hi => by
    have e := List.take_append_drop 4 (cs.drop (i * 4))
    rw [List.drop_drop] at e
    have e2 : i * 4 + 4 = (i + 1) * 4 := by omega
    rw [e2, h i hi] at e
    exact e.symm
  have z : cs = cs.drop (0 * 4) := by simp
  have zz : cs.drop (9 * 4) = [] := List.drop_of_length_le (by omega)
  rw [z, st 0 (by decide), st 1 (by decide), st 2 (by decide), st 3 (by decide), st 4 (by decide), st 5 (by decide), st 6 (by decide), st 7 (by decide), st 8 (by decide), zz]
  rfl
theorem cells_of_kinds {H : Type} {enc : TypeId × Value → H} {P : Program} {w : World} {base : Nat} {sp : Nat → Bool} {held : Bool} {fuel : Nat} {t e : TypeId} {f0 f1 f2 f3 : Field} {cs : List Value} {p : List MemPlace}
    (hta : P.underlying t = some (.array 9 e)) (hct : P.cellsOf t = 36) (ht : P.underlying e = some (.struct #[f0, f1, f2, f3])) (hc : P.cellsOf e = 4) (o0 : f0.offset = 0) (o1 : f1.offset = 1) (o2 : f2.offset = 2) (o3 : f3.offset = 3)
    (c0 : P.cellsOf f0.type = 1) (c1 : P.cellsOf f1.type = 1) (c2 : P.cellsOf f2.type = 1) (c3 : P.cellsOf f3.type = 1)
    (u0 : P.underlying f0.type = some .string) (u1 : P.underlying f1.type = some .bool) (u2 : P.underlying f2.type = some .bool) (u3 : P.underlying f3.type = some .bool)
    (h : DataW.trod enc P w base sp held fuel t cs = some (.agg (kRows.map kDat), p)) : cs = kRows.flatMap kVals := by
  cases fuel with
  | zero => simp [DataW.trod] at h
  | succ fuel =>
    simp only [DataW.trod, hta, hc, hct] at h
    split at h
    · rename_i hl
      obtain ⟨xs, hm, hx⟩ := Option.map_eq_some_iff.1 h
      have hxs : xs.map (·.1) = kRows.map (kDat : KRow → DataW H) := by
        have := congrArg Prod.fst hx
        simpa using this
      refine nine_cells hl fun i hi => ?_
      obtain ⟨b, hb, hf⟩ := Lib.mapM_at hm i i (by simp [hi])
      have h2 : (xs.map (·.1))[i]? = some b.1 := by simp [hb]
      have h3 : (kRows.map (kDat : KRow → DataW H))[i]? = some (kDat (kRows[i]'hi)) := by rw [List.getElem?_map, List.getElem?_eq_getElem hi]; rfl
      rw [hxs, h3] at h2
      have h4 := Option.some.inj h2
      obtain ⟨b1, b2⟩ := b
      subst h4
      exact row_cells ht hc o0 o1 o2 o3 c0 c1 c2 c3 u0 u1 u2 u3 hf
    · cases h
/-- The table's cells. -/
def kindsC : Array Value := (kRows.flatMap kVals).toArray
/-- The world bears the tables. -/
structure GlobT (w : World) : Prop where
  kinds : w.var? Tryd.prog "lamplighter/trace.kinds" = some kindsC
  pow : Lib.TabIs Tryd.prog w "internal/strconv.uint64pow10" .u64 Lib.pow10Tab
  syn : ∃ tp p, w.var? Tryd.prog "strconv.ErrSyntax" = some #[.iface tp p]
  ran : ∃ tp p, w.var? Tryd.prog "strconv.ErrRange" = some #[.iface tp p]
theorem globt_below {w W : World} (hG : GlobT w) (hb : Below w.heap.size w W) : GlobT W := by
  obtain ⟨g1, h1⟩ := Option.isSome_iff_exists.1 (show (Tryd.prog.globalNamed "lamplighter/trace.kinds").isSome = true by kernel_rfl)
  obtain ⟨g2, h2⟩ := Option.isSome_iff_exists.1 (show (Tryd.prog.globalNamed "internal/strconv.uint64pow10").isSome = true by kernel_rfl)
  obtain ⟨g3, h3⟩ := Option.isSome_iff_exists.1 (show (Tryd.prog.globalNamed "strconv.ErrSyntax").isSome = true by kernel_rfl)
  obtain ⟨g4, h4⟩ := Option.isSome_iff_exists.1 (show (Tryd.prog.globalNamed "strconv.ErrRange").isSome = true by kernel_rfl)
  obtain ⟨a, b, hs⟩ := hG.syn
  obtain ⟨c, d, hr⟩ := hG.ran
  exact ⟨Go.Joins.var_stays h1 hG.kinds hb (Nat.le_refl _), Go.Joins.tab_stays h2 hG.pow hb (Nat.le_refl _), ⟨a, b, Go.Joins.var_stays h3 hs hb (Nat.le_refl _)⟩, ⟨c, d, Go.Joins.var_stays h4 hr hb (Nat.le_refl _)⟩⟩
theorem typed {P : Program} {n : String} {g : Nat} {t T : TypeId} (e : (P.globalNamed n).bind (fun g => (P.globals[g]?).map (·.type)) = some T) (h1 : P.globalNamed n = some g) (h2 : (P.globals[g]?).map (·.type) = some t) : t = T := by
  rw [h1] at e
  exact Option.some.inj (h2.symm.trans e)
theorem globt_laid {W : World} (h : laidMetH Tryd.prog Rows.traceBytesRow.laid W) : GlobT W := by
  have h0 : laidMet Tryd.prog Rows.traceBytesRow.laid W := h
  obtain ⟨ps, hv, _⟩ := h0
  refine ⟨?_, ?_, ?_, ?_⟩
  · obtain ⟨g, t, cs, fuel, p, hg, ht, hvar, hd⟩ := laid_at hv (n := "lamplighter/trace.kinds") (d := .agg (kRows.map kDat)) (List.mem_of_getElem? (i := 6) (by kernel_rfl))
    obtain rfl := typed (T := 69) (by kernel_rfl) hg ht
    have hc := cells_of_kinds Tryd.underlying69 (by kernel_rfl) Tryd.underlying68 (by kernel_rfl) rfl rfl rfl rfl (by kernel_rfl) (by kernel_rfl) (by kernel_rfl) (by kernel_rfl) Tryd.underlying9 Tryd.underlying4 Tryd.underlying4 Tryd.underlying4 hd
    rw [hvar]
    unfold kindsC
    rw [← hc]
  · obtain ⟨g, t, cs, fuel, p, hg, ht, hvar, hd⟩ := laid_at hv (n := "internal/strconv.uint64pow10") (d := Lib.tabData .u64 Lib.pow10Tab) (List.mem_of_getElem? (i := 2) (by kernel_rfl))
    obtain rfl := typed (T := 112) (by kernel_rfl) hg ht
    have hc := Lib.cells_of_tab Tryd.underlying112 Tryd.underlying102 (by kernel_rfl) (by kernel_rfl) hd
    unfold Lib.TabIs
    rw [hvar, ← hc]
  · obtain ⟨g, t, cs, fuel, p, hg, ht, hvar, hd⟩ := laid_at hv (n := "strconv.ErrSyntax") (d := .iface "*errors.errorString" (.ptr (.agg [.lit (.string [105, 110, 118, 97, 108, 105, 100, 32, 115, 121, 110, 116, 97, 120])]))) (List.mem_of_getElem? (i := 5) (by kernel_rfl))
    obtain rfl := typed (T := 61) (by kernel_rfl) hg ht
    obtain ⟨_, u, v, hc, _, _⟩ := iface_of_trod Tryd.underlying61 hd
    exact ⟨u, v, by rw [hvar, ← Array.toArray_toList (xs := cs), hc]⟩
  · obtain ⟨g, t, cs, fuel, p, hg, ht, hvar, hd⟩ := laid_at hv (n := "strconv.ErrRange") (d := .iface "*errors.errorString" (.ptr (.agg [.lit (.string [118, 97, 108, 117, 101, 32, 111, 117, 116, 32, 111, 102, 32, 114, 97, 110, 103, 101])]))) (List.mem_of_getElem? (i := 4) (by kernel_rfl))
    obtain rfl := typed (T := 61) (by kernel_rfl) hg ht
    obtain ⟨_, u, v, hc, _, _⟩ := iface_of_trod Tryd.underlying61 hd
    exact ⟨u, v, by rw [hvar, ← Array.toArray_toList (xs := cs), hc]⟩
end Go.Proofs.YtoloooammaiipaaDoor
/- What trace's (kind).fill gives: walks, one for each kind of kinds; conditions: the tables lie as the program's text lays them. -/
namespace Go.Proofs.YtoloooammaiipaaDoor
open Go Go.RowKit Go.Proofs.YtoloooammaiipaaDoor.PI Go.Proofs.YtoloooammaiipaaDoorW.PrintWords Go.Proofs.YtoloooammaiipaaDoorW.PrintLast Go.Proofs.YtoloooammaiipaaDoorW.PrintMore
set_option linter.unusedVariables false
set_option linter.unusedSimpArgs false
def Txts (lo hi : Nat) (w : World) (A : Option Addr) (ws : List ByteArray) : Prop := ws ≠ [] → ∃ ab ao, A = some ⟨ab, ao, none⟩ ∧ lo < ab ∧ ab < hi ∧ ∀ i, (h : i < ws.length) → w.cell? ⟨ab, ao + i, none⟩ = some (.string (ws[i]'h))
theorem cell_same {W W' : World} {b : Nat} (h : W'.heap[b]? = W.heap[b]?) (i : Nat) : W'.cell? ⟨b, i, none⟩ = W.cell? ⟨b, i, none⟩ := by simp [World.cell?, h]
theorem Txts.same {lo hi : Nat} {W W' : World} {A : Option Addr} {ws : List ByteArray} (h : Txts lo hi W A ws) (hs : ∀ j, lo < j → j < hi → W'.heap[j]? = W.heap[j]?) : Txts lo hi W' A ws := fun hn => by
  obtain ⟨ab, ao, e, h1, h2, h3⟩ := h hn
  exact ⟨ab, ao, e, h1, h2, fun i hi => (cell_same (hs ab h1 h2) _).trans (h3 i hi)⟩
def NextPost (lo hi b : Nat) (ws : List ByteArray) (w : World) (e : Ending) (w' : World) : Prop :=
  e = .returned (.string (ws.headD ⟨#[]⟩)) ∧ ∃ A' c', w'.heap[b]? = some (.cells #[.slice A' ws.tail.length c'] 75 (0, 0)) ∧ Txts lo hi w' A' ws.tail ∧ ws.tail.length ≤ c' ∧ Below b w w' ∧ (∀ j, j ≠ b → w'.heap[j]? = w.heap[j]?) ∧ w'.heap.size = w.heap.size
theorem next_any (lo hi b : Nat) (hib : hi ≤ b) (A : Option Addr) (c : Nat) (ws : List ByteArray) (w : World) (hk : w.heap[b]? = some (.cells #[.slice A ws.length c] 75 (0, 0))) (hT : Txts lo hi w A ws) (hc : ws.length ≤ c) (hl : ws.length ≤ 1000000) :
    Calls Tryd.prog 47 #[.pointer (some ⟨b, 0, none⟩)] w (NextPost lo hi b ws w) := by
  cases ws with
  | nil =>
    refine (next_none b A c w hk).mono ?_
    rintro e w' ⟨rfl, rfl⟩
    exact ⟨rfl, A, c, hk, fun h => absurd rfl h, hc, Below.refl _ _, fun _ _ => rfl, rfl⟩
  | cons x r =>
    obtain ⟨ab, ao, rfl, hlo, hlt, hcell⟩ := hT (by simp)
    obtain ⟨m, rfl⟩ : ∃ m, c = m + 1 := ⟨c - 1, by simp at hc; omega⟩
    have hrm : r.length ≤ m := by simpa using hc
    have hx : w.cell? ⟨ab, ao, none⟩ = some (.string x) := hcell 0 (by simp)
    have hne : ab ≠ b := by omega
    refine (next_some b ab ao r.length m x w hk hx hrm (by simp at hl; omega)).mono ?_
    rintro e w' ⟨rfl, rfl⟩
    refine ⟨rfl, _, m, (blk_set (blk_drew hk) 0 _).trans rfl, fun hr => ?_, hrm, (below_drew (Below.refl b w)).setCell (Nat.le_refl b) _, fun j hj => Below.heap_setCell w.drew ⟨b, 0, none⟩ _ j hj, ?_⟩
    · have hm : m ≠ 0 := by
        rintro rfl
        exact hr (List.eq_nil_of_length_eq_zero (by simpa using hrm))
      rw [if_neg hm]
      refine ⟨ab, ao + 1, rfl, hlo, hlt, fun i hi => ?_⟩
      · have h1 := hcell (i + 1) (by simp at hi ⊢; omega)
        have h2 : (w.drew.setCell ⟨b, 0, none⟩ (.slice (some ⟨ab, ao + 1, none⟩) r.length m)).cell? ⟨ab, ao + 1 + i, none⟩ = w.drew.cell? ⟨ab, ao + 1 + i, none⟩ := Go.Proofs.YtoloooammaiipaaDoorW.PrintWords.cell_far (W := w.drew) (p := ⟨b, 0, none⟩) (a := ⟨ab, ao + 1 + i, none⟩) hne _
        have e3 : ao + (i + 1) = ao + 1 + i := by omega
        rw [e3] at h1
        exact h2.trans h1
    · simp
theorem numOf_is (s : ByteArray) : numOf s = (match numL s.data.toList with | some v => (v, true) | none => (0, false)) := by
  unfold numOf numL
  rw [len_size]
  cases Lib.atoiAll s.data.toList with
  | ok v =>
    simp only
    by_cases q : Lib.itoa v = s.data.toList ∧ (if s.data.toList.head? = some 45 then s.size - 1 else s.size) ≤ 18
    · rw [if_pos q, if_pos q]
    · rw [if_neg q, if_neg q]
  | range => rfl
  | _ => rfl
def FillPost (i : Int) (o : Option (List Int × Int × Int)) (eb : Nat) (w : World) (e : Ending) (w' : World) : Prop :=
  Below eb w w' ∧ match o with
  | some (a, n, k) => e = .returned (.bool true) ∧ ∃ dv, w'.heap[eb]? = some (.cells #[.int .i64 i, .int .i64 n, .int .i64 k, dv] 29 (0, 0)) ∧ Kd.R (Kd.int .u8) 5 w' w.heap.size (fun _ => True) dv a
  | none => e = .returned (.bool false)
/-- A field that a kind may have. -/
def takeW {α : Type} (f : Bool) (g : List UInt8 → Option α) (z : α) (w : List ByteArray) : Option (α × List ByteArray) := if f then (g (w.headD ⟨#[]⟩).data.toList).map fun x => (x, w.tail) else some (z, w)
/-- What a kind's words tell. -/
def fillO (d c k : Bool) (w : List ByteArray) : Option (List Int × Int × Int) :=
  (takeW d bytesO [] w).bind fun p => (takeW c numL 0 p.2).bind fun q => (takeW k numL 0 q.2).bind fun z => if z.2.length = 0 then some (p.1, q.1, z.1) else none
theorem next_number {s : ByteArray} (hs : s.size ≤ 1000000) {w : World} (hG : GlobT w) :
    Calls Tryd.prog 48 #[.string s] w fun e w' => e = .returned (.tuple #[.int .i64 (match numL s.data.toList with | some v => v | none => 0), .bool (numL s.data.toList).isSome]) ∧ Below w.heap.size w w' := by
  obtain ⟨a, b, h1⟩ := hG.syn
  obtain ⟨c, d, h2⟩ := hG.ran
  refine (number_walk s hs w hG.pow a b h1 c d h2).mono ?_
  rintro e w' ⟨rfl, hb⟩
  rw [numOf_is]
  refine ⟨?_, hb⟩
  cases numL s.data.toList <;> rfl
/-- What a walk of fill knows of its world. -/
structure FS (kb eb : Nat) (words : ByteArray) (d c k : Bool) (w W : World) (ev : Array Value) (A : Option Addr) (ws : List ByteArray) (cp : Nat) : Prop where
  kk : W.heap[kb]? = some (.cells #[.string words, .bool d, .bool c, .bool k] 68 (0, 0))
  kw : W.heap[kb + 1]? = some (.cells #[.slice A ws.length cp] 75 (0, 0))
  ee : W.heap[eb]? = some (.cells ev 29 (0, 0))
  tt : Txts eb kb W A ws
  cc : ws.length ≤ cp
  bb : Below eb w W
  lt : eb < kb
theorem FS.next {kb eb : Nat} {words : ByteArray} {d c k : Bool} {w W : World} {ev : Array Value} {A : Option Addr} {ws : List ByteArray} {cp : Nat} (h : FS kb eb words d c k w W ev A ws cp) (hl : ws.length ≤ 1000000) :
    Calls Tryd.prog 47 #[.pointer (some ⟨kb + 1, 0, none⟩)] W fun e W' => ∃ x, Hid (x = ws.headD ⟨#[]⟩) ∧ e = .returned (.string x) ∧ ∃ A' cp', FS kb eb words d c k w W' ev A' ws.tail cp' := by
  refine (next_any eb kb (kb + 1) (Nat.le_succ _) A cp ws W h.kw h.tt h.cc hl).mono ?_
  rintro e W' ⟨rfl, A', c', k1, T1, hc1, hb1, hf1, hs1⟩
  have := h.lt
  exact ⟨_, Lib.hid rfl, rfl, A', c', (hf1 kb (by omega)).trans h.kk, k1, (hf1 eb (by omega)).trans h.ee, T1, hc1, h.bb.trans (hb1.mono (by omega)), h.lt⟩
theorem FS.below {kb eb : Nat} {words : ByteArray} {d c k : Bool} {w W W' : World} {ev : Array Value} {A : Option Addr} {ws : List ByteArray} {cp : Nat} (h : FS kb eb words d c k w W ev A ws cp) (hb : Below W.heap.size W W') : FS kb eb words d c k w W' ev A ws cp := by
  have h1 := blk_lt h.kw
  have := h.lt
  exact ⟨blk_below h.kk hb, blk_below h.kw hb, blk_below h.ee hb, h.tt.same fun j _ hj => hb.block j (by omega), h.cc, h.bb.trans (hb.mono (by omega)), h.lt⟩
theorem FS.set {kb eb : Nat} {words : ByteArray} {d c k : Bool} {w W : World} {ev : Array Value} {A : Option Addr} {ws : List ByteArray} {cp : Nat} (h : FS kb eb words d c k w W ev A ws cp) (j : Nat) (v : Value) : FS kb eb words d c k w (W.setCell ⟨eb, j, none⟩ v) (ev.setIfInBounds j v) A ws cp := by
  have := h.lt
  exact ⟨blk_far h.kk (by show kb ≠ eb; omega) v, blk_far h.kw (by show kb + 1 ≠ eb; omega) v, blk_set h.ee j v, h.tt.same fun i hi _ => Below.heap_setCell W ⟨eb, j, none⟩ v i (by show i ≠ eb; omega), h.cc, h.bb.setCell (Nat.le_refl _) v, h.lt⟩
theorem FS.start {eb : Nat} {words : ByteArray} {d c k : Bool} {w : World} {ev : Array Value} {A : Option Addr} {ws : List ByteArray} {cp : Nat} (he : w.heap[eb]? = some (.cells ev 29 (0, 0))) (hT : Txts eb w.heap.size w A ws) (hc : ws.length ≤ cp) :
    FS w.heap.size eb words d c k w ((w.alloc (.cells #[.string words, .bool d, .bool c, .bool k] 68 (0, 0))).alloc (.cells #[.slice A ws.length cp] 75 (0, 0))) ev A ws cp := by
  have h1 := blk_lt he
  have hb : Below w.heap.size w ((w.alloc (.cells #[.string words, .bool d, .bool c, .bool k] 68 (0, 0))).alloc (.cells #[.slice A ws.length cp] 75 (0, 0))) := below_alloc (below_alloc (Below.refl _ _) _) _
  refine ⟨blk_alloc (blk_new w _) _, ?_, blk_below he hb, hT.same fun j _ hj => hb.block j hj, hc, hb.mono (by omega), h1⟩
  have := blk_new (w.alloc (.cells #[.string words, .bool d, .bool c, .bool k] 68 (0, 0))) (.cells #[.slice A ws.length cp] 75 (0, 0))
  simpa using this
theorem below_mono {B B' : Nat} {w W : World} (h : Below B w W) (hb : B' ≤ B) : Below B' w W := ⟨h.os, h.tape, h.output, h.size, fun k hk => h.block k (by omega)⟩
end Go.Proofs.YtoloooammaiipaaDoor
