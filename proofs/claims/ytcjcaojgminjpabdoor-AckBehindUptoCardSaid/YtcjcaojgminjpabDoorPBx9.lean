-- Written by a program of this work (the kit's print, with contracts of this work's own taken in) out of the translation. Not trusted: Lean checks it.
import Derived.Test.YtcjcaojgminjpabDoorPBx0
import Derived.Test.YtcjcaojgminjpabDoorPBx7
import Derived.Test.YtcjcaojgminjpabDoorPBx8
namespace Go.Proofs.YtcjcaojgminjpabDoor.PB
open Go.RowKit Go.Proofs.YtcjcaojgminjpabDoorW.PrintWords Go.Proofs.YtcjcaojgminjpabDoorW.PrintLast Go.Proofs.YtcjcaojgminjpabDoorW.PrintMore
set_option maxHeartbeats 8000000
set_option maxRecDepth 100000
attribute [local go_sem] max2_int min2_int max_two min_two max_three min_three max_four min_four   -- for this text's walks alone
set_option linter.unusedVariables false
set_option linter.unusedSimpArgs false

/-! ### slices_Index_string_string: function 68 -/
def slices_Index_string_string.l0 : Nat → List ByteArray → ByteArray → Int → Int → Option (Int)
 | 0, _, _, _, _ => none
 | k + 1, x0, x1, x7, x8 => if x8 < x7 then (if 0 ≤ x8 then (if x8 < (x0.length : Int) then (if x1.toList = (rdOf ByteArray.empty x0 x8).toList then (some x8) else (slices_Index_string_string.l0 k x0 x1 x7 (wrap64 (x8 + 1)))) else (none)) else (none)) else (some (-1))
def slices_Index_string_string.f (k : Nat) (l0 : List ByteArray) (a1 : ByteArray) : Option (Int) := slices_Index_string_string.l0 k l0 a1 (l0.length : Int) 0
theorem slices_Index_string_string.mono_l : ∀ k, (∀ y0 y1 y2 y3, LeO (slices_Index_string_string.l0 k y0 y1 y2 y3) (slices_Index_string_string.l0 (k + 1) y0 y1 y2 y3))
 | 0 => fun _ _ _ _ r h => by simp [slices_Index_string_string.l0] at h
 | k + 1 => by
  have ih0 := slices_Index_string_string.mono_l k
  ·intro y0 y1 y2 y3
   unfold slices_Index_string_string.l0
   repeat' first
   | (with_reducible exact ih0 _ _ _ _)
   | (with_reducible exact LeO.refl _)
   | (with_reducible exact LeO.none _)
   | (with_reducible refine LeO.ite ?_ ?_)
   | (with_reducible refine LeO.bind ?_ (fun _ => ?_))
   | exact ih0 _ _ _ _
   | exact LeO.none _
   | refine LeO.ite ?_ ?_
   | refine LeO.bind ?_ (fun _ => ?_)
theorem slices_Index_string_string.mono : ∀ a0 a1 k, LeO (slices_Index_string_string.f k a0 a1) (slices_Index_string_string.f (k + 1) a0 a1) := by
 intro a0 a1 k
 have ih0 := slices_Index_string_string.mono_l k
 unfold slices_Index_string_string.f
 repeat' first
   | (with_reducible exact ih0 _ _ _ _)
   | (with_reducible exact LeO.refl _)
   | (with_reducible exact LeO.none _)
   | (with_reducible refine LeO.ite ?_ ?_)
   | (with_reducible refine LeO.bind ?_ (fun _ => ?_))
   | exact ih0 _ _ _ _
   | exact LeO.none _
   | refine LeO.ite ?_ ?_
   | refine LeO.bind ?_ (fun _ => ?_)
theorem slices_Index_string_string.calls (k : Nat) (A0 : Option Addr) (c0 : Nat) (l0 : List ByteArray) (a1 : ByteArray) (r : Int) (w : World) (hr0 : Kd.C Kd.string w A0 l0.length l0) (hc0 : l0.length ≤ c0) (h : slices_Index_string_string.f k l0 a1 = some r) :
  Calls Tryd.prog 68 #[.slice A0 l0.length c0, .string a1] w fun e w' => e = .returned (.int .i64 r) ∧ Drawn0 w w' := by
 have HR0 := Aside0.mk hr0
 have HC0 := Aside0.mk hc0
 clear hr0 hc0
 have H : (slices_Index_string_string.l0 k l0 a1 (l0.length : Int) 0) = some r := h
 clear h
 have H' := Aside0.mk H
 clear H
 go_enter Tryd.func68, Tryd.ntmps68
 go_wp2
 go_loopg [8] k (fun kq v8 w' => ∃ (x8_1 : Int), v8 = .int .i64 x8_1 ∧ Aside0 (slices_Index_string_string.l0 kq l0 a1 (l0.length : Int) x8_1 = some r) ∧ Aside0 (kq ≤ k) ∧ Drawn0 w w')
 case atStart => exact ⟨(0), (by first | rfl | (simp; done) | (simp [*]; done)), H', ⟨Nat.le_refl _⟩, by repeat (first | exact Drawn0.refl _ | apply Drawn0.step)⟩
 case round =>
  clear H'
  try clear p2
  obtain ⟨x8_1, rfl, HA, HK1, ⟨m1, rfl⟩⟩ := hrel
  cases gk with
  | zero => exact absurd HA.out (by simp [slices_Index_string_string.l0])
  | succ k1 =>
   have H := HA.out
   clear HA
   simp only [slices_Index_string_string.l0] at H
   by_cases c3 : x8_1 < (l0.length : Int)
   ·rw [if_pos c3] at H
    have c3b0 : decide (x8_1 < (l0.length : Int)) = true := decide_eq_true c3
    clear c3
    by_cases c4 : 0 ≤ x8_1
    ·rw [if_pos c4] at H
     have c4b0 : decide (0 ≤ x8_1) = true := decide_eq_true c4
     clear c4
     by_cases c5 : x8_1 < (l0.length : Int)
     ·rw [if_pos c5] at H
      have c5b0 : decide (x8_1 < (l0.length : Int)) = true := decide_eq_true c5
      clear c5
      by_cases c6 : a1.toList = (rdOf ByteArray.empty l0 x8_1).toList
      ·rw [if_pos c6] at H
       have c6b0 : (a1.toList == (rdOf ByteArray.empty l0 x8_1).toList) = true := beq_iff_eq.mpr c6
       have c6b1 : (a1.toList != (rdOf ByteArray.empty l0 x8_1).toList) = false := bne_eq_false_iff_eq.mpr c6
       clear c6
       obtain rfl := Option.some.inj H
       have p178 : 0 ≤ (x8_1 : Int) := of_decide_eq_true (by first | (with_reducible assumption) | assumption)
       have q178 : x8_1 < (l0.length : Int) := of_decide_eq_true (by first | (with_reducible assumption) | assumption)
       obtain ⟨ad178, e178, hx178_0⟩ := Kd.at_string HR0.out x8_1 p178 q178
       cases e178
       replace p178 := eq_true p178
       replace q178 := eq_true q178
       go_wp2
       go_ret
       exact ⟨by first | rfl | (simp; done) | (simp [*]; done), by repeat (first | exact Drawn0.refl _ | apply Drawn0.step)⟩
      ·rw [if_neg c6] at H
       have c6b0 : (a1.toList == (rdOf ByteArray.empty l0 x8_1).toList) = false := beq_eq_false_iff_ne.mpr c6
       have c6b1 : (a1.toList != (rdOf ByteArray.empty l0 x8_1).toList) = true := bne_iff_ne.mpr c6
       have H' := Aside0.mk H
       clear H
       have p178 : 0 ≤ (x8_1 : Int) := of_decide_eq_true (by first | (with_reducible assumption) | assumption)
       have q178 : x8_1 < (l0.length : Int) := of_decide_eq_true (by first | (with_reducible assumption) | assumption)
       obtain ⟨ad178, e178, hx178_0⟩ := Kd.at_string HR0.out x8_1 p178 q178
       cases e178
       replace p178 := eq_true p178
       replace q178 := eq_true q178
       go_wp2
       go_roundg k1
       case measure => have := HK1.out; omega
       case rel => exact ⟨(wrap64 (x8_1 + 1)), (by first | rfl | (simp; done) | (simp [*]; done)), H', ⟨by have := HK1.out; omega⟩, by repeat (first | exact Drawn0.refl _ | apply Drawn0.step)⟩
     ·rw [if_neg c5] at H
      exact absurd H (by simp)
    ·rw [if_neg c4] at H
     exact absurd H (by simp)
   ·rw [if_neg c3] at H
    have c3b0 : decide (x8_1 < (l0.length : Int)) = false := decide_eq_false c3
    clear c3
    obtain rfl := Option.some.inj H
    go_wp2
    go_ret
    exact ⟨by first | rfl | (simp; done) | (simp [*]; done), by repeat (first | exact Drawn0.refl _ | apply Drawn0.step)⟩

/-! ### slices_Contains_string_string: function 37 -/
def slices_Contains_string_string.f (k : Nat) (l0 : List ByteArray) (a1 : ByteArray) : Option (Bool) := (slices_Index_string_string.f k l0 a1).bind fun t179 => (some (decide (t179 ≥ 0)))
theorem slices_Contains_string_string.mono : ∀ a0 a1 k, LeO (slices_Contains_string_string.f k a0 a1) (slices_Contains_string_string.f (k + 1) a0 a1) := by
 intro a0 a1 k
 unfold slices_Contains_string_string.f
 repeat' first
   | (with_reducible exact slices_Index_string_string.mono _ _ _)
   | (with_reducible exact LeO.refl _)
   | (with_reducible exact LeO.none _)
   | (with_reducible refine LeO.ite ?_ ?_)
   | (with_reducible refine LeO.bind ?_ (fun _ => ?_))
   | exact slices_Index_string_string.mono _ _ _
   | exact LeO.none _
   | refine LeO.ite ?_ ?_
   | refine LeO.bind ?_ (fun _ => ?_)
theorem slices_Contains_string_string.calls (k : Nat) (A0 : Option Addr) (c0 : Nat) (l0 : List ByteArray) (a1 : ByteArray) (r : Bool) (w : World) (hr0 : Kd.C Kd.string w A0 l0.length l0) (hc0 : l0.length ≤ c0) (h : slices_Contains_string_string.f k l0 a1 = some r) :
  Calls Tryd.prog 37 #[.slice A0 l0.length c0, .string a1] w fun e w' => e = .returned (.bool r) ∧ Drawn0 w w' := by
 have HR0 := Aside0.mk hr0
 have HC0 := Aside0.mk hc0
 clear hr0 hc0
 have H : ((slices_Index_string_string.f k l0 a1).bind fun t179 => (some (decide (t179 ≥ 0)))) = some r := h
 clear h
 replace H := Option.bind_eq_some_iff.mp H
 obtain ⟨t179, A30, H⟩ := H
 replace H : (some (decide (t179 ≥ 0))) = some r := H
 have A3 := Aside0.mk A30
 clear A30
 obtain rfl := Option.some.inj H
 go_enter Tryd.func37, Tryd.ntmps37
 go_wp2_with (first | ((with_reducible refine gate_callee (f := 68) rfl ?_); refine goesL_ (some 7) rfl rfl Tryd.func68 (by kernel_rfl) rfl #[.slice A0 l0.length c0, .string a1] rfl (by (try simp only [List.map_toArray, List.map_cons, List.map_nil]); first | done | rfl | (simp only [List.length_drop, List.length_take]; rfl)) ?_; (with_reducible refine (slices_Index_string_string.calls k _ _ l0 a1 t179 _ ?side1 ?side2 A3.out).mono ?_); (case side1 => repeat (first | exact HR0.out | (with_reducible refine Kd.C_alloc ?_ _) | (with_reducible refine Kd.C_drewN ?_ _) | (with_reducible refine Kd.C_drew ?_))); (case side2 => exact HC0.out); rintro e w' ⟨rfl, ⟨nd, rfl⟩⟩; refine ⟨_, rfl, ?_⟩))
 go_ret
 exact ⟨by first | rfl | (simp; done) | (simp [*]; done), by repeat (first | exact Drawn0.refl _ | apply Drawn0.step)⟩

/-! ### ack_Known: function 23 -/
def ack_Known.f (k : Nat) (a0 : ByteArray) : Option (Bool) := slices_Contains_string_string.f k codesL a0
theorem ack_Known.mono : ∀ a0 k, LeO (ack_Known.f k a0) (ack_Known.f (k + 1) a0) := by
 intro a0 k
 unfold ack_Known.f
 exact slices_Contains_string_string.mono _ _ _
theorem ack_Known.calls (k : Nat) (a0 : ByteArray) (r : Bool) (w : World) (h : ack_Known.f k a0 = some r) (hGC : GlobC w) :
  Calls Tryd.prog 23 #[.string a0] w fun e w' => e = .returned (.bool r) ∧ Drawn0 w w' := by
 have HG := Lib.hid hGC
 have HT := Lib.hid (show slices_Contains_string_string.f k codesL a0 = some r from h)
 clear hGC h
 go_enter Tryd.func23, Tryd.ntmps23
 go_wp2_with fail
 refine (slices_Contains_string_string.calls k (some ⟨1, 0, none⟩) 3 codesL a0 r _ (globc_row HG.out) (by decide) HT.out).mono ?_
 rintro e w3 ⟨rfl, nd, rfl⟩
 go_wp2_with fail
 go_ret
 exact ⟨rfl, nd, rfl⟩


/-! ### segment_Join: function 46 -/
def segment_Join.l0 : Nat → List Int → List ByteArray → Int → Int → Option (List Int)
 | 0, _, _, _, _ => none
 | k + 1, x3, x6, x7, x8 => if x8 < x7 then (if 0 ≤ x8 then (if x8 < (x6.length : Int) then (if x3.length + (rdOf ByteArray.empty x6 x8).size < 140737488355328 then ((some (x3 ++ bytesOf (rdOf ByteArray.empty x6 x8) : List Int)).bind fun y181 => (if y181.length < 140737488355328 then (segment_Join.l0 k (y181 ++ [13]) x6 x7 (wrap64 (x8 + 1))) else (none))) else (none)) else (none)) else (none)) else (some x3)
def segment_Join.f (k : Nat) (l0 : List ByteArray) : Option (List Int) := segment_Join.l0 k ([] : List Int) l0 (l0.length : Int) 0
theorem segment_Join.mono_l : ∀ k, (∀ y0 y1 y2 y3, LeO (segment_Join.l0 k y0 y1 y2 y3) (segment_Join.l0 (k + 1) y0 y1 y2 y3))
 | 0 => fun _ _ _ _ r h => by simp [segment_Join.l0] at h
 | k + 1 => by
  have ih0 := segment_Join.mono_l k
  ·intro y0 y1 y2 y3
   unfold segment_Join.l0
   repeat' first
   | (with_reducible exact ih0 _ _ _ _)
   | (with_reducible exact LeO.refl _)
   | (with_reducible exact LeO.none _)
   | (with_reducible refine LeO.ite ?_ ?_)
   | (with_reducible refine LeO.bind ?_ (fun _ => ?_))
   | exact ih0 _ _ _ _
   | exact LeO.none _
   | refine LeO.ite ?_ ?_
   | refine LeO.bind ?_ (fun _ => ?_)
theorem segment_Join.mono : ∀ a0 k, LeO (segment_Join.f k a0) (segment_Join.f (k + 1) a0) := by
 intro a0 k
 have ih0 := segment_Join.mono_l k
 unfold segment_Join.f
 repeat' first
   | (with_reducible exact ih0 _ _ _ _)
   | (with_reducible exact LeO.refl _)
   | (with_reducible exact LeO.none _)
   | (with_reducible refine LeO.ite ?_ ?_)
   | (with_reducible refine LeO.bind ?_ (fun _ => ?_))
   | exact ih0 _ _ _ _
   | exact LeO.none _
   | refine LeO.ite ?_ ?_
   | refine LeO.bind ?_ (fun _ => ?_)
theorem segment_Join.calls (k : Nat) (A0 : Option Addr) (c0 : Nat) (l0 : List ByteArray) (r : List Int) (w : World) (hr0 : Kd.C Kd.string w A0 l0.length l0) (hc0 : l0.length ≤ c0) (h : segment_Join.f k l0 = some r) :
  Calls Tryd.prog 46 #[.slice A0 l0.length c0] w fun e w' => ∃ v0_ : Value, e = .returned (v0_) ∧ Kd.R (Kd.int .u8) 5 w' w.heap.size (fun _ => True) v0_ r ∧ Below w.heap.size w w' := by
 have HR0 := Aside0.mk hr0
 have HC0 := Aside0.mk hc0
 clear hr0 hc0
 have HB := Aside0.mk (Below.refl w.heap.size w)
 have H : (segment_Join.l0 k ([] : List Int) l0 (l0.length : Int) 0) = some r := h
 clear h
 have H' := Aside0.mk H
 clear H
 go_enter Tryd.func46, Tryd.ntmps46
 go_wp2
 go_loopg [3, 8] k (fun kq v3 v8 w' => ∃ (x3_1 : List Int) (x8_1 : Int), v8 = .int .i64 x8_1 ∧ Aside0 (segment_Join.l0 kq x3_1 l0 (l0.length : Int) x8_1 = some r) ∧ Aside0 (kq ≤ k) ∧ Aside0 (Kd.R (Kd.int .u8) 5 w' w.heap.size (fun _ => True) v3 x3_1) ∧ Aside0 (Below w.heap.size w w'))
 case atStart => exact ⟨(([] : List Int)), (0), (by first | rfl | (simp; done) | (simp [*]; done)), H', ⟨Nat.le_refl _⟩, ⟨by first | exact Kd.R_nil _ _ _ _ _ | exact Kd.N_nil _ _ _ _ _ | exact Kd.V_nil _ _ _ _ _ | exact Kd.Q_nil _ _ _ _ _ | exact Kd.S_nil _ _ _ _ _⟩, ⟨by repeat (first | (with_reducible first | exact HB.out | apply bA | apply bN | apply bD) | exact HB.out)⟩⟩
 case round =>
  clear H'
  obtain ⟨x3_1, x8_1, rfl, HA, HK1, HO_3, HB⟩ := hrel
  cases gk with
  | zero => exact absurd HA.out (by simp [segment_Join.l0])
  | succ k1 =>
   have H := HA.out
   clear HA
   simp only [segment_Join.l0] at H
   by_cases c2 : x8_1 < (l0.length : Int)
   ·rw [if_pos c2] at H
    have c2b0 : decide (x8_1 < (l0.length : Int)) = true := decide_eq_true c2
    clear c2
    by_cases c3 : 0 ≤ x8_1
    ·rw [if_pos c3] at H
     have c3b0 : decide (0 ≤ x8_1) = true := decide_eq_true c3
     clear c3
     by_cases c4 : x8_1 < (l0.length : Int)
     ·rw [if_pos c4] at H
      have c4b0 : decide (x8_1 < (l0.length : Int)) = true := decide_eq_true c4
      clear c4
      by_cases c5 : x3_1.length + (rdOf ByteArray.empty l0 x8_1).size < 140737488355328
      ·rw [if_pos c5] at H
       have LMc5 := Aside0.mk c5
       clear c5
       obtain ⟨y181, hy181⟩ : ∃ y_ : List Int, y_ = (x3_1 ++ bytesOf (rdOf ByteArray.empty l0 x8_1)) := ⟨_, rfl⟩
       replace H : (if y181.length < 140737488355328 then (segment_Join.l0 k1 (y181 ++ [13]) l0 (l0.length : Int) (wrap64 (x8_1 + 1))) else (none)) = some r := by first | (rw [hy181]; with_reducible exact H) | (have H2_ := (Option.bind_some _ _).symm.trans H; rw [hy181]; with_reducible exact H2_) | (have H2_ := (Option.bind_some _ _).symm.trans H; with_reducible exact H2_) | with_reducible exact H | (rw [hy181]; exact H) | exact H
       have Ny181 := Aside0.mk hy181
       clear hy181
       by_cases c6 : y181.length < 140737488355328
       ·rw [if_pos c6] at H
        have LMc6 := Aside0.mk c6
        clear c6
        obtain ⟨y184, hy184⟩ : ∃ y_ : List Int, y_ = (y181 ++ [13]) := ⟨_, rfl⟩
        replace H : (segment_Join.l0 k1 y184 l0 (l0.length : Int) (wrap64 (x8_1 + 1))) = some r := by first | (rw [hy184]; with_reducible exact H) | (have H2_ := (Option.bind_some _ _).symm.trans H; rw [hy184]; with_reducible exact H2_) | (have H2_ := (Option.bind_some _ _).symm.trans H; with_reducible exact H2_) | with_reducible exact H | (rw [hy184]; exact H) | exact H
        have Ny184 := Aside0.mk hy184
        clear hy184
        have H' := Aside0.mk H
        clear H
        have p180 : 0 ≤ (x8_1 : Int) := of_decide_eq_true (by first | (with_reducible assumption) | assumption)
        have q180 : x8_1 < (l0.length : Int) := of_decide_eq_true (by first | (with_reducible assumption) | assumption)
        obtain ⟨ad180, e180, hx180_0⟩ := Kd.at_string HR0.out x8_1 p180 q180
        cases e180
        replace hx180_0 := (HB.out.cell (World.block_lt_of_cell? w _ hx180_0)).trans hx180_0
        replace p180 := eq_true p180
        replace q180 := eq_true q180
        go_wp2_with (first | (at_builtin; refine print_append_str (w0 := w) w.heap.size rfl (.tmp 12) _ 34 9 5 rfl Tryd.underlying34 Tryd.underlying9 info5 u3 x3_1 (rdOf ByteArray.empty l0 x8_1) rfl rfl ?aO ?aB ?aS ?aL ?_; (case aB => exact (by repeat (first | (with_reducible first | exact HB.out | apply bA | apply bN | apply bD) | exact HB.out))); (case aO => exact (Kd.own_of_R (by (with_reducible repeat (first | apply Kd.R_alloc | apply Kd.R_drewN | apply Kd.R_drew)); exact HO_3.out))); (case aS => exact (below_size (by repeat (first | (with_reducible first | exact HB.out | apply bA | apply bN | apply bD) | exact HB.out)))); (case aL => have := LMc5.out; omega); intro v182 w7 ho0 hb hg; have ho := Kd.R_of_own (h1 := fun _ => rfl) (ok := fun _ => True) ho0 (fun _ _ => trivial); clear ho0; have hat := True.intro; rw [← Ny181.out] at ho; change Kd.R (Kd.int .u8) 5 w7 w.heap.size (fun _ => True) v182 y181 at ho; have n0_ := Aside0.mk (hb); have n1_ := Aside0.mk (ho); clear HB; clear HO_3; have HB := n0_; have HO183 := n1_; clear n0_ n1_; clear ho hb hg hat) | ((with_reducible refine gate_builtin (b := .append) (xs := #[.tmp 15, .tmp 16]) rfl ?_); at_builtin; refine Kd.R_append (Kd.int .u8) (w0 := w) w.heap.size rfl (.tmp 15) (.tmp 16) 34 5 (.int .u8 0) 1 rfl Tryd.underlying34 info5 rfl (by decide) (by omega) v182 y181 13 [.int .u8 13] (fun _ => True) (fun _ => False) rfl rfl ?aP (fun _ hk => hk.elim) ?aF ?aO ?aB ?aS ?aL ?_; (case aP => exact rfl); (case aB => exact (by repeat (first | (with_reducible first | exact HB.out | apply bA | apply bN | apply bD) | exact HB.out))); (case aF => exact (fun _ _ => trivial)); (case aO => exact (by (with_reducible repeat (first | apply Kd.R_alloc | apply Kd.R_drewN | apply Kd.R_drew)); exact HO183.out)); (case aS => exact (below_size (by repeat (first | (with_reducible first | exact HB.out | apply bA | apply bN | apply bD) | exact HB.out)))); (case aL => have := LMc6.out; omega); intro v185 w8 ho hb hg hat; rw [← Ny184.out] at ho; have n0_ := Aside0.mk (hb); have n1_ := Aside0.mk (ho); clear HB; clear HO183; have HB := n0_; have HO186 := n1_; clear n0_ n1_; clear ho hb hg hat))
        go_roundg k1
        case measure => have := HK1.out; omega
        case rel => exact ⟨(y184), (wrap64 (x8_1 + 1)), (by first | rfl | (simp; done) | (simp [*]; done)), H', ⟨by have := HK1.out; omega⟩, ⟨by (with_reducible repeat (first | apply Kd.R_alloc | apply Kd.R_drewN | apply Kd.R_drew)); exact HO186.out⟩, ⟨by repeat (first | (with_reducible first | exact HB.out | apply bA | apply bN | apply bD) | exact HB.out)⟩⟩
       ·rw [if_neg c6] at H
        exact absurd H (by simp)
      ·rw [if_neg c5] at H
       exact absurd H (by simp)
     ·rw [if_neg c4] at H
      exact absurd H (by simp)
    ·rw [if_neg c3] at H
     exact absurd H (by simp)
   ·rw [if_neg c2] at H
    have c2b0 : decide (x8_1 < (l0.length : Int)) = false := decide_eq_false c2
    clear c2
    obtain rfl := Option.some.inj H
    go_wp2
    go_ret
    exact ⟨_, by first | rfl | (simp [errW_none, errW_some] <;> rfl) | (simp [*, errW_none, errW_some] <;> rfl), by (with_reducible repeat (first | apply Kd.R_alloc | apply Kd.R_drewN | apply Kd.R_drew)); exact HO_3.out, by repeat (first | (with_reducible first | exact HB.out | apply bA | apply bN | apply bD) | exact HB.out)⟩

/-! ### ack_Build: function 21 -/
def ack_Build.f (k : Nat) (a0_0 : Int) (a0_1 : Int) (a0_2 : Int) (a0_3 : Int) (a0_4 : Int) (a0_5 : ByteArray) (a0_6 : ByteArray) (a0_7 : ByteArray) (a0_8 : ByteArray) (a0_9 : ByteArray) (a0_10 : ByteArray) (a0_11 : ByteArray) (a0_12 : ByteArray) (a0_13 : ByteArray) (a0_14 : ByteArray) (a1 : ByteArray) : Option (List Int × Int) := (ack_Known.f k a1).bind fun t188 => (if t188 = true then ((msh_Write.f k a0_0 a0_1 a0_2 a0_3 a0_4 a0_7 a0_8 a0_5 a0_6 a0_9 (⟨#[]⟩ : ByteArray) (⟨#[65, 67, 75]⟩ : ByteArray) a0_12 a0_13 a0_14).bind fun bt190 => (if bt190.2 = 0 then ((segment_Make.f a0_0 a0_1 a0_2 a0_3 a0_4 (⟨#[77, 83, 65]⟩ : ByteArray) (([a1, a0_12] : List ByteArray))).bind fun t195 => ((segment_Join.f k (([bt190.1, t195] : List ByteArray))).bind fun t199 => (some (t199, 0)))) else (some (([] : List Int), bt190.2)))) else (some (([] : List Int), 17)))
theorem ack_Build.mono : ∀ a0 a1 a2 a3 a4 a5 a6 a7 a8 a9 a10 a11 a12 a13 a14 a15 k, LeO (ack_Build.f k a0 a1 a2 a3 a4 a5 a6 a7 a8 a9 a10 a11 a12 a13 a14 a15) (ack_Build.f (k + 1) a0 a1 a2 a3 a4 a5 a6 a7 a8 a9 a10 a11 a12 a13 a14 a15) := by
 intro a0 a1 a2 a3 a4 a5 a6 a7 a8 a9 a10 a11 a12 a13 a14 a15 k
 unfold ack_Build.f
 repeat' first
   | (with_reducible exact ack_Known.mono _ _)
   | (with_reducible exact msh_Write.mono _ _ _ _ _ _ _ _ _ _ _ _ _ _ _ _)
   | (with_reducible exact segment_Join.mono _ _)
   | (with_reducible exact LeO.refl _)
   | (with_reducible exact LeO.none _)
   | (with_reducible refine LeO.ite ?_ ?_)
   | (with_reducible refine LeO.bind ?_ (fun _ => ?_))
   | exact ack_Known.mono _ _
   | exact msh_Write.mono _ _ _ _ _ _ _ _ _ _ _ _ _ _ _ _
   | exact segment_Join.mono _ _
   | exact LeO.none _
   | refine LeO.ite ?_ ?_
   | refine LeO.bind ?_ (fun _ => ?_)
def ack_Build.T4 : Bool × List (List Nat × List Nat) := (true, [([], []), ([0], [0]), ([], []), ([2], [2]), ([0, 1], []), ([4, 1, 0, 1], [1, 4]), ([0, 1, 2, 3, 4, 5], []), ([6, 3, 5, 0, 1, 2, 3, 4, 5], [3, 6])])
def ack_Build.B4 : List Nat := [0, 1, 0, 4, 3, 19, 63, 127]
theorem ack_Build.tab4 : rtab .any (opsOf Tryd.f21 4) = ack_Build.T4 := by kernel_rfl
theorem ack_Build.bits4 : waitsOk ack_Build.T4.2 ack_Build.B4 = true := by kernel_rfl
def ack_Build.T5 : Bool × List (List Nat × List Nat) := (true, [([], []), ([0], [0]), ([], []), ([2], [2]), ([0, 1], []), ([4, 1, 0, 1], [1, 4]), ([0, 1, 2, 3, 4, 5], []), ([6, 3, 5, 0, 1, 2, 3, 4, 5], [3, 6])])
def ack_Build.B5 : List Nat := [0, 1, 0, 4, 3, 19, 63, 127]
theorem ack_Build.tab5 : rtab .any (opsOf Tryd.f21 5) = ack_Build.T5 := by kernel_rfl
theorem ack_Build.bits5 : waitsOk ack_Build.T5.2 ack_Build.B5 = true := by kernel_rfl
theorem ack_Build.calls (k : Nat) (a0_0 : Int) (a0_1 : Int) (a0_2 : Int) (a0_3 : Int) (a0_4 : Int) (a0_5 : ByteArray) (a0_6 : ByteArray) (a0_7 : ByteArray) (a0_8 : ByteArray) (a0_9 : ByteArray) (a0_10 : ByteArray) (a0_11 : ByteArray) (a0_12 : ByteArray) (a0_13 : ByteArray) (a0_14 : ByteArray) (a1 : ByteArray) (r1 : List Int) (r2 : Int) (w : World) (h : ack_Build.f k a0_0 a0_1 a0_2 a0_3 a0_4 a0_5 a0_6 a0_7 a0_8 a0_9 a0_10 a0_11 a0_12 a0_13 a0_14 a1 = some (r1, r2)) (hGC : GlobC w) :
  Calls Tryd.prog 21 #[.agg #[.int .u8 a0_0, .int .u8 a0_1, .int .u8 a0_2, .int .u8 a0_3, .int .u8 a0_4, .string a0_5, .string a0_6, .string a0_7, .string a0_8, .string a0_9, .string a0_10, .string a0_11, .string a0_12, .string a0_13, .string a0_14], .string a1] w fun e w' => ∃ v0_ : Value, e = .returned (.tuple #[v0_, .int .i64 r2]) ∧ Kd.R (Kd.int .u8) 5 w' w.heap.size (fun _ => True) v0_ r1 ∧ Below w.heap.size w w' := by
 have HGLOC := Lib.hid hGC
 clear hGC
 have hu25 := Tryd.underlying25
 have hu23 := Tryd.underlying23
 have HB := Aside0.mk (Below.refl w.heap.size w)
 have H : ((ack_Known.f k a1).bind fun t188 => (if t188 = true then ((msh_Write.f k a0_0 a0_1 a0_2 a0_3 a0_4 a0_7 a0_8 a0_5 a0_6 a0_9 (⟨#[]⟩ : ByteArray) (⟨#[65, 67, 75]⟩ : ByteArray) a0_12 a0_13 a0_14).bind fun bt190 => (if bt190.2 = 0 then ((segment_Make.f a0_0 a0_1 a0_2 a0_3 a0_4 (⟨#[77, 83, 65]⟩ : ByteArray) (([a1, a0_12] : List ByteArray))).bind fun t195 => ((segment_Join.f k (([bt190.1, t195] : List ByteArray))).bind fun t199 => (some (t199, 0)))) else (some (([] : List Int), bt190.2)))) else (some (([] : List Int), 17)))) = some (r1, r2) := h
 clear h
 replace H := Option.bind_eq_some_iff.mp H
 obtain ⟨t188, A30, H⟩ := H
 replace H : (if t188 = true then ((msh_Write.f k a0_0 a0_1 a0_2 a0_3 a0_4 a0_7 a0_8 a0_5 a0_6 a0_9 (⟨#[]⟩ : ByteArray) (⟨#[65, 67, 75]⟩ : ByteArray) a0_12 a0_13 a0_14).bind fun bt190 => (if bt190.2 = 0 then ((segment_Make.f a0_0 a0_1 a0_2 a0_3 a0_4 (⟨#[77, 83, 65]⟩ : ByteArray) (([a1, a0_12] : List ByteArray))).bind fun t195 => ((segment_Join.f k (([bt190.1, t195] : List ByteArray))).bind fun t199 => (some (t199, 0)))) else (some (([] : List Int), bt190.2)))) else (some (([] : List Int), 17))) = some (r1, r2) := H
 have A3 := Aside0.mk A30
 clear A30
 by_cases c4 : t188 = true
 ·subst c4
  have H1 : ((msh_Write.f k a0_0 a0_1 a0_2 a0_3 a0_4 a0_7 a0_8 a0_5 a0_6 a0_9 (⟨#[]⟩ : ByteArray) (⟨#[65, 67, 75]⟩ : ByteArray) a0_12 a0_13 a0_14).bind fun bt190 => (if bt190.2 = 0 then ((segment_Make.f a0_0 a0_1 a0_2 a0_3 a0_4 (⟨#[77, 83, 65]⟩ : ByteArray) (([a1, a0_12] : List ByteArray))).bind fun t195 => ((segment_Join.f k (([bt190.1, t195] : List ByteArray))).bind fun t199 => (some (t199, 0)))) else (some (([] : List Int), bt190.2)))) = some (r1, r2) := by rw [if_pos rfl] at H; exact H
  clear H
  have H := H1
  clear H1
  replace H := Option.bind_eq_some_iff.mp H
  obtain ⟨⟨t190, t191⟩, A50, H⟩ := H
  replace H : (if t191 = 0 then ((segment_Make.f a0_0 a0_1 a0_2 a0_3 a0_4 (⟨#[77, 83, 65]⟩ : ByteArray) (([a1, a0_12] : List ByteArray))).bind fun t195 => ((segment_Join.f k (([t190, t195] : List ByteArray))).bind fun t199 => (some (t199, 0)))) else (some (([] : List Int), t191))) = some (r1, r2) := H
  have A5 := Aside0.mk A50
  clear A50
  by_cases c6 : t191 = 0
  ·rw [if_pos c6] at H
   have c6b0 : (t191 == 0) = true := beq_iff_eq.mpr c6
   have c6b1 : (t191 != 0) = false := bne_eq_false_iff_eq.mpr c6
   clear c6
   obtain ⟨y192, hy192⟩ : ∃ y_ : List ByteArray, y_ = (([a1, a0_12] : List ByteArray)) := ⟨_, rfl⟩
   replace H : ((segment_Make.f a0_0 a0_1 a0_2 a0_3 a0_4 (⟨#[77, 83, 65]⟩ : ByteArray) y192).bind fun t195 => ((segment_Join.f k (([t190, t195] : List ByteArray))).bind fun t199 => (some (t199, 0)))) = some (r1, r2) := by first | (rw [hy192]; with_reducible exact H) | (have H2_ := (Option.bind_some _ _).symm.trans H; rw [hy192]; with_reducible exact H2_) | (have H2_ := (Option.bind_some _ _).symm.trans H; with_reducible exact H2_) | with_reducible exact H | (rw [hy192]; exact H) | exact H
   have Ny192 := Aside0.mk hy192
   clear hy192
   replace H := Option.bind_eq_some_iff.mp H
   obtain ⟨t195, A70, H⟩ := H
   replace H : ((segment_Join.f k (([t190, t195] : List ByteArray))).bind fun t199 => (some (t199, 0))) = some (r1, r2) := H
   have A7 := Aside0.mk A70
   clear A70
   obtain ⟨y196, hy196⟩ : ∃ y_ : List ByteArray, y_ = (([t190, t195] : List ByteArray)) := ⟨_, rfl⟩
   replace H : ((segment_Join.f k y196).bind fun t199 => (some (t199, 0))) = some (r1, r2) := by first | (rw [hy196]; with_reducible exact H) | (have H2_ := (Option.bind_some _ _).symm.trans H; rw [hy196]; with_reducible exact H2_) | (have H2_ := (Option.bind_some _ _).symm.trans H; with_reducible exact H2_) | with_reducible exact H | (rw [hy196]; exact H) | exact H
   have Ny196 := Aside0.mk hy196
   clear hy196
   replace H := Option.bind_eq_some_iff.mp H
   obtain ⟨t199, A80, H⟩ := H
   replace H : (some (t199, 0)) = some (r1, r2) := H
   have A8 := Aside0.mk A80
   clear A80
   simp only [Option.some.injEq, Prod.mk.injEq] at H
   obtain ⟨rfl, rfl⟩ := H
   go_enter Tryd.func21, Tryd.ntmps21
   try go_wp2_with (first | ((with_reducible refine gate_dst (N := 2) rfl ?_); refine box_event ?hg (N := 2) ?hd (cs := #[.int .u8 a0_0, .int .u8 a0_1, .int .u8 a0_2, .int .u8 a0_3, .int .u8 a0_4, .string a0_5, .string a0_6, .string a0_7, .string a0_8, .string a0_9, .string a0_10, .string a0_11, .string a0_12, .string a0_13, .string a0_14]) (t := 25) ?hr ?_; (case hd => rfl); (case hg => rfl); (case hr => first | (go_simp; done) | (go_simp; rfl)); intro gb187 hg w9 hbox hb; have n0_ := Aside0.mk (below_step (by repeat (first | (with_reducible first | exact HB.out | apply bA | apply bN | apply bD) | exact HB.out)) hb); have n1_ := Aside0.mk (hbox); have n2_ := Aside0.mk ((by rw [hg]; exact (below_size (by repeat (first | (with_reducible first | exact HB.out | apply bA | apply bN | apply bD) | exact HB.out))) : w.heap.size ≤ gb187)); have n3_ := Aside0.mk ((by rw [hg]; exact (below_size (by repeat (first | (with_reducible first | exact HB.out | apply bA | apply bN | apply bD) | exact HB.out))) : w.heap.size ≤ gb187)); clear HB; have HB := n0_; have BK187 := n1_; have GW187 := n2_; have GE187 := n3_; clear n0_ n1_ n2_ n3_; clear hb hbox hg) | ((with_reducible refine gate_callee (f := 23) rfl ?_); refine goesL_ (some 10) rfl rfl Tryd.func23 (by kernel_rfl) rfl #[.string a1] rfl (by (try simp only [List.map_toArray, List.map_cons, List.map_nil]); first | done | rfl | (simp only [List.length_drop, List.length_take]; rfl)) ?_; (with_reducible refine (ack_Known.calls k a1 true _ A3.out (globc_below HGLOC.out (by repeat (first | (with_reducible first | exact HB.out | apply bA | apply bN | apply bD | refine below_set ?_ GE187.out) | exact HB.out)))).mono ?_); rintro e w' ⟨rfl, ⟨nd, rfl⟩⟩; refine ⟨_, rfl, ?_⟩; (try (rw [drewN_self w9]; generalize hq_ : World.drewN w9 _ = w9; have n0_ : Aside0 (w9.heap[gb187]? = some (.cells #[.int .u8 a0_0, .int .u8 a0_1, .int .u8 a0_2, .int .u8 a0_3, .int .u8 a0_4, .string a0_5, .string a0_6, .string a0_7, .string a0_8, .string a0_9, .string a0_10, .string a0_11, .string a0_12, .string a0_13, .string a0_14] 25 (0, 0))) := ⟨by rw [← hq_]; exact (by (with_reducible repeat (first | refine kN ?_ _ | refine kD ?_ | refine kA ?_ _)); exact BK187.out)⟩; have n1_ : Aside0 (Below w.heap.size w w9) := ⟨by rw [← hq_]; exact (by repeat (first | (with_reducible first | exact HB.out | apply bA | apply bN | apply bD | refine below_set ?_ GE187.out) | exact HB.out))⟩; clear BK187 HB hq_; have BK187 := n0_; have HB := n1_; clear n0_ n1_)); have hcz10_0 : w9.cell? ⟨gb187, 0, none⟩ = some (.int .u8 a0_0) := blk_cell BK187.out 0; have hcz10_1 : w9.cell? ⟨gb187, 1, none⟩ = some (.int .u8 a0_1) := blk_cell BK187.out 1; have hcz10_2 : w9.cell? ⟨gb187, 2, none⟩ = some (.int .u8 a0_2) := blk_cell BK187.out 2; have hcz10_3 : w9.cell? ⟨gb187, 3, none⟩ = some (.int .u8 a0_3) := blk_cell BK187.out 3; have hcz10_4 : w9.cell? ⟨gb187, 4, none⟩ = some (.int .u8 a0_4) := blk_cell BK187.out 4; have hcz10_5 : w9.cell? ⟨gb187, 5, none⟩ = some (.string a0_5) := blk_cell BK187.out 5; have hcz10_6 : w9.cell? ⟨gb187, 6, none⟩ = some (.string a0_6) := blk_cell BK187.out 6; have hcz10_7 : w9.cell? ⟨gb187, 7, none⟩ = some (.string a0_7) := blk_cell BK187.out 7; have hcz10_8 : w9.cell? ⟨gb187, 8, none⟩ = some (.string a0_8) := blk_cell BK187.out 8; have hcz10_9 : w9.cell? ⟨gb187, 9, none⟩ = some (.string a0_9) := blk_cell BK187.out 9; have hcz10_10 : w9.cell? ⟨gb187, 10, none⟩ = some (.string a0_10) := blk_cell BK187.out 10; have hcz10_11 : w9.cell? ⟨gb187, 11, none⟩ = some (.string a0_11) := blk_cell BK187.out 11; have hcz10_12 : w9.cell? ⟨gb187, 12, none⟩ = some (.string a0_12) := blk_cell BK187.out 12; have hcz10_13 : w9.cell? ⟨gb187, 13, none⟩ = some (.string a0_13) := blk_cell BK187.out 13; have hcz10_14 : w9.cell? ⟨gb187, 14, none⟩ = some (.string a0_14) := blk_cell BK187.out 14; have hfz10_0 := blk_frozen BK187.out 0; have hfz10_1 := blk_frozen BK187.out 1; have hfz10_2 := blk_frozen BK187.out 2; have hfz10_3 := blk_frozen BK187.out 3; have hfz10_4 := blk_frozen BK187.out 4; have hfz10_5 := blk_frozen BK187.out 5; have hfz10_6 := blk_frozen BK187.out 6; have hfz10_7 := blk_frozen BK187.out 7; have hfz10_8 := blk_frozen BK187.out 8; have hfz10_9 := blk_frozen BK187.out 9; have hfz10_10 := blk_frozen BK187.out 10; have hfz10_11 := blk_frozen BK187.out 11; have hfz10_12 := blk_frozen BK187.out 12; have hfz10_13 := blk_frozen BK187.out 13; have hfz10_14 := blk_frozen BK187.out 14) | ((with_reducible refine gate_dst (N := 6) rfl ?_); refine box_event ?hg (N := 6) ?hd (cs := #[.int .u8 0, .int .u8 0, .int .u8 0, .int .u8 0, .int .u8 0, .string (⟨#[]⟩ : ByteArray), .string (⟨#[]⟩ : ByteArray), .string (⟨#[]⟩ : ByteArray), .string (⟨#[]⟩ : ByteArray), .string (⟨#[]⟩ : ByteArray), .string (⟨#[]⟩ : ByteArray), .string (⟨#[]⟩ : ByteArray), .string (⟨#[]⟩ : ByteArray), .string (⟨#[]⟩ : ByteArray), .string (⟨#[]⟩ : ByteArray)]) (t := 25) ?hr ?_; (case hd => rfl); (case hg => rfl); (case hr => first | (go_simp; done) | (go_simp; rfl)); intro gb189 hg w11 hbox hb; have n0_ := Aside0.mk (blk_below (g := gb187) (o := .cells #[.int .u8 a0_0, .int .u8 a0_1, .int .u8 a0_2, .int .u8 a0_3, .int .u8 a0_4, .string a0_5, .string a0_6, .string a0_7, .string a0_8, .string a0_9, .string a0_10, .string a0_11, .string a0_12, .string a0_13, .string a0_14] 25 (0, 0)) (by (with_reducible repeat (first | refine kN ?_ _ | refine kD ?_ | refine kA ?_ _)); exact BK187.out) hb); have n1_ := Aside0.mk (below_step (by repeat (first | (with_reducible first | exact HB.out | apply bA | apply bN | apply bD | refine below_set ?_ GE187.out) | exact HB.out)) hb); have n2_ := Aside0.mk (hbox); have n3_ := Aside0.mk ((by rw [hg]; exact (below_size (by repeat (first | (with_reducible first | exact HB.out | apply bA | apply bN | apply bD | refine below_set ?_ GE187.out) | exact HB.out))) : w.heap.size ≤ gb189)); have n4_ := Aside0.mk ((by rw [hg]; exact (below_size (by repeat (first | (with_reducible first | exact HB.out | apply bA | apply bN | apply bD | refine below_set ?_ GE187.out) | exact HB.out))) : w.heap.size ≤ gb189)); have n5_ := Aside0.mk ((by rw [hg]; exact Nat.ne_of_lt (blk_lt (g := gb187) (o := .cells #[.int .u8 a0_0, .int .u8 a0_1, .int .u8 a0_2, .int .u8 a0_3, .int .u8 a0_4, .string a0_5, .string a0_6, .string a0_7, .string a0_8, .string a0_9, .string a0_10, .string a0_11, .string a0_12, .string a0_13, .string a0_14] 25 (0, 0)) (by (with_reducible repeat (first | refine kN ?_ _ | refine kD ?_ | refine kA ?_ _)); exact BK187.out)) : gb187 ≠ gb189)); have n6_ := Aside0.mk ((by rw [hg]; exact Nat.ne_of_gt (blk_lt (g := gb187) (o := .cells #[.int .u8 a0_0, .int .u8 a0_1, .int .u8 a0_2, .int .u8 a0_3, .int .u8 a0_4, .string a0_5, .string a0_6, .string a0_7, .string a0_8, .string a0_9, .string a0_10, .string a0_11, .string a0_12, .string a0_13, .string a0_14] 25 (0, 0)) (by (with_reducible repeat (first | refine kN ?_ _ | refine kD ?_ | refine kA ?_ _)); exact BK187.out)) : gb189 ≠ gb187)); clear BK187; clear HB; have BK187 := n0_; have HB := n1_; have BK189 := n2_; have GW189 := n3_; have GE189 := n4_; have NB187_189 := n5_; have NB189_187 := n6_; clear n0_ n1_ n2_ n3_ n4_ n5_ n6_; clear hb hbox hg; have hnb12 := NB189_187.out; have hnc12 := NB187_189.out; have hcz13_0 : w11.cell? ⟨gb189, 0, none⟩ = some (.int .u8 0) := blk_cell BK189.out 0; have hcz13_1 : w11.cell? ⟨gb189, 1, none⟩ = some (.int .u8 0) := blk_cell BK189.out 1; have hcz13_2 : w11.cell? ⟨gb189, 2, none⟩ = some (.int .u8 0) := blk_cell BK189.out 2; have hcz13_3 : w11.cell? ⟨gb189, 3, none⟩ = some (.int .u8 0) := blk_cell BK189.out 3; have hcz13_4 : w11.cell? ⟨gb189, 4, none⟩ = some (.int .u8 0) := blk_cell BK189.out 4; have hcz13_5 : w11.cell? ⟨gb189, 5, none⟩ = some (.string (⟨#[]⟩ : ByteArray)) := blk_cell BK189.out 5; have hcz13_6 : w11.cell? ⟨gb189, 6, none⟩ = some (.string (⟨#[]⟩ : ByteArray)) := blk_cell BK189.out 6; have hcz13_7 : w11.cell? ⟨gb189, 7, none⟩ = some (.string (⟨#[]⟩ : ByteArray)) := blk_cell BK189.out 7; have hcz13_8 : w11.cell? ⟨gb189, 8, none⟩ = some (.string (⟨#[]⟩ : ByteArray)) := blk_cell BK189.out 8; have hcz13_9 : w11.cell? ⟨gb189, 9, none⟩ = some (.string (⟨#[]⟩ : ByteArray)) := blk_cell BK189.out 9; have hcz13_10 : w11.cell? ⟨gb189, 10, none⟩ = some (.string (⟨#[]⟩ : ByteArray)) := blk_cell BK189.out 10; have hcz13_11 : w11.cell? ⟨gb189, 11, none⟩ = some (.string (⟨#[]⟩ : ByteArray)) := blk_cell BK189.out 11; have hcz13_12 : w11.cell? ⟨gb189, 12, none⟩ = some (.string (⟨#[]⟩ : ByteArray)) := blk_cell BK189.out 12; have hcz13_13 : w11.cell? ⟨gb189, 13, none⟩ = some (.string (⟨#[]⟩ : ByteArray)) := blk_cell BK189.out 13; have hcz13_14 : w11.cell? ⟨gb189, 14, none⟩ = some (.string (⟨#[]⟩ : ByteArray)) := blk_cell BK189.out 14; have hfz13_0 := blk_frozen BK189.out 0; have hfz13_1 := blk_frozen BK189.out 1; have hfz13_2 := blk_frozen BK189.out 2; have hfz13_3 := blk_frozen BK189.out 3; have hfz13_4 := blk_frozen BK189.out 4; have hfz13_5 := blk_frozen BK189.out 5; have hfz13_6 := blk_frozen BK189.out 6; have hfz13_7 := blk_frozen BK189.out 7; have hfz13_8 := blk_frozen BK189.out 8; have hfz13_9 := blk_frozen BK189.out 9; have hfz13_10 := blk_frozen BK189.out 10; have hfz13_11 := blk_frozen BK189.out 11; have hfz13_12 := blk_frozen BK189.out 12; have hfz13_13 := blk_frozen BK189.out 13; have hfz13_14 := blk_frozen BK189.out 14))
   have n0_ : Aside0 ((((((((((((((((w11.setCell ⟨gb189, 0, none⟩ (.int .u8 a0_0)).setCell ⟨gb189, 1, none⟩ (.int .u8 a0_1)).setCell ⟨gb189, 2, none⟩ (.int .u8 a0_2)).setCell ⟨gb189, 3, none⟩ (.int .u8 a0_3)).setCell ⟨gb189, 4, none⟩ (.int .u8 a0_4)).setCell ⟨gb189, 5, none⟩ (.string a0_5)).setCell ⟨gb189, 6, none⟩ (.string a0_6)).setCell ⟨gb189, 7, none⟩ (.string a0_7)).setCell ⟨gb189, 8, none⟩ (.string a0_8)).setCell ⟨gb189, 9, none⟩ (.string a0_9)).setCell ⟨gb189, 10, none⟩ (.string a0_10)).setCell ⟨gb189, 11, none⟩ (.string a0_11)).setCell ⟨gb189, 12, none⟩ (.string a0_12)).setCell ⟨gb189, 13, none⟩ (.string a0_13)).setCell ⟨gb189, 14, none⟩ (.string a0_14)).heap[gb187]? = some (.cells #[.int .u8 a0_0, .int .u8 a0_1, .int .u8 a0_2, .int .u8 a0_3, .int .u8 a0_4, .string a0_5, .string a0_6, .string a0_7, .string a0_8, .string a0_9, .string a0_10, .string a0_11, .string a0_12, .string a0_13, .string a0_14] 25 (0, 0))) := ⟨by (with_reducible repeat (first | refine kN ?_ _ | refine kD ?_ | refine kA ?_ _)); refine blk_far ?_ NB187_189.out _; (with_reducible repeat (first | refine kN ?_ _ | refine kD ?_ | refine kA ?_ _)); refine blk_far ?_ NB187_189.out _; (with_reducible repeat (first | refine kN ?_ _ | refine kD ?_ | refine kA ?_ _)); refine blk_far ?_ NB187_189.out _; (with_reducible repeat (first | refine kN ?_ _ | refine kD ?_ | refine kA ?_ _)); refine blk_far ?_ NB187_189.out _; (with_reducible repeat (first | refine kN ?_ _ | refine kD ?_ | refine kA ?_ _)); refine blk_far ?_ NB187_189.out _; (with_reducible repeat (first | refine kN ?_ _ | refine kD ?_ | refine kA ?_ _)); refine blk_far ?_ NB187_189.out _; (with_reducible repeat (first | refine kN ?_ _ | refine kD ?_ | refine kA ?_ _)); refine blk_far ?_ NB187_189.out _; (with_reducible repeat (first | refine kN ?_ _ | refine kD ?_ | refine kA ?_ _)); refine blk_far ?_ NB187_189.out _; (with_reducible repeat (first | refine kN ?_ _ | refine kD ?_ | refine kA ?_ _)); refine blk_far ?_ NB187_189.out _; (with_reducible repeat (first | refine kN ?_ _ | refine kD ?_ | refine kA ?_ _)); refine blk_far ?_ NB187_189.out _; (with_reducible repeat (first | refine kN ?_ _ | refine kD ?_ | refine kA ?_ _)); refine blk_far ?_ NB187_189.out _; (with_reducible repeat (first | refine kN ?_ _ | refine kD ?_ | refine kA ?_ _)); refine blk_far ?_ NB187_189.out _; (with_reducible repeat (first | refine kN ?_ _ | refine kD ?_ | refine kA ?_ _)); refine blk_far ?_ NB187_189.out _; (with_reducible repeat (first | refine kN ?_ _ | refine kD ?_ | refine kA ?_ _)); refine blk_far ?_ NB187_189.out _; (with_reducible repeat (first | refine kN ?_ _ | refine kD ?_ | refine kA ?_ _)); refine blk_far ?_ NB187_189.out _; (with_reducible repeat (first | refine kN ?_ _ | refine kD ?_ | refine kA ?_ _)); exact BK187.out⟩
   have n1_ : Aside0 ((((((((((((((((w11.setCell ⟨gb189, 0, none⟩ (.int .u8 a0_0)).setCell ⟨gb189, 1, none⟩ (.int .u8 a0_1)).setCell ⟨gb189, 2, none⟩ (.int .u8 a0_2)).setCell ⟨gb189, 3, none⟩ (.int .u8 a0_3)).setCell ⟨gb189, 4, none⟩ (.int .u8 a0_4)).setCell ⟨gb189, 5, none⟩ (.string a0_5)).setCell ⟨gb189, 6, none⟩ (.string a0_6)).setCell ⟨gb189, 7, none⟩ (.string a0_7)).setCell ⟨gb189, 8, none⟩ (.string a0_8)).setCell ⟨gb189, 9, none⟩ (.string a0_9)).setCell ⟨gb189, 10, none⟩ (.string a0_10)).setCell ⟨gb189, 11, none⟩ (.string a0_11)).setCell ⟨gb189, 12, none⟩ (.string a0_12)).setCell ⟨gb189, 13, none⟩ (.string a0_13)).setCell ⟨gb189, 14, none⟩ (.string a0_14)).heap[gb189]? = some (.cells #[.int .u8 a0_0, .int .u8 a0_1, .int .u8 a0_2, .int .u8 a0_3, .int .u8 a0_4, .string a0_5, .string a0_6, .string a0_7, .string a0_8, .string a0_9, .string a0_10, .string a0_11, .string a0_12, .string a0_13, .string a0_14] 25 (0, 0))) := ⟨by (with_reducible repeat (first | refine kN ?_ _ | refine kD ?_ | refine kA ?_ _)); refine blk_put (cs := #[.int .u8 a0_0, .int .u8 a0_1, .int .u8 a0_2, .int .u8 a0_3, .int .u8 a0_4, .string a0_5, .string a0_6, .string a0_7, .string a0_8, .string a0_9, .string a0_10, .string a0_11, .string a0_12, .string a0_13, .string (⟨#[]⟩ : ByteArray)]) ?_ 14 _ rfl; (with_reducible repeat (first | refine kN ?_ _ | refine kD ?_ | refine kA ?_ _)); refine blk_put (cs := #[.int .u8 a0_0, .int .u8 a0_1, .int .u8 a0_2, .int .u8 a0_3, .int .u8 a0_4, .string a0_5, .string a0_6, .string a0_7, .string a0_8, .string a0_9, .string a0_10, .string a0_11, .string a0_12, .string (⟨#[]⟩ : ByteArray), .string (⟨#[]⟩ : ByteArray)]) ?_ 13 _ rfl; (with_reducible repeat (first | refine kN ?_ _ | refine kD ?_ | refine kA ?_ _)); refine blk_put (cs := #[.int .u8 a0_0, .int .u8 a0_1, .int .u8 a0_2, .int .u8 a0_3, .int .u8 a0_4, .string a0_5, .string a0_6, .string a0_7, .string a0_8, .string a0_9, .string a0_10, .string a0_11, .string (⟨#[]⟩ : ByteArray), .string (⟨#[]⟩ : ByteArray), .string (⟨#[]⟩ : ByteArray)]) ?_ 12 _ rfl; (with_reducible repeat (first | refine kN ?_ _ | refine kD ?_ | refine kA ?_ _)); refine blk_put (cs := #[.int .u8 a0_0, .int .u8 a0_1, .int .u8 a0_2, .int .u8 a0_3, .int .u8 a0_4, .string a0_5, .string a0_6, .string a0_7, .string a0_8, .string a0_9, .string a0_10, .string (⟨#[]⟩ : ByteArray), .string (⟨#[]⟩ : ByteArray), .string (⟨#[]⟩ : ByteArray), .string (⟨#[]⟩ : ByteArray)]) ?_ 11 _ rfl; (with_reducible repeat (first | refine kN ?_ _ | refine kD ?_ | refine kA ?_ _)); refine blk_put (cs := #[.int .u8 a0_0, .int .u8 a0_1, .int .u8 a0_2, .int .u8 a0_3, .int .u8 a0_4, .string a0_5, .string a0_6, .string a0_7, .string a0_8, .string a0_9, .string (⟨#[]⟩ : ByteArray), .string (⟨#[]⟩ : ByteArray), .string (⟨#[]⟩ : ByteArray), .string (⟨#[]⟩ : ByteArray), .string (⟨#[]⟩ : ByteArray)]) ?_ 10 _ rfl; (with_reducible repeat (first | refine kN ?_ _ | refine kD ?_ | refine kA ?_ _)); refine blk_put (cs := #[.int .u8 a0_0, .int .u8 a0_1, .int .u8 a0_2, .int .u8 a0_3, .int .u8 a0_4, .string a0_5, .string a0_6, .string a0_7, .string a0_8, .string (⟨#[]⟩ : ByteArray), .string (⟨#[]⟩ : ByteArray), .string (⟨#[]⟩ : ByteArray), .string (⟨#[]⟩ : ByteArray), .string (⟨#[]⟩ : ByteArray), .string (⟨#[]⟩ : ByteArray)]) ?_ 9 _ rfl; (with_reducible repeat (first | refine kN ?_ _ | refine kD ?_ | refine kA ?_ _)); refine blk_put (cs := #[.int .u8 a0_0, .int .u8 a0_1, .int .u8 a0_2, .int .u8 a0_3, .int .u8 a0_4, .string a0_5, .string a0_6, .string a0_7, .string (⟨#[]⟩ : ByteArray), .string (⟨#[]⟩ : ByteArray), .string (⟨#[]⟩ : ByteArray), .string (⟨#[]⟩ : ByteArray), .string (⟨#[]⟩ : ByteArray), .string (⟨#[]⟩ : ByteArray), .string (⟨#[]⟩ : ByteArray)]) ?_ 8 _ rfl; (with_reducible repeat (first | refine kN ?_ _ | refine kD ?_ | refine kA ?_ _)); refine blk_put (cs := #[.int .u8 a0_0, .int .u8 a0_1, .int .u8 a0_2, .int .u8 a0_3, .int .u8 a0_4, .string a0_5, .string a0_6, .string (⟨#[]⟩ : ByteArray), .string (⟨#[]⟩ : ByteArray), .string (⟨#[]⟩ : ByteArray), .string (⟨#[]⟩ : ByteArray), .string (⟨#[]⟩ : ByteArray), .string (⟨#[]⟩ : ByteArray), .string (⟨#[]⟩ : ByteArray), .string (⟨#[]⟩ : ByteArray)]) ?_ 7 _ rfl; (with_reducible repeat (first | refine kN ?_ _ | refine kD ?_ | refine kA ?_ _)); refine blk_put (cs := #[.int .u8 a0_0, .int .u8 a0_1, .int .u8 a0_2, .int .u8 a0_3, .int .u8 a0_4, .string a0_5, .string (⟨#[]⟩ : ByteArray), .string (⟨#[]⟩ : ByteArray), .string (⟨#[]⟩ : ByteArray), .string (⟨#[]⟩ : ByteArray), .string (⟨#[]⟩ : ByteArray), .string (⟨#[]⟩ : ByteArray), .string (⟨#[]⟩ : ByteArray), .string (⟨#[]⟩ : ByteArray), .string (⟨#[]⟩ : ByteArray)]) ?_ 6 _ rfl; (with_reducible repeat (first | refine kN ?_ _ | refine kD ?_ | refine kA ?_ _)); refine blk_put (cs := #[.int .u8 a0_0, .int .u8 a0_1, .int .u8 a0_2, .int .u8 a0_3, .int .u8 a0_4, .string (⟨#[]⟩ : ByteArray), .string (⟨#[]⟩ : ByteArray), .string (⟨#[]⟩ : ByteArray), .string (⟨#[]⟩ : ByteArray), .string (⟨#[]⟩ : ByteArray), .string (⟨#[]⟩ : ByteArray), .string (⟨#[]⟩ : ByteArray), .string (⟨#[]⟩ : ByteArray), .string (⟨#[]⟩ : ByteArray), .string (⟨#[]⟩ : ByteArray)]) ?_ 5 _ rfl; (with_reducible repeat (first | refine kN ?_ _ | refine kD ?_ | refine kA ?_ _)); refine blk_put (cs := #[.int .u8 a0_0, .int .u8 a0_1, .int .u8 a0_2, .int .u8 a0_3, .int .u8 0, .string (⟨#[]⟩ : ByteArray), .string (⟨#[]⟩ : ByteArray), .string (⟨#[]⟩ : ByteArray), .string (⟨#[]⟩ : ByteArray), .string (⟨#[]⟩ : ByteArray), .string (⟨#[]⟩ : ByteArray), .string (⟨#[]⟩ : ByteArray), .string (⟨#[]⟩ : ByteArray), .string (⟨#[]⟩ : ByteArray), .string (⟨#[]⟩ : ByteArray)]) ?_ 4 _ rfl; (with_reducible repeat (first | refine kN ?_ _ | refine kD ?_ | refine kA ?_ _)); refine blk_put (cs := #[.int .u8 a0_0, .int .u8 a0_1, .int .u8 a0_2, .int .u8 0, .int .u8 0, .string (⟨#[]⟩ : ByteArray), .string (⟨#[]⟩ : ByteArray), .string (⟨#[]⟩ : ByteArray), .string (⟨#[]⟩ : ByteArray), .string (⟨#[]⟩ : ByteArray), .string (⟨#[]⟩ : ByteArray), .string (⟨#[]⟩ : ByteArray), .string (⟨#[]⟩ : ByteArray), .string (⟨#[]⟩ : ByteArray), .string (⟨#[]⟩ : ByteArray)]) ?_ 3 _ rfl; (with_reducible repeat (first | refine kN ?_ _ | refine kD ?_ | refine kA ?_ _)); refine blk_put (cs := #[.int .u8 a0_0, .int .u8 a0_1, .int .u8 0, .int .u8 0, .int .u8 0, .string (⟨#[]⟩ : ByteArray), .string (⟨#[]⟩ : ByteArray), .string (⟨#[]⟩ : ByteArray), .string (⟨#[]⟩ : ByteArray), .string (⟨#[]⟩ : ByteArray), .string (⟨#[]⟩ : ByteArray), .string (⟨#[]⟩ : ByteArray), .string (⟨#[]⟩ : ByteArray), .string (⟨#[]⟩ : ByteArray), .string (⟨#[]⟩ : ByteArray)]) ?_ 2 _ rfl; (with_reducible repeat (first | refine kN ?_ _ | refine kD ?_ | refine kA ?_ _)); refine blk_put (cs := #[.int .u8 a0_0, .int .u8 0, .int .u8 0, .int .u8 0, .int .u8 0, .string (⟨#[]⟩ : ByteArray), .string (⟨#[]⟩ : ByteArray), .string (⟨#[]⟩ : ByteArray), .string (⟨#[]⟩ : ByteArray), .string (⟨#[]⟩ : ByteArray), .string (⟨#[]⟩ : ByteArray), .string (⟨#[]⟩ : ByteArray), .string (⟨#[]⟩ : ByteArray), .string (⟨#[]⟩ : ByteArray), .string (⟨#[]⟩ : ByteArray)]) ?_ 1 _ rfl; (with_reducible repeat (first | refine kN ?_ _ | refine kD ?_ | refine kA ?_ _)); refine blk_put (cs := #[.int .u8 0, .int .u8 0, .int .u8 0, .int .u8 0, .int .u8 0, .string (⟨#[]⟩ : ByteArray), .string (⟨#[]⟩ : ByteArray), .string (⟨#[]⟩ : ByteArray), .string (⟨#[]⟩ : ByteArray), .string (⟨#[]⟩ : ByteArray), .string (⟨#[]⟩ : ByteArray), .string (⟨#[]⟩ : ByteArray), .string (⟨#[]⟩ : ByteArray), .string (⟨#[]⟩ : ByteArray), .string (⟨#[]⟩ : ByteArray)]) ?_ 0 _ rfl; (with_reducible repeat (first | refine kN ?_ _ | refine kD ?_ | refine kA ?_ _)); exact BK189.out⟩
   have n2_ : Aside0 (Below w.heap.size w (((((((((((((((w11.setCell ⟨gb189, 0, none⟩ (.int .u8 a0_0)).setCell ⟨gb189, 1, none⟩ (.int .u8 a0_1)).setCell ⟨gb189, 2, none⟩ (.int .u8 a0_2)).setCell ⟨gb189, 3, none⟩ (.int .u8 a0_3)).setCell ⟨gb189, 4, none⟩ (.int .u8 a0_4)).setCell ⟨gb189, 5, none⟩ (.string a0_5)).setCell ⟨gb189, 6, none⟩ (.string a0_6)).setCell ⟨gb189, 7, none⟩ (.string a0_7)).setCell ⟨gb189, 8, none⟩ (.string a0_8)).setCell ⟨gb189, 9, none⟩ (.string a0_9)).setCell ⟨gb189, 10, none⟩ (.string a0_10)).setCell ⟨gb189, 11, none⟩ (.string a0_11)).setCell ⟨gb189, 12, none⟩ (.string a0_12)).setCell ⟨gb189, 13, none⟩ (.string a0_13)).setCell ⟨gb189, 14, none⟩ (.string a0_14))) := ⟨by repeat (first | (with_reducible first | exact HB.out | apply bA | apply bN | apply bD | refine below_set ?_ GE187.out | refine below_set ?_ GE189.out) | exact HB.out)⟩
   (try clear BK187)
   (try clear BK189)
   (try clear HB)
   generalize (((((((((((((((w11.setCell ⟨gb189, 0, none⟩ (.int .u8 a0_0)).setCell ⟨gb189, 1, none⟩ (.int .u8 a0_1)).setCell ⟨gb189, 2, none⟩ (.int .u8 a0_2)).setCell ⟨gb189, 3, none⟩ (.int .u8 a0_3)).setCell ⟨gb189, 4, none⟩ (.int .u8 a0_4)).setCell ⟨gb189, 5, none⟩ (.string a0_5)).setCell ⟨gb189, 6, none⟩ (.string a0_6)).setCell ⟨gb189, 7, none⟩ (.string a0_7)).setCell ⟨gb189, 8, none⟩ (.string a0_8)).setCell ⟨gb189, 9, none⟩ (.string a0_9)).setCell ⟨gb189, 10, none⟩ (.string a0_10)).setCell ⟨gb189, 11, none⟩ (.string a0_11)).setCell ⟨gb189, 12, none⟩ (.string a0_12)).setCell ⟨gb189, 13, none⟩ (.string a0_13)).setCell ⟨gb189, 14, none⟩ (.string a0_14)) = w14 at n0_ n1_ n2_ ⊢
   have BK187 := n0_
   have BK189 := n1_
   have HB := n2_
   clear n0_ n1_ n2_
   have n0_ := Aside0.mk (blk_drew BK187.out)
   have n1_ := Aside0.mk (blk_drew BK189.out)
   have n2_ := Aside0.mk (below_drew1 HB.out)
   clear BK187
   clear BK189
   clear HB
   have BK187 := n0_
   have BK189 := n1_
   have HB := n2_
   clear n0_ n1_ n2_
   refine start_ (n := 8) (S := fun w' => w'.cell? ⟨gb187, 0, none⟩ = some (.int .u8 a0_0) ∧ w'.cell? ⟨gb187, 1, none⟩ = some (.int .u8 a0_1) ∧ w'.cell? ⟨gb187, 2, none⟩ = some (.int .u8 a0_2) ∧ w'.cell? ⟨gb187, 3, none⟩ = some (.int .u8 a0_3) ∧ w'.cell? ⟨gb187, 4, none⟩ = some (.int .u8 a0_4) ∧ w'.cell? ⟨gb187, 5, none⟩ = some (.string a0_5) ∧ w'.cell? ⟨gb187, 6, none⟩ = some (.string a0_6) ∧ w'.cell? ⟨gb187, 7, none⟩ = some (.string a0_7) ∧ w'.cell? ⟨gb187, 8, none⟩ = some (.string a0_8) ∧ w'.cell? ⟨gb187, 9, none⟩ = some (.string a0_9) ∧ w'.cell? ⟨gb187, 10, none⟩ = some (.string a0_10) ∧ w'.cell? ⟨gb187, 11, none⟩ = some (.string a0_11) ∧ w'.cell? ⟨gb187, 12, none⟩ = some (.string a0_12) ∧ w'.cell? ⟨gb187, 13, none⟩ = some (.string a0_13) ∧ w'.cell? ⟨gb187, 14, none⟩ = some (.string a0_14)) (ds := []) #[false, false, false, false, false, false, false, false] (by kernel_rfl) rfl rfl ⟨blk_cell BK187.out 0, blk_cell BK187.out 1, blk_cell BK187.out 2, blk_cell BK187.out 3, blk_cell BK187.out 4, blk_cell BK187.out 5, blk_cell BK187.out 6, blk_cell BK187.out 7, blk_cell BK187.out 8, blk_cell BK187.out 9, blk_cell BK187.out 10, blk_cell BK187.out 11, blk_cell BK187.out 12, blk_cell BK187.out 13, blk_cell BK187.out 14⟩ (fun hHeld => ?_); refine with_tabW ack_Build.tab4 ack_Build.bits4 (fun HT_ HW_ => ?_)
   generalize w14.drew = w15 at BK187 BK189 HB hHeld ⊢
   refine pure_ (i := 0) (N := some 13) (v := ?_) (a' := ?_) #[true, false, false, false, false, false, false, false] rfl rfl (any_of HT_.out (by kernel_rfl)) (fun _ _ _ h => h) (Or.inl ⟨by rfl, ?_⟩) ?_ ?_
   rotate_left
   ·intro w'
    go_simp
    with_reducible rfl
   rotate_left
   ·simp only [Act.put, sA_, s0_, s1_, i64_w, i32_w]
    rfl
   refine pure_ (i := 2) (N := some 15) (v := ?_) (a' := ?_) #[true, false, true, false, false, false, false, false] rfl rfl (any_of HT_.out (by kernel_rfl)) (fun _ _ _ h => h) (Or.inl ⟨by rfl, ?_⟩) ?_ ?_
   rotate_left
   ·intro w'
    go_simp
    with_reducible rfl
   rotate_left
   ·simp only [Act.put, sA_, s0_, s1_, i64_w, i32_w]
    rfl
   refine take_ (i := 1) (N := some 14) (v := ?_) (a' := ?_) #[true, true, true, false, false, false, false, false] rfl rfl (take_ofW HT_.out HW_.out (by kernel_rfl)) (fun _ _ _ h => h) (Or.inl ⟨by rfl, ?_⟩) hHeld ?_ ?_
   rotate_left
   ·rintro w' ⟨s0, s1, s2, s3, s4, s5, s6, s7, s8, s9, s10, s11, s12, s13, s14⟩
    go_simp
    with_reducible rfl
   rotate_left
   ·simp only [Act.put, sA_, s0_, s1_, i64_w, i32_w]
    rfl
   refine pure_ (i := 4) (N := some 17) (v := ?_) (a' := ?_) #[true, true, true, false, true, false, false, false] rfl rfl (any_of HT_.out (by kernel_rfl)) (fun _ _ _ h => h) (Or.inl ⟨by rfl, ?_⟩) ?_ ?_
   rotate_left
   ·intro w'
    go_simp
    with_reducible rfl
   rotate_left
   ·simp only [Act.put, sA_, s0_, s1_, i64_w, i32_w]
    rfl
   refine take_ (i := 3) (N := some 16) (v := ?_) (a' := ?_) #[true, true, true, true, true, false, false, false] rfl rfl (take_ofW HT_.out HW_.out (by kernel_rfl)) (fun _ _ _ h => h) (Or.inl ⟨by rfl, ?_⟩) hHeld ?_ ?_
   rotate_left
   ·rintro w' ⟨s0, s1, s2, s3, s4, s5, s6, s7, s8, s9, s10, s11, s12, s13, s14⟩
    go_simp
    with_reducible rfl
   rotate_left
   ·simp only [Act.put, sA_, s0_, s1_, i64_w, i32_w]
    rfl
   refine one_ (i := 5) (N := none) #[true, true, true, true, true, true, false, false] rfl rfl (one_of HT_.out (by kernel_rfl)) (by decide) (fun K hK => ?_)
   have hs16 : w15.cell? ⟨gb189, 5, none⟩ = some (.string a0_5) := blk_cell BK189.out 5
   have hfs16 := blk_frozen BK189.out 5
   have hns16_0 := NB187_189.out
   have hms16_0 := NB189_187.out
   refine skip_ (w1 := ?_) (by rfl) rfl ?_ ?_
   rotate_left
   ·go_simp
    rfl
   refine hK.out _ _ ⟨((cF (p := ⟨gb189, _, none⟩) NB187_189.out _).trans (hHeld.1)), ((cF (p := ⟨gb189, _, none⟩) NB187_189.out _).trans (hHeld.2.1)), ((cF (p := ⟨gb189, _, none⟩) NB187_189.out _).trans (hHeld.2.2.1)), ((cF (p := ⟨gb189, _, none⟩) NB187_189.out _).trans (hHeld.2.2.2.1)), ((cF (p := ⟨gb189, _, none⟩) NB187_189.out _).trans (hHeld.2.2.2.2.1)), ((cF (p := ⟨gb189, _, none⟩) NB187_189.out _).trans (hHeld.2.2.2.2.2.1)), ((cF (p := ⟨gb189, _, none⟩) NB187_189.out _).trans (hHeld.2.2.2.2.2.2.1)), ((cF (p := ⟨gb189, _, none⟩) NB187_189.out _).trans (hHeld.2.2.2.2.2.2.2.1)), ((cF (p := ⟨gb189, _, none⟩) NB187_189.out _).trans (hHeld.2.2.2.2.2.2.2.2.1)), ((cF (p := ⟨gb189, _, none⟩) NB187_189.out _).trans (hHeld.2.2.2.2.2.2.2.2.2.1)), ((cF (p := ⟨gb189, _, none⟩) NB187_189.out _).trans (hHeld.2.2.2.2.2.2.2.2.2.2.1)), ((cF (p := ⟨gb189, _, none⟩) NB187_189.out _).trans (hHeld.2.2.2.2.2.2.2.2.2.2.2.1)), ((cF (p := ⟨gb189, _, none⟩) NB187_189.out _).trans (hHeld.2.2.2.2.2.2.2.2.2.2.2.2.1)), ((cF (p := ⟨gb189, _, none⟩) NB187_189.out _).trans (hHeld.2.2.2.2.2.2.2.2.2.2.2.2.2.1)), ((cF (p := ⟨gb189, _, none⟩) NB187_189.out _).trans (hHeld.2.2.2.2.2.2.2.2.2.2.2.2.2.2))⟩ (fun hHeld => ?_)
   clear hK K
   refine pure_ (i := 6) (N := some 18) (v := ?_) (a' := ?_) #[true, true, true, true, true, true, true, false] rfl rfl (any_of HT_.out (by kernel_rfl)) (fun _ _ _ h => h) (Or.inl ⟨by rfl, ?_⟩) ?_ ?_
   rotate_left
   ·intro w'
    go_simp
    with_reducible rfl
   rotate_left
   ·simp only [Act.put, sA_, s0_, s1_, i64_w, i32_w]
    rfl
   refine one_ (i := 7) (N := none) #[true, true, true, true, true, true, true, true] rfl rfl (one_of HT_.out (by kernel_rfl)) (by decide) (fun K hK => ?_)
   have hs17 : w15.cell? ⟨gb189, 7, none⟩ = some (.string a0_7) := blk_cell BK189.out 7
   have hfs17 := blk_frozen BK189.out 7
   have hns17_0 := NB187_189.out
   have hms17_0 := NB189_187.out
   refine skip_ (w1 := ?_) (by rfl) rfl ?_ ?_
   rotate_left
   ·go_simp
    rfl
   refine hK.out _ _ ⟨((cF (p := ⟨gb189, _, none⟩) NB187_189.out _).trans (hHeld.1)), ((cF (p := ⟨gb189, _, none⟩) NB187_189.out _).trans (hHeld.2.1)), ((cF (p := ⟨gb189, _, none⟩) NB187_189.out _).trans (hHeld.2.2.1)), ((cF (p := ⟨gb189, _, none⟩) NB187_189.out _).trans (hHeld.2.2.2.1)), ((cF (p := ⟨gb189, _, none⟩) NB187_189.out _).trans (hHeld.2.2.2.2.1)), ((cF (p := ⟨gb189, _, none⟩) NB187_189.out _).trans (hHeld.2.2.2.2.2.1)), ((cF (p := ⟨gb189, _, none⟩) NB187_189.out _).trans (hHeld.2.2.2.2.2.2.1)), ((cF (p := ⟨gb189, _, none⟩) NB187_189.out _).trans (hHeld.2.2.2.2.2.2.2.1)), ((cF (p := ⟨gb189, _, none⟩) NB187_189.out _).trans (hHeld.2.2.2.2.2.2.2.2.1)), ((cF (p := ⟨gb189, _, none⟩) NB187_189.out _).trans (hHeld.2.2.2.2.2.2.2.2.2.1)), ((cF (p := ⟨gb189, _, none⟩) NB187_189.out _).trans (hHeld.2.2.2.2.2.2.2.2.2.2.1)), ((cF (p := ⟨gb189, _, none⟩) NB187_189.out _).trans (hHeld.2.2.2.2.2.2.2.2.2.2.2.1)), ((cF (p := ⟨gb189, _, none⟩) NB187_189.out _).trans (hHeld.2.2.2.2.2.2.2.2.2.2.2.2.1)), ((cF (p := ⟨gb189, _, none⟩) NB187_189.out _).trans (hHeld.2.2.2.2.2.2.2.2.2.2.2.2.2.1)), ((cF (p := ⟨gb189, _, none⟩) NB187_189.out _).trans (hHeld.2.2.2.2.2.2.2.2.2.2.2.2.2.2))⟩ (fun hHeld => ?_)
   clear hK K
   refine done_ (done_of HT_.out (by kernel_rfl)) ?_
   try go_wp2
   have n0_ : Aside0 (((w15.setCell ⟨gb189, 5, none⟩ (.string a0_7)).setCell ⟨gb189, 7, none⟩ (.string a0_5)).heap[gb187]? = some (.cells #[.int .u8 a0_0, .int .u8 a0_1, .int .u8 a0_2, .int .u8 a0_3, .int .u8 a0_4, .string a0_5, .string a0_6, .string a0_7, .string a0_8, .string a0_9, .string a0_10, .string a0_11, .string a0_12, .string a0_13, .string a0_14] 25 (0, 0))) := ⟨by (with_reducible repeat (first | refine kN ?_ _ | refine kD ?_ | refine kA ?_ _)); refine blk_far ?_ NB187_189.out _; (with_reducible repeat (first | refine kN ?_ _ | refine kD ?_ | refine kA ?_ _)); refine blk_far ?_ NB187_189.out _; (with_reducible repeat (first | refine kN ?_ _ | refine kD ?_ | refine kA ?_ _)); exact BK187.out⟩
   have n1_ : Aside0 (((w15.setCell ⟨gb189, 5, none⟩ (.string a0_7)).setCell ⟨gb189, 7, none⟩ (.string a0_5)).heap[gb189]? = some (.cells #[.int .u8 a0_0, .int .u8 a0_1, .int .u8 a0_2, .int .u8 a0_3, .int .u8 a0_4, .string a0_7, .string a0_6, .string a0_5, .string a0_8, .string a0_9, .string a0_10, .string a0_11, .string a0_12, .string a0_13, .string a0_14] 25 (0, 0))) := ⟨by (with_reducible repeat (first | refine kN ?_ _ | refine kD ?_ | refine kA ?_ _)); refine blk_put (cs := #[.int .u8 a0_0, .int .u8 a0_1, .int .u8 a0_2, .int .u8 a0_3, .int .u8 a0_4, .string a0_7, .string a0_6, .string a0_7, .string a0_8, .string a0_9, .string a0_10, .string a0_11, .string a0_12, .string a0_13, .string a0_14]) ?_ 7 _ rfl; (with_reducible repeat (first | refine kN ?_ _ | refine kD ?_ | refine kA ?_ _)); refine blk_put (cs := #[.int .u8 a0_0, .int .u8 a0_1, .int .u8 a0_2, .int .u8 a0_3, .int .u8 a0_4, .string a0_5, .string a0_6, .string a0_7, .string a0_8, .string a0_9, .string a0_10, .string a0_11, .string a0_12, .string a0_13, .string a0_14]) ?_ 5 _ rfl; (with_reducible repeat (first | refine kN ?_ _ | refine kD ?_ | refine kA ?_ _)); exact BK189.out⟩
   have n2_ : Aside0 (Below w.heap.size w ((w15.setCell ⟨gb189, 5, none⟩ (.string a0_7)).setCell ⟨gb189, 7, none⟩ (.string a0_5))) := ⟨by repeat (first | (with_reducible first | exact HB.out | apply bA | apply bN | apply bD | refine below_set ?_ GE187.out | refine below_set ?_ GE189.out) | exact HB.out)⟩
   (try clear BK187)
   (try clear BK189)
   (try clear HB)
   generalize ((w15.setCell ⟨gb189, 5, none⟩ (.string a0_7)).setCell ⟨gb189, 7, none⟩ (.string a0_5)) = w18 at n0_ n1_ n2_ ⊢
   have BK187 := n0_
   have BK189 := n1_
   have HB := n2_
   clear n0_ n1_ n2_
   have n0_ := Aside0.mk (blk_drew BK187.out)
   have n1_ := Aside0.mk (blk_drew BK189.out)
   have n2_ := Aside0.mk (below_drew1 HB.out)
   clear BK187
   clear BK189
   clear HB
   have BK187 := n0_
   have BK189 := n1_
   have HB := n2_
   clear n0_ n1_ n2_
   refine start_ (n := 8) (S := fun w' => w'.cell? ⟨gb187, 0, none⟩ = some (.int .u8 a0_0) ∧ w'.cell? ⟨gb187, 1, none⟩ = some (.int .u8 a0_1) ∧ w'.cell? ⟨gb187, 2, none⟩ = some (.int .u8 a0_2) ∧ w'.cell? ⟨gb187, 3, none⟩ = some (.int .u8 a0_3) ∧ w'.cell? ⟨gb187, 4, none⟩ = some (.int .u8 a0_4) ∧ w'.cell? ⟨gb187, 5, none⟩ = some (.string a0_5) ∧ w'.cell? ⟨gb187, 6, none⟩ = some (.string a0_6) ∧ w'.cell? ⟨gb187, 7, none⟩ = some (.string a0_7) ∧ w'.cell? ⟨gb187, 8, none⟩ = some (.string a0_8) ∧ w'.cell? ⟨gb187, 9, none⟩ = some (.string a0_9) ∧ w'.cell? ⟨gb187, 10, none⟩ = some (.string a0_10) ∧ w'.cell? ⟨gb187, 11, none⟩ = some (.string a0_11) ∧ w'.cell? ⟨gb187, 12, none⟩ = some (.string a0_12) ∧ w'.cell? ⟨gb187, 13, none⟩ = some (.string a0_13) ∧ w'.cell? ⟨gb187, 14, none⟩ = some (.string a0_14)) (ds := []) #[false, false, false, false, false, false, false, false] (by kernel_rfl) rfl rfl ⟨blk_cell BK187.out 0, blk_cell BK187.out 1, blk_cell BK187.out 2, blk_cell BK187.out 3, blk_cell BK187.out 4, blk_cell BK187.out 5, blk_cell BK187.out 6, blk_cell BK187.out 7, blk_cell BK187.out 8, blk_cell BK187.out 9, blk_cell BK187.out 10, blk_cell BK187.out 11, blk_cell BK187.out 12, blk_cell BK187.out 13, blk_cell BK187.out 14⟩ (fun hHeld => ?_); refine with_tabW ack_Build.tab5 ack_Build.bits5 (fun HT_ HW_ => ?_)
   generalize w18.drew = w19 at BK187 BK189 HB hHeld ⊢
   refine pure_ (i := 0) (N := some 19) (v := ?_) (a' := ?_) #[true, false, false, false, false, false, false, false] rfl rfl (any_of HT_.out (by kernel_rfl)) (fun _ _ _ h => h) (Or.inl ⟨by rfl, ?_⟩) ?_ ?_
   rotate_left
   ·intro w'
    go_simp
    with_reducible rfl
   rotate_left
   ·simp only [Act.put, sA_, s0_, s1_, i64_w, i32_w]
    rfl
   refine pure_ (i := 2) (N := some 21) (v := ?_) (a' := ?_) #[true, false, true, false, false, false, false, false] rfl rfl (any_of HT_.out (by kernel_rfl)) (fun _ _ _ h => h) (Or.inl ⟨by rfl, ?_⟩) ?_ ?_
   rotate_left
   ·intro w'
    go_simp
    with_reducible rfl
   rotate_left
   ·simp only [Act.put, sA_, s0_, s1_, i64_w, i32_w]
    rfl
   refine take_ (i := 1) (N := some 20) (v := ?_) (a' := ?_) #[true, true, true, false, false, false, false, false] rfl rfl (take_ofW HT_.out HW_.out (by kernel_rfl)) (fun _ _ _ h => h) (Or.inl ⟨by rfl, ?_⟩) hHeld ?_ ?_
   rotate_left
   ·rintro w' ⟨s0, s1, s2, s3, s4, s5, s6, s7, s8, s9, s10, s11, s12, s13, s14⟩
    go_simp
    with_reducible rfl
   rotate_left
   ·simp only [Act.put, sA_, s0_, s1_, i64_w, i32_w]
    rfl
   refine pure_ (i := 4) (N := some 23) (v := ?_) (a' := ?_) #[true, true, true, false, true, false, false, false] rfl rfl (any_of HT_.out (by kernel_rfl)) (fun _ _ _ h => h) (Or.inl ⟨by rfl, ?_⟩) ?_ ?_
   rotate_left
   ·intro w'
    go_simp
    with_reducible rfl
   rotate_left
   ·simp only [Act.put, sA_, s0_, s1_, i64_w, i32_w]
    rfl
   refine take_ (i := 3) (N := some 22) (v := ?_) (a' := ?_) #[true, true, true, true, true, false, false, false] rfl rfl (take_ofW HT_.out HW_.out (by kernel_rfl)) (fun _ _ _ h => h) (Or.inl ⟨by rfl, ?_⟩) hHeld ?_ ?_
   rotate_left
   ·rintro w' ⟨s0, s1, s2, s3, s4, s5, s6, s7, s8, s9, s10, s11, s12, s13, s14⟩
    go_simp
    with_reducible rfl
   rotate_left
   ·simp only [Act.put, sA_, s0_, s1_, i64_w, i32_w]
    rfl
   refine one_ (i := 5) (N := none) #[true, true, true, true, true, true, false, false] rfl rfl (one_of HT_.out (by kernel_rfl)) (by decide) (fun K hK => ?_)
   have hs20 : w19.cell? ⟨gb189, 6, none⟩ = some (.string a0_6) := blk_cell BK189.out 6
   have hfs20 := blk_frozen BK189.out 6
   have hns20_0 := NB187_189.out
   have hms20_0 := NB189_187.out
   refine skip_ (w1 := ?_) (by rfl) rfl ?_ ?_
   rotate_left
   ·go_simp
    rfl
   refine hK.out _ _ ⟨((cF (p := ⟨gb189, _, none⟩) NB187_189.out _).trans (hHeld.1)), ((cF (p := ⟨gb189, _, none⟩) NB187_189.out _).trans (hHeld.2.1)), ((cF (p := ⟨gb189, _, none⟩) NB187_189.out _).trans (hHeld.2.2.1)), ((cF (p := ⟨gb189, _, none⟩) NB187_189.out _).trans (hHeld.2.2.2.1)), ((cF (p := ⟨gb189, _, none⟩) NB187_189.out _).trans (hHeld.2.2.2.2.1)), ((cF (p := ⟨gb189, _, none⟩) NB187_189.out _).trans (hHeld.2.2.2.2.2.1)), ((cF (p := ⟨gb189, _, none⟩) NB187_189.out _).trans (hHeld.2.2.2.2.2.2.1)), ((cF (p := ⟨gb189, _, none⟩) NB187_189.out _).trans (hHeld.2.2.2.2.2.2.2.1)), ((cF (p := ⟨gb189, _, none⟩) NB187_189.out _).trans (hHeld.2.2.2.2.2.2.2.2.1)), ((cF (p := ⟨gb189, _, none⟩) NB187_189.out _).trans (hHeld.2.2.2.2.2.2.2.2.2.1)), ((cF (p := ⟨gb189, _, none⟩) NB187_189.out _).trans (hHeld.2.2.2.2.2.2.2.2.2.2.1)), ((cF (p := ⟨gb189, _, none⟩) NB187_189.out _).trans (hHeld.2.2.2.2.2.2.2.2.2.2.2.1)), ((cF (p := ⟨gb189, _, none⟩) NB187_189.out _).trans (hHeld.2.2.2.2.2.2.2.2.2.2.2.2.1)), ((cF (p := ⟨gb189, _, none⟩) NB187_189.out _).trans (hHeld.2.2.2.2.2.2.2.2.2.2.2.2.2.1)), ((cF (p := ⟨gb189, _, none⟩) NB187_189.out _).trans (hHeld.2.2.2.2.2.2.2.2.2.2.2.2.2.2))⟩ (fun hHeld => ?_)
   clear hK K
   refine pure_ (i := 6) (N := some 24) (v := ?_) (a' := ?_) #[true, true, true, true, true, true, true, false] rfl rfl (any_of HT_.out (by kernel_rfl)) (fun _ _ _ h => h) (Or.inl ⟨by rfl, ?_⟩) ?_ ?_
   rotate_left
   ·intro w'
    go_simp
    with_reducible rfl
   rotate_left
   ·simp only [Act.put, sA_, s0_, s1_, i64_w, i32_w]
    rfl
   refine one_ (i := 7) (N := none) #[true, true, true, true, true, true, true, true] rfl rfl (one_of HT_.out (by kernel_rfl)) (by decide) (fun K hK => ?_)
   have hs21 : w19.cell? ⟨gb189, 8, none⟩ = some (.string a0_8) := blk_cell BK189.out 8
   have hfs21 := blk_frozen BK189.out 8
   have hns21_0 := NB187_189.out
   have hms21_0 := NB189_187.out
   refine skip_ (w1 := ?_) (by rfl) rfl ?_ ?_
   rotate_left
   ·go_simp
    rfl
   refine hK.out _ _ ⟨((cF (p := ⟨gb189, _, none⟩) NB187_189.out _).trans (hHeld.1)), ((cF (p := ⟨gb189, _, none⟩) NB187_189.out _).trans (hHeld.2.1)), ((cF (p := ⟨gb189, _, none⟩) NB187_189.out _).trans (hHeld.2.2.1)), ((cF (p := ⟨gb189, _, none⟩) NB187_189.out _).trans (hHeld.2.2.2.1)), ((cF (p := ⟨gb189, _, none⟩) NB187_189.out _).trans (hHeld.2.2.2.2.1)), ((cF (p := ⟨gb189, _, none⟩) NB187_189.out _).trans (hHeld.2.2.2.2.2.1)), ((cF (p := ⟨gb189, _, none⟩) NB187_189.out _).trans (hHeld.2.2.2.2.2.2.1)), ((cF (p := ⟨gb189, _, none⟩) NB187_189.out _).trans (hHeld.2.2.2.2.2.2.2.1)), ((cF (p := ⟨gb189, _, none⟩) NB187_189.out _).trans (hHeld.2.2.2.2.2.2.2.2.1)), ((cF (p := ⟨gb189, _, none⟩) NB187_189.out _).trans (hHeld.2.2.2.2.2.2.2.2.2.1)), ((cF (p := ⟨gb189, _, none⟩) NB187_189.out _).trans (hHeld.2.2.2.2.2.2.2.2.2.2.1)), ((cF (p := ⟨gb189, _, none⟩) NB187_189.out _).trans (hHeld.2.2.2.2.2.2.2.2.2.2.2.1)), ((cF (p := ⟨gb189, _, none⟩) NB187_189.out _).trans (hHeld.2.2.2.2.2.2.2.2.2.2.2.2.1)), ((cF (p := ⟨gb189, _, none⟩) NB187_189.out _).trans (hHeld.2.2.2.2.2.2.2.2.2.2.2.2.2.1)), ((cF (p := ⟨gb189, _, none⟩) NB187_189.out _).trans (hHeld.2.2.2.2.2.2.2.2.2.2.2.2.2.2))⟩ (fun hHeld => ?_)
   clear hK K
   refine done_ (done_of HT_.out (by kernel_rfl)) ?_
   have hcz22_0 : w19.cell? ⟨gb189, 0, none⟩ = some (.int .u8 a0_0) := blk_cell BK189.out 0
   have hcz22_1 : w19.cell? ⟨gb189, 1, none⟩ = some (.int .u8 a0_1) := blk_cell BK189.out 1
   have hcz22_2 : w19.cell? ⟨gb189, 2, none⟩ = some (.int .u8 a0_2) := blk_cell BK189.out 2
   have hcz22_3 : w19.cell? ⟨gb189, 3, none⟩ = some (.int .u8 a0_3) := blk_cell BK189.out 3
   have hcz22_4 : w19.cell? ⟨gb189, 4, none⟩ = some (.int .u8 a0_4) := blk_cell BK189.out 4
   have hcz22_5 : w19.cell? ⟨gb189, 5, none⟩ = some (.string a0_7) := blk_cell BK189.out 5
   have hcz22_6 : w19.cell? ⟨gb189, 6, none⟩ = some (.string a0_6) := blk_cell BK189.out 6
   have hcz22_7 : w19.cell? ⟨gb189, 7, none⟩ = some (.string a0_5) := blk_cell BK189.out 7
   have hcz22_8 : w19.cell? ⟨gb189, 8, none⟩ = some (.string a0_8) := blk_cell BK189.out 8
   have hcz22_9 : w19.cell? ⟨gb189, 9, none⟩ = some (.string a0_9) := blk_cell BK189.out 9
   have hcz22_10 : w19.cell? ⟨gb189, 10, none⟩ = some (.string a0_10) := blk_cell BK189.out 10
   have hcz22_11 : w19.cell? ⟨gb189, 11, none⟩ = some (.string a0_11) := blk_cell BK189.out 11
   have hcz22_12 : w19.cell? ⟨gb189, 12, none⟩ = some (.string a0_12) := blk_cell BK189.out 12
   have hcz22_13 : w19.cell? ⟨gb189, 13, none⟩ = some (.string a0_13) := blk_cell BK189.out 13
   have hcz22_14 : w19.cell? ⟨gb189, 14, none⟩ = some (.string a0_14) := blk_cell BK189.out 14
   have hfz22_0 := blk_frozen BK189.out 0
   have hfz22_1 := blk_frozen BK189.out 1
   have hfz22_2 := blk_frozen BK189.out 2
   have hfz22_3 := blk_frozen BK189.out 3
   have hfz22_4 := blk_frozen BK189.out 4
   have hfz22_5 := blk_frozen BK189.out 5
   have hfz22_6 := blk_frozen BK189.out 6
   have hfz22_7 := blk_frozen BK189.out 7
   have hfz22_8 := blk_frozen BK189.out 8
   have hfz22_9 := blk_frozen BK189.out 9
   have hfz22_10 := blk_frozen BK189.out 10
   have hfz22_11 := blk_frozen BK189.out 11
   have hfz22_12 := blk_frozen BK189.out 12
   have hfz22_13 := blk_frozen BK189.out 13
   have hfz22_14 := blk_frozen BK189.out 14
   try go_wp2_with (first | ((with_reducible refine gate_callee (f := 11) rfl ?_); refine goesL_ (some 29) rfl rfl Tryd.func11 (by kernel_rfl) rfl #[.agg #[.int .u8 a0_0, .int .u8 a0_1, .int .u8 a0_2, .int .u8 a0_3, .int .u8 a0_4, .string a0_7, .string a0_8, .string a0_5, .string a0_6, .string a0_9, .string (⟨#[]⟩ : ByteArray), .string (⟨#[65, 67, 75]⟩ : ByteArray), .string a0_12, .string a0_13, .string a0_14]] rfl (by (try simp only [List.map_toArray, List.map_cons, List.map_nil]); first | done | rfl | (simp only [List.length_drop, List.length_take]; rfl)) ?_; (with_reducible refine (msh_Write.calls k a0_0 a0_1 a0_2 a0_3 a0_4 a0_7 a0_8 a0_5 a0_6 a0_9 (⟨#[]⟩ : ByteArray) (⟨#[65, 67, 75]⟩ : ByteArray) a0_12 a0_13 a0_14 t190 t191 _ A5.out).mono ?_); rintro e w23 ⟨rfl, hb⟩; refine ⟨_, rfl, ?_⟩; have n0_ := Aside0.mk (blk_below (g := gb187) (o := .cells #[.int .u8 a0_0, .int .u8 a0_1, .int .u8 a0_2, .int .u8 a0_3, .int .u8 a0_4, .string a0_5, .string a0_6, .string a0_7, .string a0_8, .string a0_9, .string a0_10, .string a0_11, .string a0_12, .string a0_13, .string a0_14] 25 (0, 0)) (by (with_reducible repeat (first | refine kN ?_ _ | refine kD ?_ | refine kA ?_ _)); refine blk_far ?_ NB187_189.out _; (with_reducible repeat (first | refine kN ?_ _ | refine kD ?_ | refine kA ?_ _)); refine blk_far ?_ NB187_189.out _; (with_reducible repeat (first | refine kN ?_ _ | refine kD ?_ | refine kA ?_ _)); refine blk_far ?_ NB187_189.out _; (with_reducible repeat (first | refine kN ?_ _ | refine kD ?_ | refine kA ?_ _)); refine blk_far ?_ NB187_189.out _; (with_reducible repeat (first | refine kN ?_ _ | refine kD ?_ | refine kA ?_ _)); exact BK187.out) hb); have n1_ := Aside0.mk (blk_below (g := gb189) (o := .cells #[.int .u8 a0_0, .int .u8 a0_1, .int .u8 a0_2, .int .u8 a0_3, .int .u8 a0_4, .string a0_7, .string a0_8, .string a0_5, .string a0_6, .string a0_9, .string (⟨#[]⟩ : ByteArray), .string (⟨#[65, 67, 75]⟩ : ByteArray), .string a0_12, .string a0_13, .string a0_14] 25 (0, 0)) (by (with_reducible repeat (first | refine kN ?_ _ | refine kD ?_ | refine kA ?_ _)); refine blk_put (cs := #[.int .u8 a0_0, .int .u8 a0_1, .int .u8 a0_2, .int .u8 a0_3, .int .u8 a0_4, .string a0_7, .string a0_8, .string a0_5, .string a0_6, .string a0_9, .string (⟨#[]⟩ : ByteArray), .string a0_11, .string a0_12, .string a0_13, .string a0_14]) ?_ 11 _ rfl; (with_reducible repeat (first | refine kN ?_ _ | refine kD ?_ | refine kA ?_ _)); refine blk_put (cs := #[.int .u8 a0_0, .int .u8 a0_1, .int .u8 a0_2, .int .u8 a0_3, .int .u8 a0_4, .string a0_7, .string a0_8, .string a0_5, .string a0_6, .string a0_9, .string a0_10, .string a0_11, .string a0_12, .string a0_13, .string a0_14]) ?_ 10 _ rfl; (with_reducible repeat (first | refine kN ?_ _ | refine kD ?_ | refine kA ?_ _)); refine blk_put (cs := #[.int .u8 a0_0, .int .u8 a0_1, .int .u8 a0_2, .int .u8 a0_3, .int .u8 a0_4, .string a0_7, .string a0_8, .string a0_5, .string a0_8, .string a0_9, .string a0_10, .string a0_11, .string a0_12, .string a0_13, .string a0_14]) ?_ 8 _ rfl; (with_reducible repeat (first | refine kN ?_ _ | refine kD ?_ | refine kA ?_ _)); refine blk_put (cs := #[.int .u8 a0_0, .int .u8 a0_1, .int .u8 a0_2, .int .u8 a0_3, .int .u8 a0_4, .string a0_7, .string a0_6, .string a0_5, .string a0_8, .string a0_9, .string a0_10, .string a0_11, .string a0_12, .string a0_13, .string a0_14]) ?_ 6 _ rfl; (with_reducible repeat (first | refine kN ?_ _ | refine kD ?_ | refine kA ?_ _)); exact BK189.out) hb); have n2_ := Aside0.mk (below_step (by repeat (first | (with_reducible first | exact HB.out | apply bA | apply bN | apply bD | refine below_set ?_ GE187.out | refine below_set ?_ GE189.out) | exact HB.out)) hb); clear BK187; clear BK189; clear HB; have BK187 := n0_; have BK189 := n1_; have HB := n2_; clear n0_ n1_ n2_; (try clear hb); have hcz24_0 : w23.cell? ⟨gb187, 0, none⟩ = some (.int .u8 a0_0) := blk_cell BK187.out 0; have hcz24_1 : w23.cell? ⟨gb187, 1, none⟩ = some (.int .u8 a0_1) := blk_cell BK187.out 1; have hcz24_2 : w23.cell? ⟨gb187, 2, none⟩ = some (.int .u8 a0_2) := blk_cell BK187.out 2; have hcz24_3 : w23.cell? ⟨gb187, 3, none⟩ = some (.int .u8 a0_3) := blk_cell BK187.out 3; have hcz24_4 : w23.cell? ⟨gb187, 4, none⟩ = some (.int .u8 a0_4) := blk_cell BK187.out 4; have hcz24_5 : w23.cell? ⟨gb187, 5, none⟩ = some (.string a0_5) := blk_cell BK187.out 5; have hcz24_6 : w23.cell? ⟨gb187, 6, none⟩ = some (.string a0_6) := blk_cell BK187.out 6; have hcz24_7 : w23.cell? ⟨gb187, 7, none⟩ = some (.string a0_7) := blk_cell BK187.out 7; have hcz24_8 : w23.cell? ⟨gb187, 8, none⟩ = some (.string a0_8) := blk_cell BK187.out 8; have hcz24_9 : w23.cell? ⟨gb187, 9, none⟩ = some (.string a0_9) := blk_cell BK187.out 9; have hcz24_10 : w23.cell? ⟨gb187, 10, none⟩ = some (.string a0_10) := blk_cell BK187.out 10; have hcz24_11 : w23.cell? ⟨gb187, 11, none⟩ = some (.string a0_11) := blk_cell BK187.out 11; have hcz24_12 : w23.cell? ⟨gb187, 12, none⟩ = some (.string a0_12) := blk_cell BK187.out 12; have hcz24_13 : w23.cell? ⟨gb187, 13, none⟩ = some (.string a0_13) := blk_cell BK187.out 13; have hcz24_14 : w23.cell? ⟨gb187, 14, none⟩ = some (.string a0_14) := blk_cell BK187.out 14; have hfz24_0 := blk_frozen BK187.out 0; have hfz24_1 := blk_frozen BK187.out 1; have hfz24_2 := blk_frozen BK187.out 2; have hfz24_3 := blk_frozen BK187.out 3; have hfz24_4 := blk_frozen BK187.out 4; have hfz24_5 := blk_frozen BK187.out 5; have hfz24_6 := blk_frozen BK187.out 6; have hfz24_7 := blk_frozen BK187.out 7; have hfz24_8 := blk_frozen BK187.out 8; have hfz24_9 := blk_frozen BK187.out 9; have hfz24_10 := blk_frozen BK187.out 10; have hfz24_11 := blk_frozen BK187.out 11; have hfz24_12 := blk_frozen BK187.out 12; have hfz24_13 := blk_frozen BK187.out 13; have hfz24_14 := blk_frozen BK187.out 14) | ((with_reducible refine gate_dst (N := 41) rfl ?_); refine Kd.R_lit Kd.string _ 9 ?hg (N := 41) ?hd (xs := ([a1, a0_12] : List ByteArray)) (inner := [.string a1, .string a0_12]) (ok := fun _ => True) (okp := fun _ => True) ?hr ?hp (fun _ hk => hk) trivial (Below.refl _ _) (Nat.le_refl _) (by simp) ?_; (case hd => rfl); (case hg => rfl); (case hr => first | (go_simp; done) | (go_simp; rfl)); (case hp => exact (Reps.one (show Kd.M Kd.string _ _ _ a1 [.string a1] from rfl) (Reps.one (show Kd.M Kd.string _ _ _ a0_12 [.string a0_12] from rfl) (Reps.none _ _)))); intro v193 w25 ho26 hb hg_ hnew_; clear hg_ hnew_; (first | rw [← Ny192.out] at ho26 | (simp only [Int.reduceToNat] at ho26; rw [← Ny192.out] at ho26)); have n0_ := Aside0.mk (Kd.R_lower ho26 (below_size (by repeat (first | (with_reducible first | exact HB.out | apply bA | apply bN | apply bD | refine below_set ?_ GE187.out | refine below_set ?_ GE189.out) | exact HB.out)))); have n1_ := Aside0.mk (blk_below (g := gb187) (o := .cells #[.int .u8 a0_0, .int .u8 a0_1, .int .u8 a0_2, .int .u8 a0_3, .int .u8 a0_4, .string a0_5, .string a0_6, .string a0_7, .string a0_8, .string a0_9, .string a0_10, .string a0_11, .string a0_12, .string a0_13, .string a0_14] 25 (0, 0)) (by (with_reducible repeat (first | refine kN ?_ _ | refine kD ?_ | refine kA ?_ _)); exact BK187.out) hb); have n2_ := Aside0.mk (blk_below (g := gb189) (o := .cells #[.int .u8 a0_0, .int .u8 a0_1, .int .u8 a0_2, .int .u8 a0_3, .int .u8 a0_4, .string a0_7, .string a0_8, .string a0_5, .string a0_6, .string a0_9, .string (⟨#[]⟩ : ByteArray), .string (⟨#[65, 67, 75]⟩ : ByteArray), .string a0_12, .string a0_13, .string a0_14] 25 (0, 0)) (by (with_reducible repeat (first | refine kN ?_ _ | refine kD ?_ | refine kA ?_ _)); exact BK189.out) hb); have n3_ := Aside0.mk (below_step (by repeat (first | (with_reducible first | exact HB.out | apply bA | apply bN | apply bD | refine below_set ?_ GE187.out | refine below_set ?_ GE189.out) | exact HB.out)) hb); clear BK187; clear BK189; clear HB; have HO194 := n0_; have BK187 := n1_; have BK189 := n2_; have HB := n3_; clear n0_ n1_ n2_ n3_; clear hb ho26; obtain ⟨Ao27, co27, eo27⟩ := Kd.R_slice HO194.out; subst eo27) | ((with_reducible refine gate_callee (f := 29) rfl ?_); refine goesL_ (some 42) rfl rfl Tryd.func29 (by kernel_rfl) rfl #[.agg #[.int .u8 a0_0, .int .u8 a0_1, .int .u8 a0_2, .int .u8 a0_3, .int .u8 a0_4], .string (⟨#[77, 83, 65]⟩ : ByteArray), .slice Ao27 y192.length co27] rfl (by (try simp only [List.map_toArray, List.map_cons, List.map_nil]); first | done | rfl | (simp only [List.length_drop, List.length_take]; rfl)) ?_; (with_reducible refine (segment_Make.calls a0_0 a0_1 a0_2 a0_3 a0_4 (⟨#[77, 83, 65]⟩ : ByteArray) _ _ y192 t195 _ ?side1 ?side2 A7.out).mono ?_); (case side1 => repeat (first | exact (Kd.R_reads' HO194.out).2.2 | (with_reducible refine Kd.C_alloc ?_ _) | (with_reducible refine Kd.C_drewN ?_ _) | (with_reducible refine Kd.C_drew ?_))); (case side2 => exact (Kd.R_reads' HO194.out).2.1); rintro e w28 ⟨rfl, hb⟩; refine ⟨_, rfl, ?_⟩; have n0_ := Aside0.mk (Kd.R_below (by (with_reducible repeat (first | apply Kd.R_alloc | apply Kd.R_drewN | apply Kd.R_drew)); exact HO194.out) hb); have n1_ := Aside0.mk (blk_below (g := gb187) (o := .cells #[.int .u8 a0_0, .int .u8 a0_1, .int .u8 a0_2, .int .u8 a0_3, .int .u8 a0_4, .string a0_5, .string a0_6, .string a0_7, .string a0_8, .string a0_9, .string a0_10, .string a0_11, .string a0_12, .string a0_13, .string a0_14] 25 (0, 0)) (by (with_reducible repeat (first | refine kN ?_ _ | refine kD ?_ | refine kA ?_ _)); exact BK187.out) hb); have n2_ := Aside0.mk (blk_below (g := gb189) (o := .cells #[.int .u8 a0_0, .int .u8 a0_1, .int .u8 a0_2, .int .u8 a0_3, .int .u8 a0_4, .string a0_7, .string a0_8, .string a0_5, .string a0_6, .string a0_9, .string (⟨#[]⟩ : ByteArray), .string (⟨#[65, 67, 75]⟩ : ByteArray), .string a0_12, .string a0_13, .string a0_14] 25 (0, 0)) (by (with_reducible repeat (first | refine kN ?_ _ | refine kD ?_ | refine kA ?_ _)); exact BK189.out) hb); have n3_ := Aside0.mk (below_step (by repeat (first | (with_reducible first | exact HB.out | apply bA | apply bN | apply bD | refine below_set ?_ GE187.out | refine below_set ?_ GE189.out) | exact HB.out)) hb); clear HO194; clear BK187; clear BK189; clear HB; have HO194 := n0_; have BK187 := n1_; have BK189 := n2_; have HB := n3_; clear n0_ n1_ n2_ n3_; (try clear hb)) | ((with_reducible refine gate_dst (N := 43) rfl ?_); refine Kd.R_lit Kd.string _ 9 ?hg (N := 43) ?hd (xs := ([t190, t195] : List ByteArray)) (inner := [.string t190, .string t195]) (ok := fun _ => True) (okp := fun _ => True) ?hr ?hp (fun _ hk => hk) trivial (Below.refl _ _) (Nat.le_refl _) (by simp) ?_; (case hd => rfl); (case hg => rfl); (case hr => first | (go_simp; done) | (go_simp; rfl)); (case hp => exact (Reps.one (show Kd.M Kd.string _ _ _ t190 [.string t190] from rfl) (Reps.one (show Kd.M Kd.string _ _ _ t195 [.string t195] from rfl) (Reps.none _ _)))); intro v197 w29 ho30 hb hg_ hnew_; clear hg_ hnew_; (first | rw [← Ny196.out] at ho30 | (simp only [Int.reduceToNat] at ho30; rw [← Ny196.out] at ho30)); have n0_ := Aside0.mk (Kd.R_elder' (by (with_reducible repeat (first | apply Kd.R_alloc | apply Kd.R_drewN | apply Kd.R_drew)); exact HO194.out) (Kd.R_base ho30) hb); have n1_ := Aside0.mk (Kd.R_lower (Kd.R_new' ho30 (Kd.R_lt (by (with_reducible repeat (first | apply Kd.R_alloc | apply Kd.R_drewN | apply Kd.R_drew)); exact HO194.out))) (below_size (by repeat (first | (with_reducible first | exact HB.out | apply bA | apply bN | apply bD | refine below_set ?_ GE187.out | refine below_set ?_ GE189.out) | exact HB.out)))); have n2_ := Aside0.mk (blk_below (g := gb187) (o := .cells #[.int .u8 a0_0, .int .u8 a0_1, .int .u8 a0_2, .int .u8 a0_3, .int .u8 a0_4, .string a0_5, .string a0_6, .string a0_7, .string a0_8, .string a0_9, .string a0_10, .string a0_11, .string a0_12, .string a0_13, .string a0_14] 25 (0, 0)) (by (with_reducible repeat (first | refine kN ?_ _ | refine kD ?_ | refine kA ?_ _)); exact BK187.out) hb); have n3_ := Aside0.mk (blk_below (g := gb189) (o := .cells #[.int .u8 a0_0, .int .u8 a0_1, .int .u8 a0_2, .int .u8 a0_3, .int .u8 a0_4, .string a0_7, .string a0_8, .string a0_5, .string a0_6, .string a0_9, .string (⟨#[]⟩ : ByteArray), .string (⟨#[65, 67, 75]⟩ : ByteArray), .string a0_12, .string a0_13, .string a0_14] 25 (0, 0)) (by (with_reducible repeat (first | refine kN ?_ _ | refine kD ?_ | refine kA ?_ _)); exact BK189.out) hb); have n4_ := Aside0.mk (below_step (by repeat (first | (with_reducible first | exact HB.out | apply bA | apply bN | apply bD | refine below_set ?_ GE187.out | refine below_set ?_ GE189.out) | exact HB.out)) hb); clear HO194; clear BK187; clear BK189; clear HB; have HO194 := n0_; have HO198 := n1_; have BK187 := n2_; have BK189 := n3_; have HB := n4_; clear n0_ n1_ n2_ n3_ n4_; clear hb ho30; obtain ⟨Ao31, co31, eo31⟩ := Kd.R_slice HO198.out; subst eo31) | ((with_reducible refine gate_callee (f := 46) rfl ?_); refine goesL_ (some 44) rfl rfl Tryd.func46 (by kernel_rfl) rfl #[.slice Ao31 y196.length co31] rfl (by (try simp only [List.map_toArray, List.map_cons, List.map_nil]); first | done | rfl | (simp only [List.length_drop, List.length_take]; rfl)) ?_; (with_reducible refine (segment_Join.calls k _ _ y196 t199 _ ?side1 ?side2 A8.out).mono ?_); (case side1 => repeat (first | exact (Kd.R_reads' HO198.out).2.2 | (with_reducible refine Kd.C_alloc ?_ _) | (with_reducible refine Kd.C_drewN ?_ _) | (with_reducible refine Kd.C_drew ?_))); (case side2 => exact (Kd.R_reads' HO198.out).2.1); rintro e w32 ⟨v200, rfl, ho0, hb⟩; refine ⟨_, rfl, ?_⟩; have n0_ := Aside0.mk (Kd.R_below (by (with_reducible repeat (first | apply Kd.R_alloc | apply Kd.R_drewN | apply Kd.R_drew)); exact HO194.out) hb); have n1_ := Aside0.mk (Kd.R_below (by (with_reducible repeat (first | apply Kd.R_alloc | apply Kd.R_drewN | apply Kd.R_drew)); exact HO198.out) hb); have n2_ := Aside0.mk (Kd.R_lower ho0 (below_size (by repeat (first | (with_reducible first | exact HB.out | apply bA | apply bN | apply bD | refine below_set ?_ GE187.out | refine below_set ?_ GE189.out) | exact HB.out)))); have n3_ := Aside0.mk (blk_below (g := gb187) (o := .cells #[.int .u8 a0_0, .int .u8 a0_1, .int .u8 a0_2, .int .u8 a0_3, .int .u8 a0_4, .string a0_5, .string a0_6, .string a0_7, .string a0_8, .string a0_9, .string a0_10, .string a0_11, .string a0_12, .string a0_13, .string a0_14] 25 (0, 0)) (by (with_reducible repeat (first | refine kN ?_ _ | refine kD ?_ | refine kA ?_ _)); exact BK187.out) hb); have n4_ := Aside0.mk (blk_below (g := gb189) (o := .cells #[.int .u8 a0_0, .int .u8 a0_1, .int .u8 a0_2, .int .u8 a0_3, .int .u8 a0_4, .string a0_7, .string a0_8, .string a0_5, .string a0_6, .string a0_9, .string (⟨#[]⟩ : ByteArray), .string (⟨#[65, 67, 75]⟩ : ByteArray), .string a0_12, .string a0_13, .string a0_14] 25 (0, 0)) (by (with_reducible repeat (first | refine kN ?_ _ | refine kD ?_ | refine kA ?_ _)); exact BK189.out) hb); have n5_ := Aside0.mk (below_step (by repeat (first | (with_reducible first | exact HB.out | apply bA | apply bN | apply bD | refine below_set ?_ GE187.out | refine below_set ?_ GE189.out) | exact HB.out)) hb); clear HO194; clear HO198; clear BK187; clear BK189; clear HB; have HO194 := n0_; have HO198 := n1_; have HO201 := n2_; have BK187 := n3_; have BK189 := n4_; have HB := n5_; clear n0_ n1_ n2_ n3_ n4_ n5_; (try clear hb); (try clear ho0)))
   go_ret2
   exact ⟨_, by first | rfl | (simp [errW_none, errW_some] <;> rfl) | (simp [*, errW_none, errW_some] <;> rfl), by (with_reducible repeat (first | apply Kd.R_alloc | apply Kd.R_drewN | apply Kd.R_drew)); exact HO201.out, by repeat (first | (with_reducible first | exact HB.out | apply bA | apply bN | apply bD | refine below_set ?_ GE187.out | refine below_set ?_ GE189.out) | exact HB.out)⟩
  ·rw [if_neg c6] at H
   have c6b0 : (t191 == 0) = false := beq_eq_false_iff_ne.mpr c6
   have c6b1 : (t191 != 0) = true := bne_iff_ne.mpr c6
   simp only [Option.some.injEq, Prod.mk.injEq] at H
   obtain ⟨rfl, rfl⟩ := H
   go_enter Tryd.func21, Tryd.ntmps21
   try go_wp2_with (first | ((with_reducible refine gate_dst (N := 2) rfl ?_); refine box_event ?hg (N := 2) ?hd (cs := #[.int .u8 a0_0, .int .u8 a0_1, .int .u8 a0_2, .int .u8 a0_3, .int .u8 a0_4, .string a0_5, .string a0_6, .string a0_7, .string a0_8, .string a0_9, .string a0_10, .string a0_11, .string a0_12, .string a0_13, .string a0_14]) (t := 25) ?hr ?_; (case hd => rfl); (case hg => rfl); (case hr => first | (go_simp; done) | (go_simp; rfl)); intro gb187 hg w33 hbox hb; have n0_ := Aside0.mk (below_step (by repeat (first | (with_reducible first | exact HB.out | apply bA | apply bN | apply bD) | exact HB.out)) hb); have n1_ := Aside0.mk (hbox); have n2_ := Aside0.mk ((by rw [hg]; exact (below_size (by repeat (first | (with_reducible first | exact HB.out | apply bA | apply bN | apply bD) | exact HB.out))) : w.heap.size ≤ gb187)); have n3_ := Aside0.mk ((by rw [hg]; exact (below_size (by repeat (first | (with_reducible first | exact HB.out | apply bA | apply bN | apply bD) | exact HB.out))) : w.heap.size ≤ gb187)); clear HB; have HB := n0_; have BK187 := n1_; have GW187 := n2_; have GE187 := n3_; clear n0_ n1_ n2_ n3_; clear hb hbox hg) | ((with_reducible refine gate_callee (f := 23) rfl ?_); refine goesL_ (some 10) rfl rfl Tryd.func23 (by kernel_rfl) rfl #[.string a1] rfl (by (try simp only [List.map_toArray, List.map_cons, List.map_nil]); first | done | rfl | (simp only [List.length_drop, List.length_take]; rfl)) ?_; (with_reducible refine (ack_Known.calls k a1 true _ A3.out (globc_below HGLOC.out (by repeat (first | (with_reducible first | exact HB.out | apply bA | apply bN | apply bD | refine below_set ?_ GE187.out) | exact HB.out)))).mono ?_); rintro e w' ⟨rfl, ⟨nd, rfl⟩⟩; refine ⟨_, rfl, ?_⟩; (try (rw [drewN_self w33]; generalize hq_ : World.drewN w33 _ = w33; have n0_ : Aside0 (w33.heap[gb187]? = some (.cells #[.int .u8 a0_0, .int .u8 a0_1, .int .u8 a0_2, .int .u8 a0_3, .int .u8 a0_4, .string a0_5, .string a0_6, .string a0_7, .string a0_8, .string a0_9, .string a0_10, .string a0_11, .string a0_12, .string a0_13, .string a0_14] 25 (0, 0))) := ⟨by rw [← hq_]; exact (by (with_reducible repeat (first | refine kN ?_ _ | refine kD ?_ | refine kA ?_ _)); exact BK187.out)⟩; have n1_ : Aside0 (Below w.heap.size w w33) := ⟨by rw [← hq_]; exact (by repeat (first | (with_reducible first | exact HB.out | apply bA | apply bN | apply bD | refine below_set ?_ GE187.out) | exact HB.out))⟩; clear BK187 HB hq_; have BK187 := n0_; have HB := n1_; clear n0_ n1_)); have hcz34_0 : w33.cell? ⟨gb187, 0, none⟩ = some (.int .u8 a0_0) := blk_cell BK187.out 0; have hcz34_1 : w33.cell? ⟨gb187, 1, none⟩ = some (.int .u8 a0_1) := blk_cell BK187.out 1; have hcz34_2 : w33.cell? ⟨gb187, 2, none⟩ = some (.int .u8 a0_2) := blk_cell BK187.out 2; have hcz34_3 : w33.cell? ⟨gb187, 3, none⟩ = some (.int .u8 a0_3) := blk_cell BK187.out 3; have hcz34_4 : w33.cell? ⟨gb187, 4, none⟩ = some (.int .u8 a0_4) := blk_cell BK187.out 4; have hcz34_5 : w33.cell? ⟨gb187, 5, none⟩ = some (.string a0_5) := blk_cell BK187.out 5; have hcz34_6 : w33.cell? ⟨gb187, 6, none⟩ = some (.string a0_6) := blk_cell BK187.out 6; have hcz34_7 : w33.cell? ⟨gb187, 7, none⟩ = some (.string a0_7) := blk_cell BK187.out 7; have hcz34_8 : w33.cell? ⟨gb187, 8, none⟩ = some (.string a0_8) := blk_cell BK187.out 8; have hcz34_9 : w33.cell? ⟨gb187, 9, none⟩ = some (.string a0_9) := blk_cell BK187.out 9; have hcz34_10 : w33.cell? ⟨gb187, 10, none⟩ = some (.string a0_10) := blk_cell BK187.out 10; have hcz34_11 : w33.cell? ⟨gb187, 11, none⟩ = some (.string a0_11) := blk_cell BK187.out 11; have hcz34_12 : w33.cell? ⟨gb187, 12, none⟩ = some (.string a0_12) := blk_cell BK187.out 12; have hcz34_13 : w33.cell? ⟨gb187, 13, none⟩ = some (.string a0_13) := blk_cell BK187.out 13; have hcz34_14 : w33.cell? ⟨gb187, 14, none⟩ = some (.string a0_14) := blk_cell BK187.out 14; have hfz34_0 := blk_frozen BK187.out 0; have hfz34_1 := blk_frozen BK187.out 1; have hfz34_2 := blk_frozen BK187.out 2; have hfz34_3 := blk_frozen BK187.out 3; have hfz34_4 := blk_frozen BK187.out 4; have hfz34_5 := blk_frozen BK187.out 5; have hfz34_6 := blk_frozen BK187.out 6; have hfz34_7 := blk_frozen BK187.out 7; have hfz34_8 := blk_frozen BK187.out 8; have hfz34_9 := blk_frozen BK187.out 9; have hfz34_10 := blk_frozen BK187.out 10; have hfz34_11 := blk_frozen BK187.out 11; have hfz34_12 := blk_frozen BK187.out 12; have hfz34_13 := blk_frozen BK187.out 13; have hfz34_14 := blk_frozen BK187.out 14) | ((with_reducible refine gate_dst (N := 6) rfl ?_); refine box_event ?hg (N := 6) ?hd (cs := #[.int .u8 0, .int .u8 0, .int .u8 0, .int .u8 0, .int .u8 0, .string (⟨#[]⟩ : ByteArray), .string (⟨#[]⟩ : ByteArray), .string (⟨#[]⟩ : ByteArray), .string (⟨#[]⟩ : ByteArray), .string (⟨#[]⟩ : ByteArray), .string (⟨#[]⟩ : ByteArray), .string (⟨#[]⟩ : ByteArray), .string (⟨#[]⟩ : ByteArray), .string (⟨#[]⟩ : ByteArray), .string (⟨#[]⟩ : ByteArray)]) (t := 25) ?hr ?_; (case hd => rfl); (case hg => rfl); (case hr => first | (go_simp; done) | (go_simp; rfl)); intro gb189 hg w35 hbox hb; have n0_ := Aside0.mk (blk_below (g := gb187) (o := .cells #[.int .u8 a0_0, .int .u8 a0_1, .int .u8 a0_2, .int .u8 a0_3, .int .u8 a0_4, .string a0_5, .string a0_6, .string a0_7, .string a0_8, .string a0_9, .string a0_10, .string a0_11, .string a0_12, .string a0_13, .string a0_14] 25 (0, 0)) (by (with_reducible repeat (first | refine kN ?_ _ | refine kD ?_ | refine kA ?_ _)); exact BK187.out) hb); have n1_ := Aside0.mk (below_step (by repeat (first | (with_reducible first | exact HB.out | apply bA | apply bN | apply bD | refine below_set ?_ GE187.out) | exact HB.out)) hb); have n2_ := Aside0.mk (hbox); have n3_ := Aside0.mk ((by rw [hg]; exact (below_size (by repeat (first | (with_reducible first | exact HB.out | apply bA | apply bN | apply bD | refine below_set ?_ GE187.out) | exact HB.out))) : w.heap.size ≤ gb189)); have n4_ := Aside0.mk ((by rw [hg]; exact (below_size (by repeat (first | (with_reducible first | exact HB.out | apply bA | apply bN | apply bD | refine below_set ?_ GE187.out) | exact HB.out))) : w.heap.size ≤ gb189)); have n5_ := Aside0.mk ((by rw [hg]; exact Nat.ne_of_lt (blk_lt (g := gb187) (o := .cells #[.int .u8 a0_0, .int .u8 a0_1, .int .u8 a0_2, .int .u8 a0_3, .int .u8 a0_4, .string a0_5, .string a0_6, .string a0_7, .string a0_8, .string a0_9, .string a0_10, .string a0_11, .string a0_12, .string a0_13, .string a0_14] 25 (0, 0)) (by (with_reducible repeat (first | refine kN ?_ _ | refine kD ?_ | refine kA ?_ _)); exact BK187.out)) : gb187 ≠ gb189)); have n6_ := Aside0.mk ((by rw [hg]; exact Nat.ne_of_gt (blk_lt (g := gb187) (o := .cells #[.int .u8 a0_0, .int .u8 a0_1, .int .u8 a0_2, .int .u8 a0_3, .int .u8 a0_4, .string a0_5, .string a0_6, .string a0_7, .string a0_8, .string a0_9, .string a0_10, .string a0_11, .string a0_12, .string a0_13, .string a0_14] 25 (0, 0)) (by (with_reducible repeat (first | refine kN ?_ _ | refine kD ?_ | refine kA ?_ _)); exact BK187.out)) : gb189 ≠ gb187)); clear BK187; clear HB; have BK187 := n0_; have HB := n1_; have BK189 := n2_; have GW189 := n3_; have GE189 := n4_; have NB187_189 := n5_; have NB189_187 := n6_; clear n0_ n1_ n2_ n3_ n4_ n5_ n6_; clear hb hbox hg; have hnb36 := NB189_187.out; have hnc36 := NB187_189.out; have hcz37_0 : w35.cell? ⟨gb189, 0, none⟩ = some (.int .u8 0) := blk_cell BK189.out 0; have hcz37_1 : w35.cell? ⟨gb189, 1, none⟩ = some (.int .u8 0) := blk_cell BK189.out 1; have hcz37_2 : w35.cell? ⟨gb189, 2, none⟩ = some (.int .u8 0) := blk_cell BK189.out 2; have hcz37_3 : w35.cell? ⟨gb189, 3, none⟩ = some (.int .u8 0) := blk_cell BK189.out 3; have hcz37_4 : w35.cell? ⟨gb189, 4, none⟩ = some (.int .u8 0) := blk_cell BK189.out 4; have hcz37_5 : w35.cell? ⟨gb189, 5, none⟩ = some (.string (⟨#[]⟩ : ByteArray)) := blk_cell BK189.out 5; have hcz37_6 : w35.cell? ⟨gb189, 6, none⟩ = some (.string (⟨#[]⟩ : ByteArray)) := blk_cell BK189.out 6; have hcz37_7 : w35.cell? ⟨gb189, 7, none⟩ = some (.string (⟨#[]⟩ : ByteArray)) := blk_cell BK189.out 7; have hcz37_8 : w35.cell? ⟨gb189, 8, none⟩ = some (.string (⟨#[]⟩ : ByteArray)) := blk_cell BK189.out 8; have hcz37_9 : w35.cell? ⟨gb189, 9, none⟩ = some (.string (⟨#[]⟩ : ByteArray)) := blk_cell BK189.out 9; have hcz37_10 : w35.cell? ⟨gb189, 10, none⟩ = some (.string (⟨#[]⟩ : ByteArray)) := blk_cell BK189.out 10; have hcz37_11 : w35.cell? ⟨gb189, 11, none⟩ = some (.string (⟨#[]⟩ : ByteArray)) := blk_cell BK189.out 11; have hcz37_12 : w35.cell? ⟨gb189, 12, none⟩ = some (.string (⟨#[]⟩ : ByteArray)) := blk_cell BK189.out 12; have hcz37_13 : w35.cell? ⟨gb189, 13, none⟩ = some (.string (⟨#[]⟩ : ByteArray)) := blk_cell BK189.out 13; have hcz37_14 : w35.cell? ⟨gb189, 14, none⟩ = some (.string (⟨#[]⟩ : ByteArray)) := blk_cell BK189.out 14; have hfz37_0 := blk_frozen BK189.out 0; have hfz37_1 := blk_frozen BK189.out 1; have hfz37_2 := blk_frozen BK189.out 2; have hfz37_3 := blk_frozen BK189.out 3; have hfz37_4 := blk_frozen BK189.out 4; have hfz37_5 := blk_frozen BK189.out 5; have hfz37_6 := blk_frozen BK189.out 6; have hfz37_7 := blk_frozen BK189.out 7; have hfz37_8 := blk_frozen BK189.out 8; have hfz37_9 := blk_frozen BK189.out 9; have hfz37_10 := blk_frozen BK189.out 10; have hfz37_11 := blk_frozen BK189.out 11; have hfz37_12 := blk_frozen BK189.out 12; have hfz37_13 := blk_frozen BK189.out 13; have hfz37_14 := blk_frozen BK189.out 14))
   have n0_ : Aside0 ((((((((((((((((w35.setCell ⟨gb189, 0, none⟩ (.int .u8 a0_0)).setCell ⟨gb189, 1, none⟩ (.int .u8 a0_1)).setCell ⟨gb189, 2, none⟩ (.int .u8 a0_2)).setCell ⟨gb189, 3, none⟩ (.int .u8 a0_3)).setCell ⟨gb189, 4, none⟩ (.int .u8 a0_4)).setCell ⟨gb189, 5, none⟩ (.string a0_5)).setCell ⟨gb189, 6, none⟩ (.string a0_6)).setCell ⟨gb189, 7, none⟩ (.string a0_7)).setCell ⟨gb189, 8, none⟩ (.string a0_8)).setCell ⟨gb189, 9, none⟩ (.string a0_9)).setCell ⟨gb189, 10, none⟩ (.string a0_10)).setCell ⟨gb189, 11, none⟩ (.string a0_11)).setCell ⟨gb189, 12, none⟩ (.string a0_12)).setCell ⟨gb189, 13, none⟩ (.string a0_13)).setCell ⟨gb189, 14, none⟩ (.string a0_14)).heap[gb187]? = some (.cells #[.int .u8 a0_0, .int .u8 a0_1, .int .u8 a0_2, .int .u8 a0_3, .int .u8 a0_4, .string a0_5, .string a0_6, .string a0_7, .string a0_8, .string a0_9, .string a0_10, .string a0_11, .string a0_12, .string a0_13, .string a0_14] 25 (0, 0))) := ⟨by (with_reducible repeat (first | refine kN ?_ _ | refine kD ?_ | refine kA ?_ _)); refine blk_far ?_ NB187_189.out _; (with_reducible repeat (first | refine kN ?_ _ | refine kD ?_ | refine kA ?_ _)); refine blk_far ?_ NB187_189.out _; (with_reducible repeat (first | refine kN ?_ _ | refine kD ?_ | refine kA ?_ _)); refine blk_far ?_ NB187_189.out _; (with_reducible repeat (first | refine kN ?_ _ | refine kD ?_ | refine kA ?_ _)); refine blk_far ?_ NB187_189.out _; (with_reducible repeat (first | refine kN ?_ _ | refine kD ?_ | refine kA ?_ _)); refine blk_far ?_ NB187_189.out _; (with_reducible repeat (first | refine kN ?_ _ | refine kD ?_ | refine kA ?_ _)); refine blk_far ?_ NB187_189.out _; (with_reducible repeat (first | refine kN ?_ _ | refine kD ?_ | refine kA ?_ _)); refine blk_far ?_ NB187_189.out _; (with_reducible repeat (first | refine kN ?_ _ | refine kD ?_ | refine kA ?_ _)); refine blk_far ?_ NB187_189.out _; (with_reducible repeat (first | refine kN ?_ _ | refine kD ?_ | refine kA ?_ _)); refine blk_far ?_ NB187_189.out _; (with_reducible repeat (first | refine kN ?_ _ | refine kD ?_ | refine kA ?_ _)); refine blk_far ?_ NB187_189.out _; (with_reducible repeat (first | refine kN ?_ _ | refine kD ?_ | refine kA ?_ _)); refine blk_far ?_ NB187_189.out _; (with_reducible repeat (first | refine kN ?_ _ | refine kD ?_ | refine kA ?_ _)); refine blk_far ?_ NB187_189.out _; (with_reducible repeat (first | refine kN ?_ _ | refine kD ?_ | refine kA ?_ _)); refine blk_far ?_ NB187_189.out _; (with_reducible repeat (first | refine kN ?_ _ | refine kD ?_ | refine kA ?_ _)); refine blk_far ?_ NB187_189.out _; (with_reducible repeat (first | refine kN ?_ _ | refine kD ?_ | refine kA ?_ _)); refine blk_far ?_ NB187_189.out _; (with_reducible repeat (first | refine kN ?_ _ | refine kD ?_ | refine kA ?_ _)); exact BK187.out⟩
   have n1_ : Aside0 ((((((((((((((((w35.setCell ⟨gb189, 0, none⟩ (.int .u8 a0_0)).setCell ⟨gb189, 1, none⟩ (.int .u8 a0_1)).setCell ⟨gb189, 2, none⟩ (.int .u8 a0_2)).setCell ⟨gb189, 3, none⟩ (.int .u8 a0_3)).setCell ⟨gb189, 4, none⟩ (.int .u8 a0_4)).setCell ⟨gb189, 5, none⟩ (.string a0_5)).setCell ⟨gb189, 6, none⟩ (.string a0_6)).setCell ⟨gb189, 7, none⟩ (.string a0_7)).setCell ⟨gb189, 8, none⟩ (.string a0_8)).setCell ⟨gb189, 9, none⟩ (.string a0_9)).setCell ⟨gb189, 10, none⟩ (.string a0_10)).setCell ⟨gb189, 11, none⟩ (.string a0_11)).setCell ⟨gb189, 12, none⟩ (.string a0_12)).setCell ⟨gb189, 13, none⟩ (.string a0_13)).setCell ⟨gb189, 14, none⟩ (.string a0_14)).heap[gb189]? = some (.cells #[.int .u8 a0_0, .int .u8 a0_1, .int .u8 a0_2, .int .u8 a0_3, .int .u8 a0_4, .string a0_5, .string a0_6, .string a0_7, .string a0_8, .string a0_9, .string a0_10, .string a0_11, .string a0_12, .string a0_13, .string a0_14] 25 (0, 0))) := ⟨by (with_reducible repeat (first | refine kN ?_ _ | refine kD ?_ | refine kA ?_ _)); refine blk_put (cs := #[.int .u8 a0_0, .int .u8 a0_1, .int .u8 a0_2, .int .u8 a0_3, .int .u8 a0_4, .string a0_5, .string a0_6, .string a0_7, .string a0_8, .string a0_9, .string a0_10, .string a0_11, .string a0_12, .string a0_13, .string (⟨#[]⟩ : ByteArray)]) ?_ 14 _ rfl; (with_reducible repeat (first | refine kN ?_ _ | refine kD ?_ | refine kA ?_ _)); refine blk_put (cs := #[.int .u8 a0_0, .int .u8 a0_1, .int .u8 a0_2, .int .u8 a0_3, .int .u8 a0_4, .string a0_5, .string a0_6, .string a0_7, .string a0_8, .string a0_9, .string a0_10, .string a0_11, .string a0_12, .string (⟨#[]⟩ : ByteArray), .string (⟨#[]⟩ : ByteArray)]) ?_ 13 _ rfl; (with_reducible repeat (first | refine kN ?_ _ | refine kD ?_ | refine kA ?_ _)); refine blk_put (cs := #[.int .u8 a0_0, .int .u8 a0_1, .int .u8 a0_2, .int .u8 a0_3, .int .u8 a0_4, .string a0_5, .string a0_6, .string a0_7, .string a0_8, .string a0_9, .string a0_10, .string a0_11, .string (⟨#[]⟩ : ByteArray), .string (⟨#[]⟩ : ByteArray), .string (⟨#[]⟩ : ByteArray)]) ?_ 12 _ rfl; (with_reducible repeat (first | refine kN ?_ _ | refine kD ?_ | refine kA ?_ _)); refine blk_put (cs := #[.int .u8 a0_0, .int .u8 a0_1, .int .u8 a0_2, .int .u8 a0_3, .int .u8 a0_4, .string a0_5, .string a0_6, .string a0_7, .string a0_8, .string a0_9, .string a0_10, .string (⟨#[]⟩ : ByteArray), .string (⟨#[]⟩ : ByteArray), .string (⟨#[]⟩ : ByteArray), .string (⟨#[]⟩ : ByteArray)]) ?_ 11 _ rfl; (with_reducible repeat (first | refine kN ?_ _ | refine kD ?_ | refine kA ?_ _)); refine blk_put (cs := #[.int .u8 a0_0, .int .u8 a0_1, .int .u8 a0_2, .int .u8 a0_3, .int .u8 a0_4, .string a0_5, .string a0_6, .string a0_7, .string a0_8, .string a0_9, .string (⟨#[]⟩ : ByteArray), .string (⟨#[]⟩ : ByteArray), .string (⟨#[]⟩ : ByteArray), .string (⟨#[]⟩ : ByteArray), .string (⟨#[]⟩ : ByteArray)]) ?_ 10 _ rfl; (with_reducible repeat (first | refine kN ?_ _ | refine kD ?_ | refine kA ?_ _)); refine blk_put (cs := #[.int .u8 a0_0, .int .u8 a0_1, .int .u8 a0_2, .int .u8 a0_3, .int .u8 a0_4, .string a0_5, .string a0_6, .string a0_7, .string a0_8, .string (⟨#[]⟩ : ByteArray), .string (⟨#[]⟩ : ByteArray), .string (⟨#[]⟩ : ByteArray), .string (⟨#[]⟩ : ByteArray), .string (⟨#[]⟩ : ByteArray), .string (⟨#[]⟩ : ByteArray)]) ?_ 9 _ rfl; (with_reducible repeat (first | refine kN ?_ _ | refine kD ?_ | refine kA ?_ _)); refine blk_put (cs := #[.int .u8 a0_0, .int .u8 a0_1, .int .u8 a0_2, .int .u8 a0_3, .int .u8 a0_4, .string a0_5, .string a0_6, .string a0_7, .string (⟨#[]⟩ : ByteArray), .string (⟨#[]⟩ : ByteArray), .string (⟨#[]⟩ : ByteArray), .string (⟨#[]⟩ : ByteArray), .string (⟨#[]⟩ : ByteArray), .string (⟨#[]⟩ : ByteArray), .string (⟨#[]⟩ : ByteArray)]) ?_ 8 _ rfl; (with_reducible repeat (first | refine kN ?_ _ | refine kD ?_ | refine kA ?_ _)); refine blk_put (cs := #[.int .u8 a0_0, .int .u8 a0_1, .int .u8 a0_2, .int .u8 a0_3, .int .u8 a0_4, .string a0_5, .string a0_6, .string (⟨#[]⟩ : ByteArray), .string (⟨#[]⟩ : ByteArray), .string (⟨#[]⟩ : ByteArray), .string (⟨#[]⟩ : ByteArray), .string (⟨#[]⟩ : ByteArray), .string (⟨#[]⟩ : ByteArray), .string (⟨#[]⟩ : ByteArray), .string (⟨#[]⟩ : ByteArray)]) ?_ 7 _ rfl; (with_reducible repeat (first | refine kN ?_ _ | refine kD ?_ | refine kA ?_ _)); refine blk_put (cs := #[.int .u8 a0_0, .int .u8 a0_1, .int .u8 a0_2, .int .u8 a0_3, .int .u8 a0_4, .string a0_5, .string (⟨#[]⟩ : ByteArray), .string (⟨#[]⟩ : ByteArray), .string (⟨#[]⟩ : ByteArray), .string (⟨#[]⟩ : ByteArray), .string (⟨#[]⟩ : ByteArray), .string (⟨#[]⟩ : ByteArray), .string (⟨#[]⟩ : ByteArray), .string (⟨#[]⟩ : ByteArray), .string (⟨#[]⟩ : ByteArray)]) ?_ 6 _ rfl; (with_reducible repeat (first | refine kN ?_ _ | refine kD ?_ | refine kA ?_ _)); refine blk_put (cs := #[.int .u8 a0_0, .int .u8 a0_1, .int .u8 a0_2, .int .u8 a0_3, .int .u8 a0_4, .string (⟨#[]⟩ : ByteArray), .string (⟨#[]⟩ : ByteArray), .string (⟨#[]⟩ : ByteArray), .string (⟨#[]⟩ : ByteArray), .string (⟨#[]⟩ : ByteArray), .string (⟨#[]⟩ : ByteArray), .string (⟨#[]⟩ : ByteArray), .string (⟨#[]⟩ : ByteArray), .string (⟨#[]⟩ : ByteArray), .string (⟨#[]⟩ : ByteArray)]) ?_ 5 _ rfl; (with_reducible repeat (first | refine kN ?_ _ | refine kD ?_ | refine kA ?_ _)); refine blk_put (cs := #[.int .u8 a0_0, .int .u8 a0_1, .int .u8 a0_2, .int .u8 a0_3, .int .u8 0, .string (⟨#[]⟩ : ByteArray), .string (⟨#[]⟩ : ByteArray), .string (⟨#[]⟩ : ByteArray), .string (⟨#[]⟩ : ByteArray), .string (⟨#[]⟩ : ByteArray), .string (⟨#[]⟩ : ByteArray), .string (⟨#[]⟩ : ByteArray), .string (⟨#[]⟩ : ByteArray), .string (⟨#[]⟩ : ByteArray), .string (⟨#[]⟩ : ByteArray)]) ?_ 4 _ rfl; (with_reducible repeat (first | refine kN ?_ _ | refine kD ?_ | refine kA ?_ _)); refine blk_put (cs := #[.int .u8 a0_0, .int .u8 a0_1, .int .u8 a0_2, .int .u8 0, .int .u8 0, .string (⟨#[]⟩ : ByteArray), .string (⟨#[]⟩ : ByteArray), .string (⟨#[]⟩ : ByteArray), .string (⟨#[]⟩ : ByteArray), .string (⟨#[]⟩ : ByteArray), .string (⟨#[]⟩ : ByteArray), .string (⟨#[]⟩ : ByteArray), .string (⟨#[]⟩ : ByteArray), .string (⟨#[]⟩ : ByteArray), .string (⟨#[]⟩ : ByteArray)]) ?_ 3 _ rfl; (with_reducible repeat (first | refine kN ?_ _ | refine kD ?_ | refine kA ?_ _)); refine blk_put (cs := #[.int .u8 a0_0, .int .u8 a0_1, .int .u8 0, .int .u8 0, .int .u8 0, .string (⟨#[]⟩ : ByteArray), .string (⟨#[]⟩ : ByteArray), .string (⟨#[]⟩ : ByteArray), .string (⟨#[]⟩ : ByteArray), .string (⟨#[]⟩ : ByteArray), .string (⟨#[]⟩ : ByteArray), .string (⟨#[]⟩ : ByteArray), .string (⟨#[]⟩ : ByteArray), .string (⟨#[]⟩ : ByteArray), .string (⟨#[]⟩ : ByteArray)]) ?_ 2 _ rfl; (with_reducible repeat (first | refine kN ?_ _ | refine kD ?_ | refine kA ?_ _)); refine blk_put (cs := #[.int .u8 a0_0, .int .u8 0, .int .u8 0, .int .u8 0, .int .u8 0, .string (⟨#[]⟩ : ByteArray), .string (⟨#[]⟩ : ByteArray), .string (⟨#[]⟩ : ByteArray), .string (⟨#[]⟩ : ByteArray), .string (⟨#[]⟩ : ByteArray), .string (⟨#[]⟩ : ByteArray), .string (⟨#[]⟩ : ByteArray), .string (⟨#[]⟩ : ByteArray), .string (⟨#[]⟩ : ByteArray), .string (⟨#[]⟩ : ByteArray)]) ?_ 1 _ rfl; (with_reducible repeat (first | refine kN ?_ _ | refine kD ?_ | refine kA ?_ _)); refine blk_put (cs := #[.int .u8 0, .int .u8 0, .int .u8 0, .int .u8 0, .int .u8 0, .string (⟨#[]⟩ : ByteArray), .string (⟨#[]⟩ : ByteArray), .string (⟨#[]⟩ : ByteArray), .string (⟨#[]⟩ : ByteArray), .string (⟨#[]⟩ : ByteArray), .string (⟨#[]⟩ : ByteArray), .string (⟨#[]⟩ : ByteArray), .string (⟨#[]⟩ : ByteArray), .string (⟨#[]⟩ : ByteArray), .string (⟨#[]⟩ : ByteArray)]) ?_ 0 _ rfl; (with_reducible repeat (first | refine kN ?_ _ | refine kD ?_ | refine kA ?_ _)); exact BK189.out⟩
   have n2_ : Aside0 (Below w.heap.size w (((((((((((((((w35.setCell ⟨gb189, 0, none⟩ (.int .u8 a0_0)).setCell ⟨gb189, 1, none⟩ (.int .u8 a0_1)).setCell ⟨gb189, 2, none⟩ (.int .u8 a0_2)).setCell ⟨gb189, 3, none⟩ (.int .u8 a0_3)).setCell ⟨gb189, 4, none⟩ (.int .u8 a0_4)).setCell ⟨gb189, 5, none⟩ (.string a0_5)).setCell ⟨gb189, 6, none⟩ (.string a0_6)).setCell ⟨gb189, 7, none⟩ (.string a0_7)).setCell ⟨gb189, 8, none⟩ (.string a0_8)).setCell ⟨gb189, 9, none⟩ (.string a0_9)).setCell ⟨gb189, 10, none⟩ (.string a0_10)).setCell ⟨gb189, 11, none⟩ (.string a0_11)).setCell ⟨gb189, 12, none⟩ (.string a0_12)).setCell ⟨gb189, 13, none⟩ (.string a0_13)).setCell ⟨gb189, 14, none⟩ (.string a0_14))) := ⟨by repeat (first | (with_reducible first | exact HB.out | apply bA | apply bN | apply bD | refine below_set ?_ GE187.out | refine below_set ?_ GE189.out) | exact HB.out)⟩
   (try clear BK187)
   (try clear BK189)
   (try clear HB)
   generalize (((((((((((((((w35.setCell ⟨gb189, 0, none⟩ (.int .u8 a0_0)).setCell ⟨gb189, 1, none⟩ (.int .u8 a0_1)).setCell ⟨gb189, 2, none⟩ (.int .u8 a0_2)).setCell ⟨gb189, 3, none⟩ (.int .u8 a0_3)).setCell ⟨gb189, 4, none⟩ (.int .u8 a0_4)).setCell ⟨gb189, 5, none⟩ (.string a0_5)).setCell ⟨gb189, 6, none⟩ (.string a0_6)).setCell ⟨gb189, 7, none⟩ (.string a0_7)).setCell ⟨gb189, 8, none⟩ (.string a0_8)).setCell ⟨gb189, 9, none⟩ (.string a0_9)).setCell ⟨gb189, 10, none⟩ (.string a0_10)).setCell ⟨gb189, 11, none⟩ (.string a0_11)).setCell ⟨gb189, 12, none⟩ (.string a0_12)).setCell ⟨gb189, 13, none⟩ (.string a0_13)).setCell ⟨gb189, 14, none⟩ (.string a0_14)) = w38 at n0_ n1_ n2_ ⊢
   have BK187 := n0_
   have BK189 := n1_
   have HB := n2_
   clear n0_ n1_ n2_
   have n0_ := Aside0.mk (blk_drew BK187.out)
   have n1_ := Aside0.mk (blk_drew BK189.out)
   have n2_ := Aside0.mk (below_drew1 HB.out)
   clear BK187
   clear BK189
   clear HB
   have BK187 := n0_
   have BK189 := n1_
   have HB := n2_
   clear n0_ n1_ n2_
   refine start_ (n := 8) (S := fun w' => w'.cell? ⟨gb187, 0, none⟩ = some (.int .u8 a0_0) ∧ w'.cell? ⟨gb187, 1, none⟩ = some (.int .u8 a0_1) ∧ w'.cell? ⟨gb187, 2, none⟩ = some (.int .u8 a0_2) ∧ w'.cell? ⟨gb187, 3, none⟩ = some (.int .u8 a0_3) ∧ w'.cell? ⟨gb187, 4, none⟩ = some (.int .u8 a0_4) ∧ w'.cell? ⟨gb187, 5, none⟩ = some (.string a0_5) ∧ w'.cell? ⟨gb187, 6, none⟩ = some (.string a0_6) ∧ w'.cell? ⟨gb187, 7, none⟩ = some (.string a0_7) ∧ w'.cell? ⟨gb187, 8, none⟩ = some (.string a0_8) ∧ w'.cell? ⟨gb187, 9, none⟩ = some (.string a0_9) ∧ w'.cell? ⟨gb187, 10, none⟩ = some (.string a0_10) ∧ w'.cell? ⟨gb187, 11, none⟩ = some (.string a0_11) ∧ w'.cell? ⟨gb187, 12, none⟩ = some (.string a0_12) ∧ w'.cell? ⟨gb187, 13, none⟩ = some (.string a0_13) ∧ w'.cell? ⟨gb187, 14, none⟩ = some (.string a0_14)) (ds := []) #[false, false, false, false, false, false, false, false] (by kernel_rfl) rfl rfl ⟨blk_cell BK187.out 0, blk_cell BK187.out 1, blk_cell BK187.out 2, blk_cell BK187.out 3, blk_cell BK187.out 4, blk_cell BK187.out 5, blk_cell BK187.out 6, blk_cell BK187.out 7, blk_cell BK187.out 8, blk_cell BK187.out 9, blk_cell BK187.out 10, blk_cell BK187.out 11, blk_cell BK187.out 12, blk_cell BK187.out 13, blk_cell BK187.out 14⟩ (fun hHeld => ?_); refine with_tabW ack_Build.tab4 ack_Build.bits4 (fun HT_ HW_ => ?_)
   generalize w38.drew = w39 at BK187 BK189 HB hHeld ⊢
   refine pure_ (i := 0) (N := some 13) (v := ?_) (a' := ?_) #[true, false, false, false, false, false, false, false] rfl rfl (any_of HT_.out (by kernel_rfl)) (fun _ _ _ h => h) (Or.inl ⟨by rfl, ?_⟩) ?_ ?_
   rotate_left
   ·intro w'
    go_simp
    with_reducible rfl
   rotate_left
   ·simp only [Act.put, sA_, s0_, s1_, i64_w, i32_w]
    rfl
   refine pure_ (i := 2) (N := some 15) (v := ?_) (a' := ?_) #[true, false, true, false, false, false, false, false] rfl rfl (any_of HT_.out (by kernel_rfl)) (fun _ _ _ h => h) (Or.inl ⟨by rfl, ?_⟩) ?_ ?_
   rotate_left
   ·intro w'
    go_simp
    with_reducible rfl
   rotate_left
   ·simp only [Act.put, sA_, s0_, s1_, i64_w, i32_w]
    rfl
   refine take_ (i := 1) (N := some 14) (v := ?_) (a' := ?_) #[true, true, true, false, false, false, false, false] rfl rfl (take_ofW HT_.out HW_.out (by kernel_rfl)) (fun _ _ _ h => h) (Or.inl ⟨by rfl, ?_⟩) hHeld ?_ ?_
   rotate_left
   ·rintro w' ⟨s0, s1, s2, s3, s4, s5, s6, s7, s8, s9, s10, s11, s12, s13, s14⟩
    go_simp
    with_reducible rfl
   rotate_left
   ·simp only [Act.put, sA_, s0_, s1_, i64_w, i32_w]
    rfl
   refine pure_ (i := 4) (N := some 17) (v := ?_) (a' := ?_) #[true, true, true, false, true, false, false, false] rfl rfl (any_of HT_.out (by kernel_rfl)) (fun _ _ _ h => h) (Or.inl ⟨by rfl, ?_⟩) ?_ ?_
   rotate_left
   ·intro w'
    go_simp
    with_reducible rfl
   rotate_left
   ·simp only [Act.put, sA_, s0_, s1_, i64_w, i32_w]
    rfl
   refine take_ (i := 3) (N := some 16) (v := ?_) (a' := ?_) #[true, true, true, true, true, false, false, false] rfl rfl (take_ofW HT_.out HW_.out (by kernel_rfl)) (fun _ _ _ h => h) (Or.inl ⟨by rfl, ?_⟩) hHeld ?_ ?_
   rotate_left
   ·rintro w' ⟨s0, s1, s2, s3, s4, s5, s6, s7, s8, s9, s10, s11, s12, s13, s14⟩
    go_simp
    with_reducible rfl
   rotate_left
   ·simp only [Act.put, sA_, s0_, s1_, i64_w, i32_w]
    rfl
   refine one_ (i := 5) (N := none) #[true, true, true, true, true, true, false, false] rfl rfl (one_of HT_.out (by kernel_rfl)) (by decide) (fun K hK => ?_)
   have hs40 : w39.cell? ⟨gb189, 5, none⟩ = some (.string a0_5) := blk_cell BK189.out 5
   have hfs40 := blk_frozen BK189.out 5
   have hns40_0 := NB187_189.out
   have hms40_0 := NB189_187.out
   refine skip_ (w1 := ?_) (by rfl) rfl ?_ ?_
   rotate_left
   ·go_simp
    rfl
   refine hK.out _ _ ⟨((cF (p := ⟨gb189, _, none⟩) NB187_189.out _).trans (hHeld.1)), ((cF (p := ⟨gb189, _, none⟩) NB187_189.out _).trans (hHeld.2.1)), ((cF (p := ⟨gb189, _, none⟩) NB187_189.out _).trans (hHeld.2.2.1)), ((cF (p := ⟨gb189, _, none⟩) NB187_189.out _).trans (hHeld.2.2.2.1)), ((cF (p := ⟨gb189, _, none⟩) NB187_189.out _).trans (hHeld.2.2.2.2.1)), ((cF (p := ⟨gb189, _, none⟩) NB187_189.out _).trans (hHeld.2.2.2.2.2.1)), ((cF (p := ⟨gb189, _, none⟩) NB187_189.out _).trans (hHeld.2.2.2.2.2.2.1)), ((cF (p := ⟨gb189, _, none⟩) NB187_189.out _).trans (hHeld.2.2.2.2.2.2.2.1)), ((cF (p := ⟨gb189, _, none⟩) NB187_189.out _).trans (hHeld.2.2.2.2.2.2.2.2.1)), ((cF (p := ⟨gb189, _, none⟩) NB187_189.out _).trans (hHeld.2.2.2.2.2.2.2.2.2.1)), ((cF (p := ⟨gb189, _, none⟩) NB187_189.out _).trans (hHeld.2.2.2.2.2.2.2.2.2.2.1)), ((cF (p := ⟨gb189, _, none⟩) NB187_189.out _).trans (hHeld.2.2.2.2.2.2.2.2.2.2.2.1)), ((cF (p := ⟨gb189, _, none⟩) NB187_189.out _).trans (hHeld.2.2.2.2.2.2.2.2.2.2.2.2.1)), ((cF (p := ⟨gb189, _, none⟩) NB187_189.out _).trans (hHeld.2.2.2.2.2.2.2.2.2.2.2.2.2.1)), ((cF (p := ⟨gb189, _, none⟩) NB187_189.out _).trans (hHeld.2.2.2.2.2.2.2.2.2.2.2.2.2.2))⟩ (fun hHeld => ?_)
   clear hK K
   refine pure_ (i := 6) (N := some 18) (v := ?_) (a' := ?_) #[true, true, true, true, true, true, true, false] rfl rfl (any_of HT_.out (by kernel_rfl)) (fun _ _ _ h => h) (Or.inl ⟨by rfl, ?_⟩) ?_ ?_
   rotate_left
   ·intro w'
    go_simp
    with_reducible rfl
   rotate_left
   ·simp only [Act.put, sA_, s0_, s1_, i64_w, i32_w]
    rfl
   refine one_ (i := 7) (N := none) #[true, true, true, true, true, true, true, true] rfl rfl (one_of HT_.out (by kernel_rfl)) (by decide) (fun K hK => ?_)
   have hs41 : w39.cell? ⟨gb189, 7, none⟩ = some (.string a0_7) := blk_cell BK189.out 7
   have hfs41 := blk_frozen BK189.out 7
   have hns41_0 := NB187_189.out
   have hms41_0 := NB189_187.out
   refine skip_ (w1 := ?_) (by rfl) rfl ?_ ?_
   rotate_left
   ·go_simp
    rfl
   refine hK.out _ _ ⟨((cF (p := ⟨gb189, _, none⟩) NB187_189.out _).trans (hHeld.1)), ((cF (p := ⟨gb189, _, none⟩) NB187_189.out _).trans (hHeld.2.1)), ((cF (p := ⟨gb189, _, none⟩) NB187_189.out _).trans (hHeld.2.2.1)), ((cF (p := ⟨gb189, _, none⟩) NB187_189.out _).trans (hHeld.2.2.2.1)), ((cF (p := ⟨gb189, _, none⟩) NB187_189.out _).trans (hHeld.2.2.2.2.1)), ((cF (p := ⟨gb189, _, none⟩) NB187_189.out _).trans (hHeld.2.2.2.2.2.1)), ((cF (p := ⟨gb189, _, none⟩) NB187_189.out _).trans (hHeld.2.2.2.2.2.2.1)), ((cF (p := ⟨gb189, _, none⟩) NB187_189.out _).trans (hHeld.2.2.2.2.2.2.2.1)), ((cF (p := ⟨gb189, _, none⟩) NB187_189.out _).trans (hHeld.2.2.2.2.2.2.2.2.1)), ((cF (p := ⟨gb189, _, none⟩) NB187_189.out _).trans (hHeld.2.2.2.2.2.2.2.2.2.1)), ((cF (p := ⟨gb189, _, none⟩) NB187_189.out _).trans (hHeld.2.2.2.2.2.2.2.2.2.2.1)), ((cF (p := ⟨gb189, _, none⟩) NB187_189.out _).trans (hHeld.2.2.2.2.2.2.2.2.2.2.2.1)), ((cF (p := ⟨gb189, _, none⟩) NB187_189.out _).trans (hHeld.2.2.2.2.2.2.2.2.2.2.2.2.1)), ((cF (p := ⟨gb189, _, none⟩) NB187_189.out _).trans (hHeld.2.2.2.2.2.2.2.2.2.2.2.2.2.1)), ((cF (p := ⟨gb189, _, none⟩) NB187_189.out _).trans (hHeld.2.2.2.2.2.2.2.2.2.2.2.2.2.2))⟩ (fun hHeld => ?_)
   clear hK K
   refine done_ (done_of HT_.out (by kernel_rfl)) ?_
   try go_wp2
   have n0_ : Aside0 (((w39.setCell ⟨gb189, 5, none⟩ (.string a0_7)).setCell ⟨gb189, 7, none⟩ (.string a0_5)).heap[gb187]? = some (.cells #[.int .u8 a0_0, .int .u8 a0_1, .int .u8 a0_2, .int .u8 a0_3, .int .u8 a0_4, .string a0_5, .string a0_6, .string a0_7, .string a0_8, .string a0_9, .string a0_10, .string a0_11, .string a0_12, .string a0_13, .string a0_14] 25 (0, 0))) := ⟨by (with_reducible repeat (first | refine kN ?_ _ | refine kD ?_ | refine kA ?_ _)); refine blk_far ?_ NB187_189.out _; (with_reducible repeat (first | refine kN ?_ _ | refine kD ?_ | refine kA ?_ _)); refine blk_far ?_ NB187_189.out _; (with_reducible repeat (first | refine kN ?_ _ | refine kD ?_ | refine kA ?_ _)); exact BK187.out⟩
   have n1_ : Aside0 (((w39.setCell ⟨gb189, 5, none⟩ (.string a0_7)).setCell ⟨gb189, 7, none⟩ (.string a0_5)).heap[gb189]? = some (.cells #[.int .u8 a0_0, .int .u8 a0_1, .int .u8 a0_2, .int .u8 a0_3, .int .u8 a0_4, .string a0_7, .string a0_6, .string a0_5, .string a0_8, .string a0_9, .string a0_10, .string a0_11, .string a0_12, .string a0_13, .string a0_14] 25 (0, 0))) := ⟨by (with_reducible repeat (first | refine kN ?_ _ | refine kD ?_ | refine kA ?_ _)); refine blk_put (cs := #[.int .u8 a0_0, .int .u8 a0_1, .int .u8 a0_2, .int .u8 a0_3, .int .u8 a0_4, .string a0_7, .string a0_6, .string a0_7, .string a0_8, .string a0_9, .string a0_10, .string a0_11, .string a0_12, .string a0_13, .string a0_14]) ?_ 7 _ rfl; (with_reducible repeat (first | refine kN ?_ _ | refine kD ?_ | refine kA ?_ _)); refine blk_put (cs := #[.int .u8 a0_0, .int .u8 a0_1, .int .u8 a0_2, .int .u8 a0_3, .int .u8 a0_4, .string a0_5, .string a0_6, .string a0_7, .string a0_8, .string a0_9, .string a0_10, .string a0_11, .string a0_12, .string a0_13, .string a0_14]) ?_ 5 _ rfl; (with_reducible repeat (first | refine kN ?_ _ | refine kD ?_ | refine kA ?_ _)); exact BK189.out⟩
   have n2_ : Aside0 (Below w.heap.size w ((w39.setCell ⟨gb189, 5, none⟩ (.string a0_7)).setCell ⟨gb189, 7, none⟩ (.string a0_5))) := ⟨by repeat (first | (with_reducible first | exact HB.out | apply bA | apply bN | apply bD | refine below_set ?_ GE187.out | refine below_set ?_ GE189.out) | exact HB.out)⟩
   (try clear BK187)
   (try clear BK189)
   (try clear HB)
   generalize ((w39.setCell ⟨gb189, 5, none⟩ (.string a0_7)).setCell ⟨gb189, 7, none⟩ (.string a0_5)) = w42 at n0_ n1_ n2_ ⊢
   have BK187 := n0_
   have BK189 := n1_
   have HB := n2_
   clear n0_ n1_ n2_
   have n0_ := Aside0.mk (blk_drew BK187.out)
   have n1_ := Aside0.mk (blk_drew BK189.out)
   have n2_ := Aside0.mk (below_drew1 HB.out)
   clear BK187
   clear BK189
   clear HB
   have BK187 := n0_
   have BK189 := n1_
   have HB := n2_
   clear n0_ n1_ n2_
   refine start_ (n := 8) (S := fun w' => w'.cell? ⟨gb187, 0, none⟩ = some (.int .u8 a0_0) ∧ w'.cell? ⟨gb187, 1, none⟩ = some (.int .u8 a0_1) ∧ w'.cell? ⟨gb187, 2, none⟩ = some (.int .u8 a0_2) ∧ w'.cell? ⟨gb187, 3, none⟩ = some (.int .u8 a0_3) ∧ w'.cell? ⟨gb187, 4, none⟩ = some (.int .u8 a0_4) ∧ w'.cell? ⟨gb187, 5, none⟩ = some (.string a0_5) ∧ w'.cell? ⟨gb187, 6, none⟩ = some (.string a0_6) ∧ w'.cell? ⟨gb187, 7, none⟩ = some (.string a0_7) ∧ w'.cell? ⟨gb187, 8, none⟩ = some (.string a0_8) ∧ w'.cell? ⟨gb187, 9, none⟩ = some (.string a0_9) ∧ w'.cell? ⟨gb187, 10, none⟩ = some (.string a0_10) ∧ w'.cell? ⟨gb187, 11, none⟩ = some (.string a0_11) ∧ w'.cell? ⟨gb187, 12, none⟩ = some (.string a0_12) ∧ w'.cell? ⟨gb187, 13, none⟩ = some (.string a0_13) ∧ w'.cell? ⟨gb187, 14, none⟩ = some (.string a0_14)) (ds := []) #[false, false, false, false, false, false, false, false] (by kernel_rfl) rfl rfl ⟨blk_cell BK187.out 0, blk_cell BK187.out 1, blk_cell BK187.out 2, blk_cell BK187.out 3, blk_cell BK187.out 4, blk_cell BK187.out 5, blk_cell BK187.out 6, blk_cell BK187.out 7, blk_cell BK187.out 8, blk_cell BK187.out 9, blk_cell BK187.out 10, blk_cell BK187.out 11, blk_cell BK187.out 12, blk_cell BK187.out 13, blk_cell BK187.out 14⟩ (fun hHeld => ?_); refine with_tabW ack_Build.tab5 ack_Build.bits5 (fun HT_ HW_ => ?_)
   generalize w42.drew = w43 at BK187 BK189 HB hHeld ⊢
   refine pure_ (i := 0) (N := some 19) (v := ?_) (a' := ?_) #[true, false, false, false, false, false, false, false] rfl rfl (any_of HT_.out (by kernel_rfl)) (fun _ _ _ h => h) (Or.inl ⟨by rfl, ?_⟩) ?_ ?_
   rotate_left
   ·intro w'
    go_simp
    with_reducible rfl
   rotate_left
   ·simp only [Act.put, sA_, s0_, s1_, i64_w, i32_w]
    rfl
   refine pure_ (i := 2) (N := some 21) (v := ?_) (a' := ?_) #[true, false, true, false, false, false, false, false] rfl rfl (any_of HT_.out (by kernel_rfl)) (fun _ _ _ h => h) (Or.inl ⟨by rfl, ?_⟩) ?_ ?_
   rotate_left
   ·intro w'
    go_simp
    with_reducible rfl
   rotate_left
   ·simp only [Act.put, sA_, s0_, s1_, i64_w, i32_w]
    rfl
   refine take_ (i := 1) (N := some 20) (v := ?_) (a' := ?_) #[true, true, true, false, false, false, false, false] rfl rfl (take_ofW HT_.out HW_.out (by kernel_rfl)) (fun _ _ _ h => h) (Or.inl ⟨by rfl, ?_⟩) hHeld ?_ ?_
   rotate_left
   ·rintro w' ⟨s0, s1, s2, s3, s4, s5, s6, s7, s8, s9, s10, s11, s12, s13, s14⟩
    go_simp
    with_reducible rfl
   rotate_left
   ·simp only [Act.put, sA_, s0_, s1_, i64_w, i32_w]
    rfl
   refine pure_ (i := 4) (N := some 23) (v := ?_) (a' := ?_) #[true, true, true, false, true, false, false, false] rfl rfl (any_of HT_.out (by kernel_rfl)) (fun _ _ _ h => h) (Or.inl ⟨by rfl, ?_⟩) ?_ ?_
   rotate_left
   ·intro w'
    go_simp
    with_reducible rfl
   rotate_left
   ·simp only [Act.put, sA_, s0_, s1_, i64_w, i32_w]
    rfl
   refine take_ (i := 3) (N := some 22) (v := ?_) (a' := ?_) #[true, true, true, true, true, false, false, false] rfl rfl (take_ofW HT_.out HW_.out (by kernel_rfl)) (fun _ _ _ h => h) (Or.inl ⟨by rfl, ?_⟩) hHeld ?_ ?_
   rotate_left
   ·rintro w' ⟨s0, s1, s2, s3, s4, s5, s6, s7, s8, s9, s10, s11, s12, s13, s14⟩
    go_simp
    with_reducible rfl
   rotate_left
   ·simp only [Act.put, sA_, s0_, s1_, i64_w, i32_w]
    rfl
   refine one_ (i := 5) (N := none) #[true, true, true, true, true, true, false, false] rfl rfl (one_of HT_.out (by kernel_rfl)) (by decide) (fun K hK => ?_)
   have hs44 : w43.cell? ⟨gb189, 6, none⟩ = some (.string a0_6) := blk_cell BK189.out 6
   have hfs44 := blk_frozen BK189.out 6
   have hns44_0 := NB187_189.out
   have hms44_0 := NB189_187.out
   refine skip_ (w1 := ?_) (by rfl) rfl ?_ ?_
   rotate_left
   ·go_simp
    rfl
   refine hK.out _ _ ⟨((cF (p := ⟨gb189, _, none⟩) NB187_189.out _).trans (hHeld.1)), ((cF (p := ⟨gb189, _, none⟩) NB187_189.out _).trans (hHeld.2.1)), ((cF (p := ⟨gb189, _, none⟩) NB187_189.out _).trans (hHeld.2.2.1)), ((cF (p := ⟨gb189, _, none⟩) NB187_189.out _).trans (hHeld.2.2.2.1)), ((cF (p := ⟨gb189, _, none⟩) NB187_189.out _).trans (hHeld.2.2.2.2.1)), ((cF (p := ⟨gb189, _, none⟩) NB187_189.out _).trans (hHeld.2.2.2.2.2.1)), ((cF (p := ⟨gb189, _, none⟩) NB187_189.out _).trans (hHeld.2.2.2.2.2.2.1)), ((cF (p := ⟨gb189, _, none⟩) NB187_189.out _).trans (hHeld.2.2.2.2.2.2.2.1)), ((cF (p := ⟨gb189, _, none⟩) NB187_189.out _).trans (hHeld.2.2.2.2.2.2.2.2.1)), ((cF (p := ⟨gb189, _, none⟩) NB187_189.out _).trans (hHeld.2.2.2.2.2.2.2.2.2.1)), ((cF (p := ⟨gb189, _, none⟩) NB187_189.out _).trans (hHeld.2.2.2.2.2.2.2.2.2.2.1)), ((cF (p := ⟨gb189, _, none⟩) NB187_189.out _).trans (hHeld.2.2.2.2.2.2.2.2.2.2.2.1)), ((cF (p := ⟨gb189, _, none⟩) NB187_189.out _).trans (hHeld.2.2.2.2.2.2.2.2.2.2.2.2.1)), ((cF (p := ⟨gb189, _, none⟩) NB187_189.out _).trans (hHeld.2.2.2.2.2.2.2.2.2.2.2.2.2.1)), ((cF (p := ⟨gb189, _, none⟩) NB187_189.out _).trans (hHeld.2.2.2.2.2.2.2.2.2.2.2.2.2.2))⟩ (fun hHeld => ?_)
   clear hK K
   refine pure_ (i := 6) (N := some 24) (v := ?_) (a' := ?_) #[true, true, true, true, true, true, true, false] rfl rfl (any_of HT_.out (by kernel_rfl)) (fun _ _ _ h => h) (Or.inl ⟨by rfl, ?_⟩) ?_ ?_
   rotate_left
   ·intro w'
    go_simp
    with_reducible rfl
   rotate_left
   ·simp only [Act.put, sA_, s0_, s1_, i64_w, i32_w]
    rfl
   refine one_ (i := 7) (N := none) #[true, true, true, true, true, true, true, true] rfl rfl (one_of HT_.out (by kernel_rfl)) (by decide) (fun K hK => ?_)
   have hs45 : w43.cell? ⟨gb189, 8, none⟩ = some (.string a0_8) := blk_cell BK189.out 8
   have hfs45 := blk_frozen BK189.out 8
   have hns45_0 := NB187_189.out
   have hms45_0 := NB189_187.out
   refine skip_ (w1 := ?_) (by rfl) rfl ?_ ?_
   rotate_left
   ·go_simp
    rfl
   refine hK.out _ _ ⟨((cF (p := ⟨gb189, _, none⟩) NB187_189.out _).trans (hHeld.1)), ((cF (p := ⟨gb189, _, none⟩) NB187_189.out _).trans (hHeld.2.1)), ((cF (p := ⟨gb189, _, none⟩) NB187_189.out _).trans (hHeld.2.2.1)), ((cF (p := ⟨gb189, _, none⟩) NB187_189.out _).trans (hHeld.2.2.2.1)), ((cF (p := ⟨gb189, _, none⟩) NB187_189.out _).trans (hHeld.2.2.2.2.1)), ((cF (p := ⟨gb189, _, none⟩) NB187_189.out _).trans (hHeld.2.2.2.2.2.1)), ((cF (p := ⟨gb189, _, none⟩) NB187_189.out _).trans (hHeld.2.2.2.2.2.2.1)), ((cF (p := ⟨gb189, _, none⟩) NB187_189.out _).trans (hHeld.2.2.2.2.2.2.2.1)), ((cF (p := ⟨gb189, _, none⟩) NB187_189.out _).trans (hHeld.2.2.2.2.2.2.2.2.1)), ((cF (p := ⟨gb189, _, none⟩) NB187_189.out _).trans (hHeld.2.2.2.2.2.2.2.2.2.1)), ((cF (p := ⟨gb189, _, none⟩) NB187_189.out _).trans (hHeld.2.2.2.2.2.2.2.2.2.2.1)), ((cF (p := ⟨gb189, _, none⟩) NB187_189.out _).trans (hHeld.2.2.2.2.2.2.2.2.2.2.2.1)), ((cF (p := ⟨gb189, _, none⟩) NB187_189.out _).trans (hHeld.2.2.2.2.2.2.2.2.2.2.2.2.1)), ((cF (p := ⟨gb189, _, none⟩) NB187_189.out _).trans (hHeld.2.2.2.2.2.2.2.2.2.2.2.2.2.1)), ((cF (p := ⟨gb189, _, none⟩) NB187_189.out _).trans (hHeld.2.2.2.2.2.2.2.2.2.2.2.2.2.2))⟩ (fun hHeld => ?_)
   clear hK K
   refine done_ (done_of HT_.out (by kernel_rfl)) ?_
   have hcz46_0 : w43.cell? ⟨gb189, 0, none⟩ = some (.int .u8 a0_0) := blk_cell BK189.out 0
   have hcz46_1 : w43.cell? ⟨gb189, 1, none⟩ = some (.int .u8 a0_1) := blk_cell BK189.out 1
   have hcz46_2 : w43.cell? ⟨gb189, 2, none⟩ = some (.int .u8 a0_2) := blk_cell BK189.out 2
   have hcz46_3 : w43.cell? ⟨gb189, 3, none⟩ = some (.int .u8 a0_3) := blk_cell BK189.out 3
   have hcz46_4 : w43.cell? ⟨gb189, 4, none⟩ = some (.int .u8 a0_4) := blk_cell BK189.out 4
   have hcz46_5 : w43.cell? ⟨gb189, 5, none⟩ = some (.string a0_7) := blk_cell BK189.out 5
   have hcz46_6 : w43.cell? ⟨gb189, 6, none⟩ = some (.string a0_6) := blk_cell BK189.out 6
   have hcz46_7 : w43.cell? ⟨gb189, 7, none⟩ = some (.string a0_5) := blk_cell BK189.out 7
   have hcz46_8 : w43.cell? ⟨gb189, 8, none⟩ = some (.string a0_8) := blk_cell BK189.out 8
   have hcz46_9 : w43.cell? ⟨gb189, 9, none⟩ = some (.string a0_9) := blk_cell BK189.out 9
   have hcz46_10 : w43.cell? ⟨gb189, 10, none⟩ = some (.string a0_10) := blk_cell BK189.out 10
   have hcz46_11 : w43.cell? ⟨gb189, 11, none⟩ = some (.string a0_11) := blk_cell BK189.out 11
   have hcz46_12 : w43.cell? ⟨gb189, 12, none⟩ = some (.string a0_12) := blk_cell BK189.out 12
   have hcz46_13 : w43.cell? ⟨gb189, 13, none⟩ = some (.string a0_13) := blk_cell BK189.out 13
   have hcz46_14 : w43.cell? ⟨gb189, 14, none⟩ = some (.string a0_14) := blk_cell BK189.out 14
   have hfz46_0 := blk_frozen BK189.out 0
   have hfz46_1 := blk_frozen BK189.out 1
   have hfz46_2 := blk_frozen BK189.out 2
   have hfz46_3 := blk_frozen BK189.out 3
   have hfz46_4 := blk_frozen BK189.out 4
   have hfz46_5 := blk_frozen BK189.out 5
   have hfz46_6 := blk_frozen BK189.out 6
   have hfz46_7 := blk_frozen BK189.out 7
   have hfz46_8 := blk_frozen BK189.out 8
   have hfz46_9 := blk_frozen BK189.out 9
   have hfz46_10 := blk_frozen BK189.out 10
   have hfz46_11 := blk_frozen BK189.out 11
   have hfz46_12 := blk_frozen BK189.out 12
   have hfz46_13 := blk_frozen BK189.out 13
   have hfz46_14 := blk_frozen BK189.out 14
   try go_wp2_with (first | ((with_reducible refine gate_callee (f := 11) rfl ?_); refine goesL_ (some 29) rfl rfl Tryd.func11 (by kernel_rfl) rfl #[.agg #[.int .u8 a0_0, .int .u8 a0_1, .int .u8 a0_2, .int .u8 a0_3, .int .u8 a0_4, .string a0_7, .string a0_8, .string a0_5, .string a0_6, .string a0_9, .string (⟨#[]⟩ : ByteArray), .string (⟨#[65, 67, 75]⟩ : ByteArray), .string a0_12, .string a0_13, .string a0_14]] rfl (by (try simp only [List.map_toArray, List.map_cons, List.map_nil]); first | done | rfl | (simp only [List.length_drop, List.length_take]; rfl)) ?_; (with_reducible refine (msh_Write.calls k a0_0 a0_1 a0_2 a0_3 a0_4 a0_7 a0_8 a0_5 a0_6 a0_9 (⟨#[]⟩ : ByteArray) (⟨#[65, 67, 75]⟩ : ByteArray) a0_12 a0_13 a0_14 t190 t191 _ A5.out).mono ?_); rintro e w47 ⟨rfl, hb⟩; refine ⟨_, rfl, ?_⟩; have n0_ := Aside0.mk (blk_below (g := gb187) (o := .cells #[.int .u8 a0_0, .int .u8 a0_1, .int .u8 a0_2, .int .u8 a0_3, .int .u8 a0_4, .string a0_5, .string a0_6, .string a0_7, .string a0_8, .string a0_9, .string a0_10, .string a0_11, .string a0_12, .string a0_13, .string a0_14] 25 (0, 0)) (by (with_reducible repeat (first | refine kN ?_ _ | refine kD ?_ | refine kA ?_ _)); refine blk_far ?_ NB187_189.out _; (with_reducible repeat (first | refine kN ?_ _ | refine kD ?_ | refine kA ?_ _)); refine blk_far ?_ NB187_189.out _; (with_reducible repeat (first | refine kN ?_ _ | refine kD ?_ | refine kA ?_ _)); refine blk_far ?_ NB187_189.out _; (with_reducible repeat (first | refine kN ?_ _ | refine kD ?_ | refine kA ?_ _)); refine blk_far ?_ NB187_189.out _; (with_reducible repeat (first | refine kN ?_ _ | refine kD ?_ | refine kA ?_ _)); exact BK187.out) hb); have n1_ := Aside0.mk (blk_below (g := gb189) (o := .cells #[.int .u8 a0_0, .int .u8 a0_1, .int .u8 a0_2, .int .u8 a0_3, .int .u8 a0_4, .string a0_7, .string a0_8, .string a0_5, .string a0_6, .string a0_9, .string (⟨#[]⟩ : ByteArray), .string (⟨#[65, 67, 75]⟩ : ByteArray), .string a0_12, .string a0_13, .string a0_14] 25 (0, 0)) (by (with_reducible repeat (first | refine kN ?_ _ | refine kD ?_ | refine kA ?_ _)); refine blk_put (cs := #[.int .u8 a0_0, .int .u8 a0_1, .int .u8 a0_2, .int .u8 a0_3, .int .u8 a0_4, .string a0_7, .string a0_8, .string a0_5, .string a0_6, .string a0_9, .string (⟨#[]⟩ : ByteArray), .string a0_11, .string a0_12, .string a0_13, .string a0_14]) ?_ 11 _ rfl; (with_reducible repeat (first | refine kN ?_ _ | refine kD ?_ | refine kA ?_ _)); refine blk_put (cs := #[.int .u8 a0_0, .int .u8 a0_1, .int .u8 a0_2, .int .u8 a0_3, .int .u8 a0_4, .string a0_7, .string a0_8, .string a0_5, .string a0_6, .string a0_9, .string a0_10, .string a0_11, .string a0_12, .string a0_13, .string a0_14]) ?_ 10 _ rfl; (with_reducible repeat (first | refine kN ?_ _ | refine kD ?_ | refine kA ?_ _)); refine blk_put (cs := #[.int .u8 a0_0, .int .u8 a0_1, .int .u8 a0_2, .int .u8 a0_3, .int .u8 a0_4, .string a0_7, .string a0_8, .string a0_5, .string a0_8, .string a0_9, .string a0_10, .string a0_11, .string a0_12, .string a0_13, .string a0_14]) ?_ 8 _ rfl; (with_reducible repeat (first | refine kN ?_ _ | refine kD ?_ | refine kA ?_ _)); refine blk_put (cs := #[.int .u8 a0_0, .int .u8 a0_1, .int .u8 a0_2, .int .u8 a0_3, .int .u8 a0_4, .string a0_7, .string a0_6, .string a0_5, .string a0_8, .string a0_9, .string a0_10, .string a0_11, .string a0_12, .string a0_13, .string a0_14]) ?_ 6 _ rfl; (with_reducible repeat (first | refine kN ?_ _ | refine kD ?_ | refine kA ?_ _)); exact BK189.out) hb); have n2_ := Aside0.mk (below_step (by repeat (first | (with_reducible first | exact HB.out | apply bA | apply bN | apply bD | refine below_set ?_ GE187.out | refine below_set ?_ GE189.out) | exact HB.out)) hb); clear BK187; clear BK189; clear HB; have BK187 := n0_; have BK189 := n1_; have HB := n2_; clear n0_ n1_ n2_; (try clear hb)))
   go_ret2
   exact ⟨_, by first | rfl | (simp [errW_none, errW_some] <;> rfl) | (simp [*, errW_none, errW_some] <;> rfl), by first | exact Kd.R_nil _ _ _ _ _ | exact Kd.N_nil _ _ _ _ _ | exact Kd.V_nil _ _ _ _ _ | exact Kd.Q_nil _ _ _ _ _ | exact Kd.S_nil _ _ _ _ _, by repeat (first | (with_reducible first | exact HB.out | apply bA | apply bN | apply bD | refine below_set ?_ GE187.out | refine below_set ?_ GE189.out) | exact HB.out)⟩
 ·replace c4 := Bool.eq_false_iff.mpr c4
  subst c4
  have H1 : (some (([] : List Int), 17)) = some (r1, r2) := by rw [if_neg (show ¬ (false = true) by decide)] at H; exact H
  clear H
  have H := H1
  clear H1
  simp only [Option.some.injEq, Prod.mk.injEq] at H
  obtain ⟨rfl, rfl⟩ := H
  go_enter Tryd.func21, Tryd.ntmps21
  go_wp2_with (first | ((with_reducible refine gate_dst (N := 2) rfl ?_); refine box_event ?hg (N := 2) ?hd (cs := #[.int .u8 a0_0, .int .u8 a0_1, .int .u8 a0_2, .int .u8 a0_3, .int .u8 a0_4, .string a0_5, .string a0_6, .string a0_7, .string a0_8, .string a0_9, .string a0_10, .string a0_11, .string a0_12, .string a0_13, .string a0_14]) (t := 25) ?hr ?_; (case hd => rfl); (case hg => rfl); (case hr => first | (go_simp; done) | (go_simp; rfl)); intro gb187 hg w48 hbox hb; have n0_ := Aside0.mk (below_step (by repeat (first | (with_reducible first | exact HB.out | apply bA | apply bN | apply bD) | exact HB.out)) hb); have n1_ := Aside0.mk (hbox); have n2_ := Aside0.mk ((by rw [hg]; exact (below_size (by repeat (first | (with_reducible first | exact HB.out | apply bA | apply bN | apply bD) | exact HB.out))) : w.heap.size ≤ gb187)); have n3_ := Aside0.mk ((by rw [hg]; exact (below_size (by repeat (first | (with_reducible first | exact HB.out | apply bA | apply bN | apply bD) | exact HB.out))) : w.heap.size ≤ gb187)); clear HB; have HB := n0_; have BK187 := n1_; have GW187 := n2_; have GE187 := n3_; clear n0_ n1_ n2_ n3_; clear hb hbox hg) | ((with_reducible refine gate_callee (f := 23) rfl ?_); refine goesL_ (some 10) rfl rfl Tryd.func23 (by kernel_rfl) rfl #[.string a1] rfl (by (try simp only [List.map_toArray, List.map_cons, List.map_nil]); first | done | rfl | (simp only [List.length_drop, List.length_take]; rfl)) ?_; (with_reducible refine (ack_Known.calls k a1 false _ A3.out (globc_below HGLOC.out (by repeat (first | (with_reducible first | exact HB.out | apply bA | apply bN | apply bD | refine below_set ?_ GE187.out | refine below_set ?_ GE189.out) | exact HB.out)))).mono ?_); rintro e w' ⟨rfl, ⟨nd, rfl⟩⟩; refine ⟨_, rfl, ?_⟩))
  go_ret2
  exact ⟨_, by first | rfl | (simp [errW_none, errW_some] <;> rfl) | (simp [*, errW_none, errW_some] <;> rfl), by first | exact Kd.R_nil _ _ _ _ _ | exact Kd.N_nil _ _ _ _ _ | exact Kd.V_nil _ _ _ _ _ | exact Kd.Q_nil _ _ _ _ _ | exact Kd.S_nil _ _ _ _ _, by repeat (first | (with_reducible first | exact HB.out | apply bA | apply bN | apply bD | refine below_set ?_ GE187.out) | exact HB.out)⟩

end Go.Proofs.YtcjcaojgminjpabDoor.PB
