/- What the law MshCuts walks through: a walk; the values of its calls are its premises. -/
import Derived.Test.YteaehlkpghpnkaaDoorPHx2
import Derived.Test.YteaehlkpghpnkaaDoorPHx5
import Derived.Test.YteaehlkpghpnkaaDoorPHx7
import Derived.Test.YteaehlkpghpnkaaDoorPHx9
import Derived.Test.YteaehlkpghpnkaaDoorGlob
import Derived.Test.YteaehlkpghpnkaaDoorStr
import Derived.WalkKit
import Derived.BigCall
import Derived.RangeFuncBox
namespace Go.Proofs.YteaehlkpghpnkaaDoor
open Go Go.RowKit Go.Proofs.YteaehlkpghpnkaaDoor.PH Go.Proofs.YteaehlkpghpnkaaDoorW.PrintWords Go.Proofs.YteaehlkpghpnkaaDoorW.PrintLast Go.Proofs.YteaehlkpghpnkaaDoorW.PrintMore
set_option linter.unusedVariables false
/-- Where a segment is cut. -/
def cutAt (cut : Int) (s : ByteArray) : Nat := 9 + (Int.tmod (IntKind.u64.wrap cut) ((s.size : Int) - 8)).toNat
/-- What is told of one text: it is a beginning of the head's, and empty behind one that is not whole. -/
def OneCut (X Y : List ByteArray) (i : Nat) : Prop := (X.getD i ByteArray.empty).size ≤ (Y.getD i ByteArray.empty).size ∧ (Y.getD i ByteArray.empty).extract 0 (X.getD i ByteArray.empty).size = X.getD i ByteArray.empty ∧ ((∃ m, m < i ∧ X.getD m ByteArray.empty ≠ Y.getD m ByteArray.empty) → (X.getD i ByteArray.empty) = ByteArray.empty)
theorem text_eq {a b : ByteArray} (h : a.data.toList = b.data.toList) : a = b := by
  cases a
  cases b
  congr 1
  exact Array.ext' h
theorem wrap_sum (q : Nat) (h : q ≤ 3000000) : wrap64 (9 + (q : Int)) = ((9 + q : Nat) : Int) := by
  have e : (9 + (q : Int)) = ((9 + q : Nat) : Int) := by omega
  rw [e]
  exact wrap_fit (by omega) (by omega)
theorem u64_fit {x : Int} (h0 : 0 ≤ x) (h1 : x ≤ 9223372036854775807) : IntKind.u64.wrap x = x := by
  rw [IntKind.wrap_u64]
  omega
theorem u64_pos (x : Int) : 0 ≤ IntKind.u64.wrap x := by
  rw [IntKind.wrap_u64]
  omega
/-- The numbers of the cut. -/
theorem cut_nums (cut : Int) (s : ByteArray) (h9 : 9 ≤ s.size) (hs : s.size ≤ 3000000) : ∃ q : Nat, Int.tmod (IntKind.u64.wrap cut) ((s.size : Int) - 8) = (q : Int) ∧ cutAt cut s = 9 + q ∧ (q : Int) < (s.size : Int) - 8 ∧ IntKind.u64.wrap ((s.size : Int) - 8) = (s.size : Int) - 8 ∧ wrap64 ((s.size : Int) - 8) = (s.size : Int) - 8 ∧ IntKind.u64.wrap (q : Int) = (q : Int) ∧ wrap64 (q : Int) = (q : Int) ∧ wrap64 (9 + (q : Int)) = ((9 + q : Nat) : Int) ∧ IntKind.i64.wrap (q : Int) = (q : Int) ∧ ((s.size : Int) - 8 = 0) = False ∧ ((s.size : Int) - 8 == 0) = false ∧ (0 : Int) ≤ ((9 + q : Nat) : Int) ∧ ((9 + q : Nat) : Int) ≤ (s.size : Int) := by
  have h1 : (1 : Int) ≤ (s.size : Int) - 8 := by omega
  have h2 : (s.size : Int) - 8 ≤ 3000000 := by omega
  obtain ⟨q, hq⟩ := Int.eq_ofNat_of_zero_le (Int.tmod_nonneg ((s.size : Int) - 8) (u64_pos cut))
  have h3 : (q : Int) < (s.size : Int) - 8 := by rw [← hq]; exact Int.tmod_lt_of_pos _ (by omega)
  have h4 : q ≤ 3000000 := by omega
  have h5 : (q : Int) ≤ 3000000 := by omega
  refine ⟨q, hq, ?_, h3, u64_fit (by omega) (by omega), wrap_fit (by omega) (by omega), u64_fit (by omega) (by omega), wrap_fit (by omega) (by omega), wrap_sum q h4, ?_, eq_false (by omega), beq_eq_false_iff_ne.2 (by omega), by omega, by omega⟩
  · unfold cutAt
    rw [hq]
    rfl
  · rw [IntKind.wrap_i64]
    omega
set_option maxHeartbeats 16000000 in
set_option maxRecDepth 100000 in
theorem cuts_walk (k : Nat) (h0_0 h0_1 h0_2 h0_3 h0_4 : Int) (h0_5 h0_6 h0_7 h0_8 h0_9 h0_10 h0_11 h0_12 h0_13 h0_14 : ByteArray) (cut : Int) (w : World) (hG : GlobOK w) (hcut : -9223372036854775808 ≤ cut ∧ cut ≤ 9223372036854775807) (hal : lamplighterlaw09_alive.f k = some true) (g : Bool) (hgreat : lamplighterlaw09_great.f h0_0 h0_1 h0_2 h0_3 h0_4 h0_5 h0_6 h0_7 h0_8 h0_9 h0_10 h0_11 h0_12 h0_13 h0_14 = some g)
    (hP : g = false → ∃ (s : ByteArray) (e : Int), msh_Write.f k h0_0 h0_1 h0_2 h0_3 h0_4 h0_5 h0_6 h0_7 h0_8 h0_9 h0_10 h0_11 h0_12 h0_13 h0_14 = some (s, e) ∧ s.size ≤ 3000000 ∧ (e = 0 → 9 ≤ s.size → ∃ x0 x1 x2 x3 x4 x5 x6 x7 x8 x9 : ByteArray, msh_Read.f k (bytesOf (s.extract 0 (cutAt cut s))) = some (h0_0, h0_1, h0_2, h0_3, h0_4, x0, x1, x2, x3, x4, x5, x6, x7, x8, x9, 0) ∧ ∀ i, i < 10 → OneCut [x0, x1, x2, x3, x4, x5, x6, x7, x8, x9] [h0_5, h0_6, h0_7, h0_8, h0_9, h0_10, h0_11, h0_12, h0_13, h0_14] i)) :
    Calls Tryd.prog 3 #[.agg #[.int .u8 h0_0, .int .u8 h0_1, .int .u8 h0_2, .int .u8 h0_3, .int .u8 h0_4, .string h0_5, .string h0_6, .string h0_7, .string h0_8, .string h0_9, .string h0_10, .string h0_11, .string h0_12, .string h0_13, .string h0_14], .int .i64 cut] w fun e w' => e = .returned (.bool true) ∧ Below w.heap.size w w' := by
  have HG := Lib.hid hG
  have HPP := Lib.hid hP
  clear hG hP
  go_enter Tryd.func3, Tryd.ntmps3
  go_wp2_with fail
  have HB := Lib.hid ((Below.refl w.heap.size w).alloc (Nat.le_refl _) (.cells #[.int .u8 h0_0, .int .u8 h0_1, .int .u8 h0_2, .int .u8 h0_3, .int .u8 h0_4, .string h0_5, .string h0_6, .string h0_7, .string h0_8, .string h0_9, .string h0_10, .string h0_11, .string h0_12, .string h0_13, .string h0_14] 25))
  have HK := Lib.hid (heap_new w (.cells #[.int .u8 h0_0, .int .u8 h0_1, .int .u8 h0_2, .int .u8 h0_3, .int .u8 h0_4, .string h0_5, .string h0_6, .string h0_7, .string h0_8, .string h0_9, .string h0_10, .string h0_11, .string h0_12, .string h0_13, .string h0_14] 25))
  generalize w.alloc (.cells #[.int .u8 h0_0, .int .u8 h0_1, .int .u8 h0_2, .int .u8 h0_3, .int .u8 h0_4, .string h0_5, .string h0_6, .string h0_7, .string h0_8, .string h0_9, .string h0_10, .string h0_11, .string h0_12, .string h0_13, .string h0_14] 25) = w1 at HB HK ⊢
  have hble : w.heap.size ≤ w.heap.size := Nat.le_refl _
  generalize hgb : w.heap.size = gb at HK hble ⊢
  have HGB := Lib.hid hgb
  clear hgb
  refine (lamplighterlaw09_great.calls h0_0 h0_1 h0_2 h0_3 h0_4 h0_5 h0_6 h0_7 h0_8 h0_9 h0_10 h0_11 h0_12 h0_13 h0_14 g _ hgreat).mono ?_
  rintro e' w2 ⟨rfl, hb2⟩
  have HB2 := Lib.hid (below_step HB.out hb2)
  have HK2 := Lib.hid (blk_below HK.out hb2)
  clear HB HK hb2
  cases g with
  | true =>
    go_wp2_with fail
    refine (lamplighterlaw09_alive.calls k true _ hal (glob_below HG.out HB2.out)).mono ?_
    rintro e wz ⟨rfl, hbz⟩
    have HBZ := Lib.hid (below_step HB2.out hbz)
    clear hbz
    go_wp2_with fail
    go_ret
    exact ⟨rfl, HBZ.out⟩
  | false =>
    obtain ⟨s, e, hw, hss, hcond⟩ := HPP.out rfl
    have HC := Lib.hid hcond
    clear HPP hcond
    have e0 := cell_of_cells HK2.out 0
    have e1 := cell_of_cells HK2.out 1
    have e2 := cell_of_cells HK2.out 2
    have e3 := cell_of_cells HK2.out 3
    have e4 := cell_of_cells HK2.out 4
    have e5 := cell_of_cells HK2.out 5
    have e6 := cell_of_cells HK2.out 6
    have e7 := cell_of_cells HK2.out 7
    have e8 := cell_of_cells HK2.out 8
    have e9 := cell_of_cells HK2.out 9
    have e10 := cell_of_cells HK2.out 10
    have e11 := cell_of_cells HK2.out 11
    have e12 := cell_of_cells HK2.out 12
    have e13 := cell_of_cells HK2.out 13
    have e14 := cell_of_cells HK2.out 14
    simp only [List.getElem?_toArray, List.getElem?_cons_zero, List.getElem?_cons_succ] at e0 e1 e2 e3 e4 e5 e6 e7 e8 e9 e10 e11 e12 e13 e14
    go_wp2_with fail
    clear e0 e1 e2 e3 e4 e5 e6 e7 e8 e9 e10 e11 e12 e13 e14
    refine (msh_Write.calls k h0_0 h0_1 h0_2 h0_3 h0_4 h0_5 h0_6 h0_7 h0_8 h0_9 h0_10 h0_11 h0_12 h0_13 h0_14 s e _ hw).mono ?_
    rintro e' w3 ⟨rfl, hb3⟩
    have HB3 := Lib.hid (below_step HB2.out hb3)
    have HK3 := Lib.hid (blk_below HK2.out hb3)
    clear HB2 HK2 hb3 hw
    by_cases hz : e = 0
    · subst hz
      by_cases h9 : (s.size : Int) < 9
      · go_wp2_with fail
        refine (lamplighterlaw09_alive.calls k true _ hal (glob_below HG.out HB3.out)).mono ?_
        rintro e wz ⟨rfl, hbz⟩
        have HBZ := Lib.hid (below_step HB3.out hbz)
        clear hbz
        go_wp2_with fail
        go_ret
        exact ⟨rfl, HBZ.out⟩
      · have h9' : 9 ≤ s.size := by omega
        obtain ⟨x0, x1, x2, x3, x4, x5, x6, x7, x8, x9, hread, hone⟩ := HC.out rfl h9'
        have HRD := Lib.hid hread
        have HONE := Lib.hid hone
        clear hread hone HC
        obtain ⟨q, hq, hcq, hqn, f1, f2, f3, f4, f5, f5', f6, f7, f8, f9⟩ := cut_nums cut s h9' hss
        have HCQ := Lib.hid hcq
        clear hcq
        have hxs : (s.extract 0 (9 + q)).size ≤ 9223372036854775807 := by rw [ByteArray.size_extract]; omega
        obtain ⟨cv, wc, hcv, v0, hv0, hV, hbc⟩ := conv_str (P := Tryd.prog) Tryd.underlying9 Tryd.underlying34 Tryd.underlying5 (s.extract 0 (9 + q)) hxs (w := w3)
        injection hv0 with hv0
        subst hv0
        obtain ⟨Ao, co, eo⟩ := Kd.V_slice hV
        subst eo
        have HV := Lib.hid hV
        have HBC := Lib.hid (below_step HB3.out hbc)
        have HKC := Lib.hid (blk_below HK3.out hbc)
        have HR := Lib.hid (show msh_Read.f k (bytesOf (s.extract 0 (9 + q))) = some (h0_0, h0_1, h0_2, h0_3, h0_4, x0, x1, x2, x3, x4, x5, x6, x7, x8, x9, 0) from HCQ.out ▸ HRD.out)
        clear hV hbc HB3 HK3 HRD HCQ hxs
        go_wp2_with fail
        clear hcv hq hqn f1 f2 f3 f4 f5 f5' f6 f7 f8 f9
        refine (msh_Read.calls k Ao co (bytesOf (s.extract 0 (9 + q))) h0_0 h0_1 h0_2 h0_3 h0_4 x0 x1 x2 x3 x4 x5 x6 x7 x8 x9 0 _ (Kd.V_reads' HV.out).2.2 (Kd.V_reads' HV.out).2.1 HR.out).mono ?_
        rintro e wd ⟨rfl, hbd⟩
        have HBD := Lib.hid (below_step HBC.out hbd)
        have HKD := Lib.hid (blk_below HKC.out hbd)
        clear HV HR HBC HKC hbd
        go_wp2_with fail
        have HE := Lib.hid (HBD.out.alloc HBD.out.size (.cells #[.int .u8 h0_0, .int .u8 h0_1, .int .u8 h0_2, .int .u8 h0_3, .int .u8 h0_4, .string x0, .string x1, .string x2, .string x3, .string x4, .string x5, .string x6, .string x7, .string x8, .string x9] 25))
        have HKE := Lib.hid (heap_old (.cells #[.int .u8 h0_0, .int .u8 h0_1, .int .u8 h0_2, .int .u8 h0_3, .int .u8 h0_4, .string x0, .string x1, .string x2, .string x3, .string x4, .string x5, .string x6, .string x7, .string x8, .string x9] 25) HKD.out)
        have HGE := Lib.hid (heap_new wd (.cells #[.int .u8 h0_0, .int .u8 h0_1, .int .u8 h0_2, .int .u8 h0_3, .int .u8 h0_4, .string x0, .string x1, .string x2, .string x3, .string x4, .string x5, .string x6, .string x7, .string x8, .string x9] 25))
        have hne : gb ≠ wd.heap.size := by have := blk_lt HKD.out; omega
        have HNE := Lib.hid hne
        generalize wd.alloc (.cells #[.int .u8 h0_0, .int .u8 h0_1, .int .u8 h0_2, .int .u8 h0_3, .int .u8 h0_4, .string x0, .string x1, .string x2, .string x3, .string x4, .string x5, .string x6, .string x7, .string x8, .string x9] 25) = we at HE HKE HGE ⊢
        generalize wd.heap.size = gg at HGE HNE hne ⊢
        clear HBD HKD
        refine (lamplighterlaw09_alive.calls k true _ hal (glob_below HG.out HE.out)).mono ?_
        rintro e wf ⟨rfl, hbf⟩
        have HBF := Lib.hid (below_step HE.out hbf)
        have HKF := Lib.hid (blk_below HKE.out hbf)
        have HGF := Lib.hid (blk_below HGE.out hbf)
        clear HE HKE HGE hbf
        have e0 := cell_of_cells HKF.out 0
        have e1 := cell_of_cells HKF.out 1
        have e2 := cell_of_cells HKF.out 2
        have e3 := cell_of_cells HKF.out 3
        have e4 := cell_of_cells HKF.out 4
        have e5 := cell_of_cells HKF.out 5
        have e6 := cell_of_cells HKF.out 6
        have e7 := cell_of_cells HKF.out 7
        have e8 := cell_of_cells HKF.out 8
        have e9 := cell_of_cells HKF.out 9
        have e10 := cell_of_cells HKF.out 10
        have e11 := cell_of_cells HKF.out 11
        have e12 := cell_of_cells HKF.out 12
        have e13 := cell_of_cells HKF.out 13
        have e14 := cell_of_cells HKF.out 14
        simp only [List.getElem?_toArray, List.getElem?_cons_zero, List.getElem?_cons_succ] at e0 e1 e2 e3 e4 e5 e6 e7 e8 e9 e10 e11 e12 e13 e14
        have g0 := cell_of_cells HGF.out 0
        have g1 := cell_of_cells HGF.out 1
        have g2 := cell_of_cells HGF.out 2
        have g3 := cell_of_cells HGF.out 3
        have g4 := cell_of_cells HGF.out 4
        have g5 := cell_of_cells HGF.out 5
        have g6 := cell_of_cells HGF.out 6
        have g7 := cell_of_cells HGF.out 7
        have g8 := cell_of_cells HGF.out 8
        have g9 := cell_of_cells HGF.out 9
        have g10 := cell_of_cells HGF.out 10
        have g11 := cell_of_cells HGF.out 11
        have g12 := cell_of_cells HGF.out 12
        have g13 := cell_of_cells HGF.out 13
        have g14 := cell_of_cells HGF.out 14
        simp only [List.getElem?_toArray, List.getElem?_cons_zero, List.getElem?_cons_succ] at g0 g1 g2 g3 g4 g5 g6 g7 g8 g9 g10 g11 g12 g13 g14
        go_wp2_with fail
        clear e0 e1 e2 e3 e4 e5 e6 e7 e8 e9 e10 e11 e12 e13 e14 g0 g1 g2 g3 g4 g5 g6 g7 g8 g9 g10 g11 g12 g13 g14
        have HL := Lib.hid (HBF.out.alloc HBF.out.size (.cells #[.string x0, .string h0_5, .string x1, .string h0_6, .string x2, .string h0_7, .string x3, .string h0_8, .string x4, .string h0_9, .string x5, .string h0_10, .string x6, .string h0_11, .string x7, .string h0_12, .string x8, .string h0_13, .string x9, .string h0_14] 35))
        have HSL := Lib.hid (heap_new wf (.cells #[.string x0, .string h0_5, .string x1, .string h0_6, .string x2, .string h0_7, .string x3, .string h0_8, .string x4, .string h0_9, .string x5, .string h0_10, .string x6, .string h0_11, .string x7, .string h0_12, .string x8, .string h0_13, .string x9, .string h0_14] 35))
        generalize wf.alloc (.cells #[.string x0, .string h0_5, .string x1, .string h0_6, .string x2, .string h0_7, .string x3, .string h0_8, .string x4, .string h0_9, .string x5, .string h0_10, .string x6, .string h0_11, .string x7, .string h0_12, .string x8, .string h0_13, .string x9, .string h0_14] 35) = wl at HL HSL ⊢
        generalize wf.heap.size = gs at HSL ⊢
        clear HBF HKF HGF HNE hne
        go_loopw [10, 111] (fun v10 v111 wr => ∃ (i : Nat) (b : Bool), v10 = .bool b ∧ v111 = .int .i64 i ∧ i ≤ 10 ∧ Hid (Below wl.heap.size wl wr ∧ (b = true → ∃ m, m < i ∧ ([x0, x1, x2, x3, x4, x5, x6, x7, x8, x9] : List ByteArray).getD m ByteArray.empty ≠ ([h0_5, h0_6, h0_7, h0_8, h0_9, h0_10, h0_11, h0_12, h0_13, h0_14] : List ByteArray).getD m ByteArray.empty))) (fun _ v111 _ => 10 - (intOf v111).toNat)
        case atStart => exact ⟨0, false, rfl, rfl, by omega, Lib.hid ⟨Below.refl _ _, fun h => by simp at h⟩⟩
        case round =>
          obtain ⟨i, b, rfl, rfl, hi, hh⟩ := hrel
          by_cases hin : i < 10
          · obtain ⟨hbw, hb⟩ := hh.out
            have HBW := Lib.hid hbw
            have HBB := Lib.hid hb
            clear hh hb
            have hcs := (hbw.block gs (blk_lt HSL.out)).trans HSL.out
            obtain ⟨x, hx⟩ : ∃ x, x = ([x0, x1, x2, x3, x4, x5, x6, x7, x8, x9] : List ByteArray).getD i ByteArray.empty := ⟨_, rfl⟩
            obtain ⟨y, hy⟩ : ∃ y, y = ([h0_5, h0_6, h0_7, h0_8, h0_9, h0_10, h0_11, h0_12, h0_13, h0_14] : List ByteArray).getD i ByteArray.empty := ⟨_, rfl⟩
            obtain ⟨o1, o2, o3⟩ := HONE.out i hin
            rw [← hx, ← hy] at o1 o2
            rw [← hx] at o3
            have HX := Lib.hid hx
            have HY := Lib.hid hy
            have HO := Lib.hid o3
            have hc0 : wr.cell? ⟨gs, i * 2, none⟩ = some (.string x) := by
              have h := cell_of_cells hcs (i * 2)
              rw [hx]
              have hj : i = 0 ∨ i = 1 ∨ i = 2 ∨ i = 3 ∨ i = 4 ∨ i = 5 ∨ i = 6 ∨ i = 7 ∨ i = 8 ∨ i = 9 := by omega
              rcases hj with rfl | rfl | rfl | rfl | rfl | rfl | rfl | rfl | rfl | rfl <;> exact h
            have hc1 : wr.cell? ⟨gs, i * 2 + 1, none⟩ = some (.string y) := by
              have h := cell_of_cells hcs (i * 2 + 1)
              rw [hy]
              have hj : i = 0 ∨ i = 1 ∨ i = 2 ∨ i = 3 ∨ i = 4 ∨ i = 5 ∨ i = 6 ∨ i = 7 ∨ i = 8 ∨ i = 9 := by omega
              rcases hj with rfl | rfl | rfl | rfl | rfl | rfl | rfl | rfl | rfl | rfl <;> exact h
            clear hx hy o3 hbw hcs
            have i0 : (0 : Int) ≤ (i : Int) := by omega
            have i1 : (i : Int) < 10 := by omega
            go_wp2_with fail
            have HBN := Lib.hid (HBW.out.alloc HBW.out.size (.cells #[.string x, .string y] 35))
            have HN := Lib.hid (heap_new wr (.cells #[.string x, .string y] 35))
            generalize wr.alloc (.cells #[.string x, .string y] 35) = wx at HBN HN ⊢
            generalize wr.heap.size = gx at HN ⊢
            have p1 : ((y.size : Int) < (x.size : Int)) = False := eq_false (by omega)
            have p2 : (x.size : Int) ≤ (y.size : Int) := by omega
            have p3 : ((x.toList == x.toList)) = true := beq_self_eq_true _
            have p4 : ((x.toList != x.toList)) = false := by simp
            clear hc0 hc1 HBW
            cases b with
            | true =>
              obtain rfl : x = ByteArray.empty := HO.out (HBB.out rfl)
              refine start_ (n := 26) (S := fun w' => w'.heap[gx]? = some (.cells #[.string ByteArray.empty, .string y] 35 (0, 0))) (ds := []) #[false, false, false, false, false, false, false, false, false, false, false, false, false, false, false, false, false, false, false, false, false, false, false, false, false, false] (by kernel_rfl) rfl rfl (HN.out) (fun hHeld => ?_)
              refine pure_ (i := 0) (N := some 115) (v := ?_) (a' := ?_) #[true, false, false, false, false, false, false, false, false, false, false, false, false, false, false, false, false, false, false, false, false, false, false, false, false, false] rfl rfl (by kernel_rfl) (fun _ _ _ h => h) (Or.inl ⟨by rfl, ?_⟩) ?_ ?_
              rotate_left
              · intro w'
                go_simp
                with_reducible rfl
              rotate_left
              · simp only [Act.put, List.setIfInBounds_toArray, List.set_cons_zero, List.set_cons_succ]
                rfl
              refine take_ (i := 1) (N := some 116) (v := ?_) (a' := ?_) #[true, true, false, false, false, false, false, false, false, false, false, false, false, false, false, false, false, false, false, false, false, false, false, false, false, false] rfl rfl (by kernel_rfl) (fun _ _ _ h => h) (Or.inl ⟨by rfl, ?_⟩) hHeld ?_ ?_
              rotate_left
              · intro w' hs
                have e0 := cell_of_cells hs 0
                have e1 := cell_of_cells hs 1
                simp only [List.getElem?_toArray, List.getElem?_cons_zero, List.getElem?_cons_succ] at e0 e1
                go_simp
                with_reducible rfl
              rotate_left
              · simp only [Act.put, List.setIfInBounds_toArray, List.set_cons_zero, List.set_cons_succ]
                rfl
              refine pure_ (i := 2) (N := some 117) (v := ?_) (a' := ?_) #[true, true, true, false, false, false, false, false, false, false, false, false, false, false, false, false, false, false, false, false, false, false, false, false, false, false] rfl rfl (by kernel_rfl) (fun _ _ _ h => h) (Or.inl ⟨by rfl, ?_⟩) ?_ ?_
              rotate_left
              · intro w'
                go_simp
                with_reducible rfl
              rotate_left
              · simp only [Act.put, List.setIfInBounds_toArray, List.set_cons_zero, List.set_cons_succ]
                rfl
              refine pure_ (i := 3) (N := some 118) (v := ?_) (a' := ?_) #[true, true, true, true, false, false, false, false, false, false, false, false, false, false, false, false, false, false, false, false, false, false, false, false, false, false] rfl rfl (by kernel_rfl) (fun _ _ _ h => h) (Or.inl ⟨by rfl, ?_⟩) ?_ ?_
              rotate_left
              · intro w'
                go_simp
                with_reducible rfl
              rotate_left
              · simp only [Act.put, List.setIfInBounds_toArray, List.set_cons_zero, List.set_cons_succ]
                rfl
              refine take_ (i := 4) (N := some 119) (v := ?_) (a' := ?_) #[true, true, true, true, true, false, false, false, false, false, false, false, false, false, false, false, false, false, false, false, false, false, false, false, false, false] rfl rfl (by kernel_rfl) (fun _ _ _ h => h) (Or.inl ⟨by rfl, ?_⟩) hHeld ?_ ?_
              rotate_left
              · intro w' hs
                have e0 := cell_of_cells hs 0
                have e1 := cell_of_cells hs 1
                simp only [List.getElem?_toArray, List.getElem?_cons_zero, List.getElem?_cons_succ] at e0 e1
                go_simp
                with_reducible rfl
              rotate_left
              · simp only [Act.put, List.setIfInBounds_toArray, List.set_cons_zero, List.set_cons_succ]
                rfl
              refine pure_ (i := 5) (N := some 120) (v := ?_) (a' := ?_) #[true, true, true, true, true, true, false, false, false, false, false, false, false, false, false, false, false, false, false, false, false, false, false, false, false, false] rfl rfl (by kernel_rfl) (fun _ _ _ h => h) (Or.inl ⟨by rfl, ?_⟩) ?_ ?_
              rotate_left
              · intro w'
                go_simp
                with_reducible rfl
              rotate_left
              · simp only [Act.put, List.setIfInBounds_toArray, List.set_cons_zero, List.set_cons_succ]
                rfl
              refine pure_ (i := 6) (N := some 121) (v := ?_) (a' := ?_) #[true, true, true, true, true, true, true, false, false, false, false, false, false, false, false, false, false, false, false, false, false, false, false, false, false, false] rfl rfl (by kernel_rfl) (fun _ _ _ h => h) (Or.inl ⟨by rfl, ?_⟩) ?_ ?_
              rotate_left
              · intro w'
                go_simp
                with_reducible rfl
              rotate_left
              · simp only [Act.put, List.setIfInBounds_toArray, List.set_cons_zero, List.set_cons_succ]
                rfl
              refine pure_ (i := 7) (N := some 122) (v := ?_) (a' := ?_) #[true, true, true, true, true, true, true, true, false, false, false, false, false, false, false, false, false, false, false, false, false, false, false, false, false, false] rfl rfl (by kernel_rfl) (fun _ _ _ h => h) (Or.inl ⟨by rfl, ?_⟩) ?_ ?_
              rotate_left
              · intro w'
                go_simp
                with_reducible rfl
              rotate_left
              · simp only [Act.put, List.setIfInBounds_toArray, List.set_cons_zero, List.set_cons_succ]
                rfl
              refine pure_ (i := 8) (N := some 123) (v := ?_) (a' := ?_) #[true, true, true, true, true, true, true, true, true, false, false, false, false, false, false, false, false, false, false, false, false, false, false, false, false, false] rfl rfl (by kernel_rfl) (fun _ _ _ h => h) (Or.inl ⟨by rfl, ?_⟩) ?_ ?_
              rotate_left
              · intro w'
                go_simp
                with_reducible rfl
              rotate_left
              · simp only [Act.put, List.setIfInBounds_toArray, List.set_cons_zero, List.set_cons_succ]
                rfl
              refine take_ (i := 9) (N := some 124) (v := ?_) (a' := ?_) #[true, true, true, true, true, true, true, true, true, true, false, false, false, false, false, false, false, false, false, false, false, false, false, false, false, false] rfl rfl (by kernel_rfl) (fun _ _ _ h => h) (Or.inl ⟨by rfl, ?_⟩) hHeld ?_ ?_
              rotate_left
              · intro w' hs
                have e0 := cell_of_cells hs 0
                have e1 := cell_of_cells hs 1
                simp only [List.getElem?_toArray, List.getElem?_cons_zero, List.getElem?_cons_succ] at e0 e1
                go_simp
                with_reducible rfl
              rotate_left
              · simp only [Act.put, List.setIfInBounds_toArray, List.set_cons_zero, List.set_cons_succ]
                rfl
              refine pure_ (i := 10) (N := some 125) (v := ?_) (a' := ?_) #[true, true, true, true, true, true, true, true, true, true, true, false, false, false, false, false, false, false, false, false, false, false, false, false, false, false] rfl rfl (by kernel_rfl) (fun _ _ _ h => h) (Or.inl ⟨by rfl, ?_⟩) ?_ ?_
              rotate_left
              · intro w'
                go_simp
                with_reducible rfl
              rotate_left
              · simp only [Act.put, List.setIfInBounds_toArray, List.set_cons_zero, List.set_cons_succ]
                rfl
              refine take_ (i := 11) (N := some 126) (v := ?_) (a' := ?_) #[true, true, true, true, true, true, true, true, true, true, true, true, false, false, false, false, false, false, false, false, false, false, false, false, false, false] rfl rfl (by kernel_rfl) (fun _ _ _ h => h) (Or.inl ⟨by rfl, ?_⟩) hHeld ?_ ?_
              rotate_left
              · intro w' hs
                have e0 := cell_of_cells hs 0
                have e1 := cell_of_cells hs 1
                simp only [List.getElem?_toArray, List.getElem?_cons_zero, List.getElem?_cons_succ] at e0 e1
                go_simp
                with_reducible rfl
              rotate_left
              · simp only [Act.put, List.setIfInBounds_toArray, List.set_cons_zero, List.set_cons_succ]
                rfl
              refine pure_ (i := 12) (N := some 127) (v := ?_) (a' := ?_) #[true, true, true, true, true, true, true, true, true, true, true, true, true, false, false, false, false, false, false, false, false, false, false, false, false, false] rfl rfl (by kernel_rfl) (fun _ _ _ h => h) (Or.inl ⟨by rfl, ?_⟩) ?_ ?_
              rotate_left
              · intro w'
                go_simp
                with_reducible rfl
              rotate_left
              · simp only [Act.put, List.setIfInBounds_toArray, List.set_cons_zero, List.set_cons_succ]
                rfl
              refine take_ (i := 13) (N := some 128) (v := ?_) (a' := ?_) #[true, true, true, true, true, true, true, true, true, true, true, true, true, true, false, false, false, false, false, false, false, false, false, false, false, false] rfl rfl (by kernel_rfl) (fun _ _ _ h => h) (Or.inl ⟨by rfl, ?_⟩) hHeld ?_ ?_
              rotate_left
              · intro w' hs
                have e0 := cell_of_cells hs 0
                have e1 := cell_of_cells hs 1
                simp only [List.getElem?_toArray, List.getElem?_cons_zero, List.getElem?_cons_succ] at e0 e1
                go_simp
                with_reducible rfl
              rotate_left
              · simp only [Act.put, List.setIfInBounds_toArray, List.set_cons_zero, List.set_cons_succ]
                rfl
              refine pure_ (i := 14) (N := some 129) (v := ?_) (a' := ?_) #[true, true, true, true, true, true, true, true, true, true, true, true, true, true, true, false, false, false, false, false, false, false, false, false, false, false] rfl rfl (by kernel_rfl) (fun _ _ _ h => h) (Or.inl ⟨by rfl, ?_⟩) ?_ ?_
              rotate_left
              · intro w'
                go_simp
                with_reducible rfl
              rotate_left
              · simp only [Act.put, List.setIfInBounds_toArray, List.set_cons_zero, List.set_cons_succ]
                rfl
              refine pure_ (i := 15) (N := some 130) (v := ?_) (a' := ?_) #[true, true, true, true, true, true, true, true, true, true, true, true, true, true, true, true, false, false, false, false, false, false, false, false, false, false] rfl rfl (by kernel_rfl) (fun _ _ _ h => h) (Or.inl ⟨by rfl, ?_⟩) ?_ ?_
              rotate_left
              · intro w'
                go_simp
                with_reducible rfl
              rotate_left
              · simp only [Act.put, List.setIfInBounds_toArray, List.set_cons_zero, List.set_cons_succ]
                rfl
              refine pure_ (i := 16) (N := some 131) (v := ?_) (a' := ?_) #[true, true, true, true, true, true, true, true, true, true, true, true, true, true, true, true, true, false, false, false, false, false, false, false, false, false] rfl rfl (by kernel_rfl) (fun _ _ _ h => h) (Or.inl ⟨by rfl, ?_⟩) ?_ ?_
              rotate_left
              · intro w'
                go_simp
                with_reducible rfl
              rotate_left
              · simp only [Act.put, List.setIfInBounds_toArray, List.set_cons_zero, List.set_cons_succ]
                rfl
              refine pure_ (i := 17) (N := some 132) (v := ?_) (a' := ?_) #[true, true, true, true, true, true, true, true, true, true, true, true, true, true, true, true, true, true, false, false, false, false, false, false, false, false] rfl rfl (by kernel_rfl) (fun _ _ _ h => h) (Or.inl ⟨by rfl, ?_⟩) ?_ ?_
              rotate_left
              · intro w'
                go_simp
                with_reducible rfl
              rotate_left
              · simp only [Act.put, List.setIfInBounds_toArray, List.set_cons_zero, List.set_cons_succ]
                rfl
              refine pure_ (i := 18) (N := some 133) (v := ?_) (a' := ?_) #[true, true, true, true, true, true, true, true, true, true, true, true, true, true, true, true, true, true, true, false, false, false, false, false, false, false] rfl rfl (by kernel_rfl) (fun _ _ _ h => h) (Or.inl ⟨by rfl, ?_⟩) ?_ ?_
              rotate_left
              · intro w'
                go_simp
                with_reducible rfl
              rotate_left
              · simp only [Act.put, List.setIfInBounds_toArray, List.set_cons_zero, List.set_cons_succ]
                rfl
              refine pure_ (i := 19) (N := some 134) (v := ?_) (a' := ?_) #[true, true, true, true, true, true, true, true, true, true, true, true, true, true, true, true, true, true, true, true, false, false, false, false, false, false] rfl rfl (by kernel_rfl) (fun _ _ _ h => h) (Or.inl ⟨by rfl, ?_⟩) ?_ ?_
              rotate_left
              · intro w'
                go_simp
                with_reducible rfl
              rotate_left
              · simp only [Act.put, List.setIfInBounds_toArray, List.set_cons_zero, List.set_cons_succ]
                rfl
              refine pure_ (i := 20) (N := some 135) (v := ?_) (a' := ?_) #[true, true, true, true, true, true, true, true, true, true, true, true, true, true, true, true, true, true, true, true, true, false, false, false, false, false] rfl rfl (by kernel_rfl) (fun _ _ _ h => h) (Or.inl ⟨by rfl, ?_⟩) ?_ ?_
              rotate_left
              · intro w'
                go_simp
                with_reducible rfl
              rotate_left
              · simp only [Act.put, List.setIfInBounds_toArray, List.set_cons_zero, List.set_cons_succ]
                rfl
              refine pure_ (i := 21) (N := some 136) (v := ?_) (a' := ?_) #[true, true, true, true, true, true, true, true, true, true, true, true, true, true, true, true, true, true, true, true, true, true, false, false, false, false] rfl rfl (by kernel_rfl) (fun _ _ _ h => h) (Or.inl ⟨by rfl, ?_⟩) ?_ ?_
              rotate_left
              · intro w'
                go_simp
                with_reducible rfl
              rotate_left
              · simp only [Act.put, List.setIfInBounds_toArray, List.set_cons_zero, List.set_cons_succ]
                rfl
              refine take_ (i := 22) (N := some 137) (v := ?_) (a' := ?_) #[true, true, true, true, true, true, true, true, true, true, true, true, true, true, true, true, true, true, true, true, true, true, true, false, false, false] rfl rfl (by kernel_rfl) (fun _ _ _ h => h) (Or.inl ⟨by rfl, ?_⟩) hHeld ?_ ?_
              rotate_left
              · intro w' hs
                have e0 := cell_of_cells hs 0
                have e1 := cell_of_cells hs 1
                simp only [List.getElem?_toArray, List.getElem?_cons_zero, List.getElem?_cons_succ] at e0 e1
                go_simp
                with_reducible rfl
              rotate_left
              · simp only [Act.put, List.setIfInBounds_toArray, List.set_cons_zero, List.set_cons_succ]
                rfl
              refine pure_ (i := 23) (N := some 138) (v := ?_) (a' := ?_) #[true, true, true, true, true, true, true, true, true, true, true, true, true, true, true, true, true, true, true, true, true, true, true, true, false, false] rfl rfl (by kernel_rfl) (fun _ _ _ h => h) (Or.inl ⟨by rfl, ?_⟩) ?_ ?_
              rotate_left
              · intro w'
                go_simp
                with_reducible rfl
              rotate_left
              · simp only [Act.put, List.setIfInBounds_toArray, List.set_cons_zero, List.set_cons_succ]
                rfl
              refine pure_ (i := 24) (N := some 139) (v := ?_) (a' := ?_) #[true, true, true, true, true, true, true, true, true, true, true, true, true, true, true, true, true, true, true, true, true, true, true, true, true, false] rfl rfl (by kernel_rfl) (fun _ _ _ h => h) (Or.inl ⟨by rfl, ?_⟩) ?_ ?_
              rotate_left
              · intro w'
                go_simp
                with_reducible rfl
              rotate_left
              · simp only [Act.put, List.setIfInBounds_toArray, List.set_cons_zero, List.set_cons_succ]
                rfl
              refine pure_ (i := 25) (N := some 140) (v := ?_) (a' := ?_) #[true, true, true, true, true, true, true, true, true, true, true, true, true, true, true, true, true, true, true, true, true, true, true, true, true, true] rfl rfl (by kernel_rfl) (fun _ _ _ h => h) (Or.inl ⟨by rfl, ?_⟩) ?_ ?_
              rotate_left
              · intro w'
                go_simp
                with_reducible rfl
              rotate_left
              · simp only [Act.put, List.setIfInBounds_toArray, List.set_cons_zero, List.set_cons_succ]
                rfl
              refine done_ (by kernel_rfl) ?_
              go_wp2_with fail
              refine ⟨⟨i + 1, true, by first | rfl | trivial, by first | rfl | (congr 1; omega), by omega, Lib.hid ⟨below_drew1 HBN.out, fun _ => ?_⟩⟩, by simp [intOf]; omega⟩
              obtain ⟨m, hm, hne⟩ := HBB.out rfl
              exact ⟨m, by omega, hne⟩
            | false =>
              refine start_ (n := 26) (S := fun w' => w'.heap[gx]? = some (.cells #[.string x, .string y] 35 (0, 0))) (ds := []) #[false, false, false, false, false, false, false, false, false, false, false, false, false, false, false, false, false, false, false, false, false, false, false, false, false, false] (by kernel_rfl) rfl rfl (HN.out) (fun hHeld => ?_)
              refine pure_ (i := 0) (N := some 115) (v := ?_) (a' := ?_) #[true, false, false, false, false, false, false, false, false, false, false, false, false, false, false, false, false, false, false, false, false, false, false, false, false, false] rfl rfl (by kernel_rfl) (fun _ _ _ h => h) (Or.inl ⟨by rfl, ?_⟩) ?_ ?_
              rotate_left
              · intro w'
                go_simp
                with_reducible rfl
              rotate_left
              · simp only [Act.put, List.setIfInBounds_toArray, List.set_cons_zero, List.set_cons_succ]
                rfl
              refine take_ (i := 1) (N := some 116) (v := ?_) (a' := ?_) #[true, true, false, false, false, false, false, false, false, false, false, false, false, false, false, false, false, false, false, false, false, false, false, false, false, false] rfl rfl (by kernel_rfl) (fun _ _ _ h => h) (Or.inl ⟨by rfl, ?_⟩) hHeld ?_ ?_
              rotate_left
              · intro w' hs
                have e0 := cell_of_cells hs 0
                have e1 := cell_of_cells hs 1
                simp only [List.getElem?_toArray, List.getElem?_cons_zero, List.getElem?_cons_succ] at e0 e1
                go_simp
                with_reducible rfl
              rotate_left
              · simp only [Act.put, List.setIfInBounds_toArray, List.set_cons_zero, List.set_cons_succ]
                rfl
              refine pure_ (i := 2) (N := some 117) (v := ?_) (a' := ?_) #[true, true, true, false, false, false, false, false, false, false, false, false, false, false, false, false, false, false, false, false, false, false, false, false, false, false] rfl rfl (by kernel_rfl) (fun _ _ _ h => h) (Or.inl ⟨by rfl, ?_⟩) ?_ ?_
              rotate_left
              · intro w'
                go_simp
                with_reducible rfl
              rotate_left
              · simp only [Act.put, List.setIfInBounds_toArray, List.set_cons_zero, List.set_cons_succ]
                rfl
              refine pure_ (i := 3) (N := some 118) (v := ?_) (a' := ?_) #[true, true, true, true, false, false, false, false, false, false, false, false, false, false, false, false, false, false, false, false, false, false, false, false, false, false] rfl rfl (by kernel_rfl) (fun _ _ _ h => h) (Or.inl ⟨by rfl, ?_⟩) ?_ ?_
              rotate_left
              · intro w'
                go_simp
                with_reducible rfl
              rotate_left
              · simp only [Act.put, List.setIfInBounds_toArray, List.set_cons_zero, List.set_cons_succ]
                rfl
              refine take_ (i := 4) (N := some 119) (v := ?_) (a' := ?_) #[true, true, true, true, true, false, false, false, false, false, false, false, false, false, false, false, false, false, false, false, false, false, false, false, false, false] rfl rfl (by kernel_rfl) (fun _ _ _ h => h) (Or.inl ⟨by rfl, ?_⟩) hHeld ?_ ?_
              rotate_left
              · intro w' hs
                have e0 := cell_of_cells hs 0
                have e1 := cell_of_cells hs 1
                simp only [List.getElem?_toArray, List.getElem?_cons_zero, List.getElem?_cons_succ] at e0 e1
                go_simp
                with_reducible rfl
              rotate_left
              · simp only [Act.put, List.setIfInBounds_toArray, List.set_cons_zero, List.set_cons_succ]
                rfl
              refine pure_ (i := 5) (N := some 120) (v := ?_) (a' := ?_) #[true, true, true, true, true, true, false, false, false, false, false, false, false, false, false, false, false, false, false, false, false, false, false, false, false, false] rfl rfl (by kernel_rfl) (fun _ _ _ h => h) (Or.inl ⟨by rfl, ?_⟩) ?_ ?_
              rotate_left
              · intro w'
                go_simp
                with_reducible rfl
              rotate_left
              · simp only [Act.put, List.setIfInBounds_toArray, List.set_cons_zero, List.set_cons_succ]
                rfl
              refine pure_ (i := 6) (N := some 121) (v := ?_) (a' := ?_) #[true, true, true, true, true, true, true, false, false, false, false, false, false, false, false, false, false, false, false, false, false, false, false, false, false, false] rfl rfl (by kernel_rfl) (fun _ _ _ h => h) (Or.inl ⟨by rfl, ?_⟩) ?_ ?_
              rotate_left
              · intro w'
                go_simp
                with_reducible rfl
              rotate_left
              · simp only [Act.put, List.setIfInBounds_toArray, List.set_cons_zero, List.set_cons_succ]
                rfl
              refine pure_ (i := 7) (N := some 122) (v := ?_) (a' := ?_) #[true, true, true, true, true, true, true, true, false, false, false, false, false, false, false, false, false, false, false, false, false, false, false, false, false, false] rfl rfl (by kernel_rfl) (fun _ _ _ h => h) (Or.inl ⟨by rfl, ?_⟩) ?_ ?_
              rotate_left
              · intro w'
                go_simp
                with_reducible rfl
              rotate_left
              · simp only [Act.put, List.setIfInBounds_toArray, List.set_cons_zero, List.set_cons_succ]
                rfl
              refine pure_ (i := 8) (N := some 123) (v := ?_) (a' := ?_) #[true, true, true, true, true, true, true, true, true, false, false, false, false, false, false, false, false, false, false, false, false, false, false, false, false, false] rfl rfl (by kernel_rfl) (fun _ _ _ h => h) (Or.inl ⟨by rfl, ?_⟩) ?_ ?_
              rotate_left
              · intro w'
                go_simp
                with_reducible rfl
              rotate_left
              · simp only [Act.put, List.setIfInBounds_toArray, List.set_cons_zero, List.set_cons_succ]
                rfl
              refine take_ (i := 9) (N := some 124) (v := ?_) (a' := ?_) #[true, true, true, true, true, true, true, true, true, true, false, false, false, false, false, false, false, false, false, false, false, false, false, false, false, false] rfl rfl (by kernel_rfl) (fun _ _ _ h => h) (Or.inl ⟨by rfl, ?_⟩) hHeld ?_ ?_
              rotate_left
              · intro w' hs
                have e0 := cell_of_cells hs 0
                have e1 := cell_of_cells hs 1
                simp only [List.getElem?_toArray, List.getElem?_cons_zero, List.getElem?_cons_succ] at e0 e1
                go_simp
                with_reducible rfl
              rotate_left
              · simp only [Act.put, List.setIfInBounds_toArray, List.set_cons_zero, List.set_cons_succ]
                rfl
              refine pure_ (i := 10) (N := some 125) (v := ?_) (a' := ?_) #[true, true, true, true, true, true, true, true, true, true, true, false, false, false, false, false, false, false, false, false, false, false, false, false, false, false] rfl rfl (by kernel_rfl) (fun _ _ _ h => h) (Or.inl ⟨by rfl, ?_⟩) ?_ ?_
              rotate_left
              · intro w'
                go_simp
                with_reducible rfl
              rotate_left
              · simp only [Act.put, List.setIfInBounds_toArray, List.set_cons_zero, List.set_cons_succ]
                rfl
              refine take_ (i := 11) (N := some 126) (v := ?_) (a' := ?_) #[true, true, true, true, true, true, true, true, true, true, true, true, false, false, false, false, false, false, false, false, false, false, false, false, false, false] rfl rfl (by kernel_rfl) (fun _ _ _ h => h) (Or.inl ⟨by rfl, ?_⟩) hHeld ?_ ?_
              rotate_left
              · intro w' hs
                have e0 := cell_of_cells hs 0
                have e1 := cell_of_cells hs 1
                simp only [List.getElem?_toArray, List.getElem?_cons_zero, List.getElem?_cons_succ] at e0 e1
                go_simp
                with_reducible rfl
              rotate_left
              · simp only [Act.put, List.setIfInBounds_toArray, List.set_cons_zero, List.set_cons_succ]
                rfl
              refine pure_ (i := 12) (N := some 127) (v := ?_) (a' := ?_) #[true, true, true, true, true, true, true, true, true, true, true, true, true, false, false, false, false, false, false, false, false, false, false, false, false, false] rfl rfl (by kernel_rfl) (fun _ _ _ h => h) (Or.inl ⟨by rfl, ?_⟩) ?_ ?_
              rotate_left
              · intro w'
                go_simp
                with_reducible rfl
              rotate_left
              · simp only [Act.put, List.setIfInBounds_toArray, List.set_cons_zero, List.set_cons_succ]
                rfl
              refine take_ (i := 13) (N := some 128) (v := ?_) (a' := ?_) #[true, true, true, true, true, true, true, true, true, true, true, true, true, true, false, false, false, false, false, false, false, false, false, false, false, false] rfl rfl (by kernel_rfl) (fun _ _ _ h => h) (Or.inl ⟨by rfl, ?_⟩) hHeld ?_ ?_
              rotate_left
              · intro w' hs
                have e0 := cell_of_cells hs 0
                have e1 := cell_of_cells hs 1
                simp only [List.getElem?_toArray, List.getElem?_cons_zero, List.getElem?_cons_succ] at e0 e1
                go_simp
                with_reducible rfl
              rotate_left
              · simp only [Act.put, List.setIfInBounds_toArray, List.set_cons_zero, List.set_cons_succ]
                rfl
              refine pure_ (i := 14) (N := some 129) (v := ?_) (a' := ?_) #[true, true, true, true, true, true, true, true, true, true, true, true, true, true, true, false, false, false, false, false, false, false, false, false, false, false] rfl rfl (by kernel_rfl) (fun _ _ _ h => h) (Or.inl ⟨by rfl, ?_⟩) ?_ ?_
              rotate_left
              · intro w'
                go_simp
                with_reducible rfl
              rotate_left
              · simp only [Act.put, List.setIfInBounds_toArray, List.set_cons_zero, List.set_cons_succ]
                rfl
              refine pure_ (i := 15) (N := some 130) (v := ?_) (a' := ?_) #[true, true, true, true, true, true, true, true, true, true, true, true, true, true, true, true, false, false, false, false, false, false, false, false, false, false] rfl rfl (by kernel_rfl) (fun _ _ _ h => h) (Or.inl ⟨by rfl, ?_⟩) ?_ ?_
              rotate_left
              · intro w'
                go_simp
                with_reducible rfl
              rotate_left
              · simp only [Act.put, List.setIfInBounds_toArray, List.set_cons_zero, List.set_cons_succ]
                rfl
              refine pure_ (i := 16) (N := some 131) (v := ?_) (a' := ?_) #[true, true, true, true, true, true, true, true, true, true, true, true, true, true, true, true, true, false, false, false, false, false, false, false, false, false] rfl rfl (by kernel_rfl) (fun _ _ _ h => h) (Or.inl ⟨by rfl, ?_⟩) ?_ ?_
              rotate_left
              · intro w'
                go_simp
                with_reducible rfl
              rotate_left
              · simp only [Act.put, List.setIfInBounds_toArray, List.set_cons_zero, List.set_cons_succ]
                rfl
              refine pure_ (i := 17) (N := some 132) (v := ?_) (a' := ?_) #[true, true, true, true, true, true, true, true, true, true, true, true, true, true, true, true, true, true, false, false, false, false, false, false, false, false] rfl rfl (by kernel_rfl) (fun _ _ _ h => h) (Or.inl ⟨by rfl, ?_⟩) ?_ ?_
              rotate_left
              · intro w'
                go_simp
                with_reducible rfl
              rotate_left
              · simp only [Act.put, List.setIfInBounds_toArray, List.set_cons_zero, List.set_cons_succ]
                rfl
              refine pure_ (i := 18) (N := some 133) (v := ?_) (a' := ?_) #[true, true, true, true, true, true, true, true, true, true, true, true, true, true, true, true, true, true, true, false, false, false, false, false, false, false] rfl rfl (by kernel_rfl) (fun _ _ _ h => h) (Or.inl ⟨by rfl, ?_⟩) ?_ ?_
              rotate_left
              · intro w'
                go_simp
                with_reducible rfl
              rotate_left
              · simp only [Act.put, List.setIfInBounds_toArray, List.set_cons_zero, List.set_cons_succ]
                rfl
              refine pure_ (i := 19) (N := some 134) (v := ?_) (a' := ?_) #[true, true, true, true, true, true, true, true, true, true, true, true, true, true, true, true, true, true, true, true, false, false, false, false, false, false] rfl rfl (by kernel_rfl) (fun _ _ _ h => h) (Or.inl ⟨by rfl, ?_⟩) ?_ ?_
              rotate_left
              · intro w'
                go_simp
                with_reducible rfl
              rotate_left
              · simp only [Act.put, List.setIfInBounds_toArray, List.set_cons_zero, List.set_cons_succ]
                rfl
              refine pure_ (i := 20) (N := some 135) (v := ?_) (a' := ?_) #[true, true, true, true, true, true, true, true, true, true, true, true, true, true, true, true, true, true, true, true, true, false, false, false, false, false] rfl rfl (by kernel_rfl) (fun _ _ _ h => h) (Or.inl ⟨by rfl, ?_⟩) ?_ ?_
              rotate_left
              · intro w'
                go_simp
                with_reducible rfl
              rotate_left
              · simp only [Act.put, List.setIfInBounds_toArray, List.set_cons_zero, List.set_cons_succ]
                rfl
              refine pure_ (i := 21) (N := some 136) (v := undef) (a' := ?_) #[true, true, true, true, true, true, true, true, true, true, true, true, true, true, true, true, true, true, true, true, true, true, false, false, false, false] rfl rfl (by kernel_rfl) (fun _ _ _ h => h) (Or.inr ⟨by rfl, rfl⟩) ?_ ?_
              rotate_left
              · simp only [Act.put, List.setIfInBounds_toArray, List.set_cons_zero, List.set_cons_succ]
                rfl
              refine pure_ (i := 22) (N := some 137) (v := undef) (a' := ?_) #[true, true, true, true, true, true, true, true, true, true, true, true, true, true, true, true, true, true, true, true, true, true, true, false, false, false] rfl rfl (by kernel_rfl) (fun _ _ _ h => h) (Or.inr ⟨by rfl, rfl⟩) ?_ ?_
              rotate_left
              · simp only [Act.put, List.setIfInBounds_toArray, List.set_cons_zero, List.set_cons_succ]
                rfl
              refine pure_ (i := 23) (N := some 138) (v := undef) (a' := ?_) #[true, true, true, true, true, true, true, true, true, true, true, true, true, true, true, true, true, true, true, true, true, true, true, true, false, false] rfl rfl (by kernel_rfl) (fun _ _ _ h => h) (Or.inr ⟨by rfl, rfl⟩) ?_ ?_
              rotate_left
              · simp only [Act.put, List.setIfInBounds_toArray, List.set_cons_zero, List.set_cons_succ]
                rfl
              refine pure_ (i := 24) (N := some 139) (v := ?_) (a' := ?_) #[true, true, true, true, true, true, true, true, true, true, true, true, true, true, true, true, true, true, true, true, true, true, true, true, true, false] rfl rfl (by kernel_rfl) (fun _ _ _ h => h) (Or.inl ⟨by rfl, ?_⟩) ?_ ?_
              rotate_left
              · intro w'
                go_simp
                with_reducible rfl
              rotate_left
              · simp only [Act.put, List.setIfInBounds_toArray, List.set_cons_zero, List.set_cons_succ]
                rfl
              refine pure_ (i := 25) (N := some 140) (v := ?_) (a' := ?_) #[true, true, true, true, true, true, true, true, true, true, true, true, true, true, true, true, true, true, true, true, true, true, true, true, true, true] rfl rfl (by kernel_rfl) (fun _ _ _ h => h) (Or.inl ⟨by rfl, ?_⟩) ?_ ?_
              rotate_left
              · intro w'
                go_simp
                with_reducible rfl
              rotate_left
              · simp only [Act.put, List.setIfInBounds_toArray, List.set_cons_zero, List.set_cons_succ]
                rfl
              refine done_ (by kernel_rfl) ?_
              by_cases hxy : x = y
              · subst hxy
                have g1 := cell_of_cells (blk_drew HN.out) 0
                have g2 := cell_of_cells (blk_drew HN.out) 1
                simp only [List.getElem?_toArray, List.getElem?_cons_zero, List.getElem?_cons_succ] at g1 g2
                go_wp2_with fail
                refine ⟨⟨i + 1, false, by first | rfl | trivial, by first | rfl | (congr 1; omega), by omega, Lib.hid ⟨below_drew1 HBN.out, fun h => by simp at h⟩⟩, by simp [intOf]; omega⟩
              · have n1 : (x.toList == y.toList) = false := by rw [beq_eq_false_iff_ne, Lib.toList_data, Lib.toList_data]; exact fun h => hxy (text_eq h)
                have n2 : (x.toList != y.toList) = true := by rw [bne, n1]; rfl
                have g1 := cell_of_cells (blk_drew HN.out) 0
                have g2 := cell_of_cells (blk_drew HN.out) 1
                simp only [List.getElem?_toArray, List.getElem?_cons_zero, List.getElem?_cons_succ] at g1 g2
                go_wp2_with fail
                refine ⟨⟨i + 1, true, by first | rfl | trivial, by first | rfl | (congr 1; omega), by omega, Lib.hid ⟨below_drew1 HBN.out, fun _ => ⟨i, by omega, ?_⟩⟩⟩, by simp [intOf]; omega⟩
                rw [← HX.out, ← HY.out]
                exact hxy
          · have hii : i = 10 := by omega
            subst hii
            have HBW := Lib.hid hh.out.1
            clear hh
            go_wp2_with fail
            go_ret
            exact ⟨rfl, below_step HL.out HBW.out⟩
    · have hz1 : (e == 0) = false := beq_eq_false_iff_ne.2 hz
      have hz2 : (e != 0) = true := by rw [bne_iff_ne]; exact hz
      go_wp2_with fail
      refine (lamplighterlaw09_alive.calls k true _ hal (glob_below HG.out HB3.out)).mono ?_
      rintro e wz ⟨rfl, hbz⟩
      have HBZ := Lib.hid (below_step HB3.out hbz)
      clear hbz
      go_wp2_with fail
      go_ret
      exact ⟨rfl, HBZ.out⟩
end Go.Proofs.YteaehlkpghpnkaaDoor
