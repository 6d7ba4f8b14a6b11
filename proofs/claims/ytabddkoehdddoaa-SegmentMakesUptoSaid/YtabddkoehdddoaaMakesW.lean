/- What the law SegmentMakes walks through: a walk; what a segment that is made tells is its premise. -/
import Derived.Test.YtabddkoehdddoaaPEx1
import Derived.Test.YtabddkoehdddoaaPEx2
import Derived.Test.YtabddkoehdddoaaNest
import Derived.Test.YtabddkoehdddoaaHelp
import Derived.Test.YtabddkoehdddoaaStore
import Derived.WalkKit
import Derived.BigCall
import Derived.RangeFuncBox
namespace Go.Proofs.Ytabddkoehdddoaa
open Go Go.RowKit Go.Proofs.Ytabddkoehdddoaa.PE Go.Proofs.YtabddkoehdddoaaW.PrintWords Go.Proofs.YtabddkoehdddoaaW.PrintLast Go.Proofs.YtabddkoehdddoaaW.PrintMore
set_option linter.unusedVariables false
set_option linter.unusedSimpArgs false
namespace Makes
/-- A text without the sign between fields. -/
def Clean1 (x : ByteArray) : Prop := ∀ c ∈ x.data.toList, c ≠ 124
/-- A name of capital letters. -/
def Caps (x : ByteArray) : Prop := ∀ c ∈ x.data.toList, 65 ≤ c.toNat ∧ c.toNat ≤ 90
/-- What is asked of a segment that is made. -/
def MakesOK (N : ByteArray) (L : List ByteArray) : Prop := ∃ s : ByteArray, segment_Make.f 124 94 126 92 38 N L = some s ∧ segment_Name.f s = some N ∧ segment_Count.f s 124 94 126 92 38 = some (L.length : Int) ∧
  ∀ (k : Nat) (hk : k < L.length), segment_Field.f s ((k : Int) + 1) 124 94 126 92 38 = some (L[k]'hk, true)
theorem info_str : (Try.prog.info? 9).map (fun i => (i.zero, i.size, i.bytes)) = some (some (.string ⟨#[]⟩), 1, 16) := by kernel_rfl
theorem wrap_next {j n : Nat} (h : j < n) (hn : n ≤ 1048576) : wrap64 ((j : Int) + 1) = ((j + 1 : Nat) : Int) := by
  have e : (j : Int) + 1 = ((j + 1 : Nat) : Int) := by omega
  rw [e]
  exact wrap_fit (by omega) (by omega)
theorem meas {n j : Nat} {v : Int} (h : j < n) (e : v = ((j + 1 : Nat) : Int)) : n - (intOf (.int .i64 v)).toNat < n - (intOf (.int .i64 (j : Int))).toNat := by
  subst e
  simp only [intOf]
  omega
theorem letter_is (a : Int) : 65 ≤ 65 + a % 26 ∧ 65 + a % 26 ≤ 90 := by omega
theorem name_step {S cs : ByteArray} {q : Int} (h : Caps S) (hc : cs = strOfNums [q]) (hq : 65 ≤ q ∧ q ≤ 90) : Caps (S ++ cs) := by
  intro c hm
  rw [ByteArray.data_append, Array.toList_append, List.mem_append] at hm
  rcases hm with hm | hm
  · exact h c hm
  · subst hc
    rw [str_data] at hm
    have e : c = UInt8.ofNat q.toNat := by simpa [Lib.bytesOf] using hm
    subst e
    have e2 : (UInt8.ofNat q.toNat).toNat = q.toNat := by
      rw [UInt8.toNat_ofNat']
      omega
    rw [e2]
    omega
theorem index_is0 (a0 a1 a2 : Int) (w : World) : Sem.run Try.prog (Instr.index 40 (Value.agg #[Value.int IntKind.u8 a0, Value.int IntKind.u8 a1, Value.int IntKind.u8 a2]) (Value.int IntKind.i64 0)) w = Result.ok (Value.int IntKind.u8 a0) w := rfl
theorem index_is1 (a0 a1 a2 : Int) (w : World) : Sem.run Try.prog (Instr.index 40 (Value.agg #[Value.int IntKind.u8 a0, Value.int IntKind.u8 a1, Value.int IntKind.u8 a2]) (Value.int IntKind.i64 1)) w = Result.ok (Value.int IntKind.u8 a1) w := rfl
theorem index_is2 (a0 a1 a2 : Int) (w : World) : Sem.run Try.prog (Instr.index 40 (Value.agg #[Value.int IntKind.u8 a0, Value.int IntKind.u8 a1, Value.int IntKind.u8 a2]) (Value.int IntKind.i64 2)) w = Result.ok (Value.int IntKind.u8 a2) w := rfl
set_option maxHeartbeats 16000000 in
set_option maxRecDepth 100000 in
theorem makes_walk (k : Nat) (a0 a1 a2 : Int) (ha0 : 0 ≤ a0 ∧ a0 ≤ 255) (ha1 : 0 ≤ a1 ∧ a1 ≤ 255) (ha2 : 0 ≤ a2 ∧ a2 ≤ 255) (A : Option Addr) (c : Nat) (l : List ByteArray) (w : World) (hr : Kd.string.C w A l.length l) (hc : l.length ≤ c) (hb : wt l ≤ 1048576) (hby : lamplighterlaw08_bytes.f k l = some (wt l : Int)) (hal : lamplighterlaw08_alive.f = some true) (hpl : lamplighterlaw08_plain.f = some (124, 94, 126, 92, 38))
    (hP : ∀ (N : ByteArray) (cl : List ByteArray), N.size = 3 → N.data.toList ≠ [77, 83, 72] → Caps N → (∀ x ∈ cl, Clean1 x) → wt cl ≤ 1000 → MakesOK N cl ∧ MakesOK ⟨#[77, 83, 72]⟩ (⟨#[124]⟩ :: ⟨#[94, 126, 92, 38]⟩ :: cl)) :
    Calls Try.prog 5 #[.agg #[.int .u8 a0, .int .u8 a1, .int .u8 a2], .slice A l.length c] w fun e w' => e = .returned (.bool true) ∧ Below w.heap.size w w' := by
  have HP := Lib.hid hP
  have HR := Lib.hid hr
  have HW := Lib.hid hb
  clear hP hr hb
  go_enter Try.func5, Try.ntmps5
  go_wp2_with fail
  have HB1 := Lib.hid ((Below.refl w.heap.size w).alloc (Nat.le_refl _) (.cells #[.int .u8 a0, .int .u8 a1, .int .u8 a2] 40))
  have HK1 := Lib.hid (heap_new w (.cells #[.int .u8 a0, .int .u8 a1, .int .u8 a2] 40))
  generalize w.alloc (.cells #[.int .u8 a0, .int .u8 a1, .int .u8 a2] 40) = w1 at HB1 HK1 ⊢
  have HBB := Lib.hid HB1.out
  generalize hgb : w.heap.size = gb at HK1 ⊢
  have HGB := Lib.hid hgb
  clear hgb HB1
  refine (lamplighterlaw08_bytes.calls k A c l (wt l : Int) _ (Kd.C_below HR.out HBB.out) hc hby).mono ?_
  rintro e w2 ⟨rfl, hdr⟩
  have HB2 := Lib.hid (below_step HBB.out hdr.below)
  have HK2 := Lib.hid (blk_below HK1.out hdr.below)
  clear hdr HBB HK1
  by_cases q0 : 1000 < (wt l : Int)
  · go_wp2_with fail
    refine (lamplighterlaw08_alive.calls true _ hal).mono ?_
    rintro e wz ⟨rfl, hbz⟩
    have HBZ := Lib.hid (below_step HB2.out hbz)
    clear hbz
    go_wp2_with fail
    go_ret
    exact ⟨rfl, HBZ.out⟩
  · have E := cell_of_cells HK2.out
    have e0 := E 0
    have e1 := E 1
    have e2 := E 2
    simp only [List.getElem?_toArray, List.getElem?_cons_zero, List.getElem?_cons_succ] at e0 e1 e2
    clear E
    go_wp2_with fail
    clear e0 e1 e2 HK2
    go_loopw [5, 26] (fun v5 v26 wr => ∃ (i : Nat) (S : ByteArray), v5 = .string S ∧ v26 = .int .i64 i ∧ i ≤ 3 ∧ S.size = i ∧ Hid (Below w2.heap.size w2 wr ∧ Caps S)) (fun _ v26 _ => 3 - (intOf v26).toNat)
    case atStart => exact ⟨0, ⟨#[]⟩, rfl, rfl, by omega, rfl, Lib.hid ⟨Below.refl _ _, by intro c hm; simp at hm⟩⟩
    case round =>
      obtain ⟨i, S, rfl, rfl, hi, hSs, hh⟩ := hrel
      obtain ⟨hbw, hsc⟩ := hh.out
      have HBW := Lib.hid hbw
      have HSC := Lib.hid hsc
      clear hh hbw hsc
      have hi4 : i = 0 ∨ i = 1 ∨ i = 2 ∨ i = 3 := by omega
      rcases hi4 with rfl | rfl | rfl | rfl
      · have HQ := Lib.hid (letter_is a0)
        have hcv : (convert 24 9 (.slice (some ⟨wr.heap.size, 0, none⟩) 1 1)).run Try.prog (wr.alloc (.cells #[.int .u8 (65 + a0 % 26)] 5)) = .ok (.string (strOfNums [(65 + a0 % 26)])) (wr.alloc (.cells #[.int .u8 (65 + a0 % 26)] 5)) :=
          run_convert_bytes_arg (wr.alloc (.cells #[.int .u8 (65 + a0 % 26)] 5)) 24 5 Try.underlying24 Try.underlying5 wr.heap.size 0 1 1 [(65 + a0 % 26)] rfl (fun i hi => by
            obtain rfl : i = 0 := by omega
            rw [cell_of_cells (heap_new wr _)]
            rfl) 9 Try.underlying9
        obtain ⟨cs, hcs⟩ : ∃ cs, cs = strOfNums [(65 + a0 % 26)] := ⟨_, rfl⟩
        rw [← hcs] at hcv
        have hcss : cs.size = 1 := by rw [hcs]; rfl
        have HCS := Lib.hid hcs
        clear hcs
        have b1 : (9223372036854775807 < S.size + cs.size) = False := eq_false (by omega)
        have b2 : S.size + cs.size ≤ 9223372036854775807 := by omega
        have HA := Lib.hid (HBW.out.alloc HBW.out.size (.cells #[.int .u8 (65 + a0 % 26)] 5))
        have hix : Sem.run Try.prog (Instr.index 40 (Value.agg #[Value.int IntKind.u8 a0, Value.int IntKind.u8 a1, Value.int IntKind.u8 a2]) (Value.int IntKind.i64 0)) wr = Result.ok (Value.int IntKind.u8 a0) wr := index_is0 a0 a1 a2 wr
        go_wp2_with fail
        refine ⟨⟨0 + 1, S ++ cs, by first | rfl | trivial, by first | rfl | trivial, by omega, by rw [ByteArray.size_append]; omega, Lib.hid ⟨HA.out, ?_⟩⟩, by simp [intOf]⟩
        exact name_step HSC.out HCS.out HQ.out
      · have HQ := Lib.hid (letter_is a1)
        have hcv : (convert 24 9 (.slice (some ⟨wr.heap.size, 0, none⟩) 1 1)).run Try.prog (wr.alloc (.cells #[.int .u8 (65 + a1 % 26)] 5)) = .ok (.string (strOfNums [(65 + a1 % 26)])) (wr.alloc (.cells #[.int .u8 (65 + a1 % 26)] 5)) :=
          run_convert_bytes_arg (wr.alloc (.cells #[.int .u8 (65 + a1 % 26)] 5)) 24 5 Try.underlying24 Try.underlying5 wr.heap.size 0 1 1 [(65 + a1 % 26)] rfl (fun i hi => by
            obtain rfl : i = 0 := by omega
            rw [cell_of_cells (heap_new wr _)]
            rfl) 9 Try.underlying9
        obtain ⟨cs, hcs⟩ : ∃ cs, cs = strOfNums [(65 + a1 % 26)] := ⟨_, rfl⟩
        rw [← hcs] at hcv
        have hcss : cs.size = 1 := by rw [hcs]; rfl
        have HCS := Lib.hid hcs
        clear hcs
        have b1 : (9223372036854775807 < S.size + cs.size) = False := eq_false (by omega)
        have b2 : S.size + cs.size ≤ 9223372036854775807 := by omega
        have HA := Lib.hid (HBW.out.alloc HBW.out.size (.cells #[.int .u8 (65 + a1 % 26)] 5))
        have hix : Sem.run Try.prog (Instr.index 40 (Value.agg #[Value.int IntKind.u8 a0, Value.int IntKind.u8 a1, Value.int IntKind.u8 a2]) (Value.int IntKind.i64 1)) wr = Result.ok (Value.int IntKind.u8 a1) wr := index_is1 a0 a1 a2 wr
        go_wp2_with fail
        refine ⟨⟨1 + 1, S ++ cs, by first | rfl | trivial, by first | rfl | trivial, by omega, by rw [ByteArray.size_append]; omega, Lib.hid ⟨HA.out, ?_⟩⟩, by simp [intOf]⟩
        exact name_step HSC.out HCS.out HQ.out
      · have HQ := Lib.hid (letter_is a2)
        have hcv : (convert 24 9 (.slice (some ⟨wr.heap.size, 0, none⟩) 1 1)).run Try.prog (wr.alloc (.cells #[.int .u8 (65 + a2 % 26)] 5)) = .ok (.string (strOfNums [(65 + a2 % 26)])) (wr.alloc (.cells #[.int .u8 (65 + a2 % 26)] 5)) :=
          run_convert_bytes_arg (wr.alloc (.cells #[.int .u8 (65 + a2 % 26)] 5)) 24 5 Try.underlying24 Try.underlying5 wr.heap.size 0 1 1 [(65 + a2 % 26)] rfl (fun i hi => by
            obtain rfl : i = 0 := by omega
            rw [cell_of_cells (heap_new wr _)]
            rfl) 9 Try.underlying9
        obtain ⟨cs, hcs⟩ : ∃ cs, cs = strOfNums [(65 + a2 % 26)] := ⟨_, rfl⟩
        rw [← hcs] at hcv
        have hcss : cs.size = 1 := by rw [hcs]; rfl
        have HCS := Lib.hid hcs
        clear hcs
        have b1 : (9223372036854775807 < S.size + cs.size) = False := eq_false (by omega)
        have b2 : S.size + cs.size ≤ 9223372036854775807 := by omega
        have HA := Lib.hid (HBW.out.alloc HBW.out.size (.cells #[.int .u8 (65 + a2 % 26)] 5))
        have hix : Sem.run Try.prog (Instr.index 40 (Value.agg #[Value.int IntKind.u8 a0, Value.int IntKind.u8 a1, Value.int IntKind.u8 a2]) (Value.int IntKind.i64 2)) wr = Result.ok (Value.int IntKind.u8 a2) wr := index_is2 a0 a1 a2 wr
        go_wp2_with fail
        refine ⟨⟨2 + 1, S ++ cs, by first | rfl | trivial, by first | rfl | trivial, by omega, by rw [ByteArray.size_append]; omega, Lib.hid ⟨HA.out, ?_⟩⟩, by simp [intOf]⟩
        exact name_step HSC.out HCS.out HQ.out
      · have HB3 := Lib.hid (below_step HB2.out HBW.out)
        have HR3 := Lib.hid (Kd.C_below HR.out HB3.out)
        clear HB2 HBW HR
        go_wp2_with fail
        obtain ⟨wo, hwo⟩ : ∃ wo, wo = wr := ⟨_, rfl⟩
        go_loopw [8, 39] (fun v8 v39 w' => ∃ (i : Nat) (cl : List ByteArray), v39 = .int .i64 i ∧ i ≤ l.length ∧ Hid (Kd.string.R 9 w' wo.heap.size (fun _ => True) v8 cl ∧ Below wo.heap.size wo w' ∧ (∀ x ∈ cl, Clean1 x) ∧ wt cl ≤ wt (l.take i))) (fun _ v39 _ => l.length - (intOf v39).toNat)
        case atStart => exact ⟨0, [], rfl, by omega, Lib.hid ⟨Kd.R_nil _ _ _ _ _, hwo ▸ Below.refl _ _, by simp, by simp [wt]⟩⟩
        case round =>
          obtain ⟨i, cl, rfl, hi, hh⟩ := hrel
          subst hwo
          obtain ⟨hO, hbr, hcl, hwt⟩ := hh.out
          have HO := Lib.hid hO
          have HBR := Lib.hid hbr
          have HCL := Lib.hid hcl
          have HWT := Lib.hid hwt
          clear hh hO hcl hwt
          by_cases hin : i < l.length
          · obtain ⟨ad, rfl, hcell⟩ := at_text (Kd.C_below HR3.out hbr) hin
            obtain ⟨x, hx⟩ : ∃ x, x = l[i]'hin := ⟨_, rfl⟩
            rw [← hx] at hcell
            have HTK := Lib.hid (show wt (l.take (i + 1)) = wt (l.take i) + (1 + x.size) from by rw [wt_take _ _ hin, hx])
            have HLL := Lib.hid (show l.length ≤ 1048576 from Nat.le_trans (wt_length l) HW.out)
            have HXS := Lib.hid (show x.size ≤ 1048576 from Nat.le_trans (wt_mem (hx ▸ List.getElem_mem hin : x ∈ l)) HW.out)
            have BI := Lib.hid (wrap_next hin HLL.out)
            clear hbr hx
            have i0 : (0 : Int) ≤ (i : Int) := by omega
            have i1 : (i : Int) < (l.length : Int) := by omega
            obtain ⟨wq, hwq⟩ : ∃ wq, wq = wr := ⟨_, rfl⟩
            go_wp2_with fail
            clear hcell
            go_loopw [11, 45] (fun v11 v45 w' => ∃ (j : Nat) (b : Bool), v11 = .bool b ∧ v45 = .int .i64 j ∧ j ≤ x.size ∧ w' = wq ∧ Hid (b = false → ∀ c ∈ x.data.toList.take j, c ≠ 124)) (fun _ v45 _ => x.size - (intOf v45).toNat)
            case atStart => exact ⟨0, false, rfl, rfl, by omega, hwq.symm, Lib.hid (by simp)⟩
            case round =>
              obtain ⟨j, b, rfl, rfl, hj, hw', hh⟩ := hrel
              subst hw'
              subst hwq
              by_cases hjn : j < x.size
              · have j0 : (0 : Int) ≤ (j : Int) := by omega
                have j1 : (j : Int) < (x.size : Int) := by omega
                have BJ := Lib.hid (wrap_next hjn HXS.out)
                cases b with
                | true =>
                  go_wp2_with fail
                  exact ⟨⟨j + 1, true, by first | rfl | trivial, by first | rfl | exact congrArg _ BJ.out, hjn, by first | rfl | trivial, Lib.hid (by simp)⟩, by first | exact meas hjn BJ.out | exact meas hjn rfl⟩
                | false =>
                  by_cases h1 : ((x[j]'hjn).toNat : Int) = 124
                  · have h1a : (((x[j]'hjn).toNat : Int) == 124) = true := beq_iff_eq.2 h1
                    go_wp2_with fail
                    exact ⟨⟨j + 1, true, by first | rfl | trivial, by first | rfl | exact congrArg _ BJ.out, hjn, by first | rfl | trivial, Lib.hid (by simp)⟩, by first | exact meas hjn BJ.out | exact meas hjn rfl⟩
                  · have h1a : (((x[j]'hjn).toNat : Int) == 124) = false := beq_eq_false_iff_ne.2 h1
                    go_wp2_with fail
                    refine ⟨⟨j + 1, false, by first | rfl | trivial, by first | rfl | exact congrArg _ BJ.out, hjn, by first | rfl | trivial, Lib.hid (fun _ c hc => ?_)⟩, by first | exact meas hjn BJ.out | exact meas hjn rfl⟩
                    rcases text_at hjn hc with hc | hc
                    · exact hh.out rfl c hc
                    · rw [hc]
                      exact fun e => h1 (by rw [e]; rfl)
              · have hjj : j = x.size := by omega
                subst hjj
                have hcx : b = false → Clean1 x := by
                  intro hb c hc
                  refine hh.out hb c ?_
                  rw [List.take_of_length_le (by rw [Array.length_toList]; exact Nat.le_refl _)]
                  exact hc
                have HCX := Lib.hid hcx
                have hpl2 : (cl.length + 1) * 16 ≤ 140737488355328 := by
                  have e1 := wt_length cl
                  have e2 := HWT.out
                  have e3 := wt_le l i
                  have e4 := HW.out
                  omega
                have NXT := Lib.hid (show wt cl ≤ wt (l.take (i + 1)) from by have := HWT.out; have := HTK.out; omega)
                have NXS := Lib.hid (show wt (cl ++ [x]) ≤ wt (l.take (i + 1)) from by have := HWT.out; have := HTK.out; rw [wt_snoc]; omega)
                clear hcx hh
                cases b with
                | true =>
                  go_wp2_with fail
                  exact ⟨⟨i + 1, cl, by first | rfl | exact congrArg _ BI.out, hin, Lib.hid ⟨HO.out, HBR.out, HCL.out, NXT.out⟩⟩, by first | exact meas hin BI.out | exact meas hin rfl⟩
                | false =>
                  go_wp2_with (first | ((with_reducible refine gate_builtin (b := .append) (xs := #[.tmp 58, .tmp 60]) rfl ?_); at_builtin; refine Kd.R_append Kd.string (w0 := wo) wo.heap.size rfl (.tmp 58) (.tmp 60) 34 9 (.string ⟨#[]⟩) 16 rfl Try.underlying34 info_str rfl (by decide) (by omega) u8 cl x [.string x] (fun _ => True) (fun _ => False) rfl rfl ?aP (fun _ hk => hk.elim) ?aF ?aO ?aB ?aS ?aL ?_; (case aP => exact rfl); (case aB => exact HBR.out); (case aF => exact (fun _ _ => trivial)); (case aO => exact HO.out); (case aS => exact HBR.out.size); (case aL => exact hpl2); intro v61 w61 ho hb hg hat; have HO3 := Lib.hid ho; have HB4 := Lib.hid hb; clear ho hb hg hat) | fail)
                  refine ⟨⟨_, _, _, _, _, ⟨i + 1, rfl, hin, cl ++ [x], Lib.hid ⟨HO3.out, HB4.out, ?_, NXS.out⟩⟩, rfl, rfl, rfl, rfl, congrArg _ BI.out⟩, meas hin BI.out⟩
                  intro y hy
                  rcases List.mem_append.1 hy with hy | hy
                  · exact HCL.out y hy
                  · rw [List.mem_singleton.1 hy]
                    exact HCX.out (by first | rfl | trivial)
          · have hii : i = l.length := by omega
            subst hii
            have HW1 := Lib.hid (show wt cl ≤ 1000 from by
              have h1 := HWT.out
              rw [List.take_length] at h1
              omega)
            have HWC := Lib.hid HW1.out
            have HB4 := Lib.hid (below_step HB3.out hbr)
            clear hbr HWT HBR HB3 HR3
            go_upto_if 64 with (fail)
            go_cut [5] (fun v5 wc => ∃ N : ByteArray, v5 = .string N ∧ wc = wr ∧ Hid (N.size = 3 ∧ N.data.toList ≠ [77, 83, 72] ∧ Caps N))
            case first =>
              by_cases hm : S.data.toList = [77, 83, 72]
              · have m1 : (S.toList == ([77, 83, 72] : List UInt8)) = true := by rw [beq_iff_eq, Lib.toList_data]; exact hm
                clear hm
                go_wp2_with fail
                rotate_left
                · exact absurd (m1.symm.trans (by assumption)) (by decide)
                go_meet
                case rel => exact ⟨⟨#[77, 83, 65]⟩, rfl, rfl, Lib.hid ⟨rfl, by decide, by
                  intro c hm
                  have h3 : c = 77 ∨ c = 83 ∨ c = 65 := by simpa using hm
                  rcases h3 with rfl | rfl | rfl <;> decide⟩⟩
              · have m1 : (S.toList == ([77, 83, 72] : List UInt8)) = false := by rw [beq_eq_false_iff_ne, Lib.toList_data]; exact hm
                have HM := Lib.hid hm
                clear hm
                go_wp2_with fail
                · exact absurd (m1.symm.trans (by assumption)) (by decide)
                go_meet
                case rel => exact ⟨S, rfl, rfl, Lib.hid ⟨hSs, HM.out, HSC.out⟩⟩
            case rest =>
              obtain ⟨N, rfl, hwc, hN⟩ := hcut
              obtain ⟨hN3, hNm, hNc⟩ := hN.out
              obtain ⟨hM1, hM2⟩ := HP.out N cl hN3 hNm hNc HCL.out HW1.out
              have HM1 := Lib.hid hM1
              have HM2 := Lib.hid hM2
              clear hM1 hM2 hN hN3 hNm hNc HP HW1 HCL
              subst hwc
              obtain ⟨Ac, cc, ec⟩ := Kd.R_slice HO.out
              subst ec
              have hC := Kd.R_reads' HO.out
              have HCC := Lib.hid hC.2.2
              have HCL1 := Lib.hid hC.2.1
              clear hC HO
              have HLC := Lib.hid (show cl.length ≤ 1000 from Nat.le_trans (wt_length cl) HWC.out)
              have H65 := Lib.hid (show Kd.string.R 9 (wc.alloc (.cells #[.string ⟨#[124]⟩, .string ⟨#[94, 126, 92, 38]⟩] 9)) wc.heap.size (fun _ => True) (.slice (some ⟨wc.heap.size, 0, none⟩) 2 2) [(⟨#[124]⟩ : ByteArray), ⟨#[94, 126, 92, 38]⟩] from
                ⟨fun _ _ => trivial, [.string ⟨#[124]⟩, .string ⟨#[94, 126, 92, 38]⟩], World.ownsRow_lit (base := wc.heap.size) (e := 9) (size := 1) wc #[.string ⟨#[124]⟩, .string ⟨#[94, 126, 92, 38]⟩] 2 (Nat.le_refl _) (by simp [maxLen]) (by simp), Reps.one (show _ = [Value.string _] from rfl) (Reps.one (show _ = [Value.string _] from rfl) (Reps.none _ _))⟩)
              have HA65 := Lib.hid ((Below.refl wc.heap.size wc).alloc (Nat.le_refl _) (.cells #[.string ⟨#[124]⟩, .string ⟨#[94, 126, 92, 38]⟩] 9))
              have HC65 := Lib.hid (Kd.C_below HCC.out HA65.out)
              have H67L := Lib.hid (show (2 + cl.length) * 16 ≤ 140737488355328 from by have := HLC.out; omega)
              go_wp2_with (first | ((with_reducible refine gate_builtin (b := .append) (xs := #[.tmp 65, .tmp 66]) rfl ?_); at_builtin; refine Kd.R_append_rows Kd.string (w0 := wc) wc.heap.size rfl (.tmp 65) (.tmp 66) 34 9 (.string ⟨#[]⟩) 16 rfl Try.underlying34 info_str rfl (by decide) (by omega) (.slice (some ⟨wc.heap.size, 0, none⟩) 2 2) [(⟨#[124]⟩ : ByteArray), ⟨#[94, 126, 92, 38]⟩] cl Ac cl.length cc (fun _ => True) (fun _ => False) rfl rfl H65.out HC65.out (fun _ _ h => h) (fun _ h => h.elim) (fun _ _ => trivial) HA65.out HA65.out.size H67L.out ?_; intro v67 w67 ho hb hg hat; obtain ⟨Ah, ch, eh⟩ := Kd.R_slice ho; subst eh; have HO67 := Lib.hid ho; have HB67 := Lib.hid hb; clear ho hb hg hat) | fail)
              have hC := Kd.R_reads' HO67.out
              have HC2 := Lib.hid (Kd.C_below hC.2.2 ((Below.refl w67.heap.size w67).alloc (Nat.le_refl _) (.cells #[.string N, .slice Ac cl.length cc, .string ⟨#[77, 83, 72]⟩, .slice Ah (cl.length + 1 + 1) ch] 42)))
              have HCH := Lib.hid (show cl.length + 1 + 1 ≤ ch from hC.2.1)
              have HC1 := Lib.hid (Kd.C_below (Kd.C_below HCC.out HB67.out) ((Below.refl w67.heap.size w67).alloc (Nat.le_refl _) (.cells #[.string N, .slice Ac cl.length cc, .string ⟨#[77, 83, 72]⟩, .slice Ah (cl.length + 1 + 1) ch] 42)))
              have HB5 := below_step HB4.out HB67.out
              have HB8 := Lib.hid (HB5.alloc HB5.size (.cells #[.string N, .slice Ac cl.length cc, .string ⟨#[77, 83, 72]⟩, .slice Ah (cl.length + 1 + 1) ch] 42))
              have HZ := Lib.hid (heap_new w67 (.cells #[.string N, .slice Ac cl.length cc, .string ⟨#[77, 83, 72]⟩, .slice Ah (cl.length + 1 + 1) ch] 42))
              clear hC HB5 HO67 HB67 HCC HB4 H67L HC65 HA65 H65
              generalize w67.alloc (.cells #[.string N, .slice Ac cl.length cc, .string ⟨#[77, 83, 72]⟩, .slice Ah (cl.length + 1 + 1) ch] 42) = w8 at HC1 HC2 HB8 HZ ⊢
              generalize w67.heap.size = gz at HZ ⊢
              go_loopw [75] (fun v75 wr => ∃ i : Nat, v75 = .int .i64 i ∧ i ≤ 2 ∧ Hid (Below w8.heap.size w8 wr)) (fun v75 _ => 2 - (intOf v75).toNat)
              case atStart => exact ⟨0, rfl, by omega, Lib.hid (Below.refl _ _)⟩
              case round =>
                obtain ⟨i, rfl, hi, hbw⟩ := hrel
                by_cases hin : i < 2
                · obtain ⟨Ni, Ai, Li, ci, hc0, hc1, hci, hCi, hMi, hLi⟩ : ∃ (Ni : ByteArray) (Ai : Option Addr) (Li : List ByteArray) (ci : Nat), wr.cell? ⟨gz, i * 2, none⟩ = some (.string Ni) ∧ wr.cell? ⟨gz, i * 2 + 1, none⟩ = some (.slice Ai Li.length ci) ∧ Li.length ≤ ci ∧ Kd.string.C wr Ai Li.length Li ∧ MakesOK Ni Li ∧ Li.length ≤ 1048576 := by
                    have hz := (hbw.out.block gz (blk_lt HZ.out)).trans HZ.out
                    have hl := HLC.out
                    have hi2 : i = 0 ∨ i = 1 := by omega
                    rcases hi2 with rfl | rfl
                    · exact ⟨N, Ac, cl, cc, cell_of_cells hz 0, cell_of_cells hz 1, HCL1.out, Kd.C_below HC1.out hbw.out, HM1.out, by omega⟩
                    · exact ⟨⟨#[77, 83, 72]⟩, Ah, ⟨#[124]⟩ :: ⟨#[94, 126, 92, 38]⟩ :: cl, ch, cell_of_cells hz 2, cell_of_cells hz 3, HCH.out, Kd.C_below HC2.out hbw.out, HM2.out, by simp only [List.length_cons]; omega⟩
                  obtain ⟨s, hm, hn, hcnt, hf⟩ := hMi
                  have HM := Lib.hid hm
                  have HNM := Lib.hid hn
                  have HCN := Lib.hid hcnt
                  have HF := Lib.hid hf
                  have HCI := Lib.hid hci
                  have HLI := Lib.hid hLi
                  have HCX := Lib.hid (Kd.C_below hCi ((Below.refl wr.heap.size wr).alloc (Nat.le_refl _) (.cells #[.string Ni, .slice Ai Li.length ci] 42)))
                  have HBX := Lib.hid (hbw.out.alloc hbw.out.size (.cells #[.string Ni, .slice Ai Li.length ci] 42))
                  have HN := Lib.hid (heap_new wr (.cells #[.string Ni, .slice Ai Li.length ci] 42))
                  clear hm hn hcnt hf hci hLi hCi
                  have i0 : (0 : Int) ≤ (i : Int) := by omega
                  have i1 : (i : Int) < 2 := by omega
                  go_wp2_with fail
                  clear hc0 hc1 hbw
                  generalize wr.alloc (.cells #[.string Ni, .slice Ai Li.length ci] 42) = wx at HN HCX HBX ⊢
                  generalize wr.heap.size = gx at HN ⊢
                  have p3 : (Ni.toList == Ni.toList) = true := beq_self_eq_true _
                  have p4 : (Ni.toList != Ni.toList) = false := by simp
                  refine start_ (n := 7) (S := fun w' => w'.heap[gx]? = some (.cells #[.string Ni, .slice Ai Li.length ci] 42 (0, 0)) ∧ Kd.string.C w' Ai Li.length Li ∧ Below w8.heap.size w8 w') (ds := []) #[false, false, false, false, false, false, false] (by kernel_rfl) rfl rfl (⟨blk_drew HN.out, Kd.C_drew HCX.out, below_drew1 HBX.out⟩) (fun hHeld => ?_)
                  refine pure_ (i := 1) (N := some 80) (v := ?_) (a' := ?_) #[false, true, false, false, false, false, false] rfl rfl (by kernel_rfl) (fun _ _ _ h => h) (Or.inl ⟨by rfl, ?_⟩) ?_ ?_
                  rotate_left
                  · intro w'
                    go_simp
                    with_reducible rfl
                  rotate_left
                  · simp only [Act.put, List.setIfInBounds_toArray, List.set_cons_zero, List.set_cons_succ]
                    rfl
                  refine take_ (i := 2) (N := some 81) (v := ?_) (a' := ?_) #[false, true, true, false, false, false, false] rfl rfl (by kernel_rfl) (fun _ _ _ h => h) (Or.inl ⟨by rfl, ?_⟩) hHeld ?_ ?_
                  rotate_left
                  · intro w' hs
                    have e0 := cell_of_cells hs.1 0
                    have e1 := cell_of_cells hs.1 1
                    simp only [List.getElem?_toArray, List.getElem?_cons_zero, List.getElem?_cons_succ] at e0 e1
                    go_simp
                    with_reducible rfl
                  rotate_left
                  · simp only [Act.put, List.setIfInBounds_toArray, List.set_cons_zero, List.set_cons_succ]
                    rfl
                  refine pure_ (i := 3) (N := some 82) (v := ?_) (a' := ?_) #[false, true, true, true, false, false, false] rfl rfl (by kernel_rfl) (fun _ _ _ h => h) (Or.inl ⟨by rfl, ?_⟩) ?_ ?_
                  rotate_left
                  · intro w'
                    go_simp
                    with_reducible rfl
                  rotate_left
                  · simp only [Act.put, List.setIfInBounds_toArray, List.set_cons_zero, List.set_cons_succ]
                    rfl
                  refine take_ (i := 4) (N := some 83) (v := ?_) (a' := ?_) #[false, true, true, true, true, false, false] rfl rfl (by kernel_rfl) (fun _ _ _ h => h) (Or.inl ⟨by rfl, ?_⟩) hHeld ?_ ?_
                  rotate_left
                  · intro w' hs
                    have e0 := cell_of_cells hs.1 0
                    have e1 := cell_of_cells hs.1 1
                    simp only [List.getElem?_toArray, List.getElem?_cons_zero, List.getElem?_cons_succ] at e0 e1
                    go_simp
                    with_reducible rfl
                  rotate_left
                  · simp only [Act.put, List.setIfInBounds_toArray, List.set_cons_zero, List.set_cons_succ]
                    rfl
                  refine one_ (i := 0) (N := some 79) #[true, true, true, true, true, false, false] rfl rfl (by kernel_rfl) (by decide) (fun K hK => ?_)
                  refine goes_ Try.func9 (by kernel_rfl) rfl #[] (by rfl) rfl rfl (by (try simp only [List.map_toArray, List.map_cons, List.map_nil]); first | done | rfl) ?_
                  refine (lamplighterlaw08_plain.calls 124 94 126 92 38 _ hpl).mono ?_
                  rintro e wy0 ⟨rfl, hb⟩
                  refine ⟨_, rfl, ?_⟩
                  refine hK.out _ _ ⟨blk_below hHeld.1 hb, Kd.C_below hHeld.2.1 hb, below_step hHeld.2.2 hb⟩ (fun hHeld => ?_)
                  clear hK K hb
                  refine norm_ (a' := ?_) ?_ ?_
                  rotate_left
                  · show Act.put _ (some 79) _ = _
                    simp only [Act.put, List.setIfInBounds_toArray, List.set_cons_zero, List.set_cons_succ]
                    rfl
                  refine one_ (i := 5) (N := some 84) #[true, true, true, true, true, true, false] rfl rfl (by kernel_rfl) (by decide) (fun K hK => ?_)
                  refine goes_ Try.func15 (by kernel_rfl) rfl #[.agg #[.int .u8 124, .int .u8 94, .int .u8 126, .int .u8 92, .int .u8 38], .string Ni, .slice Ai Li.length ci] (by rfl) rfl rfl (by (try simp only [List.map_toArray, List.map_cons, List.map_nil]); first | done | rfl) ?_
                  refine (segment_Make.calls 124 94 126 92 38 Ni Ai ci Li s _ hHeld.2.1 HCI.out HM.out).mono ?_
                  rintro e wy5 ⟨rfl, hb⟩
                  refine ⟨_, rfl, ?_⟩
                  refine hK.out _ _ ⟨blk_below hHeld.1 hb, Kd.C_below hHeld.2.1 hb, below_step hHeld.2.2 hb⟩ (fun hHeld => ?_)
                  clear hK K hb
                  refine norm_ (a' := ?_) ?_ ?_
                  rotate_left
                  · show Act.put _ (some 84) _ = _
                    simp only [Act.put, List.setIfInBounds_toArray, List.set_cons_zero, List.set_cons_succ]
                    rfl
                  refine pure_ (i := 6) (N := some 16) (v := ?_) (a' := ?_) #[true, true, true, true, true, true, true] rfl rfl (by kernel_rfl) (fun _ _ _ h => h) (Or.inl ⟨by rfl, ?_⟩) ?_ ?_
                  rotate_left
                  · intro w'
                    go_simp
                    with_reducible rfl
                  rotate_left
                  · simp only [Act.put, List.setIfInBounds_toArray, List.set_cons_zero, List.set_cons_succ]
                    rfl
                  refine done_ (by kernel_rfl) ?_
                  have HS := Lib.hid hHeld
                  clear hHeld HN HCX HBX
                  go_wp2_with fail
                  refine start_ (n := 14) (S := fun w' => w'.heap[gx]? = some (.cells #[.string Ni, .slice Ai Li.length ci] 42 (0, 0)) ∧ Kd.string.C w' Ai Li.length Li ∧ Below w8.heap.size w8 w') (ds := []) #[false, false, false, false, false, false, false, false, false, false, false, false, false, false] (by kernel_rfl) rfl rfl (⟨blk_drew HS.out.1, Kd.C_drew HS.out.2.1, below_drew1 HS.out.2.2⟩) (fun hHeld => ?_)
                  refine pure_ (i := 0) (N := some 85) (v := ?_) (a' := ?_) #[true, false, false, false, false, false, false, false, false, false, false, false, false, false] rfl rfl (by kernel_rfl) (fun _ _ _ h => h) (Or.inl ⟨by rfl, ?_⟩) ?_ ?_
                  rotate_left
                  · intro w'
                    go_simp
                    with_reducible rfl
                  rotate_left
                  · simp only [Act.put, List.setIfInBounds_toArray, List.set_cons_zero, List.set_cons_succ]
                    rfl
                  refine pure_ (i := 2) (N := some 87) (v := ?_) (a' := ?_) #[true, false, true, false, false, false, false, false, false, false, false, false, false, false] rfl rfl (by kernel_rfl) (fun _ _ _ h => h) (Or.inl ⟨by rfl, ?_⟩) ?_ ?_
                  rotate_left
                  · intro w'
                    go_simp
                    with_reducible rfl
                  rotate_left
                  · simp only [Act.put, List.setIfInBounds_toArray, List.set_cons_zero, List.set_cons_succ]
                    rfl
                  refine take_ (i := 3) (N := some 88) (v := ?_) (a' := ?_) #[true, false, true, true, false, false, false, false, false, false, false, false, false, false] rfl rfl (by kernel_rfl) (fun _ _ _ h => h) (Or.inl ⟨by rfl, ?_⟩) hHeld ?_ ?_
                  rotate_left
                  · intro w' hs
                    have e0 := cell_of_cells hs.1 0
                    have e1 := cell_of_cells hs.1 1
                    simp only [List.getElem?_toArray, List.getElem?_cons_zero, List.getElem?_cons_succ] at e0 e1
                    go_simp
                    with_reducible rfl
                  rotate_left
                  · simp only [Act.put, List.setIfInBounds_toArray, List.set_cons_zero, List.set_cons_succ]
                    rfl
                  refine one_ (i := 1) (N := some 86) #[true, true, true, true, false, false, false, false, false, false, false, false, false, false] rfl rfl (by kernel_rfl) (by decide) (fun K hK => ?_)
                  refine goes_ Try.func16 (by kernel_rfl) rfl #[.string s] (by rfl) rfl rfl (by (try simp only [List.map_toArray, List.map_cons, List.map_nil]); first | done | rfl) ?_
                  refine (segment_Name.calls s Ni _ HNM.out).mono ?_
                  rintro e wy1 ⟨rfl, hb⟩
                  refine ⟨_, rfl, ?_⟩
                  refine hK.out _ _ ⟨blk_below hHeld.1 hb, Kd.C_below hHeld.2.1 hb, below_step hHeld.2.2 hb⟩ (fun hHeld => ?_)
                  clear hK K hb
                  refine norm_ (a' := ?_) ?_ ?_
                  rotate_left
                  · show Act.put _ (some 86) _ = _
                    simp only [Act.put, List.setIfInBounds_toArray, List.set_cons_zero, List.set_cons_succ]
                    rfl
                  refine pure_ (i := 4) (N := some 89) (v := ?_) (a' := ?_) #[true, true, true, true, true, false, false, false, false, false, false, false, false, false] rfl rfl (by kernel_rfl) (fun _ _ _ h => h) (Or.inl ⟨by rfl, ?_⟩) ?_ ?_
                  rotate_left
                  · intro w'
                    go_simp
                    with_reducible rfl
                  rotate_left
                  · simp only [Act.put, List.setIfInBounds_toArray, List.set_cons_zero, List.set_cons_succ]
                    rfl
                  refine pure_ (i := 5) (N := some 90) (v := ?_) (a' := ?_) #[true, true, true, true, true, true, false, false, false, false, false, false, false, false] rfl rfl (by kernel_rfl) (fun _ _ _ h => h) (Or.inl ⟨by rfl, ?_⟩) ?_ ?_
                  rotate_left
                  · intro w'
                    go_simp
                    with_reducible rfl
                  rotate_left
                  · simp only [Act.put, List.setIfInBounds_toArray, List.set_cons_zero, List.set_cons_succ]
                    rfl
                  refine pure_ (i := 6) (N := some 91) (v := ?_) (a' := ?_) #[true, true, true, true, true, true, true, false, false, false, false, false, false, false] rfl rfl (by kernel_rfl) (fun _ _ _ h => h) (Or.inl ⟨by rfl, ?_⟩) ?_ ?_
                  rotate_left
                  · intro w'
                    go_simp
                    with_reducible rfl
                  rotate_left
                  · simp only [Act.put, List.setIfInBounds_toArray, List.set_cons_zero, List.set_cons_succ]
                    rfl
                  refine pure_ (i := 9) (N := some 94) (v := ?_) (a' := ?_) #[true, true, true, true, true, true, true, false, false, true, false, false, false, false] rfl rfl (by kernel_rfl) (fun _ _ _ h => h) (Or.inl ⟨by rfl, ?_⟩) ?_ ?_
                  rotate_left
                  · intro w'
                    go_simp
                    with_reducible rfl
                  rotate_left
                  · simp only [Act.put, List.setIfInBounds_toArray, List.set_cons_zero, List.set_cons_succ]
                    rfl
                  refine take_ (i := 10) (N := some 95) (v := ?_) (a' := ?_) #[true, true, true, true, true, true, true, false, false, true, true, false, false, false] rfl rfl (by kernel_rfl) (fun _ _ _ h => h) (Or.inl ⟨by rfl, ?_⟩) hHeld ?_ ?_
                  rotate_left
                  · intro w' hs
                    have e0 := cell_of_cells hs.1 0
                    have e1 := cell_of_cells hs.1 1
                    simp only [List.getElem?_toArray, List.getElem?_cons_zero, List.getElem?_cons_succ] at e0 e1
                    go_simp
                    with_reducible rfl
                  rotate_left
                  · simp only [Act.put, List.setIfInBounds_toArray, List.set_cons_zero, List.set_cons_succ]
                    rfl
                  refine pure_ (i := 11) (N := some 96) (v := ?_) (a' := ?_) #[true, true, true, true, true, true, true, false, false, true, true, true, false, false] rfl rfl (by kernel_rfl) (fun _ _ _ h => h) (Or.inl ⟨by rfl, ?_⟩) ?_ ?_
                  rotate_left
                  · intro w'
                    go_simp
                    with_reducible rfl
                  rotate_left
                  · simp only [Act.put, List.setIfInBounds_toArray, List.set_cons_zero, List.set_cons_succ]
                    rfl
                  refine one_ (i := 7) (N := some 92) #[true, true, true, true, true, true, true, true, false, true, true, true, false, false] rfl rfl (by kernel_rfl) (by decide) (fun K hK => ?_)
                  refine goes_ Try.func9 (by kernel_rfl) rfl #[] (by rfl) rfl rfl (by (try simp only [List.map_toArray, List.map_cons, List.map_nil]); first | done | rfl) ?_
                  refine (lamplighterlaw08_plain.calls 124 94 126 92 38 _ hpl).mono ?_
                  rintro e wy7 ⟨rfl, hb⟩
                  refine ⟨_, rfl, ?_⟩
                  refine hK.out _ _ ⟨blk_below hHeld.1 hb, Kd.C_below hHeld.2.1 hb, below_step hHeld.2.2 hb⟩ (fun hHeld => ?_)
                  clear hK K hb
                  refine norm_ (a' := ?_) ?_ ?_
                  rotate_left
                  · show Act.put _ (some 92) _ = _
                    simp only [Act.put, List.setIfInBounds_toArray, List.set_cons_zero, List.set_cons_succ]
                    rfl
                  refine one_ (i := 8) (N := some 93) #[true, true, true, true, true, true, true, true, true, true, true, true, false, false] rfl rfl (by kernel_rfl) (by decide) (fun K hK => ?_)
                  refine goes_ Try.func17 (by kernel_rfl) rfl #[.string s, .agg #[.int .u8 124, .int .u8 94, .int .u8 126, .int .u8 92, .int .u8 38]] (by rfl) rfl rfl (by (try simp only [List.map_toArray, List.map_cons, List.map_nil]); first | done | rfl) ?_
                  refine (segment_Count.calls s 124 94 126 92 38 (Li.length : Int) _ HCN.out).mono ?_
                  rintro e wy8 ⟨rfl, hb⟩
                  refine ⟨_, rfl, ?_⟩
                  refine hK.out _ _ ⟨blk_below hHeld.1 hb, Kd.C_below hHeld.2.1 hb, below_step hHeld.2.2 hb⟩ (fun hHeld => ?_)
                  clear hK K hb
                  refine norm_ (a' := ?_) ?_ ?_
                  rotate_left
                  · show Act.put _ (some 93) _ = _
                    simp only [Act.put, List.setIfInBounds_toArray, List.set_cons_zero, List.set_cons_succ]
                    rfl
                  refine pure_ (i := 12) (N := some 97) (v := ?_) (a' := ?_) #[true, true, true, true, true, true, true, true, true, true, true, true, true, false] rfl rfl (by kernel_rfl) (fun _ _ _ h => h) (Or.inl ⟨by rfl, ?_⟩) ?_ ?_
                  rotate_left
                  · intro w'
                    go_simp
                    with_reducible rfl
                  rotate_left
                  · simp only [Act.put, List.setIfInBounds_toArray, List.set_cons_zero, List.set_cons_succ]
                    rfl
                  refine pure_ (i := 13) (N := some 98) (v := ?_) (a' := ?_) #[true, true, true, true, true, true, true, true, true, true, true, true, true, true] rfl rfl (by kernel_rfl) (fun _ _ _ h => h) (Or.inl ⟨by rfl, ?_⟩) ?_ ?_
                  rotate_left
                  · intro w'
                    go_simp
                    with_reducible rfl
                  rotate_left
                  · simp only [Act.put, List.setIfInBounds_toArray, List.set_cons_zero, List.set_cons_succ]
                    rfl
                  refine done_ (by kernel_rfl) ?_
                  have HS2 := Lib.hid hHeld
                  clear hHeld HS
                  have c1 := cell_of_cells HS2.out.1 0
                  have c2 := cell_of_cells HS2.out.1 1
                  simp only [List.getElem?_toArray, List.getElem?_cons_zero, List.getElem?_cons_succ] at c1 c2
                  go_wp2_with fail
                  clear c1 c2
                  go_loopw [102] (fun v102 wr => ∃ k : Nat, v102 = .int .i64 k ∧ k ≤ Li.length ∧ Hid (Below wy8.heap.size wy8 wr)) (fun v102 _ => Li.length - (intOf v102).toNat)
                  case atStart => exact ⟨0, rfl, by omega, Lib.hid (Below.refl _ _)⟩
                  case round =>
                    obtain ⟨k, rfl, hk, hbx⟩ := hrel
                    by_cases hkn : k < Li.length
                    · obtain ⟨ad, rfl, hcell⟩ := at_text (Kd.C_below HS2.out.2.1 hbx.out) hkn
                      have HF4 := Lib.hid (HF.out k hkn)
                      obtain ⟨x, hx⟩ : ∃ x, x = Li[k]'hkn := ⟨_, rfl⟩
                      rw [← hx] at hcell HF4
                      have BK := Lib.hid (wrap_next hkn HLI.out)
                      clear hx
                      have k0 : (0 : Int) ≤ (k : Int) := by omega
                      have k1 : (k : Int) < (Li.length : Int) := by omega
                      have p5 : (x.toList == x.toList) = true := beq_self_eq_true _
                      have p6 : (x.toList != x.toList) = false := by simp
                      go_wp2_with fail
                      clear hcell
                      refine (lamplighterlaw08_plain.calls 124 94 126 92 38 _ hpl).mono ?_
                      rintro e wp ⟨rfl, hbp⟩
                      have HBP := Lib.hid (below_step hbx.out hbp)
                      clear hbp hbx
                      go_wp2_with fail
                      refine (segment_Field.calls s _ 124 94 126 92 38 x true _ (by first | exact HF4.out | (rw [BK.out]; exact HF4.out))).mono ?_
                      rintro e wq ⟨rfl, hbq⟩
                      have HBQ := Lib.hid (below_step HBP.out hbq)
                      clear hbq HBP
                      go_wp2_with fail
                      exact ⟨⟨k + 1, by first | rfl | exact congrArg _ BK.out, hkn, HBQ⟩, by first | exact meas hkn BK.out | exact meas hkn rfl⟩
                    · have hkk : k = Li.length := by omega
                      subst hkk
                      have HBQ := Lib.hid (below_step HS2.out.2.2 hbx.out)
                      go_wp2_with fail
                      exact ⟨⟨i + 1, by first | rfl | (congr 1; omega), hin, HBQ⟩, by simp [intOf]; omega⟩
                · have hii : i = 2 := by omega
                  subst hii
                  have HBE := Lib.hid (below_step HB8.out hbw.out)
                  clear hbw
                  go_wp2_with fail
                  refine (lamplighterlaw08_alive.calls true _ hal).mono ?_
                  rintro e wz ⟨rfl, hbz⟩
                  have HBZ := Lib.hid (below_step HBE.out hbz)
                  clear hbz
                  go_wp2_with fail
                  go_ret
                  exact ⟨rfl, HBZ.out⟩
end Makes
end Go.Proofs.Ytabddkoehdddoaa
