/- What the law AckBehind walks through: a walk; the values of the answers' contracts are its premises. -/
import Derived.Test.YtcjcaojgminjpabDoorPBx14
import Derived.Test.YtcjcaojgminjpabDoorPBx15
import Derived.Test.YtcjcaojgminjpabDoorPBx19
import Derived.Test.YtcjcaojgminjpabDoorPBx9
import Derived.Test.YtcjcaojgminjpabDoorGlobC
import Derived.Test.YtcjcaojgminjpabDoorConvApp
import Derived.Test.YtcjcaojgminjpabDoorStr
import Derived.WalkKit
import Derived.BigCall
import Derived.RangeFuncBox
namespace Go.Proofs.YtcjcaojgminjpabDoor
open Go Go.RowKit Go.Proofs.YtcjcaojgminjpabDoor.PB Go.Proofs.YtcjcaojgminjpabDoorW.PrintWords Go.Proofs.YtcjcaojgminjpabDoorW.PrintLast Go.Proofs.YtcjcaojgminjpabDoorW.PrintMore
set_option linter.unusedVariables false

/-- A further field that the law lets in. -/
def OkF (f : ByteArray) : Prop := (13 : UInt8) ∉ f.data.toList ∧ f.size ≤ 200
/-- Further fields, each with the sign ahead. -/
def flatF (c : UInt8) (l : List ByteArray) : List UInt8 := l.flatMap fun f => c :: f.data.toList
theorem text_here (s : ByteArray) {i : Nat} (h : i < s.size) : s.data.toList.drop i = s[i]'h :: s.data.toList.drop (i + 1) := by
  have hl : i < s.data.toList.length := by rw [Array.length_toList]; exact h
  exact List.drop_eq_getElem_cons hl
theorem text_mem {s : ByteArray} {j : Nat} (h : j < s.size) {c : UInt8} (hc : c ∈ s.data.toList.take (j + 1)) : c ∈ s.data.toList.take j ∨ c = s[j]'h := by
  have hl : j < s.data.toList.length := by rw [Array.length_toList]; exact h
  rw [List.take_succ_eq_append_getElem hl, List.mem_append, List.mem_singleton] at hc
  rcases hc with hc | hc
  · exact Or.inl hc
  · exact Or.inr hc
set_option maxHeartbeats 16000000 in
set_option maxRecDepth 100000 in
theorem behind_walk (k : Nat) (h0_0 h0_1 h0_2 h0_3 h0_4 : Int) (h0_5 h0_6 h0_7 h0_8 h0_9 h0_10 h0_11 h0_12 h0_13 h0_14 : ByteArray) (A1 : Option Addr) (c1 : Nat) (l1 : List Int) (A2 : Option Addr) (c2 : Nat) (l2 : List ByteArray) (w : World) (hr1 : Kd.C (Kd.int .u8) w A1 l1.length l1) (hc1 : l1.length ≤ c1) (hr2 : Kd.C Kd.string w A2 l2.length l2) (hc2 : l2.length ≤ c2) (hGC : GlobC w)
    (hal : lamplighterlaw10_alive.f k = some true) (r1 : List Int) (r2 : Int) (hbuild : ack_Build.f k h0_0 h0_1 h0_2 h0_3 h0_4 h0_5 h0_6 h0_7 h0_8 h0_9 h0_10 h0_11 h0_12 h0_13 h0_14 ⟨#[65, 82]⟩ = some (r1, r2)) (g : Bool) (hgreat : lamplighterlaw10_great.f h0_0 h0_1 h0_2 h0_3 h0_4 h0_5 h0_6 h0_7 h0_8 h0_9 h0_10 h0_11 h0_12 h0_13 h0_14 = some g) (hb0 : 0 ≤ h0_0 ∧ h0_0 ≤ 255) (hrl : r1.length ≤ 4000000)
    (hR : r2 = 0 → g = false → l1.length ≤ 1000 → r1 ≠ [] → (∀ f ∈ l2, f.data.toList = [] ∨ OkF f) → ∃ x y, ack_Read.f k r1 = some (x, y, 0) ∧ ack_Read.f k (bytesOf (strOf ((Lib.bytesOf r1).dropLast ++ flatF (UInt8.ofNat h0_0.toNat) l2) ++ ⟨#[13]⟩) ++ l1) = some (x, y, 0)) :
    Calls Tryd.prog 6 #[.agg #[.int .u8 h0_0, .int .u8 h0_1, .int .u8 h0_2, .int .u8 h0_3, .int .u8 h0_4, .string h0_5, .string h0_6, .string h0_7, .string h0_8, .string h0_9, .string h0_10, .string h0_11, .string h0_12, .string h0_13, .string h0_14], .slice A1 l1.length c1, .slice A2 l2.length c2] w fun e w' => e = .returned (.bool true) ∧ Below w.heap.size w w' := by
  have HG := Lib.hid hGC
  have HR1 := Lib.hid hr1
  have HR2 := Lib.hid hr2
  have HRR := Lib.hid hR
  clear hGC hr1 hr2 hR
  go_enter Tryd.func6, Tryd.ntmps6
  go_wp2_with fail
  have HB0 := Lib.hid ((Below.refl w.heap.size w).alloc (Nat.le_refl _) (.cells #[.int .u8 h0_0, .int .u8 h0_1, .int .u8 h0_2, .int .u8 h0_3, .int .u8 h0_4, .string h0_5, .string h0_6, .string h0_7, .string h0_8, .string h0_9, .string h0_10, .string h0_11, .string h0_12, .string h0_13, .string h0_14] 25))
  refine (ack_Build.calls k h0_0 h0_1 h0_2 h0_3 h0_4 h0_5 h0_6 h0_7 h0_8 h0_9 h0_10 h0_11 h0_12 h0_13 h0_14 ⟨#[65, 82]⟩ r1 r2 _ hbuild (globc_below HG.out HB0.out)).mono ?_
  rintro e w1 ⟨v0, rfl, hRow, hb1⟩
  have HB := Lib.hid (below_step HB0.out hb1)
  have HK := Lib.hid ((hb1.block w.heap.size (by simp)).trans (heap_new w (.cells #[.int .u8 h0_0, .int .u8 h0_1, .int .u8 h0_2, .int .u8 h0_3, .int .u8 h0_4, .string h0_5, .string h0_6, .string h0_7, .string h0_8, .string h0_9, .string h0_10, .string h0_11, .string h0_12, .string h0_13, .string h0_14] 25)))
  have HRow := Lib.hid hRow
  obtain ⟨A0, c0, e0⟩ := Kd.R_slice hRow
  subst e0
  clear HB0 hb1 hbuild hRow
  have C0 := cell_of_cells HK.out
  by_cases hz : r2 = 0
  · subst hz
    go_wp2_with fail
    refine (lamplighterlaw10_great.calls h0_0 h0_1 h0_2 h0_3 h0_4 h0_5 h0_6 h0_7 h0_8 h0_9 h0_10 h0_11 h0_12 h0_13 h0_14 g _ hgreat).mono ?_
    rintro e w2 ⟨rfl, hb2⟩
    have HB2 := Lib.hid (below_step HB.out hb2)
    have HK2 := Lib.hid (blk_below HK.out hb2)
    have HRow2 := Lib.hid (Kd.R_below HRow.out hb2)
    clear HB HK HRow C0 hb2
    have HB := HB2
    have HK := HK2
    have HRow := HRow2
    clear HB2 HK2 HRow2
    cases g with
    | true =>
      go_wp2_with fail
      refine (lamplighterlaw10_alive.calls k true _ hal (globc_below HG.out HB.out)).mono ?_
      rintro e wz ⟨rfl, hbz⟩
      have HBZ := Lib.hid (below_step HB.out hbz)
      clear hbz
      go_wp2_with fail
      go_ret
      exact ⟨rfl, HBZ.out⟩
    | false =>
      by_cases q1 : 1000 < (l1.length : Int)
      · go_wp2_with fail
        refine (lamplighterlaw10_alive.calls k true _ hal (globc_below HG.out HB.out)).mono ?_
        rintro e wz ⟨rfl, hbz⟩
        have HBZ := Lib.hid (below_step HB.out hbz)
        clear hbz
        go_wp2_with fail
        go_ret
        exact ⟨rfl, HBZ.out⟩
      · by_cases q2 : 50 < (l2.length : Int)
        · go_wp2_with fail
          refine (lamplighterlaw10_alive.calls k true _ hal (globc_below HG.out HB.out)).mono ?_
          rintro e wz ⟨rfl, hbz⟩
          have HBZ := Lib.hid (below_step HB.out hbz)
          clear hbz
          go_wp2_with fail
          go_ret
          exact ⟨rfl, HBZ.out⟩
        · by_cases q3 : r1.length = 0
          · have q3' : (r1.length : Int) = 0 := by omega
            rw [q3]
            go_wp2_with fail
            refine (lamplighterlaw10_alive.calls k true _ hal (globc_below HG.out HB.out)).mono ?_
            rintro e wz ⟨rfl, hbz⟩
            have HBZ := Lib.hid (below_step HB.out hbz)
            clear hbz
            go_wp2_with fail
            go_ret
            exact ⟨rfl, HBZ.out⟩
          · have hpos : 0 < r1.length := by omega
            obtain ⟨g0, cap0, e9, hgb, hgl, cells, hcells⟩ := Kd.R_form HRow.out hpos
            injection e9 with e1 e2 e3
            subst e1 e3
            have HCR := Lib.hid (Kd.R_reads' HRow.out).2.2
            have hcap := (Kd.R_reads' HRow.out).2.1
            obtain ⟨n1, hn1⟩ : ∃ n1, r1.length = n1 + 1 := ⟨r1.length - 1, by omega⟩
            have hS0 : (r1.take n1).length = n1 := by rw [List.length_take]; omega
            have hcv : (convert 34 9 (.slice (some ⟨g0, 0, none⟩) n1 c0)).run Tryd.prog w2 = .ok (.string (strOfNums (r1.take n1))) w2 :=
              run_convert_bytes_arg w2 34 5 Tryd.underlying34 Tryd.underlying5 g0 0 n1 c0 (r1.take n1) hS0 (fun i hi => by
                obtain ⟨ad, ha, hcc⟩ := C_cell HCR.out (j := i) (by omega)
                obtain rfl : (⟨g0, 0, none⟩ : Addr) = ad := Option.some.inj ha
                have e5 : (⟨g0, 0 + i, none⟩ : Addr) = (⟨g0, 0, none⟩ : Addr).add i := by unfold Addr.add; simp
                have e6 : (r1.take n1).getD i 0 = rd r1 (i : Int) := by
                  unfold rd
                  rw [Int.toNat_natCast, List.getD_eq_getElem?_getD, List.getD_eq_getElem?_getD, List.getElem?_take, if_pos hi]
                rw [e5, hcc, e6]) 9 Tryd.underlying9
            have hS1 : (strOfNums (r1.take n1)).data.toList = (Lib.bytesOf r1).dropLast := by
              rw [str_data]
              unfold Lib.bytesOf
              rw [List.map_take, List.dropLast_eq_take, List.length_map, hn1]
              rfl
            have HRD := Lib.hid (HRR.out (by first | rfl | trivial) (by first | rfl | trivial) (by omega) (by intro e; rw [e] at hpos; simp at hpos))
            rw [hn1]
            have hq4 : ¬ ((n1 : Int) + 1 = 0) := by omega
            have hq5 : (((n1 + 1 : Nat) : Int) == 0) = false := by rw [beq_eq_false_iff_ne]; omega
            have hq6 : ((n1 : Int) + 1 == 0) = false := by rw [beq_eq_false_iff_ne]; omega
            have hq7 : (n1 : Int) ≤ (c0 : Int) := by omega
            have hq8 : ((n1 + 1 : Nat) : Int) - 1 = (n1 : Int) := by omega
            have HRL := Lib.hid (Kd.C_below HR2.out HB.out)
            have HR1W := Lib.hid (Kd.C_below HR1.out HB.out)
            have hKlt : w.heap.size < w2.heap.size := blk_lt HK.out
            have hGlt : g0 < w2.heap.size := hgl
            have HS0 := Lib.hid hS1
            have hS0s : (strOfNums (r1.take n1)).size ≤ 4000000 := by
              have e : (strOfNums (r1.take n1)).size = n1 := by rw [← len_size, str_data, bytesOf_len, hS0]
              omega
            go_wp2_with fail
            clear hcv hS1 hS0 HRow HRR hcells hq4 hq5 hq6 hq8
            go_loopw [9, 52] (fun v9 v52 wr => ∃ (i : Nat) (S : ByteArray), v9 = .string S ∧ v52 = .int .i64 i ∧ i ≤ l2.length ∧ S.size ≤ 4000000 + 201 * i ∧ Hid (Below w2.heap.size w2 wr ∧ S.data.toList = (Lib.bytesOf r1).dropLast ++ flatF (UInt8.ofNat h0_0.toNat) (l2.take i) ∧ (∀ f ∈ l2.take i, f.data.toList = [] ∨ OkF f))) (fun _ v52 _ => l2.length - (intOf v52).toNat)
            case atStart => exact ⟨0, _, rfl, rfl, by omega, by omega, Lib.hid ⟨Below.refl _ _, by rw [HS0.out]; simp [flatF], by simp⟩⟩
            case round =>
              obtain ⟨i, S, rfl, rfl, hi, hSs, hh⟩ := hrel
              by_cases hin : i < l2.length
              · obtain ⟨hbw, hSd, hok⟩ := hh.out
                clear hh
                obtain ⟨f, hf⟩ : ∃ f, f = l2[i]'hin := ⟨_, rfl⟩
                obtain ⟨ad, had, hcells2⟩ := (Kd.reads_of_C (enc := Value.string) (d := ByteArray.empty) (h1 := fun _ => rfl) (Kd.C_below HRL.out hbw)).2.2 (by omega)
                have hCi : wr.cell? (ad.add i) = some (.string f) := by
                  rw [hcells2 i hin, hf, List.getD_eq_getElem?_getD, List.getElem?_eq_getElem hin]
                  rfl
                have htk : l2.take (i + 1) = l2.take i ++ [f] := by rw [List.take_succ_eq_append_getElem hin, hf]
                have HTK := Lib.hid htk
                have HSD := Lib.hid hSd
                have HOK := Lib.hid hok
                have HBR := Lib.hid (below_step HB.out hbw)
                have HBW := Lib.hid hbw
                have hi0 : (0 : Int) ≤ (i : Int) := by omega
                have hi1 : (i : Int) < (l2.length : Int) := by omega
                have HT := Lib.hid (fun (j : Nat) (h : j < f.size) => text_here f h)
                have HM := Lib.hid (fun (j : Nat) (h : j < f.size) (c : UInt8) (hc : c ∈ f.data.toList.take (j + 1)) => text_mem h hc)
                clear hcells2 hf htk hSd hok hbw
                subst had
                obtain ⟨wo, hwo⟩ : ∃ wo, wo = wr := ⟨_, rfl⟩
                go_wp2_with fail
                go_loopw [58] (fun v58 w' => ∃ j : Nat, v58 = .int .i64 j ∧ j ≤ f.size ∧ w' = wo ∧ Hid ((∀ c ∈ f.data.toList.take j, c ≠ 13) ∧ (0 < j → f.size ≤ 200))) (fun v58 _ => f.size - (intOf v58).toNat)
                case atStart => exact ⟨0, rfl, by omega, hwo.symm, Lib.hid ⟨by simp, fun h => absurd h (by omega)⟩⟩
                case round =>
                  obtain ⟨j, rfl, hj, hw', hh⟩ := hrel
                  subst hw'
                  subst hwo
                  by_cases hjn : j < f.size
                  · obtain ⟨hh1, hh2⟩ := hh.out
                    have HH1 := Lib.hid hh1
                    clear hh hh1 hh2
                    have hj0 : (0 : Int) ≤ (j : Int) := by omega
                    have hj1 : (j : Int) < (f.size : Int) := by omega
                    by_cases h13 : ((f[j]'hjn).toNat : Int) = 13
                    · have h13b : (((f[j]'hjn).toNat : Int) == 13) = true := beq_iff_eq.2 h13
                      go_wp2_with fail
                      refine (lamplighterlaw10_alive.calls k true _ hal (globc_below HG.out HBR.out)).mono ?_
                      rintro e wz ⟨rfl, hbz⟩
                      have HBZ := Lib.hid (below_step HBR.out hbz)
                      clear hbz
                      go_wp2_with fail
                      go_ret
                      exact ⟨rfl, HBZ.out⟩
                    · have h13b : (((f[j]'hjn).toNat : Int) == 13) = false := beq_eq_false_iff_ne.2 h13
                      by_cases h200 : 200 < (f.size : Int)
                      · go_wp2_with fail
                        refine (lamplighterlaw10_alive.calls k true _ hal (globc_below HG.out HBR.out)).mono ?_
                        rintro e wz ⟨rfl, hbz⟩
                        have HBZ := Lib.hid (below_step HBR.out hbz)
                        clear hbz
                        go_wp2_with fail
                        go_ret
                        exact ⟨rfl, HBZ.out⟩
                      · go_wp2_with fail
                        refine ⟨⟨j + 1, by first | rfl | (congr 1; omega), by omega, by first | rfl | trivial, Lib.hid ⟨fun c hc => ?_, fun _ => by omega⟩⟩, by simp [intOf]; omega⟩
                        rcases HM.out j hjn c hc with hc | hc
                        · exact HH1.out c hc
                        · intro e
                          rw [hc] at e
                          exact h13 (by rw [e]; rfl)
                  · have hjj : j = f.size := by omega
                    obtain ⟨hh1, hh2⟩ := hh.out
                    have hOKF : f.data.toList = [] ∨ OkF f := by
                      by_cases h0 : f.size = 0
                      · left
                        exact List.eq_nil_of_length_eq_zero (by rw [len_size]; exact h0)
                      · right
                        refine ⟨fun hm => ?_, hh2 (by omega)⟩
                        have h5 : (13 : UInt8) ∈ f.data.toList.take j := by rw [hjj, ← len_size, List.take_length]; exact hm
                        exact hh1 13 h5 rfl
                    have hfs : f.size ≤ 200 := by
                      rcases hOKF with h | h
                      · have e := len_size f
                        rw [h] at e
                        have : f.size = 0 := by rw [← e]; rfl
                        omega
                      · exact h.2
                    have HOKF := Lib.hid hOKF
                    subst hjj
                    clear hh hh1 hh2 hOKF hCi
                    have hk3 := (HBW.out.block w.heap.size hKlt).trans HK.out
                    have C3 := cell_of_cells hk3
                    have hcv : (convert 34 9 (.slice (some ⟨wr.heap.size, 0, none⟩) 1 1)).run Tryd.prog (wr.alloc (.cells #[.int .u8 h0_0] 5)) = .ok (.string (strOfNums [h0_0])) (wr.alloc (.cells #[.int .u8 h0_0] 5)) :=
                      run_convert_bytes_arg (wr.alloc (.cells #[.int .u8 h0_0] 5)) 34 5 Tryd.underlying34 Tryd.underlying5 wr.heap.size 0 1 1 [h0_0] rfl (fun i hi => by
                        obtain rfl : i = 0 := by omega
                        rw [cell_of_cells (heap_new wr _)]
                        rfl) 9 Tryd.underlying9
                    obtain ⟨cs, hcs⟩ : ∃ cs, cs = strOfNums [h0_0] := ⟨_, rfl⟩
                    rw [← hcs] at hcv
                    have hcss : cs.size = 1 := by rw [hcs]; rfl
                    have HCS := Lib.hid hcs
                    have b1 : (9223372036854775807 < cs.size + f.size) = False := eq_false (by omega)
                    have b2 : (9223372036854775807 < S.size + (cs.size + f.size)) = False := eq_false (by omega)
                    have b3 : cs.size + f.size ≤ 9223372036854775807 := by omega
                    have b4 : S.size + (cs.size + f.size) ≤ 9223372036854775807 := by omega
                    clear hcs
                    have HCSS := Lib.hid hcss
                    clear hcss
                    go_wp2_with fail
                    have hbw4 : Below w2.heap.size w2 (wr.alloc (.cells #[.int .u8 h0_0] 5)) := HBW.out.alloc HBW.out.size _
                    have HSS := Lib.hid (show (S ++ (cs ++ f)).size ≤ 4000000 + 201 * (i + 1) from by
                      have h1 := HCSS.out
                      have e1 : (S ++ (cs ++ f)).size = S.size + (cs.size + f.size) := by rw [ByteArray.size_append, ByteArray.size_append]
                      rw [e1]
                      omega)
                    refine ⟨⟨i + 1, S ++ (cs ++ f), rfl, by first | rfl | (congr 1; omega), by omega, HSS.out, Lib.hid ⟨hbw4, ?_, ?_⟩⟩, by simp [intOf]; omega⟩
                    · rw [ByteArray.data_append, Array.toList_append, ByteArray.data_append, Array.toList_append, HSD.out, HTK.out, HCS.out, str_data]
                      simp [flatF, Lib.bytesOf]
                    · intro q hq
                      rw [HTK.out, List.mem_append, List.mem_singleton] at hq
                      rcases hq with hq | hq
                      · exact HOK.out q hq
                      · rw [hq]; exact HOKF.out
              · have hii : i = l2.length := by omega
                subst hii
                obtain ⟨hbw, hSd, hok⟩ := hh.out
                clear hh
                rw [List.take_length] at hSd hok
                obtain ⟨x, y, hx, hy⟩ := HRD.out hok
                have HX := Lib.hid hx
                have HS9 := Lib.hid (show S = strOf ((Lib.bytesOf r1).dropLast ++ flatF (UInt8.ofNat h0_0.toNat) l2) from bytes_eq (by rw [strOf_data]; exact hSd))
                rw [← HS9.out] at hy
                have HY := Lib.hid hy
                have HBR := Lib.hid (below_step HB.out hbw)
                have HC5 := Lib.hid (Kd.C_below HCR.out hbw)
                have HC1 := Lib.hid (Kd.C_below HR1W.out hbw)
                clear hx hy hSd hok HRD hbw
                have hcall := ack_Read.calls k (some ⟨g0, 0, none⟩) c0 r1 x y 0 wr HC5.out hcap HX.out (globc_below HG.out HBR.out)
                rw [hn1] at hcall
                go_wp2_with fail
                refine hcall.mono ?_
                rintro e w3 ⟨rfl, hb3⟩
                have HB3 := Lib.hid (below_step HBR.out hb3)
                have HC1' := Lib.hid (Kd.C_below HC1.out hb3)
                have hZ1 := heap_new w3 (.cells #[.string x, .string y] 45)
                have HZ1 := Lib.hid hZ1
                have HB4 := Lib.hid (HB3.out.alloc HB3.out.size (.cells #[.string x, .string y] 45))
                have HC6 := Lib.hid (Kd.C_alloc HC1'.out (.cells #[.string x, .string y] 45))
                have hl9 : (S ++ ⟨#[13]⟩).size + l1.length ≤ 140737488355328 := by
                  have e1 : (S ++ (⟨#[13]⟩ : ByteArray)).size = S.size + 1 := by rw [ByteArray.size_append]; rfl
                  rw [e1]
                  omega
                have b1 : (9223372036854775807 < S.size + 1) = False := eq_false (by omega)
                clear hcall hb3 HBR HC5 HC1 HX hZ1
                have e1 : (S ++ (⟨#[13]⟩ : ByteArray)).size = S.size + 1 := by rw [ByteArray.size_append]; rfl
                have e3 : (w3.alloc (.cells #[.string x, .string y] 45)).heap.size = w3.heap.size + 1 := World.size_alloc ..
                have hcv9 := Lib.run_convert_string_bytes (P := Tryd.prog) (w3.alloc (.cells #[.string x, .string y] 45)) 9 34 5 (S ++ ⟨#[13]⟩) (u := .string) Tryd.underlying9 Tryd.underlying34 Tryd.underlying5
                have HAPP := Lib.hid (conv_app (P := Tryd.prog) (w := w3.alloc (.cells #[.string x, .string y] 45)) (t := 34) (ty := 34) (e := 5) Tryd.underlying34 (by kernel_rfl) (S ++ ⟨#[13]⟩) (A := A1) (c := c1) (ys := l1) hl9 (Kd.C_below HC6.out ⟨rfl, rfl, rfl, by rw [Lib.bytesWorld_size]; omega, fun k hk => Lib.bytesWorld_at_old _ _ _ k hk⟩))
                rw [e1, e3] at hcv9
                have E1 := Lib.hid e1
                have E3 := Lib.hid e3
                clear e1 e3
                have HY2 := HY
                clear HY
                obtain ⟨LL, hLL⟩ : ∃ LL, LL = bytesOf (S ++ ⟨#[13]⟩) ++ l1 := ⟨_, rfl⟩
                rw [← hLL] at HAPP HY2
                clear hLL HC6
                go_wp2_with (at_builtin; refine Hid.out ?_)
                refine Lib.hid ?_
                refine goesApp_ (s := .tmp 90) (x := .tmp 91) (t := 34) (N := some 92) (v := .slice A1 l1.length c1) rfl rfl rfl rfl rfl E3.out.symm E1.out.symm (by rw [E1.out]) ?_
                refine HAPP.out.mono ?_
                rintro e w5 ⟨v5, rfl, hV5, hb5⟩
                refine ⟨_, rfl, ?_⟩
                obtain ⟨A5, c5, e5⟩ := Kd.V_slice hV5
                subst e5
                have HV5 := Lib.hid hV5
                have HB5 := Lib.hid (below_step HB4.out hb5)
                have HZ5 := Lib.hid (blk_below HZ1.out hb5)
                clear hV5 hb5 HAPP hcv9 HB4
                have hread := ack_Read.calls k A5 c5 LL x y 0 w5 (Kd.V_reads' HV5.out).2.2 (Kd.V_reads' HV5.out).2.1 HY2.out (globc_below HG.out HB5.out)
                go_wp2_with fail
                refine hread.mono ?_
                rintro e w6 ⟨rfl, hb6⟩
                have HB6 := Lib.hid (below_step HB5.out hb6)
                have HZ6 := Lib.hid (blk_below HZ5.out hb6)
                clear hread hb6 HV5
                go_wp2_with fail
                have HB7 := Lib.hid (HB6.out.alloc HB6.out.size (.cells #[.string x, .string y] 45))
                have HZ7 := Lib.hid (heap_old (.cells #[.string x, .string y] 45) HZ6.out)
                have HZN := Lib.hid (heap_new w6 (.cells #[.string x, .string y] 45))
                refine (lamplighterlaw10_alive.calls k true _ hal (globc_below HG.out HB7.out)).mono ?_
                rintro e w8 ⟨rfl, hb8⟩
                have HB8 := Lib.hid (below_step HB7.out hb8)
                have C8 := cell_of_cells (blk_below HZ7.out hb8)
                have C9 := cell_of_cells (blk_below HZN.out hb8)
                clear hb8
                go_wp2_with fail
                go_ret
                exact ⟨rfl, HB8.out⟩
  · have hz1 : (r2 == 0) = false := beq_eq_false_iff_ne.2 hz
    have hz2 : (r2 != 0) = true := by rw [bne_iff_ne]; exact hz
    go_wp2_with fail
    refine (lamplighterlaw10_alive.calls k true _ hal (globc_below HG.out HB.out)).mono ?_
    rintro e wz ⟨rfl, hbz⟩
    have HBZ := Lib.hid (below_step HB.out hbz)
    clear hbz
    go_wp2_with fail
    go_ret
    exact ⟨rfl, HBZ.out⟩
end Go.Proofs.YtcjcaojgminjpabDoor
