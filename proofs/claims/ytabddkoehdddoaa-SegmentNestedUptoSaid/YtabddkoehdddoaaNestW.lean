/- What the law SegmentNested walks through: a walk; what the field's parts come to is its premise. -/
import Derived.Test.YtabddkoehdddoaaPEx1
import Derived.Test.YtabddkoehdddoaaPEx2
import Derived.Test.YtabddkoehdddoaaNest
import Derived.Test.YtabddkoehdddoaaHelp
import Derived.Test.YtabddkoehdddoaaStore
import Derived.WalkKit
import Derived.BigCall
import Derived.RangeFuncBox
namespace Go.Proofs.Ytabddkoehdddoaa
open Go Go.RowKit Go.Proofs.Ytabddkoehdddoaa.PE Go.Proofs.YtabddkoehdddoaaW.PrintWords Go.Proofs.YtabddkoehdddoaaW.PrintLast Go.Proofs.YtabddkoehdddoaaW.PrintMore
set_option linter.unusedVariables false
/-- A repetition's text, and a field's. -/
def repOf (p : List ByteArray) : List UInt8 := joinL 94 (p.map fun x => x.data.toList)
def nestOf (own : List (List ByteArray)) : List UInt8 := joinL 126 (own.map repOf)
/-- What is asked of the field that is made. -/
def NestOK (own : List (List ByteArray)) : Prop := segment_Agains.f (strOf (nestOf own)) 124 94 126 92 38 = some (own.length : Int) ∧
  ∀ (i : Nat) (hi : i < own.length), segment_Parts.f (strOf (nestOf own)) ((i : Int) + 1) 124 94 126 92 38 = some ((own[i]'hi).length : Int) ∧
    ∀ (k : Nat) (hk : k < (own[i]'hi).length), segment_Part.f (strOf (nestOf own)) ((i : Int) + 1) ((k : Int) + 1) 124 94 126 92 38 = some ((own[i]'hi)[k]'hk, true)
theorem repOf_snoc (p : List ByteArray) (x : ByteArray) : repOf (p ++ [x]) = if p = [] then x.data.toList else repOf p ++ 94 :: x.data.toList := by
  unfold repOf
  rw [List.map_append]
  by_cases h : p = []
  · subst h
    rfl
  · rw [if_neg h]
    exact joinL_snoc 94 (by simpa using h) _
theorem nestOf_snoc (l : List (List ByteArray)) (p : List ByteArray) : nestOf (l ++ [p]) = if l = [] then repOf p else nestOf l ++ 126 :: repOf p := by
  unfold nestOf
  rw [List.map_append]
  by_cases h : l = []
  · subst h
    rfl
  · rw [if_neg h]
    exact joinL_snoc 126 (by simpa using h) _
theorem wrap_next {j n : Nat} (h : j < n) (hn : n ≤ 1048576) : wrap64 ((j : Int) + 1) = ((j + 1 : Nat) : Int) := by
  have e : (j : Int) + 1 = ((j + 1 : Nat) : Int) := by omega
  rw [e]
  exact wrap_fit (by omega) (by omega)
theorem meas {n j : Nat} {v : Int} (h : j < n) (e : v = ((j + 1 : Nat) : Int)) : n - (intOf (.int .i64 v)).toNat < n - (intOf (.int .i64 (j : Int))).toNat := by
  subst e
  simp only [intOf]
  omega
theorem wrap_two (m s : Nat) (h : m + (1 + s) ≤ 1048576) : wrap64 ((m : Int) + wrap64 (1 + (s : Int))) = ((m + (1 + s) : Nat) : Int) := by
  have e : (m : Int) + (1 + (s : Int)) = ((m + (1 + s) : Nat) : Int) := by omega
  have e1 : wrap64 (1 + (s : Int)) = 1 + (s : Int) := wrap_fit (by omega) (by omega)
  rw [e1, e]
  exact wrap_fit (by omega) (by omega)
theorem info_str : (Try.prog.info? 9).map (fun i => (i.zero, i.size, i.bytes)) = some (some (.string ⟨#[]⟩), 1, 16) := by kernel_rfl
theorem info_row : (Try.prog.info? 34).map (fun i => (i.zero, i.size, i.bytes)) = some (some (.slice none 0 0), 1, 24) := by kernel_rfl
set_option maxHeartbeats 16000000 in
set_option maxRecDepth 100000 in
theorem nest_walk (A : Option Addr) (c : Nat) (ll : List (List ByteArray)) (w : World) (hr : (Kd.slice 9 Kd.string).C w A ll.length ll) (hc : ll.length ≤ c) (hb : wts ll + ll.length ≤ 1048576) (hal : lamplighterlaw08_alive.f = some true) (hpl : lamplighterlaw08_plain.f = some (124, 94, 126, 92, 38))
    (hP : ∀ own, Kept own → own ≠ [] → wts own ≤ 800 → NestOK own) :
    Calls Try.prog 4 #[.slice A ll.length c] w fun e w' => e = .returned (.bool true) ∧ Below w.heap.size w w' := by
  have HP := Lib.hid hP
  have HR := Lib.hid hr
  have HW := Lib.hid hb
  clear hP hr hb
  go_enter Try.func4, Try.ntmps4
  go_wp2_with fail
  refine (lamplighterlaw08_plain.calls 124 94 126 92 38 _ hpl).mono ?_
  rintro e w0 ⟨rfl, hb0⟩
  have HB0 := Lib.hid (below_step (Below.refl w.heap.size w) hb0)
  clear hb0
  go_wp2_with fail
  have HB1 := Lib.hid (HB0.out.alloc HB0.out.size (.cells #[.int .u8 124, .int .u8 94, .int .u8 126, .int .u8 92, .int .u8 38] 23))
  have HD := Lib.hid (heap_new w0 (.cells #[.int .u8 124, .int .u8 94, .int .u8 126, .int .u8 92, .int .u8 38] 23))
  generalize w0.alloc (.cells #[.int .u8 124, .int .u8 94, .int .u8 126, .int .u8 92, .int .u8 38] 23) = w1 at HB1 HD ⊢
  generalize w0.heap.size = gd at HD ⊢
  clear HB0
  have HR1 := Lib.hid (Kd.C_below HR.out HB1.out)
  clear HR
  go_loopw [5, 6, 27] (fun v5 v6 v27 wr => ∃ (i m : Nat) (own : List (List ByteArray)), v5 = .int .i64 m ∧ v27 = .int .i64 i ∧ i ≤ ll.length ∧ m ≤ wts (ll.take i) ∧ Hid ((Kd.slice 9 Kd.string).R 34 wr w1.heap.size (fun _ => True) v6 own ∧ Below w1.heap.size w1 wr ∧ Kept own ∧ wts own ≤ m)) (fun _ _ v27 _ => ll.length - (intOf v27).toNat)
  case atStart => exact ⟨0, 0, [], rfl, rfl, by omega, by simp, Lib.hid ⟨Kd.R_nil _ _ _ _ _, Below.refl _ _, by intro p hp; simp at hp, by simp [wts]⟩⟩
  case round =>
    obtain ⟨i, m, own, rfl, rfl, hi, hm, hh⟩ := hrel
    by_cases hin : i < ll.length
    · obtain ⟨hO, hbr, hk, how⟩ := hh.out
      have HO := Lib.hid hO
      have HBR := Lib.hid hbr
      have HK := Lib.hid hk
      have HOW := Lib.hid how
      clear hh hO hk how
      obtain ⟨ad, Ap, cp, rfl, hcell, hcp, hCp⟩ := at_rows (Kd.C_below HR1.out hbr) hin
      obtain ⟨p, hp⟩ : ∃ p, p = ll[i]'hin := ⟨_, rfl⟩
      rw [← hp] at hcell hcp hCp
      have HPE := Lib.hid hp
      have HCP := Lib.hid hCp
      have HW1 := Lib.hid (show wts (ll.take (i + 1)) = wts (ll.take i) + wt p from by rw [wts_take _ _ hin, hp])
      have HPL := Lib.hid (show p.length ≤ 1048576 from by
        have e1 := wt_length p
        have e2 := wts_take ll i hin
        have e3 := wts_le ll (i + 1)
        have e4 := HW.out
        rw [← hp] at e2
        omega)
      have HLL := Lib.hid (show ll.length ≤ 1048576 from by have := HW.out; omega)
      have BI := Lib.hid (wrap_next hin HLL.out)
      clear hbr hp hCp
      have i0 : (0 : Int) ≤ (i : Int) := by omega
      have i1 : (i : Int) < (ll.length : Int) := by omega
      obtain ⟨wo, hwo⟩ : ∃ wo, wo = wr := ⟨_, rfl⟩
      have HLE := Lib.hid HBR.out.size
      go_wp2_with fail
      clear hcell
      go_loopw [5, 9, 33] (fun v5 v9 v33 w' => ∃ (k m' : Nat) (parts : List ByteArray), v5 = .int .i64 m' ∧ v33 = .int .i64 k ∧ k ≤ p.length ∧ m' ≤ m + wt (p.take k) ∧ Hid (Kd.string.R 9 w' wo.heap.size (fun _ => True) v9 parts ∧ Below wo.heap.size wo w' ∧ (∀ x ∈ parts, Clean2 x) ∧ wts own + wt parts ≤ m')) (fun _ _ v33 _ => p.length - (intOf v33).toNat)
      case atStart => exact ⟨0, m, [], rfl, rfl, by omega, by simp, Lib.hid ⟨Kd.R_nil _ _ _ _ _, hwo ▸ Below.refl _ _, by simp, by have := HOW.out; simp [wt]; omega⟩⟩
      case round =>
        obtain ⟨k, m', parts, rfl, rfl, hk, hm', hh⟩ := hrel
        by_cases hkn : k < p.length
        · obtain ⟨hO2, hb2, hcl, hw2⟩ := hh.out
          have HO2 := Lib.hid hO2
          have HB2 := Lib.hid hb2
          have HCL := Lib.hid hcl
          have HW2 := Lib.hid hw2
          clear hh hO2 hcl hw2
          subst hwo
          obtain ⟨ad2, rfl, hcell2⟩ := at_text (Kd.C_below HCP.out hb2) hkn
          obtain ⟨x, hx⟩ : ∃ x, x = p[k]'hkn := ⟨_, rfl⟩
          rw [← hx] at hcell2
          have HW3 := Lib.hid (show wt (p.take (k + 1)) = wt (p.take k) + (1 + x.size) from by rw [wt_take _ _ hkn, hx])
          have HXS := Lib.hid (show x.size ≤ 1048576 from by
            have e1 := wt_mem (hx ▸ List.getElem_mem hkn : x ∈ p)
            have e2 := HW1.out
            have e3 := wts_le ll (i + 1)
            have e4 := HW.out
            omega)
          have BK := Lib.hid (wrap_next hkn HPL.out)
          clear hb2 hx
          have k0 : (0 : Int) ≤ (k : Int) := by omega
          have k1 : (k : Int) < (p.length : Int) := by omega
          obtain ⟨wq, hwq⟩ : ∃ wq, wq = wr := ⟨_, rfl⟩
          go_wp2_with fail
          clear hcell2
          go_loopw [12, 39] (fun v12 v39 w' => ∃ (j : Nat) (b : Bool), v12 = .bool b ∧ v39 = .int .i64 j ∧ j ≤ x.size ∧ w' = wq ∧ Hid (b = true → ∀ c ∈ x.data.toList.take j, c ≠ 126 ∧ c ≠ 94)) (fun _ v39 _ => x.size - (intOf v39).toNat)
          case atStart => exact ⟨0, true, rfl, rfl, by omega, hwq.symm, Lib.hid (by simp)⟩
          case round =>
            obtain ⟨j, b, rfl, rfl, hj, hw', hh⟩ := hrel
            subst hw'
            subst hwq
            by_cases hjn : j < x.size
            · have j0 : (0 : Int) ≤ (j : Int) := by omega
              have j1 : (j : Int) < (x.size : Int) := by omega
              have BJ := Lib.hid (wrap_next hjn HXS.out)
              cases b with
              | false =>
                go_wp2_with fail
                exact ⟨⟨j + 1, false, by first | rfl | trivial, by first | rfl | exact congrArg _ BJ.out, hjn, by first | rfl | trivial, Lib.hid (by simp)⟩, by first | exact meas hjn BJ.out | exact meas hjn rfl⟩
              | true =>
                by_cases h1 : ((x[j]'hjn).toNat : Int) = 126
                · have h1a : (((x[j]'hjn).toNat : Int) == 126) = true := beq_iff_eq.2 h1
                  have h1b : (((x[j]'hjn).toNat : Int) != 126) = false := by rw [bne, h1a]; rfl
                  go_wp2_with fail
                  exact ⟨⟨j + 1, false, by first | rfl | trivial, by first | rfl | exact congrArg _ BJ.out, hjn, by first | rfl | trivial, Lib.hid (by simp)⟩, by first | exact meas hjn BJ.out | exact meas hjn rfl⟩
                · have h1a : (((x[j]'hjn).toNat : Int) == 126) = false := beq_eq_false_iff_ne.2 h1
                  have h1b : (((x[j]'hjn).toNat : Int) != 126) = true := by rw [bne, h1a]; rfl
                  by_cases h2 : ((x[j]'hjn).toNat : Int) = 94
                  · have h2a : (((x[j]'hjn).toNat : Int) == 94) = true := beq_iff_eq.2 h2
                    have h2b : (((x[j]'hjn).toNat : Int) != 94) = false := by rw [bne, h2a]; rfl
                    go_wp2_with fail
                    exact ⟨⟨j + 1, false, by first | rfl | trivial, by first | rfl | exact congrArg _ BJ.out, hjn, by first | rfl | trivial, Lib.hid (by simp)⟩, by first | exact meas hjn BJ.out | exact meas hjn rfl⟩
                  · have h2a : (((x[j]'hjn).toNat : Int) == 94) = false := beq_eq_false_iff_ne.2 h2
                    have h2b : (((x[j]'hjn).toNat : Int) != 94) = true := by rw [bne, h2a]; rfl
                    go_wp2_with fail
                    refine ⟨⟨j + 1, true, by first | rfl | trivial, by first | rfl | exact congrArg _ BJ.out, hjn, by first | rfl | trivial, Lib.hid (fun _ c hc => ?_)⟩, by first | exact meas hjn BJ.out | exact meas hjn rfl⟩
                    rcases text_at hjn hc with hc | hc
                    · exact hh.out rfl c hc
                    · rw [hc]
                      exact ⟨fun e => h1 (by rw [e]; rfl), fun e => h2 (by rw [e]; rfl)⟩
            · have hjj : j = x.size := by omega
              subst hjj
              have hcx : b = true → Clean2 x := by
                intro hb c hc
                refine hh.out hb c ?_
                rw [List.take_of_length_le (by rw [Array.length_toList]; exact Nat.le_refl _)]
                exact hc
              have HCX := Lib.hid hcx
              have hsum : m' + (1 + x.size) ≤ wts (ll.take (i + 1)) := by
                have e1 := HW1.out
                have e3 := HW3.out
                have e2 := wt_le p (k + 1)
                omega
              have hsum2 : m' + (1 + x.size) ≤ 1048576 := by
                have e1 := wts_le ll (i + 1)
                have e2 := HW.out
                omega
              have hpl2 : (parts.length + 1) * 16 ≤ 140737488355328 := by
                have e1 := wt_length parts
                have e2 := HW2.out
                omega
              have HS1 := Lib.hid hsum
              have NEXT := Lib.hid (show m' + (1 + x.size) ≤ m + wt (p.take (k + 1)) from by have := HW3.out; omega)
              have NXT := Lib.hid (show wts own + wt parts ≤ m' + (1 + x.size) from by have := HW2.out; omega)
              have NXS := Lib.hid (show wts own + wt (parts ++ [x]) ≤ m' + (1 + x.size) from by have := HW2.out; rw [wt_snoc]; omega)
              have BB := Lib.hid (wrap_two m' x.size hsum2)
              clear hcx hh hsum hsum2
              cases b with
              | false =>
                go_wp2_with fail
                exact ⟨⟨k + 1, m' + (1 + x.size), parts, by first | rfl | exact congrArg _ BB.out, by first | rfl | exact congrArg _ BK.out, hkn, NEXT.out, Lib.hid ⟨HO2.out, HB2.out, HCL.out, NXT.out⟩⟩, by first | exact meas hkn BK.out | exact meas hkn rfl⟩
              | true =>
                go_wp2_with (first | ((with_reducible refine gate_builtin (b := .append) (xs := #[.tmp 62, .tmp 64]) rfl ?_); at_builtin; refine Kd.R_append Kd.string (w0 := wo) wo.heap.size rfl (.tmp 62) (.tmp 64) 34 9 (.string ⟨#[]⟩) 16 rfl Try.underlying34 info_str rfl (by decide) (by omega) u9 parts x [.string x] (fun _ => True) (fun _ => False) rfl rfl ?aP (fun _ hk => hk.elim) ?aF ?aO ?aB ?aS ?aL ?_; (case aP => exact rfl); (case aB => exact HB2.out); (case aF => exact (fun _ _ => trivial)); (case aO => exact HO2.out); (case aS => exact HB2.out.size); (case aL => exact hpl2); intro v65 w65 ho hb hg hat; have HO3 := Lib.hid ho; have HB3 := Lib.hid hb; clear ho hb hg hat) | fail)
                refine ⟨⟨k + 1, m' + (1 + x.size), parts ++ [x], by first | rfl | exact congrArg _ BB.out, by first | rfl | exact congrArg _ BK.out, hkn, NEXT.out, Lib.hid ⟨HO3.out, HB3.out, ?_, NXS.out⟩⟩, by first | exact meas hkn BK.out | exact meas hkn rfl⟩
                intro y hy
                rcases List.mem_append.1 hy with hy | hy
                · exact HCL.out y hy
                · rw [List.mem_singleton.1 hy]
                  exact HCX.out rfl
        · have hkk : k = p.length := by omega
          subst hkk
          rw [List.take_length] at hm'
          obtain ⟨hO2, hb2, hcl, hw2⟩ := hh.out
          clear hh
          subst hwo
          have hmm : m' ≤ wts (ll.take (i + 1)) := by have := HW1.out; omega
          have HMM := Lib.hid hmm
          obtain ⟨Aq, cq, eq⟩ := Kd.R_slice hO2
          subst eq
          have HB3 := Lib.hid (below_step HBR.out hb2)
          have HO3 := Lib.hid (Kd.R_below HO.out hb2)
          have HO2 := Lib.hid hO2
          have HCL := Lib.hid hcl
          have HW2 := Lib.hid hw2
          have HB2 := Lib.hid hb2
          clear hm' hmm hb2 hO2 hcl hw2
          by_cases h0 : parts.length = 0
          · have h1 : parts = [] := List.eq_nil_of_length_eq_zero h0
            subst h1
            have q1 : (0 : Int) < (([] : List ByteArray).length : Int) → False := by simp
            go_wp2_with fail
            exact ⟨⟨i + 1, m', own, by first | rfl | trivial, by first | rfl | exact congrArg _ BI.out, hin, HMM.out, Lib.hid ⟨HO3.out, HB3.out, HK.out, by have := HW2.out; simp [wt] at this; omega⟩⟩, by first | exact meas hin BI.out | exact meas hin rfl⟩
          · have q1 : (0 : Int) < (parts.length : Int) := by omega
            have hown : (own.length + 1) * 24 ≤ 140737488355328 := by
              have e1 := wts_length (l := own) (fun p hp => (HK.out p hp).1)
              have e2 := HW2.out
              have e3 := HMM.out
              have e4 := wts_le ll (i + 1)
              have e5 := HW.out
              omega
            have hM : (Kd.slice 9 Kd.string).M wr w1.heap.size (fun k => wo.heap.size ≤ k) parts [.slice Aq parts.length cq] := ⟨_, rfl, Kd.R_lower (Kd.R_mono (Kd.R_bound HO2.out) (fun _ hk => hk.2.1)) HBR.out.size⟩
            have hokp : ∀ k, wo.heap.size ≤ k → True ∧ some k ≠ u6.ownBlock := fun k hk => ⟨trivial, fun he => by have := Kd.R_lt HO.out k he.symm; omega⟩
            have HMP := Lib.hid hM
            have HKP := Lib.hid hokp
            have HOL := Lib.hid hown
            clear hM hokp hown
            go_wp2_with (first | ((with_reducible refine gate_builtin (b := .append) (xs := #[.tmp 70, .tmp 72]) rfl ?_); at_builtin; refine Kd.R_append (Kd.slice 9 Kd.string) (w0 := w1) w1.heap.size rfl (.tmp 70) (.tmp 72) 32 34 (.slice none 0 0) 24 rfl Try.underlying32 info_row rfl (by decide) (by omega) u6 own parts [.slice Aq parts.length cq] (fun _ => True) (fun k => wo.heap.size ≤ k) rfl rfl ?aP ?aK ?aF ?aO ?aB ?aS ?aL ?_; (case aP => exact HMP.out); (case aK => exact HKP.out); (case aB => exact HB3.out); (case aF => exact (fun _ _ => trivial)); (case aO => exact HO3.out); (case aS => exact HB3.out.size); (case aL => exact HOL.out); intro v73 w73 ho hb hg hat; have HO4 := Lib.hid ho; have HB4 := Lib.hid hb; clear ho hb hg hat) | fail)
            refine ⟨⟨i + 1, m', own ++ [parts], by first | rfl | trivial, by first | rfl | exact congrArg _ BI.out, hin, HMM.out, Lib.hid ⟨HO4.out, HB4.out, ?_, by have := HW2.out; rw [wts_snoc]; omega⟩⟩, by first | exact meas hin BI.out | exact meas hin rfl⟩
            intro y hy
            rcases List.mem_append.1 hy with hy | hy
            · exact HK.out y hy
            · rw [List.mem_singleton.1 hy]
              exact ⟨fun e => h0 (by rw [e]; rfl), HCL.out⟩
    · have hii : i = ll.length := by omega
      subst hii
      obtain ⟨hO, hbr, hk, how⟩ := hh.out
      clear hh
      rw [List.take_length] at hm
      have HO := Lib.hid hO
      have HBR := Lib.hid (below_step HB1.out hbr)
      have HD2 := Lib.hid (blk_below HD.out hbr)
      have HK := Lib.hid hk
      have HOW := Lib.hid how
      clear hO hbr hk how
      obtain ⟨A6, c6, e6⟩ := Kd.R_slice HO.out
      subst e6
      go_wp2_with fail
      refine (lamplighterlaw08_alive.calls true _ hal).mono ?_
      rintro e w2 ⟨rfl, hb2⟩
      have HO2 := Lib.hid (Kd.R_below HO.out hb2)
      have HB2 := Lib.hid (below_step HBR.out hb2)
      have HD3 := Lib.hid (blk_below HD2.out hb2)
      clear hb2 HO HBR HD2 HR1 HD
      by_cases q1 : (800 : Int) < (m : Int)
      · go_wp2_with fail
        refine (lamplighterlaw08_alive.calls true _ hal).mono ?_
        rintro e wz ⟨rfl, hbz⟩
        have HBZ := Lib.hid (below_step HB2.out hbz)
        clear hbz
        go_wp2_with fail
        go_ret
        exact ⟨rfl, HBZ.out⟩
      · by_cases q2 : own.length = 0
        · have q2' : ((own.length : Nat) : Int) = 0 := by omega
          rw [q2]
          go_wp2_with fail
          refine (lamplighterlaw08_alive.calls true _ hal).mono ?_
          rintro e wz ⟨rfl, hbz⟩
          have HBZ := Lib.hid (below_step HB2.out hbz)
          clear hbz
          go_wp2_with fail
          go_ret
          exact ⟨rfl, HBZ.out⟩
        · have q2' : ¬ ((own.length : Nat) : Int) = 0 := by omega
          have q2b : (((own.length : Nat) : Int) == 0) = false := beq_eq_false_iff_ne.2 q2'
          have h800 : wts own ≤ 800 := by have := HOW.out; omega
          have hne : own ≠ [] := by
            intro e
            rw [e] at q2
            exact q2 rfl
          have HN := Lib.hid (HP.out own HK.out hne h800)
          have HCO := Lib.hid (Kd.R_reads' HO2.out).2.2
          have HOL := Lib.hid (show own.length ≤ 800 from by
            have := wts_length (l := own) (fun p hp => (HK.out p hp).1)
            omega)
          have H8 := Lib.hid h800
          have HOLM := Lib.hid (show own.length ≤ 1048576 from by have := HOL.out; omega)
          clear hne h800 HO2
          go_wp2_with fail
          clear q2b
          obtain ⟨wf, hwf⟩ : ∃ wf, wf = w2 := ⟨_, rfl⟩
          go_loopw [4, 89] (fun v4 v89 w' => ∃ (i : Nat) (F : ByteArray), v4 = .string F ∧ v89 = .int .i64 i ∧ i ≤ own.length ∧ w' = wf ∧ Hid (F.data.toList = nestOf (own.take i) ∧ F.size ≤ 1000000 * i)) (fun _ v89 _ => own.length - (intOf v89).toNat)
          case atStart => exact ⟨0, ⟨#[]⟩, rfl, rfl, by omega, hwf.symm, Lib.hid ⟨rfl, Nat.le_refl 0⟩⟩
          case round =>
            obtain ⟨i, F, rfl, rfl, hi, hw', hh⟩ := hrel
            subst hw'
            subst hwf
            by_cases hin : i < own.length
            · obtain ⟨hF, hFs⟩ := hh.out
              clear hh
              obtain ⟨ad, Ap, cp, rfl, hcell, hcp, hCp⟩ := at_rows HCO.out hin
              obtain ⟨p, hp⟩ : ∃ p, p = own[i]'hin := ⟨_, rfl⟩
              rw [← hp] at hcell hcp hCp
              have hpm : p ∈ own := by rw [hp]; exact List.getElem_mem hin
              have HWP := Lib.hid (show wt p ≤ 800 from Nat.le_trans (wts_mem hpm) H8.out)
              have HPL := Lib.hid (show p.length ≤ 800 from Nat.le_trans (wt_length p) HWP.out)
              have HPLM := Lib.hid (show p.length ≤ 1048576 from by have := HPL.out; omega)
              have HTK := Lib.hid (show own.take (i + 1) = own.take i ++ [p] from by rw [List.take_succ_eq_append_getElem hin, hp])
              have HCP := Lib.hid hCp
              have BI := Lib.hid (wrap_next hin HOLM.out)
              have HF := Lib.hid hF
              clear hF hp hpm hCp
              have hi8 : F.size ≤ 800000000 := by have := HOL.out; omega
              have hFI := Lib.hid hFs
              clear hFs
              have i0 : (0 : Int) ≤ (i : Int) := by omega
              have i1 : (i : Int) < (own.length : Int) := by omega
              by_cases hz : i = 0
              · have hz0 : ¬ (0 : Int) < (i : Int) := by omega
                have HF1 := Lib.hid (show F.data.toList ++ repOf p = nestOf (own.take (i + 1)) from by
                  have e : own.take i = [] := by rw [hz]; rfl
                  rw [HTK.out, HF.out, nestOf_snoc, if_pos e, e]
                  rfl)
                have hF1s : F.size ≤ 1000000 * i + 1 := by have := hFI.out; omega
                have HF1S := Lib.hid hF1s
                clear hF1s hz
                go_wp2_with fail
                clear hcell
                obtain ⟨wg, hwg⟩ : ∃ wg, wg = wr := ⟨_, rfl⟩
                go_loopw [4, 100] (fun v4 v100 w' => ∃ (k : Nat) (G : ByteArray), v4 = .string G ∧ v100 = .int .i64 k ∧ k ≤ p.length ∧ w' = wg ∧ Hid (G.data.toList = F.data.toList ++ repOf (p.take k) ∧ G.size ≤ F.size + 1000 * k)) (fun _ v100 _ => p.length - (intOf v100).toNat)
                case atStart => exact ⟨0, F, rfl, rfl, by omega, hwg.symm, Lib.hid ⟨by simp [repOf, joinL], Nat.le_refl _⟩⟩
                case round =>
                  obtain ⟨k, G, rfl, rfl, hk, hw', hh⟩ := hrel
                  subst hw'
                  subst hwg
                  obtain ⟨hG, hGs⟩ := hh.out
                  have HG := Lib.hid hG
                  clear hh hG
                  by_cases hkn : k < p.length
                  · obtain ⟨ad2, rfl, hcell2⟩ := at_text HCP.out hkn
                    obtain ⟨x, hx⟩ : ∃ x, x = p[k]'hkn := ⟨_, rfl⟩
                    rw [← hx] at hcell2
                    have hxs : x.size ≤ 800 := Nat.le_trans (wt_mem (hx ▸ List.getElem_mem hkn : x ∈ p)) HWP.out
                    have HTK2 := Lib.hid (show p.take (k + 1) = p.take k ++ [x] from by rw [List.take_succ_eq_append_getElem hkn, hx])
                    have BK := Lib.hid (wrap_next hkn HPLM.out)
                    clear hx
                    have k0 : (0 : Int) ≤ (k : Int) := by omega
                    have k1 : (k : Int) < (p.length : Int) := by omega
                    have hG8 : G.size ≤ 900000000 := by have := HPL.out; omega
                    by_cases hkz : k = 0
                    · have hkz0 : ¬ (0 : Int) < (k : Int) := by omega
                      have e : p.take k = [] := by rw [hkz]; rfl
                      have c3 : (9223372036854775807 < G.size + x.size) = False := eq_false (by omega)
                      have c4 : G.size + x.size ≤ 9223372036854775807 := by omega
                      have HE := Lib.hid (show (G ++ x).data.toList = F.data.toList ++ repOf (p.take (k + 1)) from by
                        rw [HTK2.out, repOf_snoc, if_pos e, ByteArray.data_append, Array.toList_append, HG.out, e]
                        simp [repOf, joinL])
                      have HES := Lib.hid (show (G ++ x).size ≤ F.size + 1000 * (k + 1) from by rw [ByteArray.size_append]; omega)
                      clear e hkz
                      go_wp2_with fail
                      exact ⟨⟨k + 1, G ++ x, by first | rfl | trivial, by first | rfl | exact congrArg _ BK.out, hkn, by first | rfl | trivial, Lib.hid ⟨HE.out, HES.out⟩⟩, by first | exact meas hkn BK.out | exact meas hkn rfl⟩
                    · have hkz1 : (0 : Int) < (k : Int) := by omega
                      have c1 : (9223372036854775807 < G.size + 1) = False := eq_false (by omega)
                      have c2 : G.size + 1 ≤ 9223372036854775807 := by omega
                      have c3 : (9223372036854775807 < G.size + 1 + x.size) = False := eq_false (by omega)
                      have c4 : G.size + 1 + x.size ≤ 9223372036854775807 := by omega
                      have HE := Lib.hid (show ((G ++ (⟨#[94]⟩ : ByteArray)) ++ x).data.toList = F.data.toList ++ repOf (p.take (k + 1)) from by
                        have e : p.take k ≠ [] := by
                          intro h
                          have := congrArg List.length h
                          rw [List.length_take, List.length_nil] at this
                          omega
                        rw [HTK2.out, repOf_snoc, if_neg e, ByteArray.data_append, Array.toList_append, ByteArray.data_append, Array.toList_append, HG.out, show (⟨#[94]⟩ : ByteArray).data.toList = [94] from rfl]
                        simp [List.append_assoc])
                      have HES := Lib.hid (show ((G ++ (⟨#[94]⟩ : ByteArray)) ++ x).size ≤ F.size + 1000 * (k + 1) from by
                        have e : (⟨#[94]⟩ : ByteArray).size = 1 := rfl
                        rw [ByteArray.size_append, ByteArray.size_append, e]
                        omega)
                      go_wp2_with fail
                      exact ⟨⟨k + 1, (G ++ (⟨#[94]⟩ : ByteArray)) ++ x, by first | rfl | trivial, by first | rfl | exact congrArg _ BK.out, hkn, by first | rfl | trivial, Lib.hid ⟨HE.out, HES.out⟩⟩, by first | exact meas hkn BK.out | exact meas hkn rfl⟩
                  · have hkk : k = p.length := by omega
                    subst hkk
                    have HE := Lib.hid (show G.data.toList = nestOf (own.take (i + 1)) from by rw [HG.out, List.take_length, HF1.out])
                    have HES := Lib.hid (show G.size ≤ 1000000 * (i + 1) from by have := HPL.out; have := HF1S.out; omega)
                    go_wp2_with fail
                    exact ⟨⟨i + 1, G, by first | rfl | trivial, by first | rfl | exact congrArg _ BI.out, hin, by first | rfl | trivial, Lib.hid ⟨HE.out, HES.out⟩⟩, by first | exact meas hin BI.out | exact meas hin rfl⟩
              · have hz1 : (0 : Int) < (i : Int) := by omega
                have c1 : (9223372036854775807 < F.size + 1) = False := eq_false (by omega)
                have c2 : F.size + 1 ≤ 9223372036854775807 := by omega
                have hF1e : (F ++ (⟨#[126]⟩ : ByteArray)).size = F.size + 1 := by rw [ByteArray.size_append]; rfl
                have HF1 := Lib.hid (show (F ++ (⟨#[126]⟩ : ByteArray)).data.toList ++ repOf p = nestOf (own.take (i + 1)) from by
                  have e : own.take i ≠ [] := by
                    intro h
                    have := congrArg List.length h
                    rw [List.length_take, List.length_nil] at this
                    omega
                  rw [HTK.out, nestOf_snoc, if_neg e, ByteArray.data_append, Array.toList_append, HF.out, List.append_assoc]
                  rfl)
                have HF1S := Lib.hid (show (F ++ (⟨#[126]⟩ : ByteArray)).size ≤ 1000000 * i + 1 from by rw [hF1e]; have := hFI.out; omega)
                have hF18 : (F ++ (⟨#[126]⟩ : ByteArray)).size ≤ 800000001 := by rw [hF1e]; omega
                clear hF1e
                go_wp2_with fail
                clear hcell c1 c2 hi8 HF hFI
                generalize F ++ (⟨#[126]⟩ : ByteArray) = F1 at HF1 HF1S hF18 ⊢
                have hi8 : F1.size ≤ 800000001 := hF18
                clear hF18
                obtain ⟨wg, hwg⟩ : ∃ wg, wg = wr := ⟨_, rfl⟩
                go_loopw [4, 100] (fun v4 v100 w' => ∃ (k : Nat) (G : ByteArray), v4 = .string G ∧ v100 = .int .i64 k ∧ k ≤ p.length ∧ w' = wg ∧ Hid (G.data.toList = F1.data.toList ++ repOf (p.take k) ∧ G.size ≤ F1.size + 1000 * k)) (fun _ v100 _ => p.length - (intOf v100).toNat)
                case atStart => exact ⟨0, F1, rfl, rfl, by omega, hwg.symm, Lib.hid ⟨by simp [repOf, joinL], Nat.le_refl _⟩⟩
                case round =>
                  obtain ⟨k, G, rfl, rfl, hk, hw', hh⟩ := hrel
                  subst hw'
                  subst hwg
                  obtain ⟨hG, hGs⟩ := hh.out
                  have HG := Lib.hid hG
                  clear hh hG
                  by_cases hkn : k < p.length
                  · obtain ⟨ad2, rfl, hcell2⟩ := at_text HCP.out hkn
                    obtain ⟨x, hx⟩ : ∃ x, x = p[k]'hkn := ⟨_, rfl⟩
                    rw [← hx] at hcell2
                    have hxs : x.size ≤ 800 := Nat.le_trans (wt_mem (hx ▸ List.getElem_mem hkn : x ∈ p)) HWP.out
                    have HTK2 := Lib.hid (show p.take (k + 1) = p.take k ++ [x] from by rw [List.take_succ_eq_append_getElem hkn, hx])
                    have BK := Lib.hid (wrap_next hkn HPLM.out)
                    clear hx
                    have k0 : (0 : Int) ≤ (k : Int) := by omega
                    have k1 : (k : Int) < (p.length : Int) := by omega
                    have hG8 : G.size ≤ 900000000 := by have := HPL.out; omega
                    by_cases hkz : k = 0
                    · have hkz0 : ¬ (0 : Int) < (k : Int) := by omega
                      have e : p.take k = [] := by rw [hkz]; rfl
                      have c3 : (9223372036854775807 < G.size + x.size) = False := eq_false (by omega)
                      have c4 : G.size + x.size ≤ 9223372036854775807 := by omega
                      have HE := Lib.hid (show (G ++ x).data.toList = F1.data.toList ++ repOf (p.take (k + 1)) from by
                        rw [HTK2.out, repOf_snoc, if_pos e, ByteArray.data_append, Array.toList_append, HG.out, e]
                        simp [repOf, joinL])
                      have HES := Lib.hid (show (G ++ x).size ≤ F1.size + 1000 * (k + 1) from by rw [ByteArray.size_append]; omega)
                      clear e hkz
                      go_wp2_with fail
                      exact ⟨⟨k + 1, G ++ x, by first | rfl | trivial, by first | rfl | exact congrArg _ BK.out, hkn, by first | rfl | trivial, Lib.hid ⟨HE.out, HES.out⟩⟩, by first | exact meas hkn BK.out | exact meas hkn rfl⟩
                    · have hkz1 : (0 : Int) < (k : Int) := by omega
                      have c1 : (9223372036854775807 < G.size + 1) = False := eq_false (by omega)
                      have c2 : G.size + 1 ≤ 9223372036854775807 := by omega
                      have c3 : (9223372036854775807 < G.size + 1 + x.size) = False := eq_false (by omega)
                      have c4 : G.size + 1 + x.size ≤ 9223372036854775807 := by omega
                      have HE := Lib.hid (show ((G ++ (⟨#[94]⟩ : ByteArray)) ++ x).data.toList = F1.data.toList ++ repOf (p.take (k + 1)) from by
                        have e : p.take k ≠ [] := by
                          intro h
                          have := congrArg List.length h
                          rw [List.length_take, List.length_nil] at this
                          omega
                        rw [HTK2.out, repOf_snoc, if_neg e, ByteArray.data_append, Array.toList_append, ByteArray.data_append, Array.toList_append, HG.out, show (⟨#[94]⟩ : ByteArray).data.toList = [94] from rfl]
                        simp [List.append_assoc])
                      have HES := Lib.hid (show ((G ++ (⟨#[94]⟩ : ByteArray)) ++ x).size ≤ F1.size + 1000 * (k + 1) from by
                        have e : (⟨#[94]⟩ : ByteArray).size = 1 := rfl
                        rw [ByteArray.size_append, ByteArray.size_append, e]
                        omega)
                      go_wp2_with fail
                      exact ⟨⟨k + 1, (G ++ (⟨#[94]⟩ : ByteArray)) ++ x, by first | rfl | trivial, by first | rfl | exact congrArg _ BK.out, hkn, by first | rfl | trivial, Lib.hid ⟨HE.out, HES.out⟩⟩, by first | exact meas hkn BK.out | exact meas hkn rfl⟩
                  · have hkk : k = p.length := by omega
                    subst hkk
                    have HE := Lib.hid (show G.data.toList = nestOf (own.take (i + 1)) from by rw [HG.out, List.take_length, HF1.out])
                    have HES := Lib.hid (show G.size ≤ 1000000 * (i + 1) from by have := HPL.out; have := HF1S.out; omega)
                    go_wp2_with fail
                    exact ⟨⟨i + 1, G, by first | rfl | trivial, by first | rfl | exact congrArg _ BI.out, hin, by first | rfl | trivial, Lib.hid ⟨HE.out, HES.out⟩⟩, by first | exact meas hin BI.out | exact meas hin rfl⟩
            · have hii : i = own.length := by omega
              subst hii
              obtain ⟨hF, hFs⟩ := hh.out
              clear hh hFs
              rw [List.take_length] at hF
              have hFe : F = strOf (nestOf own) := by rw [← hF, strOf_of]
              subst hFe
              have E := cell_of_cells HD3.out
              have e0 := E 0
              have e1 := E 1
              have e2 := E 2
              have e3 := E 3
              have e4 := E 4
              simp only [List.getElem?_toArray, List.getElem?_cons_zero, List.getElem?_cons_succ] at e0 e1 e2 e3 e4
              clear E
              go_wp2_with fail
              clear e0 e1 e2 e3 e4
              refine (segment_Agains.calls (strOf (nestOf own)) 124 94 126 92 38 (own.length : Int) _ HN.out.1).mono ?_
              rintro e w3 ⟨rfl, hb3⟩
              have HC3 := Lib.hid (Kd.C_below HCO.out hb3)
              have HB3 := Lib.hid (below_step HB2.out hb3)
              have HD4 := Lib.hid (blk_below HD3.out hb3)
              clear hb3 HCO HB2 HD3
              go_wp2_with fail
              go_loopw [122] (fun v122 wr => ∃ i : Nat, v122 = .int .i64 i ∧ i ≤ own.length ∧ Hid (Below w3.heap.size w3 wr)) (fun v122 _ => own.length - (intOf v122).toNat)
              case atStart => exact ⟨0, rfl, by omega, Lib.hid (Below.refl _ _)⟩
              case round =>
                obtain ⟨i, rfl, hi, hbw⟩ := hrel
                by_cases hin : i < own.length
                · obtain ⟨ad, Ap, cp, rfl, hcell, hcp, hCp⟩ := at_rows (Kd.C_below HC3.out hbw.out) hin
                  obtain ⟨hN1, hN2⟩ := HN.out.2 i hin
                  obtain ⟨p, hp⟩ : ∃ p, p = own[i]'hin := ⟨_, rfl⟩
                  rw [← hp] at hcell hcp hCp hN1
                  have hN3 : ∀ (k : Nat) (hk : k < p.length), segment_Part.f (strOf (nestOf own)) ((i : Int) + 1) ((k : Int) + 1) 124 94 126 92 38 = some (p[k]'hk, true) := by
                    subst hp
                    exact hN2
                  have hpm : p ∈ own := by rw [hp]; exact List.getElem_mem hin
                  have HPLM := Lib.hid (show p.length ≤ 1048576 from by
                    have h1 := wt_length p
                    have h2 := wts_mem hpm
                    have h3 := H8.out
                    omega)
                  have BI := Lib.hid (wrap_next hin HOLM.out)
                  have HCP := Lib.hid hCp
                  have HN1 := Lib.hid hN1
                  have HN3 := Lib.hid hN3
                  have HBR := Lib.hid (below_step HB3.out hbw.out)
                  have HD5 := Lib.hid (blk_below HD4.out hbw.out)
                  clear hN1 hN2 hN3 hp hpm hCp
                  have i0 : (0 : Int) ≤ (i : Int) := by omega
                  have i1 : (i : Int) < (own.length : Int) := by omega
                  have E := cell_of_cells HD5.out
                  have e0 := E 0
                  have e1 := E 1
                  have e2 := E 2
                  have e3 := E 3
                  have e4 := E 4
                  simp only [List.getElem?_toArray, List.getElem?_cons_zero, List.getElem?_cons_succ] at e0 e1 e2 e3 e4
                  clear E
                  go_wp2_with fail
                  clear e0 e1 e2 e3 e4 hcell
                  refine (segment_Parts.calls (strOf (nestOf own)) _ 124 94 126 92 38 (p.length : Int) _ (by first | exact HN1.out | exact (congrArg (fun z => segment_Parts.f (strOf (nestOf own)) z 124 94 126 92 38) BI.out).trans HN1.out)).mono ?_
                  rintro e w4 ⟨rfl, hb4⟩
                  have HB4 := Lib.hid (below_step hbw.out hb4)
                  have HC4 := Lib.hid (Kd.C_below HCP.out hb4)
                  clear hb4 hbw HD5 HCP HBR
                  go_wp2_with fail
                  go_loopw [137] (fun v137 wr => ∃ k : Nat, v137 = .int .i64 k ∧ k ≤ p.length ∧ Hid (Below w4.heap.size w4 wr)) (fun v137 _ => p.length - (intOf v137).toNat)
                  case atStart => exact ⟨0, rfl, by omega, Lib.hid (Below.refl _ _)⟩
                  case round =>
                    obtain ⟨k, rfl, hk, hbx⟩ := hrel
                    by_cases hkn : k < p.length
                    · obtain ⟨ad2, rfl, hcell2⟩ := at_text (Kd.C_below HC4.out hbx.out) hkn
                      have HN4 := Lib.hid (HN3.out k hkn)
                      obtain ⟨x, hx⟩ : ∃ x, x = p[k]'hkn := ⟨_, rfl⟩
                      rw [← hx] at hcell2 HN4
                      have BK := Lib.hid (wrap_next hkn HPLM.out)
                      clear hx
                      have k0 : (0 : Int) ≤ (k : Int) := by omega
                      have k1 : (k : Int) < (p.length : Int) := by omega
                      have HB5 := Lib.hid (below_step HB4.out hbx.out)
                      have HD6 := Lib.hid (blk_below HD4.out HB5.out)
                      have E := cell_of_cells HD6.out
                      have e0 := E 0
                      have e1 := E 1
                      have e2 := E 2
                      have e3 := E 3
                      have e4 := E 4
                      simp only [List.getElem?_toArray, List.getElem?_cons_zero, List.getElem?_cons_succ] at e0 e1 e2 e3 e4
                      clear E
                      have p3 : (x.toList == x.toList) = true := beq_self_eq_true _
                      have p4 : (x.toList != x.toList) = false := by simp
                      go_wp2_with fail
                      clear e0 e1 e2 e3 e4 hcell2
                      refine (segment_Part.calls (strOf (nestOf own)) _ _ 124 94 126 92 38 x true _ (by rw [BI.out, BK.out]; exact HN4.out)).mono ?_
                      rintro e w5 ⟨rfl, hb5⟩
                      have HB6 := Lib.hid (below_step hbx.out hb5)
                      clear hb5 hbx HD6 HB5
                      go_wp2_with fail
                      exact ⟨⟨k + 1, by first | rfl | exact congrArg _ BK.out, hkn, HB6⟩, by first | exact meas hkn BK.out | exact meas hkn rfl⟩
                    · have hkk : k = p.length := by omega
                      have HB5 := Lib.hid (below_step HB4.out hbx.out)
                      subst hkk
                      go_wp2_with fail
                      exact ⟨⟨i + 1, by first | rfl | exact congrArg _ BI.out, hin, HB5⟩, by first | exact meas hin BI.out | exact meas hin rfl⟩
                · have hii : i = own.length := by omega
                  subst hii
                  have HBE := Lib.hid (below_step HB3.out hbw.out)
                  clear hbw
                  go_wp2_with fail
                  go_ret
                  exact ⟨rfl, HBE.out⟩
end Go.Proofs.Ytabddkoehdddoaa
