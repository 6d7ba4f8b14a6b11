/- What escape.tell tells of an escape's inside: a walk; conditions: the five signs may be signs, the text has at most 1000000 bytes. -/
import Derived.Test.YtokpkdmkdolmdaaDoorTellP
import Derived.Shelf.Strings.SlTrimAscii
namespace Go.Proofs.YtokpkdmkdolmdaaDoor
open Go Go.RowKit Go.Maps Go.Proofs.YtokpkdmkdolmdaaDoorW.PrintWords Go.Proofs.YtokpkdmkdolmdaaDoorW.PrintLast Go.Proofs.YtokpkdmkdolmdaaDoorW.PrintMore
set_option linter.unusedVariables false

def tellR (o : Option (List UInt8)) : Value := .tuple #[.string (insStr o), .bool o.isSome]
theorem sg_b5 {a0 a1 a2 a3 a4 : Int} (h : Sg a0 a1 a2 a3 a4) : B5 a0 a1 a2 a3 a4 := ⟨ok_byte h.1, ok_byte h.2.1, ok_byte h.2.2.1, ok_byte h.2.2.2.1, ok_byte h.2.2.2.2.1⟩
theorem own_below {w w1 : World} {base n : Nat} {e sz : Nat} {v : Value} {xs : List Value} (h : w.ownsRow base e sz v n xs) (hb : Below w.heap.size w w1) : w1.ownsRow base e sz v n xs := by
  refine ⟨h.1, ?_⟩
  rcases h.2 with h | ⟨g, cap, cur, h1, h2, h3, h4⟩
  · exact Or.inl h
  · exact Or.inr ⟨g, cap, cur, h1, h2, (hb.block g (Array.getElem?_eq_some_iff.1 h3).1).trans h3, h4⟩
theorem trim_calls (h : ByteArray) (hs : h.size ≤ 1000000) (w : World) : Calls Tryd.prog 35 #[.string h, .string ⟨#[48, 49, 50, 51, 52, 53, 54, 55, 56, 57, 65, 66, 67, 68, 69, 70]⟩] w fun e w' => e = .returned (.string ⟨(Lib.trimS h.data.toList hexDigits).toArray⟩) ∧ Below w.heap.size w w' :=
  Any.strings_Trim_laid Tryd.lays160 (by kernel_rfl) h ⟨#[48, 49, 50, 51, 52, 53, 54, 55, 56, 57, 65, 66, 67, 68, 69, 70]⟩ w (by omega) (by decide) (ascii_of_all (by decide))
theorem trim_good (h : ByteArray) (hs : h.size ≤ 1000000) (hg : ∀ b ∈ h.data.toList, (hexV b).isSome = true) (w : World) : Calls Tryd.prog 35 #[.string h, .string ⟨#[48, 49, 50, 51, 52, 53, 54, 55, 56, 57, 65, 66, 67, 68, 69, 70]⟩] w fun e w' => e = .returned (.string ⟨#[]⟩) ∧ Below w.heap.size w w' := by
  have h1 := trim_calls h hs w
  rw [(trim_nil _ _).2 (fun b hb => by rw [digit_is]; exact hg b hb)] at h1
  exact h1
theorem trim_bad (h : ByteArray) (hs : h.size ≤ 1000000) (hg : ¬ ∀ b ∈ h.data.toList, (hexV b).isSome = true) (w : World) : ∃ s : ByteArray, s.toList.isEmpty = false ∧ Calls Tryd.prog 35 #[.string h, .string ⟨#[48, 49, 50, 51, 52, 53, 54, 55, 56, 57, 65, 66, 67, 68, 69, 70]⟩] w fun e w' => e = .returned (.string s) ∧ Below w.heap.size w w' := by
  refine ⟨_, ?_, trim_calls h hs w⟩
  rw [Lib.toList_data]
  cases e : Lib.trimS h.data.toList hexDigits with
  | nil => exact absurd (fun b hb => by rw [← digit_is]; exact (trim_nil _ _).1 e b hb) hg
  | cons a r => rfl
set_option maxHeartbeats 16000000 in
set_option maxRecDepth 100000 in
theorem tell_walk (x : ByteArray) (a0 a1 a2 a3 a4 : Int) (hSg : Sg a0 a1 a2 a3 a4) (hs : x.size ≤ 1000000) (w : World) :
    Calls Tryd.prog 24 #[.string x, .agg #[.int .u8 a0, .int .u8 a1, .int .u8 a2, .int .u8 a3, .int .u8 a4]] w fun e w' => e = .returned (tellR (tellL a0 a1 a2 a3 a4 x.data.toList)) ∧ Below w.heap.size w w' := by
  have HS := Lib.hid hSg
  have K := int_keyed (P := Tryd.prog) (k := 5) (q := .u8) Tryd.underlying5
  have hB5 := sg_b5 hSg
  clear hSg
  obtain ⟨X, hX⟩ : ∃ X, X = x.data.toList := ⟨_, rfl⟩
  rw [← hX]
  have HX := Lib.hid hX
  have hXs : X.length = x.size := by rw [hX, Array.length_toList]; rfl
  clear hX
  go_enter Tryd.func24, Tryd.ntmps24
  go_wp2_with fail
  refine (insides_calls a0 a1 a2 a3 a4 hB5 _).mono ?_
  rintro e w1 ⟨rfl, ho, hb⟩
  have HB := Lib.hid (below_step ((Below.refl w.heap.size w).alloc (Nat.le_refl _) _) hb)
  clear hb
  generalize (w.alloc _).heap.size + 1 = b at ho ⊢
  obtain ⟨DD, hown, hD⟩ := ho
  have HD := Lib.hid hD
  clear hD
  go_wp2_with (first | (at_range; refine wpList_range_own _ rfl _ 41 rfl 5 9 K Tryd.underlying41 _ b 8 DD rfl hown ?_; intro w0 hrg0 hg0 hs0) | fail)
  go_frame
  have HB0 := Lib.hid (HB.out.grown hg0 HB.out.size (fun k e => by cases e))
  have hr1 : w.heap.size ≤ w1.heap.size := HB.out.size
  clear hg0 HB
  go_loopw [6] (fun _ wr => ∃ (left : Lit → Bool) (cnt : Nat), wr.ranges Tryd.prog 5 (plainElem Tryd.prog 9) b w1.heap.size 8 DD left cnt ∧ Hid (Below w.heap.size w wr ∧ ∀ c, 0 ≤ c → c ≤ 255 → left (.int .u8 c) = false → insV a0 a1 a2 a3 a4 c ≠ some X)) (fun _ wr => wr.rangeLeft b w1.heap.size)
  case atStart =>
    refine ⟨_, _, hrg0, Lib.hid ⟨HB0.out, fun c h0 h1 hl => ?_⟩⟩
    have h2 := (HD.out c h0 h1).1
    rw [hl] at h2
    cases hv : insV a0 a1 a2 a3 a4 c with
    | none => simp
    | some y => rw [hv] at h2; cases h2
  case round =>
    clear hrg0 hs0
    obtain ⟨left, cnt, hrg, hh⟩ := hrel
    go_wp2_with (at_next; refine wpList_next_ranges_is _ rfl _ rfl 5 9 .u8 K Tryd.underlying5 Tryd.underlying9 b w1.heap.size 8 _ _ _ rfl hrg ?_ ?_)
    · intro _ hl0
      have hT := tell_not HS.out (x := X) (fun c h0 h1 => hh.out.2 c h0 h1 (hl0 _))
      have HB1 := Lib.hid hh.out.1
      clear hrg hh hl0 HD hown
      have HT := Lib.hid hT
      clear hT
      rcases cutX X with ⟨h, hX1, hX2, hX3⟩ | ⟨hX3, hX4⟩
      · have hcut : ∀ W, Calls Tryd.prog 34 #[.string x, .string ⟨#[88]⟩] W fun e w' => e = .returned (.tuple #[.string ⟨h.toArray⟩, .bool true]) ∧ w' = W := fun W => by
          have := Tryd.strings_CutPrefix x ⟨#[88]⟩ W
          rw [← HX.out] at this
          have e2 : (⟨#[88]⟩ : ByteArray).data.toList = [88] := rfl
          rw [e2, hX2, hX3] at this
          exact this
        clear hX2 hX3
        have hhs : h.length ≤ 1000000 := by rw [hX1] at hXs; simp only [List.length_cons] at hXs; omega
        cases h with
        | nil =>
          have hcut' : ∀ W, Calls Tryd.prog 34 #[.string x, .string ⟨#[88]⟩] W fun e w' => e = .returned (.tuple #[.string ⟨#[]⟩, .bool true]) ∧ w' = W := hcut
          have HT2 := Lib.hid (show tellL a0 a1 a2 a3 a4 X = none from by rw [HT.out, hX1]; rfl)
          clear hcut hX1 hXs
          go_wp2_with fail
          refine (hcut' _).mono ?_
          rintro e w2 ⟨rfl, rfl⟩
          clear hcut'
          go_wp2_with fail
          go_ret2
          exact ⟨by rw [HT2.out]; rfl, HB1.out⟩
        | cons d0 r0 =>
          have HT2 := Lib.hid (show tellL a0 a1 a2 a3 a4 X = hexL (d0 :: r0) from by rw [HT.out, hX1]; rfl)
          clear HT hX1 hXs
          generalize hH : (d0 :: r0) = H at *
          have hHe : H.isEmpty = false := by rw [← hH]; rfl
          clear hH
          obtain ⟨hS, hhS⟩ : ∃ hS : ByteArray, hS = ⟨H.toArray⟩ := ⟨_, rfl⟩
          rw [← hhS] at hcut
          have hSl : hS.data.toList = H := by rw [hhS]
          have hSs : hS.size = H.length := by rw [← hSl, Array.length_toList]; rfl
          have hemp : hS.toList.isEmpty = false := (text_empty hSl).trans hHe
          have HSL := Lib.hid hSl
          have hS1 : hS.size ≤ 1000000 := by omega
          clear hSl hHe hhS
          by_cases hodd : H.length % 2 = 1
          · have hbit : Go.bits .and .i64 (hS.size : Int) 1 = 1 := by rw [low_bit]; omega
            have HT3 := Lib.hid (HT2.out.trans (hexL_odd hodd))
            clear hSs hodd
            go_wp2_with fail
            refine (hcut _).mono ?_
            rintro e w2 ⟨rfl, rfl⟩
            clear hcut
            go_wp2_with fail
            go_ret2
            exact ⟨by rw [HT3.out]; rfl, HB1.out⟩
          · have hbit : Go.bits .and .i64 (hS.size : Int) 1 = 0 := by rw [low_bit]; omega
            have hev : H.length % 2 = 0 := by omega
            by_cases hall : ∀ b ∈ H, (hexV b).isSome = true
            · have htr := Lib.hid (fun W => trim_good hS hS1 (by rw [HSL.out]; exact hall) W)
              obtain ⟨T, hT⟩ := hexL_even H hev hall
              have HT3 := Lib.hid (HT2.out.trans hT)
              have HH := Lib.hid hT
              clear hSs hodd hall hev hT HT2
              go_wp2_with fail
              refine (hcut _).mono ?_
              rintro e w2 ⟨rfl, rfl⟩
              clear hcut
              go_wp2_with fail
              refine (htr.out _).mono ?_
              rintro e w3 ⟨rfl, hb3⟩
              have HB3 := Lib.hid (below_step HB1.out hb3)
              clear htr hb3 hbit hemp HB1
              go_wp2_with fail
              go_loopw [8, 10] (fun v8 v10 wr => ∃ (R : ByteArray) (rest acc : List UInt8), v8 = .string R ∧ wr.ownsRow w.heap.size 5 1 v10 acc.length (nums .u8 (numsOf acc)) ∧ Hid (Below w.heap.size w wr ∧ R = ⟨rest.toArray⟩ ∧ acc.length + rest.length ≤ 1000000 ∧ ∃ t, hexL rest = some t ∧ T = acc ++ t)) (fun v8 _ _ => strLen v8)
              case atStart =>
                exact ⟨hS, H, [], rfl, World.ownsRow_nil .., Lib.hid ⟨HB3.out, by rw [← HSL.out], by simpa using hhs, T, HH.out, rfl⟩⟩
              case round =>
                obtain ⟨R, rest, acc, rfl, hown9, hh9⟩ := hrel
                obtain ⟨hB9, hR9, hl9, t9, ht9, hT9⟩ := hh9.out
                clear hh9
                rcases rest with _ | ⟨a, _ | ⟨b', r⟩⟩
                ·
                  cases ht9
                  rw [List.append_nil] at hT9
                  have HT4 := Lib.hid (HT3.out.trans (congrArg some hT9))
                  have HB9 := Lib.hid hB9
                  have hcv := own_string (P := Tryd.prog) (w := wr) (src := 31) (dst := 9) Tryd.underlying31 Tryd.underlying5 Tryd.underlying9 hown9
                  rw [str_numsOf] at hcv
                  clear HT3 HH hT9 hB9 hl9
                  have hR0 : R = ⟨#[]⟩ := hR9
                  subst hR0
                  go_wp2_with fail
                  go_ret2
                  exact ⟨by rw [HT4.out]; rfl, HB9.out⟩
                · cases ht9
                ·
                  unfold hexL at ht9
                  obtain ⟨px, hpx, ht9⟩ := Option.bind_eq_some_iff.1 ht9
                  obtain ⟨py, hpy, ht9⟩ := Option.bind_eq_some_iff.1 ht9
                  obtain ⟨tr, htr, ht9⟩ := Option.bind_eq_some_iff.1 ht9
                  cases ht9
                  have hRs : R.size = r.length + 2 := by rw [hR9]; rfl
                  have hR2 : (2 : Int) ≤ (R.size : Int) := by rw [hRs]; omega
                  have hRe : R.toList.isEmpty = false := by rw [hR9, Lib.toList_data]; rfl
                  have HC2 := Lib.hid (show (R.extract 0 2).data.toList = [a, b'] by rw [hR9]; exact cut_two a b' r)
                  have HCR := Lib.hid (show R.extract 2 R.size = ⟨r.toArray⟩ by rw [hRs, hR9]; exact cut_rest a b' r)
                  have hv0 : (16 * px + py) < 256 := by have := hexV_form hpx; have := hexV_form hpy; omega
                  have HP := Lib.hid (fun W => parse_two (R.extract 0 2) a b' HC2.out px py hpx hpy W)
                  have HV := Lib.hid (show (((UInt8.ofNat (16 * px + py)).toNat : Nat) : Int) = ((16 * px + py : Nat) : Int) by rw [UInt8.toNat_ofNat']; omega)
                  have HT5 := Lib.hid hT9
                  have HTR := Lib.hid htr
                  have HB9 := Lib.hid hB9
                  have HL := Lib.hid (show acc.length + (r.length + 2) ≤ 1000000 from hl9)
                  have HR := Lib.hid hRs
                  clear hR9 hpx hpy HC2 hT9 htr hB9 hl9 HT3 HH hRs
                  generalize hv9 : UInt8.ofNat (16 * px + py) = u at HV HT5
                  have hv1 : (0 : Int) ≤ ((16 * px + py : Nat) : Int) := by omega
                  have hv2 : ((16 * px + py : Nat) : Int) ≤ 255 := by omega
                  generalize ((16 * px + py : Nat) : Int) = v at HV HP hv1 hv2
                  clear hv0 hv9
                  go_wp2_with fail
                  refine (HP.out _).mono ?_
                  rintro e w5 ⟨rfl, hb5'⟩
                  have hown5 : w5.ownsRow w.heap.size 5 1 _ acc.length (nums .u8 (numsOf acc)) := own_below hown9 hb5'
                  have HB5 := Lib.hid (below_step HB9.out hb5')
                  clear hown9 hb5' HP HB9
                  have hin := (show (Tryd.prog.info? 5).map (fun i => (i.zero, i.size, i.bytes)) = some (some (.int .u8 0), 1, 1) by kernel_rfl)
                  have hsz5 := HB5.out.size
                  have hlen5 : (acc.length + 1) * 1 ≤ 140737488355328 := by have := HL.out; omega
                  go_wp2_with (at_builtin; refine print_append_cells (P := Tryd.prog) (w0 := w) (W := w5) w.heap.size rfl (.tmp 59) (.tmp 62) 31 5 (.int .u8 0) 1 1 rfl Tryd.underlying31 hin rfl (by decide) (by decide) _ acc.length _ [.int .u8 v] rfl rfl rfl (by simp [Value.oneCell']) hown5 HB5.out hsz5 hlen5 ?_; intro v6 w6 hown6 hb6 _ _; have HB6 := Lib.hid hb6; clear hb6 hown5)
                  refine ⟨⟨_, r, acc ++ [u], rfl, ?_, Lib.hid ⟨HB6.out, HCR.out, by have := HL.out; simp only [List.length_append, List.length_singleton]; omega, tr, HTR.out, by rw [HT5.out]; simp⟩⟩, ?_⟩
                  · have e9 : nums .u8 (numsOf (acc ++ [u])) = nums .u8 (numsOf acc) ++ [.int .u8 v] := by
                      rw [← HV.out]
                      simp [nums, numsOf]
                    rw [e9, List.length_append, List.length_singleton]
                    exact hown6
                  · show (R.extract 2 R.size).size < R.size
                    rw [HCR.out, HR.out]
                    show r.toArray.size < r.length + 2
                    rw [List.size_toArray]
                    omega
            · obtain ⟨s9, hs9, htr⟩ := trim_bad hS hS1 (by rw [HSL.out]; exact hall) wr
              have HTR := Lib.hid htr
              have HT3 := Lib.hid (HT2.out.trans (hexL_bad hall))
              clear hSs hodd hall hev htr
              go_wp2_with fail
              refine (hcut _).mono ?_
              rintro e w2 ⟨rfl, rfl⟩
              clear hcut
              go_wp2_with fail
              refine HTR.out.mono ?_
              rintro e w3 ⟨rfl, hb3⟩
              have HB3 := Lib.hid (below_step HB1.out hb3)
              clear hb3 HTR
              go_wp2_with fail
              go_ret2
              exact ⟨by rw [HT3.out]; rfl, HB3.out⟩
      · have hcut : ∀ W, ∃ s, Calls Tryd.prog 34 #[.string x, .string ⟨#[88]⟩] W fun e w' => e = .returned (.tuple #[.string s, .bool false]) ∧ w' = W := fun W => by
          have := Tryd.strings_CutPrefix x ⟨#[88]⟩ W
          rw [← HX.out] at this
          have e2 : (⟨#[88]⟩ : ByteArray).data.toList = [88] := rfl
          rw [e2, hX3] at this
          exact ⟨_, this⟩
        rw [hX4] at HT
        clear hX3 hX4
        obtain ⟨s9, hcut⟩ := hcut wr
        go_wp2_with fail
        refine hcut.mono ?_
        rintro e w2 ⟨rfl, rfl⟩
        clear hcut
        go_wp2_with fail
        go_ret2
        exact ⟨by rw [HT.out]; rfl, HB1.out⟩
    · intro c y w2 cnt1 hwx hwc hlx hat hrg1 hlt hg1 hs1 hen
      have hcb := lit_byte hwx
      have hgc : insV a0 a1 a2 a3 a4 c = some y.data.toList := by
        have hD := HD.out c hcb.1 hcb.2
        rw [Maps.has_true_of_atKey hat] at hD
        obtain ⟨z, hz⟩ := Option.isSome_iff_exists.1 hD.1.symm
        have h3 := hD.2 z hz (.lit (.string []))
        rw [hat] at h3
        simp only [DataW.lit.injEq, Lit.string.injEq] at h3
        rw [hz, h3]
      have HB2 := Lib.hid (hh.out.1.grown hg1 hh.out.1.size (fun k e => by cases e; exact hr1))
      by_cases hxy : x = y
      · subst hxy
        rw [← HX.out] at hgc
        have HT := Lib.hid (tell_ins hgc)
        clear hgc
        clear hrg hh hlx hat hrg1 hlt hg1 hs1 HD hown
        have hcv : (convert 31 9 (.slice (some ⟨w2.heap.size, 0, none⟩) 1 1)).run Tryd.prog (w2.alloc (.cells #[.int .u8 c] 5)) = .ok (.string ⟨#[xE c]⟩) (w2.alloc (.cells #[.int .u8 c] 5)) :=
          run_convert_bytes_back (P := Tryd.prog) (w2.alloc (.cells #[.int .u8 c] 5)) 31 9 5 ⟨w2.heap.size, 0, none⟩ 1 [xE c] Tryd.underlying31 Tryd.underlying5 Tryd.underlying9 (fun j hj => by
            obtain rfl : j = 0 := by simp only [List.length_singleton] at hj; omega
            show (w2.alloc (.cells #[.int .u8 c] 5)).cell? ⟨w2.heap.size, 0, none⟩ = some (.int .u8 ((xE c).toNat : Int))
            rw [xE_toNat hcb, cell_of_cells (heap_new w2 _)]
            rfl)
        go_wp2_with fail
        go_ret2
        exact ⟨by rw [HT.out]; rfl, HB2.out.alloc HB2.out.size _⟩
      · have hne : y.data.toList ≠ X := fun e => hxy (bytes_eq (by rw [← HX.out, e]))
        have hd : (x.toList == y.toList) = false := by rw [beq_eq_false_iff_ne, Lib.toList_data, Lib.toList_data, HX.out.symm]; exact fun q => hne q.symm
        have HN := Lib.hid (show ∀ c', 0 ≤ c' → c' ≤ 255 → (left (.int .u8 c') && !(Lit.int .u8 c').sameKey (.int .u8 c)) = false → insV a0 a1 a2 a3 a4 c' ≠ some X from fun c' h0 h1 hl => by
          by_cases e : c' = c
          · subst e
            rw [hgc]
            exact fun q => hne (Option.some.inj q)
          · have hne2 : (Lit.int .u8 c').sameKey (.int .u8 c) = false := Maps.sameKey_ne (fun q => e (by simpa using q))
            rw [hne2] at hl
            exact hh.out.2 c' h0 h1 (by simpa using hl))
        clear hat hgc hne hh
        go_wp2_with fail
        go_roundw
        case rel => exact ⟨_, _, hrg1, Lib.hid ⟨HB2.out, HN.out⟩⟩
        case measure => rw [hrg1.left_eq, hrg.left_eq]; omega
end Go.Proofs.YtokpkdmkdolmdaaDoor
