/- Texts of this work merged in their order (a claim may hold 60 files): ParseW, AliveW, EventW, EventA, BldT, FmtW, PMx6, SameW, PMx7, PMx9, PMx11, PMx12. No conditions of its own. -/
import Derived.Test.YtoloooammaiipaaDoorCB4
import Derived.Lib.ItoaLen
import Derived.Lib.FrozenHead2
import Derived.Lib.OthersKept
import Derived.WalkKit
import Derived.BigCall
import Derived.Shelf.Strings.MapGrows
import Derived.StillTailTactics
/- What trace.Parse gives: a walk; conditions: a text of at most 400000 bytes; the tables lie as the program's text lays them. -/
namespace Go.Proofs.YtoloooammaiipaaDoor
open Go Go.RowKit Go.Proofs.YtoloooammaiipaaDoor.PI Go.Proofs.YtoloooammaiipaaDoorW.PrintWords Go.Proofs.YtoloooammaiipaaDoorW.PrintLast Go.Proofs.YtoloooammaiipaaDoorW.PrintMore
set_option linter.unusedVariables false
set_option linter.unusedSimpArgs false
/-- What a text tells of steps, behind steps and lines so far: the steps, the line, the error. -/
def parseL : Nat → List S42 → Nat → List UInt8 → List S42 × Nat × Int
  | 0, L, n, _ => (L, n, 0)
  | k + 1, L, n, s => if s = [] then (L, n, 0) else if (cut1 10 s).2.2 = true ∧ (lineO L (cut1 10 s).1).1 = true then parseL k (lineO L (cut1 10 s).1).2 (n + 1) (cut1 10 s).2.1 else ([], n, 10)
def parseO (s : List UInt8) : List S42 × Nat × Int := parseL s.length [] 0 s
theorem parseL_nil (k : Nat) (L : List S42) (n : Nat) : parseL k L n [] = (L, n, 0) := by cases k <;> rfl
theorem parseL_fuel : ∀ (k k' : Nat) (L : List S42) (n : Nat) (s : List UInt8), s.length ≤ k → s.length ≤ k' → parseL k L n s = parseL k' L n s
  | 0, k', L, n, s, h, _ => by
    obtain rfl := List.eq_nil_of_length_eq_zero (Nat.le_zero.1 h)
    rw [parseL_nil, parseL_nil]
  | k + 1, 0, L, n, s, _, h => by
    obtain rfl := List.eq_nil_of_length_eq_zero (Nat.le_zero.1 h)
    rw [parseL_nil, parseL_nil]
  | k + 1, k' + 1, L, n, s, h, h' => by
    unfold parseL
    split
    · rfl
    split
    · rename_i hc
      have := (cut1_le 10 s).2.2 hc.1
      exact parseL_fuel k k' _ _ _ (by omega) (by omega)
    · rfl
theorem lineO_len (L : List S42) (s : List UInt8) : (lineO L s).2.length ≤ L.length + 1 ∧ ∀ B, (∀ x ∈ L, x.f1.length ≤ B) → ∀ x ∈ (lineO L s).2, x.f1.length ≤ B + 1 := by
  have hset : ∀ (x' : S42) (i : Nat) (B : Nat), (∀ x ∈ L, x.f1.length ≤ B) → x'.f1.length ≤ B + 1 → ∀ x ∈ L.set i x', x.f1.length ≤ B + 1 := fun x' i B h h' x hx => by
    rcases List.mem_or_eq_of_mem_set hx with hx | rfl
    · exact Nat.le_succ_of_le (h x hx)
    · exact h'
  have hget : ∀ (i : Nat) (B : Nat), (∀ x ∈ L, x.f1.length ≤ B) → L ≠ [] → (L.getD (L.length - 1) z42).f1.length ≤ B := fun i B h hn => by
    have hl : L.length - 1 < L.length := by have := List.length_pos_iff.2 hn; omega
    rw [List.getD_eq_getElem?_getD, List.getElem?_eq_getElem hl]
    exact h _ (List.getElem_mem hl)
  unfold lineO
  cases readO s with
  | some x =>
    refine ⟨by simp, fun B h y hy => ?_⟩
    rcases List.mem_append.1 hy with hy | hy
    · exact Nat.le_succ_of_le (h y hy)
    · rw [List.mem_singleton.1 hy]
      exact Nat.zero_le _
  | none =>
    simp only
    by_cases h0 : L = []
    · rw [if_pos h0]
      exact ⟨Nat.le_succ _, fun B h y hy => Nat.le_succ_of_le (h y hy)⟩
    rw [if_neg h0]
    split
    · exact ⟨Nat.le_succ _, fun B h y hy => Nat.le_succ_of_le (h y hy)⟩
    split
    · exact ⟨by simp, fun B h => hset _ _ B h (Nat.le_succ_of_le (hget 0 B h h0))⟩
    split
    · refine ⟨by simp, fun B h => hset _ _ B h ?_⟩
      have := hget 0 B h h0
      simp only [List.length_append, List.length_singleton]
      omega
    · exact ⟨Nat.le_succ _, fun B h y hy => Nat.le_succ_of_le (h y hy)⟩
def strSz : Value → Nat
  | .string t => t.size
  | _ => 0
def ParsePost (s : ByteArray) (w : World) (e : Ending) (w' : World) : Prop :=
  Below w.heap.size w w' ∧ ∃ v, e = .returned (.tuple #[v, .int .i64 ((parseO s.data.toList).2.1 : Int), .int .i64 (parseO s.data.toList).2.2]) ∧ Kd.S k42 42 w' w.heap.size (fun _ => True) v (parseO s.data.toList).1
set_option maxHeartbeats 8000000 in
set_option maxRecDepth 100000 in
theorem parse_walk (s : ByteArray) (hs : s.size ≤ 400000) (w : World) (hG : GlobT w) :
    Calls Tryd.prog 23 #[.string s] w (ParsePost s w) := by
  have HG := Lib.hid hG
  have HS := Lib.hid hs
  clear hG hs
  go_enter Tryd.func23, Tryd.ntmps23
  go_wp2_with fail
  have HB0 := Lib.hid (below_alloc (Below.refl w.heap.size w) (.cells #[.slice none 0 0] 86 (0, 0)))
  have HP0 := Lib.hid (blk_new w (.cells #[.slice none 0 0] 86 (0, 0)))
  generalize hw0 : w.alloc (.cells #[.slice none 0 0] 86) = w0 at HB0 HP0 ⊢
  clear hw0
  obtain ⟨pb, hpb⟩ : ∃ pb, pb = w.heap.size := ⟨_, rfl⟩
  rw [← hpb] at HB0 HP0 ⊢
  have HPB := Lib.hid hpb
  clear hpb
  go_loopw [0, 6] (fun v0 v6 wr => ∃ (n : Nat) (t : ByteArray) (L : List S42) (vL : Value), v0 = .string t ∧ v6 = .int .i64 n ∧ n + t.size ≤ s.size ∧ wr.heap[pb]? = some (.cells #[vL] 86 (0, 0)) ∧ Hid (Below pb w wr ∧ Kd.S k42 42 wr (pb + 1) (fun _ => True) vL L ∧ L.length ≤ n ∧ (∀ x ∈ L, x.f1.length ≤ n) ∧ parseO s.data.toList = parseL t.size L n t.data.toList)) (fun v0 _ _ => strSz v0)
  case atStart => exact ⟨0, s, [], .slice none 0 0, rfl, rfl, by omega, HP0.out, Lib.hid ⟨HB0.out, Kd.S_nil _ _ _ _ _, Nat.le_refl _, fun x hx => by simp at hx, by unfold parseO; rw [len_size]⟩⟩
  case round =>
    obtain ⟨n, t, L, vL, rfl, rfl, hnt, hP, hh⟩ := hrel
    obtain ⟨hb, hS, hLn, hOn, hpar⟩ := hh.out
    have HP := Lib.hid hP
    have HB := Lib.hid hb
    have HSS := Lib.hid hS
    have HLN := Lib.hid hLn
    have HON := Lib.hid hOn
    have HPAR := Lib.hid hpar
    have HNT := Lib.hid hnt
    clear hP hh hb hS hLn hOn hpar hnt
    have htl := len_size t
    by_cases ht : t.data.toList = []
    · have p1 : (t.toList == ([] : List UInt8)) = true := by rw [beq_iff_eq, Lib.toList_data]; exact ht
      have p2 : (t.toList != ([] : List UInt8)) = false := by rw [bne_eq_false_iff_eq, Lib.toList_data]; exact ht
      obtain ⟨AL, cL, rfl⟩ := Kd.S_slice HSS.out
      have e0 := cell_of_cells HP.out 0
      simp only [List.getElem?_toArray, List.getElem?_cons_zero] at e0
      have hpo : parseO s.data.toList = (L, n, 0) := by rw [HPAR.out, ht, parseL_nil]
      have HPO := Lib.hid hpo
      have p3 : t.toList.isEmpty = true := by rw [Lib.toList_data, ht]; rfl
      clear ht hpo
      go_wp2_with fail
      exact bodyPost_ret (v := .tuple #[.slice AL L.length cL, .int .i64 (n : Int), .int .i64 0]) (by simp [results, Tryd.results23, go_sem]) rfl ⟨HPB.out ▸ HB.out, _, by rw [HPO.out], by rw [HPO.out]; exact Kd.S_lower HSS.out (by have := HPB.out; omega)⟩
    · have p1 : (t.toList == ([] : List UInt8)) = false := by rw [beq_eq_false_iff_ne, Lib.toList_data]; exact ht
      have p2 : (t.toList != ([] : List UInt8)) = true := by rw [bne_iff_ne, Lib.toList_data]; exact ht
      have p3 : t.toList.isEmpty = false := by rw [Lib.toList_data]; cases h : t.data.toList with | nil => exact absurd h ht | cons => rfl
      obtain ⟨a, b, f, hq⟩ : ∃ a b f, cut1 10 t.data.toList = (a, b, f) := ⟨_, _, _, rfl⟩
      have hs1 := HS.out
      have hnt1 := HNT.out
      have hcut := cut1_is t 10 (by omega)
      have hle := cut1_le 10 t.data.toList
      rw [hq] at hcut hle
      simp only at hcut hle
      rw [htl] at hle
      have hstep : parseO s.data.toList = if f = true ∧ (lineO L a).1 = true then parseL (t.size - 1) (lineO L a).2 (n + 1) b else ([], n, 10) := by
        rw [HPAR.out]
        have htp : 0 < t.size := by rw [← htl]; exact List.length_pos_iff.2 ht
        obtain ⟨k, hk⟩ : ∃ k, t.size = k + 1 := ⟨t.size - 1, by omega⟩
        rw [hk, parseL, if_neg ht, hq]
        rfl
      have HST := Lib.hid hstep
      have HA := Lib.hid (show (strOf a).size ≤ 400000 from by rw [strOf_size]; omega)
      have HN := Lib.hid (hnext (j := n) (n := 1000000) (by omega) (Nat.le_refl _))
      have HL := Lib.hid (show L.length ≤ 1000000 from by have := HLN.out; omega)
      have HLO := Lib.hid (show ∀ x ∈ L, x.f1.length ≤ 1000000 from fun x hx => by have := HON.out x hx; omega)
      have HGW := Lib.hid (show ∀ W, Below pb w W → GlobT W from fun W hW => globt_below HG.out (HPB.out ▸ hW))
      obtain ⟨wa, hwa⟩ : ∃ wa, wa = strOf a := ⟨_, rfl⟩
      obtain ⟨wb, hwb⟩ : ∃ wb, wb = strOf b := ⟨_, rfl⟩
      rw [← hwa, ← hwb] at hcut
      rw [← hwa] at HA
      have hwad : wa.data.toList = a := by rw [hwa, strOf_data]
      have hwbd : wb.data.toList = b := by rw [hwb, strOf_data]
      have HWA := Lib.hid hwad
      have HWB := Lib.hid hwbd
      have HLE := Lib.hid hle
      clear hq hle hstep hwa hwb hwad hwbd ht hs1 hnt1
      go_wp2_with fail
      refine (strings_Cut.calls t ⟨#[10]⟩ _ _ _ _ hcut).mono ?_
      rintro e w1 ⟨rfl, hdr⟩
      have HP1 := Lib.hid (blk_below HP.out hdr.below)
      have HS1 := Lib.hid (Kd.S_below HSS.out hdr.below)
      have HB1 := Lib.hid (HB.out.trans (hdr.below.mono (by have := blk_lt HP.out; omega)))
      clear hdr hcut
      cases f with
      | false =>
        go_wp2_with fail
        have hpo : parseO s.data.toList = ([], n, 10) := by rw [HST.out, if_neg (by intro h; exact absurd h.1 (by decide))]
        exact bodyPost_ret (v := .tuple #[.slice none 0 0, .int .i64 (n : Int), .int .i64 10]) (by simp [results, Tryd.results23, go_sem]) rfl ⟨HPB.out ▸ HB1.out, _, by rw [hpo], by rw [hpo]; exact Kd.S_nil _ _ _ _ _⟩
      | true =>
        go_wp2_with fail
        refine (line_walk pb L vL wa w1 HP1.out HS1.out HL.out HLO.out HA.out (HGW.out _ HB1.out)).mono ?_
        rintro e w2 ⟨hb2, he, v2, hp2, hs2⟩
        have HB2 := Lib.hid (HB1.out.trans hb2)
        have HS2 := Lib.hid hs2
        have HP2 := Lib.hid hp2
        clear hb2 hs2 hp2
        rw [HWA.out] at he HS2
        cases hl : (lineO L a).1 with
        | false =>
          rw [hl] at he
          obtain rfl := he
          have HLF := Lib.hid hl
          clear hl
          go_wp2_with fail
          have hpo : parseO s.data.toList = ([], n, 10) := by rw [HST.out, if_neg (by intro h; have := h.2; rw [HLF.out] at this; cases this)]
          exact bodyPost_ret (v := .tuple #[.slice none 0 0, .int .i64 (n : Int), .int .i64 10]) (by simp [results, Tryd.results23, go_sem]) rfl ⟨HPB.out ▸ HB2.out, _, by rw [hpo], by rw [hpo]; exact Kd.S_nil _ _ _ _ _⟩
        | true =>
          rw [hl] at he
          obtain rfl := he
          have HLF := Lib.hid hl
          clear hl
          go_wp2_with fail
          have hwbs : wb.size + 1 ≤ t.size := by
            have h1 := HLE.out.2.2 (by first | rfl | trivial)
            have h2 := len_size wb
            rw [HWB.out] at h2
            omega
          have hll := lineO_len L a
          refine ⟨⟨n + 1, wb, (lineO L a).2, v2, rfl, by first | rfl | exact congrArg _ HN.out, by have := HNT.out; omega, HP2.out, Lib.hid ⟨HB2.out, HS2.out, by have := HLN.out; omega, hll.2 n HON.out, ?_⟩⟩, ?_⟩
          · rw [HST.out, if_pos ⟨by first | rfl | trivial, HLF.out⟩, HWB.out]
            have h1 := HLE.out.2.2 (by first | rfl | trivial)
            have h2 := len_size wb
            rw [HWB.out] at h2
            exact parseL_fuel _ _ _ _ _ (by omega) (by omega)
          · show wb.size < t.size
            omega
end Go.Proofs.YtoloooammaiipaaDoor
/- What lamplighterlaw19.alive gives: a walk; conditions: the tables lie as the program's text lays them. -/
namespace Go.Proofs.YtoloooammaiipaaDoor
open Go Go.RowKit Go.Proofs.YtoloooammaiipaaDoor.PI Go.Proofs.YtoloooammaiipaaDoorW.PrintWords Go.Proofs.YtoloooammaiipaaDoorW.PrintLast Go.Proofs.YtoloooammaiipaaDoorW.PrintMore
set_option linter.unusedVariables false
set_option linter.unusedSimpArgs false
theorem alive_parse : parseO [105, 110, 32, 48, 98, 48, 100, 10, 98, 97, 99, 107, 32, 45, 10] = ([⟨⟨0, 0, 0, [11, 13]⟩, [⟨true, []⟩], false⟩], 2, 0) := by kernel_rfl
theorem alive_read : readO [116, 105, 99, 107, 32, 48, 53] = none := by decide +kernel
set_option maxHeartbeats 8000000 in
set_option maxRecDepth 100000 in
theorem alive_walk (w : World) (hG : GlobT w) :
    Calls Tryd.prog 10 #[] w fun e w' => e = .returned (.bool true) ∧ Below w.heap.size w w' := by
  have HG := Lib.hid hG
  have HPW := Lib.hid (parse_walk ⟨#[105, 110, 32, 48, 98, 48, 100, 10, 98, 97, 99, 107, 32, 45, 10]⟩ (by decide) w hG)
  clear hG
  go_enter Tryd.func10, Tryd.ntmps10
  go_wp2_with fail
  refine HPW.out.mono ?_
  rintro e w1 ⟨hb1, v, he, hS⟩
  have hpr : parseO (⟨#[105, 110, 32, 48, 98, 48, 100, 10, 98, 97, 99, 107, 32, 45, 10]⟩ : ByteArray).data.toList = ([⟨⟨0, 0, 0, [11, 13]⟩, [⟨true, []⟩], false⟩], 2, 0) := alive_parse
  rw [hpr] at he hS
  simp only at he hS
  obtain rfl := he
  obtain ⟨g, c, rfl, -, hgl, -⟩ := Kd.S_form hS (by decide)
  obtain ⟨oki, cs, hcl, hM, hcc, -, -, -⟩ := Kd.S_elem hS z42 0 (by decide) (by decide)
  obtain ⟨v3, v4, rfl, hR3, hR4⟩ := k42_openM hM
  obtain ⟨A3, c3, rfl⟩ := Kd.R_slice hR3
  obtain ⟨g4, c4, rfl, -, hgl4, -⟩ := Kd.R_form hR4 (by decide)
  obtain ⟨cs4, hcl4, hM4, hcc4, -⟩ := Kd.R_elem hR4 z56 0 (by decide) (by decide)
  obtain ⟨v5, rfl, hR5⟩ := k56_openM hM4
  have h3 : w1.cell? ⟨g, 3, none⟩ = some (.slice A3 2 c3) := hcc 3 _ rfl
  have h4 : w1.cell? ⟨g, 4, none⟩ = some (.slice (some ⟨g4, 0, none⟩) 1 c4) := hcc 4 _ rfl
  have h5 : w1.cell? ⟨g4, 0, none⟩ = some (.bool true) := hcc4 0 _ rfl
  have hC3 := (Kd.R_reads' hR3).2.2
  have HB1 := Lib.hid hb1
  have HRW := Lib.hid (read_walk ⟨#[116, 105, 99, 107, 32, 48, 53]⟩ (by decide) w1 (globt_below HG.out hb1))
  have H3 := Lib.hid h3
  have H4 := Lib.hid h4
  have H5 := Lib.hid h5
  have HC := Lib.hid (show Kd.C (Kd.int .u8) w1 A3 2 [11, 13] from hC3)
  have HC3 := Lib.hid (show (2 : Nat) ≤ c3 from (Kd.R_reads' hR3).2.1)
  clear hb1 hS hcl hM hcc hR3 hR4 hcl4 hM4 hcc4 hR5 h3 h4 h5 hC3
  go_wp2_with fail
  refine HRW.out.mono ?_
  rintro e w2 ⟨hb2, vr, hRr, he⟩
  have hrd : readO (⟨#[116, 105, 99, 107, 32, 48, 53]⟩ : ByteArray).data.toList = none := alive_read
  rw [hrd] at he hRr
  simp only [Option.elim] at he hRr
  obtain rfl := he
  obtain ⟨Ar, cr, rfl⟩ := Kd.R_slice hRr
  have HB2 := Lib.hid (below_step HB1.out hb2)
  have e3 := (cell_same (hb2.block g hgl) 3).trans H3.out
  have e4 := (cell_same (hb2.block g hgl) 4).trans H4.out
  have e5 := (cell_same (hb2.block g4 hgl4) 0).trans H5.out
  have l3 := Nat.lt_of_lt_of_le hgl hb2.size
  have l4 := Nat.lt_of_lt_of_le hgl4 hb2.size
  have HCV := Lib.hid (Kd.C_below HC.out hb2)
  have hcv : ∀ o, (convert 22 9 (.slice A3 2 c3)).run Tryd.prog (w2.alloc o) = .ok (.string (strOfNums [11, 13])) (w2.alloc o) := fun o => Kd.C_string Tryd.underlying22 Tryd.underlying5 Tryd.underlying9 (Kd.C_alloc HCV.out o)
  have hsn : strOfNums [11, 13] = ⟨#[11, 13]⟩ := rfl
  rw [hsn] at hcv
  clear hb2 hRr hrd hsn
  go_wp2_with fail
  go_ret
  exact ⟨rfl, below_alloc HB2.out _⟩
end Go.Proofs.YtoloooammaiipaaDoor
/- What trace.Event gives: walks, one for each set of fields that a kind has; conditions: bytes, at most a million; the tables lie as the program's text lays them. -/
namespace Go.Proofs.YtoloooammaiipaaDoor
open Go Go.RowKit Go.Proofs.YtoloooammaiipaaDoor.PI Go.Proofs.YtoloooammaiipaaDoorW.PrintWords Go.Proofs.YtoloooammaiipaaDoorW.PrintLast Go.Proofs.YtoloooammaiipaaDoorW.PrintMore
set_option linter.unusedVariables false
set_option linter.unusedSimpArgs false
/-- What is wrong with an event of a kind, for the fields it hasn't. -/
def evBad (fd fc fk : Bool) (n keep : Int) (d : List Int) : Prop := (fd = false ∧ 0 < d.length) ∨ (fc = false ∧ n ≠ 0) ∨ (fk = false ∧ keep ≠ 0)
instance (fd fc fk : Bool) (n keep : Int) (d : List Int) : Decidable (evBad fd fc fk n keep d) := by unfold evBad; infer_instance
/-- An event's text, of a kind. -/
def evText (r : KRow) (n keep : Int) (d : List Int) : List UInt8 :=
  ((r.1 ++ (if r.2.1 = true then 32 :: hexT d else [])) ++ (if r.2.2.1 = true then 32 :: Lib.itoa n else [])) ++ (if r.2.2.2 = true then 32 :: Lib.itoa keep else [])
/-- An event's text, or why there is none. -/
def eventO (k n keep : Int) (d : List Int) : List UInt8 × Int :=
  if k < 0 ∨ 9 ≤ k then ([], 17)
  else if evBad (kRows.getD k.toNat ([], false, false, false)).2.1 (kRows.getD k.toNat ([], false, false, false)).2.2.1 (kRows.getD k.toNat ([], false, false, false)).2.2.2 n keep d then ([], 10)
  else (evText (kRows.getD k.toNat ([], false, false, false)) n keep d, 0)
def EventPost (k n keep : Int) (d : List Int) (w : World) (e : Ending) (w' : World) : Prop :=
  e = .returned (.tuple #[.string (strOf (eventO k n keep d).1), .int .i64 (eventO k n keep d).2]) ∧ Below w.heap.size w w'
set_option maxRecDepth 100000 in
theorem kind_cells : ∀ (i j : Nat), i < 9 → j < 4 → (kRows.flatMap kVals)[i * 4 + j]? = (kVals (kRows.getD i ([], false, false, false)))[j]?
  | 0, 0, _, _ => rfl
  | 0, 1, _, _ => rfl
  | 0, 2, _, _ => rfl
  | 0, 3, _, _ => rfl
  | 1, 0, _, _ => rfl
  | 1, 1, _, _ => rfl
  | 1, 2, _, _ => rfl
  | 1, 3, _, _ => rfl
  | 2, 0, _, _ => rfl
  | 2, 1, _, _ => rfl
  | 2, 2, _, _ => rfl
  | 2, 3, _, _ => rfl
  | 3, 0, _, _ => rfl
  | 3, 1, _, _ => rfl
  | 3, 2, _, _ => rfl
  | 3, 3, _, _ => rfl
  | 4, 0, _, _ => rfl
  | 4, 1, _, _ => rfl
  | 4, 2, _, _ => rfl
  | 4, 3, _, _ => rfl
  | 5, 0, _, _ => rfl
  | 5, 1, _, _ => rfl
  | 5, 2, _, _ => rfl
  | 5, 3, _, _ => rfl
  | 6, 0, _, _ => rfl
  | 6, 1, _, _ => rfl
  | 6, 2, _, _ => rfl
  | 6, 3, _, _ => rfl
  | 7, 0, _, _ => rfl
  | 7, 1, _, _ => rfl
  | 7, 2, _, _ => rfl
  | 7, 3, _, _ => rfl
  | 8, 0, _, _ => rfl
  | 8, 1, _, _ => rfl
  | 8, 2, _, _ => rfl
  | 8, 3, _, _ => rfl
  | i + 9, _, h, _ => absurd h (by omega)
  | _, j + 4, _, h => absurd h (by omega)
theorem kind_at {w : World} (hG : GlobT w) {i : Nat} (hi : i < 9) {ks : List UInt8} {fd fc fk : Bool} (h : kRows.getD i ([], false, false, false) = (ks, fd, fc, fk)) :
    w.cell? ⟨0, i * 4, none⟩ = some (.string ⟨ks.toArray⟩) ∧ w.cell? ⟨0, i * 4 + 1, none⟩ = some (.bool fd) ∧ w.cell? ⟨0, i * 4 + 2, none⟩ = some (.bool fc) ∧ w.cell? ⟨0, i * 4 + 3, none⟩ = some (.bool fk) := by
  have hr := kinds_at hG
  have hk := fun j hj v (hv : (kVals (kRows.getD i ([], false, false, false)))[j]? = some v) => hr (i * 4 + j) v ((kind_cells i j hi hj).trans hv)
  rw [h] at hk
  simp only [Nat.zero_add] at hk
  exact ⟨hk 0 (by decide) _ rfl, hk 1 (by decide) _ rfl, hk 2 (by decide) _ rfl, hk 3 (by decide) _ rfl⟩
theorem hexT_len (l : List Int) : (hexT l).length ≤ 2 * l.length + 1 := by
  unfold hexT
  split
  · simp
  · rw [hexL_length]
    omega
theorem itoa_size {v : Int} (h0 : -9223372036854775808 ≤ v) (h1 : v ≤ 9223372036854775807) : (strOf (Lib.itoa v)).size ≤ 21 := by
  rw [strOf_size]
  exact Lib.itoa_length_le v h0 h1
theorem str_cat (a b : List UInt8) : strOf a ++ (⟨#[32]⟩ ++ strOf b) = strOf (a ++ 32 :: b) := by
  apply bytes_eq
  rw [ByteArray.data_append, Array.toList_append, ByteArray.data_append, Array.toList_append, strOf_data, strOf_data, strOf_data]
  rfl
theorem new_two (w : World) (o o' : Obj) : ((w.alloc o).alloc o').heap[w.heap.size + 1]? = some o' := by
  have := blk_new (w.alloc o) o'
  simpa using this
set_option maxHeartbeats 8000000 in
set_option maxRecDepth 100000 in
theorem event_d (i : Nat) (hi : i < 9) (ks : List UInt8) (hrow : kRows.getD i ([], false, false, false) = (ks, true, false, false)) (n keep : Int) (hn0 : -9223372036854775808 ≤ n) (hn1 : n ≤ 9223372036854775807) (hk0 : -9223372036854775808 ≤ keep) (hk1 : keep ≤ 9223372036854775807) (A : Option Addr) (c0 : Nat) (l : List Int) (hb : ∀ x ∈ l, 0 ≤ x ∧ x ≤ 255) (hl : l.length ≤ 1000000) (w : World) (hr : Kd.C (Kd.int .u8) w A l.length l) (hc : l.length ≤ c0) (hG : GlobT w) :
    Calls Tryd.prog 15 #[.agg #[.int .i64 (i : Int), .int .i64 n, .int .i64 keep, .slice A l.length c0]] w (EventPost (i : Int) n keep l w) := by
  have hks := row_len hrow hi
  have HKS := Lib.hid hks
  have HSP := Lib.hid (show (strOf ks).size ≤ 8 from by rw [strOf_size]; exact hks)
  have HEO := Lib.hid (show eventO (i : Int) n keep l = (if evBad true false false n keep l then ([], 10) else (evText (ks, true, false, false) n keep l, 0)) from by
    unfold eventO
    rw [if_neg (by omega), Int.toNat_natCast, hrow])
  have HB := Lib.hid hb
  have HR := Lib.hid hr
  have HG := Lib.hid hG
  have HL := Lib.hid hl
  have HC := Lib.hid hc
  have HN := Lib.hid (And.intro hn0 hn1)
  have HK := Lib.hid (And.intro hk0 hk1)
  have HROW := Lib.hid hrow
  clear hb hr hG hrow hn0 hn1 hk0 hk1 hks
  obtain ⟨q0, q1, q2, q3⟩ := kind_at HG.out hi HROW.out
  have ql := World.block_lt_of_cell? w ⟨0, i * 4, none⟩ q0
  simp only at ql
  have i0 : ¬ (i : Int) < 0 := by omega
  have i1 : ¬ (9 : Int) ≤ (i : Int) := by omega
  have i2 : (0 : Int) ≤ (i : Int) := by omega
  have i3 : (i : Int) < 9 := by omega
  obtain ⟨kw, hkw⟩ : ∃ kw : ByteArray, kw = ⟨ks.toArray⟩ := ⟨_, rfl⟩
  rw [← hkw] at q0
  have HKW := Lib.hid (show kw = strOf ks from hkw)
  clear hkw
  go_enter Tryd.func15, Tryd.ntmps15
  by_cases h2 : n ≠ 0
  · have t2 : (n == 0) = false := beq_eq_false_iff_ne.2 h2
    have t2b : ¬ n = 0 := h2
    have HBAD := Lib.hid (show evBad true false false n keep l from Or.inr (Or.inl ⟨rfl, h2⟩))
    go_wp2_with fail
    go_ret2
    refine ⟨?_, below_alloc (below_alloc (Below.refl _ _) _) _⟩
    rw [HEO.out, if_pos HBAD.out]
    rfl
  · obtain rfl : n = 0 := Classical.not_not.1 h2
    by_cases h3 : keep ≠ 0
    · have t3 : (keep == 0) = false := beq_eq_false_iff_ne.2 h3
      have t3b : ¬ keep = 0 := h3
      have HBAD := Lib.hid (show evBad true false false 0 keep l from Or.inr (Or.inr ⟨rfl, h3⟩))
      go_wp2_with fail
      go_ret2
      refine ⟨?_, below_alloc (below_alloc (Below.refl _ _) _) _⟩
      rw [HEO.out, if_pos HBAD.out]
      rfl
    · obtain rfl : keep = 0 := Classical.not_not.1 h3
      have HOKK := Lib.hid (show ¬ evBad true false false 0 0 l from fun z => z.elim (fun z => absurd z.1 (by decide)) (fun z => z.elim (fun z => absurd rfl z.2) (fun z => absurd rfl z.2)))
      clear h2 h3
      have HS0 := Lib.hid (show kw.size ≤ 8 from by rw [HKW.out]; exact HSP.out)
      go_wp2_with fail
      have HBx := Lib.hid (below_alloc (below_alloc (Below.refl w.heap.size w) (.cells #[.int .i64 (i : Int), .int .i64 0, .int .i64 0, .slice A l.length c0] 29 (0, 0))) (.cells #[.string kw, .bool true, .bool false, .bool false] 68 (0, 0)))
      have HEx := Lib.hid (blk_alloc (blk_new w (.cells #[.int .i64 (i : Int), .int .i64 0, .int .i64 0, .slice A l.length c0] 29 (0, 0))) (.cells #[.string kw, .bool true, .bool false, .bool false] 68 (0, 0)))
      have HKx := Lib.hid (new_two w (.cells #[.int .i64 (i : Int), .int .i64 0, .int .i64 0, .slice A l.length c0] 29 (0, 0)) (.cells #[.string kw, .bool true, .bool false, .bool false] 68 (0, 0)))
      generalize (w.alloc (.cells #[.int .i64 (i : Int), .int .i64 0, .int .i64 0, .slice A l.length c0] 29)).alloc (.cells #[.string kw, .bool true, .bool false, .bool false] 68) = V0 at HBx HEx HKx ⊢
      clear q0 q1 q2 q3 ql
      refine (hex_walk A c0 l HB.out HL.out V0 (Kd.C_below HR.out HBx.out) HC.out).mono ?_
      rintro e U0 ⟨rfl, hbz⟩
      have HB0 := Lib.hid (below_step HBx.out hbz)
      have HE0 := Lib.hid (blk_below HEx.out hbz)
      have HK0 := Lib.hid (blk_below HKx.out hbz)
      clear hbz HBx HEx HKx
      obtain ⟨x0, hx0⟩ : ∃ x0, x0 = strOf (hexT l) := ⟨_, rfl⟩
      rw [← hx0]
      have HX0 := Lib.hid hx0
      have hz0 : x0.size ≤ 2000001 := by
        rw [hx0]
        rw [strOf_size]; have := hexT_len l; have := HL.out; omega
      clear hx0
      have hc0 := HS0.out
      have o0a : (9223372036854775807 < 1 + x0.size) = False := eq_false (by omega)
      have o0b : 1 + x0.size ≤ 9223372036854775807 := by omega
      have o0c : (9223372036854775807 < kw.size + (1 + x0.size)) = False := eq_false (by omega)
      have o0d : kw.size + (1 + x0.size) ≤ 9223372036854775807 := by omega
      have e0 := cell_of_cells HE0.out 0
      have e1 := cell_of_cells HE0.out 1
      have e2 := cell_of_cells HE0.out 2
      have e3 := cell_of_cells HE0.out 3
      have k0 := cell_of_cells HK0.out 0
      have k1 := cell_of_cells HK0.out 1
      have k2 := cell_of_cells HK0.out 2
      have k3 := cell_of_cells HK0.out 3
      simp only [List.getElem?_toArray, List.getElem?_cons_zero, List.getElem?_cons_succ] at e0 e1 e2 e3 k0 k1 k2 k3
      go_wp2_with fail
      go_ret2
      refine ⟨?_, HB0.out⟩
      rw [HEO.out, if_neg HOKK.out]
      refine congrArg (fun z => Ending.returned (Value.tuple #[.string z, .int .i64 0])) (show kw ++ (⟨#[32]⟩ ++ x0) = strOf (evText (ks, true, false, false) 0 0 l) from ?_)
      rw [HKW.out, HX0.out, str_cat]
      congr 1
      unfold evText
      simp
set_option maxHeartbeats 8000000 in
set_option maxRecDepth 100000 in
theorem event_z (i : Nat) (hi : i < 9) (ks : List UInt8) (hrow : kRows.getD i ([], false, false, false) = (ks, false, false, false)) (n keep : Int) (hn0 : -9223372036854775808 ≤ n) (hn1 : n ≤ 9223372036854775807) (hk0 : -9223372036854775808 ≤ keep) (hk1 : keep ≤ 9223372036854775807) (A : Option Addr) (c0 : Nat) (l : List Int) (hb : ∀ x ∈ l, 0 ≤ x ∧ x ≤ 255) (hl : l.length ≤ 1000000) (w : World) (hr : Kd.C (Kd.int .u8) w A l.length l) (hc : l.length ≤ c0) (hG : GlobT w) :
    Calls Tryd.prog 15 #[.agg #[.int .i64 (i : Int), .int .i64 n, .int .i64 keep, .slice A l.length c0]] w (EventPost (i : Int) n keep l w) := by
  have hks := row_len hrow hi
  have HKS := Lib.hid hks
  have HSP := Lib.hid (show (strOf ks).size ≤ 8 from by rw [strOf_size]; exact hks)
  have HEO := Lib.hid (show eventO (i : Int) n keep l = (if evBad false false false n keep l then ([], 10) else (evText (ks, false, false, false) n keep l, 0)) from by
    unfold eventO
    rw [if_neg (by omega), Int.toNat_natCast, hrow])
  have HB := Lib.hid hb
  have HR := Lib.hid hr
  have HG := Lib.hid hG
  have HL := Lib.hid hl
  have HC := Lib.hid hc
  have HN := Lib.hid (And.intro hn0 hn1)
  have HK := Lib.hid (And.intro hk0 hk1)
  have HROW := Lib.hid hrow
  clear hb hr hG hrow hn0 hn1 hk0 hk1 hks
  obtain ⟨q0, q1, q2, q3⟩ := kind_at HG.out hi HROW.out
  have ql := World.block_lt_of_cell? w ⟨0, i * 4, none⟩ q0
  simp only at ql
  have i0 : ¬ (i : Int) < 0 := by omega
  have i1 : ¬ (9 : Int) ≤ (i : Int) := by omega
  have i2 : (0 : Int) ≤ (i : Int) := by omega
  have i3 : (i : Int) < 9 := by omega
  obtain ⟨kw, hkw⟩ : ∃ kw : ByteArray, kw = ⟨ks.toArray⟩ := ⟨_, rfl⟩
  rw [← hkw] at q0
  have HKW := Lib.hid (show kw = strOf ks from hkw)
  clear hkw
  go_enter Tryd.func15, Tryd.ntmps15
  by_cases h1 : 0 < l.length
  · have t1 : (0 : Int) < (l.length : Int) := by omega
    have HBAD := Lib.hid (show evBad false false false n keep l from Or.inl ⟨rfl, h1⟩)
    go_wp2_with fail
    go_ret2
    refine ⟨?_, below_alloc (below_alloc (Below.refl _ _) _) _⟩
    rw [HEO.out, if_pos HBAD.out]
    rfl
  · obtain rfl : l = [] := List.eq_nil_of_length_eq_zero (by omega)
    by_cases h2 : n ≠ 0
    · have t2 : (n == 0) = false := beq_eq_false_iff_ne.2 h2
      have t2b : ¬ n = 0 := h2
      have HBAD := Lib.hid (show evBad false false false n keep [] from Or.inr (Or.inl ⟨rfl, h2⟩))
      go_wp2_with fail
      go_ret2
      refine ⟨?_, below_alloc (below_alloc (Below.refl _ _) _) _⟩
      rw [HEO.out, if_pos HBAD.out]
      rfl
    · obtain rfl : n = 0 := Classical.not_not.1 h2
      by_cases h3 : keep ≠ 0
      · have t3 : (keep == 0) = false := beq_eq_false_iff_ne.2 h3
        have t3b : ¬ keep = 0 := h3
        have HBAD := Lib.hid (show evBad false false false 0 keep [] from Or.inr (Or.inr ⟨rfl, h3⟩))
        go_wp2_with fail
        go_ret2
        refine ⟨?_, below_alloc (below_alloc (Below.refl _ _) _) _⟩
        rw [HEO.out, if_pos HBAD.out]
        rfl
      · obtain rfl : keep = 0 := Classical.not_not.1 h3
        have HOKK := Lib.hid (show ¬ evBad false false false 0 0 [] from fun z => z.elim (fun z => absurd z.2 (by decide)) (fun z => z.elim (fun z => absurd rfl z.2) (fun z => absurd rfl z.2)))
        clear h1 h2 h3
        have HS0 := Lib.hid (show kw.size ≤ 8 from by rw [HKW.out]; exact HSP.out)
        go_wp2_with fail
        go_ret2
        refine ⟨?_, below_alloc (below_alloc (Below.refl _ _) _) _⟩
        rw [HEO.out, if_neg HOKK.out, HKW.out]
        exact congrArg (fun z => Ending.returned (Value.tuple #[.string (strOf z), .int .i64 0])) (by unfold evText; simp)
set_option maxHeartbeats 8000000 in
set_option maxRecDepth 100000 in
theorem event_c (i : Nat) (hi : i < 9) (ks : List UInt8) (hrow : kRows.getD i ([], false, false, false) = (ks, false, true, false)) (n keep : Int) (hn0 : -9223372036854775808 ≤ n) (hn1 : n ≤ 9223372036854775807) (hk0 : -9223372036854775808 ≤ keep) (hk1 : keep ≤ 9223372036854775807) (A : Option Addr) (c0 : Nat) (l : List Int) (hb : ∀ x ∈ l, 0 ≤ x ∧ x ≤ 255) (hl : l.length ≤ 1000000) (w : World) (hr : Kd.C (Kd.int .u8) w A l.length l) (hc : l.length ≤ c0) (hG : GlobT w) :
    Calls Tryd.prog 15 #[.agg #[.int .i64 (i : Int), .int .i64 n, .int .i64 keep, .slice A l.length c0]] w (EventPost (i : Int) n keep l w) := by
  have hks := row_len hrow hi
  have HKS := Lib.hid hks
  have HSP := Lib.hid (show (strOf ks).size ≤ 8 from by rw [strOf_size]; exact hks)
  have HEO := Lib.hid (show eventO (i : Int) n keep l = (if evBad false true false n keep l then ([], 10) else (evText (ks, false, true, false) n keep l, 0)) from by
    unfold eventO
    rw [if_neg (by omega), Int.toNat_natCast, hrow])
  have HB := Lib.hid hb
  have HR := Lib.hid hr
  have HG := Lib.hid hG
  have HL := Lib.hid hl
  have HC := Lib.hid hc
  have HN := Lib.hid (And.intro hn0 hn1)
  have HK := Lib.hid (And.intro hk0 hk1)
  have HROW := Lib.hid hrow
  clear hb hr hG hrow hn0 hn1 hk0 hk1 hks
  obtain ⟨q0, q1, q2, q3⟩ := kind_at HG.out hi HROW.out
  have ql := World.block_lt_of_cell? w ⟨0, i * 4, none⟩ q0
  simp only at ql
  have i0 : ¬ (i : Int) < 0 := by omega
  have i1 : ¬ (9 : Int) ≤ (i : Int) := by omega
  have i2 : (0 : Int) ≤ (i : Int) := by omega
  have i3 : (i : Int) < 9 := by omega
  obtain ⟨kw, hkw⟩ : ∃ kw : ByteArray, kw = ⟨ks.toArray⟩ := ⟨_, rfl⟩
  rw [← hkw] at q0
  have HKW := Lib.hid (show kw = strOf ks from hkw)
  clear hkw
  go_enter Tryd.func15, Tryd.ntmps15
  by_cases h1 : 0 < l.length
  · have t1 : (0 : Int) < (l.length : Int) := by omega
    have HBAD := Lib.hid (show evBad false true false n keep l from Or.inl ⟨rfl, h1⟩)
    go_wp2_with fail
    go_ret2
    refine ⟨?_, below_alloc (below_alloc (Below.refl _ _) _) _⟩
    rw [HEO.out, if_pos HBAD.out]
    rfl
  · obtain rfl : l = [] := List.eq_nil_of_length_eq_zero (by omega)
    by_cases h3 : keep ≠ 0
    · have t3 : (keep == 0) = false := beq_eq_false_iff_ne.2 h3
      have t3b : ¬ keep = 0 := h3
      have HBAD := Lib.hid (show evBad false true false n keep [] from Or.inr (Or.inr ⟨rfl, h3⟩))
      go_wp2_with fail
      go_ret2
      refine ⟨?_, below_alloc (below_alloc (Below.refl _ _) _) _⟩
      rw [HEO.out, if_pos HBAD.out]
      rfl
    · obtain rfl : keep = 0 := Classical.not_not.1 h3
      have HOKK := Lib.hid (show ¬ evBad false true false n 0 [] from fun z => z.elim (fun z => absurd z.2 (by decide)) (fun z => z.elim (fun z => absurd z.1 (by decide)) (fun z => absurd rfl z.2)))
      clear h1 h3
      have HS0 := Lib.hid (show kw.size ≤ 8 from by rw [HKW.out]; exact HSP.out)
      go_wp2_with fail
      have HBx := Lib.hid (below_alloc (below_alloc (Below.refl w.heap.size w) (.cells #[.int .i64 (i : Int), .int .i64 n, .int .i64 0, .slice A 0 c0] 29 (0, 0))) (.cells #[.string kw, .bool false, .bool true, .bool false] 68 (0, 0)))
      have HEx := Lib.hid (blk_alloc (blk_new w (.cells #[.int .i64 (i : Int), .int .i64 n, .int .i64 0, .slice A 0 c0] 29 (0, 0))) (.cells #[.string kw, .bool false, .bool true, .bool false] 68 (0, 0)))
      have HKx := Lib.hid (new_two w (.cells #[.int .i64 (i : Int), .int .i64 n, .int .i64 0, .slice A 0 c0] 29 (0, 0)) (.cells #[.string kw, .bool false, .bool true, .bool false] 68 (0, 0)))
      generalize (w.alloc (.cells #[.int .i64 (i : Int), .int .i64 n, .int .i64 0, .slice A 0 c0] 29)).alloc (.cells #[.string kw, .bool false, .bool true, .bool false] 68) = V0 at HBx HEx HKx ⊢
      clear q0 q1 q2 q3 ql
      refine (itoa_walk n HN.out.1 HN.out.2 V0 (globt_below HG.out HBx.out).pow).mono ?_
      rintro e U0 ⟨rfl, hbz⟩
      have HB0 := Lib.hid (below_step HBx.out hbz)
      have HE0 := Lib.hid (blk_below HEx.out hbz)
      have HK0 := Lib.hid (blk_below HKx.out hbz)
      clear hbz HBx HEx HKx
      obtain ⟨x0, hx0⟩ : ∃ x0, x0 = strOf (Lib.itoa n) := ⟨_, rfl⟩
      rw [show (⟨(Lib.itoa n).toArray⟩ : ByteArray) = x0 from hx0.symm]
      have HX0 := Lib.hid hx0
      have hz0 : x0.size ≤ 21 := by
        rw [hx0]
        exact itoa_size HN.out.1 HN.out.2
      clear hx0
      have hc0 := HS0.out
      have o0a : (9223372036854775807 < 1 + x0.size) = False := eq_false (by omega)
      have o0b : 1 + x0.size ≤ 9223372036854775807 := by omega
      have o0c : (9223372036854775807 < kw.size + (1 + x0.size)) = False := eq_false (by omega)
      have o0d : kw.size + (1 + x0.size) ≤ 9223372036854775807 := by omega
      have e0 := cell_of_cells HE0.out 0
      have e1 := cell_of_cells HE0.out 1
      have e2 := cell_of_cells HE0.out 2
      have e3 := cell_of_cells HE0.out 3
      have k0 := cell_of_cells HK0.out 0
      have k1 := cell_of_cells HK0.out 1
      have k2 := cell_of_cells HK0.out 2
      have k3 := cell_of_cells HK0.out 3
      simp only [List.getElem?_toArray, List.getElem?_cons_zero, List.getElem?_cons_succ] at e0 e1 e2 e3 k0 k1 k2 k3
      go_wp2_with fail
      go_ret2
      refine ⟨?_, HB0.out⟩
      rw [HEO.out, if_neg HOKK.out]
      refine congrArg (fun z => Ending.returned (Value.tuple #[.string z, .int .i64 0])) (show kw ++ (⟨#[32]⟩ ++ x0) = strOf (evText (ks, false, true, false) n 0 []) from ?_)
      rw [HKW.out, HX0.out, str_cat]
      congr 1
      unfold evText
      simp
set_option maxHeartbeats 8000000 in
set_option maxRecDepth 100000 in
theorem event_ck (i : Nat) (hi : i < 9) (ks : List UInt8) (hrow : kRows.getD i ([], false, false, false) = (ks, false, true, true)) (n keep : Int) (hn0 : -9223372036854775808 ≤ n) (hn1 : n ≤ 9223372036854775807) (hk0 : -9223372036854775808 ≤ keep) (hk1 : keep ≤ 9223372036854775807) (A : Option Addr) (c0 : Nat) (l : List Int) (hb : ∀ x ∈ l, 0 ≤ x ∧ x ≤ 255) (hl : l.length ≤ 1000000) (w : World) (hr : Kd.C (Kd.int .u8) w A l.length l) (hc : l.length ≤ c0) (hG : GlobT w) :
    Calls Tryd.prog 15 #[.agg #[.int .i64 (i : Int), .int .i64 n, .int .i64 keep, .slice A l.length c0]] w (EventPost (i : Int) n keep l w) := by
  have hks := row_len hrow hi
  have HKS := Lib.hid hks
  have HSP := Lib.hid (show (strOf ks).size ≤ 8 from by rw [strOf_size]; exact hks)
  have HEO := Lib.hid (show eventO (i : Int) n keep l = (if evBad false true true n keep l then ([], 10) else (evText (ks, false, true, true) n keep l, 0)) from by
    unfold eventO
    rw [if_neg (by omega), Int.toNat_natCast, hrow])
  have HB := Lib.hid hb
  have HR := Lib.hid hr
  have HG := Lib.hid hG
  have HL := Lib.hid hl
  have HC := Lib.hid hc
  have HN := Lib.hid (And.intro hn0 hn1)
  have HK := Lib.hid (And.intro hk0 hk1)
  have HROW := Lib.hid hrow
  clear hb hr hG hrow hn0 hn1 hk0 hk1 hks
  obtain ⟨q0, q1, q2, q3⟩ := kind_at HG.out hi HROW.out
  have ql := World.block_lt_of_cell? w ⟨0, i * 4, none⟩ q0
  simp only at ql
  have i0 : ¬ (i : Int) < 0 := by omega
  have i1 : ¬ (9 : Int) ≤ (i : Int) := by omega
  have i2 : (0 : Int) ≤ (i : Int) := by omega
  have i3 : (i : Int) < 9 := by omega
  obtain ⟨kw, hkw⟩ : ∃ kw : ByteArray, kw = ⟨ks.toArray⟩ := ⟨_, rfl⟩
  rw [← hkw] at q0
  have HKW := Lib.hid (show kw = strOf ks from hkw)
  clear hkw
  go_enter Tryd.func15, Tryd.ntmps15
  by_cases h1 : 0 < l.length
  · have t1 : (0 : Int) < (l.length : Int) := by omega
    have HBAD := Lib.hid (show evBad false true true n keep l from Or.inl ⟨rfl, h1⟩)
    go_wp2_with fail
    go_ret2
    refine ⟨?_, below_alloc (below_alloc (Below.refl _ _) _) _⟩
    rw [HEO.out, if_pos HBAD.out]
    rfl
  · obtain rfl : l = [] := List.eq_nil_of_length_eq_zero (by omega)
    have HOKK := Lib.hid (show ¬ evBad false true true n keep [] from fun z => z.elim (fun z => absurd z.2 (by decide)) (fun z => z.elim (fun z => absurd z.1 (by decide)) (fun z => absurd z.1 (by decide))))
    clear h1
    have HS0 := Lib.hid (show kw.size ≤ 8 from by rw [HKW.out]; exact HSP.out)
    go_wp2_with fail
    have HBx := Lib.hid (below_alloc (below_alloc (Below.refl w.heap.size w) (.cells #[.int .i64 (i : Int), .int .i64 n, .int .i64 keep, .slice A 0 c0] 29 (0, 0))) (.cells #[.string kw, .bool false, .bool true, .bool true] 68 (0, 0)))
    have HEx := Lib.hid (blk_alloc (blk_new w (.cells #[.int .i64 (i : Int), .int .i64 n, .int .i64 keep, .slice A 0 c0] 29 (0, 0))) (.cells #[.string kw, .bool false, .bool true, .bool true] 68 (0, 0)))
    have HKx := Lib.hid (new_two w (.cells #[.int .i64 (i : Int), .int .i64 n, .int .i64 keep, .slice A 0 c0] 29 (0, 0)) (.cells #[.string kw, .bool false, .bool true, .bool true] 68 (0, 0)))
    generalize (w.alloc (.cells #[.int .i64 (i : Int), .int .i64 n, .int .i64 keep, .slice A 0 c0] 29)).alloc (.cells #[.string kw, .bool false, .bool true, .bool true] 68) = V0 at HBx HEx HKx ⊢
    clear q0 q1 q2 q3 ql
    refine (itoa_walk n HN.out.1 HN.out.2 V0 (globt_below HG.out HBx.out).pow).mono ?_
    rintro e U0 ⟨rfl, hbz⟩
    have HB0 := Lib.hid (below_step HBx.out hbz)
    have HE0 := Lib.hid (blk_below HEx.out hbz)
    have HK0 := Lib.hid (blk_below HKx.out hbz)
    clear hbz HBx HEx HKx
    obtain ⟨x0, hx0⟩ : ∃ x0, x0 = strOf (Lib.itoa n) := ⟨_, rfl⟩
    rw [show (⟨(Lib.itoa n).toArray⟩ : ByteArray) = x0 from hx0.symm]
    have HX0 := Lib.hid hx0
    have hz0 : x0.size ≤ 21 := by
      rw [hx0]
      exact itoa_size HN.out.1 HN.out.2
    clear hx0
    have hc0 := HS0.out
    have o0a : (9223372036854775807 < 1 + x0.size) = False := eq_false (by omega)
    have o0b : 1 + x0.size ≤ 9223372036854775807 := by omega
    have o0c : (9223372036854775807 < kw.size + (1 + x0.size)) = False := eq_false (by omega)
    have o0d : kw.size + (1 + x0.size) ≤ 9223372036854775807 := by omega
    have e0 := cell_of_cells HE0.out 0
    have e1 := cell_of_cells HE0.out 1
    have e2 := cell_of_cells HE0.out 2
    have e3 := cell_of_cells HE0.out 3
    have k0 := cell_of_cells HK0.out 0
    have k1 := cell_of_cells HK0.out 1
    have k2 := cell_of_cells HK0.out 2
    have k3 := cell_of_cells HK0.out 3
    simp only [List.getElem?_toArray, List.getElem?_cons_zero, List.getElem?_cons_succ] at e0 e1 e2 e3 k0 k1 k2 k3
    go_wp2_with fail
    obtain ⟨y0, hy0⟩ : ∃ y0, y0 = kw ++ (⟨#[32]⟩ ++ x0) := ⟨_, rfl⟩
    rw [← hy0]
    have HY0 := Lib.hid (show y0 = strOf (ks ++ 32 :: Lib.itoa n) from by rw [hy0, HKW.out, HX0.out, str_cat])
    have HSY0 := Lib.hid (show y0.size ≤ 30 from by rw [hy0, ByteArray.size_append, ByteArray.size_append]; show kw.size + (1 + x0.size) ≤ 30; omega)
    clear hy0 o0a o0b o0c o0d hc0 hz0
    refine (itoa_walk keep HK.out.1 HK.out.2 U0 (globt_below HG.out HB0.out).pow).mono ?_
    rintro e U1 ⟨rfl, hbz⟩
    have HB1 := Lib.hid (below_step HB0.out hbz)
    have HE1 := Lib.hid (blk_below HE0.out hbz)
    have HK1 := Lib.hid (blk_below HK0.out hbz)
    clear hbz HB0 HE0 HK0
    obtain ⟨x1, hx1⟩ : ∃ x1, x1 = strOf (Lib.itoa keep) := ⟨_, rfl⟩
    rw [show (⟨(Lib.itoa keep).toArray⟩ : ByteArray) = x1 from hx1.symm]
    have HX1 := Lib.hid hx1
    have hz1 : x1.size ≤ 21 := by
      rw [hx1]
      exact itoa_size HK.out.1 HK.out.2
    clear hx1
    have hc1 := HSY0.out
    have o1a : (9223372036854775807 < 1 + x1.size) = False := eq_false (by omega)
    have o1b : 1 + x1.size ≤ 9223372036854775807 := by omega
    have o1c : (9223372036854775807 < y0.size + (1 + x1.size)) = False := eq_false (by omega)
    have o1d : y0.size + (1 + x1.size) ≤ 9223372036854775807 := by omega
    have e0 := cell_of_cells HE1.out 0
    have e1 := cell_of_cells HE1.out 1
    have e2 := cell_of_cells HE1.out 2
    have e3 := cell_of_cells HE1.out 3
    have k0 := cell_of_cells HK1.out 0
    have k1 := cell_of_cells HK1.out 1
    have k2 := cell_of_cells HK1.out 2
    have k3 := cell_of_cells HK1.out 3
    simp only [List.getElem?_toArray, List.getElem?_cons_zero, List.getElem?_cons_succ] at e0 e1 e2 e3 k0 k1 k2 k3
    go_wp2_with fail
    go_ret2
    refine ⟨?_, HB1.out⟩
    rw [HEO.out, if_neg HOKK.out]
    refine congrArg (fun z => Ending.returned (Value.tuple #[.string z, .int .i64 0])) (show y0 ++ (⟨#[32]⟩ ++ x1) = strOf (evText (ks, false, true, true) n keep []) from ?_)
    rw [HY0.out, HX1.out, str_cat]
    congr 1
    unfold evText
    simp
set_option maxHeartbeats 8000000 in
set_option maxRecDepth 100000 in
theorem event_k (i : Nat) (hi : i < 9) (ks : List UInt8) (hrow : kRows.getD i ([], false, false, false) = (ks, false, false, true)) (n keep : Int) (hn0 : -9223372036854775808 ≤ n) (hn1 : n ≤ 9223372036854775807) (hk0 : -9223372036854775808 ≤ keep) (hk1 : keep ≤ 9223372036854775807) (A : Option Addr) (c0 : Nat) (l : List Int) (hb : ∀ x ∈ l, 0 ≤ x ∧ x ≤ 255) (hl : l.length ≤ 1000000) (w : World) (hr : Kd.C (Kd.int .u8) w A l.length l) (hc : l.length ≤ c0) (hG : GlobT w) :
    Calls Tryd.prog 15 #[.agg #[.int .i64 (i : Int), .int .i64 n, .int .i64 keep, .slice A l.length c0]] w (EventPost (i : Int) n keep l w) := by
  have hks := row_len hrow hi
  have HKS := Lib.hid hks
  have HSP := Lib.hid (show (strOf ks).size ≤ 8 from by rw [strOf_size]; exact hks)
  have HEO := Lib.hid (show eventO (i : Int) n keep l = (if evBad false false true n keep l then ([], 10) else (evText (ks, false, false, true) n keep l, 0)) from by
    unfold eventO
    rw [if_neg (by omega), Int.toNat_natCast, hrow])
  have HB := Lib.hid hb
  have HR := Lib.hid hr
  have HG := Lib.hid hG
  have HL := Lib.hid hl
  have HC := Lib.hid hc
  have HN := Lib.hid (And.intro hn0 hn1)
  have HK := Lib.hid (And.intro hk0 hk1)
  have HROW := Lib.hid hrow
  clear hb hr hG hrow hn0 hn1 hk0 hk1 hks
  obtain ⟨q0, q1, q2, q3⟩ := kind_at HG.out hi HROW.out
  have ql := World.block_lt_of_cell? w ⟨0, i * 4, none⟩ q0
  simp only at ql
  have i0 : ¬ (i : Int) < 0 := by omega
  have i1 : ¬ (9 : Int) ≤ (i : Int) := by omega
  have i2 : (0 : Int) ≤ (i : Int) := by omega
  have i3 : (i : Int) < 9 := by omega
  obtain ⟨kw, hkw⟩ : ∃ kw : ByteArray, kw = ⟨ks.toArray⟩ := ⟨_, rfl⟩
  rw [← hkw] at q0
  have HKW := Lib.hid (show kw = strOf ks from hkw)
  clear hkw
  go_enter Tryd.func15, Tryd.ntmps15
  by_cases h1 : 0 < l.length
  · have t1 : (0 : Int) < (l.length : Int) := by omega
    have HBAD := Lib.hid (show evBad false false true n keep l from Or.inl ⟨rfl, h1⟩)
    go_wp2_with fail
    go_ret2
    refine ⟨?_, below_alloc (below_alloc (Below.refl _ _) _) _⟩
    rw [HEO.out, if_pos HBAD.out]
    rfl
  · obtain rfl : l = [] := List.eq_nil_of_length_eq_zero (by omega)
    by_cases h2 : n ≠ 0
    · have t2 : (n == 0) = false := beq_eq_false_iff_ne.2 h2
      have t2b : ¬ n = 0 := h2
      have HBAD := Lib.hid (show evBad false false true n keep [] from Or.inr (Or.inl ⟨rfl, h2⟩))
      go_wp2_with fail
      go_ret2
      refine ⟨?_, below_alloc (below_alloc (Below.refl _ _) _) _⟩
      rw [HEO.out, if_pos HBAD.out]
      rfl
    · obtain rfl : n = 0 := Classical.not_not.1 h2
      have HOKK := Lib.hid (show ¬ evBad false false true 0 keep [] from fun z => z.elim (fun z => absurd z.2 (by decide)) (fun z => z.elim (fun z => absurd rfl z.2) (fun z => absurd z.1 (by decide))))
      clear h1 h2
      have HS0 := Lib.hid (show kw.size ≤ 8 from by rw [HKW.out]; exact HSP.out)
      go_wp2_with fail
      have HBx := Lib.hid (below_alloc (below_alloc (Below.refl w.heap.size w) (.cells #[.int .i64 (i : Int), .int .i64 0, .int .i64 keep, .slice A 0 c0] 29 (0, 0))) (.cells #[.string kw, .bool false, .bool false, .bool true] 68 (0, 0)))
      have HEx := Lib.hid (blk_alloc (blk_new w (.cells #[.int .i64 (i : Int), .int .i64 0, .int .i64 keep, .slice A 0 c0] 29 (0, 0))) (.cells #[.string kw, .bool false, .bool false, .bool true] 68 (0, 0)))
      have HKx := Lib.hid (new_two w (.cells #[.int .i64 (i : Int), .int .i64 0, .int .i64 keep, .slice A 0 c0] 29 (0, 0)) (.cells #[.string kw, .bool false, .bool false, .bool true] 68 (0, 0)))
      generalize (w.alloc (.cells #[.int .i64 (i : Int), .int .i64 0, .int .i64 keep, .slice A 0 c0] 29)).alloc (.cells #[.string kw, .bool false, .bool false, .bool true] 68) = V0 at HBx HEx HKx ⊢
      clear q0 q1 q2 q3 ql
      refine (itoa_walk keep HK.out.1 HK.out.2 V0 (globt_below HG.out HBx.out).pow).mono ?_
      rintro e U0 ⟨rfl, hbz⟩
      have HB0 := Lib.hid (below_step HBx.out hbz)
      have HE0 := Lib.hid (blk_below HEx.out hbz)
      have HK0 := Lib.hid (blk_below HKx.out hbz)
      clear hbz HBx HEx HKx
      obtain ⟨x0, hx0⟩ : ∃ x0, x0 = strOf (Lib.itoa keep) := ⟨_, rfl⟩
      rw [show (⟨(Lib.itoa keep).toArray⟩ : ByteArray) = x0 from hx0.symm]
      have HX0 := Lib.hid hx0
      have hz0 : x0.size ≤ 21 := by
        rw [hx0]
        exact itoa_size HK.out.1 HK.out.2
      clear hx0
      have hc0 := HS0.out
      have o0a : (9223372036854775807 < 1 + x0.size) = False := eq_false (by omega)
      have o0b : 1 + x0.size ≤ 9223372036854775807 := by omega
      have o0c : (9223372036854775807 < kw.size + (1 + x0.size)) = False := eq_false (by omega)
      have o0d : kw.size + (1 + x0.size) ≤ 9223372036854775807 := by omega
      have e0 := cell_of_cells HE0.out 0
      have e1 := cell_of_cells HE0.out 1
      have e2 := cell_of_cells HE0.out 2
      have e3 := cell_of_cells HE0.out 3
      have k0 := cell_of_cells HK0.out 0
      have k1 := cell_of_cells HK0.out 1
      have k2 := cell_of_cells HK0.out 2
      have k3 := cell_of_cells HK0.out 3
      simp only [List.getElem?_toArray, List.getElem?_cons_zero, List.getElem?_cons_succ] at e0 e1 e2 e3 k0 k1 k2 k3
      go_wp2_with fail
      go_ret2
      refine ⟨?_, HB0.out⟩
      rw [HEO.out, if_neg HOKK.out]
      refine congrArg (fun z => Ending.returned (Value.tuple #[.string z, .int .i64 0])) (show kw ++ (⟨#[32]⟩ ++ x0) = strOf (evText (ks, false, false, true) 0 keep []) from ?_)
      rw [HKW.out, HX0.out, str_cat]
      congr 1
      unfold evText
      simp
end Go.Proofs.YtoloooammaiipaaDoor
/- What trace.Event gives, of any event; conditions: bytes, at most a million; the tables lie as the program's text lays them. -/
namespace Go.Proofs.YtoloooammaiipaaDoor
open Go Go.RowKit Go.Proofs.YtoloooammaiipaaDoor.PI Go.Proofs.YtoloooammaiipaaDoorW.PrintWords Go.Proofs.YtoloooammaiipaaDoorW.PrintLast Go.Proofs.YtoloooammaiipaaDoorW.PrintMore
set_option linter.unusedVariables false
set_option linter.unusedSimpArgs false
set_option maxHeartbeats 8000000 in
set_option maxRecDepth 100000 in
theorem event_out (k n keep : Int) (hk : k < 0 ∨ 9 ≤ k) (A : Option Addr) (c0 : Nat) (l : List Int) (w : World) :
    Calls Tryd.prog 15 #[.agg #[.int .i64 k, .int .i64 n, .int .i64 keep, .slice A l.length c0]] w (EventPost k n keep l w) := by
  have HEO := Lib.hid (show eventO k n keep l = ([], 17) from if_pos hk)
  go_enter Tryd.func15, Tryd.ntmps15
  by_cases h : k < 0
  · clear hk
    go_wp2_with fail
    go_ret2
    refine ⟨?_, below_alloc (Below.refl _ _) _⟩
    rw [HEO.out]
    rfl
  · have h2 : (9 : Int) ≤ k := hk.elim (fun z => absurd z h) id
    have h3 : (0 : Int) ≤ k := by omega
    clear hk
    go_wp2_with fail
    go_ret2
    refine ⟨?_, below_alloc (Below.refl _ _) _⟩
    rw [HEO.out]
    rfl
theorem event_walk (k n keep : Int) (hn0 : -9223372036854775808 ≤ n) (hn1 : n ≤ 9223372036854775807) (hk0 : -9223372036854775808 ≤ keep) (hk1 : keep ≤ 9223372036854775807) (A : Option Addr) (c0 : Nat) (l : List Int) (hb : ∀ x ∈ l, 0 ≤ x ∧ x ≤ 255) (hl : l.length ≤ 1000000) (w : World) (hr : Kd.C (Kd.int .u8) w A l.length l) (hc : l.length ≤ c0) (hG : GlobT w) :
    Calls Tryd.prog 15 #[.agg #[.int .i64 k, .int .i64 n, .int .i64 keep, .slice A l.length c0]] w (EventPost k n keep l w) := by
  by_cases hk : k < 0 ∨ 9 ≤ k
  · exact event_out k n keep hk A c0 l w
  obtain ⟨i, rfl⟩ : ∃ i : Nat, k = (i : Int) := ⟨k.toNat, by omega⟩
  have hi : i < 9 := by omega
  obtain ⟨ks, fd, fc, fk, h⟩ : ∃ ks fd fc fk, kRows.getD i ([], false, false, false) = (ks, fd, fc, fk) := ⟨_, _, _, _, rfl⟩
  have key : ∀ j : Fin 9, (kRows.getD j.1 ([], false, false, false)).2 = (true, false, false) ∨ (kRows.getD j.1 ([], false, false, false)).2 = (false, false, false) ∨ (kRows.getD j.1 ([], false, false, false)).2 = (false, true, false) ∨ (kRows.getD j.1 ([], false, false, false)).2 = (false, true, true) ∨ (kRows.getD j.1 ([], false, false, false)).2 = (false, false, true) := by decide
  have hk2 := key ⟨i, hi⟩
  simp only at hk2
  rw [h] at hk2
  simp only [Prod.mk.injEq] at hk2
  rcases hk2 with ⟨rfl, rfl, rfl⟩ | ⟨rfl, rfl, rfl⟩ | ⟨rfl, rfl, rfl⟩ | ⟨rfl, rfl, rfl⟩ | ⟨rfl, rfl, rfl⟩
  · exact event_d i hi ks h n keep hn0 hn1 hk0 hk1 A c0 l hb hl w hr hc hG
  · exact event_z i hi ks h n keep hn0 hn1 hk0 hk1 A c0 l hb hl w hr hc hG
  · exact event_c i hi ks h n keep hn0 hn1 hk0 hk1 A c0 l hb hl w hr hc hG
  · exact event_ck i hi ks h n keep hn0 hn1 hk0 hk1 A c0 l hb hl w hr hc hG
  · exact event_k i hi ks h n keep hn0 hn1 hk0 hk1 A c0 l hb hl w hr hc hG
end Go.Proofs.YtoloooammaiipaaDoor
/- What a text's builder's WriteString writes at this program; conditions: as the walk's own. -/
namespace Go.Proofs.YtoloooammaiipaaDoor
open Go Go.RowKit
set_option linter.unusedVariables false
set_option maxHeartbeats 2000000 in
set_option maxRecDepth 100000 in
theorem write_text (B b : Nat) (bs : List Value) (s : ByteArray) (w : World) (h : Lib.IsBuilderF 59 5 B b bs w) (hlen : bs.length + s.size ≤ 140737488355328) (hBw : B ≤ w.heap.size) :
    Calls Tryd.prog 38 #[.pointer (some ⟨b, 0, none⟩), .string s] w fun e w' => e = .returned (.tuple #[.int .i64 s.size, .nilIface]) ∧ (Lib.BuilderAtF 59 5 B b (.pointer (some ⟨b, 0, none⟩)) (bs ++ Lib.strCells s) w' ∧ Below B w w' ∧ Lib.OthersKept 5 (some b) w w') := by
  obtain ⟨i0, hi, hz0, hz1, hz2⟩ := info_parts (show (Tryd.prog.info? 5).map (fun i => (i.zero, i.size, i.bytes)) = some (some (.int .u8 0), 1, 1) by kernel_rfl)
  go_enter Tryd.func38, Tryd.ntmps38
  go_wp2_with (go_at_call 43; refine (copy_k B b bs _ h).mono ?_)
  rintro e w1 ⟨rfl, h1, hb1, hk1⟩
  obtain ⟨hB, v, hbk, hown, hne⟩ := h1
  have c0 : w1.cell? ⟨b, 0, none⟩ = some (.pointer (some ⟨b, 0, none⟩)) := by rw [Lib.cell_of_heap hbk]; rfl
  have c1 : w1.cell? ⟨b, 1, none⟩ = some v := by rw [Lib.cell_of_heap hbk]; rfl
  go_wp2_with (at_builtin; refine Lib.wpList_append_own_stringF _ rfl _ _ 22 9 rfl B 5 i0 Tryd.underlying22 Tryd.underlying9 hi hz0 hz1 hz2 _ _ _ rfl hown s rfl ?c3 ?c4 ?c5 ?_)
  case c3 => unfold maxLen; omega
  case c4 => omega
  case c5 => have := hb1.size; omega
  intro v' w2 hown' hgrow _
  have hlt : b < w1.heap.size := by
    rcases Nat.lt_or_ge b w1.heap.size with h' | h'
    · exact h'
    · simp [Array.getElem?_eq_none h'] at hbk
  have hb2 : w2.heap[b]? = some (.cells #[.pointer (some ⟨b, 0, none⟩), v] 59 (0, 0)) := by
    rw [hgrow.block b hlt (fun e => hne e.symm)]
    exact hbk
  have d0 : w2.cell? ⟨b, 0, none⟩ = some (.pointer (some ⟨b, 0, none⟩)) := by rw [Lib.cell_of_heap hb2]; rfl
  have d1 : w2.cell? ⟨b, 1, none⟩ = some v := by rw [Lib.cell_of_heap hb2]; rfl
  have f1 : w2.frozen? ⟨b, 1, none⟩ = false := Lib.frozen_of_heap hb2 1
  obtain ⟨ao, n', cap, rfl⟩ : ∃ ao n' cap, v' = .slice ao n' cap := by
    rcases hown'.2 with ⟨hv, _⟩ | ⟨g, cap, cur, fz, hv, _⟩
    · exact ⟨_, _, _, hv⟩
    · exact ⟨_, _, _, hv⟩
  go_wp2
  go_ret2
  refine ⟨rfl, ?_, ?_, (hk1.grown hgrow (Lib.ownsRowF_kind hown)).setCell ⟨b, 1, none⟩ rfl _⟩
  · exact Lib.BuilderAtF.put (T := 59) (e := 5) hB hb2 (bs' := bs ++ Lib.strCells s) (by simpa [Lib.strCells_length] using hown') (by decide)
  · exact (hb1.grown hgrow (by have := hb1.size; omega) (fun k hk => (hown.lt k hk).1)).setCell (p := ⟨b, 1, none⟩) hB _
end Go.Proofs.YtoloooammaiipaaDoor
/- What trace.Format gives: a walk; conditions: steps of bytes, which weigh at most 100000; the tables lie as the program's text lays them. -/
namespace Go.Proofs.YtoloooammaiipaaDoor
open Go Go.RowKit Go.Proofs.YtoloooammaiipaaDoor.PI Go.Proofs.YtoloooammaiipaaDoorW.PrintWords Go.Proofs.YtoloooammaiipaaDoorW.PrintLast Go.Proofs.YtoloooammaiipaaDoorW.PrintMore
set_option linter.unusedVariables false
set_option linter.unusedSimpArgs false
abbrev Stp := S42
abbrev Oup := S56
def evO (x : Stp) : List UInt8 × Int := eventO x.f0.f0 x.f0.f1 x.f0.f2 x.f0.f3
/-- An output's line. -/
def outText (o : Oup) : List UInt8 := ((if o.f0 = true then [98, 97, 99, 107, 32] else [111, 110, 32]) ++ hexT o.f1) ++ [10]
def outsText (L : List Oup) : List UInt8 := L.flatMap outText
/-- A step's lines. -/
def stepText (x : Stp) : List UInt8 := ((evO x).1 ++ [10]) ++ (outsText x.f1 ++ (if x.f2 = true then [103, 111, 110, 101, 10] else []))
def fmtL (l : List Stp) : List UInt8 := l.flatMap stepText
/-- Steps' text, or why there is none. -/
def formatO (l : List Stp) : List UInt8 × Int := match l.find? (fun x => (evO x).2 != 0) with
  | some x => ([], (evO x).2)
  | none => (fmtL l, 0)
def OuOK (o : Oup) : Prop := ∀ c ∈ o.f1, 0 ≤ c ∧ c ≤ 255
def StOK (x : Stp) : Prop := (-9223372036854775808 ≤ x.f0.f1 ∧ x.f0.f1 ≤ 9223372036854775807) ∧ (-9223372036854775808 ≤ x.f0.f2 ∧ x.f0.f2 ≤ 9223372036854775807) ∧ (∀ c ∈ x.f0.f3, 0 ≤ c ∧ c ≤ 255) ∧ ∀ o ∈ x.f1, OuOK o
instance (x : Stp) : Decidable (StOK x) := by unfold StOK OuOK; infer_instance
def wtO (L : List Oup) : Nat := (L.map fun o => 1 + o.f1.length).sum
def wtS (x : Stp) : Nat := 1 + x.f0.f3.length + wtO x.f1
def wtL (l : List Stp) : Nat := (l.map wtS).sum
theorem evO_len (x : Stp) (h : StOK x) : (evO x).1.length ≤ 60 + 2 * x.f0.f3.length := by
  unfold evO eventO
  split
  · simp
  split
  · simp
  have h1 := itoa_size h.1.1 h.1.2
  have h2 := itoa_size h.2.1.1 h.2.1.2
  have h3 := hexT_len x.f0.f3
  rw [strOf_size] at h1 h2
  have h4 : (kRows.getD x.f0.f0.toNat ([], false, false, false)).1.length ≤ 8 := by
    by_cases hk : x.f0.f0.toNat < 9
    · exact row_len (i := x.f0.f0.toNat) rfl hk
    · rw [List.getD_eq_getElem?_getD, List.getElem?_eq_none (by show 9 ≤ _; omega)]
      exact Nat.zero_le _
  unfold evText
  simp only [List.length_append]
  split <;> split <;> split <;> simp only [List.length_cons, List.length_nil] <;> omega
theorem outText_len (o : Oup) : (outText o).length ≤ 10 * (1 + o.f1.length) := by
  have h3 := hexT_len o.f1
  unfold outText
  simp only [List.length_append]
  split <;> simp only [List.length_cons, List.length_nil] <;> omega
theorem outsText_len (L : List Oup) : (outsText L).length ≤ 10 * wtO L := by
  induction L with
  | nil => exact Nat.zero_le _
  | cons o r ih =>
    have e1 : outsText (o :: r) = outText o ++ outsText r := by simp [outsText]
    have e2 : wtO (o :: r) = (1 + o.f1.length) + wtO r := by simp [wtO]
    have := outText_len o
    rw [e1, e2, List.length_append]
    omega
theorem stepText_len (x : Stp) (h : StOK x) : (stepText x).length ≤ 100 * wtS x := by
  have h1 := evO_len x h
  have h2 := outsText_len x.f1
  unfold stepText wtS
  simp only [List.length_append]
  split <;> simp only [List.length_cons, List.length_nil] <;> omega
theorem fmtL_len (l : List Stp) (h : ∀ x ∈ l, StOK x) : (fmtL l).length ≤ 100 * wtL l := by
  induction l with
  | nil => exact Nat.zero_le _
  | cons x r ih =>
    have e1 : fmtL (x :: r) = stepText x ++ fmtL r := by simp [fmtL]
    have e2 : wtL (x :: r) = wtS x + wtL r := by simp [wtL]
    have h1 := stepText_len x (h x List.mem_cons_self)
    have h2 := ih (fun y hy => h y (List.mem_cons_of_mem _ hy))
    rw [e1, e2, List.length_append]
    omega
theorem fmtL_take (l : List Stp) (i : Nat) (h : i < l.length) : fmtL (l.take (i + 1)) = fmtL (l.take i) ++ stepText (l[i]'h) := by
  rw [List.take_succ_eq_append_getElem h]
  unfold fmtL
  rw [List.flatMap_append, List.flatMap_singleton]
theorem outsText_take (l : List Oup) (i : Nat) (h : i < l.length) : outsText (l.take (i + 1)) = outsText (l.take i) ++ outText (l[i]'h) := by
  rw [List.take_succ_eq_append_getElem h]
  unfold outsText
  rw [List.flatMap_append, List.flatMap_singleton]
theorem wtL_mem {l : List Stp} {x : Stp} (h : x ∈ l) : wtS x ≤ wtL l := by
  induction l with
  | nil => cases h
  | cons y r ih =>
    have e2 : wtL (y :: r) = wtS y + wtL r := by simp [wtL]
    rcases List.mem_cons.1 h with rfl | h
    · omega
    · have := ih h; omega
theorem wtO_mem {l : List Oup} {x : Oup} (h : x ∈ l) : 1 + x.f1.length ≤ wtO l := by
  induction l with
  | nil => cases h
  | cons y r ih =>
    have e2 : wtO (y :: r) = (1 + y.f1.length) + wtO r := by simp [wtO]
    rcases List.mem_cons.1 h with rfl | h
    · omega
    · have := ih h; omega
theorem wtL_len (l : List Stp) : l.length ≤ wtL l := by
  induction l with
  | nil => exact Nat.zero_le _
  | cons y r ih =>
    have e2 : wtL (y :: r) = wtS y + wtL r := by simp [wtL]
    have e3 : 1 ≤ wtS y := by unfold wtS; omega
    rw [List.length_cons]
    omega
theorem wtO_len (l : List Oup) : l.length ≤ wtO l := by
  induction l with
  | nil => exact Nat.zero_le _
  | cons y r ih =>
    have e2 : wtO (y :: r) = (1 + y.f1.length) + wtO r := by simp [wtO]
    rw [List.length_cons]
    omega
theorem wtL_take_le (l : List Stp) (i : Nat) : wtL (l.take i) ≤ wtL l := by
  have h : wtL l = wtL (l.take i) + wtL (l.drop i) := by
    unfold wtL
    rw [← List.sum_append, ← List.map_append, List.take_append_drop]
  omega
theorem format_bad {l : List Stp} {i : Nat} (hi : i < l.length) (hno : ∀ j, (h : j < i) → (evO (l[j]'(by omega))).2 = 0) (h : (evO (l[i]'hi)).2 ≠ 0) : formatO l = ([], (evO (l[i]'hi)).2) := by
  have e : l.find? (fun x => (evO x).2 != 0) = some (l[i]'hi) := by
    rw [List.find?_eq_some_iff_getElem]
    refine ⟨by simpa using h, i, hi, rfl, fun j hj => ?_⟩
    have := hno j hj
    simp [this]
  unfold formatO
  rw [e]
theorem format_good {l : List Stp} (hno : ∀ j, (h : j < l.length) → (evO (l[j]'h)).2 = 0) : formatO l = (fmtL l, 0) := by
  have e : l.find? (fun x => (evO x).2 != 0) = none := by
    rw [List.find?_eq_none]
    intro x hx
    obtain ⟨j, hj, rfl⟩ := List.mem_iff_getElem.1 hx
    simp [hno j hj]
  unfold formatO
  rw [e]
theorem cells_text (l : List UInt8) (s : ByteArray) : Lib.byteCells l ++ Lib.strCells s = Lib.byteCells (l ++ s.data.toList) := by rw [Lib.byteCells_append]; rfl
def FmtPost (l : List Stp) (w : World) (e : Ending) (w' : World) : Prop := e = .returned (.tuple #[.string (strOf (formatO l).1), .int .i64 (formatO l).2]) ∧ Below w.heap.size w w'
theorem step_split (x : Stp) : stepText x = ((evO x).1 ++ [10]) ++ (outsText x.f1 ++ (if x.f2 = true then [103, 111, 110, 101, 10] else [])) := rfl
theorem rd_step {l : List Stp} {i : Nat} (h : i < l.length) : rd_T42 l (i : Int) = l[i]'h := by
  unfold rd_T42
  rw [Int.toNat_natCast, List.getD_eq_getElem?_getD, List.getElem?_eq_getElem h]
  rfl
theorem rd_out {l : List Oup} {i : Nat} (h : i < l.length) : rd_T56 l (i : Int) = l[i]'h := by
  unfold rd_T56
  rw [Int.toNat_natCast, List.getD_eq_getElem?_getD, List.getElem?_eq_getElem h]
  rfl
/-- A builder of some bytes. -/
abbrev Bl (b : Nat) (l : List UInt8) (w : World) : Prop := Lib.IsBuilderF 59 5 b b (Lib.byteCells l) w
theorem write_in {b : Nat} {l : List UInt8} {s : ByteArray} {w : World} (h : Bl b l w) (hl : l.length + s.size ≤ 100000000) (hB : b ≤ w.heap.size) :
    Calls Tryd.prog 38 #[.pointer (some ⟨b, 0, none⟩), .string s] w fun e w' => e = .returned (.tuple #[.int .i64 s.size, .nilIface]) ∧ Bl b (l ++ s.data.toList) w' ∧ Below b w w' ∧ Lib.OthersKept 5 (some b) w w' := by
  refine (write_text b b (Lib.byteCells l) s w h (by rw [Lib.byteCells_length]; omega) hB).mono ?_
  rintro e w' ⟨rfl, h1, h2, h3⟩
  rw [cells_text] at h1
  exact ⟨rfl, Or.inr h1, h2, h3⟩
set_option maxHeartbeats 16000000 in
set_option maxRecDepth 100000 in
theorem format_walk (A : Option Addr) (c0 : Nat) (l : List Stp) (w : World) (hr : Kd.C k42 w A l.length l) (hc : l.length ≤ c0) (hok : ∀ x ∈ l, StOK x) (hw : wtL l ≤ 100000) (hG : GlobT w) :
    Calls Tryd.prog 21 #[.slice A l.length c0] w (FmtPost l w) := by
  have HR := Lib.hid hr
  have HOK := Lib.hid hok
  have HW := Lib.hid hw
  have HG := Lib.hid hG
  have HLL := Lib.hid (Nat.le_trans (wtL_len l) hw)
  clear hr hok hw hG
  go_enter Tryd.func21, Tryd.ntmps21
  go_wp2_with fail
  obtain ⟨b, hb⟩ : ∃ b, b = w.heap.size := ⟨_, rfl⟩
  have HBB := Lib.hid hb
  rw [← hb]
  clear hb
  go_loopw [14] (fun vi wr => ∃ i : Nat, vi = .int .i64 i ∧ i ≤ l.length ∧ Hid (Bl b (fmtL (l.take i)) wr ∧ Below b w wr ∧ (∀ j, j < i → (h : j < l.length) → (evO (l[j]'h)).2 = 0))) (fun vi _ => l.length - (intOf vi).toNat)
  case atStart => exact ⟨0, rfl, by omega, Lib.hid ⟨HBB.out ▸ Lib.IsBuilderF.of (Lib.fresh_isBuilder 59 5 w), HBB.out ▸ (Below.refl _ w).alloc (Nat.le_refl _) _, fun j hj => absurd hj (Nat.not_lt_zero j)⟩⟩
  case round =>
    obtain ⟨i, rfl, hi, hh⟩ := hrel
    obtain ⟨hbl, hbw, hno⟩ := hh.out
    have HBL := Lib.hid hbl
    have HBLr := Lib.hid (show b < wr.heap.size from hbl.elim Lib.BuilderAtF.lt Lib.BuilderAtF.lt)
    have HBW := Lib.hid hbw
    have HNO := Lib.hid hno
    clear hh hbl hbw hno
    by_cases hin : i < l.length
    · have i0 : (0 : Int) ≤ (i : Int) := by omega
      have i1 : (i : Int) < (l.length : Int) := by omega
      obtain ⟨ad, A3, c3, A4, c4, rfl, q0, q1, q2, q3, q4, q5, hc3, hC3, hc4, hC4⟩ := at_T42 HR.out (i : Int) i0 i1
      have up : ∀ {p : Addr} {v : Value}, w.cell? p = some v → wr.cell? p = some v := fun {p v} h => ((show Below w.heap.size w wr from HBB.out ▸ HBW.out).cell (World.block_lt_of_cell? w p h)).trans h
      replace q0 := up q0
      replace q1 := up q1
      replace q2 := up q2
      replace q3 := up q3
      replace q4 := up q4
      replace q5 := up q5
      clear up
      rw [rd_step hin] at q0 q1 q2 q3 q4 q5 hc3 hC3 hc4 hC4
      simp only [Int.toNat_natCast] at q0 q1 q2 q3 q4 q5
      have hokx := HOK.out _ (List.getElem_mem hin)
      have hwx := wtL_mem (List.getElem_mem hin)
      have htk := fmtL_take l i hin
      have hlt := fmtL_len (l.take (i + 1)) (fun y hy => HOK.out y (List.mem_of_mem_take hy))
      have hlt2 := wtL_take_le l (i + 1)
      have hgd := fun (h : (evO (l[i]'hin)).2 = 0) => (fun j (hj : j < i + 1) (hjl : j < l.length) => (show (evO (l[j]'hjl)).2 = 0 from by
        rcases Nat.lt_succ_iff_lt_or_eq.1 hj with hj | rfl
        · exact HNO.out j hj hjl
        · exact h))
      have hbad := fun (h : (evO (l[i]'hin)).2 ≠ 0) => format_bad hin (fun j hj => HNO.out j hj (by omega)) h
      obtain ⟨x, hx⟩ : ∃ x, x = l[i]'hin := ⟨_, rfl⟩
      rw [← hx] at q0 q1 q2 q3 q4 q5 hc3 hC3 hc4 hC4 hokx hwx htk hgd hbad
      obtain ⟨⟨k0, k1, k2, d⟩, os, cr⟩ := x
      simp only at q0 q1 q2 q3 q4 q5 hc3 hC3 hc4 hC4
      have HOKX := Lib.hid hokx
      have HWX := Lib.hid (show wtS ⟨⟨k0, k1, k2, d⟩, os, cr⟩ ≤ 100000 from Nat.le_trans hwx HW.out)
      have HTK := Lib.hid htk
      have HLT := Lib.hid (show (fmtL (l.take (i + 1))).length ≤ 10000000 from by have := HW.out; omega)
      have HGD := Lib.hid hgd
      have HBAD := Lib.hid hbad
      have HC3 := Lib.hid (And.intro hc3 hC3)
      have HC4 := Lib.hid (And.intro hc4 hC4)
      have BI := Lib.hid (hnext hin (by have := HLL.out; omega))
      clear hokx hwx htk hlt hlt2 hgd hbad hc3 hC3 hc4 hC4 hx
      go_wp2_with fail
      have HX := Lib.hid (blk_new wr (.cells #[.int .i64 k0, .int .i64 k1, .int .i64 k2, .slice A3 d.length c3, .slice A4 os.length c4, .bool cr] 42 (0, 0)))
      have HBL := Lib.hid (Lib.IsBuilderF.alloc HBL.out (.cells #[.int .i64 k0, .int .i64 k1, .int .i64 k2, .slice A3 d.length c3, .slice A4 os.length c4, .bool cr] 42 (0, 0)))
      have hbs := HBW.out.size
      have HB1 := Lib.hid (HBW.out.alloc (by have := HBB.out; omega) (.cells #[.int .i64 k0, .int .i64 k1, .int .i64 k2, .slice A3 d.length c3, .slice A4 os.length c4, .bool cr] 42 (0, 0)))
      have HGX := Lib.hid (show b < wr.heap.size from HBLr.out)
      clear q0 q1 q2 q3 q4 q5 hbs HBW
      generalize wr.alloc (.cells #[.int .i64 k0, .int .i64 k1, .int .i64 k2, .slice A3 d.length c3, .slice A4 os.length c4, .bool cr] 42) = w1 at HX HBL HB1 ⊢
      generalize wr.heap.size = gx at HX HGX ⊢
      refine (event_walk k0 k1 k2 HOKX.out.1.1 HOKX.out.1.2 HOKX.out.2.1.1 HOKX.out.2.1.2 A3 c3 d HOKX.out.2.2.1 (by have := HWX.out; unfold wtS at this; simp only at this; omega) w1 (Kd.C_below HC3.out.2 (HBB.out ▸ HB1.out)) HC3.out.1 (globt_below HG.out (HBB.out ▸ HB1.out))).mono ?_
      rintro e w2 ⟨rfl, hb2⟩
      have HXb := Lib.hid (blk_below HX.out hb2)
      have HBLb := Lib.hid (Lib.IsBuilderF.below HBL.out hb2)
      have HB2 := Lib.hid (HB1.out.trans (hb2.mono (by have := blk_lt HX.out; have := HGX.out; omega)))
      clear hb2 HX HBL HB1
      obtain ⟨et, er, het⟩ : ∃ et er, eventO k0 k1 k2 d = (et, er) := ⟨_, _, rfl⟩
      rw [het]
      have HET := Lib.hid het
      have hel := evO_len ⟨⟨k0, k1, k2, d⟩, os, cr⟩ HOKX.out
      have HEL := Lib.hid (show et.length ≤ 1000000 from by
        have h1 := hel
        have h2 := HWX.out
        unfold evO at h1
        unfold wtS at h2
        simp only at h1 h2
        rw [het] at h1
        simp only at h1
        omega)
      clear het hel
      have hst0 := strOf_size et
      have a1 : (9223372036854775807 < (strOf et).size + 1) = False := eq_false (by have := HEL.out; omega)
      have a2 : (strOf et).size + 1 ≤ 9223372036854775807 := by have := HEL.out; omega
      by_cases her : er = 0
      · subst her
        obtain ⟨sx, hsx⟩ : ∃ sx, sx = strOf et := ⟨_, rfl⟩
        rw [← hsx] at a1 a2 hst0 ⊢
        have HSX := Lib.hid hsx
        clear hsx
        go_wp2_with fail
        obtain ⟨pre, hpre⟩ : ∃ pre, pre = fmtL (l.take i) ++ (et ++ [10]) := ⟨_, rfl⟩
        have hsd : (sx ++ (⟨#[10]⟩ : ByteArray)).data.toList = et ++ [10] := by rw [ByteArray.data_append, Array.toList_append, HSX.out, strOf_data]
        have hpl : pre.length + (outsText os).length + 5 ≤ 20000000 := by
          have h1 := HLT.out
          rw [HTK.out, step_split] at h1
          have e1 : (evO ⟨⟨k0, k1, k2, d⟩, os, cr⟩).1 = et := by unfold evO; rw [HET.out]
          rw [e1] at h1
          rw [hpre]
          simp only [List.length_append] at h1 ⊢
          omega
        have HPL := Lib.hid hpl
        have HHG := Lib.hid (HGD.out (by unfold evO; rw [HET.out]))
        refine (write_in HBLb.out (by have h1 := hpl; rw [hpre] at h1; simp only [List.length_append, List.length_cons, List.length_nil] at h1; rw [ByteArray.size_append]; show _ + (sx.size + 1) ≤ _; omega) (Nat.le_trans (by have := HBB.out; omega) HB2.out.size)).mono ?_
        rintro e w3 ⟨rfl, hbl3, hb3, hk3⟩
        rw [hsd, ← hpre] at hbl3
        have HPRE := Lib.hid hpre
        have HBL3 := Lib.hid hbl3
        have HB3 := Lib.hid (HB2.out.trans hb3)
        have HX3 := Lib.hid (hk3 gx _ HXb.out (fun h => by have := HGX.out; have := Option.some.inj h; omega) (fun c fz h => by injection h with _ h2 _; exact absurd h2 (by decide)))
        clear hpre hsd hpl hbl3 hb3 hk3 HXb HBLb HB2 a1 a2 hst0
        have x4 := cell_of_cells HX3.out 4
        simp only [List.getElem?_toArray, List.getElem?_cons_zero, List.getElem?_cons_succ] at x4
        go_wp2_with fail
        clear x4
        go_loopw [33] (fun vj wj => ∃ j : Nat, vj = .int .i64 j ∧ j ≤ os.length ∧ Hid (Bl b (pre ++ outsText (os.take j)) wj ∧ Below b w wj ∧ wj.heap[gx]? = some (.cells #[.int .i64 k0, .int .i64 k1, .int .i64 k2, .slice A3 d.length c3, .slice A4 os.length c4, .bool cr] 42 (0, 0)))) (fun vj _ => os.length - (intOf vj).toNat)
        case atStart => exact ⟨0, rfl, by omega, Lib.hid ⟨by rw [List.take_zero]; show Bl b (pre ++ []) _; rw [List.append_nil]; exact HBL3.out, HB3.out, HX3.out⟩⟩
        case round =>
          obtain ⟨j, rfl, hj, hh⟩ := hrel
          obtain ⟨hblj, hbj, hxj⟩ := hh.out
          have HBLJ := Lib.hid hblj
          have HBJ := Lib.hid hbj
          have HXJ := Lib.hid hxj
          clear hh hblj hbj hxj
          by_cases hjn : j < os.length
          · have j0 : (0 : Int) ≤ (j : Int) := by omega
            have j1 : (j : Int) < (os.length : Int) := by omega
            obtain ⟨ad2, A1, c1, rfl, p0, p1, hc1, hC1⟩ := at_T56 HC4.out.2 (j : Int) j0 j1
            have up : ∀ {p : Addr} {v : Value}, w.cell? p = some v → wr.cell? p = some v := fun {p v} h => ((show Below w.heap.size w wr from HBB.out ▸ HBJ.out).cell (World.block_lt_of_cell? w p h)).trans h
            replace p0 := up p0
            replace p1 := up p1
            clear up
            rw [rd_out hjn] at p0 p1 hc1 hC1
            simp only [Int.toNat_natCast] at p0 p1
            have hoo := HOKX.out.2.2.2 _ (List.getElem_mem hjn)
            have hwo := wtO_mem (List.getElem_mem hjn)
            have hot := outsText_take os j hjn
            have hol : (outsText (os.take (j + 1))).length ≤ (outsText os).length := by
              have e : outsText os = outsText (os.take (j + 1)) ++ outsText (os.drop (j + 1)) := by
                unfold outsText
                rw [← List.flatMap_append, List.take_append_drop]
              rw [e, List.length_append]
              omega
            obtain ⟨o, ho⟩ : ∃ o, o = os[j]'hjn := ⟨_, rfl⟩
            rw [← ho] at p0 p1 hc1 hC1 hoo hwo hot
            obtain ⟨ob, od⟩ := o
            simp only at p0 p1 hc1 hC1 hoo hwo
            have HOO := Lib.hid hoo
            have HOT := Lib.hid hot
            have HOL := Lib.hid hol
            have HWO := Lib.hid (show od.length ≤ 100000 from by have h1 := HWX.out; unfold wtS at h1; simp only at h1; omega)
            have HC1 := Lib.hid (And.intro hc1 hC1)
            have BJ := Lib.hid (hnext hjn (by have h1 := HWX.out; have h2 := wtO_len os; unfold wtS at h1; simp only at h1; omega))
            clear hoo hwo hot hol hc1 hC1 ho
            cases ob with
            | true =>
              go_wp2_with fail
              have HBLY := Lib.hid (Lib.IsBuilderF.alloc HBLJ.out (.cells #[.bool true, .slice A1 od.length c1] 56 (0, 0)))
              have hsz := HBJ.out.size
              have HBY := Lib.hid (HBJ.out.alloc (by have := HBB.out; omega) (.cells #[.bool true, .slice A1 od.length c1] 56 (0, 0)))
              have HXY := Lib.hid (blk_alloc HXJ.out (.cells #[.bool true, .slice A1 od.length c1] 56 (0, 0)))
              clear p0 p1 HBLJ HBJ HXJ hsz
              generalize wr.alloc (.cells #[.bool true, .slice A1 od.length c1] 56) = wy at HBLY HBY HXY ⊢
              refine (hex_walk A1 c1 od HOO.out (by have := HWO.out; omega) wy (Kd.C_below HC1.out.2 (HBB.out ▸ HBY.out)) HC1.out.1).mono ?_
              rintro e wz ⟨rfl, hbz⟩
              have HBLZ := Lib.hid (Lib.IsBuilderF.below HBLY.out hbz)
              have HXZ := Lib.hid (blk_below HXY.out hbz)
              have HBZ := Lib.hid (HBY.out.trans (hbz.mono (by have := blk_lt HXY.out; have := HGX.out; omega)))
              clear HBLY HXY HBY hbz
              obtain ⟨hx, hhx⟩ : ∃ hx, hx = strOf (hexT od) := ⟨_, rfl⟩
              rw [← hhx]
              have hxs : hx.size ≤ 200001 := by rw [hhx, strOf_size]; have := hexT_len od; have := HWO.out; omega
              have s1 : (9223372036854775807 < 5 + hx.size) = False := eq_false (by omega)
              have s2 : 5 + hx.size ≤ 9223372036854775807 := by omega
              have s3 : (9223372036854775807 < 5 + hx.size + 1) = False := eq_false (by omega)
              have s4 : 5 + hx.size + 1 ≤ 9223372036854775807 := by omega
              have hdt : (((⟨#[98, 97, 99, 107, 32]⟩ : ByteArray) ++ hx) ++ (⟨#[10]⟩ : ByteArray)).data.toList = outText ⟨true, od⟩ := by
                rw [ByteArray.data_append, Array.toList_append, ByteArray.data_append, Array.toList_append, hhx, strOf_data]
                rfl
              have hds : (((⟨#[98, 97, 99, 107, 32]⟩ : ByteArray) ++ hx) ++ (⟨#[10]⟩ : ByteArray)).size = (outText ⟨true, od⟩).length := by rw [← len_size, hdt]
              have HDT := Lib.hid hdt
              have HDS := Lib.hid hds
              clear hhx hdt hds
              go_wp2_with fail
              refine (write_in HBLZ.out (by
                have h1 := HOL.out
                have h2 := HPL.out
                rw [HOT.out, List.length_append] at h1
                have h3 := HDS.out
                rw [List.length_append]
                omega) (Nat.le_trans (by have := HBB.out; omega) HBZ.out.size)).mono ?_
              rintro e w6 ⟨rfl, hbl6, hb6, hk6⟩
              rw [HDT.out, List.append_assoc, ← HOT.out] at hbl6
              have HBL6 := Lib.hid hbl6
              have HB6 := Lib.hid (HBZ.out.trans hb6)
              have HX6 := Lib.hid (hk6 gx _ HXZ.out (fun h => by have := HGX.out; have := Option.some.inj h; omega) (fun c fz h => by injection h with _ h2 _; exact absurd h2 (by decide)))
              clear hbl6 hb6 hk6 s1 s2 s3 s4 hxs
              go_wp2_with fail
              exact ⟨⟨j + 1, by first | rfl | exact congrArg _ BJ.out, hjn, Lib.hid ⟨HBL6.out, HB6.out, HX6.out⟩⟩, by first | exact hmeas hjn BJ.out | exact hmeas hjn rfl⟩
            | false =>
              go_wp2_with fail
              have HBLY := Lib.hid (Lib.IsBuilderF.alloc HBLJ.out (.cells #[.bool false, .slice A1 od.length c1] 56 (0, 0)))
              have hsz := HBJ.out.size
              have HBY := Lib.hid (HBJ.out.alloc (by have := HBB.out; omega) (.cells #[.bool false, .slice A1 od.length c1] 56 (0, 0)))
              have HXY := Lib.hid (blk_alloc HXJ.out (.cells #[.bool false, .slice A1 od.length c1] 56 (0, 0)))
              clear p0 p1 HBLJ HBJ HXJ hsz
              generalize wr.alloc (.cells #[.bool false, .slice A1 od.length c1] 56) = wy at HBLY HBY HXY ⊢
              refine (hex_walk A1 c1 od HOO.out (by have := HWO.out; omega) wy (Kd.C_below HC1.out.2 (HBB.out ▸ HBY.out)) HC1.out.1).mono ?_
              rintro e wz ⟨rfl, hbz⟩
              have HBLZ := Lib.hid (Lib.IsBuilderF.below HBLY.out hbz)
              have HXZ := Lib.hid (blk_below HXY.out hbz)
              have HBZ := Lib.hid (HBY.out.trans (hbz.mono (by have := blk_lt HXY.out; have := HGX.out; omega)))
              clear HBLY HXY HBY hbz
              obtain ⟨hx, hhx⟩ : ∃ hx, hx = strOf (hexT od) := ⟨_, rfl⟩
              rw [← hhx]
              have hxs : hx.size ≤ 200001 := by rw [hhx, strOf_size]; have := hexT_len od; have := HWO.out; omega
              have s1 : (9223372036854775807 < 3 + hx.size) = False := eq_false (by omega)
              have s2 : 3 + hx.size ≤ 9223372036854775807 := by omega
              have s3 : (9223372036854775807 < 3 + hx.size + 1) = False := eq_false (by omega)
              have s4 : 3 + hx.size + 1 ≤ 9223372036854775807 := by omega
              have hdt : (((⟨#[111, 110, 32]⟩ : ByteArray) ++ hx) ++ (⟨#[10]⟩ : ByteArray)).data.toList = outText ⟨false, od⟩ := by
                rw [ByteArray.data_append, Array.toList_append, ByteArray.data_append, Array.toList_append, hhx, strOf_data]
                rfl
              have hds : (((⟨#[111, 110, 32]⟩ : ByteArray) ++ hx) ++ (⟨#[10]⟩ : ByteArray)).size = (outText ⟨false, od⟩).length := by rw [← len_size, hdt]
              have HDT := Lib.hid hdt
              have HDS := Lib.hid hds
              clear hhx hdt hds
              go_wp2_with fail
              refine (write_in HBLZ.out (by
                have h1 := HOL.out
                have h2 := HPL.out
                rw [HOT.out, List.length_append] at h1
                have h3 := HDS.out
                rw [List.length_append]
                omega) (Nat.le_trans (by have := HBB.out; omega) HBZ.out.size)).mono ?_
              rintro e w6 ⟨rfl, hbl6, hb6, hk6⟩
              rw [HDT.out, List.append_assoc, ← HOT.out] at hbl6
              have HBL6 := Lib.hid hbl6
              have HB6 := Lib.hid (HBZ.out.trans hb6)
              have HX6 := Lib.hid (hk6 gx _ HXZ.out (fun h => by have := HGX.out; have := Option.some.inj h; omega) (fun c fz h => by injection h with _ h2 _; exact absurd h2 (by decide)))
              clear hbl6 hb6 hk6 s1 s2 s3 s4 hxs
              go_wp2_with fail
              exact ⟨⟨j + 1, by first | rfl | exact congrArg _ BJ.out, hjn, Lib.hid ⟨HBL6.out, HB6.out, HX6.out⟩⟩, by first | exact hmeas hjn BJ.out | exact hmeas hjn rfl⟩
          · obtain rfl : j = os.length := by omega
            have hbl := HBLJ.out
            rw [List.take_length] at hbl
            have x5 := cell_of_cells HXJ.out 5
            simp only [List.getElem?_toArray, List.getElem?_cons_zero, List.getElem?_cons_succ] at x5
            have hev : (evO ⟨⟨k0, k1, k2, d⟩, os, cr⟩).1 = et := by unfold evO; rw [HET.out]
            have HBQ := Lib.hid hbl
            have HEV := Lib.hid hev
            clear hbl hev HBLJ
            cases cr with
            | true =>
              go_wp2_with fail
              refine (write_in HBQ.out (by have h2 := HPL.out; rw [List.length_append]; show _ + 5 ≤ _; omega) (Nat.le_trans (by have := HBB.out; omega) HBJ.out.size)).mono ?_
              rintro e w6 ⟨rfl, hbl6, hb6, hk6⟩
              have hfin : Bl b (fmtL (l.take (i + 1))) w6 := by
                rw [HTK.out, step_split, HEV.out, ← List.append_assoc, ← HPRE.out, ← List.append_assoc]
                exact hbl6
              have HFIN := Lib.hid hfin
              have HB6 := Lib.hid (HBJ.out.trans hb6)
              clear hbl6 hb6 hk6 hfin x5
              go_wp2_with fail
              exact ⟨⟨i + 1, by first | rfl | exact congrArg _ BI.out, hin, Lib.hid ⟨HFIN.out, HB6.out, HHG.out⟩⟩, by first | exact hmeas hin BI.out | exact hmeas hin rfl⟩
            | false =>
              have hfin : Bl b (fmtL (l.take (i + 1))) wr := by
                rw [HTK.out, step_split, HEV.out, ← List.append_assoc, ← HPRE.out]
                show Bl b (pre ++ (outsText os ++ [])) wr
                rw [List.append_nil]
                exact HBQ.out
              have HFIN := Lib.hid hfin
              clear hfin
              go_wp2_with fail
              exact ⟨⟨i + 1, by first | rfl | exact congrArg _ BI.out, hin, Lib.hid ⟨HFIN.out, HBJ.out, HHG.out⟩⟩, by first | exact hmeas hin BI.out | exact hmeas hin rfl⟩
      · have hb0 : (er == 0) = false := beq_eq_false_iff_ne.2 her
        have hb1 : (er != 0) = true := bne_iff_ne.2 her
        have HFO := Lib.hid (HBAD.out (by unfold evO; rw [HET.out]; exact her))
        go_wp2_with fail
        go_ret2
        refine ⟨?_, HBB.out ▸ HB2.out⟩
        rw [HFO.out]
        unfold evO
        rw [HET.out]
        rfl
    · obtain rfl : i = l.length := by omega
      have hbl := HBL.out
      rw [List.take_length] at hbl
      have hgood := format_good (l := l) (fun j hj => HNO.out j hj hj)
      have HGOOD := Lib.hid hgood
      clear hgood
      go_wp2_with fail
      refine (Tryd.Builder_String_any_k b b (fmtL l) _ hbl (Nat.le_trans (by have := HBB.out; omega) HBW.out.size)).mono ?_
      rintro e w3 ⟨rfl, _, hb3, _⟩
      have HB3 := Lib.hid (HBW.out.trans hb3)
      clear hbl hb3
      go_wp2_with fail
      go_ret2
      refine ⟨?_, HBB.out ▸ HB3.out⟩
      rw [HGOOD.out]
      rfl
end Go.Proofs.YtoloooammaiipaaDoor
-- Written by a program of this work (the kit's print, with contracts of this work's own taken in) out of the translation. Not trusted: Lean checks it.
namespace Go.Proofs.YtoloooammaiipaaDoor.PM
open Go.Proofs.YtoloooammaiipaaDoor.PI (S29 z29 k29 k29_open k29_openM k29_mk k29_mkM k29_openF k29_mkF rd_T29 at_T29 S56 z56 k56 k56_open k56_openM k56_mk k56_mkM k56_openF k56_mkF rd_T56 at_T56 S42 z42 k42 k42_open k42_openM k42_mk k42_mkM k42_openF k42_mkF rd_T42 at_T42)
open Go.RowKit Go.Proofs.YtoloooammaiipaaDoorW.PrintWords Go.Proofs.YtoloooammaiipaaDoorW.PrintLast Go.Proofs.YtoloooammaiipaaDoorW.PrintMore
attribute [local go_sem] max2_int min2_int max_two min_two max_three min_three max_four min_four   -- for this text's walks alone
set_option linter.unusedVariables false
set_option linter.unusedSimpArgs false

/-! ### trace_Format: function 21 -/
def trace_Format.f (l0 : List (S42)) : Option (ByteArray × Int) := if (∀ x ∈ l0, StOK x) ∧ wtL l0 ≤ 100000 then some (strOf (formatO l0).1, (formatO l0).2) else none
theorem trace_Format.calls (A0 : Option Addr) (c0 : Nat) (l0 : List (S42)) (r1 : ByteArray) (r2 : Int) (w : World) (hr0 : Kd.C k42 w A0 l0.length l0) (hc0 : l0.length ≤ c0) (h : trace_Format.f l0 = some (r1, r2)) (hGT : GlobT w) :
    Calls Tryd.prog 21 #[.slice A0 l0.length c0] w fun e w' => e = .returned (.tuple #[.string r1, .int .i64 r2]) ∧ Below w.heap.size w w' := by
  unfold trace_Format.f at h
  split at h
  · rename_i hq
    have h5 := Option.some.inj h
    simp only [Prod.mk.injEq] at h5
    obtain ⟨rfl, rfl⟩ := h5
    exact format_walk A0 c0 l0 w hr0 hc0 hq.1 hq.2 hGT
  · cases h


end Go.Proofs.YtoloooammaiipaaDoor.PM
/- What lamplighterref19.Same gives of two rows of the same steps: a walk; conditions: at most a million steps, at most a million outputs each. -/
namespace Go.Proofs.YtoloooammaiipaaDoor
open Go Go.RowKit Go.Proofs.YtoloooammaiipaaDoor.PI Go.Proofs.YtoloooammaiipaaDoorW.PrintWords Go.Proofs.YtoloooammaiipaaDoorW.PrintLast Go.Proofs.YtoloooammaiipaaDoorW.PrintMore
set_option linter.unusedVariables false
set_option linter.unusedSimpArgs false
instance : DecidableEq S29 := fun a b => decidable_of_iff (a.f0 = b.f0 ∧ a.f1 = b.f1 ∧ a.f2 = b.f2 ∧ a.f3 = b.f3) (by cases a; cases b; simp)
instance : DecidableEq S56 := fun a b => decidable_of_iff (a.f0 = b.f0 ∧ a.f1 = b.f1) (by cases a; cases b; simp)
instance : DecidableEq S42 := fun a b => decidable_of_iff (a.f0 = b.f0 ∧ a.f1 = b.f1 ∧ a.f2 = b.f2) (by cases a; cases b; simp)
set_option maxHeartbeats 16000000 in
set_option maxRecDepth 100000 in
theorem same_walk (A B : Option Addr) (cA cB : Nat) (l : List Stp) (w : World) (hr : Kd.C k42 w A l.length l) (hr2 : Kd.C k42 w B l.length l) (hl : l.length ≤ 1000000) (ho : ∀ x ∈ l, x.f1.length ≤ 1000000) :
    Calls Tryd.prog 19 #[.slice A l.length cA, .slice B l.length cB] w fun e w' => e = .returned (.bool true) ∧ Below w.heap.size w w' := by
  have HR := Lib.hid hr
  have HR2 := Lib.hid hr2
  have HLL := Lib.hid hl
  have HOL := Lib.hid ho
  clear hr hr2 hl ho
  go_enter Tryd.func19, Tryd.ntmps19
  go_wp2_with fail
  go_loopw [5] (fun v5 wr => ∃ i : Nat, v5 = .int .i64 i ∧ i ≤ l.length ∧ Hid (Below w.heap.size w wr)) (fun v5 _ => l.length - (intOf v5).toNat)
  case atStart => exact ⟨0, rfl, by omega, Lib.hid (Below.refl _ _)⟩
  case round =>
    obtain ⟨i, rfl, hi, hbw⟩ := hrel
    by_cases hin : i < l.length
    · have i0 : (0 : Int) ≤ (i : Int) := by omega
      have i1 : (i : Int) < (l.length : Int) := by omega
      obtain ⟨ad, A3, c3, A4, c4, rfl, q0, q1, q2, q3, q4, q5, hc3, hC3, hc4, hC4⟩ := at_T42 HR.out (i : Int) i0 i1
      obtain ⟨bd, B3, d3, B4, d4, rfl, r0, r1, r2, r3, r4, r5, hd3, hD3, hd4, hD4⟩ := at_T42 HR2.out (i : Int) i0 i1
      have up : ∀ {p : Addr} {v : Value}, w.cell? p = some v → wr.cell? p = some v := fun {p v} h => (hbw.out.cell (World.block_lt_of_cell? w p h)).trans h
      replace q0 := up q0
      replace q1 := up q1
      replace q2 := up q2
      replace q3 := up q3
      replace q4 := up q4
      replace q5 := up q5
      replace r0 := up r0
      replace r1 := up r1
      replace r2 := up r2
      replace r3 := up r3
      replace r4 := up r4
      replace r5 := up r5
      clear up
      rw [rd_step hin] at q0 q1 q2 q3 q4 q5 hC3 hC4 r0 r1 r2 r3 r4 r5 hD3 hD4
      simp only [Int.toNat_natCast] at q0 q1 q2 q3 q4 q5 r0 r1 r2 r3 r4 r5
      have lb := World.block_lt_of_cell? wr _ r0
      have hwx := HOL.out _ (List.getElem_mem hin)
      obtain ⟨x, hx⟩ : ∃ x, x = l[i]'hin := ⟨_, rfl⟩
      rw [← hx] at q0 q1 q2 q3 q4 q5 hC3 hC4 r0 r1 r2 r3 r4 r5 hD3 hD4 hwx
      obtain ⟨⟨k0, k1, k2, d⟩, os, cr⟩ := x
      simp only at q0 q1 q2 q3 q4 q5 hC3 hC4 r0 r1 r2 r3 r4 r5 hD3 hD4
      have HWX := Lib.hid (show os.length ≤ 1000000 from hwx)
      have BI := Lib.hid (hnext hin HLL.out)
      have HC4 := Lib.hid hC4
      have HD4 := Lib.hid hD4
      obtain ⟨sd, hsd⟩ : ∃ sd, sd = strOfNums d := ⟨_, rfl⟩
      have hcv : ∀ o o', (convert 22 9 (.slice A3 d.length c3)).run Tryd.prog ((wr.alloc o).alloc o') = .ok (.string sd) ((wr.alloc o).alloc o') := fun o o' => by
        rw [hsd]
        exact Kd.C_string Tryd.underlying22 Tryd.underlying5 Tryd.underlying9 (Kd.C_alloc (Kd.C_alloc (Kd.C_below hC3 hbw.out) o) o')
      have hcv2 : ∀ o o', (convert 22 9 (.slice B3 d.length d3)).run Tryd.prog ((wr.alloc o).alloc o') = .ok (.string sd) ((wr.alloc o).alloc o') := fun o o' => by
        rw [hsd]
        exact Kd.C_string Tryd.underlying22 Tryd.underlying5 Tryd.underlying9 (Kd.C_alloc (Kd.C_alloc (Kd.C_below hD3 hbw.out) o) o')
      have p3 : (sd.toList == sd.toList) = true := beq_self_eq_true _
      have p4 : (sd.toList != sd.toList) = false := by simp
      clear hx hwx hc3 hc4 hd3 hd4 hC3 hC4 hD3 hD4 hsd
      go_wp2_with fail
      clear lb hcv hcv2 p3 p4 q0 q1 q2 q3 q4 q5 r0 r1 r2 r3 r4 r5
      have HX := Lib.hid (blk_alloc (blk_new wr (.cells #[.int .i64 k0, .int .i64 k1, .int .i64 k2, .slice A3 d.length c3, .slice A4 os.length c4, .bool cr] 42 (0, 0))) (.cells #[.int .i64 k0, .int .i64 k1, .int .i64 k2, .slice B3 d.length d3, .slice B4 os.length d4, .bool cr] 42 (0, 0)))
      have HY := Lib.hid (new_two wr (.cells #[.int .i64 k0, .int .i64 k1, .int .i64 k2, .slice A3 d.length c3, .slice A4 os.length c4, .bool cr] 42 (0, 0)) (.cells #[.int .i64 k0, .int .i64 k1, .int .i64 k2, .slice B3 d.length d3, .slice B4 os.length d4, .bool cr] 42 (0, 0)))
      have HB2 := Lib.hid (below_alloc (below_alloc hbw.out (.cells #[.int .i64 k0, .int .i64 k1, .int .i64 k2, .slice A3 d.length c3, .slice A4 os.length c4, .bool cr] 42 (0, 0))) (.cells #[.int .i64 k0, .int .i64 k1, .int .i64 k2, .slice B3 d.length d3, .slice B4 os.length d4, .bool cr] 42 (0, 0)))
      clear hbw
      generalize (wr.alloc (.cells #[.int .i64 k0, .int .i64 k1, .int .i64 k2, .slice A3 d.length c3, .slice A4 os.length c4, .bool cr] 42)).alloc (.cells #[.int .i64 k0, .int .i64 k1, .int .i64 k2, .slice B3 d.length d3, .slice B4 os.length d4, .bool cr] 42) = w2 at HX HY HB2 ⊢
      generalize wr.heap.size = gx at HX HY ⊢
      go_loopw [8] (fun v8 wj => ∃ j : Nat, v8 = .int .i64 j ∧ j ≤ os.length ∧ Hid (Below w.heap.size w wj ∧ wj.heap[gx]? = some (.cells #[.int .i64 k0, .int .i64 k1, .int .i64 k2, .slice A3 d.length c3, .slice A4 os.length c4, .bool cr] 42 (0, 0)) ∧ wj.heap[gx + 1]? = some (.cells #[.int .i64 k0, .int .i64 k1, .int .i64 k2, .slice B3 d.length d3, .slice B4 os.length d4, .bool cr] 42 (0, 0)))) (fun v8 _ => os.length - (intOf v8).toNat)
      case atStart => exact ⟨0, rfl, by omega, Lib.hid ⟨HB2.out, HX.out, HY.out⟩⟩
      case round =>
        obtain ⟨j, rfl, hj, hh⟩ := hrel
        obtain ⟨hbj, hxj, hyj⟩ := hh.out
        have x4 := cell_of_cells hxj 4
        have y4 := cell_of_cells hyj 4
        simp only [List.getElem?_toArray, List.getElem?_cons_zero, List.getElem?_cons_succ] at x4 y4
        have HBJ := Lib.hid hbj
        have HXJ := Lib.hid hxj
        have HYJ := Lib.hid hyj
        clear hh hbj hxj hyj
        by_cases hjn : j < os.length
        · have j0 : (0 : Int) ≤ (j : Int) := by omega
          have j1 : (j : Int) < (os.length : Int) := by omega
          obtain ⟨ad2, A1, c1, rfl, p0, p1, -, hC1⟩ := at_T56 HC4.out (j : Int) j0 j1
          obtain ⟨bd2, B1, d1, rfl, s0, s1, -, hD1⟩ := at_T56 HD4.out (j : Int) j0 j1
          have up : ∀ {p : Addr} {v : Value}, w.cell? p = some v → wr.cell? p = some v := fun {p v} h => (HBJ.out.cell (World.block_lt_of_cell? w p h)).trans h
          replace p0 := up p0
          replace p1 := up p1
          replace s0 := up s0
          replace s1 := up s1
          clear up
          rw [rd_out hjn] at p0 p1 hC1 s0 s1 hD1
          simp only [Int.toNat_natCast] at p0 p1 s0 s1
          obtain ⟨o, ho⟩ : ∃ o, o = os[j]'hjn := ⟨_, rfl⟩
          rw [← ho] at p0 p1 hC1 s0 s1 hD1
          obtain ⟨ob, od⟩ := o
          simp only at p0 p1 hC1 s0 s1 hD1
          have BJ := Lib.hid (hnext hjn HWX.out)
          obtain ⟨sd2, hsd⟩ : ∃ sd2, sd2 = strOfNums od := ⟨_, rfl⟩
          have hcv : (convert 22 9 (.slice A1 od.length c1)).run Tryd.prog wr.drew = .ok (.string sd2) wr.drew := by
            rw [hsd]
            exact Kd.C_string Tryd.underlying22 Tryd.underlying5 Tryd.underlying9 (Kd.C_drew (Kd.C_below hC1 HBJ.out))
          have hcv2 : (convert 22 9 (.slice B1 od.length d1)).run Tryd.prog wr.drew = .ok (.string sd2) wr.drew := by
            rw [hsd]
            exact Kd.C_string Tryd.underlying22 Tryd.underlying5 Tryd.underlying9 (Kd.C_drew (Kd.C_below hD1 HBJ.out))
          have p3 : (sd2.toList == sd2.toList) = true := beq_self_eq_true _
          have p4 : (sd2.toList != sd2.toList) = false := by simp
          clear ho hC1 hD1 hsd
          go_wp2_with fail
          go_still_tail 29, (by kernel_rfl)
          change wpList _ _ _ _ _ wr.drew
          go_wp2_with fail
          exact ⟨⟨j + 1, by first | rfl | exact congrArg _ BJ.out, hjn, Lib.hid ⟨below_drew1 HBJ.out, blk_drew HXJ.out, blk_drew HYJ.out⟩⟩, by first | exact hmeas hjn BJ.out | exact hmeas hjn rfl⟩
        · obtain rfl : j = os.length := by omega
          go_wp2_with fail
          exact ⟨⟨i + 1, by first | rfl | exact congrArg _ BI.out, hin, HBJ⟩, by first | exact hmeas hin BI.out | exact hmeas hin rfl⟩
    · obtain rfl : i = l.length := by omega
      go_wp2_with fail
      go_ret
      exact ⟨rfl, hbw.out⟩
end Go.Proofs.YtoloooammaiipaaDoor
-- Written by a program of this work (the kit's print, with contracts of this work's own taken in) out of the translation. Not trusted: Lean checks it.
namespace Go.Proofs.YtoloooammaiipaaDoor.PM
open Go.Proofs.YtoloooammaiipaaDoor.PI (S29 z29 k29 k29_open k29_openM k29_mk k29_mkM k29_openF k29_mkF rd_T29 at_T29 S56 z56 k56 k56_open k56_openM k56_mk k56_mkM k56_openF k56_mkF rd_T56 at_T56 S42 z42 k42 k42_open k42_openM k42_mk k42_mkM k42_openF k42_mkF rd_T42 at_T42)
open Go.RowKit Go.Proofs.YtoloooammaiipaaDoorW.PrintWords Go.Proofs.YtoloooammaiipaaDoorW.PrintLast Go.Proofs.YtoloooammaiipaaDoorW.PrintMore
attribute [local go_sem] max2_int min2_int max_two min_two max_three min_three max_four min_four   -- for this text's walks alone
set_option linter.unusedVariables false
set_option linter.unusedSimpArgs false

/-! ### lamplighterref19_Same: function 19 -/
def lamplighterref19_Same.f (l0 : List (S42)) (l1 : List (S42)) : Option (Bool) := if l0 = l1 ∧ l0.length ≤ 1000000 ∧ (∀ x ∈ l0, x.f1.length ≤ 1000000) then some true else none
theorem lamplighterref19_Same.calls (A0 : Option Addr) (c0 : Nat) (l0 : List (S42)) (A1 : Option Addr) (c1 : Nat) (l1 : List (S42)) (r : Bool) (w : World) (hr0 : Kd.C k42 w A0 l0.length l0) (hc0 : l0.length ≤ c0) (hr1 : Kd.C k42 w A1 l1.length l1) (hc1 : l1.length ≤ c1) (h : lamplighterref19_Same.f l0 l1 = some r) :
    Calls Tryd.prog 19 #[.slice A0 l0.length c0, .slice A1 l1.length c1] w fun e w' => e = .returned (.bool r) ∧ Below w.heap.size w w' := by
  unfold lamplighterref19_Same.f at h
  split at h
  · rename_i hq
    obtain ⟨rfl, hl, ho⟩ := hq
    obtain rfl := Option.some.inj h
    exact same_walk A0 A1 c0 c1 l0 w hr0 hr1 hl ho
  · cases h


end Go.Proofs.YtoloooammaiipaaDoor.PM
-- Written by a program of this work (the kit's print, with contracts of this work's own taken in) out of the translation. Not trusted: Lean checks it.
namespace Go.Proofs.YtoloooammaiipaaDoor.PM
open Go.Proofs.YtoloooammaiipaaDoor.PI (S29 z29 k29 k29_open k29_openM k29_mk k29_mkM k29_openF k29_mkF rd_T29 at_T29 S56 z56 k56 k56_open k56_openM k56_mk k56_mkM k56_openF k56_mkF rd_T56 at_T56 S42 z42 k42 k42_open k42_openM k42_mk k42_mkM k42_openF k42_mkF rd_T42 at_T42)
open Go.RowKit Go.Proofs.YtoloooammaiipaaDoorW.PrintWords Go.Proofs.YtoloooammaiipaaDoorW.PrintLast Go.Proofs.YtoloooammaiipaaDoorW.PrintMore
attribute [local go_sem] max2_int min2_int max_two min_two max_three min_three max_four min_four   -- for this text's walks alone
set_option linter.unusedVariables false
set_option linter.unusedSimpArgs false

/-! ### trace_Parse: function 23 -/
def trace_Parse.f (a0 : ByteArray) : Option (List (S42) × Int × Int) := if a0.size ≤ 400000 then some ((parseO a0.data.toList).1, ((parseO a0.data.toList).2.1 : Int), (parseO a0.data.toList).2.2) else none
theorem trace_Parse.calls (a0 : ByteArray) (r1 : List (S42)) (r2 : Int) (r3 : Int) (w : World) (h : trace_Parse.f a0 = some (r1, r2, r3)) (hGT : GlobT w) :
    Calls Tryd.prog 23 #[.string a0] w fun e w' => ∃ v0_ : Value, e = .returned (.tuple #[v0_, .int .i64 r2, .int .i64 r3]) ∧ Kd.R k42 42 w' w.heap.size (fun _ => True) v0_ r1 ∧ Below w.heap.size w w' := by
  unfold trace_Parse.f at h
  split at h
  · rename_i hq
    have h5 := Option.some.inj h
    simp only [Prod.mk.injEq] at h5
    obtain ⟨rfl, rfl, rfl⟩ := h5
    refine (parse_walk a0 hq w hGT).mono ?_
    rintro e w' ⟨hb, v, rfl, hS⟩
    exact ⟨v, rfl, Kd.S_R hS, hb⟩
  · cases h


end Go.Proofs.YtoloooammaiipaaDoor.PM
-- Written by a program of this work (the kit's print, with contracts of this work's own taken in) out of the translation. Not trusted: Lean checks it.
namespace Go.Proofs.YtoloooammaiipaaDoor.PM
open Go.Proofs.YtoloooammaiipaaDoor.PI (S29 z29 k29 k29_open k29_openM k29_mk k29_mkM k29_openF k29_mkF rd_T29 at_T29 S56 z56 k56 k56_open k56_openM k56_mk k56_mkM k56_openF k56_mkF rd_T56 at_T56 S42 z42 k42 k42_open k42_openM k42_mk k42_mkM k42_openF k42_mkF rd_T42 at_T42)
open Go.RowKit Go.Proofs.YtoloooammaiipaaDoorW.PrintWords Go.Proofs.YtoloooammaiipaaDoorW.PrintLast Go.Proofs.YtoloooammaiipaaDoorW.PrintMore
attribute [local go_sem] max2_int min2_int max_two min_two max_three min_three max_four min_four   -- for this text's walks alone
set_option linter.unusedVariables false
set_option linter.unusedSimpArgs false

/-! ### lamplighterlaw19_alive: function 10 -/
def lamplighterlaw19_alive.f : Option (Bool) := some true
theorem lamplighterlaw19_alive.calls (r : Bool) (w : World) (h : lamplighterlaw19_alive.f = some r) (hGT : GlobT w) :
    Calls Tryd.prog 10 #[] w fun e w' => e = .returned (.bool r) ∧ Below w.heap.size w w' := by
  obtain rfl := Option.some.inj h
  exact alive_walk w hGT


end Go.Proofs.YtoloooammaiipaaDoor.PM
-- Written by a program of this work (the kit's print, with contracts of this work's own taken in) out of the translation. Not trusted: Lean checks it.
namespace Go.Proofs.YtoloooammaiipaaDoor.PM
open Go.Proofs.YtoloooammaiipaaDoor.PI (S29 z29 k29 k29_open k29_openM k29_mk k29_mkM k29_openF k29_mkF rd_T29 at_T29 S56 z56 k56 k56_open k56_openM k56_mk k56_mkM k56_openF k56_mkF rd_T56 at_T56 S42 z42 k42 k42_open k42_openM k42_mk k42_mkM k42_openF k42_mkF rd_T42 at_T42)
open Go.RowKit Go.Proofs.YtoloooammaiipaaDoorW.PrintWords Go.Proofs.YtoloooammaiipaaDoorW.PrintLast Go.Proofs.YtoloooammaiipaaDoorW.PrintMore
attribute [local go_sem] max2_int min2_int max_two min_two max_three min_three max_four min_four   -- for this text's walks alone
set_option linter.unusedVariables false
set_option linter.unusedSimpArgs false

/-! ### lamplighterlaw19_great: function 20 -/
mutual
def lamplighterlaw19_great.l0 : Nat → Int → List (S42) → Int → Int → Option (Bool)
  | 0, _, _, _, _ => none
  | k + 1, x3, x8, x9, x10 => if x10 < x9 then (if 0 ≤ x10 then (if x10 < (x8.length : Int) then (lamplighterlaw19_great.l1 k (wrap64 (x3 + (wrap64 (1 + (((rd_T42 x8 x10).f0.f3).length : Int))))) x8 x9 x10 ((rd_T42 x8 x10).f1) (((rd_T42 x8 x10).f1).length : Int) 0) else (none)) else (none)) else (some (decide (x3 > 1500)))
def lamplighterlaw19_great.l1 : Nat → Int → List (S42) → Int → Int → List (S56) → Int → Int → Option (Bool)
  | 0, _, _, _, _, _, _, _ => none
  | k + 1, x3, x8, x9, x10, x22, x23, x24 => if x24 < x23 then (if 0 ≤ x24 then (if x24 < (x22.length : Int) then (lamplighterlaw19_great.l1 k (wrap64 (x3 + (wrap64 (1 + (((rd_T56 x22 x24).f1).length : Int))))) x8 x9 x10 x22 x23 (wrap64 (x24 + 1))) else (none)) else (none)) else (lamplighterlaw19_great.l0 k x3 x8 x9 (wrap64 (x10 + 1)))
end
def lamplighterlaw19_great.f (k : Nat) (l0 : List (S42)) : Option (Bool) := lamplighterlaw19_great.l0 k 0 l0 (l0.length : Int) 0
theorem lamplighterlaw19_great.mono_l : ∀ k, (∀ y0 y1 y2 y3, LeO (lamplighterlaw19_great.l0 k y0 y1 y2 y3) (lamplighterlaw19_great.l0 (k + 1) y0 y1 y2 y3)) ∧ (∀ y0 y1 y2 y3 y4 y5 y6, LeO (lamplighterlaw19_great.l1 k y0 y1 y2 y3 y4 y5 y6) (lamplighterlaw19_great.l1 (k + 1) y0 y1 y2 y3 y4 y5 y6))
  | 0 => ⟨fun _ _ _ _ r h => by simp [lamplighterlaw19_great.l0] at h, fun _ _ _ _ _ _ _ r h => by simp [lamplighterlaw19_great.l1] at h⟩
  | k + 1 => by
    obtain ⟨ih0, ih1⟩ := lamplighterlaw19_great.mono_l k
    refine ⟨?_, ?_⟩
    · intro y0 y1 y2 y3
      unfold lamplighterlaw19_great.l0
      repeat' first
      | (with_reducible exact ih0 _ _ _ _)
      | (with_reducible exact ih1 _ _ _ _ _ _ _)
      | (with_reducible exact LeO.refl _)
      | (with_reducible exact LeO.none _)
      | (with_reducible refine LeO.ite ?_ ?_)
      | (with_reducible refine LeO.bind ?_ (fun _ => ?_))
      | exact ih0 _ _ _ _
      | exact ih1 _ _ _ _ _ _ _
      | exact LeO.none _
      | refine LeO.ite ?_ ?_
      | refine LeO.bind ?_ (fun _ => ?_)
    · intro y0 y1 y2 y3 y4 y5 y6
      unfold lamplighterlaw19_great.l1
      repeat' first
      | (with_reducible exact ih0 _ _ _ _)
      | (with_reducible exact ih1 _ _ _ _ _ _ _)
      | (with_reducible exact LeO.refl _)
      | (with_reducible exact LeO.none _)
      | (with_reducible refine LeO.ite ?_ ?_)
      | (with_reducible refine LeO.bind ?_ (fun _ => ?_))
      | exact ih0 _ _ _ _
      | exact ih1 _ _ _ _ _ _ _
      | exact LeO.none _
      | refine LeO.ite ?_ ?_
      | refine LeO.bind ?_ (fun _ => ?_)
theorem lamplighterlaw19_great.mono : ∀ a0 k, LeO (lamplighterlaw19_great.f k a0) (lamplighterlaw19_great.f (k + 1) a0) := by
  intro a0 k
  obtain ⟨ih0, ih1⟩ := lamplighterlaw19_great.mono_l k
  unfold lamplighterlaw19_great.f
  repeat' first
      | (with_reducible exact ih0 _ _ _ _)
      | (with_reducible exact ih1 _ _ _ _ _ _ _)
      | (with_reducible exact LeO.refl _)
      | (with_reducible exact LeO.none _)
      | (with_reducible refine LeO.ite ?_ ?_)
      | (with_reducible refine LeO.bind ?_ (fun _ => ?_))
      | exact ih0 _ _ _ _
      | exact ih1 _ _ _ _ _ _ _
      | exact LeO.none _
      | refine LeO.ite ?_ ?_
      | refine LeO.bind ?_ (fun _ => ?_)
set_option maxHeartbeats 8000000 in
set_option maxRecDepth 100000 in
theorem lamplighterlaw19_great.calls (k : Nat) (A0 : Option Addr) (c0 : Nat) (l0 : List (S42)) (r : Bool) (w : World) (hr0 : Kd.C k42 w A0 l0.length l0) (hc0 : l0.length ≤ c0) (h : lamplighterlaw19_great.f k l0 = some r) :
    Calls Tryd.prog 20 #[.slice A0 l0.length c0] w fun e w' => e = .returned (.bool r) ∧ Below w.heap.size w w' := by
  have hu42 := Tryd.underlying42
  have hu56 := Tryd.underlying56
  have HR0 := Aside0.mk hr0
  have HC0 := Aside0.mk hc0
  clear hr0 hc0
  have HB := Aside0.mk (Below.refl w.heap.size w)
  have H : (lamplighterlaw19_great.l0 k 0 l0 (l0.length : Int) 0) = some r := h
  clear h
  have H' := Aside0.mk H
  clear H
  go_enter Tryd.func20, Tryd.ntmps20
  go_wp2
  go_loopg [3, 10] k (fun kq v3 v10 w' => ∃ (x3_1 : Int) (x10_1 : Int), v3 = .int .i64 x3_1 ∧ v10 = .int .i64 x10_1 ∧ Aside0 (lamplighterlaw19_great.l0 kq x3_1 l0 (l0.length : Int) x10_1 = some r) ∧ Aside0 (kq ≤ k) ∧ Aside0 (Below w.heap.size w w'))
  case atStart => exact ⟨(0), (0), (by first | rfl | (simp; done) | (simp [*]; done)), (by first | rfl | (simp; done) | (simp [*]; done)), H', ⟨Nat.le_refl _⟩, ⟨by repeat (first | (with_reducible first | exact HB.out | apply below_alloc | apply pw_below_drewN | apply below_drew1) | exact HB.out)⟩⟩
  case round =>
    clear H'
    obtain ⟨x3_1, x10_1, rfl, rfl, HA, HK1, HB⟩ := hrel
    cases gk with
    | zero => exact absurd HA.out (by simp [lamplighterlaw19_great.l0])
    | succ k1 =>
      have H := HA.out
      clear HA
      simp only [lamplighterlaw19_great.l0] at H
      by_cases c2 : x10_1 < (l0.length : Int)
      · rw [if_pos c2] at H
        have c2b0 : decide (x10_1 < (l0.length : Int)) = true := decide_eq_true c2
        clear c2
        by_cases c3 : 0 ≤ x10_1
        · rw [if_pos c3] at H
          have c3b0 : decide (0 ≤ x10_1) = true := decide_eq_true c3
          clear c3
          by_cases c4 : x10_1 < (l0.length : Int)
          · rw [if_pos c4] at H
            have c4b0 : decide (x10_1 < (l0.length : Int)) = true := decide_eq_true c4
            clear c4
            have H' := Aside0.mk H
            clear H
            have p151 : 0 ≤ (x10_1 : Int) := of_decide_eq_true (by first | (with_reducible assumption) | assumption)
            have q151 : x10_1 < (l0.length : Int) := of_decide_eq_true (by first | (with_reducible assumption) | assumption)
            obtain ⟨ad151, A151_3, c151_3, A151_4, c151_4, e151, hx151_0, hx151_1, hx151_2, hx151_3, hx151_4, hx151_5, hl151_3, hi151_3, hl151_4, hi151_4⟩ := at_T42 HR0.out x10_1 p151 q151
            cases e151
            replace hx151_0 := (HB.out.cell (World.block_lt_of_cell? w _ hx151_0)).trans hx151_0
            replace hx151_1 := (HB.out.cell (World.block_lt_of_cell? w _ hx151_1)).trans hx151_1
            replace hx151_2 := (HB.out.cell (World.block_lt_of_cell? w _ hx151_2)).trans hx151_2
            replace hx151_3 := (HB.out.cell (World.block_lt_of_cell? w _ hx151_3)).trans hx151_3
            replace hx151_4 := (HB.out.cell (World.block_lt_of_cell? w _ hx151_4)).trans hx151_4
            replace hx151_5 := (HB.out.cell (World.block_lt_of_cell? w _ hx151_5)).trans hx151_5
            have HR151_3 := Aside0.mk hi151_3
            have HC151_3 := Aside0.mk hl151_3
            clear hi151_3 hl151_3
            have HR151_4 := Aside0.mk hi151_4
            have HC151_4 := Aside0.mk hl151_4
            clear hi151_4 hl151_4
            replace p151 := eq_true p151
            replace q151 := eq_true q151
            go_wp2_with (first | ((with_reducible refine gate_dst (N := 5) rfl ?_); refine box_event ?hg (N := 5) ?hd (cs := #[.int .i64 0, .int .i64 0, .int .i64 0, .slice none 0 0, .slice none 0 0, .bool false]) (t := 42) ?hr ?_; (case hd => rfl); (case hg => rfl); (case hr => first | (go_simp; done) | (go_simp; rfl)); intro gb152 hg w5 hbox hb; have n0_ := Aside0.mk (below_step (by repeat (first | (with_reducible first | exact HB.out | apply below_alloc | apply pw_below_drewN | apply below_drew1) | exact HB.out)) hb); have n1_ := Aside0.mk (hbox); have n2_ := Aside0.mk ((by rw [hg]; exact (below_size (by repeat (first | (with_reducible first | exact HB.out | apply below_alloc | apply pw_below_drewN | apply below_drew1) | exact HB.out))) : w.heap.size ≤ gb152)); have n3_ := Aside0.mk ((by rw [hg]; exact (below_size (by repeat (first | (with_reducible first | exact HB.out | apply below_alloc | apply pw_below_drewN | apply below_drew1) | exact HB.out))) : w.heap.size ≤ gb152)); clear HB; have HB := n0_; have BK152 := n1_; have GW152 := n2_; have GE152 := n3_; clear n0_ n1_ n2_ n3_; clear hb hbox hg; have hcz6_0 : w5.cell? ⟨gb152, 0, none⟩ = some (.int .i64 0) := (blk_cell BK152.out 0).trans rfl; have hcz6_1 : w5.cell? ⟨gb152, 1, none⟩ = some (.int .i64 0) := (blk_cell BK152.out 1).trans rfl; have hcz6_2 : w5.cell? ⟨gb152, 2, none⟩ = some (.int .i64 0) := (blk_cell BK152.out 2).trans rfl; have hcz6_3 : w5.cell? ⟨gb152, 3, none⟩ = some (.slice none 0 0) := (blk_cell BK152.out 3).trans rfl; have hcz6_4 : w5.cell? ⟨gb152, 4, none⟩ = some (.slice none 0 0) := (blk_cell BK152.out 4).trans rfl; have hcz6_5 : w5.cell? ⟨gb152, 5, none⟩ = some (.bool false) := (blk_cell BK152.out 5).trans rfl; have hfz6_0 := blk_frozen BK152.out 0; have hfz6_1 := blk_frozen BK152.out 1; have hfz6_2 := blk_frozen BK152.out 2; have hfz6_3 := blk_frozen BK152.out 3; have hfz6_4 := blk_frozen BK152.out 4; have hfz6_5 := blk_frozen BK152.out 5))
            go_loopg [3, 24] k1 (fun kq v3 v24 w' => ∃ (x3_2 : Int) (x24_2 : Int), v3 = .int .i64 x3_2 ∧ v24 = .int .i64 x24_2 ∧ Aside0 (lamplighterlaw19_great.l1 kq x3_2 l0 (l0.length : Int) x10_1 ((rd_T42 l0 x10_1).f1) (((rd_T42 l0 x10_1).f1).length : Int) x24_2 = some r) ∧ Aside0 (kq ≤ k1) ∧ Aside0 (w'.heap[gb152]? = some (.cells #[.int .i64 ((rd_T42 l0 x10_1).f0.f0), .int .i64 ((rd_T42 l0 x10_1).f0.f1), .int .i64 ((rd_T42 l0 x10_1).f0.f2), (.slice A151_3 ((rd_T42 l0 x10_1).f0.f3).length c151_3), (.slice A151_4 ((rd_T42 l0 x10_1).f1).length c151_4), .bool ((rd_T42 l0 x10_1).f2)] 42 (0, 0))) ∧ Aside0 (Below w.heap.size w w'))
            case atStart => exact ⟨(wrap64 (x3_1 + (wrap64 (1 + (((rd_T42 l0 x10_1).f0.f3).length : Int))))), (0), (by first | rfl | (simp; done) | (simp [*]; done)), (by first | rfl | (simp; done) | (simp [*]; done)), H', ⟨Nat.le_refl _⟩, ⟨by (with_reducible repeat (first | refine blk_drewN ?_ _ | refine blk_drew ?_ | refine blk_alloc ?_ _)); refine blk_put (cs := #[.int .i64 ((rd_T42 l0 x10_1).f0.f0), .int .i64 ((rd_T42 l0 x10_1).f0.f1), .int .i64 ((rd_T42 l0 x10_1).f0.f2), .slice A151_3 ((rd_T42 l0 x10_1).f0.f3).length c151_3, .slice A151_4 ((rd_T42 l0 x10_1).f1).length c151_4, .bool false]) ?_ 5 _ rfl; (with_reducible repeat (first | refine blk_drewN ?_ _ | refine blk_drew ?_ | refine blk_alloc ?_ _)); refine blk_put (cs := #[.int .i64 ((rd_T42 l0 x10_1).f0.f0), .int .i64 ((rd_T42 l0 x10_1).f0.f1), .int .i64 ((rd_T42 l0 x10_1).f0.f2), .slice A151_3 ((rd_T42 l0 x10_1).f0.f3).length c151_3, .slice none 0 0, .bool false]) ?_ 4 _ rfl; (with_reducible repeat (first | refine blk_drewN ?_ _ | refine blk_drew ?_ | refine blk_alloc ?_ _)); refine blk_put (cs := #[.int .i64 ((rd_T42 l0 x10_1).f0.f0), .int .i64 ((rd_T42 l0 x10_1).f0.f1), .int .i64 ((rd_T42 l0 x10_1).f0.f2), .slice none 0 0, .slice none 0 0, .bool false]) ?_ 3 _ rfl; (with_reducible repeat (first | refine blk_drewN ?_ _ | refine blk_drew ?_ | refine blk_alloc ?_ _)); refine blk_put (cs := #[.int .i64 ((rd_T42 l0 x10_1).f0.f0), .int .i64 ((rd_T42 l0 x10_1).f0.f1), .int .i64 0, .slice none 0 0, .slice none 0 0, .bool false]) ?_ 2 _ rfl; (with_reducible repeat (first | refine blk_drewN ?_ _ | refine blk_drew ?_ | refine blk_alloc ?_ _)); refine blk_put (cs := #[.int .i64 ((rd_T42 l0 x10_1).f0.f0), .int .i64 0, .int .i64 0, .slice none 0 0, .slice none 0 0, .bool false]) ?_ 1 _ rfl; (with_reducible repeat (first | refine blk_drewN ?_ _ | refine blk_drew ?_ | refine blk_alloc ?_ _)); refine blk_put (cs := #[.int .i64 0, .int .i64 0, .int .i64 0, .slice none 0 0, .slice none 0 0, .bool false]) ?_ 0 _ rfl; (with_reducible repeat (first | refine blk_drewN ?_ _ | refine blk_drew ?_ | refine blk_alloc ?_ _)); exact BK152.out⟩, ⟨by repeat (first | (with_reducible first | exact HB.out | apply below_alloc | apply pw_below_drewN | apply below_drew1 | refine below_set ?_ GE152.out) | exact HB.out)⟩⟩
            case round =>
              clear H'
              try clear c1
              try clear p1
              try clear q1
              try clear hx1
              try clear c2
              try clear c2b0
              try clear p2
              try clear c3
              try clear c3b0
              try clear c4
              try clear c4b0
              try clear p6
              try clear hcz6_0
              try clear hcz6_1
              try clear hcz6_2
              try clear hcz6_3
              try clear hcz6_4
              try clear hcz6_5
              try clear hfz6_0
              try clear hfz6_1
              try clear hfz6_2
              try clear hfz6_3
              try clear hfz6_4
              try clear hfz6_5
              try clear hx151_0
              try clear hx151_1
              try clear hx151_2
              try clear hx151_3
              try clear hx151_4
              try clear hx151_5
              try clear p151
              try clear q151
              obtain ⟨x3_2, x24_2, rfl, rfl, HA, HK2, BK152, HB⟩ := hrel
              cases gk with
              | zero => exact absurd HA.out (by simp [lamplighterlaw19_great.l1])
              | succ k2 =>
                have H := HA.out
                clear HA
                simp only [lamplighterlaw19_great.l1] at H
                by_cases c7 : x24_2 < (((rd_T42 l0 x10_1).f1).length : Int)
                · rw [if_pos c7] at H
                  have c7b0 : decide (x24_2 < (((rd_T42 l0 x10_1).f1).length : Int)) = true := decide_eq_true c7
                  clear c7
                  by_cases c8 : 0 ≤ x24_2
                  · rw [if_pos c8] at H
                    have c8b0 : decide (0 ≤ x24_2) = true := decide_eq_true c8
                    clear c8
                    by_cases c9 : x24_2 < (((rd_T42 l0 x10_1).f1).length : Int)
                    · rw [if_pos c9] at H
                      have c9b0 : decide (x24_2 < (((rd_T42 l0 x10_1).f1).length : Int)) = true := decide_eq_true c9
                      clear c9
                      have H' := Aside0.mk H
                      clear H
                      have p153 : 0 ≤ (x24_2 : Int) := of_decide_eq_true (by first | (with_reducible assumption) | assumption)
                      have q153 : x24_2 < (((rd_T42 l0 x10_1).f1).length : Int) := of_decide_eq_true (by first | (with_reducible assumption) | assumption)
                      obtain ⟨ad153, A153_1, c153_1, e153, hx153_0, hx153_1, hl153_1, hi153_1⟩ := at_T56 HR151_4.out x24_2 p153 q153
                      cases e153
                      replace hx153_0 := (HB.out.cell (World.block_lt_of_cell? w _ hx153_0)).trans hx153_0
                      replace hx153_1 := (HB.out.cell (World.block_lt_of_cell? w _ hx153_1)).trans hx153_1
                      have HR153_1 := Aside0.mk hi153_1
                      have HC153_1 := Aside0.mk hl153_1
                      clear hi153_1 hl153_1
                      replace p153 := eq_true p153
                      replace q153 := eq_true q153
                      go_wp2_with (first | ((with_reducible refine gate_dst (N := 7) rfl ?_); refine box_event ?hg (N := 7) ?hd (cs := #[.bool false, .slice none 0 0]) (t := 56) ?hr ?_; (case hd => rfl); (case hg => rfl); (case hr => first | (go_simp; done) | (go_simp; rfl)); intro gb154 hg w10 hbox hb; have n0_ := Aside0.mk (blk_below (g := gb152) (o := .cells #[.int .i64 ((rd_T42 l0 x10_1).f0.f0), .int .i64 ((rd_T42 l0 x10_1).f0.f1), .int .i64 ((rd_T42 l0 x10_1).f0.f2), .slice A151_3 ((rd_T42 l0 x10_1).f0.f3).length c151_3, .slice (some ad153) ((rd_T42 l0 x10_1).f1).length c151_4, .bool ((rd_T42 l0 x10_1).f2)] 42 (0, 0)) (by (with_reducible repeat (first | refine blk_drewN ?_ _ | refine blk_drew ?_ | refine blk_alloc ?_ _)); exact BK152.out) hb); have n1_ := Aside0.mk (below_step (by repeat (first | (with_reducible first | exact HB.out | apply below_alloc | apply pw_below_drewN | apply below_drew1 | refine below_set ?_ GE152.out) | exact HB.out)) hb); have n2_ := Aside0.mk (hbox); have n3_ := Aside0.mk ((by rw [hg]; exact (below_size (by repeat (first | (with_reducible first | exact HB.out | apply below_alloc | apply pw_below_drewN | apply below_drew1 | refine below_set ?_ GE152.out) | exact HB.out))) : w.heap.size ≤ gb154)); have n4_ := Aside0.mk ((by rw [hg]; exact (below_size (by repeat (first | (with_reducible first | exact HB.out | apply below_alloc | apply pw_below_drewN | apply below_drew1 | refine below_set ?_ GE152.out) | exact HB.out))) : w.heap.size ≤ gb154)); have n5_ := Aside0.mk ((by rw [hg]; exact Nat.ne_of_lt (blk_lt (g := gb152) (o := .cells #[.int .i64 ((rd_T42 l0 x10_1).f0.f0), .int .i64 ((rd_T42 l0 x10_1).f0.f1), .int .i64 ((rd_T42 l0 x10_1).f0.f2), .slice A151_3 ((rd_T42 l0 x10_1).f0.f3).length c151_3, .slice (some ad153) ((rd_T42 l0 x10_1).f1).length c151_4, .bool ((rd_T42 l0 x10_1).f2)] 42 (0, 0)) (by (with_reducible repeat (first | refine blk_drewN ?_ _ | refine blk_drew ?_ | refine blk_alloc ?_ _)); exact BK152.out)) : gb152 ≠ gb154)); have n6_ := Aside0.mk ((by rw [hg]; exact Nat.ne_of_gt (blk_lt (g := gb152) (o := .cells #[.int .i64 ((rd_T42 l0 x10_1).f0.f0), .int .i64 ((rd_T42 l0 x10_1).f0.f1), .int .i64 ((rd_T42 l0 x10_1).f0.f2), .slice A151_3 ((rd_T42 l0 x10_1).f0.f3).length c151_3, .slice (some ad153) ((rd_T42 l0 x10_1).f1).length c151_4, .bool ((rd_T42 l0 x10_1).f2)] 42 (0, 0)) (by (with_reducible repeat (first | refine blk_drewN ?_ _ | refine blk_drew ?_ | refine blk_alloc ?_ _)); exact BK152.out)) : gb154 ≠ gb152)); clear BK152; clear HB; have BK152 := n0_; have HB := n1_; have BK154 := n2_; have GW154 := n3_; have GE154 := n4_; have NB152_154 := n5_; have NB154_152 := n6_; clear n0_ n1_ n2_ n3_ n4_ n5_ n6_; clear hb hbox hg; have hnb11 := NB154_152.out; have hnc11 := NB152_154.out; have hcz12_0 : w10.cell? ⟨gb154, 0, none⟩ = some (.bool false) := (blk_cell BK154.out 0).trans rfl; have hcz12_1 : w10.cell? ⟨gb154, 1, none⟩ = some (.slice none 0 0) := (blk_cell BK154.out 1).trans rfl; have hfz12_0 := blk_frozen BK154.out 0; have hfz12_1 := blk_frozen BK154.out 1))
                      go_roundg k2
                      case measure => have := HK1.out; have := HK2.out; omega
                      case rel => exact ⟨(wrap64 (x3_2 + (wrap64 (1 + (((rd_T56 ((rd_T42 l0 x10_1).f1) x24_2).f1).length : Int))))), (wrap64 (x24_2 + 1)), (by first | rfl | (simp; done) | (simp [*]; done)), (by first | rfl | (simp; done) | (simp [*]; done)), H', ⟨by have := HK1.out; have := HK2.out; omega⟩, ⟨by (with_reducible repeat (first | refine blk_drewN ?_ _ | refine blk_drew ?_ | refine blk_alloc ?_ _)); refine blk_far ?_ NB152_154.out _; (with_reducible repeat (first | refine blk_drewN ?_ _ | refine blk_drew ?_ | refine blk_alloc ?_ _)); refine blk_far ?_ NB152_154.out _; (with_reducible repeat (first | refine blk_drewN ?_ _ | refine blk_drew ?_ | refine blk_alloc ?_ _)); exact BK152.out⟩, ⟨by repeat (first | (with_reducible first | exact HB.out | apply below_alloc | apply pw_below_drewN | apply below_drew1 | refine below_set ?_ GE152.out | refine below_set ?_ GE154.out) | exact HB.out)⟩⟩
                    · rw [if_neg c9] at H
                      exact absurd H (by simp)
                  · rw [if_neg c8] at H
                    exact absurd H (by simp)
                · rw [if_neg c7] at H
                  have c7b0 : decide (x24_2 < (((rd_T42 l0 x10_1).f1).length : Int)) = false := decide_eq_false c7
                  clear c7
                  have H' := Aside0.mk H
                  clear H
                  go_wp2
                  go_roundg k2
                  case measure => have := HK1.out; have := HK2.out; omega
                  case rel => exact ⟨(x3_2), (wrap64 (x10_1 + 1)), (by first | rfl | (simp; done) | (simp [*]; done)), (by first | rfl | (simp; done) | (simp [*]; done)), H', ⟨by have := HK1.out; have := HK2.out; omega⟩, ⟨by repeat (first | (with_reducible first | exact HB.out | apply below_alloc | apply pw_below_drewN | apply below_drew1 | refine below_set ?_ GE152.out) | exact HB.out)⟩⟩
          · rw [if_neg c4] at H
            exact absurd H (by simp)
        · rw [if_neg c3] at H
          exact absurd H (by simp)
      · rw [if_neg c2] at H
        have c2b0 : decide (x10_1 < (l0.length : Int)) = false := decide_eq_false c2
        clear c2
        obtain rfl := Option.some.inj H
        go_wp2
        go_ret
        exact ⟨by first | rfl | (simp [errW_none, errW_some] <;> rfl) | (simp [*, errW_none, errW_some] <;> rfl), by repeat (first | (with_reducible first | exact HB.out | apply below_alloc | apply pw_below_drewN | apply below_drew1) | exact HB.out)⟩

/-! ### lamplighterlaw19_TraceJoins: function 8 -/
mutual
def lamplighterlaw19_TraceJoins.j0 : Nat → List (S42) → List (S42) → Bool → Option (Bool)
  | 0, _, _, _ => none
  | k + 1, x0, x1, x30 => if x30 = true then ((lamplighterlaw19_alive.f).bind fun t158 => (some t158)) else ((trace_Format.f x0).bind fun bt159 => ((trace_Format.f x1).bind fun bt161 => (if bt159.2 = 0 then (lamplighterlaw19_TraceJoins.j1 k bt159.1 bt161.1 (bt161.2 != 0)) else (lamplighterlaw19_TraceJoins.j1 k bt159.1 bt161.1 true))))
def lamplighterlaw19_TraceJoins.j1 : Nat → ByteArray → ByteArray → Bool → Option (Bool)
  | 0, _, _, _ => none
  | k + 1, x5, x7, x47 => if x47 = true then (some true) else (if x5.size + x7.size ≤ 9223372036854775807 then ((trace_Parse.f (x5 ++ x7)).bind fun bt163 => ((trace_Parse.f x5).bind fun bt168 => ((trace_Parse.f x7).bind fun bt173 => (if bt163.2.2 = bt168.2.2 then (lamplighterlaw19_TraceJoins.j2 k x5 bt163.1 bt163.2.1 bt163.2.2 bt168.1 bt168.2.1 bt173.1 bt173.2.1 (bt163.2.2 != bt173.2.2)) else (lamplighterlaw19_TraceJoins.j2 k x5 bt163.1 bt163.2.1 bt163.2.2 bt168.1 bt168.2.1 bt173.1 bt173.2.1 true))))) else (none))
def lamplighterlaw19_TraceJoins.j2 : Nat → ByteArray → List (S42) → Int → Int → List (S42) → Int → List (S42) → Int → Bool → Option (Bool)
  | 0, _, _, _, _, _, _, _, _, _ => none
  | k + 1, x5, x9, x10, x11, x12, x13, x15, x16, x75 => if x75 = true then (some (x11 != 0)) else (if x11 = 0 then (if (x5.size : Int) > 0 then (if 0 ≤ (wrap64 ((x5.size : Int) - 1)) then (if (wrap64 ((x5.size : Int) - 1)) ≤ (x5.size : Int) then ((trace_Parse.f (x5.extract 0 ((wrap64 ((x5.size : Int) - 1)) : Int).toNat)).bind fun bt178 => (if bt178.2.2 = 10 then (if bt178.2.1 = (wrap64 (x13 - 1)) then (if x10 = (wrap64 (x13 + x16)) then ((some (([] : List (S42)) : List (S42))).bind fun y183 => (if y183.length + x12.length < 1759218604441 then ((some (y183 ++ x12 : List (S42))).bind fun y186 => (if y186.length + x15.length < 1759218604441 then ((lamplighterref19_Same.f x9 (y186 ++ x15)).bind fun t192 => (some t192)) else (none))) else (none))) else (some false)) else (some false)) else (some false))) else (none)) else (none)) else (if x10 = (wrap64 (x13 + x16)) then ((some (([] : List (S42)) : List (S42))).bind fun y193 => (if y193.length + x12.length < 1759218604441 then ((some (y193 ++ x12 : List (S42))).bind fun y196 => (if y196.length + x15.length < 1759218604441 then ((lamplighterref19_Same.f x9 (y196 ++ x15)).bind fun t202 => (some t202)) else (none))) else (none))) else (some false))) else (some true))
end
def lamplighterlaw19_TraceJoins.f (k : Nat) (l0 : List (S42)) (l1 : List (S42)) : Option (Bool) := (lamplighterlaw19_alive.f).bind fun t155 => (if t155 = true then ((lamplighterlaw19_great.f k l0).bind fun t156 => (if t156 = true then (lamplighterlaw19_TraceJoins.j0 k l0 l1 true) else ((lamplighterlaw19_great.f k l1).bind fun t157 => (lamplighterlaw19_TraceJoins.j0 k l0 l1 t157)))) else (lamplighterlaw19_TraceJoins.j0 k l0 l1 true))
theorem lamplighterlaw19_TraceJoins.mono_l : ∀ k, (∀ y0 y1 y2, LeO (lamplighterlaw19_TraceJoins.j0 k y0 y1 y2) (lamplighterlaw19_TraceJoins.j0 (k + 1) y0 y1 y2)) ∧ (∀ y0 y1 y2, LeO (lamplighterlaw19_TraceJoins.j1 k y0 y1 y2) (lamplighterlaw19_TraceJoins.j1 (k + 1) y0 y1 y2)) ∧ (∀ y0 y1 y2 y3 y4 y5 y6 y7 y8, LeO (lamplighterlaw19_TraceJoins.j2 k y0 y1 y2 y3 y4 y5 y6 y7 y8) (lamplighterlaw19_TraceJoins.j2 (k + 1) y0 y1 y2 y3 y4 y5 y6 y7 y8))
  | 0 => ⟨fun _ _ _ r h => by simp [lamplighterlaw19_TraceJoins.j0] at h, fun _ _ _ r h => by simp [lamplighterlaw19_TraceJoins.j1] at h, fun _ _ _ _ _ _ _ _ _ r h => by simp [lamplighterlaw19_TraceJoins.j2] at h⟩
  | k + 1 => by
    obtain ⟨ih0, ih1, ih2⟩ := lamplighterlaw19_TraceJoins.mono_l k
    refine ⟨?_, ?_, ?_⟩
    · intro y0 y1 y2
      unfold lamplighterlaw19_TraceJoins.j0
      repeat' first
      | (with_reducible exact ih0 _ _ _)
      | (with_reducible exact ih1 _ _ _)
      | (with_reducible exact ih2 _ _ _ _ _ _ _ _ _)
      | (with_reducible exact lamplighterlaw19_great.mono _ _)
      | (with_reducible exact LeO.refl _)
      | (with_reducible exact LeO.none _)
      | (with_reducible refine LeO.ite ?_ ?_)
      | (with_reducible refine LeO.bind ?_ (fun _ => ?_))
      | exact ih0 _ _ _
      | exact ih1 _ _ _
      | exact ih2 _ _ _ _ _ _ _ _ _
      | exact lamplighterlaw19_great.mono _ _
      | exact LeO.none _
      | refine LeO.ite ?_ ?_
      | refine LeO.bind ?_ (fun _ => ?_)
    · intro y0 y1 y2
      unfold lamplighterlaw19_TraceJoins.j1
      repeat' first
      | (with_reducible exact ih0 _ _ _)
      | (with_reducible exact ih1 _ _ _)
      | (with_reducible exact ih2 _ _ _ _ _ _ _ _ _)
      | (with_reducible exact lamplighterlaw19_great.mono _ _)
      | (with_reducible exact LeO.refl _)
      | (with_reducible exact LeO.none _)
      | (with_reducible refine LeO.ite ?_ ?_)
      | (with_reducible refine LeO.bind ?_ (fun _ => ?_))
      | exact ih0 _ _ _
      | exact ih1 _ _ _
      | exact ih2 _ _ _ _ _ _ _ _ _
      | exact lamplighterlaw19_great.mono _ _
      | exact LeO.none _
      | refine LeO.ite ?_ ?_
      | refine LeO.bind ?_ (fun _ => ?_)
    · intro y0 y1 y2 y3 y4 y5 y6 y7 y8
      unfold lamplighterlaw19_TraceJoins.j2
      repeat' first
      | (with_reducible exact ih0 _ _ _)
      | (with_reducible exact ih1 _ _ _)
      | (with_reducible exact ih2 _ _ _ _ _ _ _ _ _)
      | (with_reducible exact lamplighterlaw19_great.mono _ _)
      | (with_reducible exact LeO.refl _)
      | (with_reducible exact LeO.none _)
      | (with_reducible refine LeO.ite ?_ ?_)
      | (with_reducible refine LeO.bind ?_ (fun _ => ?_))
      | exact ih0 _ _ _
      | exact ih1 _ _ _
      | exact ih2 _ _ _ _ _ _ _ _ _
      | exact lamplighterlaw19_great.mono _ _
      | exact LeO.none _
      | refine LeO.ite ?_ ?_
      | refine LeO.bind ?_ (fun _ => ?_)
theorem lamplighterlaw19_TraceJoins.mono : ∀ a0 a1 k, LeO (lamplighterlaw19_TraceJoins.f k a0 a1) (lamplighterlaw19_TraceJoins.f (k + 1) a0 a1) := by
  intro a0 a1 k
  obtain ⟨ih0, ih1, ih2⟩ := lamplighterlaw19_TraceJoins.mono_l k
  unfold lamplighterlaw19_TraceJoins.f
  repeat' first
      | (with_reducible exact ih0 _ _ _)
      | (with_reducible exact ih1 _ _ _)
      | (with_reducible exact ih2 _ _ _ _ _ _ _ _ _)
      | (with_reducible exact lamplighterlaw19_great.mono _ _)
      | (with_reducible exact LeO.refl _)
      | (with_reducible exact LeO.none _)
      | (with_reducible refine LeO.ite ?_ ?_)
      | (with_reducible refine LeO.bind ?_ (fun _ => ?_))
      | exact ih0 _ _ _
      | exact ih1 _ _ _
      | exact ih2 _ _ _ _ _ _ _ _ _
      | exact lamplighterlaw19_great.mono _ _
      | exact LeO.none _
      | refine LeO.ite ?_ ?_
      | refine LeO.bind ?_ (fun _ => ?_)
set_option maxHeartbeats 8000000 in
set_option maxRecDepth 100000 in
theorem lamplighterlaw19_TraceJoins.calls (k : Nat) (A0 : Option Addr) (c0 : Nat) (l0 : List (S42)) (A1 : Option Addr) (c1 : Nat) (l1 : List (S42)) (r : Bool) (w : World) (hr0 : Kd.C k42 w A0 l0.length l0) (hc0 : l0.length ≤ c0) (hr1 : Kd.C k42 w A1 l1.length l1) (hc1 : l1.length ≤ c1) (h : lamplighterlaw19_TraceJoins.f k l0 l1 = some r) (hrt : r = true) (hGT : GlobT w) :
    Calls Tryd.prog 8 #[.slice A0 l0.length c0, .slice A1 l1.length c1] w fun e w' => e = .returned (.bool r) ∧ Below w.heap.size w w' := by
  have HGLOT := Lib.hid hGT
  clear hGT
  have HR0 := Aside0.mk hr0
  have HC0 := Aside0.mk hc0
  clear hr0 hc0
  have HR1 := Aside0.mk hr1
  have HC1 := Aside0.mk hc1
  clear hr1 hc1
  have HB := Aside0.mk (Below.refl w.heap.size w)
  have H : ((lamplighterlaw19_alive.f).bind fun t155 => (if t155 = true then ((lamplighterlaw19_great.f k l0).bind fun t156 => (if t156 = true then (lamplighterlaw19_TraceJoins.j0 k l0 l1 true) else ((lamplighterlaw19_great.f k l1).bind fun t157 => (lamplighterlaw19_TraceJoins.j0 k l0 l1 t157)))) else (lamplighterlaw19_TraceJoins.j0 k l0 l1 true))) = some r := h
  clear h
  have HC3 := Aside0.mk H
  clear H
  go_enter Tryd.func8, Tryd.ntmps8
  go_upto_region 1 with (fail)
  go_cut [30] (fun v30 wc => ∃ (kq : Nat) (x30_2 : Bool), v30 = .bool x30_2 ∧ Aside0 (lamplighterlaw19_TraceJoins.j0 kq l0 l1 x30_2 = some r) ∧ Aside0 (kq ≤ k) ∧ Aside0 (Below w.heap.size w wc))
  case first =>
    have H := HC3.out
    clear HC3
    replace H := Option.bind_eq_some_iff.mp H
    obtain ⟨t155, A40, H⟩ := H
    replace H : (if t155 = true then ((lamplighterlaw19_great.f k l0).bind fun t156 => (if t156 = true then (lamplighterlaw19_TraceJoins.j0 k l0 l1 true) else ((lamplighterlaw19_great.f k l1).bind fun t157 => (lamplighterlaw19_TraceJoins.j0 k l0 l1 t157)))) else (lamplighterlaw19_TraceJoins.j0 k l0 l1 true)) = some r := H
    have A4 := Aside0.mk A40
    clear A40
    by_cases c5 : t155 = true
    · subst c5
      have H1 : ((lamplighterlaw19_great.f k l0).bind fun t156 => (if t156 = true then (lamplighterlaw19_TraceJoins.j0 k l0 l1 true) else ((lamplighterlaw19_great.f k l1).bind fun t157 => (lamplighterlaw19_TraceJoins.j0 k l0 l1 t157)))) = some r := by rw [if_pos rfl] at H; exact H
      clear H
      have H := H1
      clear H1
      replace H := Option.bind_eq_some_iff.mp H
      obtain ⟨t156, A60, H⟩ := H
      replace H : (if t156 = true then (lamplighterlaw19_TraceJoins.j0 k l0 l1 true) else ((lamplighterlaw19_great.f k l1).bind fun t157 => (lamplighterlaw19_TraceJoins.j0 k l0 l1 t157))) = some r := H
      have A6 := Aside0.mk A60
      clear A60
      by_cases c7 : t156 = true
      · subst c7
        have H1 : (lamplighterlaw19_TraceJoins.j0 k l0 l1 true) = some r := by rw [if_pos rfl] at H; exact H
        clear H
        have H := H1
        clear H1
        have H' := Aside0.mk H
        clear H
        go_wp2_with (first | ((with_reducible refine gate_callee (f := 10) rfl ?_); refine goesL_ (some 21) rfl rfl Tryd.func10 (by kernel_rfl) rfl #[] rfl (by (try simp only [List.map_toArray, List.map_cons, List.map_nil]); first | done | rfl | (simp only [List.length_drop, List.length_take]; rfl)) ?_; (with_reducible refine (lamplighterlaw19_alive.calls  true _ A4.out (globt_below HGLOT.out (by repeat (first | (with_reducible first | exact HB.out | apply below_alloc | apply pw_below_drewN | apply below_drew1) | exact HB.out)))).mono ?_); rintro e w8 ⟨rfl, hb⟩; refine ⟨_, rfl, ?_⟩; have n0_ := Aside0.mk (below_step (by repeat (first | (with_reducible first | exact HB.out | apply below_alloc | apply pw_below_drewN | apply below_drew1) | exact HB.out)) hb); clear HB; have HB := n0_; clear n0_; (try clear hb); (try clear hb2); (try clear hk); (try clear hi)) | (go_at_call 20; (with_reducible refine (lamplighterlaw19_great.calls k _ _ l0 true _ ?side1 ?side2 A6.out).mono ?_); (case side1 => repeat (first | exact (Kd.C_below HR0.out HB.out) | (with_reducible refine Kd.C_alloc ?_ _) | (with_reducible refine Kd.C_drewN ?_ _) | (with_reducible refine Kd.C_drew ?_))); (case side2 => exact HC0.out); rintro e w9 ⟨rfl, hb⟩; have n0_ := Aside0.mk (below_step (by repeat (first | (with_reducible first | exact HB.out | apply below_alloc | apply pw_below_drewN | apply below_drew1) | exact HB.out)) hb); clear HB; have HB := n0_; clear n0_; (try clear hb); (try clear hb2); (try clear hk); (try clear hi)))
        go_meet
        case rel => exact ⟨_, (true), (by first | rfl | (simp; done) | (simp [*]; done)), H', ⟨by first | omega | exact Nat.le_refl _⟩, ⟨by repeat (first | (with_reducible first | exact HB.out | apply below_alloc | apply pw_below_drewN | apply below_drew1) | exact HB.out)⟩⟩
      · replace c7 := Bool.eq_false_iff.mpr c7
        subst c7
        have H1 : ((lamplighterlaw19_great.f k l1).bind fun t157 => (lamplighterlaw19_TraceJoins.j0 k l0 l1 t157)) = some r := by rw [if_neg (show ¬ (false = true) by decide)] at H; exact H
        clear H
        have H := H1
        clear H1
        replace H := Option.bind_eq_some_iff.mp H
        obtain ⟨t157, A100, H⟩ := H
        replace H : (lamplighterlaw19_TraceJoins.j0 k l0 l1 t157) = some r := H
        have A10 := Aside0.mk A100
        clear A100
        have H' := Aside0.mk H
        clear H
        go_wp2_with (first | ((with_reducible refine gate_callee (f := 10) rfl ?_); refine goesL_ (some 21) rfl rfl Tryd.func10 (by kernel_rfl) rfl #[] rfl (by (try simp only [List.map_toArray, List.map_cons, List.map_nil]); first | done | rfl | (simp only [List.length_drop, List.length_take]; rfl)) ?_; (with_reducible refine (lamplighterlaw19_alive.calls  true _ A4.out (globt_below HGLOT.out (by repeat (first | (with_reducible first | exact HB.out | apply below_alloc | apply pw_below_drewN | apply below_drew1) | exact HB.out)))).mono ?_); rintro e w11 ⟨rfl, hb⟩; refine ⟨_, rfl, ?_⟩; have n0_ := Aside0.mk (below_step (by repeat (first | (with_reducible first | exact HB.out | apply below_alloc | apply pw_below_drewN | apply below_drew1) | exact HB.out)) hb); clear HB; have HB := n0_; clear n0_; (try clear hb); (try clear hb2); (try clear hk); (try clear hi)) | (go_at_call 20; (with_reducible refine (lamplighterlaw19_great.calls k _ _ l0 false _ ?side1 ?side2 A6.out).mono ?_); (case side1 => repeat (first | exact (Kd.C_below HR0.out HB.out) | (with_reducible refine Kd.C_alloc ?_ _) | (with_reducible refine Kd.C_drewN ?_ _) | (with_reducible refine Kd.C_drew ?_))); (case side2 => exact HC0.out); rintro e w12 ⟨rfl, hb⟩; have n0_ := Aside0.mk (below_step (by repeat (first | (with_reducible first | exact HB.out | apply below_alloc | apply pw_below_drewN | apply below_drew1) | exact HB.out)) hb); clear HB; have HB := n0_; clear n0_; (try clear hb); (try clear hb2); (try clear hk); (try clear hi)) | (go_at_call 20; (with_reducible refine (lamplighterlaw19_great.calls k _ _ l1 t157 _ ?side1 ?side2 A10.out).mono ?_); (case side1 => repeat (first | exact (Kd.C_below HR1.out HB.out) | (with_reducible refine Kd.C_alloc ?_ _) | (with_reducible refine Kd.C_drewN ?_ _) | (with_reducible refine Kd.C_drew ?_))); (case side2 => exact HC1.out); rintro e w13 ⟨rfl, hb⟩; have n0_ := Aside0.mk (below_step (by repeat (first | (with_reducible first | exact HB.out | apply below_alloc | apply pw_below_drewN | apply below_drew1) | exact HB.out)) hb); clear HB; have HB := n0_; clear n0_; (try clear hb); (try clear hb2); (try clear hk); (try clear hi)))
        go_meet
        case rel => exact ⟨_, (t157), (by first | rfl | (simp; done) | (simp [*]; done)), H', ⟨by first | omega | exact Nat.le_refl _⟩, ⟨by repeat (first | (with_reducible first | exact HB.out | apply below_alloc | apply pw_below_drewN | apply below_drew1) | exact HB.out)⟩⟩
    · replace c5 := Bool.eq_false_iff.mpr c5
      subst c5
      have H1 : (lamplighterlaw19_TraceJoins.j0 k l0 l1 true) = some r := by rw [if_neg (show ¬ (false = true) by decide)] at H; exact H
      clear H
      have H := H1
      clear H1
      have H' := Aside0.mk H
      clear H
      go_wp2_with (first | ((with_reducible refine gate_callee (f := 10) rfl ?_); refine goesL_ (some 21) rfl rfl Tryd.func10 (by kernel_rfl) rfl #[] rfl (by (try simp only [List.map_toArray, List.map_cons, List.map_nil]); first | done | rfl | (simp only [List.length_drop, List.length_take]; rfl)) ?_; (with_reducible refine (lamplighterlaw19_alive.calls  false _ A4.out (globt_below HGLOT.out (by repeat (first | (with_reducible first | exact HB.out | apply below_alloc | apply pw_below_drewN | apply below_drew1) | exact HB.out)))).mono ?_); rintro e w14 ⟨rfl, hb⟩; refine ⟨_, rfl, ?_⟩; have n0_ := Aside0.mk (below_step (by repeat (first | (with_reducible first | exact HB.out | apply below_alloc | apply pw_below_drewN | apply below_drew1) | exact HB.out)) hb); clear HB; have HB := n0_; clear n0_; (try clear hb); (try clear hb2); (try clear hk); (try clear hi)))
      go_meet
      case rel => exact ⟨_, (true), (by first | rfl | (simp; done) | (simp [*]; done)), H', ⟨by first | omega | exact Nat.le_refl _⟩, ⟨by repeat (first | (with_reducible first | exact HB.out | apply below_alloc | apply pw_below_drewN | apply below_drew1) | exact HB.out)⟩⟩
  case rest =>
    clear HC3
    try clear c1
    try clear p2
    try clear c5
    try clear c7
    try clear c8
    try clear c10
    obtain ⟨kq, x30_2, rfl, HA, HJ2, HB⟩ := hcut
    cases kq with
    | zero => exact absurd HA.out (by simp [lamplighterlaw19_TraceJoins.j0])
    | succ kj2 =>
      have H := HA.out
      clear HA
      simp only [lamplighterlaw19_TraceJoins.j0] at H
      by_cases c15 : x30_2 = true
      · subst c15
        have H1 : ((lamplighterlaw19_alive.f).bind fun t158 => (some t158)) = some r := by rw [if_pos rfl] at H; exact H
        clear H
        have H := H1
        clear H1
        replace H := Option.bind_eq_some_iff.mp H
        obtain ⟨t158, A160, H⟩ := H
        replace H : (some t158) = some r := H
        have A16 := Aside0.mk A160
        clear A160
        obtain rfl := Option.some.inj H
        clear hrt
        go_wp2_with (first | ((with_reducible refine gate_callee (f := 10) rfl ?_); refine goesL_ (some 31) rfl rfl Tryd.func10 (by kernel_rfl) rfl #[] rfl (by (try simp only [List.map_toArray, List.map_cons, List.map_nil]); first | done | rfl | (simp only [List.length_drop, List.length_take]; rfl)) ?_; (with_reducible refine (lamplighterlaw19_alive.calls  t158 _ A16.out (globt_below HGLOT.out (by repeat (first | (with_reducible first | exact HB.out | apply below_alloc | apply pw_below_drewN | apply below_drew1) | exact HB.out)))).mono ?_); rintro e w17 ⟨rfl, hb⟩; refine ⟨_, rfl, ?_⟩; have n0_ := Aside0.mk (below_step (by repeat (first | (with_reducible first | exact HB.out | apply below_alloc | apply pw_below_drewN | apply below_drew1) | exact HB.out)) hb); clear HB; have HB := n0_; clear n0_; (try clear hb); (try clear hb2); (try clear hk); (try clear hi)))
        go_ret
        exact ⟨by first | rfl | (simp [errW_none, errW_some] <;> rfl) | (simp [*, errW_none, errW_some] <;> rfl), by repeat (first | (with_reducible first | exact HB.out | apply below_alloc | apply pw_below_drewN | apply below_drew1) | exact HB.out)⟩
      · replace c15 := Bool.eq_false_iff.mpr c15
        subst c15
        have H1 : ((trace_Format.f l0).bind fun bt159 => ((trace_Format.f l1).bind fun bt161 => (if bt159.2 = 0 then (lamplighterlaw19_TraceJoins.j1 kj2 bt159.1 bt161.1 (bt161.2 != 0)) else (lamplighterlaw19_TraceJoins.j1 kj2 bt159.1 bt161.1 true)))) = some r := by rw [if_neg (show ¬ (false = true) by decide)] at H; exact H
        clear H
        have H := H1
        clear H1
        replace H := Option.bind_eq_some_iff.mp H
        obtain ⟨⟨t159, t160⟩, A180, H⟩ := H
        replace H : ((trace_Format.f l1).bind fun bt161 => (if t160 = 0 then (lamplighterlaw19_TraceJoins.j1 kj2 t159 bt161.1 (bt161.2 != 0)) else (lamplighterlaw19_TraceJoins.j1 kj2 t159 bt161.1 true))) = some r := H
        have A18 := Aside0.mk A180
        clear A180
        replace H := Option.bind_eq_some_iff.mp H
        obtain ⟨⟨t161, t162⟩, A190, H⟩ := H
        replace H : (if t160 = 0 then (lamplighterlaw19_TraceJoins.j1 kj2 t159 t161 (t162 != 0)) else (lamplighterlaw19_TraceJoins.j1 kj2 t159 t161 true)) = some r := H
        have A19 := Aside0.mk A190
        clear A190
        have HC20 := Aside0.mk H
        clear H
        go_upto_region 5 with (first | ((with_reducible refine gate_callee (f := 21) rfl ?_); refine goesL_ (some 34) rfl rfl Tryd.func21 (by kernel_rfl) rfl #[.slice A0 l0.length c0] rfl (by (try simp only [List.map_toArray, List.map_cons, List.map_nil]); first | done | rfl | (simp only [List.length_drop, List.length_take]; rfl)) ?_; (with_reducible refine (trace_Format.calls _ _ l0 t159 t160 _ ?side1 ?side2 A18.out (globt_below HGLOT.out (by repeat (first | (with_reducible first | exact HB.out | apply below_alloc | apply pw_below_drewN | apply below_drew1) | exact HB.out)))).mono ?_); (case side1 => repeat (first | exact (Kd.C_below HR0.out HB.out) | (with_reducible refine Kd.C_alloc ?_ _) | (with_reducible refine Kd.C_drewN ?_ _) | (with_reducible refine Kd.C_drew ?_))); (case side2 => exact HC0.out); rintro e w21 ⟨rfl, hb⟩; refine ⟨_, rfl, ?_⟩; have n0_ := Aside0.mk (below_step (by repeat (first | (with_reducible first | exact HB.out | apply below_alloc | apply pw_below_drewN | apply below_drew1) | exact HB.out)) hb); clear HB; have HB := n0_; clear n0_; (try clear hb); (try clear hb2); (try clear hk); (try clear hi)) | ((with_reducible refine gate_callee (f := 21) rfl ?_); refine goesL_ (some 39) rfl rfl Tryd.func21 (by kernel_rfl) rfl #[.slice A1 l1.length c1] rfl (by (try simp only [List.map_toArray, List.map_cons, List.map_nil]); first | done | rfl | (simp only [List.length_drop, List.length_take]; rfl)) ?_; (with_reducible refine (trace_Format.calls _ _ l1 t161 t162 _ ?side1 ?side2 A19.out (globt_below HGLOT.out (by repeat (first | (with_reducible first | exact HB.out | apply below_alloc | apply pw_below_drewN | apply below_drew1) | exact HB.out)))).mono ?_); (case side1 => repeat (first | exact (Kd.C_below HR1.out HB.out) | (with_reducible refine Kd.C_alloc ?_ _) | (with_reducible refine Kd.C_drewN ?_ _) | (with_reducible refine Kd.C_drew ?_))); (case side2 => exact HC1.out); rintro e w22 ⟨rfl, hb⟩; refine ⟨_, rfl, ?_⟩; have n0_ := Aside0.mk (below_step (by repeat (first | (with_reducible first | exact HB.out | apply below_alloc | apply pw_below_drewN | apply below_drew1) | exact HB.out)) hb); clear HB; have HB := n0_; clear n0_; (try clear hb); (try clear hb2); (try clear hk); (try clear hi)))
        (try simp only [Act.put, List.setIfInBounds_toArray, List.set_cons_zero, List.set_cons_succ])
        go_cut [47] (fun v47 wc => ∃ (kq : Nat) (x47_19 : Bool), v47 = .bool x47_19 ∧ Aside0 (lamplighterlaw19_TraceJoins.j1 kq t159 t161 x47_19 = some r) ∧ Aside0 (kq ≤ kj2) ∧ Aside0 (Below w.heap.size w wc))
        case first =>
          have H := HC20.out
          clear HC20
          by_cases c23 : t160 = 0
          · rw [if_pos c23] at H
            have c23b0 : (t160 == 0) = true := beq_iff_eq.mpr c23
            have c23b1 : (t160 != 0) = false := bne_eq_false_iff_eq.mpr c23
            clear c23
            (first | rw [c23b0] | (simp only [i64_w, i32_w]; rw [c23b0]) | skip)
            have H' := Aside0.mk H
            clear H
            go_wp2
            go_meet
            case rel => exact ⟨_, ((t162 != 0)), (by first | rfl | (simp; done) | (simp [*]; done)), H', ⟨by have := HJ2.out; first | omega | exact Nat.le_refl _⟩, ⟨by repeat (first | (with_reducible first | exact HB.out | apply below_alloc | apply pw_below_drewN | apply below_drew1) | exact HB.out)⟩⟩
          · rw [if_neg c23] at H
            have c23b0 : (t160 == 0) = false := beq_eq_false_iff_ne.mpr c23
            have c23b1 : (t160 != 0) = true := bne_iff_ne.mpr c23
            (first | rw [c23b0] | (simp only [i64_w, i32_w]; rw [c23b0]) | skip)
            have H' := Aside0.mk H
            clear H
            go_wp2
            go_meet
            case rel => exact ⟨_, (true), (by first | rfl | (simp; done) | (simp [*]; done)), H', ⟨by have := HJ2.out; first | omega | exact Nat.le_refl _⟩, ⟨by repeat (first | (with_reducible first | exact HB.out | apply below_alloc | apply pw_below_drewN | apply below_drew1) | exact HB.out)⟩⟩
        case rest =>
          clear HC20
          try clear c1
          try clear c2
          try clear p2
          try clear c5
          try clear c7
          try clear c8
          try clear c10
          try clear c15
          try clear c21
          try clear c23
          try clear c23b0
          try clear c23b1
          try clear p2
          obtain ⟨kq, x47_19, rfl, HA, HJ19, HB⟩ := hcut
          cases kq with
          | zero => exact absurd HA.out (by simp [lamplighterlaw19_TraceJoins.j1])
          | succ kj19 =>
            have H := HA.out
            clear HA
            simp only [lamplighterlaw19_TraceJoins.j1] at H
            by_cases c24 : x47_19 = true
            · subst c24
              have H1 : (some true) = some r := by rw [if_pos rfl] at H; exact H
              clear H
              have H := H1
              clear H1
              obtain rfl := Option.some.inj H
              clear hrt
              go_wp2
              go_ret
              exact ⟨by first | rfl | (simp [errW_none, errW_some] <;> rfl) | (simp [*, errW_none, errW_some] <;> rfl), by repeat (first | (with_reducible first | exact HB.out | apply below_alloc | apply pw_below_drewN | apply below_drew1) | exact HB.out)⟩
            · replace c24 := Bool.eq_false_iff.mpr c24
              subst c24
              have H1 : (if t159.size + t161.size ≤ 9223372036854775807 then ((trace_Parse.f (t159 ++ t161)).bind fun bt163 => ((trace_Parse.f t159).bind fun bt168 => ((trace_Parse.f t161).bind fun bt173 => (if bt163.2.2 = bt168.2.2 then (lamplighterlaw19_TraceJoins.j2 kj19 t159 bt163.1 bt163.2.1 bt163.2.2 bt168.1 bt168.2.1 bt173.1 bt173.2.1 (bt163.2.2 != bt173.2.2)) else (lamplighterlaw19_TraceJoins.j2 kj19 t159 bt163.1 bt163.2.1 bt163.2.2 bt168.1 bt168.2.1 bt173.1 bt173.2.1 true))))) else (none)) = some r := by rw [if_neg (show ¬ (false = true) by decide)] at H; exact H
              clear H
              have H := H1
              clear H1
              by_cases c25 : t159.size + t161.size ≤ 9223372036854775807
              · rw [if_pos c25] at H
                have c25b0 := eq_true c25
                have c25b1 : decide (t159.size + t161.size ≤ 9223372036854775807) = true := decide_eq_true c25
                try have c25b2 : (9223372036854775807 < t159.size + t161.size) = False := eq_false (Nat.not_lt.2 c25)
                try (have c25b4 := c25b2; simp only [ByteArray.size_append] at c25b4)
                replace H := Option.bind_eq_some_iff.mp H
                obtain ⟨⟨t163, t164, t165⟩, A260, H⟩ := H
                replace H : ((trace_Parse.f t159).bind fun bt168 => ((trace_Parse.f t161).bind fun bt173 => (if t165 = bt168.2.2 then (lamplighterlaw19_TraceJoins.j2 kj19 t159 t163 t164 t165 bt168.1 bt168.2.1 bt173.1 bt173.2.1 (t165 != bt173.2.2)) else (lamplighterlaw19_TraceJoins.j2 kj19 t159 t163 t164 t165 bt168.1 bt168.2.1 bt173.1 bt173.2.1 true)))) = some r := H
                have A26 := Aside0.mk A260
                clear A260
                replace H := Option.bind_eq_some_iff.mp H
                obtain ⟨⟨t168, t169, t170⟩, A270, H⟩ := H
                replace H : ((trace_Parse.f t161).bind fun bt173 => (if t165 = t170 then (lamplighterlaw19_TraceJoins.j2 kj19 t159 t163 t164 t165 t168 t169 bt173.1 bt173.2.1 (t165 != bt173.2.2)) else (lamplighterlaw19_TraceJoins.j2 kj19 t159 t163 t164 t165 t168 t169 bt173.1 bt173.2.1 true))) = some r := H
                have A27 := Aside0.mk A270
                clear A270
                replace H := Option.bind_eq_some_iff.mp H
                obtain ⟨⟨t173, t174, t175⟩, A280, H⟩ := H
                replace H : (if t165 = t170 then (lamplighterlaw19_TraceJoins.j2 kj19 t159 t163 t164 t165 t168 t169 t173 t174 (t165 != t175)) else (lamplighterlaw19_TraceJoins.j2 kj19 t159 t163 t164 t165 t168 t169 t173 t174 true)) = some r := H
                have A28 := Aside0.mk A280
                clear A280
                have HC29 := Aside0.mk H
                clear H
                go_upto_region 10 with (first | ((with_reducible refine gate_callee (f := 23) rfl ?_); refine goesL_ (some 52) rfl rfl Tryd.func23 (by kernel_rfl) rfl #[.string (t159 ++ t161)] rfl (by (try simp only [List.map_toArray, List.map_cons, List.map_nil]); first | done | rfl | (simp only [List.length_drop, List.length_take]; rfl)) ?_; (with_reducible refine (trace_Parse.calls (t159 ++ t161) t163 t164 t165 _ A26.out (globt_below HGLOT.out (by repeat (first | (with_reducible first | exact HB.out | apply below_alloc | apply pw_below_drewN | apply below_drew1) | exact HB.out)))).mono ?_); rintro e w30 ⟨v166, rfl, ho0, hb⟩; refine ⟨_, rfl, ?_⟩; have n0_ := Aside0.mk (Kd.N_lower (Kd.N_mono (ok' := fun k_ => True) (Kd.R_N (Kd.R_bound ho0)) (fun k_ hk_ => trivial)) (below_size (by repeat (first | (with_reducible first | exact HB.out | apply below_alloc | apply pw_below_drewN | apply below_drew1) | exact HB.out)))); have n1_ := Aside0.mk (below_step (by repeat (first | (with_reducible first | exact HB.out | apply below_alloc | apply pw_below_drewN | apply below_drew1) | exact HB.out)) hb); clear HB; have HO167 := n0_; have HB := n1_; clear n0_ n1_; (try clear hb); (try clear hb2); (try clear hk); (try clear hi); (try clear ho0)) | ((with_reducible refine gate_callee (f := 23) rfl ?_); refine goesL_ (some 58) rfl rfl Tryd.func23 (by kernel_rfl) rfl #[.string t159] rfl (by (try simp only [List.map_toArray, List.map_cons, List.map_nil]); first | done | rfl | (simp only [List.length_drop, List.length_take]; rfl)) ?_; (with_reducible refine (trace_Parse.calls t159 t168 t169 t170 _ A27.out (globt_below HGLOT.out (by repeat (first | (with_reducible first | exact HB.out | apply below_alloc | apply pw_below_drewN | apply below_drew1) | exact HB.out)))).mono ?_); rintro e w31 ⟨v171, rfl, ho0, hb⟩; refine ⟨_, rfl, ?_⟩; have n0_ := Aside0.mk (Kd.N_elder' (by (with_reducible repeat (first | apply Kd.N_alloc | apply Kd.N_drewN | apply Kd.N_drew)); exact HO167.out) (Kd.N_base (Kd.R_N ho0)) hb); have n1_ := Aside0.mk (Kd.N_lower (Kd.N_mono (ok' := fun k_ => some k_ ≠ (v166 : Value).ownBlock) (Kd.R_N (Kd.R_bound ho0)) (fun k_ hk_ => (Kd.fresh' (Kd.N_lt (by (with_reducible repeat (first | apply Kd.N_alloc | apply Kd.N_drewN | apply Kd.N_drew)); exact HO167.out)) k_ hk_.2.1))) (below_size (by repeat (first | (with_reducible first | exact HB.out | apply below_alloc | apply pw_below_drewN | apply below_drew1) | exact HB.out)))); have n2_ := Aside0.mk (below_step (by repeat (first | (with_reducible first | exact HB.out | apply below_alloc | apply pw_below_drewN | apply below_drew1) | exact HB.out)) hb); clear HO167; clear HB; have HO167 := n0_; have HO172 := n1_; have HB := n2_; clear n0_ n1_ n2_; (try clear hb); (try clear hb2); (try clear hk); (try clear hi); (try clear ho0)) | ((with_reducible refine gate_callee (f := 23) rfl ?_); refine goesL_ (some 64) rfl rfl Tryd.func23 (by kernel_rfl) rfl #[.string t161] rfl (by (try simp only [List.map_toArray, List.map_cons, List.map_nil]); first | done | rfl | (simp only [List.length_drop, List.length_take]; rfl)) ?_; (with_reducible refine (trace_Parse.calls t161 t173 t174 t175 _ A28.out (globt_below HGLOT.out (by repeat (first | (with_reducible first | exact HB.out | apply below_alloc | apply pw_below_drewN | apply below_drew1) | exact HB.out)))).mono ?_); rintro e w32 ⟨v176, rfl, ho0, hb⟩; refine ⟨_, rfl, ?_⟩; have n0_ := Aside0.mk (Kd.N_elder' (by (with_reducible repeat (first | apply Kd.N_alloc | apply Kd.N_drewN | apply Kd.N_drew)); exact HO167.out) (Kd.N_base (Kd.R_N ho0)) hb); have n1_ := Aside0.mk (Kd.N_elder' (by (with_reducible repeat (first | apply Kd.N_alloc | apply Kd.N_drewN | apply Kd.N_drew)); exact HO172.out) (Kd.N_base (Kd.R_N ho0)) hb); have n2_ := Aside0.mk (Kd.N_lower (Kd.N_mono (ok' := fun k_ => some k_ ≠ (v166 : Value).ownBlock ∧ some k_ ≠ (v171 : Value).ownBlock) (Kd.R_N (Kd.R_bound ho0)) (fun k_ hk_ => ⟨(Kd.fresh' (Kd.N_lt (by (with_reducible repeat (first | apply Kd.N_alloc | apply Kd.N_drewN | apply Kd.N_drew)); exact HO167.out)) k_ hk_.2.1), (Kd.fresh' (Kd.N_lt (by (with_reducible repeat (first | apply Kd.N_alloc | apply Kd.N_drewN | apply Kd.N_drew)); exact HO172.out)) k_ hk_.2.1)⟩)) (below_size (by repeat (first | (with_reducible first | exact HB.out | apply below_alloc | apply pw_below_drewN | apply below_drew1) | exact HB.out)))); have n3_ := Aside0.mk (below_step (by repeat (first | (with_reducible first | exact HB.out | apply below_alloc | apply pw_below_drewN | apply below_drew1) | exact HB.out)) hb); clear HO167; clear HO172; clear HB; have HO167 := n0_; have HO172 := n1_; have HO177 := n2_; have HB := n3_; clear n0_ n1_ n2_ n3_; (try clear hb); (try clear hb2); (try clear hk); (try clear hi); (try clear ho0)))
                (try simp only [Act.put, List.setIfInBounds_toArray, List.set_cons_zero, List.set_cons_succ])
                go_cut [75] (fun v75 wc => ∃ (kq : Nat) (x75_28 : Bool), v75 = .bool x75_28 ∧ Aside0 (lamplighterlaw19_TraceJoins.j2 kq t159 t163 t164 t165 t168 t169 t173 t174 x75_28 = some r) ∧ Aside0 (kq ≤ kj19) ∧ Aside0 (Kd.N k42 42 wc w.heap.size (fun k_ => some k_ ≠ (v171 : Value).ownBlock ∧ some k_ ≠ (v176 : Value).ownBlock) v166 t163) ∧ Aside0 (Kd.N k42 42 wc w.heap.size (fun k_ => some k_ ≠ (v166 : Value).ownBlock ∧ some k_ ≠ (v176 : Value).ownBlock) v171 t168) ∧ Aside0 (Kd.N k42 42 wc w.heap.size (fun k_ => some k_ ≠ (v166 : Value).ownBlock ∧ some k_ ≠ (v171 : Value).ownBlock) v176 t173) ∧ Aside0 (Below w.heap.size w wc))
                case first =>
                  have H := HC29.out
                  clear HC29
                  by_cases c33 : t165 = t170
                  · rw [if_pos c33] at H
                    have c33b0 : (t165 == t170) = true := beq_iff_eq.mpr c33
                    have c33b1 : (t165 != t170) = false := bne_eq_false_iff_eq.mpr c33
                    clear c33
                    (first | rw [c33b0] | (simp only [i64_w, i32_w]; rw [c33b0]) | skip)
                    have H' := Aside0.mk H
                    clear H
                    go_wp2
                    go_meet
                    case rel => exact ⟨_, ((t165 != t175)), (by first | rfl | (simp; done) | (simp [*]; done)), H', ⟨by have := HJ2.out; have := HJ19.out; first | omega | exact Nat.le_refl _⟩, ⟨by (with_reducible repeat (first | apply Kd.N_alloc | apply Kd.N_drewN | apply Kd.N_drew)); exact Kd.N_mono HO167.out (fun _ hk => ⟨hk.1.2, hk.2⟩)⟩, ⟨by (with_reducible repeat (first | apply Kd.N_alloc | apply Kd.N_drewN | apply Kd.N_drew)); exact HO172.out⟩, ⟨by (with_reducible repeat (first | apply Kd.N_alloc | apply Kd.N_drewN | apply Kd.N_drew)); exact HO177.out⟩, ⟨by repeat (first | (with_reducible first | exact HB.out | apply below_alloc | apply pw_below_drewN | apply below_drew1) | exact HB.out)⟩⟩
                  · rw [if_neg c33] at H
                    have c33b0 : (t165 == t170) = false := beq_eq_false_iff_ne.mpr c33
                    have c33b1 : (t165 != t170) = true := bne_iff_ne.mpr c33
                    (first | rw [c33b0] | (simp only [i64_w, i32_w]; rw [c33b0]) | skip)
                    have H' := Aside0.mk H
                    clear H
                    go_wp2
                    go_meet
                    case rel => exact ⟨_, (true), (by first | rfl | (simp; done) | (simp [*]; done)), H', ⟨by have := HJ2.out; have := HJ19.out; first | omega | exact Nat.le_refl _⟩, ⟨by (with_reducible repeat (first | apply Kd.N_alloc | apply Kd.N_drewN | apply Kd.N_drew)); exact Kd.N_mono HO167.out (fun _ hk => ⟨hk.1.2, hk.2⟩)⟩, ⟨by (with_reducible repeat (first | apply Kd.N_alloc | apply Kd.N_drewN | apply Kd.N_drew)); exact HO172.out⟩, ⟨by (with_reducible repeat (first | apply Kd.N_alloc | apply Kd.N_drewN | apply Kd.N_drew)); exact HO177.out⟩, ⟨by repeat (first | (with_reducible first | exact HB.out | apply below_alloc | apply pw_below_drewN | apply below_drew1) | exact HB.out)⟩⟩
                case rest =>
                  clear HC29
                  try clear c1
                  try clear c2
                  try clear p2
                  try clear c3
                  try clear c5
                  try clear c7
                  try clear c8
                  try clear c10
                  try clear c15
                  try clear c21
                  try clear c23
                  try clear c23b0
                  try clear c23b1
                  try clear c24
                  try clear c25
                  try clear c25b0
                  try clear c25b1
                  try clear c25b2
                  try clear c33
                  try clear c33b0
                  try clear c33b1
                  try clear p2
                  obtain ⟨kq, x75_28, rfl, HA, HJ28, HO_9, HO_12, HO_15, HB⟩ := hcut
                  cases kq with
                  | zero => exact absurd HA.out (by simp [lamplighterlaw19_TraceJoins.j2])
                  | succ kj28 =>
                    have H := HA.out
                    clear HA
                    simp only [lamplighterlaw19_TraceJoins.j2] at H
                    by_cases c34 : x75_28 = true
                    · subst c34
                      have H1 : (some (t165 != 0)) = some r := by rw [if_pos rfl] at H; exact H
                      clear H
                      have H := H1
                      clear H1
                      obtain rfl := Option.some.inj H
                      clear hrt
                      go_wp2
                      go_ret
                      exact ⟨by first | rfl | (simp [errW_none, errW_some] <;> rfl) | (simp [*, errW_none, errW_some] <;> rfl), by repeat (first | (with_reducible first | exact HB.out | apply below_alloc | apply pw_below_drewN | apply below_drew1) | exact HB.out)⟩
                    · replace c34 := Bool.eq_false_iff.mpr c34
                      subst c34
                      have H1 : (if t165 = 0 then (if (t159.size : Int) > 0 then (if 0 ≤ (wrap64 ((t159.size : Int) - 1)) then (if (wrap64 ((t159.size : Int) - 1)) ≤ (t159.size : Int) then ((trace_Parse.f (t159.extract 0 ((wrap64 ((t159.size : Int) - 1)) : Int).toNat)).bind fun bt178 => (if bt178.2.2 = 10 then (if bt178.2.1 = (wrap64 (t169 - 1)) then (if t164 = (wrap64 (t169 + t174)) then ((some (([] : List (S42)) : List (S42))).bind fun y183 => (if y183.length + t168.length < 1759218604441 then ((some (y183 ++ t168 : List (S42))).bind fun y186 => (if y186.length + t173.length < 1759218604441 then ((lamplighterref19_Same.f t163 (y186 ++ t173)).bind fun t192 => (some t192)) else (none))) else (none))) else (some false)) else (some false)) else (some false))) else (none)) else (none)) else (if t164 = (wrap64 (t169 + t174)) then ((some (([] : List (S42)) : List (S42))).bind fun y193 => (if y193.length + t168.length < 1759218604441 then ((some (y193 ++ t168 : List (S42))).bind fun y196 => (if y196.length + t173.length < 1759218604441 then ((lamplighterref19_Same.f t163 (y196 ++ t173)).bind fun t202 => (some t202)) else (none))) else (none))) else (some false))) else (some true)) = some r := by rw [if_neg (show ¬ (false = true) by decide)] at H; exact H
                      clear H
                      have H := H1
                      clear H1
                      by_cases c35 : t165 = 0
                      · rw [if_pos c35] at H
                        have c35b0 : (t165 == 0) = true := beq_iff_eq.mpr c35
                        have c35b1 : (t165 != 0) = false := bne_eq_false_iff_eq.mpr c35
                        clear c35
                        by_cases c36 : (t159.size : Int) > 0
                        · rw [if_pos c36] at H
                          have c36b0 : decide (0 < (t159.size : Int)) = true := decide_eq_true c36
                          have c36b1 : decide (0 < t159.size) = true := decide_eq_true (by omega)
                          clear c36
                          obtain ⟨ji37, hji37⟩ : ∃ j_ : Int, (wrap64 ((t159.size : Int) - 1)) = j_ := ⟨_, rfl⟩
                          replace H : (if 0 ≤ (ji37) then (if (ji37) ≤ (t159.size : Int) then ((trace_Parse.f (t159.extract 0 ((ji37) : Int).toNat)).bind fun bt178 => (if bt178.2.2 = 10 then (if bt178.2.1 = (wrap64 (t169 - 1)) then (if t164 = (wrap64 (t169 + t174)) then ((some (([] : List (S42)) : List (S42))).bind fun y183 => (if y183.length + t168.length < 1759218604441 then ((some (y183 ++ t168 : List (S42))).bind fun y186 => (if y186.length + t173.length < 1759218604441 then ((lamplighterref19_Same.f t163 (y186 ++ t173)).bind fun t192 => (some t192)) else (none))) else (none))) else (some false)) else (some false)) else (some false))) else (none)) else (none)) = some r := by first | (rw [hji37] at H; exact H) | (simp only [hji37] at H ⊢; exact H)
                          have hji37w : (IntKind.i64.wrap ((t159.size : Int) - 1)) = ji37 := (i64_w _).trans hji37
                          by_cases c38 : 0 ≤ (ji37)
                          · rw [if_pos c38] at H
                            have c38b0 := eq_true c38
                            have c38b1 : decide (0 ≤ (ji37)) = true := decide_eq_true c38
                            clear c38
                            by_cases c39 : (ji37) ≤ (t159.size : Int)
                            · rw [if_pos c39] at H
                              have c39b0 := eq_true c39
                              have c39b1 : decide ((ji37) ≤ (t159.size : Int)) = true := decide_eq_true c39
                              clear c39
                              replace H := Option.bind_eq_some_iff.mp H
                              obtain ⟨⟨t178, t179, t180⟩, A400, H⟩ := H
                              replace H : (if t180 = 10 then (if t179 = (wrap64 (t169 - 1)) then (if t164 = (wrap64 (t169 + t174)) then ((some (([] : List (S42)) : List (S42))).bind fun y183 => (if y183.length + t168.length < 1759218604441 then ((some (y183 ++ t168 : List (S42))).bind fun y186 => (if y186.length + t173.length < 1759218604441 then ((lamplighterref19_Same.f t163 (y186 ++ t173)).bind fun t192 => (some t192)) else (none))) else (none))) else (some false)) else (some false)) else (some false)) = some r := H
                              have A40 := Aside0.mk A400
                              clear A400
                              by_cases c41 : t180 = 10
                              · rw [if_pos c41] at H
                                have c41b0 : (t180 == 10) = true := beq_iff_eq.mpr c41
                                have c41b1 : (t180 != 10) = false := bne_eq_false_iff_eq.mpr c41
                                clear c41
                                by_cases c42 : t179 = (wrap64 (t169 - 1))
                                · rw [if_pos c42] at H
                                  have c42b0 : (t179 == (wrap64 (t169 - 1))) = true := beq_iff_eq.mpr c42
                                  have c42b1 : (t179 != (wrap64 (t169 - 1))) = false := bne_eq_false_iff_eq.mpr c42
                                  clear c42
                                  by_cases c43 : t164 = (wrap64 (t169 + t174))
                                  · rw [if_pos c43] at H
                                    have c43b0 : (t164 == (wrap64 (t169 + t174))) = true := beq_iff_eq.mpr c43
                                    have c43b1 : (t164 != (wrap64 (t169 + t174))) = false := bne_eq_false_iff_eq.mpr c43
                                    clear c43
                                    obtain ⟨y183, hy183⟩ : ∃ y_ : List (S42), y_ = (([] : List (S42))) := ⟨_, rfl⟩
                                    replace H : (if y183.length + t168.length < 1759218604441 then ((some (y183 ++ t168 : List (S42))).bind fun y186 => (if y186.length + t173.length < 1759218604441 then ((lamplighterref19_Same.f t163 (y186 ++ t173)).bind fun t192 => (some t192)) else (none))) else (none)) = some r := by first | (rw [hy183]; with_reducible exact H) | (have H2_ := (Option.bind_some _ _).symm.trans H; rw [hy183]; with_reducible exact H2_) | (have H2_ := (Option.bind_some _ _).symm.trans H; with_reducible exact H2_) | with_reducible exact H | (rw [hy183]; exact H) | exact H
                                    have Ny183 := Aside0.mk hy183
                                    clear hy183
                                    by_cases c44 : y183.length + t168.length < 1759218604441
                                    · rw [if_pos c44] at H
                                      have LMc44 := Aside0.mk c44
                                      clear c44
                                      obtain ⟨y186, hy186⟩ : ∃ y_ : List (S42), y_ = (y183 ++ t168) := ⟨_, rfl⟩
                                      replace H : (if y186.length + t173.length < 1759218604441 then ((lamplighterref19_Same.f t163 (y186 ++ t173)).bind fun t192 => (some t192)) else (none)) = some r := by first | (rw [hy186]; with_reducible exact H) | (have H2_ := (Option.bind_some _ _).symm.trans H; rw [hy186]; with_reducible exact H2_) | (have H2_ := (Option.bind_some _ _).symm.trans H; with_reducible exact H2_) | with_reducible exact H | (rw [hy186]; exact H) | exact H
                                      have Ny186 := Aside0.mk hy186
                                      clear hy186
                                      by_cases c45 : y186.length + t173.length < 1759218604441
                                      · rw [if_pos c45] at H
                                        have LMc45 := Aside0.mk c45
                                        clear c45
                                        obtain ⟨y189, hy189⟩ : ∃ y_ : List (S42), y_ = (y186 ++ t173) := ⟨_, rfl⟩
                                        replace H : ((lamplighterref19_Same.f t163 y189).bind fun t192 => (some t192)) = some r := by first | (rw [hy189]; with_reducible exact H) | (have H2_ := (Option.bind_some _ _).symm.trans H; rw [hy189]; with_reducible exact H2_) | (have H2_ := (Option.bind_some _ _).symm.trans H; with_reducible exact H2_) | with_reducible exact H | (rw [hy189]; exact H) | exact H
                                        have Ny189 := Aside0.mk hy189
                                        clear hy189
                                        replace H := Option.bind_eq_some_iff.mp H
                                        obtain ⟨t192, A460, H⟩ := H
                                        replace H : (some t192) = some r := H
                                        have A46 := Aside0.mk A460
                                        clear A460
                                        obtain rfl := Option.some.inj H
                                        clear hrt
                                        go_wp2_with (first | ((with_reducible refine gate_callee (f := 23) rfl ?_); refine goesL_ (some 89) rfl rfl Tryd.func23 (by kernel_rfl) rfl #[.string (t159.extract 0 ((ji37) : Int).toNat)] rfl (by (try simp only [List.map_toArray, List.map_cons, List.map_nil]); first | done | (simp only [hji37]; rfl) | rfl | (simp only [List.length_drop, List.length_take]; rfl)) ?_; (with_reducible refine (trace_Parse.calls (t159.extract 0 ((ji37) : Int).toNat) t178 t179 t180 _ A40.out (globt_below HGLOT.out (by repeat (first | (with_reducible first | exact HB.out | apply below_alloc | apply pw_below_drewN | apply below_drew1) | exact HB.out)))).mono ?_); rintro e w47 ⟨v181, rfl, ho0, hb⟩; refine ⟨_, rfl, ?_⟩; have n0_ := Aside0.mk (Kd.N_elder' (by (with_reducible repeat (first | apply Kd.N_alloc | apply Kd.N_drewN | apply Kd.N_drew)); exact HO_9.out) (Kd.N_base (Kd.R_N ho0)) hb); have n1_ := Aside0.mk (Kd.N_elder' (by (with_reducible repeat (first | apply Kd.N_alloc | apply Kd.N_drewN | apply Kd.N_drew)); exact HO_12.out) (Kd.N_base (Kd.R_N ho0)) hb); have n2_ := Aside0.mk (Kd.N_elder' (by (with_reducible repeat (first | apply Kd.N_alloc | apply Kd.N_drewN | apply Kd.N_drew)); exact HO_15.out) (Kd.N_base (Kd.R_N ho0)) hb); have n3_ := Aside0.mk (Kd.N_lower (Kd.N_mono (ok' := fun k_ => some k_ ≠ (v166 : Value).ownBlock ∧ some k_ ≠ (v171 : Value).ownBlock ∧ some k_ ≠ (v176 : Value).ownBlock) (Kd.R_N (Kd.R_bound ho0)) (fun k_ hk_ => ⟨(Kd.fresh' (Kd.N_lt (by (with_reducible repeat (first | apply Kd.N_alloc | apply Kd.N_drewN | apply Kd.N_drew)); exact HO_9.out)) k_ hk_.2.1), (Kd.fresh' (Kd.N_lt (by (with_reducible repeat (first | apply Kd.N_alloc | apply Kd.N_drewN | apply Kd.N_drew)); exact HO_12.out)) k_ hk_.2.1), (Kd.fresh' (Kd.N_lt (by (with_reducible repeat (first | apply Kd.N_alloc | apply Kd.N_drewN | apply Kd.N_drew)); exact HO_15.out)) k_ hk_.2.1)⟩)) (below_size (by repeat (first | (with_reducible first | exact HB.out | apply below_alloc | apply pw_below_drewN | apply below_drew1) | exact HB.out)))); have n4_ := Aside0.mk (below_step (by repeat (first | (with_reducible first | exact HB.out | apply below_alloc | apply pw_below_drewN | apply below_drew1) | exact HB.out)) hb); clear HO_9; clear HO_12; clear HO_15; clear HB; have HO_9 := n0_; have HO_12 := n1_; have HO_15 := n2_; have HO182 := n3_; have HB := n4_; clear n0_ n1_ n2_ n3_ n4_; (try clear hb); (try clear hb2); (try clear hk); (try clear hi); (try clear ho0)) | ((with_reducible refine gate_dst (N := 108) rfl ?_); (try (refine gate_guard (by rfl) ?_; dsimp only)); refine Kd.N_lit k42 _ 42 ?hg (N' := 108) ?hd (xs := ([] : List (S42))) (inner := []) (ok := (fun k_ => some k_ ≠ (v166 : Value).ownBlock ∧ some k_ ≠ (v171 : Value).ownBlock ∧ some k_ ≠ (v176 : Value).ownBlock ∧ some k_ ≠ (v181 : Value).ownBlock)) (okp := (fun k_ => some k_ ≠ (v166 : Value).ownBlock ∧ some k_ ≠ (v171 : Value).ownBlock ∧ some k_ ≠ (v176 : Value).ownBlock ∧ some k_ ≠ (v181 : Value).ownBlock)) ?hr ?hp (fun _ hk => hk) ((show ∀ k_, w47.heap.size ≤ k_ → (fun k_ => some k_ ≠ (v166 : Value).ownBlock ∧ some k_ ≠ (v171 : Value).ownBlock ∧ some k_ ≠ (v176 : Value).ownBlock ∧ some k_ ≠ (v181 : Value).ownBlock) k_ from fun k_ hk => ⟨Kd.fresh' (Kd.N_lt (by (with_reducible repeat (first | apply Kd.N_alloc | apply Kd.N_drewN | apply Kd.N_drew)); exact HO_9.out)) k_ hk, Kd.fresh' (Kd.N_lt (by (with_reducible repeat (first | apply Kd.N_alloc | apply Kd.N_drewN | apply Kd.N_drew)); exact HO_12.out)) k_ hk, Kd.fresh' (Kd.N_lt (by (with_reducible repeat (first | apply Kd.N_alloc | apply Kd.N_drewN | apply Kd.N_drew)); exact HO_15.out)) k_ hk, Kd.fresh' (Kd.N_lt (by (with_reducible repeat (first | apply Kd.N_alloc | apply Kd.N_drewN | apply Kd.N_drew)); exact HO182.out)) k_ hk⟩) _ (Nat.le_refl _)) (Below.refl _ _) (Nat.le_refl _) (by simp) ?_; (case hd => rfl); (case hg => rfl); (case hr => first | (go_simp; done) | (go_simp; rfl)); (case hp => exact (Reps.none _ _)); intro v184 w48 ho49 hb hg_ hnew_; clear hg_ hnew_; (first | rw [← Ny183.out] at ho49 | (simp only [Int.reduceToNat] at ho49; rw [← Ny183.out] at ho49)); have n0_ := Aside0.mk (Kd.N_elder' (by (with_reducible repeat (first | apply Kd.N_alloc | apply Kd.N_drewN | apply Kd.N_drew)); exact HO_9.out) (Kd.N_base ho49) hb); have n1_ := Aside0.mk (Kd.N_elder' (by (with_reducible repeat (first | apply Kd.N_alloc | apply Kd.N_drewN | apply Kd.N_drew)); exact HO_12.out) (Kd.N_base ho49) hb); have n2_ := Aside0.mk (Kd.N_elder' (by (with_reducible repeat (first | apply Kd.N_alloc | apply Kd.N_drewN | apply Kd.N_drew)); exact HO_15.out) (Kd.N_base ho49) hb); have n3_ := Aside0.mk (Kd.N_elder' (by (with_reducible repeat (first | apply Kd.N_alloc | apply Kd.N_drewN | apply Kd.N_drew)); exact HO182.out) (Kd.N_base ho49) hb); have n4_ := Aside0.mk (Kd.N_lower ho49 (below_size (by repeat (first | (with_reducible first | exact HB.out | apply below_alloc | apply pw_below_drewN | apply below_drew1) | exact HB.out)))); have n5_ := Aside0.mk (below_step (by repeat (first | (with_reducible first | exact HB.out | apply below_alloc | apply pw_below_drewN | apply below_drew1) | exact HB.out)) hb); clear HO_9; clear HO_12; clear HO_15; clear HO182; clear HB; have HO_9 := n0_; have HO_12 := n1_; have HO_15 := n2_; have HO182 := n3_; have HO185 := n4_; have HB := n5_; clear n0_ n1_ n2_ n3_ n4_ n5_; clear hb ho49; obtain ⟨Ao51, co51, eo51⟩ := Kd.N_slice HO_12.out; subst eo51) | ((with_reducible refine gate_builtin (b := .append) (xs := #[.tmp 108, .tmp 109]) rfl ?_); (try (refine gate_guard (by rfl) ?_; dsimp only)); at_builtin; refine Kd.N_append_rows k42 (w0 := w) w.heap.size rfl (.tmp 108) (.tmp 109) 43 42 (.agg #[(.int .i64 0), (.int .i64 0), (.int .i64 0), (.slice none 0 0), (.slice none 0 0), (.bool false)]) 80 rfl Tryd.underlying43 info42 rfl (by decide) (by omega) v184 y183 t168 _ _ _ (fun k_ => some k_ ≠ (v166 : Value).ownBlock ∧ some k_ ≠ (v176 : Value).ownBlock ∧ some k_ ≠ (v181 : Value).ownBlock) (fun k_ => ((fun k_ => some k_ ≠ (v166 : Value).ownBlock ∧ some k_ ≠ (v176 : Value).ownBlock ∧ some k_ ≠ (v181 : Value).ownBlock)) k_ ∧ some k_ ≠ (v184 : Value).ownBlock) rfl rfl ?aO ?aR (fun _ hk => hk) ?aF ?aB ?aS ?aL ?_; (case aR => exact (by skip; exact Kd.N_F (Kd.N_mono (ok' := (fun k_ => ((fun k_ => some k_ ≠ (v166 : Value).ownBlock ∧ some k_ ≠ (v176 : Value).ownBlock ∧ some k_ ≠ (v181 : Value).ownBlock)) k_ ∧ some k_ ≠ (v184 : Value).ownBlock)) (HO_12.out) (fun k_ hk => ⟨⟨hk.1.1.1, ⟨hk.1.1.2, hk.1.2⟩⟩, hk.2⟩)))); (case aB => exact (by repeat (first | (with_reducible first | exact HB.out | apply below_alloc | apply pw_below_drewN | apply below_drew1) | exact HB.out))); (case aF => exact (fun k_ hk => ⟨Kd.fresh' (Kd.N_lt (by (with_reducible repeat (first | apply Kd.N_alloc | apply Kd.N_drewN | apply Kd.N_drew)); exact HO_9.out)) k_ hk, Kd.fresh' (Kd.N_lt (by (with_reducible repeat (first | apply Kd.N_alloc | apply Kd.N_drewN | apply Kd.N_drew)); exact HO_15.out)) k_ hk, Kd.fresh' (Kd.N_lt (by (with_reducible repeat (first | apply Kd.N_alloc | apply Kd.N_drewN | apply Kd.N_drew)); exact HO182.out)) k_ hk⟩)); (case aO => exact (by (with_reducible repeat (first | apply Kd.N_alloc | apply Kd.N_drewN | apply Kd.N_drew)); exact Kd.N_mono HO185.out (fun _ hk => ⟨hk.1, ⟨hk.2.2.1, hk.2.2.2⟩⟩))); (case aS => exact (below_size (by repeat (first | (with_reducible first | exact HB.out | apply below_alloc | apply pw_below_drewN | apply below_drew1) | exact HB.out)))); (case aL => have := LMc44.out; omega); intro v187 w50 ho hb hg hat; rw [← Ny186.out] at ho; have n0_ := Aside0.mk (Kd.N_afterv (ok := (fun k_ => some k_ ≠ (.slice Ao51 t168.length co51 : Value).ownBlock ∧ some k_ ≠ (v176 : Value).ownBlock ∧ some k_ ≠ (v181 : Value).ownBlock)) (by (with_reducible repeat (first | apply Kd.N_alloc | apply Kd.N_drewN | apply Kd.N_drew)); exact Kd.N_mono HO_9.out (fun _ hk => ⟨⟨hk.1.1.1, ⟨hk.1.1.2, hk.1.2⟩⟩, hk.2⟩)) hg hat); have n1_ := Aside0.mk (Kd.N_afterv (ok := (fun k_ => some k_ ≠ (v166 : Value).ownBlock ∧ some k_ ≠ (v176 : Value).ownBlock ∧ some k_ ≠ (v181 : Value).ownBlock)) (by (with_reducible repeat (first | apply Kd.N_alloc | apply Kd.N_drewN | apply Kd.N_drew)); exact Kd.N_mono HO_12.out (fun _ hk => ⟨⟨hk.1.1.1, ⟨hk.1.1.2, hk.1.2⟩⟩, hk.2⟩)) hg hat); have n2_ := Aside0.mk (Kd.N_afterv (ok := (fun k_ => some k_ ≠ (v166 : Value).ownBlock ∧ some k_ ≠ (.slice Ao51 t168.length co51 : Value).ownBlock ∧ some k_ ≠ (v181 : Value).ownBlock)) (by (with_reducible repeat (first | apply Kd.N_alloc | apply Kd.N_drewN | apply Kd.N_drew)); exact Kd.N_mono HO_15.out (fun _ hk => ⟨⟨hk.1.1.1, ⟨hk.1.1.2, hk.1.2⟩⟩, hk.2⟩)) hg hat); have n3_ := Aside0.mk (Kd.N_afterv (ok := (fun k_ => some k_ ≠ (v166 : Value).ownBlock ∧ some k_ ≠ (.slice Ao51 t168.length co51 : Value).ownBlock ∧ some k_ ≠ (v176 : Value).ownBlock)) (by (with_reducible repeat (first | apply Kd.N_alloc | apply Kd.N_drewN | apply Kd.N_drew)); exact HO182.out) hg hat); have n4_ := Aside0.mk (hb); have n5_ := Aside0.mk (ho); clear HO_9; clear HO_12; clear HO_15; clear HO182; clear HB; clear HO185; have HO_9 := n0_; have HO_12 := n1_; have HO_15 := n2_; have HO182 := n3_; have HB := n4_; have HO188 := n5_; clear n0_ n1_ n2_ n3_ n4_ n5_; clear ho hb hg hat; obtain ⟨Ao53, co53, eo53⟩ := Kd.N_slice HO_15.out; subst eo53) | ((with_reducible refine gate_builtin (b := .append) (xs := #[.tmp 110, .tmp 111]) rfl ?_); (try (refine gate_guard (by rfl) ?_; dsimp only)); at_builtin; refine Kd.N_append_rows k42 (w0 := w) w.heap.size rfl (.tmp 110) (.tmp 111) 43 42 (.agg #[(.int .i64 0), (.int .i64 0), (.int .i64 0), (.slice none 0 0), (.slice none 0 0), (.bool false)]) 80 rfl Tryd.underlying43 info42 rfl (by decide) (by omega) v187 y186 t173 _ _ _ (fun k_ => some k_ ≠ (v166 : Value).ownBlock ∧ some k_ ≠ (v181 : Value).ownBlock) (fun k_ => ((fun k_ => some k_ ≠ (v166 : Value).ownBlock ∧ some k_ ≠ (v181 : Value).ownBlock)) k_ ∧ some k_ ≠ (v187 : Value).ownBlock) rfl rfl ?aO ?aR (fun _ hk => hk) ?aF ?aB ?aS ?aL ?_; (case aR => exact (by skip; exact Kd.N_F (Kd.N_mono (ok' := (fun k_ => ((fun k_ => some k_ ≠ (v166 : Value).ownBlock ∧ some k_ ≠ (v181 : Value).ownBlock)) k_ ∧ some k_ ≠ (v187 : Value).ownBlock)) (HO_15.out) (fun k_ hk => ⟨⟨hk.1.1, hk.1.2.2⟩, hk.2⟩)))); (case aB => exact (by repeat (first | (with_reducible first | exact HB.out | apply below_alloc | apply pw_below_drewN | apply below_drew1) | exact HB.out))); (case aF => exact (fun k_ hk => ⟨Kd.fresh' (Kd.N_lt (by (with_reducible repeat (first | apply Kd.N_alloc | apply Kd.N_drewN | apply Kd.N_drew)); exact HO_9.out)) k_ hk, Kd.fresh' (Kd.N_lt (by (with_reducible repeat (first | apply Kd.N_alloc | apply Kd.N_drewN | apply Kd.N_drew)); exact HO182.out)) k_ hk⟩)); (case aO => exact (by (with_reducible repeat (first | apply Kd.N_alloc | apply Kd.N_drewN | apply Kd.N_drew)); exact Kd.N_mono HO188.out (fun _ hk => ⟨hk.1, hk.2.2⟩))); (case aS => exact (below_size (by repeat (first | (with_reducible first | exact HB.out | apply below_alloc | apply pw_below_drewN | apply below_drew1) | exact HB.out)))); (case aL => have := LMc45.out; omega); intro v190 w52 ho hb hg hat; rw [← Ny189.out] at ho; have n0_ := Aside0.mk (Kd.N_afterv (ok := (fun k_ => some k_ ≠ (.slice Ao51 t168.length co51 : Value).ownBlock ∧ some k_ ≠ (.slice Ao53 t173.length co53 : Value).ownBlock ∧ some k_ ≠ (v181 : Value).ownBlock)) (by (with_reducible repeat (first | apply Kd.N_alloc | apply Kd.N_drewN | apply Kd.N_drew)); exact HO_9.out) hg hat); have n1_ := Aside0.mk (Kd.N_afterv (ok := (fun k_ => some k_ ≠ (v166 : Value).ownBlock ∧ some k_ ≠ (.slice Ao53 t173.length co53 : Value).ownBlock ∧ some k_ ≠ (v181 : Value).ownBlock)) (by (with_reducible repeat (first | apply Kd.N_alloc | apply Kd.N_drewN | apply Kd.N_drew)); exact HO_12.out) hg hat); have n2_ := Aside0.mk (Kd.N_afterv (ok := (fun k_ => some k_ ≠ (v166 : Value).ownBlock ∧ some k_ ≠ (.slice Ao51 t168.length co51 : Value).ownBlock ∧ some k_ ≠ (v181 : Value).ownBlock)) (by (with_reducible repeat (first | apply Kd.N_alloc | apply Kd.N_drewN | apply Kd.N_drew)); exact HO_15.out) hg hat); have n3_ := Aside0.mk (Kd.N_afterv (ok := (fun k_ => some k_ ≠ (v166 : Value).ownBlock ∧ some k_ ≠ (.slice Ao51 t168.length co51 : Value).ownBlock ∧ some k_ ≠ (.slice Ao53 t173.length co53 : Value).ownBlock)) (by (with_reducible repeat (first | apply Kd.N_alloc | apply Kd.N_drewN | apply Kd.N_drew)); exact HO182.out) hg hat); have n4_ := Aside0.mk (hb); have n5_ := Aside0.mk (ho); clear HO_9; clear HO_12; clear HO_15; clear HO182; clear HB; clear HO188; have HO_9 := n0_; have HO_12 := n1_; have HO_15 := n2_; have HO182 := n3_; have HB := n4_; have HO191 := n5_; clear n0_ n1_ n2_ n3_ n4_ n5_; clear ho hb hg hat; obtain ⟨Ao54, co54, eo54⟩ := Kd.N_slice HO_9.out; subst eo54; obtain ⟨Ao55, co55, eo55⟩ := Kd.N_slice HO191.out; subst eo55) | (go_at_call 19; (with_reducible refine (lamplighterref19_Same.calls _ _ t163 _ _ y189 t192 _ ?side1 ?side2 ?side3 ?side4 A46.out).mono ?_); (case side1 => repeat (first | exact (Kd.N_reads' HO_9.out).2.2 | (with_reducible refine Kd.C_alloc ?_ _) | (with_reducible refine Kd.C_drewN ?_ _) | (with_reducible refine Kd.C_drew ?_))); (case side2 => exact (Kd.N_reads' HO_9.out).2.1); (case side3 => repeat (first | exact (Kd.N_reads' HO191.out).2.2 | (with_reducible refine Kd.C_alloc ?_ _) | (with_reducible refine Kd.C_drewN ?_ _) | (with_reducible refine Kd.C_drew ?_))); (case side4 => exact (Kd.N_reads' HO191.out).2.1); rintro e w56 ⟨rfl, hb⟩; have n0_ := Aside0.mk (Kd.N_below (by (with_reducible repeat (first | apply Kd.N_alloc | apply Kd.N_drewN | apply Kd.N_drew)); exact HO_9.out) hb); have n1_ := Aside0.mk (Kd.N_below (by (with_reducible repeat (first | apply Kd.N_alloc | apply Kd.N_drewN | apply Kd.N_drew)); exact HO_12.out) hb); have n2_ := Aside0.mk (Kd.N_below (by (with_reducible repeat (first | apply Kd.N_alloc | apply Kd.N_drewN | apply Kd.N_drew)); exact HO_15.out) hb); have n3_ := Aside0.mk (Kd.N_below (by (with_reducible repeat (first | apply Kd.N_alloc | apply Kd.N_drewN | apply Kd.N_drew)); exact HO182.out) hb); have n4_ := Aside0.mk (Kd.N_below (by (with_reducible repeat (first | apply Kd.N_alloc | apply Kd.N_drewN | apply Kd.N_drew)); exact HO191.out) hb); have n5_ := Aside0.mk (below_step (by repeat (first | (with_reducible first | exact HB.out | apply below_alloc | apply pw_below_drewN | apply below_drew1) | exact HB.out)) hb); clear HO_9; clear HO_12; clear HO_15; clear HO182; clear HO191; clear HB; have HO_9 := n0_; have HO_12 := n1_; have HO_15 := n2_; have HO182 := n3_; have HO191 := n4_; have HB := n5_; clear n0_ n1_ n2_ n3_ n4_ n5_; (try clear hb); (try clear hb2); (try clear hk); (try clear hi)))
                                        go_ret
                                        exact ⟨by first | rfl | (simp [errW_none, errW_some] <;> rfl) | (simp only [← hji37]; first | rfl | (simp [errW_none, errW_some] <;> rfl)) | (simp [*, errW_none, errW_some] <;> rfl), by repeat (first | (with_reducible first | exact HB.out | apply below_alloc | apply pw_below_drewN | apply below_drew1) | exact HB.out)⟩
                                      · rw [if_neg c45] at H
                                        exact absurd H (by simp)
                                    · rw [if_neg c44] at H
                                      exact absurd H (by simp)
                                  · rw [if_neg c43] at H
                                    have c43b0 : (t164 == (wrap64 (t169 + t174))) = false := beq_eq_false_iff_ne.mpr c43
                                    have c43b1 : (t164 != (wrap64 (t169 + t174))) = true := bne_iff_ne.mpr c43
                                    obtain rfl := Option.some.inj H
                                    cases hrt
                                · rw [if_neg c42] at H
                                  have c42b0 : (t179 == (wrap64 (t169 - 1))) = false := beq_eq_false_iff_ne.mpr c42
                                  have c42b1 : (t179 != (wrap64 (t169 - 1))) = true := bne_iff_ne.mpr c42
                                  obtain rfl := Option.some.inj H
                                  cases hrt
                              · rw [if_neg c41] at H
                                have c41b0 : (t180 == 10) = false := beq_eq_false_iff_ne.mpr c41
                                have c41b1 : (t180 != 10) = true := bne_iff_ne.mpr c41
                                obtain rfl := Option.some.inj H
                                cases hrt
                            · rw [if_neg c39] at H
                              exact absurd H (by simp)
                          · rw [if_neg c38] at H
                            exact absurd H (by simp)
                        · rw [if_neg c36] at H
                          have c36b0 : decide (0 < (t159.size : Int)) = false := decide_eq_false c36
                          have c36b1 : decide (0 < t159.size) = false := decide_eq_false (by omega)
                          clear c36
                          by_cases c60 : t164 = (wrap64 (t169 + t174))
                          · rw [if_pos c60] at H
                            have c60b0 : (t164 == (wrap64 (t169 + t174))) = true := beq_iff_eq.mpr c60
                            have c60b1 : (t164 != (wrap64 (t169 + t174))) = false := bne_eq_false_iff_eq.mpr c60
                            clear c60
                            obtain ⟨y193, hy193⟩ : ∃ y_ : List (S42), y_ = (([] : List (S42))) := ⟨_, rfl⟩
                            replace H : (if y193.length + t168.length < 1759218604441 then ((some (y193 ++ t168 : List (S42))).bind fun y196 => (if y196.length + t173.length < 1759218604441 then ((lamplighterref19_Same.f t163 (y196 ++ t173)).bind fun t202 => (some t202)) else (none))) else (none)) = some r := by first | (rw [hy193]; with_reducible exact H) | (have H2_ := (Option.bind_some _ _).symm.trans H; rw [hy193]; with_reducible exact H2_) | (have H2_ := (Option.bind_some _ _).symm.trans H; with_reducible exact H2_) | with_reducible exact H | (rw [hy193]; exact H) | exact H
                            have Ny193 := Aside0.mk hy193
                            clear hy193
                            by_cases c61 : y193.length + t168.length < 1759218604441
                            · rw [if_pos c61] at H
                              have LMc61 := Aside0.mk c61
                              clear c61
                              obtain ⟨y196, hy196⟩ : ∃ y_ : List (S42), y_ = (y193 ++ t168) := ⟨_, rfl⟩
                              replace H : (if y196.length + t173.length < 1759218604441 then ((lamplighterref19_Same.f t163 (y196 ++ t173)).bind fun t202 => (some t202)) else (none)) = some r := by first | (rw [hy196]; with_reducible exact H) | (have H2_ := (Option.bind_some _ _).symm.trans H; rw [hy196]; with_reducible exact H2_) | (have H2_ := (Option.bind_some _ _).symm.trans H; with_reducible exact H2_) | with_reducible exact H | (rw [hy196]; exact H) | exact H
                              have Ny196 := Aside0.mk hy196
                              clear hy196
                              by_cases c62 : y196.length + t173.length < 1759218604441
                              · rw [if_pos c62] at H
                                have LMc62 := Aside0.mk c62
                                clear c62
                                obtain ⟨y199, hy199⟩ : ∃ y_ : List (S42), y_ = (y196 ++ t173) := ⟨_, rfl⟩
                                replace H : ((lamplighterref19_Same.f t163 y199).bind fun t202 => (some t202)) = some r := by first | (rw [hy199]; with_reducible exact H) | (have H2_ := (Option.bind_some _ _).symm.trans H; rw [hy199]; with_reducible exact H2_) | (have H2_ := (Option.bind_some _ _).symm.trans H; with_reducible exact H2_) | with_reducible exact H | (rw [hy199]; exact H) | exact H
                                have Ny199 := Aside0.mk hy199
                                clear hy199
                                replace H := Option.bind_eq_some_iff.mp H
                                obtain ⟨t202, A630, H⟩ := H
                                replace H : (some t202) = some r := H
                                have A63 := Aside0.mk A630
                                clear A630
                                obtain rfl := Option.some.inj H
                                clear hrt
                                go_wp2_with (first | ((with_reducible refine gate_dst (N := 108) rfl ?_); (try (refine gate_guard (by rfl) ?_; dsimp only)); refine Kd.N_lit k42 _ 42 ?hg (N' := 108) ?hd (xs := ([] : List (S42))) (inner := []) (ok := (fun k_ => some k_ ≠ (v166 : Value).ownBlock ∧ some k_ ≠ (v171 : Value).ownBlock ∧ some k_ ≠ (v176 : Value).ownBlock)) (okp := (fun k_ => some k_ ≠ (v166 : Value).ownBlock ∧ some k_ ≠ (v171 : Value).ownBlock ∧ some k_ ≠ (v176 : Value).ownBlock)) ?hr ?hp (fun _ hk => hk) ((show ∀ k_, wc.heap.size ≤ k_ → (fun k_ => some k_ ≠ (v166 : Value).ownBlock ∧ some k_ ≠ (v171 : Value).ownBlock ∧ some k_ ≠ (v176 : Value).ownBlock) k_ from fun k_ hk => ⟨Kd.fresh' (Kd.N_lt (by (with_reducible repeat (first | apply Kd.N_alloc | apply Kd.N_drewN | apply Kd.N_drew)); exact HO_9.out)) k_ hk, Kd.fresh' (Kd.N_lt (by (with_reducible repeat (first | apply Kd.N_alloc | apply Kd.N_drewN | apply Kd.N_drew)); exact HO_12.out)) k_ hk, Kd.fresh' (Kd.N_lt (by (with_reducible repeat (first | apply Kd.N_alloc | apply Kd.N_drewN | apply Kd.N_drew)); exact HO_15.out)) k_ hk⟩) _ (Nat.le_refl _)) (Below.refl _ _) (Nat.le_refl _) (by simp) ?_; (case hd => rfl); (case hg => rfl); (case hr => first | (go_simp; done) | (go_simp; rfl)); (case hp => exact (Reps.none _ _)); intro v194 w64 ho65 hb hg_ hnew_; clear hg_ hnew_; (first | rw [← Ny193.out] at ho65 | (simp only [Int.reduceToNat] at ho65; rw [← Ny193.out] at ho65)); have n0_ := Aside0.mk (Kd.N_elder' (by (with_reducible repeat (first | apply Kd.N_alloc | apply Kd.N_drewN | apply Kd.N_drew)); exact HO_9.out) (Kd.N_base ho65) hb); have n1_ := Aside0.mk (Kd.N_elder' (by (with_reducible repeat (first | apply Kd.N_alloc | apply Kd.N_drewN | apply Kd.N_drew)); exact HO_12.out) (Kd.N_base ho65) hb); have n2_ := Aside0.mk (Kd.N_elder' (by (with_reducible repeat (first | apply Kd.N_alloc | apply Kd.N_drewN | apply Kd.N_drew)); exact HO_15.out) (Kd.N_base ho65) hb); have n3_ := Aside0.mk (Kd.N_lower ho65 (below_size (by repeat (first | (with_reducible first | exact HB.out | apply below_alloc | apply pw_below_drewN | apply below_drew1) | exact HB.out)))); have n4_ := Aside0.mk (below_step (by repeat (first | (with_reducible first | exact HB.out | apply below_alloc | apply pw_below_drewN | apply below_drew1) | exact HB.out)) hb); clear HO_9; clear HO_12; clear HO_15; clear HB; have HO_9 := n0_; have HO_12 := n1_; have HO_15 := n2_; have HO195 := n3_; have HB := n4_; clear n0_ n1_ n2_ n3_ n4_; clear hb ho65; obtain ⟨Ao67, co67, eo67⟩ := Kd.N_slice HO_12.out; subst eo67) | ((with_reducible refine gate_builtin (b := .append) (xs := #[.tmp 108, .tmp 109]) rfl ?_); (try (refine gate_guard (by rfl) ?_; dsimp only)); at_builtin; refine Kd.N_append_rows k42 (w0 := w) w.heap.size rfl (.tmp 108) (.tmp 109) 43 42 (.agg #[(.int .i64 0), (.int .i64 0), (.int .i64 0), (.slice none 0 0), (.slice none 0 0), (.bool false)]) 80 rfl Tryd.underlying43 info42 rfl (by decide) (by omega) v194 y193 t168 _ _ _ (fun k_ => some k_ ≠ (v166 : Value).ownBlock ∧ some k_ ≠ (v176 : Value).ownBlock) (fun k_ => ((fun k_ => some k_ ≠ (v166 : Value).ownBlock ∧ some k_ ≠ (v176 : Value).ownBlock)) k_ ∧ some k_ ≠ (v194 : Value).ownBlock) rfl rfl ?aO ?aR (fun _ hk => hk) ?aF ?aB ?aS ?aL ?_; (case aR => exact (by skip; exact Kd.N_F (Kd.N_mono (ok' := (fun k_ => ((fun k_ => some k_ ≠ (v166 : Value).ownBlock ∧ some k_ ≠ (v176 : Value).ownBlock)) k_ ∧ some k_ ≠ (v194 : Value).ownBlock)) (HO_12.out) (fun k_ hk => ⟨⟨hk.1.1, hk.1.2⟩, hk.2⟩)))); (case aB => exact (by repeat (first | (with_reducible first | exact HB.out | apply below_alloc | apply pw_below_drewN | apply below_drew1) | exact HB.out))); (case aF => exact (fun k_ hk => ⟨Kd.fresh' (Kd.N_lt (by (with_reducible repeat (first | apply Kd.N_alloc | apply Kd.N_drewN | apply Kd.N_drew)); exact HO_9.out)) k_ hk, Kd.fresh' (Kd.N_lt (by (with_reducible repeat (first | apply Kd.N_alloc | apply Kd.N_drewN | apply Kd.N_drew)); exact HO_15.out)) k_ hk⟩)); (case aO => exact (by (with_reducible repeat (first | apply Kd.N_alloc | apply Kd.N_drewN | apply Kd.N_drew)); exact Kd.N_mono HO195.out (fun _ hk => ⟨hk.1, hk.2.2⟩))); (case aS => exact (below_size (by repeat (first | (with_reducible first | exact HB.out | apply below_alloc | apply pw_below_drewN | apply below_drew1) | exact HB.out)))); (case aL => have := LMc61.out; omega); intro v197 w66 ho hb hg hat; rw [← Ny196.out] at ho; have n0_ := Aside0.mk (Kd.N_afterv (ok := (fun k_ => some k_ ≠ (.slice Ao67 t168.length co67 : Value).ownBlock ∧ some k_ ≠ (v176 : Value).ownBlock)) (by (with_reducible repeat (first | apply Kd.N_alloc | apply Kd.N_drewN | apply Kd.N_drew)); exact HO_9.out) hg hat); have n1_ := Aside0.mk (Kd.N_afterv (ok := (fun k_ => some k_ ≠ (v166 : Value).ownBlock ∧ some k_ ≠ (v176 : Value).ownBlock)) (by (with_reducible repeat (first | apply Kd.N_alloc | apply Kd.N_drewN | apply Kd.N_drew)); exact HO_12.out) hg hat); have n2_ := Aside0.mk (Kd.N_afterv (ok := (fun k_ => some k_ ≠ (v166 : Value).ownBlock ∧ some k_ ≠ (.slice Ao67 t168.length co67 : Value).ownBlock)) (by (with_reducible repeat (first | apply Kd.N_alloc | apply Kd.N_drewN | apply Kd.N_drew)); exact HO_15.out) hg hat); have n3_ := Aside0.mk (hb); have n4_ := Aside0.mk (ho); clear HO_9; clear HO_12; clear HO_15; clear HB; clear HO195; have HO_9 := n0_; have HO_12 := n1_; have HO_15 := n2_; have HB := n3_; have HO198 := n4_; clear n0_ n1_ n2_ n3_ n4_; clear ho hb hg hat; obtain ⟨Ao69, co69, eo69⟩ := Kd.N_slice HO_15.out; subst eo69) | ((with_reducible refine gate_builtin (b := .append) (xs := #[.tmp 110, .tmp 111]) rfl ?_); (try (refine gate_guard (by rfl) ?_; dsimp only)); at_builtin; refine Kd.N_append_rows k42 (w0 := w) w.heap.size rfl (.tmp 110) (.tmp 111) 43 42 (.agg #[(.int .i64 0), (.int .i64 0), (.int .i64 0), (.slice none 0 0), (.slice none 0 0), (.bool false)]) 80 rfl Tryd.underlying43 info42 rfl (by decide) (by omega) v197 y196 t173 _ _ _ (fun k_ => some k_ ≠ (v166 : Value).ownBlock) (fun k_ => ((fun k_ => some k_ ≠ (v166 : Value).ownBlock)) k_ ∧ some k_ ≠ (v197 : Value).ownBlock) rfl rfl ?aO ?aR (fun _ hk => hk) ?aF ?aB ?aS ?aL ?_; (case aR => exact (by skip; exact Kd.N_F (Kd.N_mono (ok' := (fun k_ => ((fun k_ => some k_ ≠ (v166 : Value).ownBlock)) k_ ∧ some k_ ≠ (v197 : Value).ownBlock)) (HO_15.out) (fun k_ hk => ⟨hk.1.1, hk.2⟩)))); (case aB => exact (by repeat (first | (with_reducible first | exact HB.out | apply below_alloc | apply pw_below_drewN | apply below_drew1) | exact HB.out))); (case aF => exact (fun k_ hk => Kd.fresh' (Kd.N_lt (by (with_reducible repeat (first | apply Kd.N_alloc | apply Kd.N_drewN | apply Kd.N_drew)); exact HO_9.out)) k_ hk)); (case aO => exact (by (with_reducible repeat (first | apply Kd.N_alloc | apply Kd.N_drewN | apply Kd.N_drew)); exact Kd.N_mono HO198.out (fun _ hk => hk.1))); (case aS => exact (below_size (by repeat (first | (with_reducible first | exact HB.out | apply below_alloc | apply pw_below_drewN | apply below_drew1) | exact HB.out)))); (case aL => have := LMc62.out; omega); intro v200 w68 ho hb hg hat; rw [← Ny199.out] at ho; have n0_ := Aside0.mk (Kd.N_afterv (ok := (fun k_ => some k_ ≠ (.slice Ao67 t168.length co67 : Value).ownBlock ∧ some k_ ≠ (.slice Ao69 t173.length co69 : Value).ownBlock)) (by (with_reducible repeat (first | apply Kd.N_alloc | apply Kd.N_drewN | apply Kd.N_drew)); exact HO_9.out) hg hat); have n1_ := Aside0.mk (Kd.N_afterv (ok := (fun k_ => some k_ ≠ (v166 : Value).ownBlock ∧ some k_ ≠ (.slice Ao69 t173.length co69 : Value).ownBlock)) (by (with_reducible repeat (first | apply Kd.N_alloc | apply Kd.N_drewN | apply Kd.N_drew)); exact HO_12.out) hg hat); have n2_ := Aside0.mk (Kd.N_afterv (ok := (fun k_ => some k_ ≠ (v166 : Value).ownBlock ∧ some k_ ≠ (.slice Ao67 t168.length co67 : Value).ownBlock)) (by (with_reducible repeat (first | apply Kd.N_alloc | apply Kd.N_drewN | apply Kd.N_drew)); exact HO_15.out) hg hat); have n3_ := Aside0.mk (hb); have n4_ := Aside0.mk (ho); clear HO_9; clear HO_12; clear HO_15; clear HB; clear HO198; have HO_9 := n0_; have HO_12 := n1_; have HO_15 := n2_; have HB := n3_; have HO201 := n4_; clear n0_ n1_ n2_ n3_ n4_; clear ho hb hg hat; obtain ⟨Ao70, co70, eo70⟩ := Kd.N_slice HO_9.out; subst eo70; obtain ⟨Ao71, co71, eo71⟩ := Kd.N_slice HO201.out; subst eo71) | (go_at_call 19; (with_reducible refine (lamplighterref19_Same.calls _ _ t163 _ _ y199 t202 _ ?side1 ?side2 ?side3 ?side4 A63.out).mono ?_); (case side1 => repeat (first | exact (Kd.N_reads' HO_9.out).2.2 | (with_reducible refine Kd.C_alloc ?_ _) | (with_reducible refine Kd.C_drewN ?_ _) | (with_reducible refine Kd.C_drew ?_))); (case side2 => exact (Kd.N_reads' HO_9.out).2.1); (case side3 => repeat (first | exact (Kd.N_reads' HO201.out).2.2 | (with_reducible refine Kd.C_alloc ?_ _) | (with_reducible refine Kd.C_drewN ?_ _) | (with_reducible refine Kd.C_drew ?_))); (case side4 => exact (Kd.N_reads' HO201.out).2.1); rintro e w72 ⟨rfl, hb⟩; have n0_ := Aside0.mk (Kd.N_below (by (with_reducible repeat (first | apply Kd.N_alloc | apply Kd.N_drewN | apply Kd.N_drew)); exact HO_9.out) hb); have n1_ := Aside0.mk (Kd.N_below (by (with_reducible repeat (first | apply Kd.N_alloc | apply Kd.N_drewN | apply Kd.N_drew)); exact HO_12.out) hb); have n2_ := Aside0.mk (Kd.N_below (by (with_reducible repeat (first | apply Kd.N_alloc | apply Kd.N_drewN | apply Kd.N_drew)); exact HO_15.out) hb); have n3_ := Aside0.mk (Kd.N_below (by (with_reducible repeat (first | apply Kd.N_alloc | apply Kd.N_drewN | apply Kd.N_drew)); exact HO201.out) hb); have n4_ := Aside0.mk (below_step (by repeat (first | (with_reducible first | exact HB.out | apply below_alloc | apply pw_below_drewN | apply below_drew1) | exact HB.out)) hb); clear HO_9; clear HO_12; clear HO_15; clear HO201; clear HB; have HO_9 := n0_; have HO_12 := n1_; have HO_15 := n2_; have HO201 := n3_; have HB := n4_; clear n0_ n1_ n2_ n3_ n4_; (try clear hb); (try clear hb2); (try clear hk); (try clear hi)))
                                go_ret
                                exact ⟨by first | rfl | (simp [errW_none, errW_some] <;> rfl) | (simp [*, errW_none, errW_some] <;> rfl), by repeat (first | (with_reducible first | exact HB.out | apply below_alloc | apply pw_below_drewN | apply below_drew1) | exact HB.out)⟩
                              · rw [if_neg c62] at H
                                exact absurd H (by simp)
                            · rw [if_neg c61] at H
                              exact absurd H (by simp)
                          · rw [if_neg c60] at H
                            have c60b0 : (t164 == (wrap64 (t169 + t174))) = false := beq_eq_false_iff_ne.mpr c60
                            have c60b1 : (t164 != (wrap64 (t169 + t174))) = true := bne_iff_ne.mpr c60
                            obtain rfl := Option.some.inj H
                            cases hrt
                      · rw [if_neg c35] at H
                        have c35b0 : (t165 == 0) = false := beq_eq_false_iff_ne.mpr c35
                        have c35b1 : (t165 != 0) = true := bne_iff_ne.mpr c35
                        obtain rfl := Option.some.inj H
                        clear hrt
                        go_wp2
                        go_ret
                        exact ⟨by first | rfl | (simp [errW_none, errW_some] <;> rfl) | (simp [*, errW_none, errW_some] <;> rfl), by repeat (first | (with_reducible first | exact HB.out | apply below_alloc | apply pw_below_drewN | apply below_drew1) | exact HB.out)⟩
              · rw [if_neg c25] at H
                exact absurd H (by simp)

end Go.Proofs.YtoloooammaiipaaDoor.PM
