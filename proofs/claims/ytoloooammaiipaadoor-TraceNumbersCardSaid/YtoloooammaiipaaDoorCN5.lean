/- The law lamplighterlaw19_TraceNumbers, proved for every input of its parameters' types; no condition; package-level tables of the library lie as the program's text lays them. -/
import Derived.Test.YtoloooammaiipaaDoorCN4
import Derived.Lib.ItoaLen
import Derived.Test.YtoloooammaiipaaDoorRows
import Derived.WalkKit
import Derived.ProofKit
import Derived.OpenShut
import Derived.Deep.DeepHandedRow
import Derived.Deep.DeepLaidRun
import Derived.Lib.LaidTab
import Derived.Test.YtoloooammaiipaaDoorCards
import Derived.Test.YtoloooammaiipaaDoorTie
import Derived.ShutString
import Derived.ChangeOld
import Derived.Below
import Derived.SizedLaws
import Derived.JoinedCond
/- What trace.Parse gives: a walk; conditions: a text of at most 100000 bytes; the tables lie as the program's text lays them. -/
namespace Go.Proofs.YtoloooammaiipaaDoor
open Go Go.RowKit Go.Proofs.YtoloooammaiipaaDoor.PI Go.Proofs.YtoloooammaiipaaDoorW.PrintWords Go.Proofs.YtoloooammaiipaaDoorW.PrintLast Go.Proofs.YtoloooammaiipaaDoorW.PrintMore
set_option linter.unusedVariables false
set_option linter.unusedSimpArgs false
/-- What a text tells of steps, behind steps and lines so far: the steps, the line, the error. -/
def parseL : Nat → List S42 → Nat → List UInt8 → List S42 × Nat × Int
  | 0, L, n, _ => (L, n, 0)
  | k + 1, L, n, s => if s = [] then (L, n, 0) else if (cut1 10 s).2.2 = true ∧ (lineO L (cut1 10 s).1).1 = true then parseL k (lineO L (cut1 10 s).1).2 (n + 1) (cut1 10 s).2.1 else ([], n, 10)
def parseO (s : List UInt8) : List S42 × Nat × Int := parseL s.length [] 0 s
theorem parseL_nil (k : Nat) (L : List S42) (n : Nat) : parseL k L n [] = (L, n, 0) := by cases k <;> rfl
theorem parseL_fuel : ∀ (k k' : Nat) (L : List S42) (n : Nat) (s : List UInt8), s.length ≤ k → s.length ≤ k' → parseL k L n s = parseL k' L n s
  | 0, k', L, n, s, h, _ => by
    obtain rfl := List.eq_nil_of_length_eq_zero (Nat.le_zero.1 h)
    rw [parseL_nil, parseL_nil]
  | k + 1, 0, L, n, s, _, h => by
    obtain rfl := List.eq_nil_of_length_eq_zero (Nat.le_zero.1 h)
    rw [parseL_nil, parseL_nil]
  | k + 1, k' + 1, L, n, s, h, h' => by
    unfold parseL
    split
    · rfl
    split
    · rename_i hc
      have := (cut1_le 10 s).2.2 hc.1
      exact parseL_fuel k k' _ _ _ (by omega) (by omega)
    · rfl
theorem lineO_len (L : List S42) (s : List UInt8) : (lineO L s).2.length ≤ L.length + 1 ∧ ∀ B, (∀ x ∈ L, x.f1.length ≤ B) → ∀ x ∈ (lineO L s).2, x.f1.length ≤ B + 1 := by
  have hset : ∀ (x' : S42) (i : Nat) (B : Nat), (∀ x ∈ L, x.f1.length ≤ B) → x'.f1.length ≤ B + 1 → ∀ x ∈ L.set i x', x.f1.length ≤ B + 1 := fun x' i B h h' x hx => by
    rcases List.mem_or_eq_of_mem_set hx with hx | rfl
    · exact Nat.le_succ_of_le (h x hx)
    · exact h'
  have hget : ∀ (i : Nat) (B : Nat), (∀ x ∈ L, x.f1.length ≤ B) → L ≠ [] → (L.getD (L.length - 1) z42).f1.length ≤ B := fun i B h hn => by
    have hl : L.length - 1 < L.length := by have := List.length_pos_iff.2 hn; omega
    rw [List.getD_eq_getElem?_getD, List.getElem?_eq_getElem hl]
    exact h _ (List.getElem_mem hl)
  unfold lineO
  cases readO s with
  | some x =>
    refine ⟨by simp, fun B h y hy => ?_⟩
    rcases List.mem_append.1 hy with hy | hy
    · exact Nat.le_succ_of_le (h y hy)
    · rw [List.mem_singleton.1 hy]
      exact Nat.zero_le _
  | none =>
    simp only
    by_cases h0 : L = []
    · rw [if_pos h0]
      exact ⟨Nat.le_succ _, fun B h y hy => Nat.le_succ_of_le (h y hy)⟩
    rw [if_neg h0]
    split
    · exact ⟨Nat.le_succ _, fun B h y hy => Nat.le_succ_of_le (h y hy)⟩
    split
    · exact ⟨by simp, fun B h => hset _ _ B h (Nat.le_succ_of_le (hget 0 B h h0))⟩
    split
    · refine ⟨by simp, fun B h => hset _ _ B h ?_⟩
      have := hget 0 B h h0
      simp only [List.length_append, List.length_singleton]
      omega
    · exact ⟨Nat.le_succ _, fun B h y hy => Nat.le_succ_of_le (h y hy)⟩
def strSz : Value → Nat
  | .string t => t.size
  | _ => 0
def ParsePost (s : ByteArray) (w : World) (e : Ending) (w' : World) : Prop :=
  Below w.heap.size w w' ∧ ∃ v, e = .returned (.tuple #[v, .int .i64 ((parseO s.data.toList).2.1 : Int), .int .i64 (parseO s.data.toList).2.2]) ∧ Kd.S k42 42 w' w.heap.size (fun _ => True) v (parseO s.data.toList).1
set_option maxHeartbeats 8000000 in
set_option maxRecDepth 100000 in
theorem parse_walk (s : ByteArray) (hs : s.size ≤ 100000) (w : World) (hG : GlobT w) :
    Calls Tryd.prog 23 #[.string s] w (ParsePost s w) := by
  have HG := Lib.hid hG
  have HS := Lib.hid hs
  clear hG hs
  go_enter Tryd.func23, Tryd.ntmps23
  go_wp2_with fail
  have HB0 := Lib.hid (below_alloc (Below.refl w.heap.size w) (.cells #[.slice none 0 0] 86 (0, 0)))
  have HP0 := Lib.hid (blk_new w (.cells #[.slice none 0 0] 86 (0, 0)))
  generalize hw0 : w.alloc (.cells #[.slice none 0 0] 86) = w0 at HB0 HP0 ⊢
  clear hw0
  obtain ⟨pb, hpb⟩ : ∃ pb, pb = w.heap.size := ⟨_, rfl⟩
  rw [← hpb] at HB0 HP0 ⊢
  have HPB := Lib.hid hpb
  clear hpb
  go_loopw [0, 6] (fun v0 v6 wr => ∃ (n : Nat) (t : ByteArray) (L : List S42) (vL : Value), v0 = .string t ∧ v6 = .int .i64 n ∧ n + t.size ≤ s.size ∧ wr.heap[pb]? = some (.cells #[vL] 86 (0, 0)) ∧ Hid (Below pb w wr ∧ Kd.S k42 42 wr (pb + 1) (fun _ => True) vL L ∧ L.length ≤ n ∧ (∀ x ∈ L, x.f1.length ≤ n) ∧ parseO s.data.toList = parseL t.size L n t.data.toList)) (fun v0 _ _ => strSz v0)
  case atStart => exact ⟨0, s, [], .slice none 0 0, rfl, rfl, by omega, HP0.out, Lib.hid ⟨HB0.out, Kd.S_nil _ _ _ _ _, Nat.le_refl _, fun x hx => by simp at hx, by unfold parseO; rw [len_size]⟩⟩
  case round =>
    obtain ⟨n, t, L, vL, rfl, rfl, hnt, hP, hh⟩ := hrel
    obtain ⟨hb, hS, hLn, hOn, hpar⟩ := hh.out
    have HP := Lib.hid hP
    have HB := Lib.hid hb
    have HSS := Lib.hid hS
    have HLN := Lib.hid hLn
    have HON := Lib.hid hOn
    have HPAR := Lib.hid hpar
    have HNT := Lib.hid hnt
    clear hP hh hb hS hLn hOn hpar hnt
    have htl := len_size t
    by_cases ht : t.data.toList = []
    · have p1 : (t.toList == ([] : List UInt8)) = true := by rw [beq_iff_eq, Lib.toList_data]; exact ht
      have p2 : (t.toList != ([] : List UInt8)) = false := by rw [bne_eq_false_iff_eq, Lib.toList_data]; exact ht
      obtain ⟨AL, cL, rfl⟩ := Kd.S_slice HSS.out
      have e0 := cell_of_cells HP.out 0
      simp only [List.getElem?_toArray, List.getElem?_cons_zero] at e0
      have hpo : parseO s.data.toList = (L, n, 0) := by rw [HPAR.out, ht, parseL_nil]
      have HPO := Lib.hid hpo
      have p3 : t.toList.isEmpty = true := by rw [Lib.toList_data, ht]; rfl
      clear ht hpo
      go_wp2_with fail
      exact bodyPost_ret (v := .tuple #[.slice AL L.length cL, .int .i64 (n : Int), .int .i64 0]) (by simp [results, Tryd.results23, go_sem]) rfl ⟨HPB.out ▸ HB.out, _, by rw [HPO.out], by rw [HPO.out]; exact Kd.S_lower HSS.out (by have := HPB.out; omega)⟩
    · have p1 : (t.toList == ([] : List UInt8)) = false := by rw [beq_eq_false_iff_ne, Lib.toList_data]; exact ht
      have p2 : (t.toList != ([] : List UInt8)) = true := by rw [bne_iff_ne, Lib.toList_data]; exact ht
      have p3 : t.toList.isEmpty = false := by rw [Lib.toList_data]; cases h : t.data.toList with | nil => exact absurd h ht | cons => rfl
      obtain ⟨a, b, f, hq⟩ : ∃ a b f, cut1 10 t.data.toList = (a, b, f) := ⟨_, _, _, rfl⟩
      have hs1 := HS.out
      have hnt1 := HNT.out
      have hcut := cut1_is t 10 (by omega)
      have hle := cut1_le 10 t.data.toList
      rw [hq] at hcut hle
      simp only at hcut hle
      rw [htl] at hle
      have hstep : parseO s.data.toList = if f = true ∧ (lineO L a).1 = true then parseL (t.size - 1) (lineO L a).2 (n + 1) b else ([], n, 10) := by
        rw [HPAR.out]
        have htp : 0 < t.size := by rw [← htl]; exact List.length_pos_iff.2 ht
        obtain ⟨k, hk⟩ : ∃ k, t.size = k + 1 := ⟨t.size - 1, by omega⟩
        rw [hk, parseL, if_neg ht, hq]
        rfl
      have HST := Lib.hid hstep
      have HA := Lib.hid (show (strOf a).size ≤ 100000 from by rw [strOf_size]; omega)
      have HN := Lib.hid (hnext (j := n) (n := 1000000) (by omega) (Nat.le_refl _))
      have HL := Lib.hid (show L.length ≤ 1000000 from by have := HLN.out; omega)
      have HLO := Lib.hid (show ∀ x ∈ L, x.f1.length ≤ 1000000 from fun x hx => by have := HON.out x hx; omega)
      have HGW := Lib.hid (show ∀ W, Below pb w W → GlobT W from fun W hW => globt_below HG.out (HPB.out ▸ hW))
      obtain ⟨wa, hwa⟩ : ∃ wa, wa = strOf a := ⟨_, rfl⟩
      obtain ⟨wb, hwb⟩ : ∃ wb, wb = strOf b := ⟨_, rfl⟩
      rw [← hwa, ← hwb] at hcut
      rw [← hwa] at HA
      have hwad : wa.data.toList = a := by rw [hwa, strOf_data]
      have hwbd : wb.data.toList = b := by rw [hwb, strOf_data]
      have HWA := Lib.hid hwad
      have HWB := Lib.hid hwbd
      have HLE := Lib.hid hle
      clear hq hle hstep hwa hwb hwad hwbd ht hs1 hnt1
      go_wp2_with fail
      refine (strings_Cut.calls t ⟨#[10]⟩ _ _ _ _ hcut).mono ?_
      rintro e w1 ⟨rfl, hdr⟩
      have HP1 := Lib.hid (blk_below HP.out hdr.below)
      have HS1 := Lib.hid (Kd.S_below HSS.out hdr.below)
      have HB1 := Lib.hid (HB.out.trans (hdr.below.mono (by have := blk_lt HP.out; omega)))
      clear hdr hcut
      cases f with
      | false =>
        go_wp2_with fail
        have hpo : parseO s.data.toList = ([], n, 10) := by rw [HST.out, if_neg (by intro h; exact absurd h.1 (by decide))]
        exact bodyPost_ret (v := .tuple #[.slice none 0 0, .int .i64 (n : Int), .int .i64 10]) (by simp [results, Tryd.results23, go_sem]) rfl ⟨HPB.out ▸ HB1.out, _, by rw [hpo], by rw [hpo]; exact Kd.S_nil _ _ _ _ _⟩
      | true =>
        go_wp2_with fail
        refine (line_walk pb L vL wa w1 HP1.out HS1.out HL.out HLO.out HA.out (HGW.out _ HB1.out)).mono ?_
        rintro e w2 ⟨hb2, he, v2, hp2, hs2⟩
        have HB2 := Lib.hid (HB1.out.trans hb2)
        have HS2 := Lib.hid hs2
        have HP2 := Lib.hid hp2
        clear hb2 hs2 hp2
        rw [HWA.out] at he HS2
        cases hl : (lineO L a).1 with
        | false =>
          rw [hl] at he
          obtain rfl := he
          have HLF := Lib.hid hl
          clear hl
          go_wp2_with fail
          have hpo : parseO s.data.toList = ([], n, 10) := by rw [HST.out, if_neg (by intro h; have := h.2; rw [HLF.out] at this; cases this)]
          exact bodyPost_ret (v := .tuple #[.slice none 0 0, .int .i64 (n : Int), .int .i64 10]) (by simp [results, Tryd.results23, go_sem]) rfl ⟨HPB.out ▸ HB2.out, _, by rw [hpo], by rw [hpo]; exact Kd.S_nil _ _ _ _ _⟩
        | true =>
          rw [hl] at he
          obtain rfl := he
          have HLF := Lib.hid hl
          clear hl
          go_wp2_with fail
          have hwbs : wb.size + 1 ≤ t.size := by
            have h1 := HLE.out.2.2 (by first | rfl | trivial)
            have h2 := len_size wb
            rw [HWB.out] at h2
            omega
          have hll := lineO_len L a
          refine ⟨⟨n + 1, wb, (lineO L a).2, v2, rfl, by first | rfl | exact congrArg _ HN.out, by have := HNT.out; omega, HP2.out, Lib.hid ⟨HB2.out, HS2.out, by have := HLN.out; omega, hll.2 n HON.out, ?_⟩⟩, ?_⟩
          · rw [HST.out, if_pos ⟨by first | rfl | trivial, HLF.out⟩, HWB.out]
            have h1 := HLE.out.2.2 (by first | rfl | trivial)
            have h2 := len_size wb
            rw [HWB.out] at h2
            exact parseL_fuel _ _ _ _ _ (by omega) (by omega)
          · show wb.size < t.size
            omega
end Go.Proofs.YtoloooammaiipaaDoor
/- What lamplighterlaw19.alive gives: a walk; conditions: the tables lie as the program's text lays them. -/
namespace Go.Proofs.YtoloooammaiipaaDoor
open Go Go.RowKit Go.Proofs.YtoloooammaiipaaDoor.PI Go.Proofs.YtoloooammaiipaaDoorW.PrintWords Go.Proofs.YtoloooammaiipaaDoorW.PrintLast Go.Proofs.YtoloooammaiipaaDoorW.PrintMore
set_option linter.unusedVariables false
set_option linter.unusedSimpArgs false
theorem alive_parse : parseO [105, 110, 32, 48, 98, 48, 100, 10, 98, 97, 99, 107, 32, 45, 10] = ([⟨⟨0, 0, 0, [11, 13]⟩, [⟨true, []⟩], false⟩], 2, 0) := by kernel_rfl
theorem alive_read : readO [116, 105, 99, 107, 32, 48, 53] = none := by decide +kernel
set_option maxHeartbeats 8000000 in
set_option maxRecDepth 100000 in
theorem alive_walk (w : World) (hG : GlobT w) :
    Calls Tryd.prog 10 #[] w fun e w' => e = .returned (.bool true) ∧ Below w.heap.size w w' := by
  have HG := Lib.hid hG
  have HPW := Lib.hid (parse_walk ⟨#[105, 110, 32, 48, 98, 48, 100, 10, 98, 97, 99, 107, 32, 45, 10]⟩ (by decide) w hG)
  clear hG
  go_enter Tryd.func10, Tryd.ntmps10
  go_wp2_with fail
  refine HPW.out.mono ?_
  rintro e w1 ⟨hb1, v, he, hS⟩
  have hpr : parseO (⟨#[105, 110, 32, 48, 98, 48, 100, 10, 98, 97, 99, 107, 32, 45, 10]⟩ : ByteArray).data.toList = ([⟨⟨0, 0, 0, [11, 13]⟩, [⟨true, []⟩], false⟩], 2, 0) := alive_parse
  rw [hpr] at he hS
  simp only at he hS
  obtain rfl := he
  obtain ⟨g, c, rfl, -, hgl, -⟩ := Kd.S_form hS (by decide)
  obtain ⟨oki, cs, hcl, hM, hcc, -, -, -⟩ := Kd.S_elem hS z42 0 (by decide) (by decide)
  obtain ⟨v3, v4, rfl, hR3, hR4⟩ := k42_openM hM
  obtain ⟨A3, c3, rfl⟩ := Kd.R_slice hR3
  obtain ⟨g4, c4, rfl, -, hgl4, -⟩ := Kd.R_form hR4 (by decide)
  obtain ⟨cs4, hcl4, hM4, hcc4, -⟩ := Kd.R_elem hR4 z56 0 (by decide) (by decide)
  obtain ⟨v5, rfl, hR5⟩ := k56_openM hM4
  have h3 : w1.cell? ⟨g, 3, none⟩ = some (.slice A3 2 c3) := hcc 3 _ rfl
  have h4 : w1.cell? ⟨g, 4, none⟩ = some (.slice (some ⟨g4, 0, none⟩) 1 c4) := hcc 4 _ rfl
  have h5 : w1.cell? ⟨g4, 0, none⟩ = some (.bool true) := hcc4 0 _ rfl
  have hC3 := (Kd.R_reads' hR3).2.2
  have HB1 := Lib.hid hb1
  have HRW := Lib.hid (read_walk ⟨#[116, 105, 99, 107, 32, 48, 53]⟩ (by decide) w1 (globt_below HG.out hb1))
  have H3 := Lib.hid h3
  have H4 := Lib.hid h4
  have H5 := Lib.hid h5
  have HC := Lib.hid (show Kd.C (Kd.int .u8) w1 A3 2 [11, 13] from hC3)
  have HC3 := Lib.hid (show (2 : Nat) ≤ c3 from (Kd.R_reads' hR3).2.1)
  clear hb1 hS hcl hM hcc hR3 hR4 hcl4 hM4 hcc4 hR5 h3 h4 h5 hC3
  go_wp2_with fail
  refine HRW.out.mono ?_
  rintro e w2 ⟨hb2, vr, hRr, he⟩
  have hrd : readO (⟨#[116, 105, 99, 107, 32, 48, 53]⟩ : ByteArray).data.toList = none := alive_read
  rw [hrd] at he hRr
  simp only [Option.elim] at he hRr
  obtain rfl := he
  obtain ⟨Ar, cr, rfl⟩ := Kd.R_slice hRr
  have HB2 := Lib.hid (below_step HB1.out hb2)
  have e3 := (cell_same (hb2.block g hgl) 3).trans H3.out
  have e4 := (cell_same (hb2.block g hgl) 4).trans H4.out
  have e5 := (cell_same (hb2.block g4 hgl4) 0).trans H5.out
  have l3 := Nat.lt_of_lt_of_le hgl hb2.size
  have l4 := Nat.lt_of_lt_of_le hgl4 hb2.size
  have HCV := Lib.hid (Kd.C_below HC.out hb2)
  have hcv : ∀ o, (convert 22 9 (.slice A3 2 c3)).run Tryd.prog (w2.alloc o) = .ok (.string (strOfNums [11, 13])) (w2.alloc o) := fun o => Kd.C_string Tryd.underlying22 Tryd.underlying5 Tryd.underlying9 (Kd.C_alloc HCV.out o)
  have hsn : strOfNums [11, 13] = ⟨#[11, 13]⟩ := rfl
  rw [hsn] at hcv
  clear hb2 hRr hrd hsn
  go_wp2_with fail
  go_ret
  exact ⟨rfl, below_alloc HB2.out _⟩
end Go.Proofs.YtoloooammaiipaaDoor
/- What trace.Event gives: walks, one for each set of fields that a kind has; conditions: bytes, at most a million; the tables lie as the program's text lays them. -/
namespace Go.Proofs.YtoloooammaiipaaDoor
open Go Go.RowKit Go.Proofs.YtoloooammaiipaaDoor.PI Go.Proofs.YtoloooammaiipaaDoorW.PrintWords Go.Proofs.YtoloooammaiipaaDoorW.PrintLast Go.Proofs.YtoloooammaiipaaDoorW.PrintMore
set_option linter.unusedVariables false
set_option linter.unusedSimpArgs false
/-- What is wrong with an event of a kind, for the fields it hasn't. -/
def evBad (fd fc fk : Bool) (n keep : Int) (d : List Int) : Prop := (fd = false ∧ 0 < d.length) ∨ (fc = false ∧ n ≠ 0) ∨ (fk = false ∧ keep ≠ 0)
instance (fd fc fk : Bool) (n keep : Int) (d : List Int) : Decidable (evBad fd fc fk n keep d) := by unfold evBad; infer_instance
/-- An event's text, of a kind. -/
def evText (r : KRow) (n keep : Int) (d : List Int) : List UInt8 :=
  ((r.1 ++ (if r.2.1 = true then 32 :: hexT d else [])) ++ (if r.2.2.1 = true then 32 :: Lib.itoa n else [])) ++ (if r.2.2.2 = true then 32 :: Lib.itoa keep else [])
/-- An event's text, or why there is none. -/
def eventO (k n keep : Int) (d : List Int) : List UInt8 × Int :=
  if k < 0 ∨ 9 ≤ k then ([], 17)
  else if evBad (kRows.getD k.toNat ([], false, false, false)).2.1 (kRows.getD k.toNat ([], false, false, false)).2.2.1 (kRows.getD k.toNat ([], false, false, false)).2.2.2 n keep d then ([], 10)
  else (evText (kRows.getD k.toNat ([], false, false, false)) n keep d, 0)
def EventPost (k n keep : Int) (d : List Int) (w : World) (e : Ending) (w' : World) : Prop :=
  e = .returned (.tuple #[.string (strOf (eventO k n keep d).1), .int .i64 (eventO k n keep d).2]) ∧ Below w.heap.size w w'
set_option maxRecDepth 100000 in
theorem kind_cells : ∀ (i j : Nat), i < 9 → j < 4 → (kRows.flatMap kVals)[i * 4 + j]? = (kVals (kRows.getD i ([], false, false, false)))[j]?
  | 0, 0, _, _ => rfl
  | 0, 1, _, _ => rfl
  | 0, 2, _, _ => rfl
  | 0, 3, _, _ => rfl
  | 1, 0, _, _ => rfl
  | 1, 1, _, _ => rfl
  | 1, 2, _, _ => rfl
  | 1, 3, _, _ => rfl
  | 2, 0, _, _ => rfl
  | 2, 1, _, _ => rfl
  | 2, 2, _, _ => rfl
  | 2, 3, _, _ => rfl
  | 3, 0, _, _ => rfl
  | 3, 1, _, _ => rfl
  | 3, 2, _, _ => rfl
  | 3, 3, _, _ => rfl
  | 4, 0, _, _ => rfl
  | 4, 1, _, _ => rfl
  | 4, 2, _, _ => rfl
  | 4, 3, _, _ => rfl
  | 5, 0, _, _ => rfl
  | 5, 1, _, _ => rfl
  | 5, 2, _, _ => rfl
  | 5, 3, _, _ => rfl
  | 6, 0, _, _ => rfl
  | 6, 1, _, _ => rfl
  | 6, 2, _, _ => rfl
  | 6, 3, _, _ => rfl
  | 7, 0, _, _ => rfl
  | 7, 1, _, _ => rfl
  | 7, 2, _, _ => rfl
  | 7, 3, _, _ => rfl
  | 8, 0, _, _ => rfl
  | 8, 1, _, _ => rfl
  | 8, 2, _, _ => rfl
  | 8, 3, _, _ => rfl
  | i + 9, _, h, _ => absurd h (by omega)
  | _, j + 4, _, h => absurd h (by omega)
theorem kind_at {w : World} (hG : GlobT w) {i : Nat} (hi : i < 9) {ks : List UInt8} {fd fc fk : Bool} (h : kRows.getD i ([], false, false, false) = (ks, fd, fc, fk)) :
    w.cell? ⟨0, i * 4, none⟩ = some (.string ⟨ks.toArray⟩) ∧ w.cell? ⟨0, i * 4 + 1, none⟩ = some (.bool fd) ∧ w.cell? ⟨0, i * 4 + 2, none⟩ = some (.bool fc) ∧ w.cell? ⟨0, i * 4 + 3, none⟩ = some (.bool fk) := by
  have hr := kinds_at hG
  have hk := fun j hj v (hv : (kVals (kRows.getD i ([], false, false, false)))[j]? = some v) => hr (i * 4 + j) v ((kind_cells i j hi hj).trans hv)
  rw [h] at hk
  simp only [Nat.zero_add] at hk
  exact ⟨hk 0 (by decide) _ rfl, hk 1 (by decide) _ rfl, hk 2 (by decide) _ rfl, hk 3 (by decide) _ rfl⟩
theorem hexT_len (l : List Int) : (hexT l).length ≤ 2 * l.length + 1 := by
  unfold hexT
  split
  · simp
  · rw [hexL_length]
    omega
theorem itoa_size {v : Int} (h0 : -9223372036854775808 ≤ v) (h1 : v ≤ 9223372036854775807) : (strOf (Lib.itoa v)).size ≤ 21 := by
  rw [strOf_size]
  exact Lib.itoa_length_le v h0 h1
theorem str_cat (a b : List UInt8) : strOf a ++ (⟨#[32]⟩ ++ strOf b) = strOf (a ++ 32 :: b) := by
  apply bytes_eq
  rw [ByteArray.data_append, Array.toList_append, ByteArray.data_append, Array.toList_append, strOf_data, strOf_data, strOf_data]
  rfl
theorem new_two (w : World) (o o' : Obj) : ((w.alloc o).alloc o').heap[w.heap.size + 1]? = some o' := by
  have := blk_new (w.alloc o) o'
  simpa using this
set_option maxHeartbeats 8000000 in
set_option maxRecDepth 100000 in
theorem event_d (i : Nat) (hi : i < 9) (ks : List UInt8) (hrow : kRows.getD i ([], false, false, false) = (ks, true, false, false)) (n keep : Int) (hn0 : -9223372036854775808 ≤ n) (hn1 : n ≤ 9223372036854775807) (hk0 : -9223372036854775808 ≤ keep) (hk1 : keep ≤ 9223372036854775807) (A : Option Addr) (c0 : Nat) (l : List Int) (hb : ∀ x ∈ l, 0 ≤ x ∧ x ≤ 255) (hl : l.length ≤ 1000000) (w : World) (hr : Kd.C (Kd.int .u8) w A l.length l) (hc : l.length ≤ c0) (hG : GlobT w) :
    Calls Tryd.prog 15 #[.agg #[.int .i64 (i : Int), .int .i64 n, .int .i64 keep, .slice A l.length c0]] w (EventPost (i : Int) n keep l w) := by
  have hks := row_len hrow hi
  have HKS := Lib.hid hks
  have HSP := Lib.hid (show (strOf ks).size ≤ 8 from by rw [strOf_size]; exact hks)
  have HEO := Lib.hid (show eventO (i : Int) n keep l = (if evBad true false false n keep l then ([], 10) else (evText (ks, true, false, false) n keep l, 0)) from by
    unfold eventO
    rw [if_neg (by omega), Int.toNat_natCast, hrow])
  have HB := Lib.hid hb
  have HR := Lib.hid hr
  have HG := Lib.hid hG
  have HL := Lib.hid hl
  have HC := Lib.hid hc
  have HN := Lib.hid (And.intro hn0 hn1)
  have HK := Lib.hid (And.intro hk0 hk1)
  have HROW := Lib.hid hrow
  clear hb hr hG hrow hn0 hn1 hk0 hk1 hks
  obtain ⟨q0, q1, q2, q3⟩ := kind_at HG.out hi HROW.out
  have ql := World.block_lt_of_cell? w ⟨0, i * 4, none⟩ q0
  simp only at ql
  have i0 : ¬ (i : Int) < 0 := by omega
  have i1 : ¬ (9 : Int) ≤ (i : Int) := by omega
  have i2 : (0 : Int) ≤ (i : Int) := by omega
  have i3 : (i : Int) < 9 := by omega
  obtain ⟨kw, hkw⟩ : ∃ kw : ByteArray, kw = ⟨ks.toArray⟩ := ⟨_, rfl⟩
  rw [← hkw] at q0
  have HKW := Lib.hid (show kw = strOf ks from hkw)
  clear hkw
  go_enter Tryd.func15, Tryd.ntmps15
  by_cases h2 : n ≠ 0
  · have t2 : (n == 0) = false := beq_eq_false_iff_ne.2 h2
    have t2b : ¬ n = 0 := h2
    have HBAD := Lib.hid (show evBad true false false n keep l from Or.inr (Or.inl ⟨rfl, h2⟩))
    go_wp2_with fail
    go_ret2
    refine ⟨?_, below_alloc (below_alloc (Below.refl _ _) _) _⟩
    rw [HEO.out, if_pos HBAD.out]
    rfl
  · obtain rfl : n = 0 := Classical.not_not.1 h2
    by_cases h3 : keep ≠ 0
    · have t3 : (keep == 0) = false := beq_eq_false_iff_ne.2 h3
      have t3b : ¬ keep = 0 := h3
      have HBAD := Lib.hid (show evBad true false false 0 keep l from Or.inr (Or.inr ⟨rfl, h3⟩))
      go_wp2_with fail
      go_ret2
      refine ⟨?_, below_alloc (below_alloc (Below.refl _ _) _) _⟩
      rw [HEO.out, if_pos HBAD.out]
      rfl
    · obtain rfl : keep = 0 := Classical.not_not.1 h3
      have HOKK := Lib.hid (show ¬ evBad true false false 0 0 l from fun z => z.elim (fun z => absurd z.1 (by decide)) (fun z => z.elim (fun z => absurd rfl z.2) (fun z => absurd rfl z.2)))
      clear h2 h3
      have HS0 := Lib.hid (show kw.size ≤ 8 from by rw [HKW.out]; exact HSP.out)
      go_wp2_with fail
      have HBx := Lib.hid (below_alloc (below_alloc (Below.refl w.heap.size w) (.cells #[.int .i64 (i : Int), .int .i64 0, .int .i64 0, .slice A l.length c0] 29 (0, 0))) (.cells #[.string kw, .bool true, .bool false, .bool false] 68 (0, 0)))
      have HEx := Lib.hid (blk_alloc (blk_new w (.cells #[.int .i64 (i : Int), .int .i64 0, .int .i64 0, .slice A l.length c0] 29 (0, 0))) (.cells #[.string kw, .bool true, .bool false, .bool false] 68 (0, 0)))
      have HKx := Lib.hid (new_two w (.cells #[.int .i64 (i : Int), .int .i64 0, .int .i64 0, .slice A l.length c0] 29 (0, 0)) (.cells #[.string kw, .bool true, .bool false, .bool false] 68 (0, 0)))
      generalize (w.alloc (.cells #[.int .i64 (i : Int), .int .i64 0, .int .i64 0, .slice A l.length c0] 29)).alloc (.cells #[.string kw, .bool true, .bool false, .bool false] 68) = V0 at HBx HEx HKx ⊢
      clear q0 q1 q2 q3 ql
      refine (hex_walk A c0 l HB.out HL.out V0 (Kd.C_below HR.out HBx.out) HC.out).mono ?_
      rintro e U0 ⟨rfl, hbz⟩
      have HB0 := Lib.hid (below_step HBx.out hbz)
      have HE0 := Lib.hid (blk_below HEx.out hbz)
      have HK0 := Lib.hid (blk_below HKx.out hbz)
      clear hbz HBx HEx HKx
      obtain ⟨x0, hx0⟩ : ∃ x0, x0 = strOf (hexT l) := ⟨_, rfl⟩
      rw [← hx0]
      have HX0 := Lib.hid hx0
      have hz0 : x0.size ≤ 2000001 := by
        rw [hx0]
        rw [strOf_size]; have := hexT_len l; have := HL.out; omega
      clear hx0
      have hc0 := HS0.out
      have o0a : (9223372036854775807 < 1 + x0.size) = False := eq_false (by omega)
      have o0b : 1 + x0.size ≤ 9223372036854775807 := by omega
      have o0c : (9223372036854775807 < kw.size + (1 + x0.size)) = False := eq_false (by omega)
      have o0d : kw.size + (1 + x0.size) ≤ 9223372036854775807 := by omega
      have e0 := cell_of_cells HE0.out 0
      have e1 := cell_of_cells HE0.out 1
      have e2 := cell_of_cells HE0.out 2
      have e3 := cell_of_cells HE0.out 3
      have k0 := cell_of_cells HK0.out 0
      have k1 := cell_of_cells HK0.out 1
      have k2 := cell_of_cells HK0.out 2
      have k3 := cell_of_cells HK0.out 3
      simp only [List.getElem?_toArray, List.getElem?_cons_zero, List.getElem?_cons_succ] at e0 e1 e2 e3 k0 k1 k2 k3
      go_wp2_with fail
      go_ret2
      refine ⟨?_, HB0.out⟩
      rw [HEO.out, if_neg HOKK.out]
      refine congrArg (fun z => Ending.returned (Value.tuple #[.string z, .int .i64 0])) (show kw ++ (⟨#[32]⟩ ++ x0) = strOf (evText (ks, true, false, false) 0 0 l) from ?_)
      rw [HKW.out, HX0.out, str_cat]
      congr 1
      unfold evText
      simp
set_option maxHeartbeats 8000000 in
set_option maxRecDepth 100000 in
theorem event_z (i : Nat) (hi : i < 9) (ks : List UInt8) (hrow : kRows.getD i ([], false, false, false) = (ks, false, false, false)) (n keep : Int) (hn0 : -9223372036854775808 ≤ n) (hn1 : n ≤ 9223372036854775807) (hk0 : -9223372036854775808 ≤ keep) (hk1 : keep ≤ 9223372036854775807) (A : Option Addr) (c0 : Nat) (l : List Int) (hb : ∀ x ∈ l, 0 ≤ x ∧ x ≤ 255) (hl : l.length ≤ 1000000) (w : World) (hr : Kd.C (Kd.int .u8) w A l.length l) (hc : l.length ≤ c0) (hG : GlobT w) :
    Calls Tryd.prog 15 #[.agg #[.int .i64 (i : Int), .int .i64 n, .int .i64 keep, .slice A l.length c0]] w (EventPost (i : Int) n keep l w) := by
  have hks := row_len hrow hi
  have HKS := Lib.hid hks
  have HSP := Lib.hid (show (strOf ks).size ≤ 8 from by rw [strOf_size]; exact hks)
  have HEO := Lib.hid (show eventO (i : Int) n keep l = (if evBad false false false n keep l then ([], 10) else (evText (ks, false, false, false) n keep l, 0)) from by
    unfold eventO
    rw [if_neg (by omega), Int.toNat_natCast, hrow])
  have HB := Lib.hid hb
  have HR := Lib.hid hr
  have HG := Lib.hid hG
  have HL := Lib.hid hl
  have HC := Lib.hid hc
  have HN := Lib.hid (And.intro hn0 hn1)
  have HK := Lib.hid (And.intro hk0 hk1)
  have HROW := Lib.hid hrow
  clear hb hr hG hrow hn0 hn1 hk0 hk1 hks
  obtain ⟨q0, q1, q2, q3⟩ := kind_at HG.out hi HROW.out
  have ql := World.block_lt_of_cell? w ⟨0, i * 4, none⟩ q0
  simp only at ql
  have i0 : ¬ (i : Int) < 0 := by omega
  have i1 : ¬ (9 : Int) ≤ (i : Int) := by omega
  have i2 : (0 : Int) ≤ (i : Int) := by omega
  have i3 : (i : Int) < 9 := by omega
  obtain ⟨kw, hkw⟩ : ∃ kw : ByteArray, kw = ⟨ks.toArray⟩ := ⟨_, rfl⟩
  rw [← hkw] at q0
  have HKW := Lib.hid (show kw = strOf ks from hkw)
  clear hkw
  go_enter Tryd.func15, Tryd.ntmps15
  by_cases h1 : 0 < l.length
  · have t1 : (0 : Int) < (l.length : Int) := by omega
    have HBAD := Lib.hid (show evBad false false false n keep l from Or.inl ⟨rfl, h1⟩)
    go_wp2_with fail
    go_ret2
    refine ⟨?_, below_alloc (below_alloc (Below.refl _ _) _) _⟩
    rw [HEO.out, if_pos HBAD.out]
    rfl
  · obtain rfl : l = [] := List.eq_nil_of_length_eq_zero (by omega)
    by_cases h2 : n ≠ 0
    · have t2 : (n == 0) = false := beq_eq_false_iff_ne.2 h2
      have t2b : ¬ n = 0 := h2
      have HBAD := Lib.hid (show evBad false false false n keep [] from Or.inr (Or.inl ⟨rfl, h2⟩))
      go_wp2_with fail
      go_ret2
      refine ⟨?_, below_alloc (below_alloc (Below.refl _ _) _) _⟩
      rw [HEO.out, if_pos HBAD.out]
      rfl
    · obtain rfl : n = 0 := Classical.not_not.1 h2
      by_cases h3 : keep ≠ 0
      · have t3 : (keep == 0) = false := beq_eq_false_iff_ne.2 h3
        have t3b : ¬ keep = 0 := h3
        have HBAD := Lib.hid (show evBad false false false 0 keep [] from Or.inr (Or.inr ⟨rfl, h3⟩))
        go_wp2_with fail
        go_ret2
        refine ⟨?_, below_alloc (below_alloc (Below.refl _ _) _) _⟩
        rw [HEO.out, if_pos HBAD.out]
        rfl
      · obtain rfl : keep = 0 := Classical.not_not.1 h3
        have HOKK := Lib.hid (show ¬ evBad false false false 0 0 [] from fun z => z.elim (fun z => absurd z.2 (by decide)) (fun z => z.elim (fun z => absurd rfl z.2) (fun z => absurd rfl z.2)))
        clear h1 h2 h3
        have HS0 := Lib.hid (show kw.size ≤ 8 from by rw [HKW.out]; exact HSP.out)
        go_wp2_with fail
        go_ret2
        refine ⟨?_, below_alloc (below_alloc (Below.refl _ _) _) _⟩
        rw [HEO.out, if_neg HOKK.out, HKW.out]
        exact congrArg (fun z => Ending.returned (Value.tuple #[.string (strOf z), .int .i64 0])) (by unfold evText; simp)
set_option maxHeartbeats 8000000 in
set_option maxRecDepth 100000 in
theorem event_c (i : Nat) (hi : i < 9) (ks : List UInt8) (hrow : kRows.getD i ([], false, false, false) = (ks, false, true, false)) (n keep : Int) (hn0 : -9223372036854775808 ≤ n) (hn1 : n ≤ 9223372036854775807) (hk0 : -9223372036854775808 ≤ keep) (hk1 : keep ≤ 9223372036854775807) (A : Option Addr) (c0 : Nat) (l : List Int) (hb : ∀ x ∈ l, 0 ≤ x ∧ x ≤ 255) (hl : l.length ≤ 1000000) (w : World) (hr : Kd.C (Kd.int .u8) w A l.length l) (hc : l.length ≤ c0) (hG : GlobT w) :
    Calls Tryd.prog 15 #[.agg #[.int .i64 (i : Int), .int .i64 n, .int .i64 keep, .slice A l.length c0]] w (EventPost (i : Int) n keep l w) := by
  have hks := row_len hrow hi
  have HKS := Lib.hid hks
  have HSP := Lib.hid (show (strOf ks).size ≤ 8 from by rw [strOf_size]; exact hks)
  have HEO := Lib.hid (show eventO (i : Int) n keep l = (if evBad false true false n keep l then ([], 10) else (evText (ks, false, true, false) n keep l, 0)) from by
    unfold eventO
    rw [if_neg (by omega), Int.toNat_natCast, hrow])
  have HB := Lib.hid hb
  have HR := Lib.hid hr
  have HG := Lib.hid hG
  have HL := Lib.hid hl
  have HC := Lib.hid hc
  have HN := Lib.hid (And.intro hn0 hn1)
  have HK := Lib.hid (And.intro hk0 hk1)
  have HROW := Lib.hid hrow
  clear hb hr hG hrow hn0 hn1 hk0 hk1 hks
  obtain ⟨q0, q1, q2, q3⟩ := kind_at HG.out hi HROW.out
  have ql := World.block_lt_of_cell? w ⟨0, i * 4, none⟩ q0
  simp only at ql
  have i0 : ¬ (i : Int) < 0 := by omega
  have i1 : ¬ (9 : Int) ≤ (i : Int) := by omega
  have i2 : (0 : Int) ≤ (i : Int) := by omega
  have i3 : (i : Int) < 9 := by omega
  obtain ⟨kw, hkw⟩ : ∃ kw : ByteArray, kw = ⟨ks.toArray⟩ := ⟨_, rfl⟩
  rw [← hkw] at q0
  have HKW := Lib.hid (show kw = strOf ks from hkw)
  clear hkw
  go_enter Tryd.func15, Tryd.ntmps15
  by_cases h1 : 0 < l.length
  · have t1 : (0 : Int) < (l.length : Int) := by omega
    have HBAD := Lib.hid (show evBad false true false n keep l from Or.inl ⟨rfl, h1⟩)
    go_wp2_with fail
    go_ret2
    refine ⟨?_, below_alloc (below_alloc (Below.refl _ _) _) _⟩
    rw [HEO.out, if_pos HBAD.out]
    rfl
  · obtain rfl : l = [] := List.eq_nil_of_length_eq_zero (by omega)
    by_cases h3 : keep ≠ 0
    · have t3 : (keep == 0) = false := beq_eq_false_iff_ne.2 h3
      have t3b : ¬ keep = 0 := h3
      have HBAD := Lib.hid (show evBad false true false n keep [] from Or.inr (Or.inr ⟨rfl, h3⟩))
      go_wp2_with fail
      go_ret2
      refine ⟨?_, below_alloc (below_alloc (Below.refl _ _) _) _⟩
      rw [HEO.out, if_pos HBAD.out]
      rfl
    · obtain rfl : keep = 0 := Classical.not_not.1 h3
      have HOKK := Lib.hid (show ¬ evBad false true false n 0 [] from fun z => z.elim (fun z => absurd z.2 (by decide)) (fun z => z.elim (fun z => absurd z.1 (by decide)) (fun z => absurd rfl z.2)))
      clear h1 h3
      have HS0 := Lib.hid (show kw.size ≤ 8 from by rw [HKW.out]; exact HSP.out)
      go_wp2_with fail
      have HBx := Lib.hid (below_alloc (below_alloc (Below.refl w.heap.size w) (.cells #[.int .i64 (i : Int), .int .i64 n, .int .i64 0, .slice A 0 c0] 29 (0, 0))) (.cells #[.string kw, .bool false, .bool true, .bool false] 68 (0, 0)))
      have HEx := Lib.hid (blk_alloc (blk_new w (.cells #[.int .i64 (i : Int), .int .i64 n, .int .i64 0, .slice A 0 c0] 29 (0, 0))) (.cells #[.string kw, .bool false, .bool true, .bool false] 68 (0, 0)))
      have HKx := Lib.hid (new_two w (.cells #[.int .i64 (i : Int), .int .i64 n, .int .i64 0, .slice A 0 c0] 29 (0, 0)) (.cells #[.string kw, .bool false, .bool true, .bool false] 68 (0, 0)))
      generalize (w.alloc (.cells #[.int .i64 (i : Int), .int .i64 n, .int .i64 0, .slice A 0 c0] 29)).alloc (.cells #[.string kw, .bool false, .bool true, .bool false] 68) = V0 at HBx HEx HKx ⊢
      clear q0 q1 q2 q3 ql
      refine (itoa_walk n HN.out.1 HN.out.2 V0 (globt_below HG.out HBx.out).pow).mono ?_
      rintro e U0 ⟨rfl, hbz⟩
      have HB0 := Lib.hid (below_step HBx.out hbz)
      have HE0 := Lib.hid (blk_below HEx.out hbz)
      have HK0 := Lib.hid (blk_below HKx.out hbz)
      clear hbz HBx HEx HKx
      obtain ⟨x0, hx0⟩ : ∃ x0, x0 = strOf (Lib.itoa n) := ⟨_, rfl⟩
      rw [show (⟨(Lib.itoa n).toArray⟩ : ByteArray) = x0 from hx0.symm]
      have HX0 := Lib.hid hx0
      have hz0 : x0.size ≤ 21 := by
        rw [hx0]
        exact itoa_size HN.out.1 HN.out.2
      clear hx0
      have hc0 := HS0.out
      have o0a : (9223372036854775807 < 1 + x0.size) = False := eq_false (by omega)
      have o0b : 1 + x0.size ≤ 9223372036854775807 := by omega
      have o0c : (9223372036854775807 < kw.size + (1 + x0.size)) = False := eq_false (by omega)
      have o0d : kw.size + (1 + x0.size) ≤ 9223372036854775807 := by omega
      have e0 := cell_of_cells HE0.out 0
      have e1 := cell_of_cells HE0.out 1
      have e2 := cell_of_cells HE0.out 2
      have e3 := cell_of_cells HE0.out 3
      have k0 := cell_of_cells HK0.out 0
      have k1 := cell_of_cells HK0.out 1
      have k2 := cell_of_cells HK0.out 2
      have k3 := cell_of_cells HK0.out 3
      simp only [List.getElem?_toArray, List.getElem?_cons_zero, List.getElem?_cons_succ] at e0 e1 e2 e3 k0 k1 k2 k3
      go_wp2_with fail
      go_ret2
      refine ⟨?_, HB0.out⟩
      rw [HEO.out, if_neg HOKK.out]
      refine congrArg (fun z => Ending.returned (Value.tuple #[.string z, .int .i64 0])) (show kw ++ (⟨#[32]⟩ ++ x0) = strOf (evText (ks, false, true, false) n 0 []) from ?_)
      rw [HKW.out, HX0.out, str_cat]
      congr 1
      unfold evText
      simp
set_option maxHeartbeats 8000000 in
set_option maxRecDepth 100000 in
theorem event_ck (i : Nat) (hi : i < 9) (ks : List UInt8) (hrow : kRows.getD i ([], false, false, false) = (ks, false, true, true)) (n keep : Int) (hn0 : -9223372036854775808 ≤ n) (hn1 : n ≤ 9223372036854775807) (hk0 : -9223372036854775808 ≤ keep) (hk1 : keep ≤ 9223372036854775807) (A : Option Addr) (c0 : Nat) (l : List Int) (hb : ∀ x ∈ l, 0 ≤ x ∧ x ≤ 255) (hl : l.length ≤ 1000000) (w : World) (hr : Kd.C (Kd.int .u8) w A l.length l) (hc : l.length ≤ c0) (hG : GlobT w) :
    Calls Tryd.prog 15 #[.agg #[.int .i64 (i : Int), .int .i64 n, .int .i64 keep, .slice A l.length c0]] w (EventPost (i : Int) n keep l w) := by
  have hks := row_len hrow hi
  have HKS := Lib.hid hks
  have HSP := Lib.hid (show (strOf ks).size ≤ 8 from by rw [strOf_size]; exact hks)
  have HEO := Lib.hid (show eventO (i : Int) n keep l = (if evBad false true true n keep l then ([], 10) else (evText (ks, false, true, true) n keep l, 0)) from by
    unfold eventO
    rw [if_neg (by omega), Int.toNat_natCast, hrow])
  have HB := Lib.hid hb
  have HR := Lib.hid hr
  have HG := Lib.hid hG
  have HL := Lib.hid hl
  have HC := Lib.hid hc
  have HN := Lib.hid (And.intro hn0 hn1)
  have HK := Lib.hid (And.intro hk0 hk1)
  have HROW := Lib.hid hrow
  clear hb hr hG hrow hn0 hn1 hk0 hk1 hks
  obtain ⟨q0, q1, q2, q3⟩ := kind_at HG.out hi HROW.out
  have ql := World.block_lt_of_cell? w ⟨0, i * 4, none⟩ q0
  simp only at ql
  have i0 : ¬ (i : Int) < 0 := by omega
  have i1 : ¬ (9 : Int) ≤ (i : Int) := by omega
  have i2 : (0 : Int) ≤ (i : Int) := by omega
  have i3 : (i : Int) < 9 := by omega
  obtain ⟨kw, hkw⟩ : ∃ kw : ByteArray, kw = ⟨ks.toArray⟩ := ⟨_, rfl⟩
  rw [← hkw] at q0
  have HKW := Lib.hid (show kw = strOf ks from hkw)
  clear hkw
  go_enter Tryd.func15, Tryd.ntmps15
  by_cases h1 : 0 < l.length
  · have t1 : (0 : Int) < (l.length : Int) := by omega
    have HBAD := Lib.hid (show evBad false true true n keep l from Or.inl ⟨rfl, h1⟩)
    go_wp2_with fail
    go_ret2
    refine ⟨?_, below_alloc (below_alloc (Below.refl _ _) _) _⟩
    rw [HEO.out, if_pos HBAD.out]
    rfl
  · obtain rfl : l = [] := List.eq_nil_of_length_eq_zero (by omega)
    have HOKK := Lib.hid (show ¬ evBad false true true n keep [] from fun z => z.elim (fun z => absurd z.2 (by decide)) (fun z => z.elim (fun z => absurd z.1 (by decide)) (fun z => absurd z.1 (by decide))))
    clear h1
    have HS0 := Lib.hid (show kw.size ≤ 8 from by rw [HKW.out]; exact HSP.out)
    go_wp2_with fail
    have HBx := Lib.hid (below_alloc (below_alloc (Below.refl w.heap.size w) (.cells #[.int .i64 (i : Int), .int .i64 n, .int .i64 keep, .slice A 0 c0] 29 (0, 0))) (.cells #[.string kw, .bool false, .bool true, .bool true] 68 (0, 0)))
    have HEx := Lib.hid (blk_alloc (blk_new w (.cells #[.int .i64 (i : Int), .int .i64 n, .int .i64 keep, .slice A 0 c0] 29 (0, 0))) (.cells #[.string kw, .bool false, .bool true, .bool true] 68 (0, 0)))
    have HKx := Lib.hid (new_two w (.cells #[.int .i64 (i : Int), .int .i64 n, .int .i64 keep, .slice A 0 c0] 29 (0, 0)) (.cells #[.string kw, .bool false, .bool true, .bool true] 68 (0, 0)))
    generalize (w.alloc (.cells #[.int .i64 (i : Int), .int .i64 n, .int .i64 keep, .slice A 0 c0] 29)).alloc (.cells #[.string kw, .bool false, .bool true, .bool true] 68) = V0 at HBx HEx HKx ⊢
    clear q0 q1 q2 q3 ql
    refine (itoa_walk n HN.out.1 HN.out.2 V0 (globt_below HG.out HBx.out).pow).mono ?_
    rintro e U0 ⟨rfl, hbz⟩
    have HB0 := Lib.hid (below_step HBx.out hbz)
    have HE0 := Lib.hid (blk_below HEx.out hbz)
    have HK0 := Lib.hid (blk_below HKx.out hbz)
    clear hbz HBx HEx HKx
    obtain ⟨x0, hx0⟩ : ∃ x0, x0 = strOf (Lib.itoa n) := ⟨_, rfl⟩
    rw [show (⟨(Lib.itoa n).toArray⟩ : ByteArray) = x0 from hx0.symm]
    have HX0 := Lib.hid hx0
    have hz0 : x0.size ≤ 21 := by
      rw [hx0]
      exact itoa_size HN.out.1 HN.out.2
    clear hx0
    have hc0 := HS0.out
    have o0a : (9223372036854775807 < 1 + x0.size) = False := eq_false (by omega)
    have o0b : 1 + x0.size ≤ 9223372036854775807 := by omega
    have o0c : (9223372036854775807 < kw.size + (1 + x0.size)) = False := eq_false (by omega)
    have o0d : kw.size + (1 + x0.size) ≤ 9223372036854775807 := by omega
    have e0 := cell_of_cells HE0.out 0
    have e1 := cell_of_cells HE0.out 1
    have e2 := cell_of_cells HE0.out 2
    have e3 := cell_of_cells HE0.out 3
    have k0 := cell_of_cells HK0.out 0
    have k1 := cell_of_cells HK0.out 1
    have k2 := cell_of_cells HK0.out 2
    have k3 := cell_of_cells HK0.out 3
    simp only [List.getElem?_toArray, List.getElem?_cons_zero, List.getElem?_cons_succ] at e0 e1 e2 e3 k0 k1 k2 k3
    go_wp2_with fail
    obtain ⟨y0, hy0⟩ : ∃ y0, y0 = kw ++ (⟨#[32]⟩ ++ x0) := ⟨_, rfl⟩
    rw [← hy0]
    have HY0 := Lib.hid (show y0 = strOf (ks ++ 32 :: Lib.itoa n) from by rw [hy0, HKW.out, HX0.out, str_cat])
    have HSY0 := Lib.hid (show y0.size ≤ 30 from by rw [hy0, ByteArray.size_append, ByteArray.size_append]; show kw.size + (1 + x0.size) ≤ 30; omega)
    clear hy0 o0a o0b o0c o0d hc0 hz0
    refine (itoa_walk keep HK.out.1 HK.out.2 U0 (globt_below HG.out HB0.out).pow).mono ?_
    rintro e U1 ⟨rfl, hbz⟩
    have HB1 := Lib.hid (below_step HB0.out hbz)
    have HE1 := Lib.hid (blk_below HE0.out hbz)
    have HK1 := Lib.hid (blk_below HK0.out hbz)
    clear hbz HB0 HE0 HK0
    obtain ⟨x1, hx1⟩ : ∃ x1, x1 = strOf (Lib.itoa keep) := ⟨_, rfl⟩
    rw [show (⟨(Lib.itoa keep).toArray⟩ : ByteArray) = x1 from hx1.symm]
    have HX1 := Lib.hid hx1
    have hz1 : x1.size ≤ 21 := by
      rw [hx1]
      exact itoa_size HK.out.1 HK.out.2
    clear hx1
    have hc1 := HSY0.out
    have o1a : (9223372036854775807 < 1 + x1.size) = False := eq_false (by omega)
    have o1b : 1 + x1.size ≤ 9223372036854775807 := by omega
    have o1c : (9223372036854775807 < y0.size + (1 + x1.size)) = False := eq_false (by omega)
    have o1d : y0.size + (1 + x1.size) ≤ 9223372036854775807 := by omega
    have e0 := cell_of_cells HE1.out 0
    have e1 := cell_of_cells HE1.out 1
    have e2 := cell_of_cells HE1.out 2
    have e3 := cell_of_cells HE1.out 3
    have k0 := cell_of_cells HK1.out 0
    have k1 := cell_of_cells HK1.out 1
    have k2 := cell_of_cells HK1.out 2
    have k3 := cell_of_cells HK1.out 3
    simp only [List.getElem?_toArray, List.getElem?_cons_zero, List.getElem?_cons_succ] at e0 e1 e2 e3 k0 k1 k2 k3
    go_wp2_with fail
    go_ret2
    refine ⟨?_, HB1.out⟩
    rw [HEO.out, if_neg HOKK.out]
    refine congrArg (fun z => Ending.returned (Value.tuple #[.string z, .int .i64 0])) (show y0 ++ (⟨#[32]⟩ ++ x1) = strOf (evText (ks, false, true, true) n keep []) from ?_)
    rw [HY0.out, HX1.out, str_cat]
    congr 1
    unfold evText
    simp
set_option maxHeartbeats 8000000 in
set_option maxRecDepth 100000 in
theorem event_k (i : Nat) (hi : i < 9) (ks : List UInt8) (hrow : kRows.getD i ([], false, false, false) = (ks, false, false, true)) (n keep : Int) (hn0 : -9223372036854775808 ≤ n) (hn1 : n ≤ 9223372036854775807) (hk0 : -9223372036854775808 ≤ keep) (hk1 : keep ≤ 9223372036854775807) (A : Option Addr) (c0 : Nat) (l : List Int) (hb : ∀ x ∈ l, 0 ≤ x ∧ x ≤ 255) (hl : l.length ≤ 1000000) (w : World) (hr : Kd.C (Kd.int .u8) w A l.length l) (hc : l.length ≤ c0) (hG : GlobT w) :
    Calls Tryd.prog 15 #[.agg #[.int .i64 (i : Int), .int .i64 n, .int .i64 keep, .slice A l.length c0]] w (EventPost (i : Int) n keep l w) := by
  have hks := row_len hrow hi
  have HKS := Lib.hid hks
  have HSP := Lib.hid (show (strOf ks).size ≤ 8 from by rw [strOf_size]; exact hks)
  have HEO := Lib.hid (show eventO (i : Int) n keep l = (if evBad false false true n keep l then ([], 10) else (evText (ks, false, false, true) n keep l, 0)) from by
    unfold eventO
    rw [if_neg (by omega), Int.toNat_natCast, hrow])
  have HB := Lib.hid hb
  have HR := Lib.hid hr
  have HG := Lib.hid hG
  have HL := Lib.hid hl
  have HC := Lib.hid hc
  have HN := Lib.hid (And.intro hn0 hn1)
  have HK := Lib.hid (And.intro hk0 hk1)
  have HROW := Lib.hid hrow
  clear hb hr hG hrow hn0 hn1 hk0 hk1 hks
  obtain ⟨q0, q1, q2, q3⟩ := kind_at HG.out hi HROW.out
  have ql := World.block_lt_of_cell? w ⟨0, i * 4, none⟩ q0
  simp only at ql
  have i0 : ¬ (i : Int) < 0 := by omega
  have i1 : ¬ (9 : Int) ≤ (i : Int) := by omega
  have i2 : (0 : Int) ≤ (i : Int) := by omega
  have i3 : (i : Int) < 9 := by omega
  obtain ⟨kw, hkw⟩ : ∃ kw : ByteArray, kw = ⟨ks.toArray⟩ := ⟨_, rfl⟩
  rw [← hkw] at q0
  have HKW := Lib.hid (show kw = strOf ks from hkw)
  clear hkw
  go_enter Tryd.func15, Tryd.ntmps15
  by_cases h1 : 0 < l.length
  · have t1 : (0 : Int) < (l.length : Int) := by omega
    have HBAD := Lib.hid (show evBad false false true n keep l from Or.inl ⟨rfl, h1⟩)
    go_wp2_with fail
    go_ret2
    refine ⟨?_, below_alloc (below_alloc (Below.refl _ _) _) _⟩
    rw [HEO.out, if_pos HBAD.out]
    rfl
  · obtain rfl : l = [] := List.eq_nil_of_length_eq_zero (by omega)
    by_cases h2 : n ≠ 0
    · have t2 : (n == 0) = false := beq_eq_false_iff_ne.2 h2
      have t2b : ¬ n = 0 := h2
      have HBAD := Lib.hid (show evBad false false true n keep [] from Or.inr (Or.inl ⟨rfl, h2⟩))
      go_wp2_with fail
      go_ret2
      refine ⟨?_, below_alloc (below_alloc (Below.refl _ _) _) _⟩
      rw [HEO.out, if_pos HBAD.out]
      rfl
    · obtain rfl : n = 0 := Classical.not_not.1 h2
      have HOKK := Lib.hid (show ¬ evBad false false true 0 keep [] from fun z => z.elim (fun z => absurd z.2 (by decide)) (fun z => z.elim (fun z => absurd rfl z.2) (fun z => absurd z.1 (by decide))))
      clear h1 h2
      have HS0 := Lib.hid (show kw.size ≤ 8 from by rw [HKW.out]; exact HSP.out)
      go_wp2_with fail
      have HBx := Lib.hid (below_alloc (below_alloc (Below.refl w.heap.size w) (.cells #[.int .i64 (i : Int), .int .i64 0, .int .i64 keep, .slice A 0 c0] 29 (0, 0))) (.cells #[.string kw, .bool false, .bool false, .bool true] 68 (0, 0)))
      have HEx := Lib.hid (blk_alloc (blk_new w (.cells #[.int .i64 (i : Int), .int .i64 0, .int .i64 keep, .slice A 0 c0] 29 (0, 0))) (.cells #[.string kw, .bool false, .bool false, .bool true] 68 (0, 0)))
      have HKx := Lib.hid (new_two w (.cells #[.int .i64 (i : Int), .int .i64 0, .int .i64 keep, .slice A 0 c0] 29 (0, 0)) (.cells #[.string kw, .bool false, .bool false, .bool true] 68 (0, 0)))
      generalize (w.alloc (.cells #[.int .i64 (i : Int), .int .i64 0, .int .i64 keep, .slice A 0 c0] 29)).alloc (.cells #[.string kw, .bool false, .bool false, .bool true] 68) = V0 at HBx HEx HKx ⊢
      clear q0 q1 q2 q3 ql
      refine (itoa_walk keep HK.out.1 HK.out.2 V0 (globt_below HG.out HBx.out).pow).mono ?_
      rintro e U0 ⟨rfl, hbz⟩
      have HB0 := Lib.hid (below_step HBx.out hbz)
      have HE0 := Lib.hid (blk_below HEx.out hbz)
      have HK0 := Lib.hid (blk_below HKx.out hbz)
      clear hbz HBx HEx HKx
      obtain ⟨x0, hx0⟩ : ∃ x0, x0 = strOf (Lib.itoa keep) := ⟨_, rfl⟩
      rw [show (⟨(Lib.itoa keep).toArray⟩ : ByteArray) = x0 from hx0.symm]
      have HX0 := Lib.hid hx0
      have hz0 : x0.size ≤ 21 := by
        rw [hx0]
        exact itoa_size HK.out.1 HK.out.2
      clear hx0
      have hc0 := HS0.out
      have o0a : (9223372036854775807 < 1 + x0.size) = False := eq_false (by omega)
      have o0b : 1 + x0.size ≤ 9223372036854775807 := by omega
      have o0c : (9223372036854775807 < kw.size + (1 + x0.size)) = False := eq_false (by omega)
      have o0d : kw.size + (1 + x0.size) ≤ 9223372036854775807 := by omega
      have e0 := cell_of_cells HE0.out 0
      have e1 := cell_of_cells HE0.out 1
      have e2 := cell_of_cells HE0.out 2
      have e3 := cell_of_cells HE0.out 3
      have k0 := cell_of_cells HK0.out 0
      have k1 := cell_of_cells HK0.out 1
      have k2 := cell_of_cells HK0.out 2
      have k3 := cell_of_cells HK0.out 3
      simp only [List.getElem?_toArray, List.getElem?_cons_zero, List.getElem?_cons_succ] at e0 e1 e2 e3 k0 k1 k2 k3
      go_wp2_with fail
      go_ret2
      refine ⟨?_, HB0.out⟩
      rw [HEO.out, if_neg HOKK.out]
      refine congrArg (fun z => Ending.returned (Value.tuple #[.string z, .int .i64 0])) (show kw ++ (⟨#[32]⟩ ++ x0) = strOf (evText (ks, false, false, true) 0 keep []) from ?_)
      rw [HKW.out, HX0.out, str_cat]
      congr 1
      unfold evText
      simp
end Go.Proofs.YtoloooammaiipaaDoor
/- What trace.Event gives, of any event; conditions: bytes, at most a million; the tables lie as the program's text lays them. -/
namespace Go.Proofs.YtoloooammaiipaaDoor
open Go Go.RowKit Go.Proofs.YtoloooammaiipaaDoor.PI Go.Proofs.YtoloooammaiipaaDoorW.PrintWords Go.Proofs.YtoloooammaiipaaDoorW.PrintLast Go.Proofs.YtoloooammaiipaaDoorW.PrintMore
set_option linter.unusedVariables false
set_option linter.unusedSimpArgs false
set_option maxHeartbeats 8000000 in
set_option maxRecDepth 100000 in
theorem event_out (k n keep : Int) (hk : k < 0 ∨ 9 ≤ k) (A : Option Addr) (c0 : Nat) (l : List Int) (w : World) :
    Calls Tryd.prog 15 #[.agg #[.int .i64 k, .int .i64 n, .int .i64 keep, .slice A l.length c0]] w (EventPost k n keep l w) := by
  have HEO := Lib.hid (show eventO k n keep l = ([], 17) from if_pos hk)
  go_enter Tryd.func15, Tryd.ntmps15
  by_cases h : k < 0
  · clear hk
    go_wp2_with fail
    go_ret2
    refine ⟨?_, below_alloc (Below.refl _ _) _⟩
    rw [HEO.out]
    rfl
  · have h2 : (9 : Int) ≤ k := hk.elim (fun z => absurd z h) id
    have h3 : (0 : Int) ≤ k := by omega
    clear hk
    go_wp2_with fail
    go_ret2
    refine ⟨?_, below_alloc (Below.refl _ _) _⟩
    rw [HEO.out]
    rfl
theorem event_walk (k n keep : Int) (hn0 : -9223372036854775808 ≤ n) (hn1 : n ≤ 9223372036854775807) (hk0 : -9223372036854775808 ≤ keep) (hk1 : keep ≤ 9223372036854775807) (A : Option Addr) (c0 : Nat) (l : List Int) (hb : ∀ x ∈ l, 0 ≤ x ∧ x ≤ 255) (hl : l.length ≤ 1000000) (w : World) (hr : Kd.C (Kd.int .u8) w A l.length l) (hc : l.length ≤ c0) (hG : GlobT w) :
    Calls Tryd.prog 15 #[.agg #[.int .i64 k, .int .i64 n, .int .i64 keep, .slice A l.length c0]] w (EventPost k n keep l w) := by
  by_cases hk : k < 0 ∨ 9 ≤ k
  · exact event_out k n keep hk A c0 l w
  obtain ⟨i, rfl⟩ : ∃ i : Nat, k = (i : Int) := ⟨k.toNat, by omega⟩
  have hi : i < 9 := by omega
  obtain ⟨ks, fd, fc, fk, h⟩ : ∃ ks fd fc fk, kRows.getD i ([], false, false, false) = (ks, fd, fc, fk) := ⟨_, _, _, _, rfl⟩
  have key : ∀ j : Fin 9, (kRows.getD j.1 ([], false, false, false)).2 = (true, false, false) ∨ (kRows.getD j.1 ([], false, false, false)).2 = (false, false, false) ∨ (kRows.getD j.1 ([], false, false, false)).2 = (false, true, false) ∨ (kRows.getD j.1 ([], false, false, false)).2 = (false, true, true) ∨ (kRows.getD j.1 ([], false, false, false)).2 = (false, false, true) := by decide
  have hk2 := key ⟨i, hi⟩
  simp only at hk2
  rw [h] at hk2
  simp only [Prod.mk.injEq] at hk2
  rcases hk2 with ⟨rfl, rfl, rfl⟩ | ⟨rfl, rfl, rfl⟩ | ⟨rfl, rfl, rfl⟩ | ⟨rfl, rfl, rfl⟩ | ⟨rfl, rfl, rfl⟩
  · exact event_d i hi ks h n keep hn0 hn1 hk0 hk1 A c0 l hb hl w hr hc hG
  · exact event_z i hi ks h n keep hn0 hn1 hk0 hk1 A c0 l hb hl w hr hc hG
  · exact event_c i hi ks h n keep hn0 hn1 hk0 hk1 A c0 l hb hl w hr hc hG
  · exact event_ck i hi ks h n keep hn0 hn1 hk0 hk1 A c0 l hb hl w hr hc hG
  · exact event_k i hi ks h n keep hn0 hn1 hk0 hk1 A c0 l hb hl w hr hc hG
end Go.Proofs.YtoloooammaiipaaDoor
-- Written by a program of this work (the kit's print, with contracts of this work's own taken in) out of the translation. Not trusted: Lean checks it.
namespace Go.Proofs.YtoloooammaiipaaDoor.PK
open Go.RowKit Go.Proofs.YtoloooammaiipaaDoorW.PrintWords Go.Proofs.YtoloooammaiipaaDoorW.PrintLast Go.Proofs.YtoloooammaiipaaDoorW.PrintMore
attribute [local go_sem] max2_int min2_int max_two min_two max_three min_three max_four min_four   -- for this text's walks alone
set_option linter.unusedVariables false
set_option linter.unusedSimpArgs false

/-! ### trace_Event: function 15 -/
def trace_Event.f (a0_0 : Int) (a0_1 : Int) (a0_2 : Int) (l0_3 : List Int) : Option (ByteArray × Int) :=
  if (∀ x ∈ l0_3, 0 ≤ x ∧ x ≤ 255) ∧ l0_3.length ≤ 1000000 ∧ -9223372036854775808 ≤ a0_1 ∧ a0_1 ≤ 9223372036854775807 ∧ -9223372036854775808 ≤ a0_2 ∧ a0_2 ≤ 9223372036854775807 then some (strOf (eventO a0_0 a0_1 a0_2 l0_3).1, (eventO a0_0 a0_1 a0_2 l0_3).2) else none
theorem trace_Event.calls (a0_0 : Int) (a0_1 : Int) (a0_2 : Int) (A0_3 : Option Addr) (c0_3 : Nat) (l0_3 : List Int) (r1 : ByteArray) (r2 : Int) (w : World) (hr0_3 : Kd.C (Kd.int .u8) w A0_3 l0_3.length l0_3) (hc0_3 : l0_3.length ≤ c0_3) (h : trace_Event.f a0_0 a0_1 a0_2 l0_3 = some (r1, r2)) (hGT : GlobT w) :
    Calls Tryd.prog 15 #[.agg #[.int .i64 a0_0, .int .i64 a0_1, .int .i64 a0_2, .slice A0_3 l0_3.length c0_3]] w fun e w' => e = .returned (.tuple #[.string r1, .int .i64 r2]) ∧ Below w.heap.size w w' := by
  unfold trace_Event.f at h
  split at h
  · rename_i hq
    obtain ⟨hb, hl, h1, h2, h3, h4⟩ := hq
    have h5 := Option.some.inj h
    simp only [Prod.mk.injEq] at h5
    obtain ⟨rfl, rfl⟩ := h5
    exact event_walk a0_0 a0_1 a0_2 h1 h2 h3 h4 A0_3 c0_3 l0_3 hb hl w hr0_3 hc0_3 hGT
  · cases h


end Go.Proofs.YtoloooammaiipaaDoor.PK
-- Written by a program of this work (the kit's print, with contracts of this work's own taken in) out of the translation. Not trusted: Lean checks it.
namespace Go.Proofs.YtoloooammaiipaaDoor.PK
open Go.RowKit Go.Proofs.YtoloooammaiipaaDoorW.PrintWords Go.Proofs.YtoloooammaiipaaDoorW.PrintLast Go.Proofs.YtoloooammaiipaaDoorW.PrintMore
attribute [local go_sem] max2_int min2_int max_two min_two max_three min_three max_four min_four   -- for this text's walks alone
set_option linter.unusedVariables false
set_option linter.unusedSimpArgs false

/-! ### trace_Read: function 17 -/
def trace_Read.f (a0 : ByteArray) : Option (Int × Int × Int × List Int × Int) :=
  if a0.size ≤ 100000 then some ((readO a0.data.toList).elim 0 (fun x => (x.1 : Int)), (readO a0.data.toList).elim 0 (fun x => x.2.2.1), (readO a0.data.toList).elim 0 (fun x => x.2.2.2), (readO a0.data.toList).elim [] (fun x => x.2.1), (readO a0.data.toList).elim 10 (fun _ => 0)) else none
theorem trace_Read.calls (a0 : ByteArray) (r1 : Int) (r2 : Int) (r3 : Int) (r4 : List Int) (r5 : Int) (w : World) (h : trace_Read.f a0 = some (r1, r2, r3, r4, r5)) (hGT : GlobT w) :
    Calls Tryd.prog 17 #[.string a0] w fun e w' => ∃ v3_ : Value, e = .returned (.tuple #[.agg #[.int .i64 r1, .int .i64 r2, .int .i64 r3, v3_], .int .i64 r5]) ∧ Kd.R (Kd.int .u8) 5 w' w.heap.size (fun _ => True) v3_ r4 ∧ Below w.heap.size w w' := by
  unfold trace_Read.f at h
  split at h
  · rename_i hq
    have h5 := Option.some.inj h
    simp only [Prod.mk.injEq] at h5
    obtain ⟨rfl, rfl, rfl, rfl, rfl⟩ := h5
    refine (read_walk a0 hq w hGT).mono ?_
    rintro e w' ⟨hb, v, hR, rfl⟩
    exact ⟨v, rfl, hR, hb⟩
  · cases h


end Go.Proofs.YtoloooammaiipaaDoor.PK
-- Written by a program of this work (the kit's print, with contracts of this work's own taken in) out of the translation. Not trusted: Lean checks it.
namespace Go.Proofs.YtoloooammaiipaaDoor.PK
open Go.RowKit Go.Proofs.YtoloooammaiipaaDoorW.PrintWords Go.Proofs.YtoloooammaiipaaDoorW.PrintLast Go.Proofs.YtoloooammaiipaaDoorW.PrintMore
attribute [local go_sem] max2_int min2_int max_two min_two max_three min_three max_four min_four   -- for this text's walks alone
set_option linter.unusedVariables false
set_option linter.unusedSimpArgs false

/-! ### lamplighterlaw19_alive: function 10 -/
def lamplighterlaw19_alive.f : Option (Bool) := some true
theorem lamplighterlaw19_alive.calls (r : Bool) (w : World) (h : lamplighterlaw19_alive.f = some r) (hGT : GlobT w) :
    Calls Tryd.prog 10 #[] w fun e w' => e = .returned (.bool r) ∧ Below w.heap.size w w' := by
  obtain rfl := Option.some.inj h
  exact alive_walk w hGT


end Go.Proofs.YtoloooammaiipaaDoor.PK
-- Written by a program of this work (the kit's print, with contracts of this work's own taken in) out of the translation. Not trusted: Lean checks it.
namespace Go.Proofs.YtoloooammaiipaaDoor.PK
open Go.RowKit Go.Proofs.YtoloooammaiipaaDoorW.PrintWords Go.Proofs.YtoloooammaiipaaDoorW.PrintLast Go.Proofs.YtoloooammaiipaaDoorW.PrintMore
attribute [local go_sem] max2_int min2_int max_two min_two max_three min_three max_four min_four   -- for this text's walks alone
set_option linter.unusedVariables false
set_option linter.unusedSimpArgs false

/-! ### lamplighterlaw19_TraceNumbers: function 5 -/
def lamplighterlaw19_TraceNumbers.j0 : Nat → Int → Bool → Option (Bool)
  | 0, _, _ => none
  | k + 1, x5, x63 => if x63 = true then (some false) else ((trace_Event.f 4 x5 0 ([] : List Int)).bind fun bt167 => (if (bt167.1.size : Int) < 6 then (some false) else (if 5 ≤ (bt167.1.size : Int) then (if 6 + (bt167.1.extract 5 bt167.1.size).size ≤ 9223372036854775807 then ((trace_Read.f ((⟨#[116, 105, 99, 107, 32, 48]⟩ : ByteArray) ++ (bt167.1.extract 5 bt167.1.size))).bind fun bt169 => ((trace_Read.f ((⟨#[116, 105, 99, 107, 32, 43]⟩ : ByteArray) ++ (bt167.1.extract 5 bt167.1.size))).bind fun bt177 => (if bt167.1.size + 1 ≤ 9223372036854775807 then (if (bt167.1 ++ (⟨#[32]⟩ : ByteArray)).size + (bt167.1.extract 5 bt167.1.size).size ≤ 9223372036854775807 then ((trace_Read.f ((bt167.1 ++ (⟨#[32]⟩ : ByteArray)) ++ (bt167.1.extract 5 bt167.1.size))).bind fun bt185 => (if bt169.2.2.2.2 = 10 then (if bt177.2.2.2.2 = 10 then (some (bt185.2.2.2.2 == 10)) else (some false)) else (some false))) else (none)) else (none)))) else (none)) else (none))))
def lamplighterlaw19_TraceNumbers.f (k : Nat) (a0 : Int) (a1 : Int) : Option (Bool) := (trace_Event.f 7 (Int.tmod a0 1000000000000000000) (Int.tmod a1 1000000000000000000) ([] : List Int)).bind fun bt156 => ((trace_Read.f bt156.1).bind fun bt158 => ((lamplighterlaw19_alive.f).bind fun t166 => (if t166 = true then (if bt156.2 = 0 then (if bt158.2.2.2.2 = 0 then (if bt158.1 = 7 then (if bt158.2.1 = (Int.tmod a0 1000000000000000000) then (lamplighterlaw19_TraceNumbers.j0 k (Int.tmod a0 1000000000000000000) (bt158.2.2.1 != (Int.tmod a1 1000000000000000000))) else (lamplighterlaw19_TraceNumbers.j0 k (Int.tmod a0 1000000000000000000) true)) else (lamplighterlaw19_TraceNumbers.j0 k (Int.tmod a0 1000000000000000000) true)) else (lamplighterlaw19_TraceNumbers.j0 k (Int.tmod a0 1000000000000000000) true)) else (lamplighterlaw19_TraceNumbers.j0 k (Int.tmod a0 1000000000000000000) true)) else (lamplighterlaw19_TraceNumbers.j0 k (Int.tmod a0 1000000000000000000) true))))
theorem lamplighterlaw19_TraceNumbers.mono_l : ∀ k, (∀ y0 y1, LeO (lamplighterlaw19_TraceNumbers.j0 k y0 y1) (lamplighterlaw19_TraceNumbers.j0 (k + 1) y0 y1))
  | 0 => fun _ _ r h => by simp [lamplighterlaw19_TraceNumbers.j0] at h
  | k + 1 => by
    have ih0 := lamplighterlaw19_TraceNumbers.mono_l k
    · intro y0 y1
      unfold lamplighterlaw19_TraceNumbers.j0
      repeat' first
      | (with_reducible exact ih0 _ _)
      | (with_reducible exact LeO.refl _)
      | (with_reducible exact LeO.none _)
      | (with_reducible refine LeO.ite ?_ ?_)
      | (with_reducible refine LeO.bind ?_ (fun _ => ?_))
      | exact ih0 _ _
      | exact LeO.none _
      | refine LeO.ite ?_ ?_
      | refine LeO.bind ?_ (fun _ => ?_)
theorem lamplighterlaw19_TraceNumbers.mono : ∀ a0 a1 k, LeO (lamplighterlaw19_TraceNumbers.f k a0 a1) (lamplighterlaw19_TraceNumbers.f (k + 1) a0 a1) := by
  intro a0 a1 k
  have ih0 := lamplighterlaw19_TraceNumbers.mono_l k
  unfold lamplighterlaw19_TraceNumbers.f
  repeat' first
      | (with_reducible exact ih0 _ _)
      | (with_reducible exact LeO.refl _)
      | (with_reducible exact LeO.none _)
      | (with_reducible refine LeO.ite ?_ ?_)
      | (with_reducible refine LeO.bind ?_ (fun _ => ?_))
      | exact ih0 _ _
      | exact LeO.none _
      | refine LeO.ite ?_ ?_
      | refine LeO.bind ?_ (fun _ => ?_)
set_option maxHeartbeats 8000000 in
set_option maxRecDepth 100000 in
theorem lamplighterlaw19_TraceNumbers.calls (k : Nat) (a0 : Int) (a1 : Int) (r : Bool) (w : World) (h : lamplighterlaw19_TraceNumbers.f k a0 a1 = some r) (hrt : r = true) (hGT : GlobT w) :
    Calls Tryd.prog 5 #[.int .i64 a0, .int .i64 a1] w fun e w' => e = .returned (.bool r) ∧ Below w.heap.size w w' := by
  have HGLOT := Lib.hid hGT
  clear hGT
  have hu29 := Tryd.underlying29
  have HB := Aside0.mk (Below.refl w.heap.size w)
  have H : ((trace_Event.f 7 (Int.tmod a0 1000000000000000000) (Int.tmod a1 1000000000000000000) ([] : List Int)).bind fun bt156 => ((trace_Read.f bt156.1).bind fun bt158 => ((lamplighterlaw19_alive.f).bind fun t166 => (if t166 = true then (if bt156.2 = 0 then (if bt158.2.2.2.2 = 0 then (if bt158.1 = 7 then (if bt158.2.1 = (Int.tmod a0 1000000000000000000) then (lamplighterlaw19_TraceNumbers.j0 k (Int.tmod a0 1000000000000000000) (bt158.2.2.1 != (Int.tmod a1 1000000000000000000))) else (lamplighterlaw19_TraceNumbers.j0 k (Int.tmod a0 1000000000000000000) true)) else (lamplighterlaw19_TraceNumbers.j0 k (Int.tmod a0 1000000000000000000) true)) else (lamplighterlaw19_TraceNumbers.j0 k (Int.tmod a0 1000000000000000000) true)) else (lamplighterlaw19_TraceNumbers.j0 k (Int.tmod a0 1000000000000000000) true)) else (lamplighterlaw19_TraceNumbers.j0 k (Int.tmod a0 1000000000000000000) true))))) = some r := h
  clear h
  replace H := Option.bind_eq_some_iff.mp H
  obtain ⟨⟨t156, t157⟩, A30, H⟩ := H
  replace H : ((trace_Read.f t156).bind fun bt158 => ((lamplighterlaw19_alive.f).bind fun t166 => (if t166 = true then (if t157 = 0 then (if bt158.2.2.2.2 = 0 then (if bt158.1 = 7 then (if bt158.2.1 = (Int.tmod a0 1000000000000000000) then (lamplighterlaw19_TraceNumbers.j0 k (Int.tmod a0 1000000000000000000) (bt158.2.2.1 != (Int.tmod a1 1000000000000000000))) else (lamplighterlaw19_TraceNumbers.j0 k (Int.tmod a0 1000000000000000000) true)) else (lamplighterlaw19_TraceNumbers.j0 k (Int.tmod a0 1000000000000000000) true)) else (lamplighterlaw19_TraceNumbers.j0 k (Int.tmod a0 1000000000000000000) true)) else (lamplighterlaw19_TraceNumbers.j0 k (Int.tmod a0 1000000000000000000) true)) else (lamplighterlaw19_TraceNumbers.j0 k (Int.tmod a0 1000000000000000000) true)))) = some r := H
  have A3 := Aside0.mk A30
  clear A30
  replace H := Option.bind_eq_some_iff.mp H
  obtain ⟨⟨t158, t159, t160, t161, t164⟩, A40, H⟩ := H
  replace H : ((lamplighterlaw19_alive.f).bind fun t166 => (if t166 = true then (if t157 = 0 then (if t164 = 0 then (if t158 = 7 then (if t159 = (Int.tmod a0 1000000000000000000) then (lamplighterlaw19_TraceNumbers.j0 k (Int.tmod a0 1000000000000000000) (t160 != (Int.tmod a1 1000000000000000000))) else (lamplighterlaw19_TraceNumbers.j0 k (Int.tmod a0 1000000000000000000) true)) else (lamplighterlaw19_TraceNumbers.j0 k (Int.tmod a0 1000000000000000000) true)) else (lamplighterlaw19_TraceNumbers.j0 k (Int.tmod a0 1000000000000000000) true)) else (lamplighterlaw19_TraceNumbers.j0 k (Int.tmod a0 1000000000000000000) true)) else (lamplighterlaw19_TraceNumbers.j0 k (Int.tmod a0 1000000000000000000) true))) = some r := H
  have A4 := Aside0.mk A40
  clear A40
  have HC5 := Aside0.mk H
  clear H
  go_enter Tryd.func5, Tryd.ntmps5
  go_upto_region 5 with (first | ((with_reducible refine gate_dst (N := 7) rfl ?_); refine box_event ?hg (N := 7) ?hd (cs := #[.int .i64 0, .int .i64 0, .int .i64 0, .slice none 0 0]) (t := 29) ?hr ?_; (case hd => rfl); (case hg => rfl); (case hr => first | (go_simp; done) | (go_simp; rfl)); intro gb155 hg w6 hbox hb; have n0_ := Aside0.mk (below_step (by repeat (first | (with_reducible first | exact HB.out | apply below_alloc | apply pw_below_drewN | apply below_drew1) | exact HB.out)) hb); have n1_ := Aside0.mk (hbox); have n2_ := Aside0.mk ((by rw [hg]; exact (below_size (by repeat (first | (with_reducible first | exact HB.out | apply below_alloc | apply pw_below_drewN | apply below_drew1) | exact HB.out))) : w.heap.size ≤ gb155)); have n3_ := Aside0.mk ((by rw [hg]; exact (below_size (by repeat (first | (with_reducible first | exact HB.out | apply below_alloc | apply pw_below_drewN | apply below_drew1) | exact HB.out))) : w.heap.size ≤ gb155)); clear HB; have HB := n0_; have BK155 := n1_; have GW155 := n2_; have GE155 := n3_; clear n0_ n1_ n2_ n3_; clear hb hbox hg; have hcz7_0 : w6.cell? ⟨gb155, 0, none⟩ = some (.int .i64 0) := (blk_cell BK155.out 0).trans rfl; have hcz7_1 : w6.cell? ⟨gb155, 1, none⟩ = some (.int .i64 0) := (blk_cell BK155.out 1).trans rfl; have hcz7_2 : w6.cell? ⟨gb155, 2, none⟩ = some (.int .i64 0) := (blk_cell BK155.out 2).trans rfl; have hcz7_3 : w6.cell? ⟨gb155, 3, none⟩ = some (.slice none 0 0) := (blk_cell BK155.out 3).trans rfl; have hfz7_0 := blk_frozen BK155.out 0; have hfz7_1 := blk_frozen BK155.out 1; have hfz7_2 := blk_frozen BK155.out 2; have hfz7_3 := blk_frozen BK155.out 3) | ((with_reducible refine gate_callee (f := 15) rfl ?_); refine goesL_ (some 29) rfl rfl Tryd.func15 (by kernel_rfl) rfl #[.agg #[.int .i64 7, .int .i64 (Int.tmod a0 1000000000000000000), .int .i64 (Int.tmod a1 1000000000000000000), .slice none 0 0]] rfl (by (try simp only [List.map_toArray, List.map_cons, List.map_nil]); first | done | rfl | (simp only [List.length_drop, List.length_take]; rfl)) ?_; (refine (trace_Event.calls 7 (Int.tmod a0 1000000000000000000) (Int.tmod a1 1000000000000000000) _ _ ([] : List Int) t156 t157 _ ?side1 ?side2 A3.out (globt_below HGLOT.out (by repeat (first | (with_reducible first | exact HB.out | apply below_alloc | apply pw_below_drewN | apply below_drew1 | refine below_set ?_ GE155.out) | exact HB.out)))).mono ?_); (case side1 => exact Kd.C_nil _ _); (case side2 => exact Nat.le_refl _); rintro e w8 ⟨rfl, hb⟩; refine ⟨_, rfl, ?_⟩; have n0_ := Aside0.mk (blk_below (g := gb155) (o := .cells #[.int .i64 7, .int .i64 (Int.tmod a0 1000000000000000000), .int .i64 (Int.tmod a1 1000000000000000000), .slice none 0 0] 29 (0, 0)) (by (with_reducible repeat (first | refine blk_drewN ?_ _ | refine blk_drew ?_ | refine blk_alloc ?_ _)); refine blk_put (cs := #[.int .i64 7, .int .i64 (Int.tmod a0 1000000000000000000), .int .i64 (Int.tmod a1 1000000000000000000), .slice none 0 0]) ?_ 3 _ rfl; (with_reducible repeat (first | refine blk_drewN ?_ _ | refine blk_drew ?_ | refine blk_alloc ?_ _)); refine blk_put (cs := #[.int .i64 7, .int .i64 (Int.tmod a0 1000000000000000000), .int .i64 0, .slice none 0 0]) ?_ 2 _ rfl; (with_reducible repeat (first | refine blk_drewN ?_ _ | refine blk_drew ?_ | refine blk_alloc ?_ _)); refine blk_put (cs := #[.int .i64 7, .int .i64 0, .int .i64 0, .slice none 0 0]) ?_ 1 _ rfl; (with_reducible repeat (first | refine blk_drewN ?_ _ | refine blk_drew ?_ | refine blk_alloc ?_ _)); refine blk_put (cs := #[.int .i64 0, .int .i64 0, .int .i64 0, .slice none 0 0]) ?_ 0 _ rfl; (with_reducible repeat (first | refine blk_drewN ?_ _ | refine blk_drew ?_ | refine blk_alloc ?_ _)); exact BK155.out) hb); have n1_ := Aside0.mk (below_step (by repeat (first | (with_reducible first | exact HB.out | apply below_alloc | apply pw_below_drewN | apply below_drew1 | refine below_set ?_ GE155.out) | exact HB.out)) hb); clear BK155; clear HB; have BK155 := n0_; have HB := n1_; clear n0_ n1_; (try clear hb); (try clear hb2); (try clear hk); (try clear hi)) | ((with_reducible refine gate_callee (f := 17) rfl ?_); refine goesL_ (some 34) rfl rfl Tryd.func17 (by kernel_rfl) rfl #[.string t156] rfl (by (try simp only [List.map_toArray, List.map_cons, List.map_nil]); first | done | rfl | (simp only [List.length_drop, List.length_take]; rfl)) ?_; (with_reducible refine (trace_Read.calls t156 t158 t159 t160 t161 t164 _ A4.out (globt_below HGLOT.out (by repeat (first | (with_reducible first | exact HB.out | apply below_alloc | apply pw_below_drewN | apply below_drew1 | refine below_set ?_ GE155.out) | exact HB.out)))).mono ?_); rintro e w9 ⟨v162, rfl, ho0, hb⟩; refine ⟨_, rfl, ?_⟩; have n0_ := Aside0.mk (Kd.R_lower ho0 (below_size (by repeat (first | (with_reducible first | exact HB.out | apply below_alloc | apply pw_below_drewN | apply below_drew1 | refine below_set ?_ GE155.out) | exact HB.out)))); have n1_ := Aside0.mk (blk_below (g := gb155) (o := .cells #[.int .i64 7, .int .i64 (Int.tmod a0 1000000000000000000), .int .i64 (Int.tmod a1 1000000000000000000), .slice none 0 0] 29 (0, 0)) (by (with_reducible repeat (first | refine blk_drewN ?_ _ | refine blk_drew ?_ | refine blk_alloc ?_ _)); exact BK155.out) hb); have n2_ := Aside0.mk (below_step (by repeat (first | (with_reducible first | exact HB.out | apply below_alloc | apply pw_below_drewN | apply below_drew1 | refine below_set ?_ GE155.out) | exact HB.out)) hb); clear BK155; clear HB; have HO163 := n0_; have BK155 := n1_; have HB := n2_; clear n0_ n1_ n2_; (try clear hb); (try clear hb2); (try clear hk); (try clear hi); (try clear ho0)) | ((with_reducible refine gate_dst (N := 10) rfl ?_); refine box_event ?hg (N := 10) ?hd (cs := #[.int .i64 0, .int .i64 0, .int .i64 0, .slice none 0 0]) (t := 29) ?hr ?_; (case hd => rfl); (case hg => rfl); (case hr => first | (go_simp; done) | (go_simp; rfl)); intro gb165 hg w10 hbox hb; have n0_ := Aside0.mk (Kd.R_below (by (with_reducible repeat (first | apply Kd.R_alloc | apply Kd.R_drewN | apply Kd.R_drew)); exact HO163.out) hb); have n1_ := Aside0.mk (blk_below (g := gb155) (o := .cells #[.int .i64 7, .int .i64 (Int.tmod a0 1000000000000000000), .int .i64 (Int.tmod a1 1000000000000000000), .slice none 0 0] 29 (0, 0)) (by (with_reducible repeat (first | refine blk_drewN ?_ _ | refine blk_drew ?_ | refine blk_alloc ?_ _)); exact BK155.out) hb); have n2_ := Aside0.mk (below_step (by repeat (first | (with_reducible first | exact HB.out | apply below_alloc | apply pw_below_drewN | apply below_drew1 | refine below_set ?_ GE155.out) | exact HB.out)) hb); have n3_ := Aside0.mk (hbox); have n4_ := Aside0.mk ((by rw [hg]; exact (below_size (by repeat (first | (with_reducible first | exact HB.out | apply below_alloc | apply pw_below_drewN | apply below_drew1 | refine below_set ?_ GE155.out) | exact HB.out))) : w.heap.size ≤ gb165)); have n5_ := Aside0.mk ((by rw [hg]; exact (below_size (by repeat (first | (with_reducible first | exact HB.out | apply below_alloc | apply pw_below_drewN | apply below_drew1 | refine below_set ?_ GE155.out) | exact HB.out))) : w.heap.size ≤ gb165)); have n6_ := Aside0.mk ((by rw [hg]; exact Nat.ne_of_lt (blk_lt (g := gb155) (o := .cells #[.int .i64 7, .int .i64 (Int.tmod a0 1000000000000000000), .int .i64 (Int.tmod a1 1000000000000000000), .slice none 0 0] 29 (0, 0)) (by (with_reducible repeat (first | refine blk_drewN ?_ _ | refine blk_drew ?_ | refine blk_alloc ?_ _)); exact BK155.out)) : gb155 ≠ gb165)); have n7_ := Aside0.mk ((by rw [hg]; exact Nat.ne_of_gt (blk_lt (g := gb155) (o := .cells #[.int .i64 7, .int .i64 (Int.tmod a0 1000000000000000000), .int .i64 (Int.tmod a1 1000000000000000000), .slice none 0 0] 29 (0, 0)) (by (with_reducible repeat (first | refine blk_drewN ?_ _ | refine blk_drew ?_ | refine blk_alloc ?_ _)); exact BK155.out)) : gb165 ≠ gb155)); clear HO163; clear BK155; clear HB; have HO163 := n0_; have BK155 := n1_; have HB := n2_; have BK165 := n3_; have GW165 := n4_; have GE165 := n5_; have NB155_165 := n6_; have NB165_155 := n7_; clear n0_ n1_ n2_ n3_ n4_ n5_ n6_ n7_; clear hb hbox hg; have hnb11 := NB165_155.out; have hnc11 := NB155_165.out; have hcz12_0 : w10.cell? ⟨gb165, 0, none⟩ = some (.int .i64 0) := (blk_cell BK165.out 0).trans rfl; have hcz12_1 : w10.cell? ⟨gb165, 1, none⟩ = some (.int .i64 0) := (blk_cell BK165.out 1).trans rfl; have hcz12_2 : w10.cell? ⟨gb165, 2, none⟩ = some (.int .i64 0) := (blk_cell BK165.out 2).trans rfl; have hcz12_3 : w10.cell? ⟨gb165, 3, none⟩ = some (.slice none 0 0) := (blk_cell BK165.out 3).trans rfl; have hfz12_0 := blk_frozen BK165.out 0; have hfz12_1 := blk_frozen BK165.out 1; have hfz12_2 := blk_frozen BK165.out 2; have hfz12_3 := blk_frozen BK165.out 3; obtain ⟨Ao13, co13, eo13⟩ := Kd.R_slice HO163.out; subst eo13))
  (try simp only [Act.put, List.setIfInBounds_toArray, List.set_cons_zero, List.set_cons_succ])
  go_cut [63] (fun v63 wc => ∃ (kq : Nat) (x63_4 : Bool), v63 = .bool x63_4 ∧ Aside0 (lamplighterlaw19_TraceNumbers.j0 kq (Int.tmod a0 1000000000000000000) x63_4 = some r) ∧ Aside0 (kq ≤ k) ∧ Aside0 (Kd.R (Kd.int .u8) 5 wc w.heap.size (fun _ => True) (.slice Ao13 t161.length co13) t161) ∧ Aside0 (wc.heap[gb155]? = some (.cells #[.int .i64 7, .int .i64 (Int.tmod a0 1000000000000000000), .int .i64 (Int.tmod a1 1000000000000000000), (.slice none 0 0)] 29 (0, 0))) ∧ Aside0 (wc.heap[gb165]? = some (.cells #[.int .i64 t158, .int .i64 t159, .int .i64 t160, (.slice Ao13 t161.length co13)] 29 (0, 0))) ∧ Aside0 (Below w.heap.size w wc))
  case first =>
    have H := HC5.out
    clear HC5
    replace H := Option.bind_eq_some_iff.mp H
    obtain ⟨t166, A140, H⟩ := H
    replace H : (if t166 = true then (if t157 = 0 then (if t164 = 0 then (if t158 = 7 then (if t159 = (Int.tmod a0 1000000000000000000) then (lamplighterlaw19_TraceNumbers.j0 k (Int.tmod a0 1000000000000000000) (t160 != (Int.tmod a1 1000000000000000000))) else (lamplighterlaw19_TraceNumbers.j0 k (Int.tmod a0 1000000000000000000) true)) else (lamplighterlaw19_TraceNumbers.j0 k (Int.tmod a0 1000000000000000000) true)) else (lamplighterlaw19_TraceNumbers.j0 k (Int.tmod a0 1000000000000000000) true)) else (lamplighterlaw19_TraceNumbers.j0 k (Int.tmod a0 1000000000000000000) true)) else (lamplighterlaw19_TraceNumbers.j0 k (Int.tmod a0 1000000000000000000) true)) = some r := H
    have A14 := Aside0.mk A140
    clear A140
    by_cases c15 : t166 = true
    · subst c15
      have H1 : (if t157 = 0 then (if t164 = 0 then (if t158 = 7 then (if t159 = (Int.tmod a0 1000000000000000000) then (lamplighterlaw19_TraceNumbers.j0 k (Int.tmod a0 1000000000000000000) (t160 != (Int.tmod a1 1000000000000000000))) else (lamplighterlaw19_TraceNumbers.j0 k (Int.tmod a0 1000000000000000000) true)) else (lamplighterlaw19_TraceNumbers.j0 k (Int.tmod a0 1000000000000000000) true)) else (lamplighterlaw19_TraceNumbers.j0 k (Int.tmod a0 1000000000000000000) true)) else (lamplighterlaw19_TraceNumbers.j0 k (Int.tmod a0 1000000000000000000) true)) = some r := by rw [if_pos rfl] at H; exact H
      clear H
      have H := H1
      clear H1
      by_cases c16 : t157 = 0
      · rw [if_pos c16] at H
        have c16b0 : (t157 == 0) = true := beq_iff_eq.mpr c16
        have c16b1 : (t157 != 0) = false := bne_eq_false_iff_eq.mpr c16
        clear c16
        (first | rw [c16b0] | (simp only [i64_w, i32_w]; rw [c16b0]) | skip)
        by_cases c17 : t164 = 0
        · rw [if_pos c17] at H
          have c17b0 : (t164 == 0) = true := beq_iff_eq.mpr c17
          have c17b1 : (t164 != 0) = false := bne_eq_false_iff_eq.mpr c17
          clear c17
          by_cases c18 : t158 = 7
          · rw [if_pos c18] at H
            have c18b0 : (t158 == 7) = true := beq_iff_eq.mpr c18
            have c18b1 : (t158 != 7) = false := bne_eq_false_iff_eq.mpr c18
            clear c18
            by_cases c19 : t159 = (Int.tmod a0 1000000000000000000)
            · rw [if_pos c19] at H
              have c19b0 : (t159 == (Int.tmod a0 1000000000000000000)) = true := beq_iff_eq.mpr c19
              have c19b1 : (t159 != (Int.tmod a0 1000000000000000000)) = false := bne_eq_false_iff_eq.mpr c19
              clear c19
              have H' := Aside0.mk H
              clear H
              go_wp2_with (first | ((with_reducible refine gate_callee (f := 10) rfl ?_); refine goesL_ (some 37) rfl rfl Tryd.func10 (by kernel_rfl) rfl #[] rfl (by (try simp only [List.map_toArray, List.map_cons, List.map_nil]); first | done | rfl | (simp only [List.length_drop, List.length_take]; rfl)) ?_; (with_reducible refine (lamplighterlaw19_alive.calls  true _ A14.out (globt_below HGLOT.out (by repeat (first | (with_reducible first | exact HB.out | apply below_alloc | apply pw_below_drewN | apply below_drew1 | refine below_set ?_ GE155.out | refine below_set ?_ GE165.out) | exact HB.out)))).mono ?_); rintro e w20 ⟨rfl, hb⟩; refine ⟨_, rfl, ?_⟩; have n0_ := Aside0.mk (Kd.R_below (by (with_reducible repeat (first | apply Kd.R_alloc | apply Kd.R_drewN | apply Kd.R_drew)); exact (Kd.R_mono (Kd.R_far (p := ⟨gb165, 3, none⟩) (Kd.R_far (p := ⟨gb165, 2, none⟩) (Kd.R_far (p := ⟨gb165, 1, none⟩) (Kd.R_far (p := ⟨gb165, 0, none⟩) (Kd.R_types HO163.out BK165.out (by decide)) (fun _ hk => hk.2) (.int .i64 t158)) (fun _ hk => hk.2) (.int .i64 t159)) (fun _ hk => hk.2) (.int .i64 t160)) (fun _ hk => hk.2) (.slice Ao13 t161.length co13)) (fun _ h_ => h_.1))) hb); have n1_ := Aside0.mk (blk_below (g := gb155) (o := .cells #[.int .i64 7, .int .i64 (Int.tmod a0 1000000000000000000), .int .i64 (Int.tmod a1 1000000000000000000), .slice none 0 0] 29 (0, 0)) (by (with_reducible repeat (first | refine blk_drewN ?_ _ | refine blk_drew ?_ | refine blk_alloc ?_ _)); refine blk_far ?_ NB155_165.out _; (with_reducible repeat (first | refine blk_drewN ?_ _ | refine blk_drew ?_ | refine blk_alloc ?_ _)); refine blk_far ?_ NB155_165.out _; (with_reducible repeat (first | refine blk_drewN ?_ _ | refine blk_drew ?_ | refine blk_alloc ?_ _)); refine blk_far ?_ NB155_165.out _; (with_reducible repeat (first | refine blk_drewN ?_ _ | refine blk_drew ?_ | refine blk_alloc ?_ _)); refine blk_far ?_ NB155_165.out _; (with_reducible repeat (first | refine blk_drewN ?_ _ | refine blk_drew ?_ | refine blk_alloc ?_ _)); exact BK155.out) hb); have n2_ := Aside0.mk (blk_below (g := gb165) (o := .cells #[.int .i64 t158, .int .i64 t159, .int .i64 t160, .slice Ao13 t161.length co13] 29 (0, 0)) (by (with_reducible repeat (first | refine blk_drewN ?_ _ | refine blk_drew ?_ | refine blk_alloc ?_ _)); refine blk_put (cs := #[.int .i64 t158, .int .i64 t159, .int .i64 t160, .slice none 0 0]) ?_ 3 _ rfl; (with_reducible repeat (first | refine blk_drewN ?_ _ | refine blk_drew ?_ | refine blk_alloc ?_ _)); refine blk_put (cs := #[.int .i64 t158, .int .i64 t159, .int .i64 0, .slice none 0 0]) ?_ 2 _ rfl; (with_reducible repeat (first | refine blk_drewN ?_ _ | refine blk_drew ?_ | refine blk_alloc ?_ _)); refine blk_put (cs := #[.int .i64 t158, .int .i64 0, .int .i64 0, .slice none 0 0]) ?_ 1 _ rfl; (with_reducible repeat (first | refine blk_drewN ?_ _ | refine blk_drew ?_ | refine blk_alloc ?_ _)); refine blk_put (cs := #[.int .i64 0, .int .i64 0, .int .i64 0, .slice none 0 0]) ?_ 0 _ rfl; (with_reducible repeat (first | refine blk_drewN ?_ _ | refine blk_drew ?_ | refine blk_alloc ?_ _)); exact BK165.out) hb); have n3_ := Aside0.mk (below_step (by repeat (first | (with_reducible first | exact HB.out | apply below_alloc | apply pw_below_drewN | apply below_drew1 | refine below_set ?_ GE155.out | refine below_set ?_ GE165.out) | exact HB.out)) hb); clear HO163; clear BK155; clear BK165; clear HB; have HO163 := n0_; have BK155 := n1_; have BK165 := n2_; have HB := n3_; clear n0_ n1_ n2_ n3_; (try clear hb); (try clear hb2); (try clear hk); (try clear hi); have hnb21 := NB165_155.out; have hnc21 := NB155_165.out; have hcz22_0 : w20.cell? ⟨gb165, 0, none⟩ = some (.int .i64 t158) := (blk_cell BK165.out 0).trans rfl; have hcz22_1 : w20.cell? ⟨gb165, 1, none⟩ = some (.int .i64 t159) := (blk_cell BK165.out 1).trans rfl; have hcz22_2 : w20.cell? ⟨gb165, 2, none⟩ = some (.int .i64 t160) := (blk_cell BK165.out 2).trans rfl; have hcz22_3 : w20.cell? ⟨gb165, 3, none⟩ = some (.slice Ao13 t161.length co13) := (blk_cell BK165.out 3).trans rfl; have hfz22_0 := blk_frozen BK165.out 0; have hfz22_1 := blk_frozen BK165.out 1; have hfz22_2 := blk_frozen BK165.out 2; have hfz22_3 := blk_frozen BK165.out 3))
              go_meet
              case rel => exact ⟨_, ((t160 != (Int.tmod a1 1000000000000000000))), (by first | rfl | (simp; done) | (simp [*]; done)), H', ⟨by first | omega | exact Nat.le_refl _⟩, ⟨by (with_reducible repeat (first | apply Kd.R_alloc | apply Kd.R_drewN | apply Kd.R_drew)); exact HO163.out⟩, ⟨by (with_reducible repeat (first | refine blk_drewN ?_ _ | refine blk_drew ?_ | refine blk_alloc ?_ _)); exact BK155.out⟩, ⟨by (with_reducible repeat (first | refine blk_drewN ?_ _ | refine blk_drew ?_ | refine blk_alloc ?_ _)); exact BK165.out⟩, ⟨by repeat (first | (with_reducible first | exact HB.out | apply below_alloc | apply pw_below_drewN | apply below_drew1 | refine below_set ?_ GE155.out | refine below_set ?_ GE165.out) | exact HB.out)⟩⟩
            · rw [if_neg c19] at H
              have c19b0 : (t159 == (Int.tmod a0 1000000000000000000)) = false := beq_eq_false_iff_ne.mpr c19
              have c19b1 : (t159 != (Int.tmod a0 1000000000000000000)) = true := bne_iff_ne.mpr c19
              have H' := Aside0.mk H
              clear H
              go_wp2_with (first | ((with_reducible refine gate_callee (f := 10) rfl ?_); refine goesL_ (some 37) rfl rfl Tryd.func10 (by kernel_rfl) rfl #[] rfl (by (try simp only [List.map_toArray, List.map_cons, List.map_nil]); first | done | rfl | (simp only [List.length_drop, List.length_take]; rfl)) ?_; (with_reducible refine (lamplighterlaw19_alive.calls  true _ A14.out (globt_below HGLOT.out (by repeat (first | (with_reducible first | exact HB.out | apply below_alloc | apply pw_below_drewN | apply below_drew1 | refine below_set ?_ GE155.out | refine below_set ?_ GE165.out) | exact HB.out)))).mono ?_); rintro e w23 ⟨rfl, hb⟩; refine ⟨_, rfl, ?_⟩; have n0_ := Aside0.mk (Kd.R_below (by (with_reducible repeat (first | apply Kd.R_alloc | apply Kd.R_drewN | apply Kd.R_drew)); exact (Kd.R_mono (Kd.R_far (p := ⟨gb165, 3, none⟩) (Kd.R_far (p := ⟨gb165, 2, none⟩) (Kd.R_far (p := ⟨gb165, 1, none⟩) (Kd.R_far (p := ⟨gb165, 0, none⟩) (Kd.R_types HO163.out BK165.out (by decide)) (fun _ hk => hk.2) (.int .i64 t158)) (fun _ hk => hk.2) (.int .i64 t159)) (fun _ hk => hk.2) (.int .i64 t160)) (fun _ hk => hk.2) (.slice Ao13 t161.length co13)) (fun _ h_ => h_.1))) hb); have n1_ := Aside0.mk (blk_below (g := gb155) (o := .cells #[.int .i64 7, .int .i64 (Int.tmod a0 1000000000000000000), .int .i64 (Int.tmod a1 1000000000000000000), .slice none 0 0] 29 (0, 0)) (by (with_reducible repeat (first | refine blk_drewN ?_ _ | refine blk_drew ?_ | refine blk_alloc ?_ _)); refine blk_far ?_ NB155_165.out _; (with_reducible repeat (first | refine blk_drewN ?_ _ | refine blk_drew ?_ | refine blk_alloc ?_ _)); refine blk_far ?_ NB155_165.out _; (with_reducible repeat (first | refine blk_drewN ?_ _ | refine blk_drew ?_ | refine blk_alloc ?_ _)); refine blk_far ?_ NB155_165.out _; (with_reducible repeat (first | refine blk_drewN ?_ _ | refine blk_drew ?_ | refine blk_alloc ?_ _)); refine blk_far ?_ NB155_165.out _; (with_reducible repeat (first | refine blk_drewN ?_ _ | refine blk_drew ?_ | refine blk_alloc ?_ _)); exact BK155.out) hb); have n2_ := Aside0.mk (blk_below (g := gb165) (o := .cells #[.int .i64 t158, .int .i64 t159, .int .i64 t160, .slice Ao13 t161.length co13] 29 (0, 0)) (by (with_reducible repeat (first | refine blk_drewN ?_ _ | refine blk_drew ?_ | refine blk_alloc ?_ _)); refine blk_put (cs := #[.int .i64 t158, .int .i64 t159, .int .i64 t160, .slice none 0 0]) ?_ 3 _ rfl; (with_reducible repeat (first | refine blk_drewN ?_ _ | refine blk_drew ?_ | refine blk_alloc ?_ _)); refine blk_put (cs := #[.int .i64 t158, .int .i64 t159, .int .i64 0, .slice none 0 0]) ?_ 2 _ rfl; (with_reducible repeat (first | refine blk_drewN ?_ _ | refine blk_drew ?_ | refine blk_alloc ?_ _)); refine blk_put (cs := #[.int .i64 t158, .int .i64 0, .int .i64 0, .slice none 0 0]) ?_ 1 _ rfl; (with_reducible repeat (first | refine blk_drewN ?_ _ | refine blk_drew ?_ | refine blk_alloc ?_ _)); refine blk_put (cs := #[.int .i64 0, .int .i64 0, .int .i64 0, .slice none 0 0]) ?_ 0 _ rfl; (with_reducible repeat (first | refine blk_drewN ?_ _ | refine blk_drew ?_ | refine blk_alloc ?_ _)); exact BK165.out) hb); have n3_ := Aside0.mk (below_step (by repeat (first | (with_reducible first | exact HB.out | apply below_alloc | apply pw_below_drewN | apply below_drew1 | refine below_set ?_ GE155.out | refine below_set ?_ GE165.out) | exact HB.out)) hb); clear HO163; clear BK155; clear BK165; clear HB; have HO163 := n0_; have BK155 := n1_; have BK165 := n2_; have HB := n3_; clear n0_ n1_ n2_ n3_; (try clear hb); (try clear hb2); (try clear hk); (try clear hi); have hnb24 := NB165_155.out; have hnc24 := NB155_165.out; have hcz25_0 : w23.cell? ⟨gb165, 0, none⟩ = some (.int .i64 t158) := (blk_cell BK165.out 0).trans rfl; have hcz25_1 : w23.cell? ⟨gb165, 1, none⟩ = some (.int .i64 t159) := (blk_cell BK165.out 1).trans rfl; have hcz25_2 : w23.cell? ⟨gb165, 2, none⟩ = some (.int .i64 t160) := (blk_cell BK165.out 2).trans rfl; have hcz25_3 : w23.cell? ⟨gb165, 3, none⟩ = some (.slice Ao13 t161.length co13) := (blk_cell BK165.out 3).trans rfl; have hfz25_0 := blk_frozen BK165.out 0; have hfz25_1 := blk_frozen BK165.out 1; have hfz25_2 := blk_frozen BK165.out 2; have hfz25_3 := blk_frozen BK165.out 3))
              go_meet
              case rel => exact ⟨_, (true), (by first | rfl | (simp; done) | (simp [*]; done)), H', ⟨by first | omega | exact Nat.le_refl _⟩, ⟨by (with_reducible repeat (first | apply Kd.R_alloc | apply Kd.R_drewN | apply Kd.R_drew)); exact HO163.out⟩, ⟨by (with_reducible repeat (first | refine blk_drewN ?_ _ | refine blk_drew ?_ | refine blk_alloc ?_ _)); exact BK155.out⟩, ⟨by (with_reducible repeat (first | refine blk_drewN ?_ _ | refine blk_drew ?_ | refine blk_alloc ?_ _)); exact BK165.out⟩, ⟨by repeat (first | (with_reducible first | exact HB.out | apply below_alloc | apply pw_below_drewN | apply below_drew1 | refine below_set ?_ GE155.out | refine below_set ?_ GE165.out) | exact HB.out)⟩⟩
          · rw [if_neg c18] at H
            have c18b0 : (t158 == 7) = false := beq_eq_false_iff_ne.mpr c18
            have c18b1 : (t158 != 7) = true := bne_iff_ne.mpr c18
            have H' := Aside0.mk H
            clear H
            go_wp2_with (first | ((with_reducible refine gate_callee (f := 10) rfl ?_); refine goesL_ (some 37) rfl rfl Tryd.func10 (by kernel_rfl) rfl #[] rfl (by (try simp only [List.map_toArray, List.map_cons, List.map_nil]); first | done | rfl | (simp only [List.length_drop, List.length_take]; rfl)) ?_; (with_reducible refine (lamplighterlaw19_alive.calls  true _ A14.out (globt_below HGLOT.out (by repeat (first | (with_reducible first | exact HB.out | apply below_alloc | apply pw_below_drewN | apply below_drew1 | refine below_set ?_ GE155.out | refine below_set ?_ GE165.out) | exact HB.out)))).mono ?_); rintro e w26 ⟨rfl, hb⟩; refine ⟨_, rfl, ?_⟩; have n0_ := Aside0.mk (Kd.R_below (by (with_reducible repeat (first | apply Kd.R_alloc | apply Kd.R_drewN | apply Kd.R_drew)); exact (Kd.R_mono (Kd.R_far (p := ⟨gb165, 3, none⟩) (Kd.R_far (p := ⟨gb165, 2, none⟩) (Kd.R_far (p := ⟨gb165, 1, none⟩) (Kd.R_far (p := ⟨gb165, 0, none⟩) (Kd.R_types HO163.out BK165.out (by decide)) (fun _ hk => hk.2) (.int .i64 t158)) (fun _ hk => hk.2) (.int .i64 t159)) (fun _ hk => hk.2) (.int .i64 t160)) (fun _ hk => hk.2) (.slice Ao13 t161.length co13)) (fun _ h_ => h_.1))) hb); have n1_ := Aside0.mk (blk_below (g := gb155) (o := .cells #[.int .i64 7, .int .i64 (Int.tmod a0 1000000000000000000), .int .i64 (Int.tmod a1 1000000000000000000), .slice none 0 0] 29 (0, 0)) (by (with_reducible repeat (first | refine blk_drewN ?_ _ | refine blk_drew ?_ | refine blk_alloc ?_ _)); refine blk_far ?_ NB155_165.out _; (with_reducible repeat (first | refine blk_drewN ?_ _ | refine blk_drew ?_ | refine blk_alloc ?_ _)); refine blk_far ?_ NB155_165.out _; (with_reducible repeat (first | refine blk_drewN ?_ _ | refine blk_drew ?_ | refine blk_alloc ?_ _)); refine blk_far ?_ NB155_165.out _; (with_reducible repeat (first | refine blk_drewN ?_ _ | refine blk_drew ?_ | refine blk_alloc ?_ _)); refine blk_far ?_ NB155_165.out _; (with_reducible repeat (first | refine blk_drewN ?_ _ | refine blk_drew ?_ | refine blk_alloc ?_ _)); exact BK155.out) hb); have n2_ := Aside0.mk (blk_below (g := gb165) (o := .cells #[.int .i64 t158, .int .i64 t159, .int .i64 t160, .slice Ao13 t161.length co13] 29 (0, 0)) (by (with_reducible repeat (first | refine blk_drewN ?_ _ | refine blk_drew ?_ | refine blk_alloc ?_ _)); refine blk_put (cs := #[.int .i64 t158, .int .i64 t159, .int .i64 t160, .slice none 0 0]) ?_ 3 _ rfl; (with_reducible repeat (first | refine blk_drewN ?_ _ | refine blk_drew ?_ | refine blk_alloc ?_ _)); refine blk_put (cs := #[.int .i64 t158, .int .i64 t159, .int .i64 0, .slice none 0 0]) ?_ 2 _ rfl; (with_reducible repeat (first | refine blk_drewN ?_ _ | refine blk_drew ?_ | refine blk_alloc ?_ _)); refine blk_put (cs := #[.int .i64 t158, .int .i64 0, .int .i64 0, .slice none 0 0]) ?_ 1 _ rfl; (with_reducible repeat (first | refine blk_drewN ?_ _ | refine blk_drew ?_ | refine blk_alloc ?_ _)); refine blk_put (cs := #[.int .i64 0, .int .i64 0, .int .i64 0, .slice none 0 0]) ?_ 0 _ rfl; (with_reducible repeat (first | refine blk_drewN ?_ _ | refine blk_drew ?_ | refine blk_alloc ?_ _)); exact BK165.out) hb); have n3_ := Aside0.mk (below_step (by repeat (first | (with_reducible first | exact HB.out | apply below_alloc | apply pw_below_drewN | apply below_drew1 | refine below_set ?_ GE155.out | refine below_set ?_ GE165.out) | exact HB.out)) hb); clear HO163; clear BK155; clear BK165; clear HB; have HO163 := n0_; have BK155 := n1_; have BK165 := n2_; have HB := n3_; clear n0_ n1_ n2_ n3_; (try clear hb); (try clear hb2); (try clear hk); (try clear hi); have hnb27 := NB165_155.out; have hnc27 := NB155_165.out; have hcz28_0 : w26.cell? ⟨gb165, 0, none⟩ = some (.int .i64 t158) := (blk_cell BK165.out 0).trans rfl; have hcz28_1 : w26.cell? ⟨gb165, 1, none⟩ = some (.int .i64 t159) := (blk_cell BK165.out 1).trans rfl; have hcz28_2 : w26.cell? ⟨gb165, 2, none⟩ = some (.int .i64 t160) := (blk_cell BK165.out 2).trans rfl; have hcz28_3 : w26.cell? ⟨gb165, 3, none⟩ = some (.slice Ao13 t161.length co13) := (blk_cell BK165.out 3).trans rfl; have hfz28_0 := blk_frozen BK165.out 0; have hfz28_1 := blk_frozen BK165.out 1; have hfz28_2 := blk_frozen BK165.out 2; have hfz28_3 := blk_frozen BK165.out 3))
            go_meet
            case rel => exact ⟨_, (true), (by first | rfl | (simp; done) | (simp [*]; done)), H', ⟨by first | omega | exact Nat.le_refl _⟩, ⟨by (with_reducible repeat (first | apply Kd.R_alloc | apply Kd.R_drewN | apply Kd.R_drew)); exact HO163.out⟩, ⟨by (with_reducible repeat (first | refine blk_drewN ?_ _ | refine blk_drew ?_ | refine blk_alloc ?_ _)); exact BK155.out⟩, ⟨by (with_reducible repeat (first | refine blk_drewN ?_ _ | refine blk_drew ?_ | refine blk_alloc ?_ _)); exact BK165.out⟩, ⟨by repeat (first | (with_reducible first | exact HB.out | apply below_alloc | apply pw_below_drewN | apply below_drew1 | refine below_set ?_ GE155.out | refine below_set ?_ GE165.out) | exact HB.out)⟩⟩
        · rw [if_neg c17] at H
          have c17b0 : (t164 == 0) = false := beq_eq_false_iff_ne.mpr c17
          have c17b1 : (t164 != 0) = true := bne_iff_ne.mpr c17
          have H' := Aside0.mk H
          clear H
          go_wp2_with (first | ((with_reducible refine gate_callee (f := 10) rfl ?_); refine goesL_ (some 37) rfl rfl Tryd.func10 (by kernel_rfl) rfl #[] rfl (by (try simp only [List.map_toArray, List.map_cons, List.map_nil]); first | done | rfl | (simp only [List.length_drop, List.length_take]; rfl)) ?_; (with_reducible refine (lamplighterlaw19_alive.calls  true _ A14.out (globt_below HGLOT.out (by repeat (first | (with_reducible first | exact HB.out | apply below_alloc | apply pw_below_drewN | apply below_drew1 | refine below_set ?_ GE155.out | refine below_set ?_ GE165.out) | exact HB.out)))).mono ?_); rintro e w29 ⟨rfl, hb⟩; refine ⟨_, rfl, ?_⟩; have n0_ := Aside0.mk (Kd.R_below (by (with_reducible repeat (first | apply Kd.R_alloc | apply Kd.R_drewN | apply Kd.R_drew)); exact (Kd.R_mono (Kd.R_far (p := ⟨gb165, 3, none⟩) (Kd.R_far (p := ⟨gb165, 2, none⟩) (Kd.R_far (p := ⟨gb165, 1, none⟩) (Kd.R_far (p := ⟨gb165, 0, none⟩) (Kd.R_types HO163.out BK165.out (by decide)) (fun _ hk => hk.2) (.int .i64 t158)) (fun _ hk => hk.2) (.int .i64 t159)) (fun _ hk => hk.2) (.int .i64 t160)) (fun _ hk => hk.2) (.slice Ao13 t161.length co13)) (fun _ h_ => h_.1))) hb); have n1_ := Aside0.mk (blk_below (g := gb155) (o := .cells #[.int .i64 7, .int .i64 (Int.tmod a0 1000000000000000000), .int .i64 (Int.tmod a1 1000000000000000000), .slice none 0 0] 29 (0, 0)) (by (with_reducible repeat (first | refine blk_drewN ?_ _ | refine blk_drew ?_ | refine blk_alloc ?_ _)); refine blk_far ?_ NB155_165.out _; (with_reducible repeat (first | refine blk_drewN ?_ _ | refine blk_drew ?_ | refine blk_alloc ?_ _)); refine blk_far ?_ NB155_165.out _; (with_reducible repeat (first | refine blk_drewN ?_ _ | refine blk_drew ?_ | refine blk_alloc ?_ _)); refine blk_far ?_ NB155_165.out _; (with_reducible repeat (first | refine blk_drewN ?_ _ | refine blk_drew ?_ | refine blk_alloc ?_ _)); refine blk_far ?_ NB155_165.out _; (with_reducible repeat (first | refine blk_drewN ?_ _ | refine blk_drew ?_ | refine blk_alloc ?_ _)); exact BK155.out) hb); have n2_ := Aside0.mk (blk_below (g := gb165) (o := .cells #[.int .i64 t158, .int .i64 t159, .int .i64 t160, .slice Ao13 t161.length co13] 29 (0, 0)) (by (with_reducible repeat (first | refine blk_drewN ?_ _ | refine blk_drew ?_ | refine blk_alloc ?_ _)); refine blk_put (cs := #[.int .i64 t158, .int .i64 t159, .int .i64 t160, .slice none 0 0]) ?_ 3 _ rfl; (with_reducible repeat (first | refine blk_drewN ?_ _ | refine blk_drew ?_ | refine blk_alloc ?_ _)); refine blk_put (cs := #[.int .i64 t158, .int .i64 t159, .int .i64 0, .slice none 0 0]) ?_ 2 _ rfl; (with_reducible repeat (first | refine blk_drewN ?_ _ | refine blk_drew ?_ | refine blk_alloc ?_ _)); refine blk_put (cs := #[.int .i64 t158, .int .i64 0, .int .i64 0, .slice none 0 0]) ?_ 1 _ rfl; (with_reducible repeat (first | refine blk_drewN ?_ _ | refine blk_drew ?_ | refine blk_alloc ?_ _)); refine blk_put (cs := #[.int .i64 0, .int .i64 0, .int .i64 0, .slice none 0 0]) ?_ 0 _ rfl; (with_reducible repeat (first | refine blk_drewN ?_ _ | refine blk_drew ?_ | refine blk_alloc ?_ _)); exact BK165.out) hb); have n3_ := Aside0.mk (below_step (by repeat (first | (with_reducible first | exact HB.out | apply below_alloc | apply pw_below_drewN | apply below_drew1 | refine below_set ?_ GE155.out | refine below_set ?_ GE165.out) | exact HB.out)) hb); clear HO163; clear BK155; clear BK165; clear HB; have HO163 := n0_; have BK155 := n1_; have BK165 := n2_; have HB := n3_; clear n0_ n1_ n2_ n3_; (try clear hb); (try clear hb2); (try clear hk); (try clear hi)))
          go_meet
          case rel => exact ⟨_, (true), (by first | rfl | (simp; done) | (simp [*]; done)), H', ⟨by first | omega | exact Nat.le_refl _⟩, ⟨by (with_reducible repeat (first | apply Kd.R_alloc | apply Kd.R_drewN | apply Kd.R_drew)); exact HO163.out⟩, ⟨by (with_reducible repeat (first | refine blk_drewN ?_ _ | refine blk_drew ?_ | refine blk_alloc ?_ _)); exact BK155.out⟩, ⟨by (with_reducible repeat (first | refine blk_drewN ?_ _ | refine blk_drew ?_ | refine blk_alloc ?_ _)); exact BK165.out⟩, ⟨by repeat (first | (with_reducible first | exact HB.out | apply below_alloc | apply pw_below_drewN | apply below_drew1 | refine below_set ?_ GE155.out | refine below_set ?_ GE165.out) | exact HB.out)⟩⟩
      · rw [if_neg c16] at H
        have c16b0 : (t157 == 0) = false := beq_eq_false_iff_ne.mpr c16
        have c16b1 : (t157 != 0) = true := bne_iff_ne.mpr c16
        (first | rw [c16b0] | (simp only [i64_w, i32_w]; rw [c16b0]) | skip)
        have H' := Aside0.mk H
        clear H
        go_wp2_with (first | ((with_reducible refine gate_callee (f := 10) rfl ?_); refine goesL_ (some 37) rfl rfl Tryd.func10 (by kernel_rfl) rfl #[] rfl (by (try simp only [List.map_toArray, List.map_cons, List.map_nil]); first | done | rfl | (simp only [List.length_drop, List.length_take]; rfl)) ?_; (with_reducible refine (lamplighterlaw19_alive.calls  true _ A14.out (globt_below HGLOT.out (by repeat (first | (with_reducible first | exact HB.out | apply below_alloc | apply pw_below_drewN | apply below_drew1 | refine below_set ?_ GE155.out | refine below_set ?_ GE165.out) | exact HB.out)))).mono ?_); rintro e w30 ⟨rfl, hb⟩; refine ⟨_, rfl, ?_⟩; have n0_ := Aside0.mk (Kd.R_below (by (with_reducible repeat (first | apply Kd.R_alloc | apply Kd.R_drewN | apply Kd.R_drew)); exact (Kd.R_mono (Kd.R_far (p := ⟨gb165, 3, none⟩) (Kd.R_far (p := ⟨gb165, 2, none⟩) (Kd.R_far (p := ⟨gb165, 1, none⟩) (Kd.R_far (p := ⟨gb165, 0, none⟩) (Kd.R_types HO163.out BK165.out (by decide)) (fun _ hk => hk.2) (.int .i64 t158)) (fun _ hk => hk.2) (.int .i64 t159)) (fun _ hk => hk.2) (.int .i64 t160)) (fun _ hk => hk.2) (.slice Ao13 t161.length co13)) (fun _ h_ => h_.1))) hb); have n1_ := Aside0.mk (blk_below (g := gb155) (o := .cells #[.int .i64 7, .int .i64 (Int.tmod a0 1000000000000000000), .int .i64 (Int.tmod a1 1000000000000000000), .slice none 0 0] 29 (0, 0)) (by (with_reducible repeat (first | refine blk_drewN ?_ _ | refine blk_drew ?_ | refine blk_alloc ?_ _)); refine blk_far ?_ NB155_165.out _; (with_reducible repeat (first | refine blk_drewN ?_ _ | refine blk_drew ?_ | refine blk_alloc ?_ _)); refine blk_far ?_ NB155_165.out _; (with_reducible repeat (first | refine blk_drewN ?_ _ | refine blk_drew ?_ | refine blk_alloc ?_ _)); refine blk_far ?_ NB155_165.out _; (with_reducible repeat (first | refine blk_drewN ?_ _ | refine blk_drew ?_ | refine blk_alloc ?_ _)); refine blk_far ?_ NB155_165.out _; (with_reducible repeat (first | refine blk_drewN ?_ _ | refine blk_drew ?_ | refine blk_alloc ?_ _)); exact BK155.out) hb); have n2_ := Aside0.mk (blk_below (g := gb165) (o := .cells #[.int .i64 t158, .int .i64 t159, .int .i64 t160, .slice Ao13 t161.length co13] 29 (0, 0)) (by (with_reducible repeat (first | refine blk_drewN ?_ _ | refine blk_drew ?_ | refine blk_alloc ?_ _)); refine blk_put (cs := #[.int .i64 t158, .int .i64 t159, .int .i64 t160, .slice none 0 0]) ?_ 3 _ rfl; (with_reducible repeat (first | refine blk_drewN ?_ _ | refine blk_drew ?_ | refine blk_alloc ?_ _)); refine blk_put (cs := #[.int .i64 t158, .int .i64 t159, .int .i64 0, .slice none 0 0]) ?_ 2 _ rfl; (with_reducible repeat (first | refine blk_drewN ?_ _ | refine blk_drew ?_ | refine blk_alloc ?_ _)); refine blk_put (cs := #[.int .i64 t158, .int .i64 0, .int .i64 0, .slice none 0 0]) ?_ 1 _ rfl; (with_reducible repeat (first | refine blk_drewN ?_ _ | refine blk_drew ?_ | refine blk_alloc ?_ _)); refine blk_put (cs := #[.int .i64 0, .int .i64 0, .int .i64 0, .slice none 0 0]) ?_ 0 _ rfl; (with_reducible repeat (first | refine blk_drewN ?_ _ | refine blk_drew ?_ | refine blk_alloc ?_ _)); exact BK165.out) hb); have n3_ := Aside0.mk (below_step (by repeat (first | (with_reducible first | exact HB.out | apply below_alloc | apply pw_below_drewN | apply below_drew1 | refine below_set ?_ GE155.out | refine below_set ?_ GE165.out) | exact HB.out)) hb); clear HO163; clear BK155; clear BK165; clear HB; have HO163 := n0_; have BK155 := n1_; have BK165 := n2_; have HB := n3_; clear n0_ n1_ n2_ n3_; (try clear hb); (try clear hb2); (try clear hk); (try clear hi)))
        go_meet
        case rel => exact ⟨_, (true), (by first | rfl | (simp; done) | (simp [*]; done)), H', ⟨by first | omega | exact Nat.le_refl _⟩, ⟨by (with_reducible repeat (first | apply Kd.R_alloc | apply Kd.R_drewN | apply Kd.R_drew)); exact HO163.out⟩, ⟨by (with_reducible repeat (first | refine blk_drewN ?_ _ | refine blk_drew ?_ | refine blk_alloc ?_ _)); exact BK155.out⟩, ⟨by (with_reducible repeat (first | refine blk_drewN ?_ _ | refine blk_drew ?_ | refine blk_alloc ?_ _)); exact BK165.out⟩, ⟨by repeat (first | (with_reducible first | exact HB.out | apply below_alloc | apply pw_below_drewN | apply below_drew1 | refine below_set ?_ GE155.out | refine below_set ?_ GE165.out) | exact HB.out)⟩⟩
    · replace c15 := Bool.eq_false_iff.mpr c15
      subst c15
      have H1 : (lamplighterlaw19_TraceNumbers.j0 k (Int.tmod a0 1000000000000000000) true) = some r := by rw [if_neg (show ¬ (false = true) by decide)] at H; exact H
      clear H
      have H := H1
      clear H1
      have H' := Aside0.mk H
      clear H
      go_wp2_with (first | ((with_reducible refine gate_callee (f := 10) rfl ?_); refine goesL_ (some 37) rfl rfl Tryd.func10 (by kernel_rfl) rfl #[] rfl (by (try simp only [List.map_toArray, List.map_cons, List.map_nil]); first | done | rfl | (simp only [List.length_drop, List.length_take]; rfl)) ?_; (with_reducible refine (lamplighterlaw19_alive.calls  false _ A14.out (globt_below HGLOT.out (by repeat (first | (with_reducible first | exact HB.out | apply below_alloc | apply pw_below_drewN | apply below_drew1 | refine below_set ?_ GE155.out | refine below_set ?_ GE165.out) | exact HB.out)))).mono ?_); rintro e w31 ⟨rfl, hb⟩; refine ⟨_, rfl, ?_⟩; have n0_ := Aside0.mk (Kd.R_below (by (with_reducible repeat (first | apply Kd.R_alloc | apply Kd.R_drewN | apply Kd.R_drew)); exact (Kd.R_mono (Kd.R_far (p := ⟨gb165, 3, none⟩) (Kd.R_far (p := ⟨gb165, 2, none⟩) (Kd.R_far (p := ⟨gb165, 1, none⟩) (Kd.R_far (p := ⟨gb165, 0, none⟩) (Kd.R_types HO163.out BK165.out (by decide)) (fun _ hk => hk.2) (.int .i64 t158)) (fun _ hk => hk.2) (.int .i64 t159)) (fun _ hk => hk.2) (.int .i64 t160)) (fun _ hk => hk.2) (.slice Ao13 t161.length co13)) (fun _ h_ => h_.1))) hb); have n1_ := Aside0.mk (blk_below (g := gb155) (o := .cells #[.int .i64 7, .int .i64 (Int.tmod a0 1000000000000000000), .int .i64 (Int.tmod a1 1000000000000000000), .slice none 0 0] 29 (0, 0)) (by (with_reducible repeat (first | refine blk_drewN ?_ _ | refine blk_drew ?_ | refine blk_alloc ?_ _)); refine blk_far ?_ NB155_165.out _; (with_reducible repeat (first | refine blk_drewN ?_ _ | refine blk_drew ?_ | refine blk_alloc ?_ _)); refine blk_far ?_ NB155_165.out _; (with_reducible repeat (first | refine blk_drewN ?_ _ | refine blk_drew ?_ | refine blk_alloc ?_ _)); refine blk_far ?_ NB155_165.out _; (with_reducible repeat (first | refine blk_drewN ?_ _ | refine blk_drew ?_ | refine blk_alloc ?_ _)); refine blk_far ?_ NB155_165.out _; (with_reducible repeat (first | refine blk_drewN ?_ _ | refine blk_drew ?_ | refine blk_alloc ?_ _)); exact BK155.out) hb); have n2_ := Aside0.mk (blk_below (g := gb165) (o := .cells #[.int .i64 t158, .int .i64 t159, .int .i64 t160, .slice Ao13 t161.length co13] 29 (0, 0)) (by (with_reducible repeat (first | refine blk_drewN ?_ _ | refine blk_drew ?_ | refine blk_alloc ?_ _)); refine blk_put (cs := #[.int .i64 t158, .int .i64 t159, .int .i64 t160, .slice none 0 0]) ?_ 3 _ rfl; (with_reducible repeat (first | refine blk_drewN ?_ _ | refine blk_drew ?_ | refine blk_alloc ?_ _)); refine blk_put (cs := #[.int .i64 t158, .int .i64 t159, .int .i64 0, .slice none 0 0]) ?_ 2 _ rfl; (with_reducible repeat (first | refine blk_drewN ?_ _ | refine blk_drew ?_ | refine blk_alloc ?_ _)); refine blk_put (cs := #[.int .i64 t158, .int .i64 0, .int .i64 0, .slice none 0 0]) ?_ 1 _ rfl; (with_reducible repeat (first | refine blk_drewN ?_ _ | refine blk_drew ?_ | refine blk_alloc ?_ _)); refine blk_put (cs := #[.int .i64 0, .int .i64 0, .int .i64 0, .slice none 0 0]) ?_ 0 _ rfl; (with_reducible repeat (first | refine blk_drewN ?_ _ | refine blk_drew ?_ | refine blk_alloc ?_ _)); exact BK165.out) hb); have n3_ := Aside0.mk (below_step (by repeat (first | (with_reducible first | exact HB.out | apply below_alloc | apply pw_below_drewN | apply below_drew1 | refine below_set ?_ GE155.out | refine below_set ?_ GE165.out) | exact HB.out)) hb); clear HO163; clear BK155; clear BK165; clear HB; have HO163 := n0_; have BK155 := n1_; have BK165 := n2_; have HB := n3_; clear n0_ n1_ n2_ n3_; (try clear hb); (try clear hb2); (try clear hk); (try clear hi)))
      go_meet
      case rel => exact ⟨_, (true), (by first | rfl | (simp; done) | (simp [*]; done)), H', ⟨by first | omega | exact Nat.le_refl _⟩, ⟨by (with_reducible repeat (first | apply Kd.R_alloc | apply Kd.R_drewN | apply Kd.R_drew)); exact HO163.out⟩, ⟨by (with_reducible repeat (first | refine blk_drewN ?_ _ | refine blk_drew ?_ | refine blk_alloc ?_ _)); exact BK155.out⟩, ⟨by (with_reducible repeat (first | refine blk_drewN ?_ _ | refine blk_drew ?_ | refine blk_alloc ?_ _)); exact BK165.out⟩, ⟨by repeat (first | (with_reducible first | exact HB.out | apply below_alloc | apply pw_below_drewN | apply below_drew1 | refine below_set ?_ GE155.out | refine below_set ?_ GE165.out) | exact HB.out)⟩⟩
  case rest =>
    clear HC5
    try clear c1
    try clear c2
    try clear p2
    try clear c5
    try clear c10
    try clear c11
    try clear c15
    try clear c16
    try clear c16b0
    try clear c16b1
    try clear c17
    try clear c17b0
    try clear c17b1
    try clear c18
    try clear c18b0
    try clear c18b1
    try clear c19
    try clear c19b0
    try clear c19b1
    try clear c21
    try clear c24
    try clear c27
    try clear hcz12_0
    try clear hcz12_1
    try clear hcz12_2
    try clear hcz12_3
    try clear hcz22_0
    try clear hcz22_1
    try clear hcz22_2
    try clear hcz22_3
    try clear hcz25_0
    try clear hcz25_1
    try clear hcz25_2
    try clear hcz25_3
    try clear hcz28_0
    try clear hcz28_1
    try clear hcz28_2
    try clear hcz28_3
    try clear hcz7_0
    try clear hcz7_1
    try clear hcz7_2
    try clear hcz7_3
    try clear hfz12_0
    try clear hfz12_1
    try clear hfz12_2
    try clear hfz12_3
    try clear hfz22_0
    try clear hfz22_1
    try clear hfz22_2
    try clear hfz22_3
    try clear hfz25_0
    try clear hfz25_1
    try clear hfz25_2
    try clear hfz25_3
    try clear hfz28_0
    try clear hfz28_1
    try clear hfz28_2
    try clear hfz28_3
    try clear hfz7_0
    try clear hfz7_1
    try clear hfz7_2
    try clear hfz7_3
    obtain ⟨kq, x63_4, rfl, HA, HJ4, HO_166003, BK155, BK165, HB⟩ := hcut
    cases kq with
    | zero => exact absurd HA.out (by simp [lamplighterlaw19_TraceNumbers.j0])
    | succ kj4 =>
      have H := HA.out
      clear HA
      simp only [lamplighterlaw19_TraceNumbers.j0] at H
      by_cases c32 : x63_4 = true
      · subst c32
        have H1 : (some false) = some r := by rw [if_pos rfl] at H; exact H
        clear H
        have H := H1
        clear H1
        obtain rfl := Option.some.inj H
        cases hrt
      · replace c32 := Bool.eq_false_iff.mpr c32
        subst c32
        have H1 : ((trace_Event.f 4 (Int.tmod a0 1000000000000000000) 0 ([] : List Int)).bind fun bt167 => (if (bt167.1.size : Int) < 6 then (some false) else (if 5 ≤ (bt167.1.size : Int) then (if 6 + (bt167.1.extract 5 bt167.1.size).size ≤ 9223372036854775807 then ((trace_Read.f ((⟨#[116, 105, 99, 107, 32, 48]⟩ : ByteArray) ++ (bt167.1.extract 5 bt167.1.size))).bind fun bt169 => ((trace_Read.f ((⟨#[116, 105, 99, 107, 32, 43]⟩ : ByteArray) ++ (bt167.1.extract 5 bt167.1.size))).bind fun bt177 => (if bt167.1.size + 1 ≤ 9223372036854775807 then (if (bt167.1 ++ (⟨#[32]⟩ : ByteArray)).size + (bt167.1.extract 5 bt167.1.size).size ≤ 9223372036854775807 then ((trace_Read.f ((bt167.1 ++ (⟨#[32]⟩ : ByteArray)) ++ (bt167.1.extract 5 bt167.1.size))).bind fun bt185 => (if bt169.2.2.2.2 = 10 then (if bt177.2.2.2.2 = 10 then (some (bt185.2.2.2.2 == 10)) else (some false)) else (some false))) else (none)) else (none)))) else (none)) else (none)))) = some r := by rw [if_neg (show ¬ (false = true) by decide)] at H; exact H
        clear H
        have H := H1
        clear H1
        replace H := Option.bind_eq_some_iff.mp H
        obtain ⟨⟨t167, t168⟩, A330, H⟩ := H
        replace H : (if (t167.size : Int) < 6 then (some false) else (if 5 ≤ (t167.size : Int) then (if 6 + (t167.extract 5 t167.size).size ≤ 9223372036854775807 then ((trace_Read.f ((⟨#[116, 105, 99, 107, 32, 48]⟩ : ByteArray) ++ (t167.extract 5 t167.size))).bind fun bt169 => ((trace_Read.f ((⟨#[116, 105, 99, 107, 32, 43]⟩ : ByteArray) ++ (t167.extract 5 t167.size))).bind fun bt177 => (if t167.size + 1 ≤ 9223372036854775807 then (if (t167 ++ (⟨#[32]⟩ : ByteArray)).size + (t167.extract 5 t167.size).size ≤ 9223372036854775807 then ((trace_Read.f ((t167 ++ (⟨#[32]⟩ : ByteArray)) ++ (t167.extract 5 t167.size))).bind fun bt185 => (if bt169.2.2.2.2 = 10 then (if bt177.2.2.2.2 = 10 then (some (bt185.2.2.2.2 == 10)) else (some false)) else (some false))) else (none)) else (none)))) else (none)) else (none))) = some r := H
        have A33 := Aside0.mk A330
        clear A330
        by_cases c34 : (t167.size : Int) < 6
        · rw [if_pos c34] at H
          have c34b0 : decide ((t167.size : Int) < 6) = true := decide_eq_true c34
          have c34b1 : decide (t167.size < 6) = true := decide_eq_true (by omega)
          clear c34
          obtain rfl := Option.some.inj H
          cases hrt
        · rw [if_neg c34] at H
          have c34b0 : decide ((t167.size : Int) < 6) = false := decide_eq_false c34
          have c34b1 : decide (t167.size < 6) = false := decide_eq_false (by omega)
          clear c34
          by_cases c36 : 5 ≤ (t167.size : Int)
          · rw [if_pos c36] at H
            have c36b0 := eq_true c36
            have c36b1 : decide (5 ≤ (t167.size : Int)) = true := decide_eq_true c36
            clear c36
            by_cases c37 : 6 + (t167.extract 5 t167.size).size ≤ 9223372036854775807
            · rw [if_pos c37] at H
              have c37b0 := eq_true c37
              have c37b1 : decide (6 + (t167.extract 5 t167.size).size ≤ 9223372036854775807) = true := decide_eq_true c37
              try have c37b2 : (9223372036854775807 < 6 + (t167.extract 5 t167.size).size) = False := eq_false (Nat.not_lt.2 c37)
              try (have c37b4 := c37b2; simp only [ByteArray.size_append] at c37b4)
              replace H := Option.bind_eq_some_iff.mp H
              obtain ⟨⟨t169, t170, t171, t172, t175⟩, A380, H⟩ := H
              replace H : ((trace_Read.f ((⟨#[116, 105, 99, 107, 32, 43]⟩ : ByteArray) ++ (t167.extract 5 t167.size))).bind fun bt177 => (if t167.size + 1 ≤ 9223372036854775807 then (if (t167 ++ (⟨#[32]⟩ : ByteArray)).size + (t167.extract 5 t167.size).size ≤ 9223372036854775807 then ((trace_Read.f ((t167 ++ (⟨#[32]⟩ : ByteArray)) ++ (t167.extract 5 t167.size))).bind fun bt185 => (if t175 = 10 then (if bt177.2.2.2.2 = 10 then (some (bt185.2.2.2.2 == 10)) else (some false)) else (some false))) else (none)) else (none))) = some r := H
              have A38 := Aside0.mk A380
              clear A380
              have c39b0 := eq_true (of_decide_eq_true (by first | (with_reducible assumption) | assumption) : 5 ≤ (t167.size : Int))
              replace H := Option.bind_eq_some_iff.mp H
              obtain ⟨⟨t177, t178, t179, t180, t183⟩, A400, H⟩ := H
              replace H : (if t167.size + 1 ≤ 9223372036854775807 then (if (t167 ++ (⟨#[32]⟩ : ByteArray)).size + (t167.extract 5 t167.size).size ≤ 9223372036854775807 then ((trace_Read.f ((t167 ++ (⟨#[32]⟩ : ByteArray)) ++ (t167.extract 5 t167.size))).bind fun bt185 => (if t175 = 10 then (if t183 = 10 then (some (bt185.2.2.2.2 == 10)) else (some false)) else (some false))) else (none)) else (none)) = some r := H
              have A40 := Aside0.mk A400
              clear A400
              by_cases c41 : t167.size + 1 ≤ 9223372036854775807
              · rw [if_pos c41] at H
                have c41b0 := eq_true c41
                have c41b1 : decide (t167.size + 1 ≤ 9223372036854775807) = true := decide_eq_true c41
                try have c41b2 : (9223372036854775807 < t167.size + 1) = False := eq_false (Nat.not_lt.2 c41)
                try (have c41b4 := c41b2; simp only [ByteArray.size_append] at c41b4)
                have c42b0 := eq_true (of_decide_eq_true (by first | (with_reducible assumption) | assumption) : 5 ≤ (t167.size : Int))
                by_cases c43 : (t167 ++ (⟨#[32]⟩ : ByteArray)).size + (t167.extract 5 t167.size).size ≤ 9223372036854775807
                · rw [if_pos c43] at H
                  have c43b0 := eq_true c43
                  have c43b1 : decide ((t167 ++ (⟨#[32]⟩ : ByteArray)).size + (t167.extract 5 t167.size).size ≤ 9223372036854775807) = true := decide_eq_true c43
                  try have c43b2 : (9223372036854775807 < (t167 ++ (⟨#[32]⟩ : ByteArray)).size + (t167.extract 5 t167.size).size) = False := eq_false (Nat.not_lt.2 c43)
                  try (have c43b4 := c43b2; simp only [ByteArray.size_append] at c43b4)
                  replace H := Option.bind_eq_some_iff.mp H
                  obtain ⟨⟨t185, t186, t187, t188, t191⟩, A440, H⟩ := H
                  replace H : (if t175 = 10 then (if t183 = 10 then (some (t191 == 10)) else (some false)) else (some false)) = some r := H
                  have A44 := Aside0.mk A440
                  clear A440
                  by_cases c45 : t175 = 10
                  · rw [if_pos c45] at H
                    have c45b0 : (t175 == 10) = true := beq_iff_eq.mpr c45
                    have c45b1 : (t175 != 10) = false := bne_eq_false_iff_eq.mpr c45
                    clear c45
                    by_cases c46 : t183 = 10
                    · rw [if_pos c46] at H
                      have c46b0 : (t183 == 10) = true := beq_iff_eq.mpr c46
                      have c46b1 : (t183 != 10) = false := bne_eq_false_iff_eq.mpr c46
                      clear c46
                      obtain rfl := Option.some.inj H
                      clear hrt
                      go_wp2_with (first | ((with_reducible refine gate_callee (f := 15) rfl ?_); refine goesL_ (some 67) rfl rfl Tryd.func15 (by kernel_rfl) rfl #[.agg #[.int .i64 4, .int .i64 (Int.tmod a0 1000000000000000000), .int .i64 0, .slice none 0 0]] rfl (by (try simp only [List.map_toArray, List.map_cons, List.map_nil]); first | done | rfl | (simp only [List.length_drop, List.length_take]; rfl)) ?_; (refine (trace_Event.calls 4 (Int.tmod a0 1000000000000000000) 0 _ _ ([] : List Int) t167 t168 _ ?side1 ?side2 A33.out (globt_below HGLOT.out (by repeat (first | (with_reducible first | exact HB.out | apply below_alloc | apply pw_below_drewN | apply below_drew1 | refine below_set ?_ GE155.out | refine below_set ?_ GE165.out) | exact HB.out)))).mono ?_); (case side1 => exact Kd.C_nil _ _); (case side2 => exact Nat.le_refl _); rintro e w47 ⟨rfl, hb⟩; refine ⟨_, rfl, ?_⟩; have n0_ := Aside0.mk (Kd.R_below (by (with_reducible repeat (first | apply Kd.R_alloc | apply Kd.R_drewN | apply Kd.R_drew)); exact HO_166003.out) hb); have n1_ := Aside0.mk (blk_below (g := gb155) (o := .cells #[.int .i64 7, .int .i64 (Int.tmod a0 1000000000000000000), .int .i64 (Int.tmod a1 1000000000000000000), .slice none 0 0] 29 (0, 0)) (by (with_reducible repeat (first | refine blk_drewN ?_ _ | refine blk_drew ?_ | refine blk_alloc ?_ _)); exact BK155.out) hb); have n2_ := Aside0.mk (blk_below (g := gb165) (o := .cells #[.int .i64 t158, .int .i64 t159, .int .i64 t160, .slice Ao13 t161.length co13] 29 (0, 0)) (by (with_reducible repeat (first | refine blk_drewN ?_ _ | refine blk_drew ?_ | refine blk_alloc ?_ _)); exact BK165.out) hb); have n3_ := Aside0.mk (below_step (by repeat (first | (with_reducible first | exact HB.out | apply below_alloc | apply pw_below_drewN | apply below_drew1 | refine below_set ?_ GE155.out | refine below_set ?_ GE165.out) | exact HB.out)) hb); clear HO_166003; clear BK155; clear BK165; clear HB; have HO_166003 := n0_; have BK155 := n1_; have BK165 := n2_; have HB := n3_; clear n0_ n1_ n2_ n3_; (try clear hb); (try clear hb2); (try clear hk); (try clear hi)) | ((with_reducible refine gate_callee (f := 17) rfl ?_); refine goesL_ (some 77) rfl rfl Tryd.func17 (by kernel_rfl) rfl #[.string ((⟨#[116, 105, 99, 107, 32, 48]⟩ : ByteArray) ++ (t167.extract 5 t167.size))] rfl (by (try simp only [List.map_toArray, List.map_cons, List.map_nil]); first | done | rfl | (simp only [List.length_drop, List.length_take]; rfl)) ?_; (with_reducible refine (trace_Read.calls ((⟨#[116, 105, 99, 107, 32, 48]⟩ : ByteArray) ++ (t167.extract 5 t167.size)) t169 t170 t171 t172 t175 _ A38.out (globt_below HGLOT.out (by repeat (first | (with_reducible first | exact HB.out | apply below_alloc | apply pw_below_drewN | apply below_drew1 | refine below_set ?_ GE155.out | refine below_set ?_ GE165.out) | exact HB.out)))).mono ?_); rintro e w48 ⟨v173, rfl, ho0, hb⟩; refine ⟨_, rfl, ?_⟩; have n0_ := Aside0.mk (Kd.R_elder' (by (with_reducible repeat (first | apply Kd.R_alloc | apply Kd.R_drewN | apply Kd.R_drew)); exact HO_166003.out) (Kd.R_base ho0) hb); have n1_ := Aside0.mk (Kd.R_lower (Kd.R_new' ho0 (Kd.R_lt (by (with_reducible repeat (first | apply Kd.R_alloc | apply Kd.R_drewN | apply Kd.R_drew)); exact HO_166003.out))) (below_size (by repeat (first | (with_reducible first | exact HB.out | apply below_alloc | apply pw_below_drewN | apply below_drew1 | refine below_set ?_ GE155.out | refine below_set ?_ GE165.out) | exact HB.out)))); have n2_ := Aside0.mk (blk_below (g := gb155) (o := .cells #[.int .i64 7, .int .i64 (Int.tmod a0 1000000000000000000), .int .i64 (Int.tmod a1 1000000000000000000), .slice none 0 0] 29 (0, 0)) (by (with_reducible repeat (first | refine blk_drewN ?_ _ | refine blk_drew ?_ | refine blk_alloc ?_ _)); exact BK155.out) hb); have n3_ := Aside0.mk (blk_below (g := gb165) (o := .cells #[.int .i64 t158, .int .i64 t159, .int .i64 t160, .slice Ao13 t161.length co13] 29 (0, 0)) (by (with_reducible repeat (first | refine blk_drewN ?_ _ | refine blk_drew ?_ | refine blk_alloc ?_ _)); exact BK165.out) hb); have n4_ := Aside0.mk (below_step (by repeat (first | (with_reducible first | exact HB.out | apply below_alloc | apply pw_below_drewN | apply below_drew1 | refine below_set ?_ GE155.out | refine below_set ?_ GE165.out) | exact HB.out)) hb); clear HO_166003; clear BK155; clear BK165; clear HB; have HO_166003 := n0_; have HO174 := n1_; have BK155 := n2_; have BK165 := n3_; have HB := n4_; clear n0_ n1_ n2_ n3_ n4_; (try clear hb); (try clear hb2); (try clear hk); (try clear hi); (try clear ho0)) | ((with_reducible refine gate_dst (N := 14) rfl ?_); refine box_event ?hg (N := 14) ?hd (cs := #[.int .i64 0, .int .i64 0, .int .i64 0, .slice none 0 0]) (t := 29) ?hr ?_; (case hd => rfl); (case hg => rfl); (case hr => first | (go_simp; done) | (go_simp; rfl)); intro gb176 hg w49 hbox hb; have n0_ := Aside0.mk (Kd.R_below (by (with_reducible repeat (first | apply Kd.R_alloc | apply Kd.R_drewN | apply Kd.R_drew)); exact HO_166003.out) hb); have n1_ := Aside0.mk (Kd.R_below (by (with_reducible repeat (first | apply Kd.R_alloc | apply Kd.R_drewN | apply Kd.R_drew)); exact HO174.out) hb); have n2_ := Aside0.mk (blk_below (g := gb155) (o := .cells #[.int .i64 7, .int .i64 (Int.tmod a0 1000000000000000000), .int .i64 (Int.tmod a1 1000000000000000000), .slice none 0 0] 29 (0, 0)) (by (with_reducible repeat (first | refine blk_drewN ?_ _ | refine blk_drew ?_ | refine blk_alloc ?_ _)); exact BK155.out) hb); have n3_ := Aside0.mk (blk_below (g := gb165) (o := .cells #[.int .i64 t158, .int .i64 t159, .int .i64 t160, .slice Ao13 t161.length co13] 29 (0, 0)) (by (with_reducible repeat (first | refine blk_drewN ?_ _ | refine blk_drew ?_ | refine blk_alloc ?_ _)); exact BK165.out) hb); have n4_ := Aside0.mk (below_step (by repeat (first | (with_reducible first | exact HB.out | apply below_alloc | apply pw_below_drewN | apply below_drew1 | refine below_set ?_ GE155.out | refine below_set ?_ GE165.out) | exact HB.out)) hb); have n5_ := Aside0.mk (hbox); have n6_ := Aside0.mk ((by rw [hg]; exact (below_size (by repeat (first | (with_reducible first | exact HB.out | apply below_alloc | apply pw_below_drewN | apply below_drew1 | refine below_set ?_ GE155.out | refine below_set ?_ GE165.out) | exact HB.out))) : w.heap.size ≤ gb176)); have n7_ := Aside0.mk ((by rw [hg]; exact (below_size (by repeat (first | (with_reducible first | exact HB.out | apply below_alloc | apply pw_below_drewN | apply below_drew1 | refine below_set ?_ GE155.out | refine below_set ?_ GE165.out) | exact HB.out))) : w.heap.size ≤ gb176)); have n8_ := Aside0.mk ((by rw [hg]; exact Nat.ne_of_lt (blk_lt (g := gb155) (o := .cells #[.int .i64 7, .int .i64 (Int.tmod a0 1000000000000000000), .int .i64 (Int.tmod a1 1000000000000000000), .slice none 0 0] 29 (0, 0)) (by (with_reducible repeat (first | refine blk_drewN ?_ _ | refine blk_drew ?_ | refine blk_alloc ?_ _)); exact BK155.out)) : gb155 ≠ gb176)); have n9_ := Aside0.mk ((by rw [hg]; exact Nat.ne_of_gt (blk_lt (g := gb155) (o := .cells #[.int .i64 7, .int .i64 (Int.tmod a0 1000000000000000000), .int .i64 (Int.tmod a1 1000000000000000000), .slice none 0 0] 29 (0, 0)) (by (with_reducible repeat (first | refine blk_drewN ?_ _ | refine blk_drew ?_ | refine blk_alloc ?_ _)); exact BK155.out)) : gb176 ≠ gb155)); have n10_ := Aside0.mk ((by rw [hg]; exact Nat.ne_of_lt (blk_lt (g := gb165) (o := .cells #[.int .i64 t158, .int .i64 t159, .int .i64 t160, .slice Ao13 t161.length co13] 29 (0, 0)) (by (with_reducible repeat (first | refine blk_drewN ?_ _ | refine blk_drew ?_ | refine blk_alloc ?_ _)); exact BK165.out)) : gb165 ≠ gb176)); have n11_ := Aside0.mk ((by rw [hg]; exact Nat.ne_of_gt (blk_lt (g := gb165) (o := .cells #[.int .i64 t158, .int .i64 t159, .int .i64 t160, .slice Ao13 t161.length co13] 29 (0, 0)) (by (with_reducible repeat (first | refine blk_drewN ?_ _ | refine blk_drew ?_ | refine blk_alloc ?_ _)); exact BK165.out)) : gb176 ≠ gb165)); clear HO_166003; clear HO174; clear BK155; clear BK165; clear HB; have HO_166003 := n0_; have HO174 := n1_; have BK155 := n2_; have BK165 := n3_; have HB := n4_; have BK176 := n5_; have GW176 := n6_; have GE176 := n7_; have NB155_176 := n8_; have NB176_155 := n9_; have NB165_176 := n10_; have NB176_165 := n11_; clear n0_ n1_ n2_ n3_ n4_ n5_ n6_ n7_ n8_ n9_ n10_ n11_; clear hb hbox hg; have hnb50 := NB176_155.out; have hnc50 := NB155_176.out; have hnb51 := NB176_165.out; have hnc51 := NB165_176.out; have hcz52_0 : w49.cell? ⟨gb176, 0, none⟩ = some (.int .i64 0) := (blk_cell BK176.out 0).trans rfl; have hcz52_1 : w49.cell? ⟨gb176, 1, none⟩ = some (.int .i64 0) := (blk_cell BK176.out 1).trans rfl; have hcz52_2 : w49.cell? ⟨gb176, 2, none⟩ = some (.int .i64 0) := (blk_cell BK176.out 2).trans rfl; have hcz52_3 : w49.cell? ⟨gb176, 3, none⟩ = some (.slice none 0 0) := (blk_cell BK176.out 3).trans rfl; have hfz52_0 := blk_frozen BK176.out 0; have hfz52_1 := blk_frozen BK176.out 1; have hfz52_2 := blk_frozen BK176.out 2; have hfz52_3 := blk_frozen BK176.out 3; obtain ⟨Ao53, co53, eo53⟩ := Kd.R_slice HO174.out; subst eo53) | ((with_reducible refine gate_callee (f := 17) rfl ?_); refine goesL_ (some 84) rfl rfl Tryd.func17 (by kernel_rfl) rfl #[.string ((⟨#[116, 105, 99, 107, 32, 43]⟩ : ByteArray) ++ (t167.extract 5 t167.size))] rfl (by (try simp only [List.map_toArray, List.map_cons, List.map_nil]); first | done | rfl | (simp only [List.length_drop, List.length_take]; rfl)) ?_; (with_reducible refine (trace_Read.calls ((⟨#[116, 105, 99, 107, 32, 43]⟩ : ByteArray) ++ (t167.extract 5 t167.size)) t177 t178 t179 t180 t183 _ A40.out (globt_below HGLOT.out (by repeat (first | (with_reducible first | exact HB.out | apply below_alloc | apply pw_below_drewN | apply below_drew1 | refine below_set ?_ GE155.out | refine below_set ?_ GE165.out | refine below_set ?_ GE176.out) | exact HB.out)))).mono ?_); rintro e w54 ⟨v181, rfl, ho0, hb⟩; refine ⟨_, rfl, ?_⟩; have n0_ := Aside0.mk (Kd.R_elder' (by (with_reducible repeat (first | apply Kd.R_alloc | apply Kd.R_drewN | apply Kd.R_drew)); exact (Kd.R_mono (Kd.R_far (p := ⟨gb176, 3, none⟩) (Kd.R_far (p := ⟨gb176, 2, none⟩) (Kd.R_far (p := ⟨gb176, 1, none⟩) (Kd.R_far (p := ⟨gb176, 0, none⟩) (Kd.R_types HO_166003.out BK176.out (by decide)) (fun _ hk => hk.2) (.int .i64 t169)) (fun _ hk => hk.2) (.int .i64 t170)) (fun _ hk => hk.2) (.int .i64 t171)) (fun _ hk => hk.2) (.slice Ao53 t172.length co53)) (fun _ h_ => h_.1))) (Kd.R_base ho0) hb); have n1_ := Aside0.mk (Kd.R_elder' (by (with_reducible repeat (first | apply Kd.R_alloc | apply Kd.R_drewN | apply Kd.R_drew)); exact (Kd.R_mono (Kd.R_far (p := ⟨gb176, 3, none⟩) (Kd.R_far (p := ⟨gb176, 2, none⟩) (Kd.R_far (p := ⟨gb176, 1, none⟩) (Kd.R_far (p := ⟨gb176, 0, none⟩) (Kd.R_types HO174.out BK176.out (by decide)) (fun _ hk => hk.2) (.int .i64 t169)) (fun _ hk => hk.2) (.int .i64 t170)) (fun _ hk => hk.2) (.int .i64 t171)) (fun _ hk => hk.2) (.slice Ao53 t172.length co53)) (fun _ h_ => h_.1))) (Kd.R_base ho0) hb); have n2_ := Aside0.mk (Kd.R_lower (Kd.R_new' (Kd.R_new' ho0 (Kd.R_lt (by (with_reducible repeat (first | apply Kd.R_alloc | apply Kd.R_drewN | apply Kd.R_drew)); exact (Kd.R_mono (Kd.R_far (p := ⟨gb176, 3, none⟩) (Kd.R_far (p := ⟨gb176, 2, none⟩) (Kd.R_far (p := ⟨gb176, 1, none⟩) (Kd.R_far (p := ⟨gb176, 0, none⟩) (Kd.R_types HO_166003.out BK176.out (by decide)) (fun _ hk => hk.2) (.int .i64 t169)) (fun _ hk => hk.2) (.int .i64 t170)) (fun _ hk => hk.2) (.int .i64 t171)) (fun _ hk => hk.2) (.slice Ao53 t172.length co53)) (fun _ h_ => h_.1))))) (Kd.R_lt (by (with_reducible repeat (first | apply Kd.R_alloc | apply Kd.R_drewN | apply Kd.R_drew)); exact (Kd.R_mono (Kd.R_far (p := ⟨gb176, 3, none⟩) (Kd.R_far (p := ⟨gb176, 2, none⟩) (Kd.R_far (p := ⟨gb176, 1, none⟩) (Kd.R_far (p := ⟨gb176, 0, none⟩) (Kd.R_types HO174.out BK176.out (by decide)) (fun _ hk => hk.2) (.int .i64 t169)) (fun _ hk => hk.2) (.int .i64 t170)) (fun _ hk => hk.2) (.int .i64 t171)) (fun _ hk => hk.2) (.slice Ao53 t172.length co53)) (fun _ h_ => h_.1))))) (below_size (by repeat (first | (with_reducible first | exact HB.out | apply below_alloc | apply pw_below_drewN | apply below_drew1 | refine below_set ?_ GE155.out | refine below_set ?_ GE165.out | refine below_set ?_ GE176.out) | exact HB.out)))); have n3_ := Aside0.mk (blk_below (g := gb155) (o := .cells #[.int .i64 7, .int .i64 (Int.tmod a0 1000000000000000000), .int .i64 (Int.tmod a1 1000000000000000000), .slice none 0 0] 29 (0, 0)) (by (with_reducible repeat (first | refine blk_drewN ?_ _ | refine blk_drew ?_ | refine blk_alloc ?_ _)); refine blk_far ?_ NB155_176.out _; (with_reducible repeat (first | refine blk_drewN ?_ _ | refine blk_drew ?_ | refine blk_alloc ?_ _)); refine blk_far ?_ NB155_176.out _; (with_reducible repeat (first | refine blk_drewN ?_ _ | refine blk_drew ?_ | refine blk_alloc ?_ _)); refine blk_far ?_ NB155_176.out _; (with_reducible repeat (first | refine blk_drewN ?_ _ | refine blk_drew ?_ | refine blk_alloc ?_ _)); refine blk_far ?_ NB155_176.out _; (with_reducible repeat (first | refine blk_drewN ?_ _ | refine blk_drew ?_ | refine blk_alloc ?_ _)); exact BK155.out) hb); have n4_ := Aside0.mk (blk_below (g := gb165) (o := .cells #[.int .i64 t158, .int .i64 t159, .int .i64 t160, .slice Ao13 t161.length co13] 29 (0, 0)) (by (with_reducible repeat (first | refine blk_drewN ?_ _ | refine blk_drew ?_ | refine blk_alloc ?_ _)); refine blk_far ?_ NB165_176.out _; (with_reducible repeat (first | refine blk_drewN ?_ _ | refine blk_drew ?_ | refine blk_alloc ?_ _)); refine blk_far ?_ NB165_176.out _; (with_reducible repeat (first | refine blk_drewN ?_ _ | refine blk_drew ?_ | refine blk_alloc ?_ _)); refine blk_far ?_ NB165_176.out _; (with_reducible repeat (first | refine blk_drewN ?_ _ | refine blk_drew ?_ | refine blk_alloc ?_ _)); refine blk_far ?_ NB165_176.out _; (with_reducible repeat (first | refine blk_drewN ?_ _ | refine blk_drew ?_ | refine blk_alloc ?_ _)); exact BK165.out) hb); have n5_ := Aside0.mk (blk_below (g := gb176) (o := .cells #[.int .i64 t169, .int .i64 t170, .int .i64 t171, .slice Ao53 t172.length co53] 29 (0, 0)) (by (with_reducible repeat (first | refine blk_drewN ?_ _ | refine blk_drew ?_ | refine blk_alloc ?_ _)); refine blk_put (cs := #[.int .i64 t169, .int .i64 t170, .int .i64 t171, .slice none 0 0]) ?_ 3 _ rfl; (with_reducible repeat (first | refine blk_drewN ?_ _ | refine blk_drew ?_ | refine blk_alloc ?_ _)); refine blk_put (cs := #[.int .i64 t169, .int .i64 t170, .int .i64 0, .slice none 0 0]) ?_ 2 _ rfl; (with_reducible repeat (first | refine blk_drewN ?_ _ | refine blk_drew ?_ | refine blk_alloc ?_ _)); refine blk_put (cs := #[.int .i64 t169, .int .i64 0, .int .i64 0, .slice none 0 0]) ?_ 1 _ rfl; (with_reducible repeat (first | refine blk_drewN ?_ _ | refine blk_drew ?_ | refine blk_alloc ?_ _)); refine blk_put (cs := #[.int .i64 0, .int .i64 0, .int .i64 0, .slice none 0 0]) ?_ 0 _ rfl; (with_reducible repeat (first | refine blk_drewN ?_ _ | refine blk_drew ?_ | refine blk_alloc ?_ _)); exact BK176.out) hb); have n6_ := Aside0.mk (below_step (by repeat (first | (with_reducible first | exact HB.out | apply below_alloc | apply pw_below_drewN | apply below_drew1 | refine below_set ?_ GE155.out | refine below_set ?_ GE165.out | refine below_set ?_ GE176.out) | exact HB.out)) hb); clear HO_166003; clear HO174; clear BK155; clear BK165; clear BK176; clear HB; have HO_166003 := n0_; have HO174 := n1_; have HO182 := n2_; have BK155 := n3_; have BK165 := n4_; have BK176 := n5_; have HB := n6_; clear n0_ n1_ n2_ n3_ n4_ n5_ n6_; (try clear hb); (try clear hb2); (try clear hk); (try clear hi); (try clear ho0)) | ((with_reducible refine gate_dst (N := 16) rfl ?_); refine box_event ?hg (N := 16) ?hd (cs := #[.int .i64 0, .int .i64 0, .int .i64 0, .slice none 0 0]) (t := 29) ?hr ?_; (case hd => rfl); (case hg => rfl); (case hr => first | (go_simp; done) | (go_simp; rfl)); intro gb184 hg w55 hbox hb; have n0_ := Aside0.mk (Kd.R_below (by (with_reducible repeat (first | apply Kd.R_alloc | apply Kd.R_drewN | apply Kd.R_drew)); exact HO_166003.out) hb); have n1_ := Aside0.mk (Kd.R_below (by (with_reducible repeat (first | apply Kd.R_alloc | apply Kd.R_drewN | apply Kd.R_drew)); exact HO174.out) hb); have n2_ := Aside0.mk (Kd.R_below (by (with_reducible repeat (first | apply Kd.R_alloc | apply Kd.R_drewN | apply Kd.R_drew)); exact HO182.out) hb); have n3_ := Aside0.mk (blk_below (g := gb155) (o := .cells #[.int .i64 7, .int .i64 (Int.tmod a0 1000000000000000000), .int .i64 (Int.tmod a1 1000000000000000000), .slice none 0 0] 29 (0, 0)) (by (with_reducible repeat (first | refine blk_drewN ?_ _ | refine blk_drew ?_ | refine blk_alloc ?_ _)); exact BK155.out) hb); have n4_ := Aside0.mk (blk_below (g := gb165) (o := .cells #[.int .i64 t158, .int .i64 t159, .int .i64 t160, .slice Ao13 t161.length co13] 29 (0, 0)) (by (with_reducible repeat (first | refine blk_drewN ?_ _ | refine blk_drew ?_ | refine blk_alloc ?_ _)); exact BK165.out) hb); have n5_ := Aside0.mk (blk_below (g := gb176) (o := .cells #[.int .i64 t169, .int .i64 t170, .int .i64 t171, .slice Ao53 t172.length co53] 29 (0, 0)) (by (with_reducible repeat (first | refine blk_drewN ?_ _ | refine blk_drew ?_ | refine blk_alloc ?_ _)); exact BK176.out) hb); have n6_ := Aside0.mk (below_step (by repeat (first | (with_reducible first | exact HB.out | apply below_alloc | apply pw_below_drewN | apply below_drew1 | refine below_set ?_ GE155.out | refine below_set ?_ GE165.out | refine below_set ?_ GE176.out) | exact HB.out)) hb); have n7_ := Aside0.mk (hbox); have n8_ := Aside0.mk ((by rw [hg]; exact (below_size (by repeat (first | (with_reducible first | exact HB.out | apply below_alloc | apply pw_below_drewN | apply below_drew1 | refine below_set ?_ GE155.out | refine below_set ?_ GE165.out | refine below_set ?_ GE176.out) | exact HB.out))) : w.heap.size ≤ gb184)); have n9_ := Aside0.mk ((by rw [hg]; exact (below_size (by repeat (first | (with_reducible first | exact HB.out | apply below_alloc | apply pw_below_drewN | apply below_drew1 | refine below_set ?_ GE155.out | refine below_set ?_ GE165.out | refine below_set ?_ GE176.out) | exact HB.out))) : w.heap.size ≤ gb184)); have n10_ := Aside0.mk ((by rw [hg]; exact Nat.ne_of_lt (blk_lt (g := gb155) (o := .cells #[.int .i64 7, .int .i64 (Int.tmod a0 1000000000000000000), .int .i64 (Int.tmod a1 1000000000000000000), .slice none 0 0] 29 (0, 0)) (by (with_reducible repeat (first | refine blk_drewN ?_ _ | refine blk_drew ?_ | refine blk_alloc ?_ _)); exact BK155.out)) : gb155 ≠ gb184)); have n11_ := Aside0.mk ((by rw [hg]; exact Nat.ne_of_gt (blk_lt (g := gb155) (o := .cells #[.int .i64 7, .int .i64 (Int.tmod a0 1000000000000000000), .int .i64 (Int.tmod a1 1000000000000000000), .slice none 0 0] 29 (0, 0)) (by (with_reducible repeat (first | refine blk_drewN ?_ _ | refine blk_drew ?_ | refine blk_alloc ?_ _)); exact BK155.out)) : gb184 ≠ gb155)); have n12_ := Aside0.mk ((by rw [hg]; exact Nat.ne_of_lt (blk_lt (g := gb165) (o := .cells #[.int .i64 t158, .int .i64 t159, .int .i64 t160, .slice Ao13 t161.length co13] 29 (0, 0)) (by (with_reducible repeat (first | refine blk_drewN ?_ _ | refine blk_drew ?_ | refine blk_alloc ?_ _)); exact BK165.out)) : gb165 ≠ gb184)); have n13_ := Aside0.mk ((by rw [hg]; exact Nat.ne_of_gt (blk_lt (g := gb165) (o := .cells #[.int .i64 t158, .int .i64 t159, .int .i64 t160, .slice Ao13 t161.length co13] 29 (0, 0)) (by (with_reducible repeat (first | refine blk_drewN ?_ _ | refine blk_drew ?_ | refine blk_alloc ?_ _)); exact BK165.out)) : gb184 ≠ gb165)); have n14_ := Aside0.mk ((by rw [hg]; exact Nat.ne_of_lt (blk_lt (g := gb176) (o := .cells #[.int .i64 t169, .int .i64 t170, .int .i64 t171, .slice Ao53 t172.length co53] 29 (0, 0)) (by (with_reducible repeat (first | refine blk_drewN ?_ _ | refine blk_drew ?_ | refine blk_alloc ?_ _)); exact BK176.out)) : gb176 ≠ gb184)); have n15_ := Aside0.mk ((by rw [hg]; exact Nat.ne_of_gt (blk_lt (g := gb176) (o := .cells #[.int .i64 t169, .int .i64 t170, .int .i64 t171, .slice Ao53 t172.length co53] 29 (0, 0)) (by (with_reducible repeat (first | refine blk_drewN ?_ _ | refine blk_drew ?_ | refine blk_alloc ?_ _)); exact BK176.out)) : gb184 ≠ gb176)); clear HO_166003; clear HO174; clear HO182; clear BK155; clear BK165; clear BK176; clear HB; have HO_166003 := n0_; have HO174 := n1_; have HO182 := n2_; have BK155 := n3_; have BK165 := n4_; have BK176 := n5_; have HB := n6_; have BK184 := n7_; have GW184 := n8_; have GE184 := n9_; have NB155_184 := n10_; have NB184_155 := n11_; have NB165_184 := n12_; have NB184_165 := n13_; have NB176_184 := n14_; have NB184_176 := n15_; clear n0_ n1_ n2_ n3_ n4_ n5_ n6_ n7_ n8_ n9_ n10_ n11_ n12_ n13_ n14_ n15_; clear hb hbox hg; have hnb56 := NB184_155.out; have hnc56 := NB155_184.out; have hnb57 := NB184_165.out; have hnc57 := NB165_184.out; have hnb58 := NB184_176.out; have hnc58 := NB176_184.out; have hcz59_0 : w55.cell? ⟨gb184, 0, none⟩ = some (.int .i64 0) := (blk_cell BK184.out 0).trans rfl; have hcz59_1 : w55.cell? ⟨gb184, 1, none⟩ = some (.int .i64 0) := (blk_cell BK184.out 1).trans rfl; have hcz59_2 : w55.cell? ⟨gb184, 2, none⟩ = some (.int .i64 0) := (blk_cell BK184.out 2).trans rfl; have hcz59_3 : w55.cell? ⟨gb184, 3, none⟩ = some (.slice none 0 0) := (blk_cell BK184.out 3).trans rfl; have hfz59_0 := blk_frozen BK184.out 0; have hfz59_1 := blk_frozen BK184.out 1; have hfz59_2 := blk_frozen BK184.out 2; have hfz59_3 := blk_frozen BK184.out 3; obtain ⟨Ao60, co60, eo60⟩ := Kd.R_slice HO182.out; subst eo60) | ((with_reducible refine gate_callee (f := 17) rfl ?_); refine goesL_ (some 93) rfl rfl Tryd.func17 (by kernel_rfl) rfl #[.string ((t167 ++ (⟨#[32]⟩ : ByteArray)) ++ (t167.extract 5 t167.size))] rfl (by (try simp only [List.map_toArray, List.map_cons, List.map_nil]); first | done | rfl | (simp only [List.length_drop, List.length_take]; rfl)) ?_; (with_reducible refine (trace_Read.calls ((t167 ++ (⟨#[32]⟩ : ByteArray)) ++ (t167.extract 5 t167.size)) t185 t186 t187 t188 t191 _ A44.out (globt_below HGLOT.out (by repeat (first | (with_reducible first | exact HB.out | apply below_alloc | apply pw_below_drewN | apply below_drew1 | refine below_set ?_ GE155.out | refine below_set ?_ GE165.out | refine below_set ?_ GE176.out | refine below_set ?_ GE184.out) | exact HB.out)))).mono ?_); rintro e w61 ⟨v189, rfl, ho0, hb⟩; refine ⟨_, rfl, ?_⟩; have n0_ := Aside0.mk (Kd.R_elder' (by (with_reducible repeat (first | apply Kd.R_alloc | apply Kd.R_drewN | apply Kd.R_drew)); exact (Kd.R_mono (Kd.R_far (p := ⟨gb184, 3, none⟩) (Kd.R_far (p := ⟨gb184, 2, none⟩) (Kd.R_far (p := ⟨gb184, 1, none⟩) (Kd.R_far (p := ⟨gb184, 0, none⟩) (Kd.R_types HO_166003.out BK184.out (by decide)) (fun _ hk => hk.2) (.int .i64 t177)) (fun _ hk => hk.2) (.int .i64 t178)) (fun _ hk => hk.2) (.int .i64 t179)) (fun _ hk => hk.2) (.slice Ao60 t180.length co60)) (fun _ h_ => h_.1))) (Kd.R_base ho0) hb); have n1_ := Aside0.mk (Kd.R_elder' (by (with_reducible repeat (first | apply Kd.R_alloc | apply Kd.R_drewN | apply Kd.R_drew)); exact (Kd.R_mono (Kd.R_far (p := ⟨gb184, 3, none⟩) (Kd.R_far (p := ⟨gb184, 2, none⟩) (Kd.R_far (p := ⟨gb184, 1, none⟩) (Kd.R_far (p := ⟨gb184, 0, none⟩) (Kd.R_types HO174.out BK184.out (by decide)) (fun _ hk => hk.2) (.int .i64 t177)) (fun _ hk => hk.2) (.int .i64 t178)) (fun _ hk => hk.2) (.int .i64 t179)) (fun _ hk => hk.2) (.slice Ao60 t180.length co60)) (fun _ h_ => h_.1))) (Kd.R_base ho0) hb); have n2_ := Aside0.mk (Kd.R_elder' (by (with_reducible repeat (first | apply Kd.R_alloc | apply Kd.R_drewN | apply Kd.R_drew)); exact (Kd.R_mono (Kd.R_far (p := ⟨gb184, 3, none⟩) (Kd.R_far (p := ⟨gb184, 2, none⟩) (Kd.R_far (p := ⟨gb184, 1, none⟩) (Kd.R_far (p := ⟨gb184, 0, none⟩) (Kd.R_types HO182.out BK184.out (by decide)) (fun _ hk => hk.2) (.int .i64 t177)) (fun _ hk => hk.2) (.int .i64 t178)) (fun _ hk => hk.2) (.int .i64 t179)) (fun _ hk => hk.2) (.slice Ao60 t180.length co60)) (fun _ h_ => h_.1))) (Kd.R_base ho0) hb); have n3_ := Aside0.mk (Kd.R_lower (Kd.R_new' (Kd.R_new' (Kd.R_new' ho0 (Kd.R_lt (by (with_reducible repeat (first | apply Kd.R_alloc | apply Kd.R_drewN | apply Kd.R_drew)); exact (Kd.R_mono (Kd.R_far (p := ⟨gb184, 3, none⟩) (Kd.R_far (p := ⟨gb184, 2, none⟩) (Kd.R_far (p := ⟨gb184, 1, none⟩) (Kd.R_far (p := ⟨gb184, 0, none⟩) (Kd.R_types HO_166003.out BK184.out (by decide)) (fun _ hk => hk.2) (.int .i64 t177)) (fun _ hk => hk.2) (.int .i64 t178)) (fun _ hk => hk.2) (.int .i64 t179)) (fun _ hk => hk.2) (.slice Ao60 t180.length co60)) (fun _ h_ => h_.1))))) (Kd.R_lt (by (with_reducible repeat (first | apply Kd.R_alloc | apply Kd.R_drewN | apply Kd.R_drew)); exact (Kd.R_mono (Kd.R_far (p := ⟨gb184, 3, none⟩) (Kd.R_far (p := ⟨gb184, 2, none⟩) (Kd.R_far (p := ⟨gb184, 1, none⟩) (Kd.R_far (p := ⟨gb184, 0, none⟩) (Kd.R_types HO174.out BK184.out (by decide)) (fun _ hk => hk.2) (.int .i64 t177)) (fun _ hk => hk.2) (.int .i64 t178)) (fun _ hk => hk.2) (.int .i64 t179)) (fun _ hk => hk.2) (.slice Ao60 t180.length co60)) (fun _ h_ => h_.1))))) (Kd.R_lt (by (with_reducible repeat (first | apply Kd.R_alloc | apply Kd.R_drewN | apply Kd.R_drew)); exact (Kd.R_mono (Kd.R_far (p := ⟨gb184, 3, none⟩) (Kd.R_far (p := ⟨gb184, 2, none⟩) (Kd.R_far (p := ⟨gb184, 1, none⟩) (Kd.R_far (p := ⟨gb184, 0, none⟩) (Kd.R_types HO182.out BK184.out (by decide)) (fun _ hk => hk.2) (.int .i64 t177)) (fun _ hk => hk.2) (.int .i64 t178)) (fun _ hk => hk.2) (.int .i64 t179)) (fun _ hk => hk.2) (.slice Ao60 t180.length co60)) (fun _ h_ => h_.1))))) (below_size (by repeat (first | (with_reducible first | exact HB.out | apply below_alloc | apply pw_below_drewN | apply below_drew1 | refine below_set ?_ GE155.out | refine below_set ?_ GE165.out | refine below_set ?_ GE176.out | refine below_set ?_ GE184.out) | exact HB.out)))); have n4_ := Aside0.mk (blk_below (g := gb155) (o := .cells #[.int .i64 7, .int .i64 (Int.tmod a0 1000000000000000000), .int .i64 (Int.tmod a1 1000000000000000000), .slice none 0 0] 29 (0, 0)) (by (with_reducible repeat (first | refine blk_drewN ?_ _ | refine blk_drew ?_ | refine blk_alloc ?_ _)); refine blk_far ?_ NB155_184.out _; (with_reducible repeat (first | refine blk_drewN ?_ _ | refine blk_drew ?_ | refine blk_alloc ?_ _)); refine blk_far ?_ NB155_184.out _; (with_reducible repeat (first | refine blk_drewN ?_ _ | refine blk_drew ?_ | refine blk_alloc ?_ _)); refine blk_far ?_ NB155_184.out _; (with_reducible repeat (first | refine blk_drewN ?_ _ | refine blk_drew ?_ | refine blk_alloc ?_ _)); refine blk_far ?_ NB155_184.out _; (with_reducible repeat (first | refine blk_drewN ?_ _ | refine blk_drew ?_ | refine blk_alloc ?_ _)); exact BK155.out) hb); have n5_ := Aside0.mk (blk_below (g := gb165) (o := .cells #[.int .i64 t158, .int .i64 t159, .int .i64 t160, .slice Ao13 t161.length co13] 29 (0, 0)) (by (with_reducible repeat (first | refine blk_drewN ?_ _ | refine blk_drew ?_ | refine blk_alloc ?_ _)); refine blk_far ?_ NB165_184.out _; (with_reducible repeat (first | refine blk_drewN ?_ _ | refine blk_drew ?_ | refine blk_alloc ?_ _)); refine blk_far ?_ NB165_184.out _; (with_reducible repeat (first | refine blk_drewN ?_ _ | refine blk_drew ?_ | refine blk_alloc ?_ _)); refine blk_far ?_ NB165_184.out _; (with_reducible repeat (first | refine blk_drewN ?_ _ | refine blk_drew ?_ | refine blk_alloc ?_ _)); refine blk_far ?_ NB165_184.out _; (with_reducible repeat (first | refine blk_drewN ?_ _ | refine blk_drew ?_ | refine blk_alloc ?_ _)); exact BK165.out) hb); have n6_ := Aside0.mk (blk_below (g := gb176) (o := .cells #[.int .i64 t169, .int .i64 t170, .int .i64 t171, .slice Ao53 t172.length co53] 29 (0, 0)) (by (with_reducible repeat (first | refine blk_drewN ?_ _ | refine blk_drew ?_ | refine blk_alloc ?_ _)); refine blk_far ?_ NB176_184.out _; (with_reducible repeat (first | refine blk_drewN ?_ _ | refine blk_drew ?_ | refine blk_alloc ?_ _)); refine blk_far ?_ NB176_184.out _; (with_reducible repeat (first | refine blk_drewN ?_ _ | refine blk_drew ?_ | refine blk_alloc ?_ _)); refine blk_far ?_ NB176_184.out _; (with_reducible repeat (first | refine blk_drewN ?_ _ | refine blk_drew ?_ | refine blk_alloc ?_ _)); refine blk_far ?_ NB176_184.out _; (with_reducible repeat (first | refine blk_drewN ?_ _ | refine blk_drew ?_ | refine blk_alloc ?_ _)); exact BK176.out) hb); have n7_ := Aside0.mk (blk_below (g := gb184) (o := .cells #[.int .i64 t177, .int .i64 t178, .int .i64 t179, .slice Ao60 t180.length co60] 29 (0, 0)) (by (with_reducible repeat (first | refine blk_drewN ?_ _ | refine blk_drew ?_ | refine blk_alloc ?_ _)); refine blk_put (cs := #[.int .i64 t177, .int .i64 t178, .int .i64 t179, .slice none 0 0]) ?_ 3 _ rfl; (with_reducible repeat (first | refine blk_drewN ?_ _ | refine blk_drew ?_ | refine blk_alloc ?_ _)); refine blk_put (cs := #[.int .i64 t177, .int .i64 t178, .int .i64 0, .slice none 0 0]) ?_ 2 _ rfl; (with_reducible repeat (first | refine blk_drewN ?_ _ | refine blk_drew ?_ | refine blk_alloc ?_ _)); refine blk_put (cs := #[.int .i64 t177, .int .i64 0, .int .i64 0, .slice none 0 0]) ?_ 1 _ rfl; (with_reducible repeat (first | refine blk_drewN ?_ _ | refine blk_drew ?_ | refine blk_alloc ?_ _)); refine blk_put (cs := #[.int .i64 0, .int .i64 0, .int .i64 0, .slice none 0 0]) ?_ 0 _ rfl; (with_reducible repeat (first | refine blk_drewN ?_ _ | refine blk_drew ?_ | refine blk_alloc ?_ _)); exact BK184.out) hb); have n8_ := Aside0.mk (below_step (by repeat (first | (with_reducible first | exact HB.out | apply below_alloc | apply pw_below_drewN | apply below_drew1 | refine below_set ?_ GE155.out | refine below_set ?_ GE165.out | refine below_set ?_ GE176.out | refine below_set ?_ GE184.out) | exact HB.out)) hb); clear HO_166003; clear HO174; clear HO182; clear BK155; clear BK165; clear BK176; clear BK184; clear HB; have HO_166003 := n0_; have HO174 := n1_; have HO182 := n2_; have HO190 := n3_; have BK155 := n4_; have BK165 := n5_; have BK176 := n6_; have BK184 := n7_; have HB := n8_; clear n0_ n1_ n2_ n3_ n4_ n5_ n6_ n7_ n8_; (try clear hb); (try clear hb2); (try clear hk); (try clear hi); (try clear ho0)) | ((with_reducible refine gate_dst (N := 18) rfl ?_); refine box_event ?hg (N := 18) ?hd (cs := #[.int .i64 0, .int .i64 0, .int .i64 0, .slice none 0 0]) (t := 29) ?hr ?_; (case hd => rfl); (case hg => rfl); (case hr => first | (go_simp; done) | (go_simp; rfl)); intro gb192 hg w62 hbox hb; have n0_ := Aside0.mk (Kd.R_below (by (with_reducible repeat (first | apply Kd.R_alloc | apply Kd.R_drewN | apply Kd.R_drew)); exact HO_166003.out) hb); have n1_ := Aside0.mk (Kd.R_below (by (with_reducible repeat (first | apply Kd.R_alloc | apply Kd.R_drewN | apply Kd.R_drew)); exact HO174.out) hb); have n2_ := Aside0.mk (Kd.R_below (by (with_reducible repeat (first | apply Kd.R_alloc | apply Kd.R_drewN | apply Kd.R_drew)); exact HO182.out) hb); have n3_ := Aside0.mk (Kd.R_below (by (with_reducible repeat (first | apply Kd.R_alloc | apply Kd.R_drewN | apply Kd.R_drew)); exact HO190.out) hb); have n4_ := Aside0.mk (blk_below (g := gb155) (o := .cells #[.int .i64 7, .int .i64 (Int.tmod a0 1000000000000000000), .int .i64 (Int.tmod a1 1000000000000000000), .slice none 0 0] 29 (0, 0)) (by (with_reducible repeat (first | refine blk_drewN ?_ _ | refine blk_drew ?_ | refine blk_alloc ?_ _)); exact BK155.out) hb); have n5_ := Aside0.mk (blk_below (g := gb165) (o := .cells #[.int .i64 t158, .int .i64 t159, .int .i64 t160, .slice Ao13 t161.length co13] 29 (0, 0)) (by (with_reducible repeat (first | refine blk_drewN ?_ _ | refine blk_drew ?_ | refine blk_alloc ?_ _)); exact BK165.out) hb); have n6_ := Aside0.mk (blk_below (g := gb176) (o := .cells #[.int .i64 t169, .int .i64 t170, .int .i64 t171, .slice Ao53 t172.length co53] 29 (0, 0)) (by (with_reducible repeat (first | refine blk_drewN ?_ _ | refine blk_drew ?_ | refine blk_alloc ?_ _)); exact BK176.out) hb); have n7_ := Aside0.mk (blk_below (g := gb184) (o := .cells #[.int .i64 t177, .int .i64 t178, .int .i64 t179, .slice Ao60 t180.length co60] 29 (0, 0)) (by (with_reducible repeat (first | refine blk_drewN ?_ _ | refine blk_drew ?_ | refine blk_alloc ?_ _)); exact BK184.out) hb); have n8_ := Aside0.mk (below_step (by repeat (first | (with_reducible first | exact HB.out | apply below_alloc | apply pw_below_drewN | apply below_drew1 | refine below_set ?_ GE155.out | refine below_set ?_ GE165.out | refine below_set ?_ GE176.out | refine below_set ?_ GE184.out) | exact HB.out)) hb); have n9_ := Aside0.mk (hbox); have n10_ := Aside0.mk ((by rw [hg]; exact (below_size (by repeat (first | (with_reducible first | exact HB.out | apply below_alloc | apply pw_below_drewN | apply below_drew1 | refine below_set ?_ GE155.out | refine below_set ?_ GE165.out | refine below_set ?_ GE176.out | refine below_set ?_ GE184.out) | exact HB.out))) : w.heap.size ≤ gb192)); have n11_ := Aside0.mk ((by rw [hg]; exact (below_size (by repeat (first | (with_reducible first | exact HB.out | apply below_alloc | apply pw_below_drewN | apply below_drew1 | refine below_set ?_ GE155.out | refine below_set ?_ GE165.out | refine below_set ?_ GE176.out | refine below_set ?_ GE184.out) | exact HB.out))) : w.heap.size ≤ gb192)); have n12_ := Aside0.mk ((by rw [hg]; exact Nat.ne_of_lt (blk_lt (g := gb155) (o := .cells #[.int .i64 7, .int .i64 (Int.tmod a0 1000000000000000000), .int .i64 (Int.tmod a1 1000000000000000000), .slice none 0 0] 29 (0, 0)) (by (with_reducible repeat (first | refine blk_drewN ?_ _ | refine blk_drew ?_ | refine blk_alloc ?_ _)); exact BK155.out)) : gb155 ≠ gb192)); have n13_ := Aside0.mk ((by rw [hg]; exact Nat.ne_of_gt (blk_lt (g := gb155) (o := .cells #[.int .i64 7, .int .i64 (Int.tmod a0 1000000000000000000), .int .i64 (Int.tmod a1 1000000000000000000), .slice none 0 0] 29 (0, 0)) (by (with_reducible repeat (first | refine blk_drewN ?_ _ | refine blk_drew ?_ | refine blk_alloc ?_ _)); exact BK155.out)) : gb192 ≠ gb155)); have n14_ := Aside0.mk ((by rw [hg]; exact Nat.ne_of_lt (blk_lt (g := gb165) (o := .cells #[.int .i64 t158, .int .i64 t159, .int .i64 t160, .slice Ao13 t161.length co13] 29 (0, 0)) (by (with_reducible repeat (first | refine blk_drewN ?_ _ | refine blk_drew ?_ | refine blk_alloc ?_ _)); exact BK165.out)) : gb165 ≠ gb192)); have n15_ := Aside0.mk ((by rw [hg]; exact Nat.ne_of_gt (blk_lt (g := gb165) (o := .cells #[.int .i64 t158, .int .i64 t159, .int .i64 t160, .slice Ao13 t161.length co13] 29 (0, 0)) (by (with_reducible repeat (first | refine blk_drewN ?_ _ | refine blk_drew ?_ | refine blk_alloc ?_ _)); exact BK165.out)) : gb192 ≠ gb165)); have n16_ := Aside0.mk ((by rw [hg]; exact Nat.ne_of_lt (blk_lt (g := gb176) (o := .cells #[.int .i64 t169, .int .i64 t170, .int .i64 t171, .slice Ao53 t172.length co53] 29 (0, 0)) (by (with_reducible repeat (first | refine blk_drewN ?_ _ | refine blk_drew ?_ | refine blk_alloc ?_ _)); exact BK176.out)) : gb176 ≠ gb192)); have n17_ := Aside0.mk ((by rw [hg]; exact Nat.ne_of_gt (blk_lt (g := gb176) (o := .cells #[.int .i64 t169, .int .i64 t170, .int .i64 t171, .slice Ao53 t172.length co53] 29 (0, 0)) (by (with_reducible repeat (first | refine blk_drewN ?_ _ | refine blk_drew ?_ | refine blk_alloc ?_ _)); exact BK176.out)) : gb192 ≠ gb176)); have n18_ := Aside0.mk ((by rw [hg]; exact Nat.ne_of_lt (blk_lt (g := gb184) (o := .cells #[.int .i64 t177, .int .i64 t178, .int .i64 t179, .slice Ao60 t180.length co60] 29 (0, 0)) (by (with_reducible repeat (first | refine blk_drewN ?_ _ | refine blk_drew ?_ | refine blk_alloc ?_ _)); exact BK184.out)) : gb184 ≠ gb192)); have n19_ := Aside0.mk ((by rw [hg]; exact Nat.ne_of_gt (blk_lt (g := gb184) (o := .cells #[.int .i64 t177, .int .i64 t178, .int .i64 t179, .slice Ao60 t180.length co60] 29 (0, 0)) (by (with_reducible repeat (first | refine blk_drewN ?_ _ | refine blk_drew ?_ | refine blk_alloc ?_ _)); exact BK184.out)) : gb192 ≠ gb184)); clear HO_166003; clear HO174; clear HO182; clear HO190; clear BK155; clear BK165; clear BK176; clear BK184; clear HB; have HO_166003 := n0_; have HO174 := n1_; have HO182 := n2_; have HO190 := n3_; have BK155 := n4_; have BK165 := n5_; have BK176 := n6_; have BK184 := n7_; have HB := n8_; have BK192 := n9_; have GW192 := n10_; have GE192 := n11_; have NB155_192 := n12_; have NB192_155 := n13_; have NB165_192 := n14_; have NB192_165 := n15_; have NB176_192 := n16_; have NB192_176 := n17_; have NB184_192 := n18_; have NB192_184 := n19_; clear n0_ n1_ n2_ n3_ n4_ n5_ n6_ n7_ n8_ n9_ n10_ n11_ n12_ n13_ n14_ n15_ n16_ n17_ n18_ n19_; clear hb hbox hg; have hnb63 := NB192_155.out; have hnc63 := NB155_192.out; have hnb64 := NB192_165.out; have hnc64 := NB165_192.out; have hnb65 := NB192_176.out; have hnc65 := NB176_192.out; have hnb66 := NB192_184.out; have hnc66 := NB184_192.out; have hcz67_0 : w62.cell? ⟨gb192, 0, none⟩ = some (.int .i64 0) := (blk_cell BK192.out 0).trans rfl; have hcz67_1 : w62.cell? ⟨gb192, 1, none⟩ = some (.int .i64 0) := (blk_cell BK192.out 1).trans rfl; have hcz67_2 : w62.cell? ⟨gb192, 2, none⟩ = some (.int .i64 0) := (blk_cell BK192.out 2).trans rfl; have hcz67_3 : w62.cell? ⟨gb192, 3, none⟩ = some (.slice none 0 0) := (blk_cell BK192.out 3).trans rfl; have hfz67_0 := blk_frozen BK192.out 0; have hfz67_1 := blk_frozen BK192.out 1; have hfz67_2 := blk_frozen BK192.out 2; have hfz67_3 := blk_frozen BK192.out 3; obtain ⟨Ao68, co68, eo68⟩ := Kd.R_slice HO190.out; subst eo68))
                      go_ret
                      exact ⟨by first | rfl | (simp [errW_none, errW_some] <;> rfl) | (simp [*, errW_none, errW_some] <;> rfl), by repeat (first | (with_reducible first | exact HB.out | apply below_alloc | apply pw_below_drewN | apply below_drew1 | refine below_set ?_ GE155.out | refine below_set ?_ GE165.out | refine below_set ?_ GE176.out | refine below_set ?_ GE184.out | refine below_set ?_ GE192.out) | exact HB.out)⟩
                    · rw [if_neg c46] at H
                      have c46b0 : (t183 == 10) = false := beq_eq_false_iff_ne.mpr c46
                      have c46b1 : (t183 != 10) = true := bne_iff_ne.mpr c46
                      obtain rfl := Option.some.inj H
                      cases hrt
                  · rw [if_neg c45] at H
                    have c45b0 : (t175 == 10) = false := beq_eq_false_iff_ne.mpr c45
                    have c45b1 : (t175 != 10) = true := bne_iff_ne.mpr c45
                    obtain rfl := Option.some.inj H
                    cases hrt
                · rw [if_neg c43] at H
                  exact absurd H (by simp)
              · rw [if_neg c41] at H
                exact absurd H (by simp)
            · rw [if_neg c37] at H
              exact absurd H (by simp)
          · rw [if_neg c36] at H
            exact absurd H (by simp)

end Go.Proofs.YtoloooammaiipaaDoor.PK
/- What a text tells as an event, in plain words: the words behind a kind's, numerals among them; no conditions. -/
namespace Go.Proofs.YtoloooammaiipaaDoor
open Go Go.RowKit Go.Proofs.YtoloooammaiipaaDoorW.PrintWords Go.Proofs.YtoloooammaiipaaDoorW.PrintLast
set_option linter.unusedVariables false
theorem strip_ne {x y : UInt8} {p s : List UInt8} (h : x ≠ y) : stripL (x :: p) (y :: s) = none := by
  unfold stripL
  rw [if_neg]
  rw [List.length_cons, List.take_succ_cons]
  intro e
  exact h (List.cons.inj e).1.symm
theorem strip_app (p s : List UInt8) : stripL p (p ++ s) = some s := by
  unfold stripL
  rw [List.take_left, if_pos rfl, List.drop_left]
theorem words_of (X : List UInt8) : ((cutL 32 (X ++ [32])).map strOf).take ((X ++ [32]).count 32) = (cutL 32 X).map strOf := by
  have h1 := cutL_length 32 X
  have e : (X ++ [32]).count 32 = ((cutL 32 X).map strOf).length := by
    rw [List.length_map, h1, List.count_append]
    rfl
  rw [e, cutL_snoc_hit, List.map_append, List.take_left]
/-- A text that begins with a kind's words and a blank. -/
theorem readRow_app (r : KRow) (X : List UInt8) : readRow (r.1 ++ 32 :: X) r = fillO r.2.1 r.2.2.1 r.2.2.2 ((cutL 32 X).map strOf) := by
  unfold readRow
  have e : (r.1 ++ 32 :: X) ++ [32] = (r.1 ++ [32]) ++ (X ++ [32]) := by simp
  rw [e, strip_app, Option.bind_some, words_of]
theorem readRow_bare (r : KRow) : readRow r.1 r = fillO r.2.1 r.2.2.1 r.2.2.2 [] := by
  unfold readRow
  have e := strip_app (r.1 ++ [32]) []
  rw [List.append_nil] at e
  rw [e, Option.bind_some]
  rfl
theorem digit_char (u : Nat) : ∀ c ∈ Lib.decDigits u, 48 ≤ c.toNat ∧ c.toNat ≤ 57 := by
  induction u using Nat.strongRecOn with
  | _ u ih =>
    intro c hc
    by_cases h : u < 10
    · rw [Lib.decDigits_one h] at hc
      rw [List.mem_singleton.1 hc]
      have : (UInt8.ofNat (48 + u)).toNat = 48 + u := by simp; omega
      omega
    · rw [decDigits_step h] at hc
      rcases List.mem_append.1 hc with hc | hc
      · exact ih (u / 10) (by omega) c hc
      · rw [List.mem_singleton.1 hc]
        have : (UInt8.ofNat (48 + u % 10)).toNat = 48 + u % 10 := by simp; omega
        omega
theorem itoa_char (v : Int) : ∀ c ∈ Lib.itoa v, c = 45 ∨ (48 ≤ c.toNat ∧ c.toNat ≤ 57) := by
  unfold Lib.itoa
  intro c hc
  split at hc
  · rcases List.mem_cons.1 hc with rfl | hc
    · exact Or.inl rfl
    · exact Or.inr (digit_char _ c hc)
  · exact Or.inr (digit_char _ c hc)
theorem itoa_clean (v : Int) : (32 : UInt8) ∉ Lib.itoa v ∧ (10 : UInt8) ∉ Lib.itoa v := by
  constructor
  · intro h
    rcases itoa_char v 32 h with h | h
    · exact absurd h (by decide)
    · exact absurd h (by decide)
  · intro h
    rcases itoa_char v 10 h with h | h
    · exact absurd h (by decide)
    · exact absurd h (by decide)
theorem itoa_ne (v : Int) : Lib.itoa v ≠ [] := by
  unfold Lib.itoa
  split
  · simp
  · exact decDigits_ne _
/-- A kind's number. -/
def kRow (i : Nat) : KRow := kRows.getD i ([], false, false, false)
end Go.Proofs.YtoloooammaiipaaDoor
/- The law TraceNumbers, in plain words: numbers of up to 18 digits are told by an event's text and read from it; with a nought ahead, or a plus, they are none. No conditions. -/
namespace Go.Proofs.YtoloooammaiipaaDoor
open Go Go.RowKit Go.Proofs.YtoloooammaiipaaDoorW.PrintWords Go.Proofs.YtoloooammaiipaaDoorW.PrintLast
set_option linter.unusedVariables false
theorem arm_read {a b : Int} (ha : -1000000000000000000 < a ∧ a < 1000000000000000000) (hb : -1000000000000000000 < b ∧ b < 1000000000000000000) : readO ([97, 114, 109] ++ 32 :: (Lib.itoa a ++ 32 :: Lib.itoa b)) = some (7, [], a, b) := by
  refine readO_some (by decide) (fun j hj => ?_) ?_
  · have hne : ∀ i : Fin 7, ∃ x p, (kRow i.1).1 ++ [32] = x :: p ∧ x ≠ 97 := by
      intro i
      match i with
      | 0 => exact ⟨_, _, rfl, by decide⟩
      | 1 => exact ⟨_, _, rfl, by decide⟩
      | 2 => exact ⟨_, _, rfl, by decide⟩
      | 3 => exact ⟨_, _, rfl, by decide⟩
      | 4 => exact ⟨_, _, rfl, by decide⟩
      | 5 => exact ⟨_, _, rfl, by decide⟩
      | 6 => exact ⟨_, _, rfl, by decide⟩
    obtain ⟨x, p, e, hx⟩ := hne ⟨j, hj⟩
    show (stripL ((kRow j).1 ++ [32]) _).bind _ = none
    rw [e]
    exact congrArg (fun z => Option.bind z _) (strip_ne hx)
  · refine (readRow_app (kRow 7) (Lib.itoa a ++ 32 :: Lib.itoa b)).trans ?_
    rw [cutL_append_hit (itoa_clean a).1, cutL_clean (itoa_clean b).1]
    have h1 : takeW true numL 0 [strOf (Lib.itoa a), strOf (Lib.itoa b)] = some (a, [strOf (Lib.itoa b)]) := takeW_ok (x := strOf (Lib.itoa a)) rfl (by rw [strOf_data]; exact numL_itoa ha.1 ha.2)
    have h2 : takeW true numL 0 [strOf (Lib.itoa b)] = some (b, []) := takeW_ok (x := strOf (Lib.itoa b)) rfl (by rw [strOf_data]; exact numL_itoa hb.1 hb.2)
    show fillO false true true [strOf (Lib.itoa a), strOf (Lib.itoa b)] = _
    unfold fillO
    rw [takeW_off, Option.bind_some, h1, Option.bind_some, h2, Option.bind_some]
    rfl
theorem tick_none {X : List UInt8} (h : fillO false true false ((cutL 32 X).map strOf) = none) : readO ([116, 105, 99, 107] ++ 32 :: X) = none := by
  refine readO_none fun j hj => ?_
  by_cases h4 : j = 4
  · subst h4
    exact (readRow_app (kRow 4) X).trans h
  have hne : ∀ i : Fin 9, i.1 ≠ 4 → ∃ x p, (kRow i.1).1 ++ [32] = x :: p ∧ x ≠ 116 := by
    intro i hi
    match i with
    | 0 => exact ⟨_, _, rfl, by decide⟩
    | 1 => exact ⟨_, _, rfl, by decide⟩
    | 2 => exact ⟨_, _, rfl, by decide⟩
    | 3 => exact ⟨_, _, rfl, by decide⟩
    | 4 => exact absurd rfl hi
    | 5 => exact ⟨_, _, rfl, by decide⟩
    | 6 => exact ⟨_, _, rfl, by decide⟩
    | 7 => exact ⟨_, _, rfl, by decide⟩
    | 8 => exact ⟨_, _, rfl, by decide⟩
  obtain ⟨x, p, e, hx⟩ := hne ⟨j, hj⟩ h4
  show (stripL ((kRow j).1 ++ [32]) _).bind _ = none
  rw [e]
  exact congrArg (fun z => Option.bind z _) (strip_ne hx)
theorem count_none {x : List UInt8} {r : List ByteArray} (h : numL x = none) : fillO false true false (strOf x :: r) = none := by
  unfold fillO
  rw [takeW_off, Option.bind_some, takeW_no (x := strOf x) rfl (by rw [strOf_data]; exact h), Option.bind_none]
theorem zero_num (a : Int) : numL (48 :: Lib.itoa a) = none := by
  rw [numL_ref]
  unfold refNum unsig
  have hh : ¬ (48 :: Lib.itoa a).head? = some 45 := fun h => absurd (Option.some.inj h) (by decide)
  rw [if_neg hh, if_pos]
  exact Or.inr (Or.inr ⟨rfl, fun e => itoa_ne a (List.cons.inj e).2⟩)
theorem plus_num (a : Int) : numL (43 :: Lib.itoa a) = none := by
  rw [numL_ref]
  unfold refNum unsig
  have hh : ¬ (43 :: Lib.itoa a).head? = some 45 := fun h => absurd (Option.some.inj h) (by decide)
  rw [if_neg hh]
  split
  · rfl
  · have : Lib.decFrom 0 (43 :: Lib.itoa a) = none := by simp [Lib.decFrom, Lib.digitVal]
    rw [this]
    rfl
theorem tmod_fit (n : Int) : -1000000000000000000 < Int.tmod n 1000000000000000000 ∧ Int.tmod n 1000000000000000000 < 1000000000000000000 := by
  constructor
  · have := Int.lt_tmod_of_pos n (b := 1000000000000000000) (by decide)
    omega
  · exact Int.tmod_lt_of_pos n (by decide)
namespace Pure
theorem TraceNumbers (a0 : Int) (a1 : Int) (w0 : (Lit.int .i64 a0).wf = true) (w1 : (Lit.int .i64 a1).wf = true) : ∃ k, PK.lamplighterlaw19_TraceNumbers.f k a0 a1 = some true := by
  refine ⟨1, ?_⟩
  have ha := tmod_fit a0
  have hb := tmod_fit a1
  unfold PK.lamplighterlaw19_TraceNumbers.f
  generalize Int.tmod a0 1000000000000000000 = a at ha ⊢
  generalize Int.tmod a1 1000000000000000000 = b at hb ⊢
  have la := itoa_size (v := a) (by omega) (by omega)
  have lb := itoa_size (v := b) (by omega) (by omega)
  rw [strOf_size] at la lb
  have ev1 : eventO 7 a b [] = ([97, 114, 109] ++ 32 :: (Lib.itoa a ++ 32 :: Lib.itoa b), 0) := by
    unfold eventO
    rw [if_neg (by decide), if_neg]
    · unfold evText
      simp [kRows]
    · rintro (h | h | h)
      · exact absurd h.2 (by decide)
      · exact absurd h.1 (by decide)
      · exact absurd h.1 (by decide)
  have ev2 : eventO 4 a 0 [] = ([116, 105, 99, 107] ++ 32 :: Lib.itoa a, 0) := by
    unfold eventO
    rw [if_neg (by decide), if_neg]
    · unfold evText
      simp [kRows]
    · rintro (h | h | h)
      · exact absurd h.2 (by decide)
      · exact absurd h.1 (by decide)
      · exact absurd rfl h.2
  have hE1 : PK.trace_Event.f 7 a b [] = some (strOf ([97, 114, 109] ++ 32 :: (Lib.itoa a ++ 32 :: Lib.itoa b)), 0) := by
    unfold PK.trace_Event.f
    rw [if_pos ⟨(fun x hx => by cases hx), by decide, by omega, by omega, by omega, by omega⟩, ev1]
  have hE2 : PK.trace_Event.f 4 a 0 [] = some (strOf ([116, 105, 99, 107] ++ 32 :: Lib.itoa a), 0) := by
    unfold PK.trace_Event.f
    rw [if_pos ⟨(fun x hx => by cases hx), by decide, by omega, by omega, by decide, by decide⟩, ev2]
  have hR : ∀ t : List UInt8, t.length ≤ 100000 → PK.trace_Read.f (strOf t) = some ((readO t).elim 0 (fun x => (x.1 : Int)), (readO t).elim 0 (fun x => x.2.2.1), (readO t).elim 0 (fun x => x.2.2.2), (readO t).elim [] (fun x => x.2.1), (readO t).elim 10 (fun _ => 0)) := fun t ht => by
    unfold PK.trace_Read.f
    rw [if_pos (by rw [strOf_size]; exact ht), strOf_data]
  have hA : PK.lamplighterlaw19_alive.f = some true := rfl
  rw [hE1, Option.bind_some, hR _ (by simp only [List.length_append, List.length_cons, List.length_nil]; omega), arm_read ha hb, Option.bind_some, hA, Option.bind_some, if_pos rfl, if_pos rfl]
  simp only [Option.elim]
  have h7 : ((7 : Nat) : Int) = 7 := rfl
  rw [if_pos trivial, if_pos h7, if_pos trivial, bne_self_eq_false, PK.lamplighterlaw19_TraceNumbers.j0, if_neg (by decide), hE2, Option.bind_some]
  obtain ⟨t, ht⟩ : ∃ t, t = strOf ([116, 105, 99, 107] ++ 32 :: Lib.itoa a) := ⟨_, rfl⟩
  have hts : t.size = 5 + (Lib.itoa a).length := by rw [ht, strOf_size]; simp; omega
  have hlp : 0 < (Lib.itoa a).length := List.length_pos_iff.2 (itoa_ne a)
  have hex : t.extract 5 t.size = strOf (Lib.itoa a) := by
    apply bytes_eq
    rw [Lib.extract_data, hts, strOf_data, ht, strOf_data]
    show (((Lib.itoa a)).take (5 + (Lib.itoa a).length - 5)) = _
    rw [List.take_of_length_le (by omega)]
  simp only
  rw [← ht]
  have g1 : ¬ ((t.size : Int) < 6) := by omega
  have g2 : 5 ≤ (t.size : Int) := by omega
  have g3 : 6 + (t.extract 5 t.size).size ≤ 9223372036854775807 := by rw [hex, strOf_size]; omega
  have g4 : t.size + 1 ≤ 9223372036854775807 := by omega
  have g5 : (t ++ (⟨#[32]⟩ : ByteArray)).size + (t.extract 5 t.size).size ≤ 9223372036854775807 := by
    rw [hex, strOf_size, ByteArray.size_append]
    show t.size + 1 + _ ≤ _
    omega
  have x1 : (⟨#[116, 105, 99, 107, 32, 48]⟩ : ByteArray) ++ t.extract 5 t.size = strOf ([116, 105, 99, 107] ++ 32 :: (48 :: Lib.itoa a)) := by
    rw [hex]
    apply bytes_eq
    rw [ByteArray.data_append, Array.toList_append, strOf_data, strOf_data]
    rfl
  have x2 : (⟨#[116, 105, 99, 107, 32, 43]⟩ : ByteArray) ++ t.extract 5 t.size = strOf ([116, 105, 99, 107] ++ 32 :: (43 :: Lib.itoa a)) := by
    rw [hex]
    apply bytes_eq
    rw [ByteArray.data_append, Array.toList_append, strOf_data, strOf_data]
    rfl
  have x3 : (t ++ (⟨#[32]⟩ : ByteArray)) ++ t.extract 5 t.size = strOf ([116, 105, 99, 107] ++ 32 :: (Lib.itoa a ++ 32 :: Lib.itoa a)) := by
    rw [hex, ht]
    apply bytes_eq
    rw [ByteArray.data_append, Array.toList_append, ByteArray.data_append, Array.toList_append, strOf_data, strOf_data, strOf_data]
    simp
  have n1 : readO ([116, 105, 99, 107] ++ 32 :: (48 :: Lib.itoa a)) = none := tick_none (by
    rw [cutL_clean (fun h => (itoa_clean a).1 (by rcases List.mem_cons.1 h with h | h; · exact absurd h (by decide)
                                                  · exact h))]
    exact count_none (zero_num a))
  have n2 : readO ([116, 105, 99, 107] ++ 32 :: (43 :: Lib.itoa a)) = none := tick_none (by
    rw [cutL_clean (fun h => (itoa_clean a).1 (by rcases List.mem_cons.1 h with h | h; · exact absurd h (by decide)
                                                  · exact h))]
    exact count_none (plus_num a))
  have n3 : readO ([116, 105, 99, 107] ++ 32 :: (Lib.itoa a ++ 32 :: Lib.itoa a)) = none := tick_none (by
    rw [cutL_append_hit (itoa_clean a).1, cutL_clean (itoa_clean a).1]
    show fillO false true false [strOf (Lib.itoa a), strOf (Lib.itoa a)] = none
    unfold fillO
    rw [takeW_off, Option.bind_some, takeW_ok (x := strOf (Lib.itoa a)) rfl (by rw [strOf_data]; exact numL_itoa ha.1 ha.2), Option.bind_some]
    rfl)
  rw [if_neg g1, if_pos g2, if_pos g3, x1, hR _ (by simp only [List.length_append, List.length_cons, List.length_nil]; omega), n1, Option.bind_some, x2, hR _ (by simp only [List.length_append, List.length_cons, List.length_nil]; omega), n2, Option.bind_some, if_pos g4, if_pos g5, x3, hR _ (by simp only [List.length_append, List.length_cons, List.length_nil]; omega), n3, Option.bind_some]
  rfl
end Pure
end Go.Proofs.YtoloooammaiipaaDoor
/- A world for the witness of a row that lists package-level tables and errors: each listed table holds what the row lists, each listed error a new block of its own. No conditions. -/
namespace Go.Proofs.YtoloooammaiipaaDoor.Laid
open Go Go.ChangeShapes Go.WideShapes Go.ChangeAt Go.RowKit
/-- The cells of a datum of numbers, texts and rows of them. -/
def cellsAt {H : Type} : Nat → DataW H → List Value
  | 0, _ => []
  | _ + 1, .lit (.int k n) => [.int k n]
  | _ + 1, .lit (.bool b) => [.bool b]
  | _ + 1, .lit (.string b) => [.string ⟨b.toArray⟩]
  | n + 1, .agg ps => ps.flatMap (cellsAt n)
  | _ + 1, _ => []
def layOne (P : Program) (h : Array Obj) (x : String × DataW Unit) : Array Obj :=
  match P.globalNamed x.1 with
  | some g => match x.2 with
    | .iface _ (.ptr d) => (h.push (.cells (cellsAt 5 d).toArray 140 (0, 0))).modify g fun
      | .cells _ t frozen => .cells #[.iface 138 (.pointer (some ⟨h.size, 0, none⟩))] t frozen
      | o => o
    | d => h.modify g fun
      | .cells _ t frozen => .cells (cellsAt 5 d).toArray t frozen
      | o => o
  | none => h
noncomputable def laidWorld (os : Os) : World :=
  { World.holding Tryd.prog os ⟨#[], #[], []⟩ with heap := Rows.traceBytesRow.laid.foldl (layOne Tryd.prog) (World.holding Tryd.prog os ⟨#[], #[], []⟩).heap }
set_option maxRecDepth 100000 in
theorem laid_met (os : Os) (args : Array Value) : laidMet Tryd.prog Rows.traceBytesRow.laid ((laidWorld os).forCall (fun _ _ => 0) ⟨#[], args, []⟩).memory :=
  laidMet_of_run3 8 (by kernel_rfl) (by kernel_rfl) (by kernel_rfl)
end Go.Proofs.YtoloooammaiipaaDoor.Laid

namespace Go.Proofs.YtoloooammaiipaaDoor.traceNumbers
open Go.ChangeShapes Go.WideShapes Go.ChangeAt Go.RowKit
open Go.ChangeMaps (open_string shut_string)
set_option linter.unusedVariables false
theorem own : ownKnob Tryd.prog.godebug = none := by kernel_rfl
theorem byte_wf {a : Int} (ha : (Lit.int .u8 a).wf = true) : 0 ≤ a ∧ a ≤ 255 := by simpa [Lit.wf, IntKind.min, IntKind.max, IntKind.signed, IntKind.bits] using ha
theorem word_wf {a : Int} (ha : (Lit.int .u16 a).wf = true) : 0 ≤ a ∧ a ≤ 65535 := by simpa [Lit.wf, IntKind.min, IntKind.max, IntKind.signed, IntKind.bits] using ha
set_option maxRecDepth 100000 in
/-- What the walk gives, for every argument. -/
theorem contract (H : Type) (enc : TypeId × Value → H) (W : World) (base : Nat) (args : Array Value) (ds gs : List (DataW H)) (before : List MemPlace)
    (hval0 : ∀ (j : Nat) t v, Tryd.f5.params[j]? = some t → args[j]? = some v → Value.okWide Tryd.prog W .any base t v)
    (hW : DataW.Whole enc Tryd.prog Tryd.f5.params.toList Rows.traceNumbersSpec.vars false W args.toList ds gs before)
    (hsz0 : (DataW.weightsEach Tryd.prog (Tryd.f5.params.toList ++ Rows.traceNumbersSpec.plain.varTypes Tryd.prog) (ds ++ gs)).all (· ≤ reachBytes) = true)
    (hL : laidMetH Tryd.prog Rows.traceNumbersRow.laid W)
    : Calls Tryd.prog 5 args W fun e W' => ∃ v, e = .returned v ∧ Rows.traceNumbersSpec.post enc Tryd.prog Tryd.f5 false true false false W args v W' := by
  have hsz := hsz0
  have hval : ∀ (j : Nat) t v, Tryd.f5.params[j]? = some t → args[j]? = some v → Value.okWide Tryd.prog W .any base t v := hval0
  have hW' := hW
  obtain ⟨p, q, hA0, hV, rfl, hfz, hnd⟩ := hW
  have hA : DataW.TrodAll enc Tryd.prog W 0 (fun _ => true) true Tryd.f5.params.toList args.toList ds p := hA0
  rw [Tryd.params5] at hA hval hsz
  obtain ⟨v0, vs0, d0, ds0, p0, q0, hargs, rfl, rfl, h0, r0⟩ := trodAll_cons hA
  obtain ⟨v1, vs1, d1, ds1, p1, q1, rfl, rfl, rfl, h1, r1⟩ := trodAll_cons r0
  obtain ⟨rfl, rfl, rfl⟩ := trodAll_nil r1
  obtain rfl : args = #[v0, v1] := by cases args; simp_all
  obtain ⟨rfl, rfl⟩ := trodVars_none hV
  obtain ⟨a0, rfl, rfl, rfl, w0⟩ := open_int Tryd.underlying3 (hval 0 3 v0 rfl rfl) h0
  obtain ⟨a1, rfl, rfl, rfl, w1⟩ := open_int Tryd.underlying3 (hval 1 3 v1 rfl rfl) h1
  clear hA0 hval0 hsz0
  obtain ⟨k, hk'⟩ := Pure.TraceNumbers a0 a1 w0 w1
  refine (PK.lamplighterlaw19_TraceNumbers.calls k a0 a1 true W  hk' rfl (globt_laid hL)).mono fun e W' ⟨he, bel⟩ => ?_
  subst he
  exact ⟨_, rfl, _, _, _, [], _, [], hW', trodAll_mk1 (shut_bool Tryd.underlying4 _), (trodAll_cons_mk (shut_int Tryd.underlying3 w0) (trodAll_cons_mk (shut_int Tryd.underlying3 w1) trodAll_mk0)), rfl, bel.frame _, fun h => by cases h⟩
set_option maxRecDepth 100000 in
theorem lifted (os : Os) (started : os.Started) (H : Type) (enc : TypeId × Value → H) (F : Stop.Interp) :
    ReturnsInHanded {} Tryd.checked os 5 .any ((OpenSpec.ofChange Rows.traceNumbersSpec).preRow enc Tryd.prog Tryd.f5 Rows.traceNumbersRow.domain false Rows.traceNumbersRow.laid) (((OpenSpec.ofChange Rows.traceNumbersSpec).at F).post enc Tryd.prog Tryd.f5 false true false false) := by
  refine returnsInHanded_of_row (C := Tryd.checked) (s := (OpenSpec.ofChange Rows.traceNumbersSpec)) own started (by kernel_rfl) Tryd.func5
    (witness_row_at (enc := enc) (C := Tryd.checked) false (Laid.laidWorld os) #[.int .i64 0, .int .i64 0] rfl (by kernel_rfl) (by kernel_rfl) (by kernel_rfl)
      (OpenSpec.preRow_of_cond 8 (x := ([.lit (.int .i64 0), .lit (.int .i64 0)], [], [])) (by kernel_rfl) (by kernel_rfl) (fun k hk => by cases hk) (by kernel_rfl) (Laid.laid_met os _))) ?_
  intro W base args ds gs before hval hW _ hcond hsz hL _ _
  exact contract H enc W base args ds gs before hval hW hsz hL
theorem over : Rows.traceNumbersRow.holds Tryd.pinned (OpenSpec.ofChange Rows.traceNumbersSpec) :=
  OpenClaim.holds_of_cond 5 Tryd.f5 rfl rfl rfl rfl rfl rfl rfl ⟨rfl, rfl, rfl, rfl, rfl⟩ rfl rfl rfl rfl rfl (by kernel_rfl) Tryd.func5 (by kernel_rfl)
    (of_decide_eq_true (by kernel_rfl)) (by unfold Func.isWrapper; first | (rw [if_pos (by decide +kernel)]; kernel_rfl) | (rw [if_neg (by decide +kernel)]; exact ⟨rfl, rfl⟩))
    (fun os started H enc _ F => by rw [OpenClaim.pre_eq_preRow]; exact lifted os started H enc F)
theorem proved : Rows.TraceNumbersSaid := over
/-- No parameter wants a stand-in; the program's own looks are off. -/
theorem plain (f : FuncId) (fn : Func) (hf : Tryd.pinned.checked.prog.funcNamed "lamplighter/lamplighterlaw19.TraceNumbers" = some f) (hfn : Tryd.pinned.checked.prog.funcs[f]? = some fn) :
    true = Tryd.pinned.checked.prog.looks [] ∧ ∀ (j : Nat) t, fn.params[j]? = some t → Tryd.pinned.checked.prog.wantsStandIn t = false := by
  obtain rfl : f = 5 := Option.some.inj ((show Tryd.prog.funcNamed "lamplighter/lamplighterlaw19.TraceNumbers" = some 5 by kernel_rfl).symm.trans hf) |>.symm
  obtain rfl : fn = Tryd.f5 := (Option.some.inj (Tryd.func5.symm.trans hfn)).symm
  refine ⟨by kernel_rfl, fun j t ht => ?_⟩
  rw [Tryd.params5] at ht
  have hall : (#[3, 3] : Array TypeId).all (fun t => !(Tryd.prog.wantsStandIn t)) = true := by kernel_rfl
  have hm := (Array.all_eq_true_iff_forall_mem.1 hall) t (Array.mem_of_getElem? ht)
  have hm2 : Tryd.prog.wantsStandIn t = false := by simpa using hm
  exact hm2
theorem card : Rows.TraceNumbersCardSaid :=
  Claim7.holds_tied_plain_at .later [] _ _ _ _ proved (fun _ h => by cases h) (by kernel_rfl) (fun _ h => by cases h) traceNumbers_row_tie rfl ⟨rfl, rfl⟩ (by kernel_rfl) rfl plain (by kernel_rfl)
#print axioms card
end Go.Proofs.YtoloooammaiipaaDoor.traceNumbers
namespace Go.Proofs.YtoloooammaiipaaDoor
/-- The statement, under a short name, for the claim. -/
theorem traceNumbers_holds : Rows.TraceNumbersCardSaid := traceNumbers.card
end Go.Proofs.YtoloooammaiipaaDoor
