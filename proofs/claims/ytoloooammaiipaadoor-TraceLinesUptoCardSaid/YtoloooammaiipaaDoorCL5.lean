/- The law lamplighterlaw19_TraceLines, proved for every input of its parameters' types; where the arguments count at most 1048576 together; package-level tables of the library lie as the program's text lays them. -/
import Derived.Test.YtoloooammaiipaaDoorCL4
import Derived.Lib.ItoaLen
import Derived.Lib.FrozenHead2
import Derived.Lib.OthersKept
import Derived.WalkKit
import Derived.BigCall
import Derived.Shelf.Strings.MapGrows
import Derived.Test.YtoloooammaiipaaDoorRows
import Derived.ProofKit
import Derived.OpenShut
import Derived.ChangeOld
import Derived.Below
import Derived.Carry
import Derived.Deep.Slices
import Derived.Deep.DeepHandedRow
import Derived.Deep.DeepLaidRun
import Derived.Lib.LaidTab
import Derived.Test.YtoloooammaiipaaDoorCards
import Derived.Test.YtoloooammaiipaaDoorTie
import Derived.ShutString
import Derived.SizedLaws
import Derived.JoinedCond
/- What trace.Parse gives: a walk; conditions: a text of at most 100000 bytes; the tables lie as the program's text lays them. -/
namespace Go.Proofs.YtoloooammaiipaaDoor
open Go Go.RowKit Go.Proofs.YtoloooammaiipaaDoor.PI Go.Proofs.YtoloooammaiipaaDoorW.PrintWords Go.Proofs.YtoloooammaiipaaDoorW.PrintLast Go.Proofs.YtoloooammaiipaaDoorW.PrintMore
set_option linter.unusedVariables false
set_option linter.unusedSimpArgs false
/-- What a text tells of steps, behind steps and lines so far: the steps, the line, the error. -/
def parseL : Nat → List S42 → Nat → List UInt8 → List S42 × Nat × Int
  | 0, L, n, _ => (L, n, 0)
  | k + 1, L, n, s => if s = [] then (L, n, 0) else if (cut1 10 s).2.2 = true ∧ (lineO L (cut1 10 s).1).1 = true then parseL k (lineO L (cut1 10 s).1).2 (n + 1) (cut1 10 s).2.1 else ([], n, 10)
def parseO (s : List UInt8) : List S42 × Nat × Int := parseL s.length [] 0 s
theorem parseL_nil (k : Nat) (L : List S42) (n : Nat) : parseL k L n [] = (L, n, 0) := by cases k <;> rfl
theorem parseL_fuel : ∀ (k k' : Nat) (L : List S42) (n : Nat) (s : List UInt8), s.length ≤ k → s.length ≤ k' → parseL k L n s = parseL k' L n s
  | 0, k', L, n, s, h, _ => by
    obtain rfl := List.eq_nil_of_length_eq_zero (Nat.le_zero.1 h)
    rw [parseL_nil, parseL_nil]
  | k + 1, 0, L, n, s, _, h => by
    obtain rfl := List.eq_nil_of_length_eq_zero (Nat.le_zero.1 h)
    rw [parseL_nil, parseL_nil]
  | k + 1, k' + 1, L, n, s, h, h' => by
    unfold parseL
    split
    · rfl
    split
    · rename_i hc
      have := (cut1_le 10 s).2.2 hc.1
      exact parseL_fuel k k' _ _ _ (by omega) (by omega)
    · rfl
theorem lineO_len (L : List S42) (s : List UInt8) : (lineO L s).2.length ≤ L.length + 1 ∧ ∀ B, (∀ x ∈ L, x.f1.length ≤ B) → ∀ x ∈ (lineO L s).2, x.f1.length ≤ B + 1 := by
  have hset : ∀ (x' : S42) (i : Nat) (B : Nat), (∀ x ∈ L, x.f1.length ≤ B) → x'.f1.length ≤ B + 1 → ∀ x ∈ L.set i x', x.f1.length ≤ B + 1 := fun x' i B h h' x hx => by
    rcases List.mem_or_eq_of_mem_set hx with hx | rfl
    · exact Nat.le_succ_of_le (h x hx)
    · exact h'
  have hget : ∀ (i : Nat) (B : Nat), (∀ x ∈ L, x.f1.length ≤ B) → L ≠ [] → (L.getD (L.length - 1) z42).f1.length ≤ B := fun i B h hn => by
    have hl : L.length - 1 < L.length := by have := List.length_pos_iff.2 hn; omega
    rw [List.getD_eq_getElem?_getD, List.getElem?_eq_getElem hl]
    exact h _ (List.getElem_mem hl)
  unfold lineO
  cases readO s with
  | some x =>
    refine ⟨by simp, fun B h y hy => ?_⟩
    rcases List.mem_append.1 hy with hy | hy
    · exact Nat.le_succ_of_le (h y hy)
    · rw [List.mem_singleton.1 hy]
      exact Nat.zero_le _
  | none =>
    simp only
    by_cases h0 : L = []
    · rw [if_pos h0]
      exact ⟨Nat.le_succ _, fun B h y hy => Nat.le_succ_of_le (h y hy)⟩
    rw [if_neg h0]
    split
    · exact ⟨Nat.le_succ _, fun B h y hy => Nat.le_succ_of_le (h y hy)⟩
    split
    · exact ⟨by simp, fun B h => hset _ _ B h (Nat.le_succ_of_le (hget 0 B h h0))⟩
    split
    · refine ⟨by simp, fun B h => hset _ _ B h ?_⟩
      have := hget 0 B h h0
      simp only [List.length_append, List.length_singleton]
      omega
    · exact ⟨Nat.le_succ _, fun B h y hy => Nat.le_succ_of_le (h y hy)⟩
def strSz : Value → Nat
  | .string t => t.size
  | _ => 0
def ParsePost (s : ByteArray) (w : World) (e : Ending) (w' : World) : Prop :=
  Below w.heap.size w w' ∧ ∃ v, e = .returned (.tuple #[v, .int .i64 ((parseO s.data.toList).2.1 : Int), .int .i64 (parseO s.data.toList).2.2]) ∧ Kd.S k42 42 w' w.heap.size (fun _ => True) v (parseO s.data.toList).1
set_option maxHeartbeats 8000000 in
set_option maxRecDepth 100000 in
theorem parse_walk (s : ByteArray) (hs : s.size ≤ 100000) (w : World) (hG : GlobT w) :
    Calls Tryd.prog 23 #[.string s] w (ParsePost s w) := by
  have HG := Lib.hid hG
  have HS := Lib.hid hs
  clear hG hs
  go_enter Tryd.func23, Tryd.ntmps23
  go_wp2_with fail
  have HB0 := Lib.hid (below_alloc (Below.refl w.heap.size w) (.cells #[.slice none 0 0] 86 (0, 0)))
  have HP0 := Lib.hid (blk_new w (.cells #[.slice none 0 0] 86 (0, 0)))
  generalize hw0 : w.alloc (.cells #[.slice none 0 0] 86) = w0 at HB0 HP0 ⊢
  clear hw0
  obtain ⟨pb, hpb⟩ : ∃ pb, pb = w.heap.size := ⟨_, rfl⟩
  rw [← hpb] at HB0 HP0 ⊢
  have HPB := Lib.hid hpb
  clear hpb
  go_loopw [0, 6] (fun v0 v6 wr => ∃ (n : Nat) (t : ByteArray) (L : List S42) (vL : Value), v0 = .string t ∧ v6 = .int .i64 n ∧ n + t.size ≤ s.size ∧ wr.heap[pb]? = some (.cells #[vL] 86 (0, 0)) ∧ Hid (Below pb w wr ∧ Kd.S k42 42 wr (pb + 1) (fun _ => True) vL L ∧ L.length ≤ n ∧ (∀ x ∈ L, x.f1.length ≤ n) ∧ parseO s.data.toList = parseL t.size L n t.data.toList)) (fun v0 _ _ => strSz v0)
  case atStart => exact ⟨0, s, [], .slice none 0 0, rfl, rfl, by omega, HP0.out, Lib.hid ⟨HB0.out, Kd.S_nil _ _ _ _ _, Nat.le_refl _, fun x hx => by simp at hx, by unfold parseO; rw [len_size]⟩⟩
  case round =>
    obtain ⟨n, t, L, vL, rfl, rfl, hnt, hP, hh⟩ := hrel
    obtain ⟨hb, hS, hLn, hOn, hpar⟩ := hh.out
    have HP := Lib.hid hP
    have HB := Lib.hid hb
    have HSS := Lib.hid hS
    have HLN := Lib.hid hLn
    have HON := Lib.hid hOn
    have HPAR := Lib.hid hpar
    have HNT := Lib.hid hnt
    clear hP hh hb hS hLn hOn hpar hnt
    have htl := len_size t
    by_cases ht : t.data.toList = []
    · have p1 : (t.toList == ([] : List UInt8)) = true := by rw [beq_iff_eq, Lib.toList_data]; exact ht
      have p2 : (t.toList != ([] : List UInt8)) = false := by rw [bne_eq_false_iff_eq, Lib.toList_data]; exact ht
      obtain ⟨AL, cL, rfl⟩ := Kd.S_slice HSS.out
      have e0 := cell_of_cells HP.out 0
      simp only [List.getElem?_toArray, List.getElem?_cons_zero] at e0
      have hpo : parseO s.data.toList = (L, n, 0) := by rw [HPAR.out, ht, parseL_nil]
      have HPO := Lib.hid hpo
      have p3 : t.toList.isEmpty = true := by rw [Lib.toList_data, ht]; rfl
      clear ht hpo
      go_wp2_with fail
      exact bodyPost_ret (v := .tuple #[.slice AL L.length cL, .int .i64 (n : Int), .int .i64 0]) (by simp [results, Tryd.results23, go_sem]) rfl ⟨HPB.out ▸ HB.out, _, by rw [HPO.out], by rw [HPO.out]; exact Kd.S_lower HSS.out (by have := HPB.out; omega)⟩
    · have p1 : (t.toList == ([] : List UInt8)) = false := by rw [beq_eq_false_iff_ne, Lib.toList_data]; exact ht
      have p2 : (t.toList != ([] : List UInt8)) = true := by rw [bne_iff_ne, Lib.toList_data]; exact ht
      have p3 : t.toList.isEmpty = false := by rw [Lib.toList_data]; cases h : t.data.toList with | nil => exact absurd h ht | cons => rfl
      obtain ⟨a, b, f, hq⟩ : ∃ a b f, cut1 10 t.data.toList = (a, b, f) := ⟨_, _, _, rfl⟩
      have hs1 := HS.out
      have hnt1 := HNT.out
      have hcut := cut1_is t 10 (by omega)
      have hle := cut1_le 10 t.data.toList
      rw [hq] at hcut hle
      simp only at hcut hle
      rw [htl] at hle
      have hstep : parseO s.data.toList = if f = true ∧ (lineO L a).1 = true then parseL (t.size - 1) (lineO L a).2 (n + 1) b else ([], n, 10) := by
        rw [HPAR.out]
        have htp : 0 < t.size := by rw [← htl]; exact List.length_pos_iff.2 ht
        obtain ⟨k, hk⟩ : ∃ k, t.size = k + 1 := ⟨t.size - 1, by omega⟩
        rw [hk, parseL, if_neg ht, hq]
        rfl
      have HST := Lib.hid hstep
      have HA := Lib.hid (show (strOf a).size ≤ 100000 from by rw [strOf_size]; omega)
      have HN := Lib.hid (hnext (j := n) (n := 1000000) (by omega) (Nat.le_refl _))
      have HL := Lib.hid (show L.length ≤ 1000000 from by have := HLN.out; omega)
      have HLO := Lib.hid (show ∀ x ∈ L, x.f1.length ≤ 1000000 from fun x hx => by have := HON.out x hx; omega)
      have HGW := Lib.hid (show ∀ W, Below pb w W → GlobT W from fun W hW => globt_below HG.out (HPB.out ▸ hW))
      obtain ⟨wa, hwa⟩ : ∃ wa, wa = strOf a := ⟨_, rfl⟩
      obtain ⟨wb, hwb⟩ : ∃ wb, wb = strOf b := ⟨_, rfl⟩
      rw [← hwa, ← hwb] at hcut
      rw [← hwa] at HA
      have hwad : wa.data.toList = a := by rw [hwa, strOf_data]
      have hwbd : wb.data.toList = b := by rw [hwb, strOf_data]
      have HWA := Lib.hid hwad
      have HWB := Lib.hid hwbd
      have HLE := Lib.hid hle
      clear hq hle hstep hwa hwb hwad hwbd ht hs1 hnt1
      go_wp2_with fail
      refine (strings_Cut.calls t ⟨#[10]⟩ _ _ _ _ hcut).mono ?_
      rintro e w1 ⟨rfl, hdr⟩
      have HP1 := Lib.hid (blk_below HP.out hdr.below)
      have HS1 := Lib.hid (Kd.S_below HSS.out hdr.below)
      have HB1 := Lib.hid (HB.out.trans (hdr.below.mono (by have := blk_lt HP.out; omega)))
      clear hdr hcut
      cases f with
      | false =>
        go_wp2_with fail
        have hpo : parseO s.data.toList = ([], n, 10) := by rw [HST.out, if_neg (by intro h; exact absurd h.1 (by decide))]
        exact bodyPost_ret (v := .tuple #[.slice none 0 0, .int .i64 (n : Int), .int .i64 10]) (by simp [results, Tryd.results23, go_sem]) rfl ⟨HPB.out ▸ HB1.out, _, by rw [hpo], by rw [hpo]; exact Kd.S_nil _ _ _ _ _⟩
      | true =>
        go_wp2_with fail
        refine (line_walk pb L vL wa w1 HP1.out HS1.out HL.out HLO.out HA.out (HGW.out _ HB1.out)).mono ?_
        rintro e w2 ⟨hb2, he, v2, hp2, hs2⟩
        have HB2 := Lib.hid (HB1.out.trans hb2)
        have HS2 := Lib.hid hs2
        have HP2 := Lib.hid hp2
        clear hb2 hs2 hp2
        rw [HWA.out] at he HS2
        cases hl : (lineO L a).1 with
        | false =>
          rw [hl] at he
          obtain rfl := he
          have HLF := Lib.hid hl
          clear hl
          go_wp2_with fail
          have hpo : parseO s.data.toList = ([], n, 10) := by rw [HST.out, if_neg (by intro h; have := h.2; rw [HLF.out] at this; cases this)]
          exact bodyPost_ret (v := .tuple #[.slice none 0 0, .int .i64 (n : Int), .int .i64 10]) (by simp [results, Tryd.results23, go_sem]) rfl ⟨HPB.out ▸ HB2.out, _, by rw [hpo], by rw [hpo]; exact Kd.S_nil _ _ _ _ _⟩
        | true =>
          rw [hl] at he
          obtain rfl := he
          have HLF := Lib.hid hl
          clear hl
          go_wp2_with fail
          have hwbs : wb.size + 1 ≤ t.size := by
            have h1 := HLE.out.2.2 (by first | rfl | trivial)
            have h2 := len_size wb
            rw [HWB.out] at h2
            omega
          have hll := lineO_len L a
          refine ⟨⟨n + 1, wb, (lineO L a).2, v2, rfl, by first | rfl | exact congrArg _ HN.out, by have := HNT.out; omega, HP2.out, Lib.hid ⟨HB2.out, HS2.out, by have := HLN.out; omega, hll.2 n HON.out, ?_⟩⟩, ?_⟩
          · rw [HST.out, if_pos ⟨by first | rfl | trivial, HLF.out⟩, HWB.out]
            have h1 := HLE.out.2.2 (by first | rfl | trivial)
            have h2 := len_size wb
            rw [HWB.out] at h2
            exact parseL_fuel _ _ _ _ _ (by omega) (by omega)
          · show wb.size < t.size
            omega
end Go.Proofs.YtoloooammaiipaaDoor
/- What lamplighterlaw19.alive gives: a walk; conditions: the tables lie as the program's text lays them. -/
namespace Go.Proofs.YtoloooammaiipaaDoor
open Go Go.RowKit Go.Proofs.YtoloooammaiipaaDoor.PI Go.Proofs.YtoloooammaiipaaDoorW.PrintWords Go.Proofs.YtoloooammaiipaaDoorW.PrintLast Go.Proofs.YtoloooammaiipaaDoorW.PrintMore
set_option linter.unusedVariables false
set_option linter.unusedSimpArgs false
theorem alive_parse : parseO [105, 110, 32, 48, 98, 48, 100, 10, 98, 97, 99, 107, 32, 45, 10] = ([⟨⟨0, 0, 0, [11, 13]⟩, [⟨true, []⟩], false⟩], 2, 0) := by kernel_rfl
theorem alive_read : readO [116, 105, 99, 107, 32, 48, 53] = none := by decide +kernel
set_option maxHeartbeats 8000000 in
set_option maxRecDepth 100000 in
theorem alive_walk (w : World) (hG : GlobT w) :
    Calls Tryd.prog 10 #[] w fun e w' => e = .returned (.bool true) ∧ Below w.heap.size w w' := by
  have HG := Lib.hid hG
  have HPW := Lib.hid (parse_walk ⟨#[105, 110, 32, 48, 98, 48, 100, 10, 98, 97, 99, 107, 32, 45, 10]⟩ (by decide) w hG)
  clear hG
  go_enter Tryd.func10, Tryd.ntmps10
  go_wp2_with fail
  refine HPW.out.mono ?_
  rintro e w1 ⟨hb1, v, he, hS⟩
  have hpr : parseO (⟨#[105, 110, 32, 48, 98, 48, 100, 10, 98, 97, 99, 107, 32, 45, 10]⟩ : ByteArray).data.toList = ([⟨⟨0, 0, 0, [11, 13]⟩, [⟨true, []⟩], false⟩], 2, 0) := alive_parse
  rw [hpr] at he hS
  simp only at he hS
  obtain rfl := he
  obtain ⟨g, c, rfl, -, hgl, -⟩ := Kd.S_form hS (by decide)
  obtain ⟨oki, cs, hcl, hM, hcc, -, -, -⟩ := Kd.S_elem hS z42 0 (by decide) (by decide)
  obtain ⟨v3, v4, rfl, hR3, hR4⟩ := k42_openM hM
  obtain ⟨A3, c3, rfl⟩ := Kd.R_slice hR3
  obtain ⟨g4, c4, rfl, -, hgl4, -⟩ := Kd.R_form hR4 (by decide)
  obtain ⟨cs4, hcl4, hM4, hcc4, -⟩ := Kd.R_elem hR4 z56 0 (by decide) (by decide)
  obtain ⟨v5, rfl, hR5⟩ := k56_openM hM4
  have h3 : w1.cell? ⟨g, 3, none⟩ = some (.slice A3 2 c3) := hcc 3 _ rfl
  have h4 : w1.cell? ⟨g, 4, none⟩ = some (.slice (some ⟨g4, 0, none⟩) 1 c4) := hcc 4 _ rfl
  have h5 : w1.cell? ⟨g4, 0, none⟩ = some (.bool true) := hcc4 0 _ rfl
  have hC3 := (Kd.R_reads' hR3).2.2
  have HB1 := Lib.hid hb1
  have HRW := Lib.hid (read_walk ⟨#[116, 105, 99, 107, 32, 48, 53]⟩ (by decide) w1 (globt_below HG.out hb1))
  have H3 := Lib.hid h3
  have H4 := Lib.hid h4
  have H5 := Lib.hid h5
  have HC := Lib.hid (show Kd.C (Kd.int .u8) w1 A3 2 [11, 13] from hC3)
  have HC3 := Lib.hid (show (2 : Nat) ≤ c3 from (Kd.R_reads' hR3).2.1)
  clear hb1 hS hcl hM hcc hR3 hR4 hcl4 hM4 hcc4 hR5 h3 h4 h5 hC3
  go_wp2_with fail
  refine HRW.out.mono ?_
  rintro e w2 ⟨hb2, vr, hRr, he⟩
  have hrd : readO (⟨#[116, 105, 99, 107, 32, 48, 53]⟩ : ByteArray).data.toList = none := alive_read
  rw [hrd] at he hRr
  simp only [Option.elim] at he hRr
  obtain rfl := he
  obtain ⟨Ar, cr, rfl⟩ := Kd.R_slice hRr
  have HB2 := Lib.hid (below_step HB1.out hb2)
  have e3 := (cell_same (hb2.block g hgl) 3).trans H3.out
  have e4 := (cell_same (hb2.block g hgl) 4).trans H4.out
  have e5 := (cell_same (hb2.block g4 hgl4) 0).trans H5.out
  have l3 := Nat.lt_of_lt_of_le hgl hb2.size
  have l4 := Nat.lt_of_lt_of_le hgl4 hb2.size
  have HCV := Lib.hid (Kd.C_below HC.out hb2)
  have hcv : ∀ o, (convert 22 9 (.slice A3 2 c3)).run Tryd.prog (w2.alloc o) = .ok (.string (strOfNums [11, 13])) (w2.alloc o) := fun o => Kd.C_string Tryd.underlying22 Tryd.underlying5 Tryd.underlying9 (Kd.C_alloc HCV.out o)
  have hsn : strOfNums [11, 13] = ⟨#[11, 13]⟩ := rfl
  rw [hsn] at hcv
  clear hb2 hRr hrd hsn
  go_wp2_with fail
  go_ret
  exact ⟨rfl, below_alloc HB2.out _⟩
end Go.Proofs.YtoloooammaiipaaDoor
/- What trace.Event gives: walks, one for each set of fields that a kind has; conditions: bytes, at most a million; the tables lie as the program's text lays them. -/
namespace Go.Proofs.YtoloooammaiipaaDoor
open Go Go.RowKit Go.Proofs.YtoloooammaiipaaDoor.PI Go.Proofs.YtoloooammaiipaaDoorW.PrintWords Go.Proofs.YtoloooammaiipaaDoorW.PrintLast Go.Proofs.YtoloooammaiipaaDoorW.PrintMore
set_option linter.unusedVariables false
set_option linter.unusedSimpArgs false
/-- What is wrong with an event of a kind, for the fields it hasn't. -/
def evBad (fd fc fk : Bool) (n keep : Int) (d : List Int) : Prop := (fd = false ∧ 0 < d.length) ∨ (fc = false ∧ n ≠ 0) ∨ (fk = false ∧ keep ≠ 0)
instance (fd fc fk : Bool) (n keep : Int) (d : List Int) : Decidable (evBad fd fc fk n keep d) := by unfold evBad; infer_instance
/-- An event's text, of a kind. -/
def evText (r : KRow) (n keep : Int) (d : List Int) : List UInt8 :=
  ((r.1 ++ (if r.2.1 = true then 32 :: hexT d else [])) ++ (if r.2.2.1 = true then 32 :: Lib.itoa n else [])) ++ (if r.2.2.2 = true then 32 :: Lib.itoa keep else [])
/-- An event's text, or why there is none. -/
def eventO (k n keep : Int) (d : List Int) : List UInt8 × Int :=
  if k < 0 ∨ 9 ≤ k then ([], 17)
  else if evBad (kRows.getD k.toNat ([], false, false, false)).2.1 (kRows.getD k.toNat ([], false, false, false)).2.2.1 (kRows.getD k.toNat ([], false, false, false)).2.2.2 n keep d then ([], 10)
  else (evText (kRows.getD k.toNat ([], false, false, false)) n keep d, 0)
def EventPost (k n keep : Int) (d : List Int) (w : World) (e : Ending) (w' : World) : Prop :=
  e = .returned (.tuple #[.string (strOf (eventO k n keep d).1), .int .i64 (eventO k n keep d).2]) ∧ Below w.heap.size w w'
set_option maxRecDepth 100000 in
theorem kind_cells : ∀ (i j : Nat), i < 9 → j < 4 → (kRows.flatMap kVals)[i * 4 + j]? = (kVals (kRows.getD i ([], false, false, false)))[j]?
  | 0, 0, _, _ => rfl
  | 0, 1, _, _ => rfl
  | 0, 2, _, _ => rfl
  | 0, 3, _, _ => rfl
  | 1, 0, _, _ => rfl
  | 1, 1, _, _ => rfl
  | 1, 2, _, _ => rfl
  | 1, 3, _, _ => rfl
  | 2, 0, _, _ => rfl
  | 2, 1, _, _ => rfl
  | 2, 2, _, _ => rfl
  | 2, 3, _, _ => rfl
  | 3, 0, _, _ => rfl
  | 3, 1, _, _ => rfl
  | 3, 2, _, _ => rfl
  | 3, 3, _, _ => rfl
  | 4, 0, _, _ => rfl
  | 4, 1, _, _ => rfl
  | 4, 2, _, _ => rfl
  | 4, 3, _, _ => rfl
  | 5, 0, _, _ => rfl
  | 5, 1, _, _ => rfl
  | 5, 2, _, _ => rfl
  | 5, 3, _, _ => rfl
  | 6, 0, _, _ => rfl
  | 6, 1, _, _ => rfl
  | 6, 2, _, _ => rfl
  | 6, 3, _, _ => rfl
  | 7, 0, _, _ => rfl
  | 7, 1, _, _ => rfl
  | 7, 2, _, _ => rfl
  | 7, 3, _, _ => rfl
  | 8, 0, _, _ => rfl
  | 8, 1, _, _ => rfl
  | 8, 2, _, _ => rfl
  | 8, 3, _, _ => rfl
  | i + 9, _, h, _ => absurd h (by omega)
  | _, j + 4, _, h => absurd h (by omega)
theorem kind_at {w : World} (hG : GlobT w) {i : Nat} (hi : i < 9) {ks : List UInt8} {fd fc fk : Bool} (h : kRows.getD i ([], false, false, false) = (ks, fd, fc, fk)) :
    w.cell? ⟨0, i * 4, none⟩ = some (.string ⟨ks.toArray⟩) ∧ w.cell? ⟨0, i * 4 + 1, none⟩ = some (.bool fd) ∧ w.cell? ⟨0, i * 4 + 2, none⟩ = some (.bool fc) ∧ w.cell? ⟨0, i * 4 + 3, none⟩ = some (.bool fk) := by
  have hr := kinds_at hG
  have hk := fun j hj v (hv : (kVals (kRows.getD i ([], false, false, false)))[j]? = some v) => hr (i * 4 + j) v ((kind_cells i j hi hj).trans hv)
  rw [h] at hk
  simp only [Nat.zero_add] at hk
  exact ⟨hk 0 (by decide) _ rfl, hk 1 (by decide) _ rfl, hk 2 (by decide) _ rfl, hk 3 (by decide) _ rfl⟩
theorem hexT_len (l : List Int) : (hexT l).length ≤ 2 * l.length + 1 := by
  unfold hexT
  split
  · simp
  · rw [hexL_length]
    omega
theorem itoa_size {v : Int} (h0 : -9223372036854775808 ≤ v) (h1 : v ≤ 9223372036854775807) : (strOf (Lib.itoa v)).size ≤ 21 := by
  rw [strOf_size]
  exact Lib.itoa_length_le v h0 h1
theorem str_cat (a b : List UInt8) : strOf a ++ (⟨#[32]⟩ ++ strOf b) = strOf (a ++ 32 :: b) := by
  apply bytes_eq
  rw [ByteArray.data_append, Array.toList_append, ByteArray.data_append, Array.toList_append, strOf_data, strOf_data, strOf_data]
  rfl
theorem new_two (w : World) (o o' : Obj) : ((w.alloc o).alloc o').heap[w.heap.size + 1]? = some o' := by
  have := blk_new (w.alloc o) o'
  simpa using this
set_option maxHeartbeats 8000000 in
set_option maxRecDepth 100000 in
theorem event_d (i : Nat) (hi : i < 9) (ks : List UInt8) (hrow : kRows.getD i ([], false, false, false) = (ks, true, false, false)) (n keep : Int) (hn0 : -9223372036854775808 ≤ n) (hn1 : n ≤ 9223372036854775807) (hk0 : -9223372036854775808 ≤ keep) (hk1 : keep ≤ 9223372036854775807) (A : Option Addr) (c0 : Nat) (l : List Int) (hb : ∀ x ∈ l, 0 ≤ x ∧ x ≤ 255) (hl : l.length ≤ 1000000) (w : World) (hr : Kd.C (Kd.int .u8) w A l.length l) (hc : l.length ≤ c0) (hG : GlobT w) :
    Calls Tryd.prog 15 #[.agg #[.int .i64 (i : Int), .int .i64 n, .int .i64 keep, .slice A l.length c0]] w (EventPost (i : Int) n keep l w) := by
  have hks := row_len hrow hi
  have HKS := Lib.hid hks
  have HSP := Lib.hid (show (strOf ks).size ≤ 8 from by rw [strOf_size]; exact hks)
  have HEO := Lib.hid (show eventO (i : Int) n keep l = (if evBad true false false n keep l then ([], 10) else (evText (ks, true, false, false) n keep l, 0)) from by
    unfold eventO
    rw [if_neg (by omega), Int.toNat_natCast, hrow])
  have HB := Lib.hid hb
  have HR := Lib.hid hr
  have HG := Lib.hid hG
  have HL := Lib.hid hl
  have HC := Lib.hid hc
  have HN := Lib.hid (And.intro hn0 hn1)
  have HK := Lib.hid (And.intro hk0 hk1)
  have HROW := Lib.hid hrow
  clear hb hr hG hrow hn0 hn1 hk0 hk1 hks
  obtain ⟨q0, q1, q2, q3⟩ := kind_at HG.out hi HROW.out
  have ql := World.block_lt_of_cell? w ⟨0, i * 4, none⟩ q0
  simp only at ql
  have i0 : ¬ (i : Int) < 0 := by omega
  have i1 : ¬ (9 : Int) ≤ (i : Int) := by omega
  have i2 : (0 : Int) ≤ (i : Int) := by omega
  have i3 : (i : Int) < 9 := by omega
  obtain ⟨kw, hkw⟩ : ∃ kw : ByteArray, kw = ⟨ks.toArray⟩ := ⟨_, rfl⟩
  rw [← hkw] at q0
  have HKW := Lib.hid (show kw = strOf ks from hkw)
  clear hkw
  go_enter Tryd.func15, Tryd.ntmps15
  by_cases h2 : n ≠ 0
  · have t2 : (n == 0) = false := beq_eq_false_iff_ne.2 h2
    have t2b : ¬ n = 0 := h2
    have HBAD := Lib.hid (show evBad true false false n keep l from Or.inr (Or.inl ⟨rfl, h2⟩))
    go_wp2_with fail
    go_ret2
    refine ⟨?_, below_alloc (below_alloc (Below.refl _ _) _) _⟩
    rw [HEO.out, if_pos HBAD.out]
    rfl
  · obtain rfl : n = 0 := Classical.not_not.1 h2
    by_cases h3 : keep ≠ 0
    · have t3 : (keep == 0) = false := beq_eq_false_iff_ne.2 h3
      have t3b : ¬ keep = 0 := h3
      have HBAD := Lib.hid (show evBad true false false 0 keep l from Or.inr (Or.inr ⟨rfl, h3⟩))
      go_wp2_with fail
      go_ret2
      refine ⟨?_, below_alloc (below_alloc (Below.refl _ _) _) _⟩
      rw [HEO.out, if_pos HBAD.out]
      rfl
    · obtain rfl : keep = 0 := Classical.not_not.1 h3
      have HOKK := Lib.hid (show ¬ evBad true false false 0 0 l from fun z => z.elim (fun z => absurd z.1 (by decide)) (fun z => z.elim (fun z => absurd rfl z.2) (fun z => absurd rfl z.2)))
      clear h2 h3
      have HS0 := Lib.hid (show kw.size ≤ 8 from by rw [HKW.out]; exact HSP.out)
      go_wp2_with fail
      have HBx := Lib.hid (below_alloc (below_alloc (Below.refl w.heap.size w) (.cells #[.int .i64 (i : Int), .int .i64 0, .int .i64 0, .slice A l.length c0] 29 (0, 0))) (.cells #[.string kw, .bool true, .bool false, .bool false] 68 (0, 0)))
      have HEx := Lib.hid (blk_alloc (blk_new w (.cells #[.int .i64 (i : Int), .int .i64 0, .int .i64 0, .slice A l.length c0] 29 (0, 0))) (.cells #[.string kw, .bool true, .bool false, .bool false] 68 (0, 0)))
      have HKx := Lib.hid (new_two w (.cells #[.int .i64 (i : Int), .int .i64 0, .int .i64 0, .slice A l.length c0] 29 (0, 0)) (.cells #[.string kw, .bool true, .bool false, .bool false] 68 (0, 0)))
      generalize (w.alloc (.cells #[.int .i64 (i : Int), .int .i64 0, .int .i64 0, .slice A l.length c0] 29)).alloc (.cells #[.string kw, .bool true, .bool false, .bool false] 68) = V0 at HBx HEx HKx ⊢
      clear q0 q1 q2 q3 ql
      refine (hex_walk A c0 l HB.out HL.out V0 (Kd.C_below HR.out HBx.out) HC.out).mono ?_
      rintro e U0 ⟨rfl, hbz⟩
      have HB0 := Lib.hid (below_step HBx.out hbz)
      have HE0 := Lib.hid (blk_below HEx.out hbz)
      have HK0 := Lib.hid (blk_below HKx.out hbz)
      clear hbz HBx HEx HKx
      obtain ⟨x0, hx0⟩ : ∃ x0, x0 = strOf (hexT l) := ⟨_, rfl⟩
      rw [← hx0]
      have HX0 := Lib.hid hx0
      have hz0 : x0.size ≤ 2000001 := by
        rw [hx0]
        rw [strOf_size]; have := hexT_len l; have := HL.out; omega
      clear hx0
      have hc0 := HS0.out
      have o0a : (9223372036854775807 < 1 + x0.size) = False := eq_false (by omega)
      have o0b : 1 + x0.size ≤ 9223372036854775807 := by omega
      have o0c : (9223372036854775807 < kw.size + (1 + x0.size)) = False := eq_false (by omega)
      have o0d : kw.size + (1 + x0.size) ≤ 9223372036854775807 := by omega
      have e0 := cell_of_cells HE0.out 0
      have e1 := cell_of_cells HE0.out 1
      have e2 := cell_of_cells HE0.out 2
      have e3 := cell_of_cells HE0.out 3
      have k0 := cell_of_cells HK0.out 0
      have k1 := cell_of_cells HK0.out 1
      have k2 := cell_of_cells HK0.out 2
      have k3 := cell_of_cells HK0.out 3
      simp only [List.getElem?_toArray, List.getElem?_cons_zero, List.getElem?_cons_succ] at e0 e1 e2 e3 k0 k1 k2 k3
      go_wp2_with fail
      go_ret2
      refine ⟨?_, HB0.out⟩
      rw [HEO.out, if_neg HOKK.out]
      refine congrArg (fun z => Ending.returned (Value.tuple #[.string z, .int .i64 0])) (show kw ++ (⟨#[32]⟩ ++ x0) = strOf (evText (ks, true, false, false) 0 0 l) from ?_)
      rw [HKW.out, HX0.out, str_cat]
      congr 1
      unfold evText
      simp
set_option maxHeartbeats 8000000 in
set_option maxRecDepth 100000 in
theorem event_z (i : Nat) (hi : i < 9) (ks : List UInt8) (hrow : kRows.getD i ([], false, false, false) = (ks, false, false, false)) (n keep : Int) (hn0 : -9223372036854775808 ≤ n) (hn1 : n ≤ 9223372036854775807) (hk0 : -9223372036854775808 ≤ keep) (hk1 : keep ≤ 9223372036854775807) (A : Option Addr) (c0 : Nat) (l : List Int) (hb : ∀ x ∈ l, 0 ≤ x ∧ x ≤ 255) (hl : l.length ≤ 1000000) (w : World) (hr : Kd.C (Kd.int .u8) w A l.length l) (hc : l.length ≤ c0) (hG : GlobT w) :
    Calls Tryd.prog 15 #[.agg #[.int .i64 (i : Int), .int .i64 n, .int .i64 keep, .slice A l.length c0]] w (EventPost (i : Int) n keep l w) := by
  have hks := row_len hrow hi
  have HKS := Lib.hid hks
  have HSP := Lib.hid (show (strOf ks).size ≤ 8 from by rw [strOf_size]; exact hks)
  have HEO := Lib.hid (show eventO (i : Int) n keep l = (if evBad false false false n keep l then ([], 10) else (evText (ks, false, false, false) n keep l, 0)) from by
    unfold eventO
    rw [if_neg (by omega), Int.toNat_natCast, hrow])
  have HB := Lib.hid hb
  have HR := Lib.hid hr
  have HG := Lib.hid hG
  have HL := Lib.hid hl
  have HC := Lib.hid hc
  have HN := Lib.hid (And.intro hn0 hn1)
  have HK := Lib.hid (And.intro hk0 hk1)
  have HROW := Lib.hid hrow
  clear hb hr hG hrow hn0 hn1 hk0 hk1 hks
  obtain ⟨q0, q1, q2, q3⟩ := kind_at HG.out hi HROW.out
  have ql := World.block_lt_of_cell? w ⟨0, i * 4, none⟩ q0
  simp only at ql
  have i0 : ¬ (i : Int) < 0 := by omega
  have i1 : ¬ (9 : Int) ≤ (i : Int) := by omega
  have i2 : (0 : Int) ≤ (i : Int) := by omega
  have i3 : (i : Int) < 9 := by omega
  obtain ⟨kw, hkw⟩ : ∃ kw : ByteArray, kw = ⟨ks.toArray⟩ := ⟨_, rfl⟩
  rw [← hkw] at q0
  have HKW := Lib.hid (show kw = strOf ks from hkw)
  clear hkw
  go_enter Tryd.func15, Tryd.ntmps15
  by_cases h1 : 0 < l.length
  · have t1 : (0 : Int) < (l.length : Int) := by omega
    have HBAD := Lib.hid (show evBad false false false n keep l from Or.inl ⟨rfl, h1⟩)
    go_wp2_with fail
    go_ret2
    refine ⟨?_, below_alloc (below_alloc (Below.refl _ _) _) _⟩
    rw [HEO.out, if_pos HBAD.out]
    rfl
  · obtain rfl : l = [] := List.eq_nil_of_length_eq_zero (by omega)
    by_cases h2 : n ≠ 0
    · have t2 : (n == 0) = false := beq_eq_false_iff_ne.2 h2
      have t2b : ¬ n = 0 := h2
      have HBAD := Lib.hid (show evBad false false false n keep [] from Or.inr (Or.inl ⟨rfl, h2⟩))
      go_wp2_with fail
      go_ret2
      refine ⟨?_, below_alloc (below_alloc (Below.refl _ _) _) _⟩
      rw [HEO.out, if_pos HBAD.out]
      rfl
    · obtain rfl : n = 0 := Classical.not_not.1 h2
      by_cases h3 : keep ≠ 0
      · have t3 : (keep == 0) = false := beq_eq_false_iff_ne.2 h3
        have t3b : ¬ keep = 0 := h3
        have HBAD := Lib.hid (show evBad false false false 0 keep [] from Or.inr (Or.inr ⟨rfl, h3⟩))
        go_wp2_with fail
        go_ret2
        refine ⟨?_, below_alloc (below_alloc (Below.refl _ _) _) _⟩
        rw [HEO.out, if_pos HBAD.out]
        rfl
      · obtain rfl : keep = 0 := Classical.not_not.1 h3
        have HOKK := Lib.hid (show ¬ evBad false false false 0 0 [] from fun z => z.elim (fun z => absurd z.2 (by decide)) (fun z => z.elim (fun z => absurd rfl z.2) (fun z => absurd rfl z.2)))
        clear h1 h2 h3
        have HS0 := Lib.hid (show kw.size ≤ 8 from by rw [HKW.out]; exact HSP.out)
        go_wp2_with fail
        go_ret2
        refine ⟨?_, below_alloc (below_alloc (Below.refl _ _) _) _⟩
        rw [HEO.out, if_neg HOKK.out, HKW.out]
        exact congrArg (fun z => Ending.returned (Value.tuple #[.string (strOf z), .int .i64 0])) (by unfold evText; simp)
set_option maxHeartbeats 8000000 in
set_option maxRecDepth 100000 in
theorem event_c (i : Nat) (hi : i < 9) (ks : List UInt8) (hrow : kRows.getD i ([], false, false, false) = (ks, false, true, false)) (n keep : Int) (hn0 : -9223372036854775808 ≤ n) (hn1 : n ≤ 9223372036854775807) (hk0 : -9223372036854775808 ≤ keep) (hk1 : keep ≤ 9223372036854775807) (A : Option Addr) (c0 : Nat) (l : List Int) (hb : ∀ x ∈ l, 0 ≤ x ∧ x ≤ 255) (hl : l.length ≤ 1000000) (w : World) (hr : Kd.C (Kd.int .u8) w A l.length l) (hc : l.length ≤ c0) (hG : GlobT w) :
    Calls Tryd.prog 15 #[.agg #[.int .i64 (i : Int), .int .i64 n, .int .i64 keep, .slice A l.length c0]] w (EventPost (i : Int) n keep l w) := by
  have hks := row_len hrow hi
  have HKS := Lib.hid hks
  have HSP := Lib.hid (show (strOf ks).size ≤ 8 from by rw [strOf_size]; exact hks)
  have HEO := Lib.hid (show eventO (i : Int) n keep l = (if evBad false true false n keep l then ([], 10) else (evText (ks, false, true, false) n keep l, 0)) from by
    unfold eventO
    rw [if_neg (by omega), Int.toNat_natCast, hrow])
  have HB := Lib.hid hb
  have HR := Lib.hid hr
  have HG := Lib.hid hG
  have HL := Lib.hid hl
  have HC := Lib.hid hc
  have HN := Lib.hid (And.intro hn0 hn1)
  have HK := Lib.hid (And.intro hk0 hk1)
  have HROW := Lib.hid hrow
  clear hb hr hG hrow hn0 hn1 hk0 hk1 hks
  obtain ⟨q0, q1, q2, q3⟩ := kind_at HG.out hi HROW.out
  have ql := World.block_lt_of_cell? w ⟨0, i * 4, none⟩ q0
  simp only at ql
  have i0 : ¬ (i : Int) < 0 := by omega
  have i1 : ¬ (9 : Int) ≤ (i : Int) := by omega
  have i2 : (0 : Int) ≤ (i : Int) := by omega
  have i3 : (i : Int) < 9 := by omega
  obtain ⟨kw, hkw⟩ : ∃ kw : ByteArray, kw = ⟨ks.toArray⟩ := ⟨_, rfl⟩
  rw [← hkw] at q0
  have HKW := Lib.hid (show kw = strOf ks from hkw)
  clear hkw
  go_enter Tryd.func15, Tryd.ntmps15
  by_cases h1 : 0 < l.length
  · have t1 : (0 : Int) < (l.length : Int) := by omega
    have HBAD := Lib.hid (show evBad false true false n keep l from Or.inl ⟨rfl, h1⟩)
    go_wp2_with fail
    go_ret2
    refine ⟨?_, below_alloc (below_alloc (Below.refl _ _) _) _⟩
    rw [HEO.out, if_pos HBAD.out]
    rfl
  · obtain rfl : l = [] := List.eq_nil_of_length_eq_zero (by omega)
    by_cases h3 : keep ≠ 0
    · have t3 : (keep == 0) = false := beq_eq_false_iff_ne.2 h3
      have t3b : ¬ keep = 0 := h3
      have HBAD := Lib.hid (show evBad false true false n keep [] from Or.inr (Or.inr ⟨rfl, h3⟩))
      go_wp2_with fail
      go_ret2
      refine ⟨?_, below_alloc (below_alloc (Below.refl _ _) _) _⟩
      rw [HEO.out, if_pos HBAD.out]
      rfl
    · obtain rfl : keep = 0 := Classical.not_not.1 h3
      have HOKK := Lib.hid (show ¬ evBad false true false n 0 [] from fun z => z.elim (fun z => absurd z.2 (by decide)) (fun z => z.elim (fun z => absurd z.1 (by decide)) (fun z => absurd rfl z.2)))
      clear h1 h3
      have HS0 := Lib.hid (show kw.size ≤ 8 from by rw [HKW.out]; exact HSP.out)
      go_wp2_with fail
      have HBx := Lib.hid (below_alloc (below_alloc (Below.refl w.heap.size w) (.cells #[.int .i64 (i : Int), .int .i64 n, .int .i64 0, .slice A 0 c0] 29 (0, 0))) (.cells #[.string kw, .bool false, .bool true, .bool false] 68 (0, 0)))
      have HEx := Lib.hid (blk_alloc (blk_new w (.cells #[.int .i64 (i : Int), .int .i64 n, .int .i64 0, .slice A 0 c0] 29 (0, 0))) (.cells #[.string kw, .bool false, .bool true, .bool false] 68 (0, 0)))
      have HKx := Lib.hid (new_two w (.cells #[.int .i64 (i : Int), .int .i64 n, .int .i64 0, .slice A 0 c0] 29 (0, 0)) (.cells #[.string kw, .bool false, .bool true, .bool false] 68 (0, 0)))
      generalize (w.alloc (.cells #[.int .i64 (i : Int), .int .i64 n, .int .i64 0, .slice A 0 c0] 29)).alloc (.cells #[.string kw, .bool false, .bool true, .bool false] 68) = V0 at HBx HEx HKx ⊢
      clear q0 q1 q2 q3 ql
      refine (itoa_walk n HN.out.1 HN.out.2 V0 (globt_below HG.out HBx.out).pow).mono ?_
      rintro e U0 ⟨rfl, hbz⟩
      have HB0 := Lib.hid (below_step HBx.out hbz)
      have HE0 := Lib.hid (blk_below HEx.out hbz)
      have HK0 := Lib.hid (blk_below HKx.out hbz)
      clear hbz HBx HEx HKx
      obtain ⟨x0, hx0⟩ : ∃ x0, x0 = strOf (Lib.itoa n) := ⟨_, rfl⟩
      rw [show (⟨(Lib.itoa n).toArray⟩ : ByteArray) = x0 from hx0.symm]
      have HX0 := Lib.hid hx0
      have hz0 : x0.size ≤ 21 := by
        rw [hx0]
        exact itoa_size HN.out.1 HN.out.2
      clear hx0
      have hc0 := HS0.out
      have o0a : (9223372036854775807 < 1 + x0.size) = False := eq_false (by omega)
      have o0b : 1 + x0.size ≤ 9223372036854775807 := by omega
      have o0c : (9223372036854775807 < kw.size + (1 + x0.size)) = False := eq_false (by omega)
      have o0d : kw.size + (1 + x0.size) ≤ 9223372036854775807 := by omega
      have e0 := cell_of_cells HE0.out 0
      have e1 := cell_of_cells HE0.out 1
      have e2 := cell_of_cells HE0.out 2
      have e3 := cell_of_cells HE0.out 3
      have k0 := cell_of_cells HK0.out 0
      have k1 := cell_of_cells HK0.out 1
      have k2 := cell_of_cells HK0.out 2
      have k3 := cell_of_cells HK0.out 3
      simp only [List.getElem?_toArray, List.getElem?_cons_zero, List.getElem?_cons_succ] at e0 e1 e2 e3 k0 k1 k2 k3
      go_wp2_with fail
      go_ret2
      refine ⟨?_, HB0.out⟩
      rw [HEO.out, if_neg HOKK.out]
      refine congrArg (fun z => Ending.returned (Value.tuple #[.string z, .int .i64 0])) (show kw ++ (⟨#[32]⟩ ++ x0) = strOf (evText (ks, false, true, false) n 0 []) from ?_)
      rw [HKW.out, HX0.out, str_cat]
      congr 1
      unfold evText
      simp
set_option maxHeartbeats 8000000 in
set_option maxRecDepth 100000 in
theorem event_ck (i : Nat) (hi : i < 9) (ks : List UInt8) (hrow : kRows.getD i ([], false, false, false) = (ks, false, true, true)) (n keep : Int) (hn0 : -9223372036854775808 ≤ n) (hn1 : n ≤ 9223372036854775807) (hk0 : -9223372036854775808 ≤ keep) (hk1 : keep ≤ 9223372036854775807) (A : Option Addr) (c0 : Nat) (l : List Int) (hb : ∀ x ∈ l, 0 ≤ x ∧ x ≤ 255) (hl : l.length ≤ 1000000) (w : World) (hr : Kd.C (Kd.int .u8) w A l.length l) (hc : l.length ≤ c0) (hG : GlobT w) :
    Calls Tryd.prog 15 #[.agg #[.int .i64 (i : Int), .int .i64 n, .int .i64 keep, .slice A l.length c0]] w (EventPost (i : Int) n keep l w) := by
  have hks := row_len hrow hi
  have HKS := Lib.hid hks
  have HSP := Lib.hid (show (strOf ks).size ≤ 8 from by rw [strOf_size]; exact hks)
  have HEO := Lib.hid (show eventO (i : Int) n keep l = (if evBad false true true n keep l then ([], 10) else (evText (ks, false, true, true) n keep l, 0)) from by
    unfold eventO
    rw [if_neg (by omega), Int.toNat_natCast, hrow])
  have HB := Lib.hid hb
  have HR := Lib.hid hr
  have HG := Lib.hid hG
  have HL := Lib.hid hl
  have HC := Lib.hid hc
  have HN := Lib.hid (And.intro hn0 hn1)
  have HK := Lib.hid (And.intro hk0 hk1)
  have HROW := Lib.hid hrow
  clear hb hr hG hrow hn0 hn1 hk0 hk1 hks
  obtain ⟨q0, q1, q2, q3⟩ := kind_at HG.out hi HROW.out
  have ql := World.block_lt_of_cell? w ⟨0, i * 4, none⟩ q0
  simp only at ql
  have i0 : ¬ (i : Int) < 0 := by omega
  have i1 : ¬ (9 : Int) ≤ (i : Int) := by omega
  have i2 : (0 : Int) ≤ (i : Int) := by omega
  have i3 : (i : Int) < 9 := by omega
  obtain ⟨kw, hkw⟩ : ∃ kw : ByteArray, kw = ⟨ks.toArray⟩ := ⟨_, rfl⟩
  rw [← hkw] at q0
  have HKW := Lib.hid (show kw = strOf ks from hkw)
  clear hkw
  go_enter Tryd.func15, Tryd.ntmps15
  by_cases h1 : 0 < l.length
  · have t1 : (0 : Int) < (l.length : Int) := by omega
    have HBAD := Lib.hid (show evBad false true true n keep l from Or.inl ⟨rfl, h1⟩)
    go_wp2_with fail
    go_ret2
    refine ⟨?_, below_alloc (below_alloc (Below.refl _ _) _) _⟩
    rw [HEO.out, if_pos HBAD.out]
    rfl
  · obtain rfl : l = [] := List.eq_nil_of_length_eq_zero (by omega)
    have HOKK := Lib.hid (show ¬ evBad false true true n keep [] from fun z => z.elim (fun z => absurd z.2 (by decide)) (fun z => z.elim (fun z => absurd z.1 (by decide)) (fun z => absurd z.1 (by decide))))
    clear h1
    have HS0 := Lib.hid (show kw.size ≤ 8 from by rw [HKW.out]; exact HSP.out)
    go_wp2_with fail
    have HBx := Lib.hid (below_alloc (below_alloc (Below.refl w.heap.size w) (.cells #[.int .i64 (i : Int), .int .i64 n, .int .i64 keep, .slice A 0 c0] 29 (0, 0))) (.cells #[.string kw, .bool false, .bool true, .bool true] 68 (0, 0)))
    have HEx := Lib.hid (blk_alloc (blk_new w (.cells #[.int .i64 (i : Int), .int .i64 n, .int .i64 keep, .slice A 0 c0] 29 (0, 0))) (.cells #[.string kw, .bool false, .bool true, .bool true] 68 (0, 0)))
    have HKx := Lib.hid (new_two w (.cells #[.int .i64 (i : Int), .int .i64 n, .int .i64 keep, .slice A 0 c0] 29 (0, 0)) (.cells #[.string kw, .bool false, .bool true, .bool true] 68 (0, 0)))
    generalize (w.alloc (.cells #[.int .i64 (i : Int), .int .i64 n, .int .i64 keep, .slice A 0 c0] 29)).alloc (.cells #[.string kw, .bool false, .bool true, .bool true] 68) = V0 at HBx HEx HKx ⊢
    clear q0 q1 q2 q3 ql
    refine (itoa_walk n HN.out.1 HN.out.2 V0 (globt_below HG.out HBx.out).pow).mono ?_
    rintro e U0 ⟨rfl, hbz⟩
    have HB0 := Lib.hid (below_step HBx.out hbz)
    have HE0 := Lib.hid (blk_below HEx.out hbz)
    have HK0 := Lib.hid (blk_below HKx.out hbz)
    clear hbz HBx HEx HKx
    obtain ⟨x0, hx0⟩ : ∃ x0, x0 = strOf (Lib.itoa n) := ⟨_, rfl⟩
    rw [show (⟨(Lib.itoa n).toArray⟩ : ByteArray) = x0 from hx0.symm]
    have HX0 := Lib.hid hx0
    have hz0 : x0.size ≤ 21 := by
      rw [hx0]
      exact itoa_size HN.out.1 HN.out.2
    clear hx0
    have hc0 := HS0.out
    have o0a : (9223372036854775807 < 1 + x0.size) = False := eq_false (by omega)
    have o0b : 1 + x0.size ≤ 9223372036854775807 := by omega
    have o0c : (9223372036854775807 < kw.size + (1 + x0.size)) = False := eq_false (by omega)
    have o0d : kw.size + (1 + x0.size) ≤ 9223372036854775807 := by omega
    have e0 := cell_of_cells HE0.out 0
    have e1 := cell_of_cells HE0.out 1
    have e2 := cell_of_cells HE0.out 2
    have e3 := cell_of_cells HE0.out 3
    have k0 := cell_of_cells HK0.out 0
    have k1 := cell_of_cells HK0.out 1
    have k2 := cell_of_cells HK0.out 2
    have k3 := cell_of_cells HK0.out 3
    simp only [List.getElem?_toArray, List.getElem?_cons_zero, List.getElem?_cons_succ] at e0 e1 e2 e3 k0 k1 k2 k3
    go_wp2_with fail
    obtain ⟨y0, hy0⟩ : ∃ y0, y0 = kw ++ (⟨#[32]⟩ ++ x0) := ⟨_, rfl⟩
    rw [← hy0]
    have HY0 := Lib.hid (show y0 = strOf (ks ++ 32 :: Lib.itoa n) from by rw [hy0, HKW.out, HX0.out, str_cat])
    have HSY0 := Lib.hid (show y0.size ≤ 30 from by rw [hy0, ByteArray.size_append, ByteArray.size_append]; show kw.size + (1 + x0.size) ≤ 30; omega)
    clear hy0 o0a o0b o0c o0d hc0 hz0
    refine (itoa_walk keep HK.out.1 HK.out.2 U0 (globt_below HG.out HB0.out).pow).mono ?_
    rintro e U1 ⟨rfl, hbz⟩
    have HB1 := Lib.hid (below_step HB0.out hbz)
    have HE1 := Lib.hid (blk_below HE0.out hbz)
    have HK1 := Lib.hid (blk_below HK0.out hbz)
    clear hbz HB0 HE0 HK0
    obtain ⟨x1, hx1⟩ : ∃ x1, x1 = strOf (Lib.itoa keep) := ⟨_, rfl⟩
    rw [show (⟨(Lib.itoa keep).toArray⟩ : ByteArray) = x1 from hx1.symm]
    have HX1 := Lib.hid hx1
    have hz1 : x1.size ≤ 21 := by
      rw [hx1]
      exact itoa_size HK.out.1 HK.out.2
    clear hx1
    have hc1 := HSY0.out
    have o1a : (9223372036854775807 < 1 + x1.size) = False := eq_false (by omega)
    have o1b : 1 + x1.size ≤ 9223372036854775807 := by omega
    have o1c : (9223372036854775807 < y0.size + (1 + x1.size)) = False := eq_false (by omega)
    have o1d : y0.size + (1 + x1.size) ≤ 9223372036854775807 := by omega
    have e0 := cell_of_cells HE1.out 0
    have e1 := cell_of_cells HE1.out 1
    have e2 := cell_of_cells HE1.out 2
    have e3 := cell_of_cells HE1.out 3
    have k0 := cell_of_cells HK1.out 0
    have k1 := cell_of_cells HK1.out 1
    have k2 := cell_of_cells HK1.out 2
    have k3 := cell_of_cells HK1.out 3
    simp only [List.getElem?_toArray, List.getElem?_cons_zero, List.getElem?_cons_succ] at e0 e1 e2 e3 k0 k1 k2 k3
    go_wp2_with fail
    go_ret2
    refine ⟨?_, HB1.out⟩
    rw [HEO.out, if_neg HOKK.out]
    refine congrArg (fun z => Ending.returned (Value.tuple #[.string z, .int .i64 0])) (show y0 ++ (⟨#[32]⟩ ++ x1) = strOf (evText (ks, false, true, true) n keep []) from ?_)
    rw [HY0.out, HX1.out, str_cat]
    congr 1
    unfold evText
    simp
set_option maxHeartbeats 8000000 in
set_option maxRecDepth 100000 in
theorem event_k (i : Nat) (hi : i < 9) (ks : List UInt8) (hrow : kRows.getD i ([], false, false, false) = (ks, false, false, true)) (n keep : Int) (hn0 : -9223372036854775808 ≤ n) (hn1 : n ≤ 9223372036854775807) (hk0 : -9223372036854775808 ≤ keep) (hk1 : keep ≤ 9223372036854775807) (A : Option Addr) (c0 : Nat) (l : List Int) (hb : ∀ x ∈ l, 0 ≤ x ∧ x ≤ 255) (hl : l.length ≤ 1000000) (w : World) (hr : Kd.C (Kd.int .u8) w A l.length l) (hc : l.length ≤ c0) (hG : GlobT w) :
    Calls Tryd.prog 15 #[.agg #[.int .i64 (i : Int), .int .i64 n, .int .i64 keep, .slice A l.length c0]] w (EventPost (i : Int) n keep l w) := by
  have hks := row_len hrow hi
  have HKS := Lib.hid hks
  have HSP := Lib.hid (show (strOf ks).size ≤ 8 from by rw [strOf_size]; exact hks)
  have HEO := Lib.hid (show eventO (i : Int) n keep l = (if evBad false false true n keep l then ([], 10) else (evText (ks, false, false, true) n keep l, 0)) from by
    unfold eventO
    rw [if_neg (by omega), Int.toNat_natCast, hrow])
  have HB := Lib.hid hb
  have HR := Lib.hid hr
  have HG := Lib.hid hG
  have HL := Lib.hid hl
  have HC := Lib.hid hc
  have HN := Lib.hid (And.intro hn0 hn1)
  have HK := Lib.hid (And.intro hk0 hk1)
  have HROW := Lib.hid hrow
  clear hb hr hG hrow hn0 hn1 hk0 hk1 hks
  obtain ⟨q0, q1, q2, q3⟩ := kind_at HG.out hi HROW.out
  have ql := World.block_lt_of_cell? w ⟨0, i * 4, none⟩ q0
  simp only at ql
  have i0 : ¬ (i : Int) < 0 := by omega
  have i1 : ¬ (9 : Int) ≤ (i : Int) := by omega
  have i2 : (0 : Int) ≤ (i : Int) := by omega
  have i3 : (i : Int) < 9 := by omega
  obtain ⟨kw, hkw⟩ : ∃ kw : ByteArray, kw = ⟨ks.toArray⟩ := ⟨_, rfl⟩
  rw [← hkw] at q0
  have HKW := Lib.hid (show kw = strOf ks from hkw)
  clear hkw
  go_enter Tryd.func15, Tryd.ntmps15
  by_cases h1 : 0 < l.length
  · have t1 : (0 : Int) < (l.length : Int) := by omega
    have HBAD := Lib.hid (show evBad false false true n keep l from Or.inl ⟨rfl, h1⟩)
    go_wp2_with fail
    go_ret2
    refine ⟨?_, below_alloc (below_alloc (Below.refl _ _) _) _⟩
    rw [HEO.out, if_pos HBAD.out]
    rfl
  · obtain rfl : l = [] := List.eq_nil_of_length_eq_zero (by omega)
    by_cases h2 : n ≠ 0
    · have t2 : (n == 0) = false := beq_eq_false_iff_ne.2 h2
      have t2b : ¬ n = 0 := h2
      have HBAD := Lib.hid (show evBad false false true n keep [] from Or.inr (Or.inl ⟨rfl, h2⟩))
      go_wp2_with fail
      go_ret2
      refine ⟨?_, below_alloc (below_alloc (Below.refl _ _) _) _⟩
      rw [HEO.out, if_pos HBAD.out]
      rfl
    · obtain rfl : n = 0 := Classical.not_not.1 h2
      have HOKK := Lib.hid (show ¬ evBad false false true 0 keep [] from fun z => z.elim (fun z => absurd z.2 (by decide)) (fun z => z.elim (fun z => absurd rfl z.2) (fun z => absurd z.1 (by decide))))
      clear h1 h2
      have HS0 := Lib.hid (show kw.size ≤ 8 from by rw [HKW.out]; exact HSP.out)
      go_wp2_with fail
      have HBx := Lib.hid (below_alloc (below_alloc (Below.refl w.heap.size w) (.cells #[.int .i64 (i : Int), .int .i64 0, .int .i64 keep, .slice A 0 c0] 29 (0, 0))) (.cells #[.string kw, .bool false, .bool false, .bool true] 68 (0, 0)))
      have HEx := Lib.hid (blk_alloc (blk_new w (.cells #[.int .i64 (i : Int), .int .i64 0, .int .i64 keep, .slice A 0 c0] 29 (0, 0))) (.cells #[.string kw, .bool false, .bool false, .bool true] 68 (0, 0)))
      have HKx := Lib.hid (new_two w (.cells #[.int .i64 (i : Int), .int .i64 0, .int .i64 keep, .slice A 0 c0] 29 (0, 0)) (.cells #[.string kw, .bool false, .bool false, .bool true] 68 (0, 0)))
      generalize (w.alloc (.cells #[.int .i64 (i : Int), .int .i64 0, .int .i64 keep, .slice A 0 c0] 29)).alloc (.cells #[.string kw, .bool false, .bool false, .bool true] 68) = V0 at HBx HEx HKx ⊢
      clear q0 q1 q2 q3 ql
      refine (itoa_walk keep HK.out.1 HK.out.2 V0 (globt_below HG.out HBx.out).pow).mono ?_
      rintro e U0 ⟨rfl, hbz⟩
      have HB0 := Lib.hid (below_step HBx.out hbz)
      have HE0 := Lib.hid (blk_below HEx.out hbz)
      have HK0 := Lib.hid (blk_below HKx.out hbz)
      clear hbz HBx HEx HKx
      obtain ⟨x0, hx0⟩ : ∃ x0, x0 = strOf (Lib.itoa keep) := ⟨_, rfl⟩
      rw [show (⟨(Lib.itoa keep).toArray⟩ : ByteArray) = x0 from hx0.symm]
      have HX0 := Lib.hid hx0
      have hz0 : x0.size ≤ 21 := by
        rw [hx0]
        exact itoa_size HK.out.1 HK.out.2
      clear hx0
      have hc0 := HS0.out
      have o0a : (9223372036854775807 < 1 + x0.size) = False := eq_false (by omega)
      have o0b : 1 + x0.size ≤ 9223372036854775807 := by omega
      have o0c : (9223372036854775807 < kw.size + (1 + x0.size)) = False := eq_false (by omega)
      have o0d : kw.size + (1 + x0.size) ≤ 9223372036854775807 := by omega
      have e0 := cell_of_cells HE0.out 0
      have e1 := cell_of_cells HE0.out 1
      have e2 := cell_of_cells HE0.out 2
      have e3 := cell_of_cells HE0.out 3
      have k0 := cell_of_cells HK0.out 0
      have k1 := cell_of_cells HK0.out 1
      have k2 := cell_of_cells HK0.out 2
      have k3 := cell_of_cells HK0.out 3
      simp only [List.getElem?_toArray, List.getElem?_cons_zero, List.getElem?_cons_succ] at e0 e1 e2 e3 k0 k1 k2 k3
      go_wp2_with fail
      go_ret2
      refine ⟨?_, HB0.out⟩
      rw [HEO.out, if_neg HOKK.out]
      refine congrArg (fun z => Ending.returned (Value.tuple #[.string z, .int .i64 0])) (show kw ++ (⟨#[32]⟩ ++ x0) = strOf (evText (ks, false, false, true) 0 keep []) from ?_)
      rw [HKW.out, HX0.out, str_cat]
      congr 1
      unfold evText
      simp
end Go.Proofs.YtoloooammaiipaaDoor
/- What trace.Event gives, of any event; conditions: bytes, at most a million; the tables lie as the program's text lays them. -/
namespace Go.Proofs.YtoloooammaiipaaDoor
open Go Go.RowKit Go.Proofs.YtoloooammaiipaaDoor.PI Go.Proofs.YtoloooammaiipaaDoorW.PrintWords Go.Proofs.YtoloooammaiipaaDoorW.PrintLast Go.Proofs.YtoloooammaiipaaDoorW.PrintMore
set_option linter.unusedVariables false
set_option linter.unusedSimpArgs false
set_option maxHeartbeats 8000000 in
set_option maxRecDepth 100000 in
theorem event_out (k n keep : Int) (hk : k < 0 ∨ 9 ≤ k) (A : Option Addr) (c0 : Nat) (l : List Int) (w : World) :
    Calls Tryd.prog 15 #[.agg #[.int .i64 k, .int .i64 n, .int .i64 keep, .slice A l.length c0]] w (EventPost k n keep l w) := by
  have HEO := Lib.hid (show eventO k n keep l = ([], 17) from if_pos hk)
  go_enter Tryd.func15, Tryd.ntmps15
  by_cases h : k < 0
  · clear hk
    go_wp2_with fail
    go_ret2
    refine ⟨?_, below_alloc (Below.refl _ _) _⟩
    rw [HEO.out]
    rfl
  · have h2 : (9 : Int) ≤ k := hk.elim (fun z => absurd z h) id
    have h3 : (0 : Int) ≤ k := by omega
    clear hk
    go_wp2_with fail
    go_ret2
    refine ⟨?_, below_alloc (Below.refl _ _) _⟩
    rw [HEO.out]
    rfl
theorem event_walk (k n keep : Int) (hn0 : -9223372036854775808 ≤ n) (hn1 : n ≤ 9223372036854775807) (hk0 : -9223372036854775808 ≤ keep) (hk1 : keep ≤ 9223372036854775807) (A : Option Addr) (c0 : Nat) (l : List Int) (hb : ∀ x ∈ l, 0 ≤ x ∧ x ≤ 255) (hl : l.length ≤ 1000000) (w : World) (hr : Kd.C (Kd.int .u8) w A l.length l) (hc : l.length ≤ c0) (hG : GlobT w) :
    Calls Tryd.prog 15 #[.agg #[.int .i64 k, .int .i64 n, .int .i64 keep, .slice A l.length c0]] w (EventPost k n keep l w) := by
  by_cases hk : k < 0 ∨ 9 ≤ k
  · exact event_out k n keep hk A c0 l w
  obtain ⟨i, rfl⟩ : ∃ i : Nat, k = (i : Int) := ⟨k.toNat, by omega⟩
  have hi : i < 9 := by omega
  obtain ⟨ks, fd, fc, fk, h⟩ : ∃ ks fd fc fk, kRows.getD i ([], false, false, false) = (ks, fd, fc, fk) := ⟨_, _, _, _, rfl⟩
  have key : ∀ j : Fin 9, (kRows.getD j.1 ([], false, false, false)).2 = (true, false, false) ∨ (kRows.getD j.1 ([], false, false, false)).2 = (false, false, false) ∨ (kRows.getD j.1 ([], false, false, false)).2 = (false, true, false) ∨ (kRows.getD j.1 ([], false, false, false)).2 = (false, true, true) ∨ (kRows.getD j.1 ([], false, false, false)).2 = (false, false, true) := by decide
  have hk2 := key ⟨i, hi⟩
  simp only at hk2
  rw [h] at hk2
  simp only [Prod.mk.injEq] at hk2
  rcases hk2 with ⟨rfl, rfl, rfl⟩ | ⟨rfl, rfl, rfl⟩ | ⟨rfl, rfl, rfl⟩ | ⟨rfl, rfl, rfl⟩ | ⟨rfl, rfl, rfl⟩
  · exact event_d i hi ks h n keep hn0 hn1 hk0 hk1 A c0 l hb hl w hr hc hG
  · exact event_z i hi ks h n keep hn0 hn1 hk0 hk1 A c0 l hb hl w hr hc hG
  · exact event_c i hi ks h n keep hn0 hn1 hk0 hk1 A c0 l hb hl w hr hc hG
  · exact event_ck i hi ks h n keep hn0 hn1 hk0 hk1 A c0 l hb hl w hr hc hG
  · exact event_k i hi ks h n keep hn0 hn1 hk0 hk1 A c0 l hb hl w hr hc hG
end Go.Proofs.YtoloooammaiipaaDoor
/- What a text's builder's WriteString writes at this program; conditions: as the walk's own. -/
namespace Go.Proofs.YtoloooammaiipaaDoor
open Go Go.RowKit
set_option linter.unusedVariables false
set_option maxHeartbeats 2000000 in
set_option maxRecDepth 100000 in
theorem write_text (B b : Nat) (bs : List Value) (s : ByteArray) (w : World) (h : Lib.IsBuilderF 59 5 B b bs w) (hlen : bs.length + s.size ≤ 140737488355328) (hBw : B ≤ w.heap.size) :
    Calls Tryd.prog 38 #[.pointer (some ⟨b, 0, none⟩), .string s] w fun e w' => e = .returned (.tuple #[.int .i64 s.size, .nilIface]) ∧ (Lib.BuilderAtF 59 5 B b (.pointer (some ⟨b, 0, none⟩)) (bs ++ Lib.strCells s) w' ∧ Below B w w' ∧ Lib.OthersKept 5 (some b) w w') := by
  obtain ⟨i0, hi, hz0, hz1, hz2⟩ := info_parts (show (Tryd.prog.info? 5).map (fun i => (i.zero, i.size, i.bytes)) = some (some (.int .u8 0), 1, 1) by kernel_rfl)
  go_enter Tryd.func38, Tryd.ntmps38
  go_wp2_with (go_at_call 43; refine (copy_k B b bs _ h).mono ?_)
  rintro e w1 ⟨rfl, h1, hb1, hk1⟩
  obtain ⟨hB, v, hbk, hown, hne⟩ := h1
  have c0 : w1.cell? ⟨b, 0, none⟩ = some (.pointer (some ⟨b, 0, none⟩)) := by rw [Lib.cell_of_heap hbk]; rfl
  have c1 : w1.cell? ⟨b, 1, none⟩ = some v := by rw [Lib.cell_of_heap hbk]; rfl
  go_wp2_with (at_builtin; refine Lib.wpList_append_own_stringF _ rfl _ _ 22 9 rfl B 5 i0 Tryd.underlying22 Tryd.underlying9 hi hz0 hz1 hz2 _ _ _ rfl hown s rfl ?c3 ?c4 ?c5 ?_)
  case c3 => unfold maxLen; omega
  case c4 => omega
  case c5 => have := hb1.size; omega
  intro v' w2 hown' hgrow _
  have hlt : b < w1.heap.size := by
    rcases Nat.lt_or_ge b w1.heap.size with h' | h'
    · exact h'
    · simp [Array.getElem?_eq_none h'] at hbk
  have hb2 : w2.heap[b]? = some (.cells #[.pointer (some ⟨b, 0, none⟩), v] 59 (0, 0)) := by
    rw [hgrow.block b hlt (fun e => hne e.symm)]
    exact hbk
  have d0 : w2.cell? ⟨b, 0, none⟩ = some (.pointer (some ⟨b, 0, none⟩)) := by rw [Lib.cell_of_heap hb2]; rfl
  have d1 : w2.cell? ⟨b, 1, none⟩ = some v := by rw [Lib.cell_of_heap hb2]; rfl
  have f1 : w2.frozen? ⟨b, 1, none⟩ = false := Lib.frozen_of_heap hb2 1
  obtain ⟨ao, n', cap, rfl⟩ : ∃ ao n' cap, v' = .slice ao n' cap := by
    rcases hown'.2 with ⟨hv, _⟩ | ⟨g, cap, cur, fz, hv, _⟩
    · exact ⟨_, _, _, hv⟩
    · exact ⟨_, _, _, hv⟩
  go_wp2
  go_ret2
  refine ⟨rfl, ?_, ?_, (hk1.grown hgrow (Lib.ownsRowF_kind hown)).setCell ⟨b, 1, none⟩ rfl _⟩
  · exact Lib.BuilderAtF.put (T := 59) (e := 5) hB hb2 (bs' := bs ++ Lib.strCells s) (by simpa [Lib.strCells_length] using hown') (by decide)
  · exact (hb1.grown hgrow (by have := hb1.size; omega) (fun k hk => (hown.lt k hk).1)).setCell (p := ⟨b, 1, none⟩) hB _
end Go.Proofs.YtoloooammaiipaaDoor
/- What trace.Format gives: a walk; conditions: steps of bytes, which weigh at most 100000; the tables lie as the program's text lays them. -/
namespace Go.Proofs.YtoloooammaiipaaDoor
open Go Go.RowKit Go.Proofs.YtoloooammaiipaaDoor.PI Go.Proofs.YtoloooammaiipaaDoorW.PrintWords Go.Proofs.YtoloooammaiipaaDoorW.PrintLast Go.Proofs.YtoloooammaiipaaDoorW.PrintMore
set_option linter.unusedVariables false
set_option linter.unusedSimpArgs false
abbrev Stp := S42
abbrev Oup := S56
def evO (x : Stp) : List UInt8 × Int := eventO x.f0.f0 x.f0.f1 x.f0.f2 x.f0.f3
/-- An output's line. -/
def outText (o : Oup) : List UInt8 := ((if o.f0 = true then [98, 97, 99, 107, 32] else [111, 110, 32]) ++ hexT o.f1) ++ [10]
def outsText (L : List Oup) : List UInt8 := L.flatMap outText
/-- A step's lines. -/
def stepText (x : Stp) : List UInt8 := ((evO x).1 ++ [10]) ++ (outsText x.f1 ++ (if x.f2 = true then [103, 111, 110, 101, 10] else []))
def fmtL (l : List Stp) : List UInt8 := l.flatMap stepText
/-- Steps' text, or why there is none. -/
def formatO (l : List Stp) : List UInt8 × Int := match l.find? (fun x => (evO x).2 != 0) with
  | some x => ([], (evO x).2)
  | none => (fmtL l, 0)
def OuOK (o : Oup) : Prop := ∀ c ∈ o.f1, 0 ≤ c ∧ c ≤ 255
def StOK (x : Stp) : Prop := (-9223372036854775808 ≤ x.f0.f1 ∧ x.f0.f1 ≤ 9223372036854775807) ∧ (-9223372036854775808 ≤ x.f0.f2 ∧ x.f0.f2 ≤ 9223372036854775807) ∧ (∀ c ∈ x.f0.f3, 0 ≤ c ∧ c ≤ 255) ∧ ∀ o ∈ x.f1, OuOK o
instance (x : Stp) : Decidable (StOK x) := by unfold StOK OuOK; infer_instance
def wtO (L : List Oup) : Nat := (L.map fun o => 1 + o.f1.length).sum
def wtS (x : Stp) : Nat := 1 + x.f0.f3.length + wtO x.f1
def wtL (l : List Stp) : Nat := (l.map wtS).sum
theorem evO_len (x : Stp) (h : StOK x) : (evO x).1.length ≤ 60 + 2 * x.f0.f3.length := by
  unfold evO eventO
  split
  · simp
  split
  · simp
  have h1 := itoa_size h.1.1 h.1.2
  have h2 := itoa_size h.2.1.1 h.2.1.2
  have h3 := hexT_len x.f0.f3
  rw [strOf_size] at h1 h2
  have h4 : (kRows.getD x.f0.f0.toNat ([], false, false, false)).1.length ≤ 8 := by
    by_cases hk : x.f0.f0.toNat < 9
    · exact row_len (i := x.f0.f0.toNat) rfl hk
    · rw [List.getD_eq_getElem?_getD, List.getElem?_eq_none (by show 9 ≤ _; omega)]
      exact Nat.zero_le _
  unfold evText
  simp only [List.length_append]
  split <;> split <;> split <;> simp only [List.length_cons, List.length_nil] <;> omega
theorem outText_len (o : Oup) : (outText o).length ≤ 10 * (1 + o.f1.length) := by
  have h3 := hexT_len o.f1
  unfold outText
  simp only [List.length_append]
  split <;> simp only [List.length_cons, List.length_nil] <;> omega
theorem outsText_len (L : List Oup) : (outsText L).length ≤ 10 * wtO L := by
  induction L with
  | nil => exact Nat.zero_le _
  | cons o r ih =>
    have e1 : outsText (o :: r) = outText o ++ outsText r := by simp [outsText]
    have e2 : wtO (o :: r) = (1 + o.f1.length) + wtO r := by simp [wtO]
    have := outText_len o
    rw [e1, e2, List.length_append]
    omega
theorem stepText_len (x : Stp) (h : StOK x) : (stepText x).length ≤ 100 * wtS x := by
  have h1 := evO_len x h
  have h2 := outsText_len x.f1
  unfold stepText wtS
  simp only [List.length_append]
  split <;> simp only [List.length_cons, List.length_nil] <;> omega
theorem fmtL_len (l : List Stp) (h : ∀ x ∈ l, StOK x) : (fmtL l).length ≤ 100 * wtL l := by
  induction l with
  | nil => exact Nat.zero_le _
  | cons x r ih =>
    have e1 : fmtL (x :: r) = stepText x ++ fmtL r := by simp [fmtL]
    have e2 : wtL (x :: r) = wtS x + wtL r := by simp [wtL]
    have h1 := stepText_len x (h x List.mem_cons_self)
    have h2 := ih (fun y hy => h y (List.mem_cons_of_mem _ hy))
    rw [e1, e2, List.length_append]
    omega
theorem fmtL_take (l : List Stp) (i : Nat) (h : i < l.length) : fmtL (l.take (i + 1)) = fmtL (l.take i) ++ stepText (l[i]'h) := by
  rw [List.take_succ_eq_append_getElem h]
  unfold fmtL
  rw [List.flatMap_append, List.flatMap_singleton]
theorem outsText_take (l : List Oup) (i : Nat) (h : i < l.length) : outsText (l.take (i + 1)) = outsText (l.take i) ++ outText (l[i]'h) := by
  rw [List.take_succ_eq_append_getElem h]
  unfold outsText
  rw [List.flatMap_append, List.flatMap_singleton]
theorem wtL_mem {l : List Stp} {x : Stp} (h : x ∈ l) : wtS x ≤ wtL l := by
  induction l with
  | nil => cases h
  | cons y r ih =>
    have e2 : wtL (y :: r) = wtS y + wtL r := by simp [wtL]
    rcases List.mem_cons.1 h with rfl | h
    · omega
    · have := ih h; omega
theorem wtO_mem {l : List Oup} {x : Oup} (h : x ∈ l) : 1 + x.f1.length ≤ wtO l := by
  induction l with
  | nil => cases h
  | cons y r ih =>
    have e2 : wtO (y :: r) = (1 + y.f1.length) + wtO r := by simp [wtO]
    rcases List.mem_cons.1 h with rfl | h
    · omega
    · have := ih h; omega
theorem wtL_len (l : List Stp) : l.length ≤ wtL l := by
  induction l with
  | nil => exact Nat.zero_le _
  | cons y r ih =>
    have e2 : wtL (y :: r) = wtS y + wtL r := by simp [wtL]
    have e3 : 1 ≤ wtS y := by unfold wtS; omega
    rw [List.length_cons]
    omega
theorem wtO_len (l : List Oup) : l.length ≤ wtO l := by
  induction l with
  | nil => exact Nat.zero_le _
  | cons y r ih =>
    have e2 : wtO (y :: r) = (1 + y.f1.length) + wtO r := by simp [wtO]
    rw [List.length_cons]
    omega
theorem wtL_take_le (l : List Stp) (i : Nat) : wtL (l.take i) ≤ wtL l := by
  have h : wtL l = wtL (l.take i) + wtL (l.drop i) := by
    unfold wtL
    rw [← List.sum_append, ← List.map_append, List.take_append_drop]
  omega
theorem format_bad {l : List Stp} {i : Nat} (hi : i < l.length) (hno : ∀ j, (h : j < i) → (evO (l[j]'(by omega))).2 = 0) (h : (evO (l[i]'hi)).2 ≠ 0) : formatO l = ([], (evO (l[i]'hi)).2) := by
  have e : l.find? (fun x => (evO x).2 != 0) = some (l[i]'hi) := by
    rw [List.find?_eq_some_iff_getElem]
    refine ⟨by simpa using h, i, hi, rfl, fun j hj => ?_⟩
    have := hno j hj
    simp [this]
  unfold formatO
  rw [e]
theorem format_good {l : List Stp} (hno : ∀ j, (h : j < l.length) → (evO (l[j]'h)).2 = 0) : formatO l = (fmtL l, 0) := by
  have e : l.find? (fun x => (evO x).2 != 0) = none := by
    rw [List.find?_eq_none]
    intro x hx
    obtain ⟨j, hj, rfl⟩ := List.mem_iff_getElem.1 hx
    simp [hno j hj]
  unfold formatO
  rw [e]
theorem cells_text (l : List UInt8) (s : ByteArray) : Lib.byteCells l ++ Lib.strCells s = Lib.byteCells (l ++ s.data.toList) := by rw [Lib.byteCells_append]; rfl
def FmtPost (l : List Stp) (w : World) (e : Ending) (w' : World) : Prop := e = .returned (.tuple #[.string (strOf (formatO l).1), .int .i64 (formatO l).2]) ∧ Below w.heap.size w w'
theorem step_split (x : Stp) : stepText x = ((evO x).1 ++ [10]) ++ (outsText x.f1 ++ (if x.f2 = true then [103, 111, 110, 101, 10] else [])) := rfl
theorem rd_step {l : List Stp} {i : Nat} (h : i < l.length) : rd_T42 l (i : Int) = l[i]'h := by
  unfold rd_T42
  rw [Int.toNat_natCast, List.getD_eq_getElem?_getD, List.getElem?_eq_getElem h]
  rfl
theorem rd_out {l : List Oup} {i : Nat} (h : i < l.length) : rd_T56 l (i : Int) = l[i]'h := by
  unfold rd_T56
  rw [Int.toNat_natCast, List.getD_eq_getElem?_getD, List.getElem?_eq_getElem h]
  rfl
/-- A builder of some bytes. -/
abbrev Bl (b : Nat) (l : List UInt8) (w : World) : Prop := Lib.IsBuilderF 59 5 b b (Lib.byteCells l) w
theorem write_in {b : Nat} {l : List UInt8} {s : ByteArray} {w : World} (h : Bl b l w) (hl : l.length + s.size ≤ 100000000) (hB : b ≤ w.heap.size) :
    Calls Tryd.prog 38 #[.pointer (some ⟨b, 0, none⟩), .string s] w fun e w' => e = .returned (.tuple #[.int .i64 s.size, .nilIface]) ∧ Bl b (l ++ s.data.toList) w' ∧ Below b w w' ∧ Lib.OthersKept 5 (some b) w w' := by
  refine (write_text b b (Lib.byteCells l) s w h (by rw [Lib.byteCells_length]; omega) hB).mono ?_
  rintro e w' ⟨rfl, h1, h2, h3⟩
  rw [cells_text] at h1
  exact ⟨rfl, Or.inr h1, h2, h3⟩
set_option maxHeartbeats 16000000 in
set_option maxRecDepth 100000 in
theorem format_walk (A : Option Addr) (c0 : Nat) (l : List Stp) (w : World) (hr : Kd.C k42 w A l.length l) (hc : l.length ≤ c0) (hok : ∀ x ∈ l, StOK x) (hw : wtL l ≤ 100000) (hG : GlobT w) :
    Calls Tryd.prog 21 #[.slice A l.length c0] w (FmtPost l w) := by
  have HR := Lib.hid hr
  have HOK := Lib.hid hok
  have HW := Lib.hid hw
  have HG := Lib.hid hG
  have HLL := Lib.hid (Nat.le_trans (wtL_len l) hw)
  clear hr hok hw hG
  go_enter Tryd.func21, Tryd.ntmps21
  go_wp2_with fail
  obtain ⟨b, hb⟩ : ∃ b, b = w.heap.size := ⟨_, rfl⟩
  have HBB := Lib.hid hb
  rw [← hb]
  clear hb
  go_loopw [14] (fun vi wr => ∃ i : Nat, vi = .int .i64 i ∧ i ≤ l.length ∧ Hid (Bl b (fmtL (l.take i)) wr ∧ Below b w wr ∧ (∀ j, j < i → (h : j < l.length) → (evO (l[j]'h)).2 = 0))) (fun vi _ => l.length - (intOf vi).toNat)
  case atStart => exact ⟨0, rfl, by omega, Lib.hid ⟨HBB.out ▸ Lib.IsBuilderF.of (Lib.fresh_isBuilder 59 5 w), HBB.out ▸ (Below.refl _ w).alloc (Nat.le_refl _) _, fun j hj => absurd hj (Nat.not_lt_zero j)⟩⟩
  case round =>
    obtain ⟨i, rfl, hi, hh⟩ := hrel
    obtain ⟨hbl, hbw, hno⟩ := hh.out
    have HBL := Lib.hid hbl
    have HBLr := Lib.hid (show b < wr.heap.size from hbl.elim Lib.BuilderAtF.lt Lib.BuilderAtF.lt)
    have HBW := Lib.hid hbw
    have HNO := Lib.hid hno
    clear hh hbl hbw hno
    by_cases hin : i < l.length
    · have i0 : (0 : Int) ≤ (i : Int) := by omega
      have i1 : (i : Int) < (l.length : Int) := by omega
      obtain ⟨ad, A3, c3, A4, c4, rfl, q0, q1, q2, q3, q4, q5, hc3, hC3, hc4, hC4⟩ := at_T42 HR.out (i : Int) i0 i1
      have up : ∀ {p : Addr} {v : Value}, w.cell? p = some v → wr.cell? p = some v := fun {p v} h => ((show Below w.heap.size w wr from HBB.out ▸ HBW.out).cell (World.block_lt_of_cell? w p h)).trans h
      replace q0 := up q0
      replace q1 := up q1
      replace q2 := up q2
      replace q3 := up q3
      replace q4 := up q4
      replace q5 := up q5
      clear up
      rw [rd_step hin] at q0 q1 q2 q3 q4 q5 hc3 hC3 hc4 hC4
      simp only [Int.toNat_natCast] at q0 q1 q2 q3 q4 q5
      have hokx := HOK.out _ (List.getElem_mem hin)
      have hwx := wtL_mem (List.getElem_mem hin)
      have htk := fmtL_take l i hin
      have hlt := fmtL_len (l.take (i + 1)) (fun y hy => HOK.out y (List.mem_of_mem_take hy))
      have hlt2 := wtL_take_le l (i + 1)
      have hgd := fun (h : (evO (l[i]'hin)).2 = 0) => (fun j (hj : j < i + 1) (hjl : j < l.length) => (show (evO (l[j]'hjl)).2 = 0 from by
        rcases Nat.lt_succ_iff_lt_or_eq.1 hj with hj | rfl
        · exact HNO.out j hj hjl
        · exact h))
      have hbad := fun (h : (evO (l[i]'hin)).2 ≠ 0) => format_bad hin (fun j hj => HNO.out j hj (by omega)) h
      obtain ⟨x, hx⟩ : ∃ x, x = l[i]'hin := ⟨_, rfl⟩
      rw [← hx] at q0 q1 q2 q3 q4 q5 hc3 hC3 hc4 hC4 hokx hwx htk hgd hbad
      obtain ⟨⟨k0, k1, k2, d⟩, os, cr⟩ := x
      simp only at q0 q1 q2 q3 q4 q5 hc3 hC3 hc4 hC4
      have HOKX := Lib.hid hokx
      have HWX := Lib.hid (show wtS ⟨⟨k0, k1, k2, d⟩, os, cr⟩ ≤ 100000 from Nat.le_trans hwx HW.out)
      have HTK := Lib.hid htk
      have HLT := Lib.hid (show (fmtL (l.take (i + 1))).length ≤ 10000000 from by have := HW.out; omega)
      have HGD := Lib.hid hgd
      have HBAD := Lib.hid hbad
      have HC3 := Lib.hid (And.intro hc3 hC3)
      have HC4 := Lib.hid (And.intro hc4 hC4)
      have BI := Lib.hid (hnext hin (by have := HLL.out; omega))
      clear hokx hwx htk hlt hlt2 hgd hbad hc3 hC3 hc4 hC4 hx
      go_wp2_with fail
      have HX := Lib.hid (blk_new wr (.cells #[.int .i64 k0, .int .i64 k1, .int .i64 k2, .slice A3 d.length c3, .slice A4 os.length c4, .bool cr] 42 (0, 0)))
      have HBL := Lib.hid (Lib.IsBuilderF.alloc HBL.out (.cells #[.int .i64 k0, .int .i64 k1, .int .i64 k2, .slice A3 d.length c3, .slice A4 os.length c4, .bool cr] 42 (0, 0)))
      have hbs := HBW.out.size
      have HB1 := Lib.hid (HBW.out.alloc (by have := HBB.out; omega) (.cells #[.int .i64 k0, .int .i64 k1, .int .i64 k2, .slice A3 d.length c3, .slice A4 os.length c4, .bool cr] 42 (0, 0)))
      have HGX := Lib.hid (show b < wr.heap.size from HBLr.out)
      clear q0 q1 q2 q3 q4 q5 hbs HBW
      generalize wr.alloc (.cells #[.int .i64 k0, .int .i64 k1, .int .i64 k2, .slice A3 d.length c3, .slice A4 os.length c4, .bool cr] 42) = w1 at HX HBL HB1 ⊢
      generalize wr.heap.size = gx at HX HGX ⊢
      refine (event_walk k0 k1 k2 HOKX.out.1.1 HOKX.out.1.2 HOKX.out.2.1.1 HOKX.out.2.1.2 A3 c3 d HOKX.out.2.2.1 (by have := HWX.out; unfold wtS at this; simp only at this; omega) w1 (Kd.C_below HC3.out.2 (HBB.out ▸ HB1.out)) HC3.out.1 (globt_below HG.out (HBB.out ▸ HB1.out))).mono ?_
      rintro e w2 ⟨rfl, hb2⟩
      have HXb := Lib.hid (blk_below HX.out hb2)
      have HBLb := Lib.hid (Lib.IsBuilderF.below HBL.out hb2)
      have HB2 := Lib.hid (HB1.out.trans (hb2.mono (by have := blk_lt HX.out; have := HGX.out; omega)))
      clear hb2 HX HBL HB1
      obtain ⟨et, er, het⟩ : ∃ et er, eventO k0 k1 k2 d = (et, er) := ⟨_, _, rfl⟩
      rw [het]
      have HET := Lib.hid het
      have hel := evO_len ⟨⟨k0, k1, k2, d⟩, os, cr⟩ HOKX.out
      have HEL := Lib.hid (show et.length ≤ 1000000 from by
        have h1 := hel
        have h2 := HWX.out
        unfold evO at h1
        unfold wtS at h2
        simp only at h1 h2
        rw [het] at h1
        simp only at h1
        omega)
      clear het hel
      have hst0 := strOf_size et
      have a1 : (9223372036854775807 < (strOf et).size + 1) = False := eq_false (by have := HEL.out; omega)
      have a2 : (strOf et).size + 1 ≤ 9223372036854775807 := by have := HEL.out; omega
      by_cases her : er = 0
      · subst her
        obtain ⟨sx, hsx⟩ : ∃ sx, sx = strOf et := ⟨_, rfl⟩
        rw [← hsx] at a1 a2 hst0 ⊢
        have HSX := Lib.hid hsx
        clear hsx
        go_wp2_with fail
        obtain ⟨pre, hpre⟩ : ∃ pre, pre = fmtL (l.take i) ++ (et ++ [10]) := ⟨_, rfl⟩
        have hsd : (sx ++ (⟨#[10]⟩ : ByteArray)).data.toList = et ++ [10] := by rw [ByteArray.data_append, Array.toList_append, HSX.out, strOf_data]
        have hpl : pre.length + (outsText os).length + 5 ≤ 20000000 := by
          have h1 := HLT.out
          rw [HTK.out, step_split] at h1
          have e1 : (evO ⟨⟨k0, k1, k2, d⟩, os, cr⟩).1 = et := by unfold evO; rw [HET.out]
          rw [e1] at h1
          rw [hpre]
          simp only [List.length_append] at h1 ⊢
          omega
        have HPL := Lib.hid hpl
        have HHG := Lib.hid (HGD.out (by unfold evO; rw [HET.out]))
        refine (write_in HBLb.out (by have h1 := hpl; rw [hpre] at h1; simp only [List.length_append, List.length_cons, List.length_nil] at h1; rw [ByteArray.size_append]; show _ + (sx.size + 1) ≤ _; omega) (Nat.le_trans (by have := HBB.out; omega) HB2.out.size)).mono ?_
        rintro e w3 ⟨rfl, hbl3, hb3, hk3⟩
        rw [hsd, ← hpre] at hbl3
        have HPRE := Lib.hid hpre
        have HBL3 := Lib.hid hbl3
        have HB3 := Lib.hid (HB2.out.trans hb3)
        have HX3 := Lib.hid (hk3 gx _ HXb.out (fun h => by have := HGX.out; have := Option.some.inj h; omega) (fun c fz h => by injection h with _ h2 _; exact absurd h2 (by decide)))
        clear hpre hsd hpl hbl3 hb3 hk3 HXb HBLb HB2 a1 a2 hst0
        have x4 := cell_of_cells HX3.out 4
        simp only [List.getElem?_toArray, List.getElem?_cons_zero, List.getElem?_cons_succ] at x4
        go_wp2_with fail
        clear x4
        go_loopw [33] (fun vj wj => ∃ j : Nat, vj = .int .i64 j ∧ j ≤ os.length ∧ Hid (Bl b (pre ++ outsText (os.take j)) wj ∧ Below b w wj ∧ wj.heap[gx]? = some (.cells #[.int .i64 k0, .int .i64 k1, .int .i64 k2, .slice A3 d.length c3, .slice A4 os.length c4, .bool cr] 42 (0, 0)))) (fun vj _ => os.length - (intOf vj).toNat)
        case atStart => exact ⟨0, rfl, by omega, Lib.hid ⟨by rw [List.take_zero]; show Bl b (pre ++ []) _; rw [List.append_nil]; exact HBL3.out, HB3.out, HX3.out⟩⟩
        case round =>
          obtain ⟨j, rfl, hj, hh⟩ := hrel
          obtain ⟨hblj, hbj, hxj⟩ := hh.out
          have HBLJ := Lib.hid hblj
          have HBJ := Lib.hid hbj
          have HXJ := Lib.hid hxj
          clear hh hblj hbj hxj
          by_cases hjn : j < os.length
          · have j0 : (0 : Int) ≤ (j : Int) := by omega
            have j1 : (j : Int) < (os.length : Int) := by omega
            obtain ⟨ad2, A1, c1, rfl, p0, p1, hc1, hC1⟩ := at_T56 HC4.out.2 (j : Int) j0 j1
            have up : ∀ {p : Addr} {v : Value}, w.cell? p = some v → wr.cell? p = some v := fun {p v} h => ((show Below w.heap.size w wr from HBB.out ▸ HBJ.out).cell (World.block_lt_of_cell? w p h)).trans h
            replace p0 := up p0
            replace p1 := up p1
            clear up
            rw [rd_out hjn] at p0 p1 hc1 hC1
            simp only [Int.toNat_natCast] at p0 p1
            have hoo := HOKX.out.2.2.2 _ (List.getElem_mem hjn)
            have hwo := wtO_mem (List.getElem_mem hjn)
            have hot := outsText_take os j hjn
            have hol : (outsText (os.take (j + 1))).length ≤ (outsText os).length := by
              have e : outsText os = outsText (os.take (j + 1)) ++ outsText (os.drop (j + 1)) := by
                unfold outsText
                rw [← List.flatMap_append, List.take_append_drop]
              rw [e, List.length_append]
              omega
            obtain ⟨o, ho⟩ : ∃ o, o = os[j]'hjn := ⟨_, rfl⟩
            rw [← ho] at p0 p1 hc1 hC1 hoo hwo hot
            obtain ⟨ob, od⟩ := o
            simp only at p0 p1 hc1 hC1 hoo hwo
            have HOO := Lib.hid hoo
            have HOT := Lib.hid hot
            have HOL := Lib.hid hol
            have HWO := Lib.hid (show od.length ≤ 100000 from by have h1 := HWX.out; unfold wtS at h1; simp only at h1; omega)
            have HC1 := Lib.hid (And.intro hc1 hC1)
            have BJ := Lib.hid (hnext hjn (by have h1 := HWX.out; have h2 := wtO_len os; unfold wtS at h1; simp only at h1; omega))
            clear hoo hwo hot hol hc1 hC1 ho
            cases ob with
            | true =>
              go_wp2_with fail
              have HBLY := Lib.hid (Lib.IsBuilderF.alloc HBLJ.out (.cells #[.bool true, .slice A1 od.length c1] 56 (0, 0)))
              have hsz := HBJ.out.size
              have HBY := Lib.hid (HBJ.out.alloc (by have := HBB.out; omega) (.cells #[.bool true, .slice A1 od.length c1] 56 (0, 0)))
              have HXY := Lib.hid (blk_alloc HXJ.out (.cells #[.bool true, .slice A1 od.length c1] 56 (0, 0)))
              clear p0 p1 HBLJ HBJ HXJ hsz
              generalize wr.alloc (.cells #[.bool true, .slice A1 od.length c1] 56) = wy at HBLY HBY HXY ⊢
              refine (hex_walk A1 c1 od HOO.out (by have := HWO.out; omega) wy (Kd.C_below HC1.out.2 (HBB.out ▸ HBY.out)) HC1.out.1).mono ?_
              rintro e wz ⟨rfl, hbz⟩
              have HBLZ := Lib.hid (Lib.IsBuilderF.below HBLY.out hbz)
              have HXZ := Lib.hid (blk_below HXY.out hbz)
              have HBZ := Lib.hid (HBY.out.trans (hbz.mono (by have := blk_lt HXY.out; have := HGX.out; omega)))
              clear HBLY HXY HBY hbz
              obtain ⟨hx, hhx⟩ : ∃ hx, hx = strOf (hexT od) := ⟨_, rfl⟩
              rw [← hhx]
              have hxs : hx.size ≤ 200001 := by rw [hhx, strOf_size]; have := hexT_len od; have := HWO.out; omega
              have s1 : (9223372036854775807 < 5 + hx.size) = False := eq_false (by omega)
              have s2 : 5 + hx.size ≤ 9223372036854775807 := by omega
              have s3 : (9223372036854775807 < 5 + hx.size + 1) = False := eq_false (by omega)
              have s4 : 5 + hx.size + 1 ≤ 9223372036854775807 := by omega
              have hdt : (((⟨#[98, 97, 99, 107, 32]⟩ : ByteArray) ++ hx) ++ (⟨#[10]⟩ : ByteArray)).data.toList = outText ⟨true, od⟩ := by
                rw [ByteArray.data_append, Array.toList_append, ByteArray.data_append, Array.toList_append, hhx, strOf_data]
                rfl
              have hds : (((⟨#[98, 97, 99, 107, 32]⟩ : ByteArray) ++ hx) ++ (⟨#[10]⟩ : ByteArray)).size = (outText ⟨true, od⟩).length := by rw [← len_size, hdt]
              have HDT := Lib.hid hdt
              have HDS := Lib.hid hds
              clear hhx hdt hds
              go_wp2_with fail
              refine (write_in HBLZ.out (by
                have h1 := HOL.out
                have h2 := HPL.out
                rw [HOT.out, List.length_append] at h1
                have h3 := HDS.out
                rw [List.length_append]
                omega) (Nat.le_trans (by have := HBB.out; omega) HBZ.out.size)).mono ?_
              rintro e w6 ⟨rfl, hbl6, hb6, hk6⟩
              rw [HDT.out, List.append_assoc, ← HOT.out] at hbl6
              have HBL6 := Lib.hid hbl6
              have HB6 := Lib.hid (HBZ.out.trans hb6)
              have HX6 := Lib.hid (hk6 gx _ HXZ.out (fun h => by have := HGX.out; have := Option.some.inj h; omega) (fun c fz h => by injection h with _ h2 _; exact absurd h2 (by decide)))
              clear hbl6 hb6 hk6 s1 s2 s3 s4 hxs
              go_wp2_with fail
              exact ⟨⟨j + 1, by first | rfl | exact congrArg _ BJ.out, hjn, Lib.hid ⟨HBL6.out, HB6.out, HX6.out⟩⟩, by first | exact hmeas hjn BJ.out | exact hmeas hjn rfl⟩
            | false =>
              go_wp2_with fail
              have HBLY := Lib.hid (Lib.IsBuilderF.alloc HBLJ.out (.cells #[.bool false, .slice A1 od.length c1] 56 (0, 0)))
              have hsz := HBJ.out.size
              have HBY := Lib.hid (HBJ.out.alloc (by have := HBB.out; omega) (.cells #[.bool false, .slice A1 od.length c1] 56 (0, 0)))
              have HXY := Lib.hid (blk_alloc HXJ.out (.cells #[.bool false, .slice A1 od.length c1] 56 (0, 0)))
              clear p0 p1 HBLJ HBJ HXJ hsz
              generalize wr.alloc (.cells #[.bool false, .slice A1 od.length c1] 56) = wy at HBLY HBY HXY ⊢
              refine (hex_walk A1 c1 od HOO.out (by have := HWO.out; omega) wy (Kd.C_below HC1.out.2 (HBB.out ▸ HBY.out)) HC1.out.1).mono ?_
              rintro e wz ⟨rfl, hbz⟩
              have HBLZ := Lib.hid (Lib.IsBuilderF.below HBLY.out hbz)
              have HXZ := Lib.hid (blk_below HXY.out hbz)
              have HBZ := Lib.hid (HBY.out.trans (hbz.mono (by have := blk_lt HXY.out; have := HGX.out; omega)))
              clear HBLY HXY HBY hbz
              obtain ⟨hx, hhx⟩ : ∃ hx, hx = strOf (hexT od) := ⟨_, rfl⟩
              rw [← hhx]
              have hxs : hx.size ≤ 200001 := by rw [hhx, strOf_size]; have := hexT_len od; have := HWO.out; omega
              have s1 : (9223372036854775807 < 3 + hx.size) = False := eq_false (by omega)
              have s2 : 3 + hx.size ≤ 9223372036854775807 := by omega
              have s3 : (9223372036854775807 < 3 + hx.size + 1) = False := eq_false (by omega)
              have s4 : 3 + hx.size + 1 ≤ 9223372036854775807 := by omega
              have hdt : (((⟨#[111, 110, 32]⟩ : ByteArray) ++ hx) ++ (⟨#[10]⟩ : ByteArray)).data.toList = outText ⟨false, od⟩ := by
                rw [ByteArray.data_append, Array.toList_append, ByteArray.data_append, Array.toList_append, hhx, strOf_data]
                rfl
              have hds : (((⟨#[111, 110, 32]⟩ : ByteArray) ++ hx) ++ (⟨#[10]⟩ : ByteArray)).size = (outText ⟨false, od⟩).length := by rw [← len_size, hdt]
              have HDT := Lib.hid hdt
              have HDS := Lib.hid hds
              clear hhx hdt hds
              go_wp2_with fail
              refine (write_in HBLZ.out (by
                have h1 := HOL.out
                have h2 := HPL.out
                rw [HOT.out, List.length_append] at h1
                have h3 := HDS.out
                rw [List.length_append]
                omega) (Nat.le_trans (by have := HBB.out; omega) HBZ.out.size)).mono ?_
              rintro e w6 ⟨rfl, hbl6, hb6, hk6⟩
              rw [HDT.out, List.append_assoc, ← HOT.out] at hbl6
              have HBL6 := Lib.hid hbl6
              have HB6 := Lib.hid (HBZ.out.trans hb6)
              have HX6 := Lib.hid (hk6 gx _ HXZ.out (fun h => by have := HGX.out; have := Option.some.inj h; omega) (fun c fz h => by injection h with _ h2 _; exact absurd h2 (by decide)))
              clear hbl6 hb6 hk6 s1 s2 s3 s4 hxs
              go_wp2_with fail
              exact ⟨⟨j + 1, by first | rfl | exact congrArg _ BJ.out, hjn, Lib.hid ⟨HBL6.out, HB6.out, HX6.out⟩⟩, by first | exact hmeas hjn BJ.out | exact hmeas hjn rfl⟩
          · obtain rfl : j = os.length := by omega
            have hbl := HBLJ.out
            rw [List.take_length] at hbl
            have x5 := cell_of_cells HXJ.out 5
            simp only [List.getElem?_toArray, List.getElem?_cons_zero, List.getElem?_cons_succ] at x5
            have hev : (evO ⟨⟨k0, k1, k2, d⟩, os, cr⟩).1 = et := by unfold evO; rw [HET.out]
            have HBQ := Lib.hid hbl
            have HEV := Lib.hid hev
            clear hbl hev HBLJ
            cases cr with
            | true =>
              go_wp2_with fail
              refine (write_in HBQ.out (by have h2 := HPL.out; rw [List.length_append]; show _ + 5 ≤ _; omega) (Nat.le_trans (by have := HBB.out; omega) HBJ.out.size)).mono ?_
              rintro e w6 ⟨rfl, hbl6, hb6, hk6⟩
              have hfin : Bl b (fmtL (l.take (i + 1))) w6 := by
                rw [HTK.out, step_split, HEV.out, ← List.append_assoc, ← HPRE.out, ← List.append_assoc]
                exact hbl6
              have HFIN := Lib.hid hfin
              have HB6 := Lib.hid (HBJ.out.trans hb6)
              clear hbl6 hb6 hk6 hfin x5
              go_wp2_with fail
              exact ⟨⟨i + 1, by first | rfl | exact congrArg _ BI.out, hin, Lib.hid ⟨HFIN.out, HB6.out, HHG.out⟩⟩, by first | exact hmeas hin BI.out | exact hmeas hin rfl⟩
            | false =>
              have hfin : Bl b (fmtL (l.take (i + 1))) wr := by
                rw [HTK.out, step_split, HEV.out, ← List.append_assoc, ← HPRE.out]
                show Bl b (pre ++ (outsText os ++ [])) wr
                rw [List.append_nil]
                exact HBQ.out
              have HFIN := Lib.hid hfin
              clear hfin
              go_wp2_with fail
              exact ⟨⟨i + 1, by first | rfl | exact congrArg _ BI.out, hin, Lib.hid ⟨HFIN.out, HBJ.out, HHG.out⟩⟩, by first | exact hmeas hin BI.out | exact hmeas hin rfl⟩
      · have hb0 : (er == 0) = false := beq_eq_false_iff_ne.2 her
        have hb1 : (er != 0) = true := bne_iff_ne.2 her
        have HFO := Lib.hid (HBAD.out (by unfold evO; rw [HET.out]; exact her))
        go_wp2_with fail
        go_ret2
        refine ⟨?_, HBB.out ▸ HB2.out⟩
        rw [HFO.out]
        unfold evO
        rw [HET.out]
        rfl
    · obtain rfl : i = l.length := by omega
      have hbl := HBL.out
      rw [List.take_length] at hbl
      have hgood := format_good (l := l) (fun j hj => HNO.out j hj hj)
      have HGOOD := Lib.hid hgood
      clear hgood
      go_wp2_with fail
      refine (Tryd.Builder_String_any_k b b (fmtL l) _ hbl (Nat.le_trans (by have := HBB.out; omega) HBW.out.size)).mono ?_
      rintro e w3 ⟨rfl, _, hb3, _⟩
      have HB3 := Lib.hid (HBW.out.trans hb3)
      clear hbl hb3
      go_wp2_with fail
      go_ret2
      refine ⟨?_, HBB.out ▸ HB3.out⟩
      rw [HGOOD.out]
      rfl
end Go.Proofs.YtoloooammaiipaaDoor
-- Written by a program of this work (the kit's print, with contracts of this work's own taken in) out of the translation. Not trusted: Lean checks it.
namespace Go.Proofs.YtoloooammaiipaaDoor.PL
open Go.Proofs.YtoloooammaiipaaDoor.PI (S29 z29 k29 k29_open k29_openM k29_mk k29_mkM k29_openF k29_mkF rd_T29 at_T29 S56 z56 k56 k56_open k56_openM k56_mk k56_mkM k56_openF k56_mkF rd_T56 at_T56 S42 z42 k42 k42_open k42_openM k42_mk k42_mkM k42_openF k42_mkF rd_T42 at_T42)
open Go.RowKit Go.Proofs.YtoloooammaiipaaDoorW.PrintWords Go.Proofs.YtoloooammaiipaaDoorW.PrintLast Go.Proofs.YtoloooammaiipaaDoorW.PrintMore
attribute [local go_sem] max2_int min2_int max_two min_two max_three min_three max_four min_four   -- for this text's walks alone
set_option linter.unusedVariables false
set_option linter.unusedSimpArgs false

/-! ### trace_Format: function 21 -/
def trace_Format.f (l0 : List (S42)) : Option (ByteArray × Int) := if (∀ x ∈ l0, StOK x) ∧ wtL l0 ≤ 100000 then some (strOf (formatO l0).1, (formatO l0).2) else none
theorem trace_Format.calls (A0 : Option Addr) (c0 : Nat) (l0 : List (S42)) (r1 : ByteArray) (r2 : Int) (w : World) (hr0 : Kd.C k42 w A0 l0.length l0) (hc0 : l0.length ≤ c0) (h : trace_Format.f l0 = some (r1, r2)) (hGT : GlobT w) :
    Calls Tryd.prog 21 #[.slice A0 l0.length c0] w fun e w' => e = .returned (.tuple #[.string r1, .int .i64 r2]) ∧ Below w.heap.size w w' := by
  unfold trace_Format.f at h
  split at h
  · rename_i hq
    have h5 := Option.some.inj h
    simp only [Prod.mk.injEq] at h5
    obtain ⟨rfl, rfl⟩ := h5
    exact format_walk A0 c0 l0 w hr0 hc0 hq.1 hq.2 hGT
  · cases h


end Go.Proofs.YtoloooammaiipaaDoor.PL
-- Written by a program of this work (the kit's print, with contracts of this work's own taken in) out of the translation. Not trusted: Lean checks it.
namespace Go.Proofs.YtoloooammaiipaaDoor.PL
open Go.Proofs.YtoloooammaiipaaDoor.PI (S29 z29 k29 k29_open k29_openM k29_mk k29_mkM k29_openF k29_mkF rd_T29 at_T29 S56 z56 k56 k56_open k56_openM k56_mk k56_mkM k56_openF k56_mkF rd_T56 at_T56 S42 z42 k42 k42_open k42_openM k42_mk k42_mkM k42_openF k42_mkF rd_T42 at_T42)
open Go.RowKit Go.Proofs.YtoloooammaiipaaDoorW.PrintWords Go.Proofs.YtoloooammaiipaaDoorW.PrintLast Go.Proofs.YtoloooammaiipaaDoorW.PrintMore
attribute [local go_sem] max2_int min2_int max_two min_two max_three min_three max_four min_four   -- for this text's walks alone
set_option linter.unusedVariables false
set_option linter.unusedSimpArgs false

/-! ### lamplighterlaw19_alive: function 10 -/
def lamplighterlaw19_alive.f : Option (Bool) := some true
theorem lamplighterlaw19_alive.calls (r : Bool) (w : World) (h : lamplighterlaw19_alive.f = some r) (hGT : GlobT w) :
    Calls Tryd.prog 10 #[] w fun e w' => e = .returned (.bool r) ∧ Below w.heap.size w w' := by
  obtain rfl := Option.some.inj h
  exact alive_walk w hGT


end Go.Proofs.YtoloooammaiipaaDoor.PL
-- Written by a program of this work (the kit's print, with contracts of this work's own taken in) out of the translation. Not trusted: Lean checks it.
namespace Go.Proofs.YtoloooammaiipaaDoor.PL
open Go.Proofs.YtoloooammaiipaaDoor.PI (S29 z29 k29 k29_open k29_openM k29_mk k29_mkM k29_openF k29_mkF rd_T29 at_T29 S56 z56 k56 k56_open k56_openM k56_mk k56_mkM k56_openF k56_mkF rd_T56 at_T56 S42 z42 k42 k42_open k42_openM k42_mk k42_mkM k42_openF k42_mkF rd_T42 at_T42)
open Go.RowKit Go.Proofs.YtoloooammaiipaaDoorW.PrintWords Go.Proofs.YtoloooammaiipaaDoorW.PrintLast Go.Proofs.YtoloooammaiipaaDoorW.PrintMore
attribute [local go_sem] max2_int min2_int max_two min_two max_three min_three max_four min_four   -- for this text's walks alone
set_option linter.unusedVariables false
set_option linter.unusedSimpArgs false

/-! ### lamplighterlaw19_great: function 20 -/
mutual
def lamplighterlaw19_great.l0 : Nat → Int → List (S42) → Int → Int → Option (Bool)
  | 0, _, _, _, _ => none
  | k + 1, x3, x8, x9, x10 => if x10 < x9 then (if 0 ≤ x10 then (if x10 < (x8.length : Int) then (lamplighterlaw19_great.l1 k (wrap64 (x3 + (wrap64 (1 + (((rd_T42 x8 x10).f0.f3).length : Int))))) x8 x9 x10 ((rd_T42 x8 x10).f1) (((rd_T42 x8 x10).f1).length : Int) 0) else (none)) else (none)) else (some (decide (x3 > 1500)))
def lamplighterlaw19_great.l1 : Nat → Int → List (S42) → Int → Int → List (S56) → Int → Int → Option (Bool)
  | 0, _, _, _, _, _, _, _ => none
  | k + 1, x3, x8, x9, x10, x22, x23, x24 => if x24 < x23 then (if 0 ≤ x24 then (if x24 < (x22.length : Int) then (lamplighterlaw19_great.l1 k (wrap64 (x3 + (wrap64 (1 + (((rd_T56 x22 x24).f1).length : Int))))) x8 x9 x10 x22 x23 (wrap64 (x24 + 1))) else (none)) else (none)) else (lamplighterlaw19_great.l0 k x3 x8 x9 (wrap64 (x10 + 1)))
end
def lamplighterlaw19_great.f (k : Nat) (l0 : List (S42)) : Option (Bool) := lamplighterlaw19_great.l0 k 0 l0 (l0.length : Int) 0
theorem lamplighterlaw19_great.mono_l : ∀ k, (∀ y0 y1 y2 y3, LeO (lamplighterlaw19_great.l0 k y0 y1 y2 y3) (lamplighterlaw19_great.l0 (k + 1) y0 y1 y2 y3)) ∧ (∀ y0 y1 y2 y3 y4 y5 y6, LeO (lamplighterlaw19_great.l1 k y0 y1 y2 y3 y4 y5 y6) (lamplighterlaw19_great.l1 (k + 1) y0 y1 y2 y3 y4 y5 y6))
  | 0 => ⟨fun _ _ _ _ r h => by simp [lamplighterlaw19_great.l0] at h, fun _ _ _ _ _ _ _ r h => by simp [lamplighterlaw19_great.l1] at h⟩
  | k + 1 => by
    obtain ⟨ih0, ih1⟩ := lamplighterlaw19_great.mono_l k
    refine ⟨?_, ?_⟩
    · intro y0 y1 y2 y3
      unfold lamplighterlaw19_great.l0
      repeat' first
      | (with_reducible exact ih0 _ _ _ _)
      | (with_reducible exact ih1 _ _ _ _ _ _ _)
      | (with_reducible exact LeO.refl _)
      | (with_reducible exact LeO.none _)
      | (with_reducible refine LeO.ite ?_ ?_)
      | (with_reducible refine LeO.bind ?_ (fun _ => ?_))
      | exact ih0 _ _ _ _
      | exact ih1 _ _ _ _ _ _ _
      | exact LeO.none _
      | refine LeO.ite ?_ ?_
      | refine LeO.bind ?_ (fun _ => ?_)
    · intro y0 y1 y2 y3 y4 y5 y6
      unfold lamplighterlaw19_great.l1
      repeat' first
      | (with_reducible exact ih0 _ _ _ _)
      | (with_reducible exact ih1 _ _ _ _ _ _ _)
      | (with_reducible exact LeO.refl _)
      | (with_reducible exact LeO.none _)
      | (with_reducible refine LeO.ite ?_ ?_)
      | (with_reducible refine LeO.bind ?_ (fun _ => ?_))
      | exact ih0 _ _ _ _
      | exact ih1 _ _ _ _ _ _ _
      | exact LeO.none _
      | refine LeO.ite ?_ ?_
      | refine LeO.bind ?_ (fun _ => ?_)
theorem lamplighterlaw19_great.mono : ∀ a0 k, LeO (lamplighterlaw19_great.f k a0) (lamplighterlaw19_great.f (k + 1) a0) := by
  intro a0 k
  obtain ⟨ih0, ih1⟩ := lamplighterlaw19_great.mono_l k
  unfold lamplighterlaw19_great.f
  repeat' first
      | (with_reducible exact ih0 _ _ _ _)
      | (with_reducible exact ih1 _ _ _ _ _ _ _)
      | (with_reducible exact LeO.refl _)
      | (with_reducible exact LeO.none _)
      | (with_reducible refine LeO.ite ?_ ?_)
      | (with_reducible refine LeO.bind ?_ (fun _ => ?_))
      | exact ih0 _ _ _ _
      | exact ih1 _ _ _ _ _ _ _
      | exact LeO.none _
      | refine LeO.ite ?_ ?_
      | refine LeO.bind ?_ (fun _ => ?_)
set_option maxHeartbeats 8000000 in
set_option maxRecDepth 100000 in
theorem lamplighterlaw19_great.calls (k : Nat) (A0 : Option Addr) (c0 : Nat) (l0 : List (S42)) (r : Bool) (w : World) (hr0 : Kd.C k42 w A0 l0.length l0) (hc0 : l0.length ≤ c0) (h : lamplighterlaw19_great.f k l0 = some r) :
    Calls Tryd.prog 20 #[.slice A0 l0.length c0] w fun e w' => e = .returned (.bool r) ∧ Below w.heap.size w w' := by
  have hu42 := Tryd.underlying42
  have hu56 := Tryd.underlying56
  have HR0 := Aside0.mk hr0
  have HC0 := Aside0.mk hc0
  clear hr0 hc0
  have HB := Aside0.mk (Below.refl w.heap.size w)
  have H : (lamplighterlaw19_great.l0 k 0 l0 (l0.length : Int) 0) = some r := h
  clear h
  have H' := Aside0.mk H
  clear H
  go_enter Tryd.func20, Tryd.ntmps20
  go_wp2
  go_loopg [3, 10] k (fun kq v3 v10 w' => ∃ (x3_1 : Int) (x10_1 : Int), v3 = .int .i64 x3_1 ∧ v10 = .int .i64 x10_1 ∧ Aside0 (lamplighterlaw19_great.l0 kq x3_1 l0 (l0.length : Int) x10_1 = some r) ∧ Aside0 (kq ≤ k) ∧ Aside0 (Below w.heap.size w w'))
  case atStart => exact ⟨(0), (0), (by first | rfl | (simp; done) | (simp [*]; done)), (by first | rfl | (simp; done) | (simp [*]; done)), H', ⟨Nat.le_refl _⟩, ⟨by repeat (first | (with_reducible first | exact HB.out | apply below_alloc | apply pw_below_drewN | apply below_drew1) | exact HB.out)⟩⟩
  case round =>
    clear H'
    obtain ⟨x3_1, x10_1, rfl, rfl, HA, HK1, HB⟩ := hrel
    cases gk with
    | zero => exact absurd HA.out (by simp [lamplighterlaw19_great.l0])
    | succ k1 =>
      have H := HA.out
      clear HA
      simp only [lamplighterlaw19_great.l0] at H
      by_cases c2 : x10_1 < (l0.length : Int)
      · rw [if_pos c2] at H
        have c2b0 : decide (x10_1 < (l0.length : Int)) = true := decide_eq_true c2
        clear c2
        by_cases c3 : 0 ≤ x10_1
        · rw [if_pos c3] at H
          have c3b0 : decide (0 ≤ x10_1) = true := decide_eq_true c3
          clear c3
          by_cases c4 : x10_1 < (l0.length : Int)
          · rw [if_pos c4] at H
            have c4b0 : decide (x10_1 < (l0.length : Int)) = true := decide_eq_true c4
            clear c4
            have H' := Aside0.mk H
            clear H
            have p151 : 0 ≤ (x10_1 : Int) := of_decide_eq_true (by first | (with_reducible assumption) | assumption)
            have q151 : x10_1 < (l0.length : Int) := of_decide_eq_true (by first | (with_reducible assumption) | assumption)
            obtain ⟨ad151, A151_3, c151_3, A151_4, c151_4, e151, hx151_0, hx151_1, hx151_2, hx151_3, hx151_4, hx151_5, hl151_3, hi151_3, hl151_4, hi151_4⟩ := at_T42 HR0.out x10_1 p151 q151
            cases e151
            replace hx151_0 := (HB.out.cell (World.block_lt_of_cell? w _ hx151_0)).trans hx151_0
            replace hx151_1 := (HB.out.cell (World.block_lt_of_cell? w _ hx151_1)).trans hx151_1
            replace hx151_2 := (HB.out.cell (World.block_lt_of_cell? w _ hx151_2)).trans hx151_2
            replace hx151_3 := (HB.out.cell (World.block_lt_of_cell? w _ hx151_3)).trans hx151_3
            replace hx151_4 := (HB.out.cell (World.block_lt_of_cell? w _ hx151_4)).trans hx151_4
            replace hx151_5 := (HB.out.cell (World.block_lt_of_cell? w _ hx151_5)).trans hx151_5
            have HR151_3 := Aside0.mk hi151_3
            have HC151_3 := Aside0.mk hl151_3
            clear hi151_3 hl151_3
            have HR151_4 := Aside0.mk hi151_4
            have HC151_4 := Aside0.mk hl151_4
            clear hi151_4 hl151_4
            replace p151 := eq_true p151
            replace q151 := eq_true q151
            go_wp2_with (first | ((with_reducible refine gate_dst (N := 5) rfl ?_); refine box_event ?hg (N := 5) ?hd (cs := #[.int .i64 0, .int .i64 0, .int .i64 0, .slice none 0 0, .slice none 0 0, .bool false]) (t := 42) ?hr ?_; (case hd => rfl); (case hg => rfl); (case hr => first | (go_simp; done) | (go_simp; rfl)); intro gb152 hg w5 hbox hb; have n0_ := Aside0.mk (below_step (by repeat (first | (with_reducible first | exact HB.out | apply below_alloc | apply pw_below_drewN | apply below_drew1) | exact HB.out)) hb); have n1_ := Aside0.mk (hbox); have n2_ := Aside0.mk ((by rw [hg]; exact (below_size (by repeat (first | (with_reducible first | exact HB.out | apply below_alloc | apply pw_below_drewN | apply below_drew1) | exact HB.out))) : w.heap.size ≤ gb152)); have n3_ := Aside0.mk ((by rw [hg]; exact (below_size (by repeat (first | (with_reducible first | exact HB.out | apply below_alloc | apply pw_below_drewN | apply below_drew1) | exact HB.out))) : w.heap.size ≤ gb152)); clear HB; have HB := n0_; have BK152 := n1_; have GW152 := n2_; have GE152 := n3_; clear n0_ n1_ n2_ n3_; clear hb hbox hg; have hcz6_0 : w5.cell? ⟨gb152, 0, none⟩ = some (.int .i64 0) := (blk_cell BK152.out 0).trans rfl; have hcz6_1 : w5.cell? ⟨gb152, 1, none⟩ = some (.int .i64 0) := (blk_cell BK152.out 1).trans rfl; have hcz6_2 : w5.cell? ⟨gb152, 2, none⟩ = some (.int .i64 0) := (blk_cell BK152.out 2).trans rfl; have hcz6_3 : w5.cell? ⟨gb152, 3, none⟩ = some (.slice none 0 0) := (blk_cell BK152.out 3).trans rfl; have hcz6_4 : w5.cell? ⟨gb152, 4, none⟩ = some (.slice none 0 0) := (blk_cell BK152.out 4).trans rfl; have hcz6_5 : w5.cell? ⟨gb152, 5, none⟩ = some (.bool false) := (blk_cell BK152.out 5).trans rfl; have hfz6_0 := blk_frozen BK152.out 0; have hfz6_1 := blk_frozen BK152.out 1; have hfz6_2 := blk_frozen BK152.out 2; have hfz6_3 := blk_frozen BK152.out 3; have hfz6_4 := blk_frozen BK152.out 4; have hfz6_5 := blk_frozen BK152.out 5))
            go_loopg [3, 24] k1 (fun kq v3 v24 w' => ∃ (x3_2 : Int) (x24_2 : Int), v3 = .int .i64 x3_2 ∧ v24 = .int .i64 x24_2 ∧ Aside0 (lamplighterlaw19_great.l1 kq x3_2 l0 (l0.length : Int) x10_1 ((rd_T42 l0 x10_1).f1) (((rd_T42 l0 x10_1).f1).length : Int) x24_2 = some r) ∧ Aside0 (kq ≤ k1) ∧ Aside0 (w'.heap[gb152]? = some (.cells #[.int .i64 ((rd_T42 l0 x10_1).f0.f0), .int .i64 ((rd_T42 l0 x10_1).f0.f1), .int .i64 ((rd_T42 l0 x10_1).f0.f2), (.slice A151_3 ((rd_T42 l0 x10_1).f0.f3).length c151_3), (.slice A151_4 ((rd_T42 l0 x10_1).f1).length c151_4), .bool ((rd_T42 l0 x10_1).f2)] 42 (0, 0))) ∧ Aside0 (Below w.heap.size w w'))
            case atStart => exact ⟨(wrap64 (x3_1 + (wrap64 (1 + (((rd_T42 l0 x10_1).f0.f3).length : Int))))), (0), (by first | rfl | (simp; done) | (simp [*]; done)), (by first | rfl | (simp; done) | (simp [*]; done)), H', ⟨Nat.le_refl _⟩, ⟨by (with_reducible repeat (first | refine blk_drewN ?_ _ | refine blk_drew ?_ | refine blk_alloc ?_ _)); refine blk_put (cs := #[.int .i64 ((rd_T42 l0 x10_1).f0.f0), .int .i64 ((rd_T42 l0 x10_1).f0.f1), .int .i64 ((rd_T42 l0 x10_1).f0.f2), .slice A151_3 ((rd_T42 l0 x10_1).f0.f3).length c151_3, .slice A151_4 ((rd_T42 l0 x10_1).f1).length c151_4, .bool false]) ?_ 5 _ rfl; (with_reducible repeat (first | refine blk_drewN ?_ _ | refine blk_drew ?_ | refine blk_alloc ?_ _)); refine blk_put (cs := #[.int .i64 ((rd_T42 l0 x10_1).f0.f0), .int .i64 ((rd_T42 l0 x10_1).f0.f1), .int .i64 ((rd_T42 l0 x10_1).f0.f2), .slice A151_3 ((rd_T42 l0 x10_1).f0.f3).length c151_3, .slice none 0 0, .bool false]) ?_ 4 _ rfl; (with_reducible repeat (first | refine blk_drewN ?_ _ | refine blk_drew ?_ | refine blk_alloc ?_ _)); refine blk_put (cs := #[.int .i64 ((rd_T42 l0 x10_1).f0.f0), .int .i64 ((rd_T42 l0 x10_1).f0.f1), .int .i64 ((rd_T42 l0 x10_1).f0.f2), .slice none 0 0, .slice none 0 0, .bool false]) ?_ 3 _ rfl; (with_reducible repeat (first | refine blk_drewN ?_ _ | refine blk_drew ?_ | refine blk_alloc ?_ _)); refine blk_put (cs := #[.int .i64 ((rd_T42 l0 x10_1).f0.f0), .int .i64 ((rd_T42 l0 x10_1).f0.f1), .int .i64 0, .slice none 0 0, .slice none 0 0, .bool false]) ?_ 2 _ rfl; (with_reducible repeat (first | refine blk_drewN ?_ _ | refine blk_drew ?_ | refine blk_alloc ?_ _)); refine blk_put (cs := #[.int .i64 ((rd_T42 l0 x10_1).f0.f0), .int .i64 0, .int .i64 0, .slice none 0 0, .slice none 0 0, .bool false]) ?_ 1 _ rfl; (with_reducible repeat (first | refine blk_drewN ?_ _ | refine blk_drew ?_ | refine blk_alloc ?_ _)); refine blk_put (cs := #[.int .i64 0, .int .i64 0, .int .i64 0, .slice none 0 0, .slice none 0 0, .bool false]) ?_ 0 _ rfl; (with_reducible repeat (first | refine blk_drewN ?_ _ | refine blk_drew ?_ | refine blk_alloc ?_ _)); exact BK152.out⟩, ⟨by repeat (first | (with_reducible first | exact HB.out | apply below_alloc | apply pw_below_drewN | apply below_drew1 | refine below_set ?_ GE152.out) | exact HB.out)⟩⟩
            case round =>
              clear H'
              try clear c1
              try clear p1
              try clear q1
              try clear hx1
              try clear c2
              try clear c2b0
              try clear p2
              try clear c3
              try clear c3b0
              try clear c4
              try clear c4b0
              try clear p6
              try clear hcz6_0
              try clear hcz6_1
              try clear hcz6_2
              try clear hcz6_3
              try clear hcz6_4
              try clear hcz6_5
              try clear hfz6_0
              try clear hfz6_1
              try clear hfz6_2
              try clear hfz6_3
              try clear hfz6_4
              try clear hfz6_5
              try clear hx151_0
              try clear hx151_1
              try clear hx151_2
              try clear hx151_3
              try clear hx151_4
              try clear hx151_5
              try clear p151
              try clear q151
              obtain ⟨x3_2, x24_2, rfl, rfl, HA, HK2, BK152, HB⟩ := hrel
              cases gk with
              | zero => exact absurd HA.out (by simp [lamplighterlaw19_great.l1])
              | succ k2 =>
                have H := HA.out
                clear HA
                simp only [lamplighterlaw19_great.l1] at H
                by_cases c7 : x24_2 < (((rd_T42 l0 x10_1).f1).length : Int)
                · rw [if_pos c7] at H
                  have c7b0 : decide (x24_2 < (((rd_T42 l0 x10_1).f1).length : Int)) = true := decide_eq_true c7
                  clear c7
                  by_cases c8 : 0 ≤ x24_2
                  · rw [if_pos c8] at H
                    have c8b0 : decide (0 ≤ x24_2) = true := decide_eq_true c8
                    clear c8
                    by_cases c9 : x24_2 < (((rd_T42 l0 x10_1).f1).length : Int)
                    · rw [if_pos c9] at H
                      have c9b0 : decide (x24_2 < (((rd_T42 l0 x10_1).f1).length : Int)) = true := decide_eq_true c9
                      clear c9
                      have H' := Aside0.mk H
                      clear H
                      have p153 : 0 ≤ (x24_2 : Int) := of_decide_eq_true (by first | (with_reducible assumption) | assumption)
                      have q153 : x24_2 < (((rd_T42 l0 x10_1).f1).length : Int) := of_decide_eq_true (by first | (with_reducible assumption) | assumption)
                      obtain ⟨ad153, A153_1, c153_1, e153, hx153_0, hx153_1, hl153_1, hi153_1⟩ := at_T56 HR151_4.out x24_2 p153 q153
                      cases e153
                      replace hx153_0 := (HB.out.cell (World.block_lt_of_cell? w _ hx153_0)).trans hx153_0
                      replace hx153_1 := (HB.out.cell (World.block_lt_of_cell? w _ hx153_1)).trans hx153_1
                      have HR153_1 := Aside0.mk hi153_1
                      have HC153_1 := Aside0.mk hl153_1
                      clear hi153_1 hl153_1
                      replace p153 := eq_true p153
                      replace q153 := eq_true q153
                      go_wp2_with (first | ((with_reducible refine gate_dst (N := 7) rfl ?_); refine box_event ?hg (N := 7) ?hd (cs := #[.bool false, .slice none 0 0]) (t := 56) ?hr ?_; (case hd => rfl); (case hg => rfl); (case hr => first | (go_simp; done) | (go_simp; rfl)); intro gb154 hg w10 hbox hb; have n0_ := Aside0.mk (blk_below (g := gb152) (o := .cells #[.int .i64 ((rd_T42 l0 x10_1).f0.f0), .int .i64 ((rd_T42 l0 x10_1).f0.f1), .int .i64 ((rd_T42 l0 x10_1).f0.f2), .slice A151_3 ((rd_T42 l0 x10_1).f0.f3).length c151_3, .slice (some ad153) ((rd_T42 l0 x10_1).f1).length c151_4, .bool ((rd_T42 l0 x10_1).f2)] 42 (0, 0)) (by (with_reducible repeat (first | refine blk_drewN ?_ _ | refine blk_drew ?_ | refine blk_alloc ?_ _)); exact BK152.out) hb); have n1_ := Aside0.mk (below_step (by repeat (first | (with_reducible first | exact HB.out | apply below_alloc | apply pw_below_drewN | apply below_drew1 | refine below_set ?_ GE152.out) | exact HB.out)) hb); have n2_ := Aside0.mk (hbox); have n3_ := Aside0.mk ((by rw [hg]; exact (below_size (by repeat (first | (with_reducible first | exact HB.out | apply below_alloc | apply pw_below_drewN | apply below_drew1 | refine below_set ?_ GE152.out) | exact HB.out))) : w.heap.size ≤ gb154)); have n4_ := Aside0.mk ((by rw [hg]; exact (below_size (by repeat (first | (with_reducible first | exact HB.out | apply below_alloc | apply pw_below_drewN | apply below_drew1 | refine below_set ?_ GE152.out) | exact HB.out))) : w.heap.size ≤ gb154)); have n5_ := Aside0.mk ((by rw [hg]; exact Nat.ne_of_lt (blk_lt (g := gb152) (o := .cells #[.int .i64 ((rd_T42 l0 x10_1).f0.f0), .int .i64 ((rd_T42 l0 x10_1).f0.f1), .int .i64 ((rd_T42 l0 x10_1).f0.f2), .slice A151_3 ((rd_T42 l0 x10_1).f0.f3).length c151_3, .slice (some ad153) ((rd_T42 l0 x10_1).f1).length c151_4, .bool ((rd_T42 l0 x10_1).f2)] 42 (0, 0)) (by (with_reducible repeat (first | refine blk_drewN ?_ _ | refine blk_drew ?_ | refine blk_alloc ?_ _)); exact BK152.out)) : gb152 ≠ gb154)); have n6_ := Aside0.mk ((by rw [hg]; exact Nat.ne_of_gt (blk_lt (g := gb152) (o := .cells #[.int .i64 ((rd_T42 l0 x10_1).f0.f0), .int .i64 ((rd_T42 l0 x10_1).f0.f1), .int .i64 ((rd_T42 l0 x10_1).f0.f2), .slice A151_3 ((rd_T42 l0 x10_1).f0.f3).length c151_3, .slice (some ad153) ((rd_T42 l0 x10_1).f1).length c151_4, .bool ((rd_T42 l0 x10_1).f2)] 42 (0, 0)) (by (with_reducible repeat (first | refine blk_drewN ?_ _ | refine blk_drew ?_ | refine blk_alloc ?_ _)); exact BK152.out)) : gb154 ≠ gb152)); clear BK152; clear HB; have BK152 := n0_; have HB := n1_; have BK154 := n2_; have GW154 := n3_; have GE154 := n4_; have NB152_154 := n5_; have NB154_152 := n6_; clear n0_ n1_ n2_ n3_ n4_ n5_ n6_; clear hb hbox hg; have hnb11 := NB154_152.out; have hnc11 := NB152_154.out; have hcz12_0 : w10.cell? ⟨gb154, 0, none⟩ = some (.bool false) := (blk_cell BK154.out 0).trans rfl; have hcz12_1 : w10.cell? ⟨gb154, 1, none⟩ = some (.slice none 0 0) := (blk_cell BK154.out 1).trans rfl; have hfz12_0 := blk_frozen BK154.out 0; have hfz12_1 := blk_frozen BK154.out 1))
                      go_roundg k2
                      case measure => have := HK1.out; have := HK2.out; omega
                      case rel => exact ⟨(wrap64 (x3_2 + (wrap64 (1 + (((rd_T56 ((rd_T42 l0 x10_1).f1) x24_2).f1).length : Int))))), (wrap64 (x24_2 + 1)), (by first | rfl | (simp; done) | (simp [*]; done)), (by first | rfl | (simp; done) | (simp [*]; done)), H', ⟨by have := HK1.out; have := HK2.out; omega⟩, ⟨by (with_reducible repeat (first | refine blk_drewN ?_ _ | refine blk_drew ?_ | refine blk_alloc ?_ _)); refine blk_far ?_ NB152_154.out _; (with_reducible repeat (first | refine blk_drewN ?_ _ | refine blk_drew ?_ | refine blk_alloc ?_ _)); refine blk_far ?_ NB152_154.out _; (with_reducible repeat (first | refine blk_drewN ?_ _ | refine blk_drew ?_ | refine blk_alloc ?_ _)); exact BK152.out⟩, ⟨by repeat (first | (with_reducible first | exact HB.out | apply below_alloc | apply pw_below_drewN | apply below_drew1 | refine below_set ?_ GE152.out | refine below_set ?_ GE154.out) | exact HB.out)⟩⟩
                    · rw [if_neg c9] at H
                      exact absurd H (by simp)
                  · rw [if_neg c8] at H
                    exact absurd H (by simp)
                · rw [if_neg c7] at H
                  have c7b0 : decide (x24_2 < (((rd_T42 l0 x10_1).f1).length : Int)) = false := decide_eq_false c7
                  clear c7
                  have H' := Aside0.mk H
                  clear H
                  go_wp2
                  go_roundg k2
                  case measure => have := HK1.out; have := HK2.out; omega
                  case rel => exact ⟨(x3_2), (wrap64 (x10_1 + 1)), (by first | rfl | (simp; done) | (simp [*]; done)), (by first | rfl | (simp; done) | (simp [*]; done)), H', ⟨by have := HK1.out; have := HK2.out; omega⟩, ⟨by repeat (first | (with_reducible first | exact HB.out | apply below_alloc | apply pw_below_drewN | apply below_drew1 | refine below_set ?_ GE152.out) | exact HB.out)⟩⟩
          · rw [if_neg c4] at H
            exact absurd H (by simp)
        · rw [if_neg c3] at H
          exact absurd H (by simp)
      · rw [if_neg c2] at H
        have c2b0 : decide (x10_1 < (l0.length : Int)) = false := decide_eq_false c2
        clear c2
        obtain rfl := Option.some.inj H
        go_wp2
        go_ret
        exact ⟨by first | rfl | (simp [errW_none, errW_some] <;> rfl) | (simp [*, errW_none, errW_some] <;> rfl), by repeat (first | (with_reducible first | exact HB.out | apply below_alloc | apply pw_below_drewN | apply below_drew1) | exact HB.out)⟩

/-! ### lamplighterlaw19_TraceLines: function 9 -/
mutual
def lamplighterlaw19_TraceLines.j0 : Nat → List (S42) → Bool → Option (Bool)
  | 0, _, _ => none
  | k + 1, x0, x15 => if x15 = true then ((lamplighterlaw19_alive.f).bind fun t157 => (some t157)) else ((trace_Format.f x0).bind fun bt158 => (if bt158.2 = 0 then (lamplighterlaw19_TraceLines.l0 k bt158.1 0 0 x0 (x0.length : Int) 0) else (some (bt158.1.toList == ([] : List UInt8)))))
def lamplighterlaw19_TraceLines.l0 : Nat → ByteArray → Int → Int → List (S42) → Int → Int → Option (Bool)
  | 0, _, _, _, _, _, _ => none
  | k + 1, x3, x5, x6, x26, x27, x28 => if x28 < x27 then (if 0 ≤ x28 then (if x28 < (x26.length : Int) then (if (rd_T42 x26 x28).f2 = true then (lamplighterlaw19_TraceLines.l0 k x3 (wrap64 ((wrap64 (x5 + (wrap64 (1 + (((rd_T42 x26 x28).f1).length : Int))))) + 1)) x6 x26 x27 (wrap64 (x28 + 1))) else (lamplighterlaw19_TraceLines.l0 k x3 (wrap64 (x5 + (wrap64 (1 + (((rd_T42 x26 x28).f1).length : Int))))) x6 x26 x27 (wrap64 (x28 + 1)))) else (none)) else (none)) else (lamplighterlaw19_TraceLines.l1 k x3 x5 x6 (x3.size : Int) 0)
def lamplighterlaw19_TraceLines.l1 : Nat → ByteArray → Int → Int → Int → Int → Option (Bool)
  | 0, _, _, _, _, _ => none
  | k + 1, x3, x5, x6, x44, x45 => if x45 < x44 then (if 0 ≤ x45 then (if x45 < (x3.size : Int) then (if (bt x3 x45) = 10 then (lamplighterlaw19_TraceLines.l1 k x3 x5 (wrap64 (x6 + 1)) x44 (wrap64 (x45 + 1))) else (lamplighterlaw19_TraceLines.l1 k x3 x5 x6 x44 (wrap64 (x45 + 1)))) else (none)) else (none)) else (if x6 = x5 then (if x3.toList = ([] : List UInt8) then (some true) else (if 0 ≤ (wrap64 ((x3.size : Int) - 1)) then (if (wrap64 ((x3.size : Int) - 1)) < (x3.size : Int) then (some ((bt x3 (wrap64 ((x3.size : Int) - 1))) == 10)) else (none)) else (none))) else (some false))
end
def lamplighterlaw19_TraceLines.f (k : Nat) (l0 : List (S42)) : Option (Bool) := (lamplighterlaw19_alive.f).bind fun t155 => (if t155 = true then ((lamplighterlaw19_great.f k l0).bind fun t156 => (lamplighterlaw19_TraceLines.j0 k l0 t156)) else (lamplighterlaw19_TraceLines.j0 k l0 true))
theorem lamplighterlaw19_TraceLines.mono_l : ∀ k, (∀ y0 y1, LeO (lamplighterlaw19_TraceLines.j0 k y0 y1) (lamplighterlaw19_TraceLines.j0 (k + 1) y0 y1)) ∧ (∀ y0 y1 y2 y3 y4 y5, LeO (lamplighterlaw19_TraceLines.l0 k y0 y1 y2 y3 y4 y5) (lamplighterlaw19_TraceLines.l0 (k + 1) y0 y1 y2 y3 y4 y5)) ∧ (∀ y0 y1 y2 y3 y4, LeO (lamplighterlaw19_TraceLines.l1 k y0 y1 y2 y3 y4) (lamplighterlaw19_TraceLines.l1 (k + 1) y0 y1 y2 y3 y4))
  | 0 => ⟨fun _ _ r h => by simp [lamplighterlaw19_TraceLines.j0] at h, fun _ _ _ _ _ _ r h => by simp [lamplighterlaw19_TraceLines.l0] at h, fun _ _ _ _ _ r h => by simp [lamplighterlaw19_TraceLines.l1] at h⟩
  | k + 1 => by
    obtain ⟨ih0, ih1, ih2⟩ := lamplighterlaw19_TraceLines.mono_l k
    refine ⟨?_, ?_, ?_⟩
    · intro y0 y1
      unfold lamplighterlaw19_TraceLines.j0
      repeat' first
      | (with_reducible exact ih0 _ _)
      | (with_reducible exact ih1 _ _ _ _ _ _)
      | (with_reducible exact ih2 _ _ _ _ _)
      | (with_reducible exact lamplighterlaw19_great.mono _ _)
      | (with_reducible exact LeO.refl _)
      | (with_reducible exact LeO.none _)
      | (with_reducible refine LeO.ite ?_ ?_)
      | (with_reducible refine LeO.bind ?_ (fun _ => ?_))
      | exact ih0 _ _
      | exact ih1 _ _ _ _ _ _
      | exact ih2 _ _ _ _ _
      | exact lamplighterlaw19_great.mono _ _
      | exact LeO.none _
      | refine LeO.ite ?_ ?_
      | refine LeO.bind ?_ (fun _ => ?_)
    · intro y0 y1 y2 y3 y4 y5
      unfold lamplighterlaw19_TraceLines.l0
      repeat' first
      | (with_reducible exact ih0 _ _)
      | (with_reducible exact ih1 _ _ _ _ _ _)
      | (with_reducible exact ih2 _ _ _ _ _)
      | (with_reducible exact lamplighterlaw19_great.mono _ _)
      | (with_reducible exact LeO.refl _)
      | (with_reducible exact LeO.none _)
      | (with_reducible refine LeO.ite ?_ ?_)
      | (with_reducible refine LeO.bind ?_ (fun _ => ?_))
      | exact ih0 _ _
      | exact ih1 _ _ _ _ _ _
      | exact ih2 _ _ _ _ _
      | exact lamplighterlaw19_great.mono _ _
      | exact LeO.none _
      | refine LeO.ite ?_ ?_
      | refine LeO.bind ?_ (fun _ => ?_)
    · intro y0 y1 y2 y3 y4
      unfold lamplighterlaw19_TraceLines.l1
      repeat' first
      | (with_reducible exact ih0 _ _)
      | (with_reducible exact ih1 _ _ _ _ _ _)
      | (with_reducible exact ih2 _ _ _ _ _)
      | (with_reducible exact lamplighterlaw19_great.mono _ _)
      | (with_reducible exact LeO.refl _)
      | (with_reducible exact LeO.none _)
      | (with_reducible refine LeO.ite ?_ ?_)
      | (with_reducible refine LeO.bind ?_ (fun _ => ?_))
      | exact ih0 _ _
      | exact ih1 _ _ _ _ _ _
      | exact ih2 _ _ _ _ _
      | exact lamplighterlaw19_great.mono _ _
      | exact LeO.none _
      | refine LeO.ite ?_ ?_
      | refine LeO.bind ?_ (fun _ => ?_)
theorem lamplighterlaw19_TraceLines.mono : ∀ a0 k, LeO (lamplighterlaw19_TraceLines.f k a0) (lamplighterlaw19_TraceLines.f (k + 1) a0) := by
  intro a0 k
  obtain ⟨ih0, ih1, ih2⟩ := lamplighterlaw19_TraceLines.mono_l k
  unfold lamplighterlaw19_TraceLines.f
  repeat' first
      | (with_reducible exact ih0 _ _)
      | (with_reducible exact ih1 _ _ _ _ _ _)
      | (with_reducible exact ih2 _ _ _ _ _)
      | (with_reducible exact lamplighterlaw19_great.mono _ _)
      | (with_reducible exact LeO.refl _)
      | (with_reducible exact LeO.none _)
      | (with_reducible refine LeO.ite ?_ ?_)
      | (with_reducible refine LeO.bind ?_ (fun _ => ?_))
      | exact ih0 _ _
      | exact ih1 _ _ _ _ _ _
      | exact ih2 _ _ _ _ _
      | exact lamplighterlaw19_great.mono _ _
      | exact LeO.none _
      | refine LeO.ite ?_ ?_
      | refine LeO.bind ?_ (fun _ => ?_)
set_option maxHeartbeats 8000000 in
set_option maxRecDepth 100000 in
theorem lamplighterlaw19_TraceLines.calls (k : Nat) (A0 : Option Addr) (c0 : Nat) (l0 : List (S42)) (r : Bool) (w : World) (hr0 : Kd.C k42 w A0 l0.length l0) (hc0 : l0.length ≤ c0) (h : lamplighterlaw19_TraceLines.f k l0 = some r) (hrt : r = true) (hGT : GlobT w) :
    Calls Tryd.prog 9 #[.slice A0 l0.length c0] w fun e w' => e = .returned (.bool r) ∧ Below w.heap.size w w' := by
  have HGLOT := Lib.hid hGT
  clear hGT
  have hu42 := Tryd.underlying42
  have HR0 := Aside0.mk hr0
  have HC0 := Aside0.mk hc0
  clear hr0 hc0
  have HB := Aside0.mk (Below.refl w.heap.size w)
  have H : ((lamplighterlaw19_alive.f).bind fun t155 => (if t155 = true then ((lamplighterlaw19_great.f k l0).bind fun t156 => (lamplighterlaw19_TraceLines.j0 k l0 t156)) else (lamplighterlaw19_TraceLines.j0 k l0 true))) = some r := h
  clear h
  have HC2 := Aside0.mk H
  clear H
  go_enter Tryd.func9, Tryd.ntmps9
  go_upto_region 1 with (fail)
  go_cut [15] (fun v15 wc => ∃ (kq : Nat) (x15_1 : Bool), v15 = .bool x15_1 ∧ Aside0 (lamplighterlaw19_TraceLines.j0 kq l0 x15_1 = some r) ∧ Aside0 (kq ≤ k) ∧ Aside0 (Below w.heap.size w wc))
  case first =>
    have H := HC2.out
    clear HC2
    replace H := Option.bind_eq_some_iff.mp H
    obtain ⟨t155, A30, H⟩ := H
    replace H : (if t155 = true then ((lamplighterlaw19_great.f k l0).bind fun t156 => (lamplighterlaw19_TraceLines.j0 k l0 t156)) else (lamplighterlaw19_TraceLines.j0 k l0 true)) = some r := H
    have A3 := Aside0.mk A30
    clear A30
    by_cases c4 : t155 = true
    · subst c4
      have H1 : ((lamplighterlaw19_great.f k l0).bind fun t156 => (lamplighterlaw19_TraceLines.j0 k l0 t156)) = some r := by rw [if_pos rfl] at H; exact H
      clear H
      have H := H1
      clear H1
      replace H := Option.bind_eq_some_iff.mp H
      obtain ⟨t156, A50, H⟩ := H
      replace H : (lamplighterlaw19_TraceLines.j0 k l0 t156) = some r := H
      have A5 := Aside0.mk A50
      clear A50
      have H' := Aside0.mk H
      clear H
      go_wp2_with (first | ((with_reducible refine gate_callee (f := 10) rfl ?_); refine goesL_ (some 10) rfl rfl Tryd.func10 (by kernel_rfl) rfl #[] rfl (by (try simp only [List.map_toArray, List.map_cons, List.map_nil]); first | done | rfl | (simp only [List.length_drop, List.length_take]; rfl)) ?_; (with_reducible refine (lamplighterlaw19_alive.calls  true _ A3.out (globt_below HGLOT.out (by repeat (first | (with_reducible first | exact HB.out | apply below_alloc | apply pw_below_drewN | apply below_drew1) | exact HB.out)))).mono ?_); rintro e w6 ⟨rfl, hb⟩; refine ⟨_, rfl, ?_⟩; have n0_ := Aside0.mk (below_step (by repeat (first | (with_reducible first | exact HB.out | apply below_alloc | apply pw_below_drewN | apply below_drew1) | exact HB.out)) hb); clear HB; have HB := n0_; clear n0_; (try clear hb); (try clear hb2); (try clear hk); (try clear hi)) | (go_at_call 20; (with_reducible refine (lamplighterlaw19_great.calls k _ _ l0 t156 _ ?side1 ?side2 A5.out).mono ?_); (case side1 => repeat (first | exact (Kd.C_below HR0.out HB.out) | (with_reducible refine Kd.C_alloc ?_ _) | (with_reducible refine Kd.C_drewN ?_ _) | (with_reducible refine Kd.C_drew ?_))); (case side2 => exact HC0.out); rintro e w7 ⟨rfl, hb⟩; have n0_ := Aside0.mk (below_step (by repeat (first | (with_reducible first | exact HB.out | apply below_alloc | apply pw_below_drewN | apply below_drew1) | exact HB.out)) hb); clear HB; have HB := n0_; clear n0_; (try clear hb); (try clear hb2); (try clear hk); (try clear hi)))
      go_meet
      case rel => exact ⟨_, (t156), (by first | rfl | (simp; done) | (simp [*]; done)), H', ⟨by first | omega | exact Nat.le_refl _⟩, ⟨by repeat (first | (with_reducible first | exact HB.out | apply below_alloc | apply pw_below_drewN | apply below_drew1) | exact HB.out)⟩⟩
    · replace c4 := Bool.eq_false_iff.mpr c4
      subst c4
      have H1 : (lamplighterlaw19_TraceLines.j0 k l0 true) = some r := by rw [if_neg (show ¬ (false = true) by decide)] at H; exact H
      clear H
      have H := H1
      clear H1
      have H' := Aside0.mk H
      clear H
      go_wp2_with (first | ((with_reducible refine gate_callee (f := 10) rfl ?_); refine goesL_ (some 10) rfl rfl Tryd.func10 (by kernel_rfl) rfl #[] rfl (by (try simp only [List.map_toArray, List.map_cons, List.map_nil]); first | done | rfl | (simp only [List.length_drop, List.length_take]; rfl)) ?_; (with_reducible refine (lamplighterlaw19_alive.calls  false _ A3.out (globt_below HGLOT.out (by repeat (first | (with_reducible first | exact HB.out | apply below_alloc | apply pw_below_drewN | apply below_drew1) | exact HB.out)))).mono ?_); rintro e w8 ⟨rfl, hb⟩; refine ⟨_, rfl, ?_⟩; have n0_ := Aside0.mk (below_step (by repeat (first | (with_reducible first | exact HB.out | apply below_alloc | apply pw_below_drewN | apply below_drew1) | exact HB.out)) hb); clear HB; have HB := n0_; clear n0_; (try clear hb); (try clear hb2); (try clear hk); (try clear hi)))
      go_meet
      case rel => exact ⟨_, (true), (by first | rfl | (simp; done) | (simp [*]; done)), H', ⟨by first | omega | exact Nat.le_refl _⟩, ⟨by repeat (first | (with_reducible first | exact HB.out | apply below_alloc | apply pw_below_drewN | apply below_drew1) | exact HB.out)⟩⟩
  case rest =>
    clear HC2
    try clear c1
    try clear p2
    try clear c4
    obtain ⟨kq, x15_1, rfl, HA, HJ1, HB⟩ := hcut
    cases kq with
    | zero => exact absurd HA.out (by simp [lamplighterlaw19_TraceLines.j0])
    | succ kj1 =>
      have H := HA.out
      clear HA
      simp only [lamplighterlaw19_TraceLines.j0] at H
      by_cases c9 : x15_1 = true
      · subst c9
        have H1 : ((lamplighterlaw19_alive.f).bind fun t157 => (some t157)) = some r := by rw [if_pos rfl] at H; exact H
        clear H
        have H := H1
        clear H1
        replace H := Option.bind_eq_some_iff.mp H
        obtain ⟨t157, A100, H⟩ := H
        replace H : (some t157) = some r := H
        have A10 := Aside0.mk A100
        clear A100
        obtain rfl := Option.some.inj H
        clear hrt
        go_wp2_with (first | ((with_reducible refine gate_callee (f := 10) rfl ?_); refine goesL_ (some 16) rfl rfl Tryd.func10 (by kernel_rfl) rfl #[] rfl (by (try simp only [List.map_toArray, List.map_cons, List.map_nil]); first | done | rfl | (simp only [List.length_drop, List.length_take]; rfl)) ?_; (with_reducible refine (lamplighterlaw19_alive.calls  t157 _ A10.out (globt_below HGLOT.out (by repeat (first | (with_reducible first | exact HB.out | apply below_alloc | apply pw_below_drewN | apply below_drew1) | exact HB.out)))).mono ?_); rintro e w11 ⟨rfl, hb⟩; refine ⟨_, rfl, ?_⟩; have n0_ := Aside0.mk (below_step (by repeat (first | (with_reducible first | exact HB.out | apply below_alloc | apply pw_below_drewN | apply below_drew1) | exact HB.out)) hb); clear HB; have HB := n0_; clear n0_; (try clear hb); (try clear hb2); (try clear hk); (try clear hi)))
        go_ret
        exact ⟨by first | rfl | (simp [errW_none, errW_some] <;> rfl) | (simp [*, errW_none, errW_some] <;> rfl), by repeat (first | (with_reducible first | exact HB.out | apply below_alloc | apply pw_below_drewN | apply below_drew1) | exact HB.out)⟩
      · replace c9 := Bool.eq_false_iff.mpr c9
        subst c9
        have H1 : ((trace_Format.f l0).bind fun bt158 => (if bt158.2 = 0 then (lamplighterlaw19_TraceLines.l0 kj1 bt158.1 0 0 l0 (l0.length : Int) 0) else (some (bt158.1.toList == ([] : List UInt8))))) = some r := by rw [if_neg (show ¬ (false = true) by decide)] at H; exact H
        clear H
        have H := H1
        clear H1
        replace H := Option.bind_eq_some_iff.mp H
        obtain ⟨⟨t158, t159⟩, A120, H⟩ := H
        replace H : (if t159 = 0 then (lamplighterlaw19_TraceLines.l0 kj1 t158 0 0 l0 (l0.length : Int) 0) else (some (t158.toList == ([] : List UInt8)))) = some r := H
        have A12 := Aside0.mk A120
        clear A120
        by_cases c13 : t159 = 0
        · rw [if_pos c13] at H
          have c13b0 : (t159 == 0) = true := beq_iff_eq.mpr c13
          have c13b1 : (t159 != 0) = false := bne_eq_false_iff_eq.mpr c13
          clear c13
          have H' := Aside0.mk H
          clear H
          go_wp2_with (first | ((with_reducible refine gate_callee (f := 21) rfl ?_); refine goesL_ (some 19) rfl rfl Tryd.func21 (by kernel_rfl) rfl #[.slice A0 l0.length c0] rfl (by (try simp only [List.map_toArray, List.map_cons, List.map_nil]); first | done | rfl | (simp only [List.length_drop, List.length_take]; rfl)) ?_; (with_reducible refine (trace_Format.calls _ _ l0 t158 t159 _ ?side1 ?side2 A12.out (globt_below HGLOT.out (by repeat (first | (with_reducible first | exact HB.out | apply below_alloc | apply pw_below_drewN | apply below_drew1) | exact HB.out)))).mono ?_); (case side1 => repeat (first | exact (Kd.C_below HR0.out HB.out) | (with_reducible refine Kd.C_alloc ?_ _) | (with_reducible refine Kd.C_drewN ?_ _) | (with_reducible refine Kd.C_drew ?_))); (case side2 => exact HC0.out); rintro e w14 ⟨rfl, hb⟩; refine ⟨_, rfl, ?_⟩; have n0_ := Aside0.mk (below_step (by repeat (first | (with_reducible first | exact HB.out | apply below_alloc | apply pw_below_drewN | apply below_drew1) | exact HB.out)) hb); clear HB; have HB := n0_; clear n0_; (try clear hb); (try clear hb2); (try clear hk); (try clear hi)))
          go_loopg [5, 28] kj1 (fun kq v5 v28 w' => ∃ (x5_2 : Int) (x28_2 : Int), v5 = .int .i64 x5_2 ∧ v28 = .int .i64 x28_2 ∧ Aside0 (lamplighterlaw19_TraceLines.l0 kq t158 x5_2 0 l0 (l0.length : Int) x28_2 = some r) ∧ Aside0 (kq ≤ kj1) ∧ Aside0 (Below w.heap.size w w'))
          case atStart => exact ⟨(0), (0), (by first | rfl | (simp; done) | (simp [*]; done)), (by first | rfl | (simp; done) | (simp [*]; done)), H', ⟨Nat.le_refl _⟩, ⟨by repeat (first | (with_reducible first | exact HB.out | apply below_alloc | apply pw_below_drewN | apply below_drew1) | exact HB.out)⟩⟩
          case round =>
            clear H'
            try clear c1
            try clear c2
            try clear p2
            try clear c4
            try clear c9
            try clear c10
            try clear c13
            try clear c13b0
            try clear c13b1
            try clear p2
            obtain ⟨x5_2, x28_2, rfl, rfl, HA, HK2, HB⟩ := hrel
            cases gk with
            | zero => exact absurd HA.out (by simp [lamplighterlaw19_TraceLines.l0])
            | succ k2 =>
              have H := HA.out
              clear HA
              simp only [lamplighterlaw19_TraceLines.l0] at H
              by_cases c15 : x28_2 < (l0.length : Int)
              · rw [if_pos c15] at H
                have c15b0 : decide (x28_2 < (l0.length : Int)) = true := decide_eq_true c15
                clear c15
                by_cases c16 : 0 ≤ x28_2
                · rw [if_pos c16] at H
                  have c16b0 : decide (0 ≤ x28_2) = true := decide_eq_true c16
                  clear c16
                  by_cases c17 : x28_2 < (l0.length : Int)
                  · rw [if_pos c17] at H
                    have c17b0 : decide (x28_2 < (l0.length : Int)) = true := decide_eq_true c17
                    clear c17
                    obtain ⟨bq18, hbq18⟩ : ∃ b_ : Bool, b_ = ((rd_T42 l0 x28_2).f2) := ⟨_, rfl⟩
                    replace H : (if bq18 = true then (lamplighterlaw19_TraceLines.l0 k2 t158 (wrap64 ((wrap64 (x5_2 + (wrap64 (1 + (((rd_T42 l0 x28_2).f1).length : Int))))) + 1)) 0 l0 (l0.length : Int) (wrap64 (x28_2 + 1))) else (lamplighterlaw19_TraceLines.l0 k2 t158 (wrap64 (x5_2 + (wrap64 (1 + (((rd_T42 l0 x28_2).f1).length : Int))))) 0 l0 (l0.length : Int) (wrap64 (x28_2 + 1)))) = some r := by rw [← hbq18] at H; exact H
                    have Nbq18 := Aside0.mk hbq18
                    clear hbq18
                    by_cases c19 : bq18 = true
                    · subst c19
                      have H1 : (lamplighterlaw19_TraceLines.l0 k2 t158 (wrap64 ((wrap64 (x5_2 + (wrap64 (1 + (((rd_T42 l0 x28_2).f1).length : Int))))) + 1)) 0 l0 (l0.length : Int) (wrap64 (x28_2 + 1))) = some r := by rw [if_pos rfl] at H; exact H
                      clear H
                      have H := H1
                      clear H1
                      have H' := Aside0.mk H
                      clear H
                      have p160 : 0 ≤ (x28_2 : Int) := of_decide_eq_true (by first | (with_reducible assumption) | assumption)
                      have q160 : x28_2 < (l0.length : Int) := of_decide_eq_true (by first | (with_reducible assumption) | assumption)
                      obtain ⟨ad160, A160_3, c160_3, A160_4, c160_4, e160, hx160_0, hx160_1, hx160_2, hx160_3, hx160_4, hx160_5, hl160_3, hi160_3, hl160_4, hi160_4⟩ := at_T42 HR0.out x28_2 p160 q160
                      (try rw [← Nbq18.out] at hx160_5)
                      cases e160
                      replace hx160_0 := (HB.out.cell (World.block_lt_of_cell? w _ hx160_0)).trans hx160_0
                      replace hx160_1 := (HB.out.cell (World.block_lt_of_cell? w _ hx160_1)).trans hx160_1
                      replace hx160_2 := (HB.out.cell (World.block_lt_of_cell? w _ hx160_2)).trans hx160_2
                      replace hx160_3 := (HB.out.cell (World.block_lt_of_cell? w _ hx160_3)).trans hx160_3
                      replace hx160_4 := (HB.out.cell (World.block_lt_of_cell? w _ hx160_4)).trans hx160_4
                      replace hx160_5 := (HB.out.cell (World.block_lt_of_cell? w _ hx160_5)).trans hx160_5
                      have HR160_3 := Aside0.mk hi160_3
                      have HC160_3 := Aside0.mk hl160_3
                      clear hi160_3 hl160_3
                      have HR160_4 := Aside0.mk hi160_4
                      have HC160_4 := Aside0.mk hl160_4
                      clear hi160_4 hl160_4
                      replace p160 := eq_true p160
                      replace q160 := eq_true q160
                      go_wp2_with (first | ((with_reducible refine gate_dst (N := 8) rfl ?_); (try (refine gate_guard (by rfl) ?_; dsimp only)); refine box_event ?hg (N := 8) ?hd (cs := #[.int .i64 0, .int .i64 0, .int .i64 0, .slice none 0 0, .slice none 0 0, .bool false]) (t := 42) ?hr ?_; (case hd => rfl); (case hg => rfl); (case hr => first | (go_simp; done) | (go_simp; rfl)); intro gb161 hg w20 hbox hb; have n0_ := Aside0.mk (below_step (by repeat (first | (with_reducible first | exact HB.out | apply below_alloc | apply pw_below_drewN | apply below_drew1) | exact HB.out)) hb); have n1_ := Aside0.mk (hbox); have n2_ := Aside0.mk ((by rw [hg]; exact (below_size (by repeat (first | (with_reducible first | exact HB.out | apply below_alloc | apply pw_below_drewN | apply below_drew1) | exact HB.out))) : w.heap.size ≤ gb161)); have n3_ := Aside0.mk ((by rw [hg]; exact (below_size (by repeat (first | (with_reducible first | exact HB.out | apply below_alloc | apply pw_below_drewN | apply below_drew1) | exact HB.out))) : w.heap.size ≤ gb161)); clear HB; have HB := n0_; have BK161 := n1_; have GW161 := n2_; have GE161 := n3_; clear n0_ n1_ n2_ n3_; clear hb hbox hg; have hcz21_0 : w20.cell? ⟨gb161, 0, none⟩ = some (.int .i64 0) := (blk_cell BK161.out 0).trans rfl; have hcz21_1 : w20.cell? ⟨gb161, 1, none⟩ = some (.int .i64 0) := (blk_cell BK161.out 1).trans rfl; have hcz21_2 : w20.cell? ⟨gb161, 2, none⟩ = some (.int .i64 0) := (blk_cell BK161.out 2).trans rfl; have hcz21_3 : w20.cell? ⟨gb161, 3, none⟩ = some (.slice none 0 0) := (blk_cell BK161.out 3).trans rfl; have hcz21_4 : w20.cell? ⟨gb161, 4, none⟩ = some (.slice none 0 0) := (blk_cell BK161.out 4).trans rfl; have hcz21_5 : w20.cell? ⟨gb161, 5, none⟩ = some (.bool false) := (blk_cell BK161.out 5).trans rfl; have hfz21_0 := blk_frozen BK161.out 0; have hfz21_1 := blk_frozen BK161.out 1; have hfz21_2 := blk_frozen BK161.out 2; have hfz21_3 := blk_frozen BK161.out 3; have hfz21_4 := blk_frozen BK161.out 4; have hfz21_5 := blk_frozen BK161.out 5))
                      go_roundg k2
                      case measure => have := HJ1.out; have := HK2.out; omega
                      case rel => exact ⟨(wrap64 ((wrap64 (x5_2 + (wrap64 (1 + (((rd_T42 l0 x28_2).f1).length : Int))))) + 1)), (wrap64 (x28_2 + 1)), (by first | rfl | (simp; done) | (simp [*]; done)), (by first | rfl | (simp; done) | (simp [*]; done)), H', ⟨by have := HJ1.out; have := HK2.out; omega⟩, ⟨by repeat (first | (with_reducible first | exact HB.out | apply below_alloc | apply pw_below_drewN | apply below_drew1 | refine below_set ?_ GE161.out) | exact HB.out)⟩⟩
                    · replace c19 := Bool.eq_false_iff.mpr c19
                      subst c19
                      have H1 : (lamplighterlaw19_TraceLines.l0 k2 t158 (wrap64 (x5_2 + (wrap64 (1 + (((rd_T42 l0 x28_2).f1).length : Int))))) 0 l0 (l0.length : Int) (wrap64 (x28_2 + 1))) = some r := by rw [if_neg (show ¬ (false = true) by decide)] at H; exact H
                      clear H
                      have H := H1
                      clear H1
                      have H' := Aside0.mk H
                      clear H
                      have p160 : 0 ≤ (x28_2 : Int) := of_decide_eq_true (by first | (with_reducible assumption) | assumption)
                      have q160 : x28_2 < (l0.length : Int) := of_decide_eq_true (by first | (with_reducible assumption) | assumption)
                      obtain ⟨ad160, A160_3, c160_3, A160_4, c160_4, e160, hx160_0, hx160_1, hx160_2, hx160_3, hx160_4, hx160_5, hl160_3, hi160_3, hl160_4, hi160_4⟩ := at_T42 HR0.out x28_2 p160 q160
                      (try rw [← Nbq18.out] at hx160_5)
                      cases e160
                      replace hx160_0 := (HB.out.cell (World.block_lt_of_cell? w _ hx160_0)).trans hx160_0
                      replace hx160_1 := (HB.out.cell (World.block_lt_of_cell? w _ hx160_1)).trans hx160_1
                      replace hx160_2 := (HB.out.cell (World.block_lt_of_cell? w _ hx160_2)).trans hx160_2
                      replace hx160_3 := (HB.out.cell (World.block_lt_of_cell? w _ hx160_3)).trans hx160_3
                      replace hx160_4 := (HB.out.cell (World.block_lt_of_cell? w _ hx160_4)).trans hx160_4
                      replace hx160_5 := (HB.out.cell (World.block_lt_of_cell? w _ hx160_5)).trans hx160_5
                      have HR160_3 := Aside0.mk hi160_3
                      have HC160_3 := Aside0.mk hl160_3
                      clear hi160_3 hl160_3
                      have HR160_4 := Aside0.mk hi160_4
                      have HC160_4 := Aside0.mk hl160_4
                      clear hi160_4 hl160_4
                      replace p160 := eq_true p160
                      replace q160 := eq_true q160
                      go_wp2_with (first | ((with_reducible refine gate_dst (N := 8) rfl ?_); (try (refine gate_guard (by rfl) ?_; dsimp only)); refine box_event ?hg (N := 8) ?hd (cs := #[.int .i64 0, .int .i64 0, .int .i64 0, .slice none 0 0, .slice none 0 0, .bool false]) (t := 42) ?hr ?_; (case hd => rfl); (case hg => rfl); (case hr => first | (go_simp; done) | (go_simp; rfl)); intro gb161 hg w22 hbox hb; have n0_ := Aside0.mk (below_step (by repeat (first | (with_reducible first | exact HB.out | apply below_alloc | apply pw_below_drewN | apply below_drew1) | exact HB.out)) hb); have n1_ := Aside0.mk (hbox); have n2_ := Aside0.mk ((by rw [hg]; exact (below_size (by repeat (first | (with_reducible first | exact HB.out | apply below_alloc | apply pw_below_drewN | apply below_drew1) | exact HB.out))) : w.heap.size ≤ gb161)); have n3_ := Aside0.mk ((by rw [hg]; exact (below_size (by repeat (first | (with_reducible first | exact HB.out | apply below_alloc | apply pw_below_drewN | apply below_drew1) | exact HB.out))) : w.heap.size ≤ gb161)); clear HB; have HB := n0_; have BK161 := n1_; have GW161 := n2_; have GE161 := n3_; clear n0_ n1_ n2_ n3_; clear hb hbox hg; have hcz23_0 : w22.cell? ⟨gb161, 0, none⟩ = some (.int .i64 0) := (blk_cell BK161.out 0).trans rfl; have hcz23_1 : w22.cell? ⟨gb161, 1, none⟩ = some (.int .i64 0) := (blk_cell BK161.out 1).trans rfl; have hcz23_2 : w22.cell? ⟨gb161, 2, none⟩ = some (.int .i64 0) := (blk_cell BK161.out 2).trans rfl; have hcz23_3 : w22.cell? ⟨gb161, 3, none⟩ = some (.slice none 0 0) := (blk_cell BK161.out 3).trans rfl; have hcz23_4 : w22.cell? ⟨gb161, 4, none⟩ = some (.slice none 0 0) := (blk_cell BK161.out 4).trans rfl; have hcz23_5 : w22.cell? ⟨gb161, 5, none⟩ = some (.bool false) := (blk_cell BK161.out 5).trans rfl; have hfz23_0 := blk_frozen BK161.out 0; have hfz23_1 := blk_frozen BK161.out 1; have hfz23_2 := blk_frozen BK161.out 2; have hfz23_3 := blk_frozen BK161.out 3; have hfz23_4 := blk_frozen BK161.out 4; have hfz23_5 := blk_frozen BK161.out 5))
                      go_roundg k2
                      case measure => have := HJ1.out; have := HK2.out; omega
                      case rel => exact ⟨(wrap64 (x5_2 + (wrap64 (1 + (((rd_T42 l0 x28_2).f1).length : Int))))), (wrap64 (x28_2 + 1)), (by first | rfl | (simp; done) | (simp [*]; done)), (by first | rfl | (simp; done) | (simp [*]; done)), H', ⟨by have := HJ1.out; have := HK2.out; omega⟩, ⟨by repeat (first | (with_reducible first | exact HB.out | apply below_alloc | apply pw_below_drewN | apply below_drew1 | refine below_set ?_ GE161.out) | exact HB.out)⟩⟩
                  · rw [if_neg c17] at H
                    exact absurd H (by simp)
                · rw [if_neg c16] at H
                  exact absurd H (by simp)
              · rw [if_neg c15] at H
                have c15b0 : decide (x28_2 < (l0.length : Int)) = false := decide_eq_false c15
                clear c15
                have H' := Aside0.mk H
                clear H
                go_wp2
                go_loopg [6, 45] k2 (fun kq v6 v45 w' => ∃ (x6_3 : Int) (x45_3 : Int), v6 = .int .i64 x6_3 ∧ v45 = .int .i64 x45_3 ∧ Aside0 (lamplighterlaw19_TraceLines.l1 kq t158 x5_2 x6_3 (t158.size : Int) x45_3 = some r) ∧ Aside0 (kq ≤ k2) ∧ Aside0 (Below w.heap.size w w'))
                case atStart => exact ⟨(0), (0), (by first | rfl | (simp; done) | (simp [*]; done)), (by first | rfl | (simp; done) | (simp [*]; done)), H', ⟨Nat.le_refl _⟩, ⟨by repeat (first | (with_reducible first | exact HB.out | apply below_alloc | apply pw_below_drewN | apply below_drew1) | exact HB.out)⟩⟩
                case round =>
                  clear H'
                  try clear c1
                  try clear p1
                  try clear q1
                  try clear hx1
                  try clear c2
                  try clear p2
                  try clear c4
                  try clear p6
                  try clear c9
                  try clear c10
                  try clear c13
                  try clear c13b0
                  try clear c13b1
                  try clear c15
                  try clear c15b0
                  try clear c16
                  try clear c16b0
                  try clear p16
                  try clear q16
                  try clear hx16
                  try clear c17
                  try clear c17b0
                  try clear q18
                  try clear c19
                  try clear c21
                  try clear hcz21_0
                  try clear hcz21_1
                  try clear hcz21_2
                  try clear hcz21_3
                  try clear hcz21_4
                  try clear hcz21_5
                  try clear hcz23_0
                  try clear hcz23_1
                  try clear hcz23_2
                  try clear hcz23_3
                  try clear hcz23_4
                  try clear hcz23_5
                  try clear hfz21_0
                  try clear hfz21_1
                  try clear hfz21_2
                  try clear hfz21_3
                  try clear hfz21_4
                  try clear hfz21_5
                  try clear hfz23_0
                  try clear hfz23_1
                  try clear hfz23_2
                  try clear hfz23_3
                  try clear hfz23_4
                  try clear hfz23_5
                  try clear hx160_0
                  try clear hx160_1
                  try clear hx160_2
                  try clear hx160_3
                  try clear hx160_4
                  try clear hx160_5
                  try clear p160
                  try clear p2
                  try clear q160
                  obtain ⟨x6_3, x45_3, rfl, rfl, HA, HK3, HB⟩ := hrel
                  cases gk with
                  | zero => exact absurd HA.out (by simp [lamplighterlaw19_TraceLines.l1])
                  | succ k3 =>
                    have H := HA.out
                    clear HA
                    simp only [lamplighterlaw19_TraceLines.l1] at H
                    by_cases c24 : x45_3 < (t158.size : Int)
                    · rw [if_pos c24] at H
                      have c24b0 : decide (x45_3 < (t158.size : Int)) = true := decide_eq_true c24
                      clear c24
                      by_cases c25 : 0 ≤ x45_3
                      · rw [if_pos c25] at H
                        have c25b0 : decide (0 ≤ x45_3) = true := decide_eq_true c25
                        clear c25
                        by_cases c26 : x45_3 < (t158.size : Int)
                        · rw [if_pos c26] at H
                          have c26b0 : decide (x45_3 < (t158.size : Int)) = true := decide_eq_true c26
                          clear c26
                          by_cases c28 : (bt t158 x45_3) = 10
                          · rw [if_pos c28] at H
                            have c28b0 : ((bt t158 x45_3) == 10) = true := beq_iff_eq.mpr c28
                            have c28b1 : ((bt t158 x45_3) != 10) = false := bne_eq_false_iff_eq.mpr c28
                            clear c28
                            have H' := Aside0.mk H
                            clear H
                            have p27 : 0 ≤ (x45_3 : Int) := of_decide_eq_true (by first | (with_reducible assumption) | assumption)
                            have q27 : x45_3 < (t158.size : Int) := of_decide_eq_true (by first | (with_reducible assumption) | assumption)
                            have hx27 := bt_at t158 x45_3
                            replace p27 := eq_true p27
                            replace q27 := eq_true q27
                            go_wp2
                            go_roundg k3
                            case measure => have := HJ1.out; have := HK2.out; have := HK3.out; omega
                            case rel => exact ⟨(wrap64 (x6_3 + 1)), (wrap64 (x45_3 + 1)), (by first | rfl | (simp; done) | (simp [*]; done)), (by first | rfl | (simp; done) | (simp [*]; done)), H', ⟨by have := HJ1.out; have := HK2.out; have := HK3.out; omega⟩, ⟨by repeat (first | (with_reducible first | exact HB.out | apply below_alloc | apply pw_below_drewN | apply below_drew1) | exact HB.out)⟩⟩
                          · rw [if_neg c28] at H
                            have c28b0 : ((bt t158 x45_3) == 10) = false := beq_eq_false_iff_ne.mpr c28
                            have c28b1 : ((bt t158 x45_3) != 10) = true := bne_iff_ne.mpr c28
                            have H' := Aside0.mk H
                            clear H
                            have p27 : 0 ≤ (x45_3 : Int) := of_decide_eq_true (by first | (with_reducible assumption) | assumption)
                            have q27 : x45_3 < (t158.size : Int) := of_decide_eq_true (by first | (with_reducible assumption) | assumption)
                            have hx27 := bt_at t158 x45_3
                            replace p27 := eq_true p27
                            replace q27 := eq_true q27
                            go_wp2
                            go_roundg k3
                            case measure => have := HJ1.out; have := HK2.out; have := HK3.out; omega
                            case rel => exact ⟨(x6_3), (wrap64 (x45_3 + 1)), (by first | rfl | (simp; done) | (simp [*]; done)), (by first | rfl | (simp; done) | (simp [*]; done)), H', ⟨by have := HJ1.out; have := HK2.out; have := HK3.out; omega⟩, ⟨by repeat (first | (with_reducible first | exact HB.out | apply below_alloc | apply pw_below_drewN | apply below_drew1) | exact HB.out)⟩⟩
                        · rw [if_neg c26] at H
                          exact absurd H (by simp)
                      · rw [if_neg c25] at H
                        exact absurd H (by simp)
                    · rw [if_neg c24] at H
                      have c24b0 : decide (x45_3 < (t158.size : Int)) = false := decide_eq_false c24
                      clear c24
                      by_cases c29 : x6_3 = x5_2
                      · rw [if_pos c29] at H
                        have c29b0 : (x6_3 == x5_2) = true := beq_iff_eq.mpr c29
                        have c29b1 : (x6_3 != x5_2) = false := bne_eq_false_iff_eq.mpr c29
                        clear c29
                        by_cases c30 : t158.toList = ([] : List UInt8)
                        · rw [if_pos c30] at H
                          have c30b0 : (t158.toList == ([] : List UInt8)) = true := beq_iff_eq.mpr c30
                          have c30b1 : (t158.toList != ([] : List UInt8)) = false := bne_eq_false_iff_eq.mpr c30
                          clear c30
                          obtain rfl := Option.some.inj H
                          clear hrt
                          go_wp2
                          go_ret
                          exact ⟨by first | rfl | (simp [errW_none, errW_some] <;> rfl) | (simp [*, errW_none, errW_some] <;> rfl), by repeat (first | (with_reducible first | exact HB.out | apply below_alloc | apply pw_below_drewN | apply below_drew1) | exact HB.out)⟩
                        · rw [if_neg c30] at H
                          have c30b0 : (t158.toList == ([] : List UInt8)) = false := beq_eq_false_iff_ne.mpr c30
                          have c30b1 : (t158.toList != ([] : List UInt8)) = true := bne_iff_ne.mpr c30
                          obtain ⟨ji31, hji31⟩ : ∃ j_ : Int, (wrap64 ((t158.size : Int) - 1)) = j_ := ⟨_, rfl⟩
                          replace H : (if 0 ≤ (ji31) then (if (ji31) < (t158.size : Int) then (some ((bt t158 (ji31)) == 10)) else (none)) else (none)) = some r := by first | (rw [hji31] at H; exact H) | (simp only [hji31] at H ⊢; exact H)
                          have hji31w : (IntKind.i64.wrap ((t158.size : Int) - 1)) = ji31 := (i64_w _).trans hji31
                          by_cases c32 : 0 ≤ (ji31)
                          · rw [if_pos c32] at H
                            have c32b0 : decide (0 ≤ (ji31)) = true := decide_eq_true c32
                            clear c32
                            by_cases c33 : (ji31) < (t158.size : Int)
                            · rw [if_pos c33] at H
                              have c33b0 : decide ((ji31) < (t158.size : Int)) = true := decide_eq_true c33
                              clear c33
                              obtain rfl := Option.some.inj H
                              clear hrt
                              have p34 : 0 ≤ ((ji31) : Int) := of_decide_eq_true (by first | (with_reducible assumption) | assumption)
                              have q34 : (ji31) < (t158.size : Int) := of_decide_eq_true (by first | (with_reducible assumption) | assumption)
                              have hx34 := bt_at t158 (ji31)
                              replace p34 := eq_true p34
                              replace q34 := eq_true q34
                              go_wp2
                              go_ret
                              exact ⟨by first | rfl | (simp [errW_none, errW_some] <;> rfl) | (simp only [← hji31]; first | rfl | (simp [errW_none, errW_some] <;> rfl)) | (simp [*, errW_none, errW_some] <;> rfl), by repeat (first | (with_reducible first | exact HB.out | apply below_alloc | apply pw_below_drewN | apply below_drew1) | exact HB.out)⟩
                            · rw [if_neg c33] at H
                              exact absurd H (by simp)
                          · rw [if_neg c32] at H
                            exact absurd H (by simp)
                      · rw [if_neg c29] at H
                        have c29b0 : (x6_3 == x5_2) = false := beq_eq_false_iff_ne.mpr c29
                        have c29b1 : (x6_3 != x5_2) = true := bne_iff_ne.mpr c29
                        obtain rfl := Option.some.inj H
                        clear hrt
                        go_wp2
                        go_ret
                        exact ⟨by first | rfl | (simp [errW_none, errW_some] <;> rfl) | (simp [*, errW_none, errW_some] <;> rfl), by repeat (first | (with_reducible first | exact HB.out | apply below_alloc | apply pw_below_drewN | apply below_drew1) | exact HB.out)⟩
        · rw [if_neg c13] at H
          have c13b0 : (t159 == 0) = false := beq_eq_false_iff_ne.mpr c13
          have c13b1 : (t159 != 0) = true := bne_iff_ne.mpr c13
          obtain rfl := Option.some.inj H
          clear hrt
          go_wp2_with (first | ((with_reducible refine gate_callee (f := 21) rfl ?_); refine goesL_ (some 19) rfl rfl Tryd.func21 (by kernel_rfl) rfl #[.slice A0 l0.length c0] rfl (by (try simp only [List.map_toArray, List.map_cons, List.map_nil]); first | done | rfl | (simp only [List.length_drop, List.length_take]; rfl)) ?_; (with_reducible refine (trace_Format.calls _ _ l0 t158 t159 _ ?side1 ?side2 A12.out (globt_below HGLOT.out (by repeat (first | (with_reducible first | exact HB.out | apply below_alloc | apply pw_below_drewN | apply below_drew1) | exact HB.out)))).mono ?_); (case side1 => repeat (first | exact (Kd.C_below HR0.out HB.out) | (with_reducible refine Kd.C_alloc ?_ _) | (with_reducible refine Kd.C_drewN ?_ _) | (with_reducible refine Kd.C_drew ?_))); (case side2 => exact HC0.out); rintro e w35 ⟨rfl, hb⟩; refine ⟨_, rfl, ?_⟩; have n0_ := Aside0.mk (below_step (by repeat (first | (with_reducible first | exact HB.out | apply below_alloc | apply pw_below_drewN | apply below_drew1) | exact HB.out)) hb); clear HB; have HB := n0_; clear n0_; (try clear hb); (try clear hb2); (try clear hk); (try clear hi)))
          go_ret
          exact ⟨by first | rfl | (simp [errW_none, errW_some] <;> rfl) | (simp [*, errW_none, errW_some] <;> rfl), by repeat (first | (with_reducible first | exact HB.out | apply below_alloc | apply pw_below_drewN | apply below_drew1) | exact HB.out)⟩

end Go.Proofs.YtoloooammaiipaaDoor.PL
/- What a text tells as an event, in plain words: the words behind a kind's, numerals among them; no conditions. -/
namespace Go.Proofs.YtoloooammaiipaaDoor
open Go Go.RowKit Go.Proofs.YtoloooammaiipaaDoorW.PrintWords Go.Proofs.YtoloooammaiipaaDoorW.PrintLast
set_option linter.unusedVariables false
theorem strip_ne {x y : UInt8} {p s : List UInt8} (h : x ≠ y) : stripL (x :: p) (y :: s) = none := by
  unfold stripL
  rw [if_neg]
  rw [List.length_cons, List.take_succ_cons]
  intro e
  exact h (List.cons.inj e).1.symm
theorem strip_app (p s : List UInt8) : stripL p (p ++ s) = some s := by
  unfold stripL
  rw [List.take_left, if_pos rfl, List.drop_left]
theorem words_of (X : List UInt8) : ((cutL 32 (X ++ [32])).map strOf).take ((X ++ [32]).count 32) = (cutL 32 X).map strOf := by
  have h1 := cutL_length 32 X
  have e : (X ++ [32]).count 32 = ((cutL 32 X).map strOf).length := by
    rw [List.length_map, h1, List.count_append]
    rfl
  rw [e, cutL_snoc_hit, List.map_append, List.take_left]
/-- A text that begins with a kind's words and a blank. -/
theorem readRow_app (r : KRow) (X : List UInt8) : readRow (r.1 ++ 32 :: X) r = fillO r.2.1 r.2.2.1 r.2.2.2 ((cutL 32 X).map strOf) := by
  unfold readRow
  have e : (r.1 ++ 32 :: X) ++ [32] = (r.1 ++ [32]) ++ (X ++ [32]) := by simp
  rw [e, strip_app, Option.bind_some, words_of]
theorem readRow_bare (r : KRow) : readRow r.1 r = fillO r.2.1 r.2.2.1 r.2.2.2 [] := by
  unfold readRow
  have e := strip_app (r.1 ++ [32]) []
  rw [List.append_nil] at e
  rw [e, Option.bind_some]
  rfl
theorem digit_char (u : Nat) : ∀ c ∈ Lib.decDigits u, 48 ≤ c.toNat ∧ c.toNat ≤ 57 := by
  induction u using Nat.strongRecOn with
  | _ u ih =>
    intro c hc
    by_cases h : u < 10
    · rw [Lib.decDigits_one h] at hc
      rw [List.mem_singleton.1 hc]
      have : (UInt8.ofNat (48 + u)).toNat = 48 + u := by simp; omega
      omega
    · rw [decDigits_step h] at hc
      rcases List.mem_append.1 hc with hc | hc
      · exact ih (u / 10) (by omega) c hc
      · rw [List.mem_singleton.1 hc]
        have : (UInt8.ofNat (48 + u % 10)).toNat = 48 + u % 10 := by simp; omega
        omega
theorem itoa_char (v : Int) : ∀ c ∈ Lib.itoa v, c = 45 ∨ (48 ≤ c.toNat ∧ c.toNat ≤ 57) := by
  unfold Lib.itoa
  intro c hc
  split at hc
  · rcases List.mem_cons.1 hc with rfl | hc
    · exact Or.inl rfl
    · exact Or.inr (digit_char _ c hc)
  · exact Or.inr (digit_char _ c hc)
theorem itoa_clean (v : Int) : (32 : UInt8) ∉ Lib.itoa v ∧ (10 : UInt8) ∉ Lib.itoa v := by
  constructor
  · intro h
    rcases itoa_char v 32 h with h | h
    · exact absurd h (by decide)
    · exact absurd h (by decide)
  · intro h
    rcases itoa_char v 10 h with h | h
    · exact absurd h (by decide)
    · exact absurd h (by decide)
theorem itoa_ne (v : Int) : Lib.itoa v ≠ [] := by
  unfold Lib.itoa
  split
  · simp
  · exact decDigits_ne _
/-- A kind's number. -/
def kRow (i : Nat) : KRow := kRows.getD i ([], false, false, false)
end Go.Proofs.YtoloooammaiipaaDoor
/- The law TraceLines, in plain words: a text has a line for each event, each output, and each time that the power went; conditions: steps of bytes, which weigh at most 1048576. -/
namespace Go.Proofs.YtoloooammaiipaaDoor
open Go Go.RowKit Go.Proofs.YtoloooammaiipaaDoor.PI Go.Proofs.YtoloooammaiipaaDoorW.PrintWords Go.Proofs.YtoloooammaiipaaDoorW.PrintLast
set_option linter.unusedVariables false
theorem wrap_small {n : Nat} (h : n ≤ 1000000000) : wrap64 (n : Int) = (n : Int) := wrap_fit (by omega) (by omega)
theorem wrap_plus {a b : Nat} (h : a + b ≤ 1000000000) : wrap64 ((a : Int) + (b : Int)) = ((a + b : Nat) : Int) := by
  rw [← wrap_small h]
  rfl
theorem wrap_one (i : Nat) (h : i ≤ 100000000) : wrap64 ((i : Int) + 1) = ((i + 1 : Nat) : Int) := wrap_plus (b := 1) (by omega)
theorem wtO_take (L : List Oup) (i : Nat) (h : i < L.length) : wtO (L.take (i + 1)) = wtO (L.take i) + (1 + (L[i]'h).f1.length) := by
  rw [List.take_succ_eq_append_getElem h]
  unfold wtO
  rw [List.map_append, List.sum_append]
  simp
theorem wtL_take (l : List Stp) (i : Nat) (h : i < l.length) : wtL (l.take (i + 1)) = wtL (l.take i) + wtS (l[i]'h) := by
  rw [List.take_succ_eq_append_getElem h]
  unfold wtL
  rw [List.map_append, List.sum_append]
  simp
theorem wtO_take_le (L : List Oup) (i : Nat) : wtO (L.take i) ≤ wtO L := by
  have h : wtO L = wtO (L.take i) + wtO (L.drop i) := by
    unfold wtO
    rw [← List.sum_append, ← List.map_append, List.take_append_drop]
  omega
/-- What steps weigh, counted by the law's own loop: a step's outputs. -/
theorem great_in (l : List Stp) (hw : wtL l ≤ 1048576) (i : Nat) (hi : i < l.length) : ∀ (d j k : Nat), j + d = ((l[i]'hi).f1).length → d < k → ∃ k', k' + d + 1 = k ∧
    PL.lamplighterlaw19_great.l1 k ((wtL (l.take i) + (1 + (l[i]'hi).f0.f3.length) + wtO ((l[i]'hi).f1.take j) : Nat) : Int) l (l.length : Int) (i : Int) (l[i]'hi).f1 (((l[i]'hi).f1).length : Int) (j : Int)
      = PL.lamplighterlaw19_great.l0 k' ((wtL (l.take (i + 1)) : Nat) : Int) l (l.length : Int) ((i + 1 : Nat) : Int)
  | 0, j, k, hj, hk => by
    obtain ⟨k, rfl⟩ : ∃ n, k = n + 1 := ⟨k - 1, by omega⟩
    refine ⟨k, rfl, ?_⟩
    obtain rfl : j = ((l[i]'hi).f1).length := by omega
    have hl := wtL_len l
    rw [PL.lamplighterlaw19_great.l1, if_neg (by omega), wrap_one i (by omega), wtL_take l i hi, List.take_length]
    unfold wtS
    congr 1
    omega
  | d + 1, j, k, hj, hk => by
    obtain ⟨k, rfl⟩ : ∃ n, k = n + 1 := ⟨k - 1, by omega⟩
    have hjl : j < ((l[i]'hi).f1).length := by omega
    have h1 := wtL_take l i hi
    have h2 := wtL_take_le l (i + 1)
    have h3 := wtO_take (l[i]'hi).f1 j hjl
    have h4 := wtO_take_le (l[i]'hi).f1 (j + 1)
    have h5 := wtO_len (l[i]'hi).f1
    have h6 : wtS (l[i]'hi) = 1 + (l[i]'hi).f0.f3.length + wtO (l[i]'hi).f1 := rfl
    have hr := rd_out hjl
    rw [PL.lamplighterlaw19_great.l1, if_pos (by omega), if_pos (by omega), if_pos (by omega), hr]
    have e1 := Lib.hid (show wrap64 (1 + ((((l[i]'hi).f1)[j]'hjl).f1.length : Int)) = ((1 + (((l[i]'hi).f1)[j]'hjl).f1.length : Nat) : Int) from wrap_plus (a := 1) (by omega))
    rw [e1.out, wrap_plus (by omega), wrap_one j (by omega)]
    obtain ⟨k', hk', he⟩ := great_in l hw i hi d (j + 1) k (by omega) (by omega)
    refine ⟨k', by omega, ?_⟩
    rw [← he, h3]
    congr 1
    omega
theorem great_out (l : List Stp) (hw : wtL l ≤ 1048576) : ∀ (d i k : Nat), i + d = l.length → 3000000 ≤ k + wtL (l.take i) + i → 
    PL.lamplighterlaw19_great.l0 k ((wtL (l.take i) : Nat) : Int) l (l.length : Int) (i : Int) = some (decide (1500 < wtL l))
  | 0, i, k, hi, hk => by
    have hl := wtL_len l
    have ht := wtL_take_le l i
    obtain ⟨k, rfl⟩ : ∃ n, k = n + 1 := ⟨k - 1, by omega⟩
    obtain rfl : i = l.length := by omega
    rw [PL.lamplighterlaw19_great.l0, if_neg (by omega), List.take_length]
    congr 1
    apply decide_eq_decide.2
    omega
  | d + 1, i, k, hi, hk => by
    have hl := wtL_len l
    have ht := wtL_take_le l i
    obtain ⟨k, rfl⟩ : ∃ n, k = n + 1 := ⟨k - 1, by omega⟩
    have hil : i < l.length := by omega
    have h1 := wtL_take l i hil
    have h2 := wtL_take_le l (i + 1)
    have h6 : wtS (l[i]'hil) = 1 + (l[i]'hil).f0.f3.length + wtO (l[i]'hil).f1 := rfl
    have h5 := wtO_len (l[i]'hil).f1
    have hr := rd_step hil
    rw [PL.lamplighterlaw19_great.l0, if_pos (by omega), if_pos (by omega), if_pos (by omega), hr]
    have e1 := Lib.hid (show wrap64 (1 + ((l[i]'hil).f0.f3.length : Int)) = ((1 + (l[i]'hil).f0.f3.length : Nat) : Int) from wrap_plus (a := 1) (by omega))
    rw [e1.out, wrap_plus (by omega)]
    obtain ⟨k', hk', he⟩ := great_in l hw i hil ((l[i]'hil).f1.length) 0 k (by omega) (by omega)
    have e0 : wtO ((l[i]'hil).f1.take 0) = 0 := rfl
    rw [e0, Nat.add_zero] at he
    rw [show (0 : Int) = ((0 : Nat) : Int) from rfl, he]
    exact great_out l hw d (i + 1) k' (by omega) (by omega)
theorem great_is (l : List Stp) (hw : wtL l ≤ 1048576) (k : Nat) (hk : 3000000 ≤ k) : PL.lamplighterlaw19_great.f k l = some (decide (1500 < wtL l)) := great_out l hw l.length 0 k (by omega) (by omega)
/-- A step's lines, counted. -/
def lnS (x : Stp) : Nat := 1 + x.f1.length + (if x.f2 = true then 1 else 0)
def lnL (l : List Stp) : Nat := (l.map lnS).sum
theorem lnL_take (l : List Stp) (i : Nat) (h : i < l.length) : lnL (l.take (i + 1)) = lnL (l.take i) + lnS (l[i]'h) := by
  rw [List.take_succ_eq_append_getElem h]
  unfold lnL
  rw [List.map_append, List.sum_append]
  simp
theorem lnS_le (x : Stp) : lnS x ≤ 1 + wtS x := by
  have := wtO_len x.f1
  unfold lnS wtS
  split <;> omega
theorem lnL_le (l : List Stp) : lnL l ≤ l.length + wtL l := by
  induction l with
  | nil => exact Nat.zero_le _
  | cons x r ih =>
    have e1 : lnL (x :: r) = lnS x + lnL r := by simp [lnL]
    have e2 : wtL (x :: r) = wtS x + wtL r := by simp [wtL]
    have := lnS_le x
    rw [e1, e2, List.length_cons]
    omega
theorem lnL_take_le (l : List Stp) (i : Nat) : lnL (l.take i) ≤ lnL l := by
  have h : lnL l = lnL (l.take i) + lnL (l.drop i) := by
    unfold lnL
    rw [← List.sum_append, ← List.map_append, List.take_append_drop]
  omega
theorem hexD_char : ∀ n : Fin 16, hexD n.1 ≠ 10 ∧ hexD n.1 ≠ 32 := by decide
theorem hexL_char (l : List Int) (h : ∀ x ∈ l, 0 ≤ x ∧ x ≤ 255) : ∀ c ∈ hexL l, c ≠ 10 ∧ c ≠ 32 := by
  intro c hc
  unfold hexL at hc
  obtain ⟨x, hx, hc⟩ := List.mem_flatMap.1 hc
  have hb := h x hx
  rcases List.mem_cons.1 hc with rfl | hc
  · exact hexD_char ⟨x.toNat / 16, by omega⟩
  · rw [List.mem_singleton.1 hc]
    exact hexD_char ⟨x.toNat % 16, by omega⟩
theorem hexT_char (l : List Int) (h : ∀ x ∈ l, 0 ≤ x ∧ x ≤ 255) : ∀ c ∈ hexT l, c ≠ 10 ∧ c ≠ 32 := by
  unfold hexT
  split
  · intro c hc
    rw [List.mem_singleton.1 hc]
    exact ⟨by decide, by decide⟩
  · exact hexL_char l h
theorem words_char (k : Nat) : (10 : UInt8) ∉ (kRows.getD k ([], false, false, false)).1 := by
  by_cases hk : k < 9
  · have key : ∀ j : Fin 9, (10 : UInt8) ∉ (kRows.getD j.1 ([], false, false, false)).1 := by decide
    exact key ⟨k, hk⟩
  · rw [List.getD_eq_getElem?_getD, List.getElem?_eq_none (by show 9 ≤ _; omega)]
    exact fun h => by cases h
theorem evO_clean (x : Stp) (h : StOK x) : (10 : UInt8) ∉ (evO x).1 := by
  have h1 := words_char x.f0.f0.toNat
  have h2 := fun hc => (hexT_char x.f0.f3 h.2.2.1 10 hc).1 rfl
  have h3 := (itoa_clean x.f0.f1).2
  have h4 := (itoa_clean x.f0.f2).2
  unfold evO eventO
  split
  · exact fun h => by cases h
  split
  · exact fun h => by cases h
  unfold evText
  intro hm
  rcases List.mem_append.1 hm with hm | hm
  · rcases List.mem_append.1 hm with hm | hm
    · rcases List.mem_append.1 hm with hm | hm
      · exact h1 hm
      · split at hm
        · rcases List.mem_cons.1 hm with hm | hm
          · exact absurd hm (by decide)
          · exact h2 hm
        · cases hm
    · split at hm
      · rcases List.mem_cons.1 hm with hm | hm
        · exact absurd hm (by decide)
        · exact h3 hm
      · cases hm
  · split at hm
    · rcases List.mem_cons.1 hm with hm | hm
      · exact absurd hm (by decide)
      · exact h4 hm
    · cases hm
theorem count_out (o : Oup) (h : OuOK o) : (outText o).count 10 = 1 := by
  have h2 : (hexT o.f1).count 10 = 0 := List.count_eq_zero.2 (fun hc => (hexT_char o.f1 h 10 hc).1 rfl)
  unfold outText
  rw [List.count_append, List.count_append, h2]
  split <;> rfl
theorem count_outs (L : List Oup) (h : ∀ o ∈ L, OuOK o) : (outsText L).count 10 = L.length := by
  induction L with
  | nil => rfl
  | cons o r ih =>
    have e1 : outsText (o :: r) = outText o ++ outsText r := by simp [outsText]
    rw [e1, List.count_append, count_out o (h o List.mem_cons_self), ih (fun x hx => h x (List.mem_cons_of_mem _ hx)), List.length_cons]
    omega
theorem count_step (x : Stp) (h : StOK x) : (stepText x).count 10 = lnS x := by
  have h1 : (evO x).1.count 10 = 0 := List.count_eq_zero.2 (evO_clean x h)
  have h2 := count_outs x.f1 h.2.2.2
  unfold stepText lnS
  rw [List.count_append, List.count_append, List.count_append, h1, h2]
  split
  · show 0 + 1 + (x.f1.length + 1) = _
    omega
  · show 0 + 1 + (x.f1.length + 0) = _
    omega
theorem count_fmt (l : List Stp) (h : ∀ x ∈ l, StOK x) : (fmtL l).count 10 = lnL l := by
  induction l with
  | nil => rfl
  | cons x r ih =>
    have e1 : fmtL (x :: r) = stepText x ++ fmtL r := by simp [fmtL]
    have e2 : lnL (x :: r) = lnS x + lnL r := by simp [lnL]
    rw [e1, e2, List.count_append, count_step x (h x List.mem_cons_self), ih (fun y hy => h y (List.mem_cons_of_mem _ hy))]
theorem outs_last (L : List Oup) : L = [] ∨ ∃ a, outsText L = a ++ [10] := by
  rcases List.eq_nil_or_concat L with rfl | ⟨r, o, rfl⟩
  · exact Or.inl rfl
  · right
    refine ⟨outsText r ++ ((if o.f0 = true then [98, 97, 99, 107, 32] else [111, 110, 32]) ++ hexT o.f1), ?_⟩
    unfold outsText
    rw [List.concat_eq_append, List.flatMap_append, List.flatMap_singleton]
    unfold outText
    simp
theorem step_last (x : Stp) : ∃ a, stepText x = a ++ [10] := by
  unfold stepText
  split
  · exact ⟨((evO x).1 ++ [10]) ++ (outsText x.f1 ++ [103, 111, 110, 101]), by simp⟩
  · rcases outs_last x.f1 with h | ⟨a, h⟩
    · rw [h]
      exact ⟨(evO x).1, by simp [outsText]⟩
    · rw [h]
      exact ⟨((evO x).1 ++ [10]) ++ a, by simp⟩
theorem fmt_last (l : List Stp) : l = [] ∨ ∃ a, fmtL l = a ++ [10] := by
  rcases List.eq_nil_or_concat l with rfl | ⟨r, x, rfl⟩
  · exact Or.inl rfl
  · right
    obtain ⟨a, ha⟩ := step_last x
    refine ⟨fmtL r ++ a, ?_⟩
    unfold fmtL
    rw [List.concat_eq_append, List.flatMap_append, List.flatMap_singleton, ha, List.append_assoc]
theorem want_loop (t : ByteArray) (l : List Stp) (hw : wtL l ≤ 10000) : ∀ (d i k : Nat), i + d = l.length → PL.lamplighterlaw19_TraceLines.l0 (k + d + 1) t ((lnL (l.take i) : Nat) : Int) 0 l (l.length : Int) (i : Int) = PL.lamplighterlaw19_TraceLines.l1 k t ((lnL l : Nat) : Int) 0 (t.size : Int) 0
  | 0, i, k, hi => by
    obtain rfl : i = l.length := by omega
    rw [PL.lamplighterlaw19_TraceLines.l0, if_neg (by omega), List.take_length]
  | d + 1, i, k, hi => by
    have hil : i < l.length := by omega
    have hl := wtL_len l
    have h0 := lnL_le l
    have h1 := lnL_take l i hil
    have h2 := lnL_take_le l (i + 1)
    have h3 := rd_step hil
    have h5 : lnS (l[i]'hil) = 1 + (l[i]'hil).f1.length + (if (l[i]'hil).f2 = true then 1 else 0) := rfl
    have ih := want_loop t l hw d (i + 1) k (by omega)
    have g1 : lnL (l.take i) + (1 + (l[i]'hil).f1.length) + 1 ≤ 100000 := by
      split at h5 <;> omega
    rw [PL.lamplighterlaw19_TraceLines.l0, if_pos (by omega), if_pos (by omega), if_pos (by omega), h3]
    have e1 := Lib.hid (show wrap64 (1 + ((l[i]'hil).f1.length : Int)) = ((1 + (l[i]'hil).f1.length : Nat) : Int) from wrap_plus (a := 1) (by omega))
    rw [e1.out, wrap_plus (by omega), wrap_one i (by omega)]
    by_cases hc : (l[i]'hil).f2 = true
    · rw [if_pos hc, wrap_one _ (by omega), ← ih, h1, h5, if_pos hc]
      congr 1
    · rw [if_neg hc, ← ih, h1, h5, if_neg hc]
      congr 1
theorem line_loop (t : ByteArray) (ht : t.size ≤ 1000000) (want : Nat) : ∀ (d j k : Nat), j + d = t.size → PL.lamplighterlaw19_TraceLines.l1 (k + d + 1) t (want : Int) (((t.data.toList.take j).count 10 : Nat) : Int) (t.size : Int) (j : Int) = PL.lamplighterlaw19_TraceLines.l1 (k + 1) t (want : Int) ((t.data.toList.count 10 : Nat) : Int) (t.size : Int) (t.size : Int)
  | 0, j, k, hj => by
    obtain rfl : j = t.size := by omega
    rw [List.take_of_length_le (by rw [len_size]; exact Nat.le_refl _)]
  | d + 1, j, k, hj => by
    have hl := len_size t
    have hjt : j < t.size := by omega
    have hc : (t.data.toList.take j).count 10 ≤ j := Nat.le_trans List.count_le_length (by rw [List.length_take]; omega)
    have ih := line_loop t ht want d (j + 1) k (by omega)
    have htk := take_one t.data.toList j (by omega)
    have hb := bt_list t j hjt 10 (by omega)
    rw [PL.lamplighterlaw19_TraceLines.l1, if_pos (by omega), if_pos (by omega), if_pos (by omega), wrap_one j (by omega), wrap_one _ (by omega)]
    by_cases h : bt t (j : Int) = 10
    · rw [if_pos h, ← ih, htk, List.count_append]
      have hx := hb.1 h
      rw [hx]
      rfl
    · rw [if_neg h, ← ih, htk, List.count_append]
      have hx : ¬ (t.data.toList[j]'(by omega)) = 10 := fun e => h (hb.2 e)
      have hz : [t.data.toList[j]'(by omega)].count 10 = 0 := List.count_eq_zero.2 (fun hm => hx (List.mem_singleton.1 hm).symm)
      rw [hz]
      rfl
namespace Pure
theorem TraceLines (l0 : List Stp) (q0 : ∀ x ∈ l0, StOK x) (w0 : wtL l0 ≤ 1048576) : ∃ k, PL.lamplighterlaw19_TraceLines.f k l0 = some true := by
  refine ⟨4000000, ?_⟩
  have hA : PL.lamplighterlaw19_alive.f = some true := rfl
  unfold PL.lamplighterlaw19_TraceLines.f
  rw [hA, Option.bind_some, if_pos rfl, great_is l0 w0 _ (by decide), Option.bind_some, show (4000000 : Nat) = 3999999 + 1 from rfl, PL.lamplighterlaw19_TraceLines.j0]
  by_cases hg : 1500 < wtL l0
  · rw [if_pos (decide_eq_true hg), hA]
    rfl
  have hF : PL.trace_Format.f l0 = some (strOf (formatO l0).1, (formatO l0).2) := if_pos ⟨q0, by omega⟩
  rw [if_neg (by rw [decide_eq_true_eq]; exact hg), hF, Option.bind_some]
  simp only
  unfold formatO
  cases hf : l0.find? (fun x => (evO x).2 != 0) with
  | some x =>
    have hx : (evO x).2 ≠ 0 := by simpa using List.find?_some hf
    simp only
    rw [if_neg hx, strOf_list]
    rfl
  | none =>
    simp only
    rw [if_pos trivial]
    have hln := lnL_le l0
    have hwl := wtL_len l0
    have hfl := fmtL_len l0 q0
    have hts : (strOf (fmtL l0)).size ≤ 1000000 := by rw [strOf_size]; omega
    have hlen := strOf_size (fmtL l0)
    obtain ⟨k1, hk1⟩ : ∃ k1, 3999999 = k1 + l0.length + 1 := ⟨3999999 - l0.length - 1, by omega⟩
    obtain ⟨k2, hk2⟩ : ∃ k2, k1 = k2 + (strOf (fmtL l0)).size + 1 := ⟨k1 - (strOf (fmtL l0)).size - 1, by omega⟩
    have hz : (0 : Int) = ((lnL (l0.take 0) : Nat) : Int) := rfl
    have hw1 := want_loop (strOf (fmtL l0)) l0 (by omega) l0.length 0 k1 (by omega)
    have hl1 := line_loop (strOf (fmtL l0)) hts (lnL l0) (strOf (fmtL l0)).size 0 k2 (by omega)
    rw [hk1]
    refine hw1.trans ?_
    rw [hk2]
    refine hl1.trans ?_
    rw [PL.lamplighterlaw19_TraceLines.l1, if_neg (by omega), strOf_data, count_fmt l0 q0, if_pos rfl, strOf_list]
    rcases fmt_last l0 with h | ⟨a, h⟩
    · rw [h]
      rfl
    · have hal : (fmtL l0).length = a.length + 1 := by rw [h]; simp
      have e : wrap64 (((strOf (fmtL l0)).size : Int) - 1) = (a.length : Int) := by rw [wrap_fit (by omega) (by omega)]; omega
      have hne : ¬ fmtL l0 = [] := by rw [h]; simp
      rw [if_neg hne, e, if_pos (by omega), if_pos (by omega)]
      have hb := (bt_list (strOf (fmtL l0)) a.length (by omega) 10 (by omega)).2 (by
        have h2 : ∀ (s : List UInt8) (hs : s = a ++ [10]) (hh : a.length < s.length), s[a.length]'hh = UInt8.ofNat (10 : Int).toNat := by
          rintro s rfl hh
          simp
        exact h2 _ (by rw [strOf_data, h]) _)
      rw [hb]
      rfl
end Pure
end Go.Proofs.YtoloooammaiipaaDoor
/- A slice of steps as an argument: what it holds, how much its reading counts, and that its reading stays while the memory that was there stays; condition: it reads at its type. -/
namespace Go.Proofs.YtoloooammaiipaaDoor.OpenSt
open Go Go.Deep Go.ChangeShapes Go.WideShapes Go.ChangeAt Go.RowKit Go.Proofs.YtoloooammaiipaaDoor Go.Proofs.YtoloooammaiipaaDoor.PI Go.Proofs.YtoloooammaiipaaDoorW.PrintWords Go.Proofs.YtoloooammaiipaaDoorW.PrintLast
set_option linter.unusedVariables false

theorem laidOut : laidOutB Tryd.prog = true := by kernel_rfl
section
variable {H : Type} {enc : TypeId × Value → H} {W : World}
/-- Elements of a kind, as a row's reading gives them. -/
theorem choose_all {β : Type} {α : Type} {l : List β} {R : Nat → β → α → Prop} (h : ∀ (i : Nat) (b : β), l[i]? = some b → ∃ a, R i b a) : ∃ ys : List α, ys.length = l.length ∧ ∀ (i : Nat) (b : β), l[i]? = some b → ∃ a, ys[i]? = some a ∧ R i b a := by
  induction l generalizing R with
  | nil => exact ⟨[], rfl, fun i b hb => by simp at hb⟩
  | cons x r ih =>
    obtain ⟨a, ha⟩ := h 0 x rfl
    obtain ⟨ys, hl, hy⟩ := ih (R := fun i b a => R (i + 1) b a) (fun i b hb => h (i + 1) b (by simpa using hb))
    refine ⟨a :: ys, by simp [hl], fun i b hb => ?_⟩
    cases i with
    | zero =>
      simp only [List.getElem?_cons_zero, Option.some.injEq] at hb
      subst hb
      exact ⟨a, rfl, ha⟩
    | succ i => exact hy i b (by simpa using hb)
theorem bulk_all (l : List (DataW H)) : Rows.uptoBulkAll l = (l.map Rows.uptoBulk).sum := by
  induction l with
  | nil => rfl
  | cons x r ih => simp only [Rows.uptoBulkAll, ih, List.map_cons, List.sum_cons]
theorem sum_le {α β : Type} {ys : List α} {xs : List β} {f : α → Nat} {g : β → Nat} (hl : ys.length = xs.length) (h : ∀ (i : Nat) (b : β), xs[i]? = some b → ∃ a, ys[i]? = some a ∧ f a ≤ g b) : (ys.map f).sum ≤ (xs.map g).sum := by
  induction xs generalizing ys with
  | nil =>
    obtain rfl := List.eq_nil_of_length_eq_zero hl
    exact Nat.le_refl _
  | cons x r ih =>
    obtain ⟨a, ha, hfg⟩ := h 0 x rfl
    cases ys with
    | nil => simp at ha
    | cons y s =>
      simp only [List.getElem?_cons_zero, Option.some.injEq] at ha
      subst ha
      have := ih (ys := s) (by simpa using hl) (fun i b hb => by simpa using h (i + 1) b (by simpa using hb))
      simp only [List.map_cons, List.sum_cons]
      omega
theorem open_row {α : Type} (d : Kd α) {e t : TypeId} (ht : Tryd.prog.underlying t = some (.slice e)) (hce : Tryd.prog.cellsOf e = d.sz) (Q : α → Prop) (wt : α → Nat) {fuel : Nat} {cs : List Value} {x : DataW H × List MemPlace}
    (elem : ∀ (n : Nat) (cs : List Value) (x : DataW H × List MemPlace), DataW.trod enc Tryd.prog W 0 (fun _ => true) true n e cs = some x → ∃ a, d.K W a cs ∧ Q a ∧ wt a ≤ Rows.uptoBulk x.1)
    (h : DataW.trod enc Tryd.prog W 0 (fun _ => true) true fuel t cs = some x) :
    ∃ (A : Option Addr) (l : List α) (c : Nat), cs = [.slice A l.length c] ∧ l.length ≤ c ∧ d.C W A l.length l ∧ (∀ a ∈ l, Q a) ∧ (l.map wt).sum + 1 ≤ Rows.uptoBulk x.1 := by
  rcases DataW.trod_slice ht h with ⟨rfl, rfl⟩ | ⟨ad, len, cap, elems, rest, n, rfl, rfl, rfl, -, hl, hm, hlen, hel, -, -⟩
  · exact ⟨none, [], 0, rfl, Nat.le_refl _, ⟨rfl, by simp, fun h => absurd h (by simp)⟩, (fun a ha => by cases ha), Nat.le_refl 1⟩
  · have key : ∀ (i : Nat) (b : DataW H × List MemPlace), elems[i]? = some b → ∃ a : α, (∃ c, c.length = d.sz ∧ d.K W a c ∧ ∀ j u, c[j]? = some u → W.cell? (ad.add (i * d.sz + j)) = some u) ∧ Q a ∧ wt a ≤ Rows.uptoBulk b.1 := fun i b hb => by
      have hi : i < len := by
        have := (List.getElem?_eq_some_iff.1 hb).1
        omega
      have h1 := hel i hi
      rw [hb, hce] at h1
      obtain ⟨c, hc, hx⟩ := Option.bind_eq_some_iff.1 h1
      obtain ⟨-, hcl, hcc⟩ := World.cells?_some hc
      obtain ⟨a, hK, hQ, hw⟩ := elem n c b hx
      refine ⟨a, ⟨c, hcl, hK, fun j u hu => ?_⟩, hQ, hw⟩
      have hj : j < d.sz := by
        have := (List.getElem?_eq_some_iff.1 hu).1
        omega
      have h2 := hcc j hj
      rw [Deep.add_add] at h2
      rw [h2, hu]
    obtain ⟨ys, hyl, hy⟩ := choose_all key
    have hyn : ys.length = len := by omega
    refine ⟨some ad, ys, cap, by rw [hyn], by omega, ⟨rfl, by rw [hyn]; unfold maxLen at hm; omega, fun _ => ⟨ad, rfl, fun j p hp => ?_⟩⟩, fun a ha => ?_, ?_⟩
    · have hj : j < elems.length := by
        have := (List.getElem?_eq_some_iff.1 hp).1
        omega
      obtain ⟨a, ha, hR, -, -⟩ := hy j _ (List.getElem?_eq_getElem hj)
      obtain rfl := Option.some.inj (hp.symm.trans ha)
      exact hR
    · obtain ⟨j, hj, rfl⟩ := List.mem_iff_getElem.1 ha
      obtain ⟨a', ha', -, hq, -⟩ := hy j _ (List.getElem?_eq_getElem (by omega : j < elems.length))
      obtain rfl := Option.some.inj ((List.getElem?_eq_getElem hj).symm.trans ha')
      exact hq
    · have h1 := sum_le (f := wt) (g := fun b : DataW H × List MemPlace => Rows.uptoBulk b.1) hyl (fun i b hb => by
        obtain ⟨a, ha, -, -, hw⟩ := hy i b hb
        exact ⟨a, ha, hw⟩)
      have h2 : (elems.map fun b => Rows.uptoBulk b.1).sum = Rows.uptoBulkAll (elems.map (·.1)) := by
        rw [bulk_all, List.map_map]
        rfl
      simp only [Rows.uptoBulk]
      omega
theorem byte_wf {a : Int} (ha : (Lit.int .u8 a).wf = true) : 0 ≤ a ∧ a ≤ 255 := by simpa [Lit.wf, IntKind.min, IntKind.max, IntKind.signed, IntKind.bits] using ha
theorem int_wf {a : Int} (ha : (Lit.int .i64 a).wf = true) : -9223372036854775808 ≤ a ∧ a ≤ 9223372036854775807 := by simpa [Lit.wf, IntKind.min, IntKind.max, IntKind.signed, IntKind.bits] using ha
theorem sum_ones (l : List Int) : (l.map fun _ => 1).sum = l.length := by
  induction l with
  | nil => rfl
  | cons x r ih => rw [List.map_cons, List.sum_cons, ih, List.length_cons]; omega
theorem open_data {n : Nat} {cs : List Value} {x : DataW H × List MemPlace} (h : DataW.trod enc Tryd.prog W 0 (fun _ => true) true n 22 cs = some x) :
    ∃ (A : Option Addr) (l : List Int) (c : Nat), cs = [.slice A l.length c] ∧ l.length ≤ c ∧ (Kd.int .u8).C W A l.length l ∧ (∀ a ∈ l, 0 ≤ a ∧ a ≤ 255) ∧ l.length + 1 ≤ Rows.uptoBulk x.1 := by
  obtain ⟨A, l, c, h1, h2, h3, h4, h5⟩ := open_row (Kd.int .u8) (e := 5) Tryd.underlying22 (by kernel_rfl) (fun a => 0 ≤ a ∧ a ≤ 255) (fun _ => 1) (fun n cs x hx => by
    obtain ⟨z, rfl, rfl, hw⟩ := DataW.trod_int Tryd.underlying5 hx
    exact ⟨z, rfl, byte_wf hw, Nat.le_refl 1⟩) h
  rw [sum_ones] at h5
  exact ⟨A, l, c, h1, h2, h3, h4, h5⟩
theorem two_of {xs : List (DataW H × List MemPlace)} (h : xs.length = 2) : ∃ a b, xs = [a, b] := by
  match xs, h with
  | [a, b], _ => exact ⟨a, b, rfl⟩
theorem three_of {xs : List (DataW H × List MemPlace)} (h : xs.length = 3) : ∃ a b c, xs = [a, b, c] := by
  match xs, h with
  | [a, b, c], _ => exact ⟨a, b, c, rfl⟩
theorem four_of {xs : List (DataW H × List MemPlace)} (h : xs.length = 4) : ∃ a b c d, xs = [a, b, c, d] := by
  match xs, h with
  | [a, b, c, d], _ => exact ⟨a, b, c, d, rfl⟩
set_option maxRecDepth 100000 in
theorem open_out {n : Nat} {cs : List Value} {x : DataW H × List MemPlace} (h : DataW.trod enc Tryd.prog W 0 (fun _ => true) true n 56 cs = some x) : ∃ a : Oup, k56.K W a cs ∧ OuOK a ∧ 1 + a.f1.length ≤ Rows.uptoBulk x.1 := by
  obtain ⟨xs, m, rfl, rfl, hl, hn, hf⟩ := DataW.trod_struct Tryd.underlying56 h
  obtain ⟨a, b, rfl⟩ := two_of hn
  have hl2 : cs.length = 2 := hl.trans (by kernel_rfl)
  match cs, hl2 with
  | [v0, v1], _ =>
    have f0 : DataW.trod enc Tryd.prog W 0 (fun _ => true) true m 4 [v0] = some a := hf 0 _ rfl
    have f1 : DataW.trod enc Tryd.prog W 0 (fun _ => true) true m 22 [v1] = some b := hf 1 _ rfl
    obtain ⟨b0, e0, rfl⟩ := DataW.trod_bool Tryd.underlying4 f0
    obtain ⟨A, l, c, e1, hc, hC, hb, hw⟩ := open_data f1
    obtain rfl : v0 = .bool b0 := by simpa using e0
    obtain rfl : v1 = .slice A l.length c := by simpa using e1
    refine ⟨⟨b0, l⟩, k56_mk W ⟨b0, l⟩ hc hC, hb, ?_⟩
    simp only [List.map_cons, List.map_nil, Rows.uptoBulk, Rows.uptoBulkAll]
    omega
set_option maxRecDepth 100000 in
theorem open_event {n : Nat} {cs : List Value} {x : DataW H × List MemPlace} (h : DataW.trod enc Tryd.prog W 0 (fun _ => true) true n 29 cs = some x) :
    ∃ (k0 k1 k2 : Int) (A : Option Addr) (l : List Int) (c : Nat), cs = [.int .i64 k0, .int .i64 k1, .int .i64 k2, .slice A l.length c] ∧ ((-9223372036854775808 ≤ k1 ∧ k1 ≤ 9223372036854775807) ∧ (-9223372036854775808 ≤ k2 ∧ k2 ≤ 9223372036854775807)) ∧ l.length ≤ c ∧ (Kd.int .u8).C W A l.length l ∧ (∀ a ∈ l, 0 ≤ a ∧ a ≤ 255) ∧ 1 + l.length ≤ Rows.uptoBulk x.1 := by
  obtain ⟨xs, m, rfl, rfl, hl, hn, hf⟩ := DataW.trod_struct Tryd.underlying29 h
  obtain ⟨a, b, d, e, rfl⟩ := four_of hn
  have hl2 : cs.length = 4 := hl.trans (by kernel_rfl)
  match cs, hl2 with
  | [v0, v1, v2, v3], _ =>
    have f0 : DataW.trod enc Tryd.prog W 0 (fun _ => true) true m 3 [v0] = some a := hf 0 _ rfl
    have f1 : DataW.trod enc Tryd.prog W 0 (fun _ => true) true m 3 [v1] = some b := hf 1 _ rfl
    have f2 : DataW.trod enc Tryd.prog W 0 (fun _ => true) true m 3 [v2] = some d := hf 2 _ rfl
    have f3 : DataW.trod enc Tryd.prog W 0 (fun _ => true) true m 22 [v3] = some e := hf 3 _ rfl
    obtain ⟨z0, e0, rfl, -⟩ := DataW.trod_int Tryd.underlying3 f0
    obtain ⟨z1, e1, rfl, w1⟩ := DataW.trod_int Tryd.underlying3 f1
    obtain ⟨z2, e2, rfl, w2⟩ := DataW.trod_int Tryd.underlying3 f2
    obtain ⟨A, l, c, e3, hc, hC, hb, hw⟩ := open_data f3
    obtain rfl : v0 = .int .i64 z0 := by simpa using e0
    obtain rfl : v1 = .int .i64 z1 := by simpa using e1
    obtain rfl : v2 = .int .i64 z2 := by simpa using e2
    obtain rfl : v3 = .slice A l.length c := by simpa using e3
    refine ⟨z0, z1, z2, A, l, c, rfl, ⟨int_wf w1, int_wf w2⟩, hc, hC, hb, ?_⟩
    simp only [List.map_cons, List.map_nil, Rows.uptoBulk, Rows.uptoBulkAll]
    omega
set_option maxRecDepth 100000 in
theorem open_step {n : Nat} {cs : List Value} {x : DataW H × List MemPlace} (h : DataW.trod enc Tryd.prog W 0 (fun _ => true) true n 42 cs = some x) : ∃ a : Stp, k42.K W a cs ∧ StOK a ∧ wtS a ≤ Rows.uptoBulk x.1 := by
  obtain ⟨xs, m, rfl, rfl, hl, hn, hf⟩ := DataW.trod_struct Tryd.underlying42 h
  obtain ⟨a, b, d, rfl⟩ := three_of hn
  have hl2 : cs.length = 6 := hl.trans (by kernel_rfl)
  match cs, hl2 with
  | [v0, v1, v2, v3, v4, v5], _ =>
    have f0 : DataW.trod enc Tryd.prog W 0 (fun _ => true) true m 29 [v0, v1, v2, v3] = some a := hf 0 _ rfl
    have f1 : DataW.trod enc Tryd.prog W 0 (fun _ => true) true m 40 [v4] = some b := hf 1 _ rfl
    have f2 : DataW.trod enc Tryd.prog W 0 (fun _ => true) true m 4 [v5] = some d := hf 2 _ rfl
    obtain ⟨z0, z1, z2, A, l, c, e0, hz, hc, hC, hb, hw⟩ := open_event f0
    obtain ⟨A2, l2, c2, e1, hc2, hC2, hq2, hw2⟩ := open_row k56 (e := 56) Tryd.underlying40 (by kernel_rfl) OuOK (fun a : Oup => 1 + a.f1.length) (fun n cs x hx => open_out hx) f1
    obtain ⟨b5, e2, rfl⟩ := DataW.trod_bool Tryd.underlying4 f2
    simp only [List.cons.injEq, and_true] at e0 e1 e2
    obtain ⟨rfl, rfl, rfl, rfl⟩ := e0
    subst e1 e2
    refine ⟨⟨⟨z0, z1, z2, l⟩, l2, b5⟩, k42_mk W ⟨⟨z0, z1, z2, l⟩, l2, b5⟩ hc hC hc2 hC2, ⟨hz.1, hz.2, hb, hq2⟩, ?_⟩
    have e9 : wtO l2 = (l2.map fun a : Oup => 1 + a.f1.length).sum := rfl
    simp only [List.map_cons, List.map_nil, Rows.uptoBulk, Rows.uptoBulkAll, wtS]
    rw [e9]
    omega
end
set_option maxRecDepth 100000 in
theorem open_steps {H : Type} {enc : TypeId × Value → H} {W : World} {base : Nat} {v : Value} {d : DataW H} {p : List MemPlace} (hv : Value.okWide Tryd.prog W .any base 43 v) (h : DataW.Trod enc Tryd.prog W 0 (fun _ => true) true 43 v d p) :
    ∃ (A : Option Addr) (l : List Stp) (c : Nat), v = .slice A l.length c ∧ l.length ≤ c ∧ k42.C W A l.length l ∧ (∀ x ∈ l, StOK x) ∧ wtL l + 1 ≤ Rows.uptoBulk d ∧
      ∀ W', Below W.heap.size W W' → DataW.Trod enc Tryd.prog W' 0 (fun b => decide (b < W.heap.size)) true 43 v d p := by
  obtain ⟨a, len, cap, rfl⟩ := okWide_slice Tryd.underlying43 hv
  have k := h
  have lt : ∀ x ∈ p, x.block < W.heap.size := by obtain ⟨m, hm⟩ := k; exact DataW.trod_lt m _ _ _ hm
  obtain ⟨fuel, hf⟩ := h
  have hshut : ∀ W', Below W.heap.size W W' → DataW.Trod enc Tryd.prog W' 0 (fun b => decide (b < W.heap.size)) true 43 (.slice a len cap) d p := fun W' bel => Below.trod laidOut (by kernel_rfl) (of_decide_eq_true (by kernel_rfl)) k bel lt
  obtain ⟨A, l, c, e, hc, hC, hq, hw⟩ := open_row k42 (e := 42) Tryd.underlying43 (by kernel_rfl) StOK wtS (fun n cs x hx => open_step hx) hf
  have e2 : Value.slice a len cap = .slice A l.length c := by simpa [Value.cells] using e
  exact ⟨A, l, c, e2, hc, hC, hq, hw, hshut⟩
end Go.Proofs.YtoloooammaiipaaDoor.OpenSt
/- A world for the witness of a row that lists package-level tables and errors: each listed table holds what the row lists, each listed error a new block of its own. No conditions. -/
namespace Go.Proofs.YtoloooammaiipaaDoor.Laid
open Go Go.ChangeShapes Go.WideShapes Go.ChangeAt Go.RowKit
/-- The cells of a datum of numbers, texts and rows of them. -/
def cellsAt {H : Type} : Nat → DataW H → List Value
  | 0, _ => []
  | _ + 1, .lit (.int k n) => [.int k n]
  | _ + 1, .lit (.bool b) => [.bool b]
  | _ + 1, .lit (.string b) => [.string ⟨b.toArray⟩]
  | n + 1, .agg ps => ps.flatMap (cellsAt n)
  | _ + 1, _ => []
def layOne (P : Program) (h : Array Obj) (x : String × DataW Unit) : Array Obj :=
  match P.globalNamed x.1 with
  | some g => match x.2 with
    | .iface _ (.ptr d) => (h.push (.cells (cellsAt 5 d).toArray 140 (0, 0))).modify g fun
      | .cells _ t frozen => .cells #[.iface 138 (.pointer (some ⟨h.size, 0, none⟩))] t frozen
      | o => o
    | d => h.modify g fun
      | .cells _ t frozen => .cells (cellsAt 5 d).toArray t frozen
      | o => o
  | none => h
noncomputable def laidWorld (os : Os) : World :=
  { World.holding Tryd.prog os ⟨#[], #[], []⟩ with heap := Rows.traceBytesRow.laid.foldl (layOne Tryd.prog) (World.holding Tryd.prog os ⟨#[], #[], []⟩).heap }
set_option maxRecDepth 100000 in
theorem laid_met (os : Os) (args : Array Value) : laidMet Tryd.prog Rows.traceBytesRow.laid ((laidWorld os).forCall (fun _ _ => 0) ⟨#[], args, []⟩).memory :=
  laidMet_of_run3 8 (by kernel_rfl) (by kernel_rfl) (by kernel_rfl)
end Go.Proofs.YtoloooammaiipaaDoor.Laid

namespace Go.Proofs.YtoloooammaiipaaDoor.traceLines
open Go.ChangeShapes Go.WideShapes Go.ChangeAt Go.RowKit
open Go.ChangeMaps (open_string shut_string)
set_option linter.unusedVariables false
theorem own : ownKnob Tryd.prog.godebug = none := by kernel_rfl
theorem byte_wf {a : Int} (ha : (Lit.int .u8 a).wf = true) : 0 ≤ a ∧ a ≤ 255 := by simpa [Lit.wf, IntKind.min, IntKind.max, IntKind.signed, IntKind.bits] using ha
theorem word_wf {a : Int} (ha : (Lit.int .u16 a).wf = true) : 0 ≤ a ∧ a ≤ 65535 := by simpa [Lit.wf, IntKind.min, IntKind.max, IntKind.signed, IntKind.bits] using ha
set_option maxRecDepth 100000 in
/-- What the walk gives, for every argument. -/
theorem contract (H : Type) (enc : TypeId × Value → H) (W : World) (base : Nat) (args : Array Value) (ds gs : List (DataW H)) (before : List MemPlace)
    (hval0 : ∀ (j : Nat) t v, Tryd.f9.params[j]? = some t → args[j]? = some v → Value.okWide Tryd.prog W .any base t v)
    (hW : DataW.Whole enc Tryd.prog Tryd.f9.params.toList Rows.traceLinesSpec.vars false W args.toList ds gs before)
    (hk : Rows.uptoSmall H (ds ++ gs) = true)
    (hsz0 : (DataW.weightsEach Tryd.prog (Tryd.f9.params.toList ++ Rows.traceLinesSpec.plain.varTypes Tryd.prog) (ds ++ gs)).all (· ≤ reachBytes) = true)
    (hL : laidMetH Tryd.prog Rows.traceLinesUptoRow.laid W)
    : Calls Tryd.prog 9 args W fun e W' => ∃ v, e = .returned v ∧ Rows.traceLinesSpec.post enc Tryd.prog Tryd.f9 false true false false W args v W' := by
  have hsz := hsz0
  have hval : ∀ (j : Nat) t v, Tryd.f9.params[j]? = some t → args[j]? = some v → Value.okWide Tryd.prog W .any base t v := hval0
  have hW' := hW
  obtain ⟨p, q, hA0, hV, rfl, hfz, hnd⟩ := hW
  have hA : DataW.TrodAll enc Tryd.prog W 0 (fun _ => true) true Tryd.f9.params.toList args.toList ds p := hA0
  rw [Tryd.params9] at hA hval hsz
  obtain ⟨v0, vs0, d0, ds0, p0, q0, hargs, rfl, rfl, h0, r0⟩ := trodAll_cons hA
  obtain ⟨rfl, rfl, rfl⟩ := trodAll_nil r0
  obtain rfl : args = #[v0] := by cases args; simp_all
  obtain ⟨rfl, rfl⟩ := trodVars_none hV
  have hkb : Rows.uptoBulkAll ([d0] : List (DataW H)) ≤ 1048576 := by
    have h : Rows.uptoBulkAll ([d0] ++ ([] : List (DataW H))) ≤ 1048576 := of_decide_eq_true hk
    simpa using h
  simp only [Rows.uptoBulkAll] at hkb
  obtain ⟨A0, l0, c0, rfl, n0, r0', q0, u0, b0⟩ := OpenSt.open_steps (hval 0 43 v0 rfl rfl) h0
  clear hA0 hval0 hsz0
  obtain ⟨k, hk'⟩ := Pure.TraceLines l0 q0 (by omega)
  refine (PL.lamplighterlaw19_TraceLines.calls k A0 c0 l0 true W r0' n0 hk' rfl (globt_laid hL)).mono fun e W' ⟨he, bel⟩ => ?_
  subst he
  exact ⟨_, rfl, _, _, _, [], _, [], hW', trodAll_mk1 (shut_bool Tryd.underlying4 _), (trodAll_cons_mk (b0 _ bel) trodAll_mk0), rfl, bel.frame _, fun h => by cases h⟩
set_option maxRecDepth 100000 in
theorem lifted (os : Os) (started : os.Started) (H : Type) (enc : TypeId × Value → H) (F : Stop.Interp) :
    ReturnsInHanded {} Tryd.checked os 9 .any ((Rows.OpenSpec.upto Rows.traceLinesSpec).preRow enc Tryd.prog Tryd.f9 Rows.traceLinesUptoRow.domain false Rows.traceLinesUptoRow.laid) (((Rows.OpenSpec.upto Rows.traceLinesSpec).at F).post enc Tryd.prog Tryd.f9 false true false false) := by
  refine returnsInHanded_of_row (C := Tryd.checked) (s := (Rows.OpenSpec.upto Rows.traceLinesSpec)) own started (by kernel_rfl) Tryd.func9
    (witness_row_at (enc := enc) (C := Tryd.checked) false (Laid.laidWorld os) #[.slice none 0 0] rfl (by kernel_rfl) (by kernel_rfl) (by kernel_rfl)
      (OpenSpec.preRow_of_cond 8 (x := ([.nil], [], [])) (by kernel_rfl) (by kernel_rfl) (fun k hk => by cases hk; kernel_rfl) (by kernel_rfl) (Laid.laid_met os _))) ?_
  intro W base args ds gs before hval hW _ hcond hsz hL _ _
  exact contract H enc W base args ds gs before hval hW (hcond _ rfl) hsz hL
theorem over : Rows.traceLinesUptoRow.holds Tryd.pinned (Rows.OpenSpec.upto Rows.traceLinesSpec) :=
  OpenClaim.holds_of_cond 9 Tryd.f9 rfl rfl rfl rfl rfl rfl rfl ⟨rfl, rfl, rfl, rfl, rfl⟩ rfl rfl rfl rfl rfl (by kernel_rfl) Tryd.func9 (by kernel_rfl)
    (of_decide_eq_true (by kernel_rfl)) (by unfold Func.isWrapper; first | (rw [if_pos (by decide +kernel)]; kernel_rfl) | (rw [if_neg (by decide +kernel)]; exact ⟨rfl, rfl⟩))
    (fun os started H enc _ F => by rw [OpenClaim.pre_eq_preRow]; exact lifted os started H enc F)
theorem proved : Rows.TraceLinesUptoSaid := over
/-- No parameter wants a stand-in; the program's own looks are off. -/
theorem plain (f : FuncId) (fn : Func) (hf : Tryd.pinned.checked.prog.funcNamed "lamplighter/lamplighterlaw19.TraceLines" = some f) (hfn : Tryd.pinned.checked.prog.funcs[f]? = some fn) :
    true = Tryd.pinned.checked.prog.looks [] ∧ ∀ (j : Nat) t, fn.params[j]? = some t → Tryd.pinned.checked.prog.wantsStandIn t = false := by
  obtain rfl : f = 9 := Option.some.inj ((show Tryd.prog.funcNamed "lamplighter/lamplighterlaw19.TraceLines" = some 9 by kernel_rfl).symm.trans hf) |>.symm
  obtain rfl : fn = Tryd.f9 := (Option.some.inj (Tryd.func9.symm.trans hfn)).symm
  refine ⟨by kernel_rfl, fun j t ht => ?_⟩
  rw [Tryd.params9] at ht
  have hall : (#[43] : Array TypeId).all (fun t => !(Tryd.prog.wantsStandIn t)) = true := by kernel_rfl
  have hm := (Array.all_eq_true_iff_forall_mem.1 hall) t (Array.mem_of_getElem? ht)
  have hm2 : Tryd.prog.wantsStandIn t = false := by simpa using hm
  exact hm2
theorem card : Rows.TraceLinesUptoCardSaid :=
  Claim7.holds_tied_plain_at .later [] _ _ _ _ proved (fun _ h => by cases h) (by kernel_rfl) (fun _ h => by cases h) traceLinesUpto_row_tie rfl ⟨rfl, rfl⟩ (by kernel_rfl) rfl plain (by kernel_rfl)
#print axioms card
end Go.Proofs.YtoloooammaiipaaDoor.traceLines
namespace Go.Proofs.YtoloooammaiipaaDoor
/-- The statement, under a short name, for the claim. -/
theorem traceLines_holds : Rows.TraceLinesUptoCardSaid := traceLines.card
end Go.Proofs.YtoloooammaiipaaDoor
