/- The law lamplighterlaw19_TraceBack, proved for every input of its parameters' types; where the arguments count at most 1048576 together; package-level tables of the library lie as the program's text lays them. -/
import Derived.Test.YtoloooammaiipaaDoorCB5
import Derived.Test.YtoloooammaiipaaDoorRows
import Derived.WalkKit
import Derived.ProofKit
import Derived.OpenShut
import Derived.ChangeOld
import Derived.Below
import Derived.Carry
import Derived.Deep.Slices
import Derived.Deep.DeepHandedRow
import Derived.Deep.DeepLaidRun
import Derived.Lib.LaidTab
import Derived.Test.YtoloooammaiipaaDoorCards
import Derived.Test.YtoloooammaiipaaDoorTie
import Derived.ShutString
import Derived.SizedLaws
import Derived.JoinedCond
/- What a text tells as an event, in plain words: the words behind a kind's, numerals among them; no conditions. -/
namespace Go.Proofs.YtoloooammaiipaaDoor
open Go Go.RowKit Go.Proofs.YtoloooammaiipaaDoorW.PrintWords Go.Proofs.YtoloooammaiipaaDoorW.PrintLast
set_option linter.unusedVariables false
theorem strip_ne {x y : UInt8} {p s : List UInt8} (h : x ≠ y) : stripL (x :: p) (y :: s) = none := by
  unfold stripL
  rw [if_neg]
  rw [List.length_cons, List.take_succ_cons]
  intro e
  exact h (List.cons.inj e).1.symm
theorem strip_app (p s : List UInt8) : stripL p (p ++ s) = some s := by
  unfold stripL
  rw [List.take_left, if_pos rfl, List.drop_left]
theorem words_of (X : List UInt8) : ((cutL 32 (X ++ [32])).map strOf).take ((X ++ [32]).count 32) = (cutL 32 X).map strOf := by
  have h1 := cutL_length 32 X
  have e : (X ++ [32]).count 32 = ((cutL 32 X).map strOf).length := by
    rw [List.length_map, h1, List.count_append]
    rfl
  rw [e, cutL_snoc_hit, List.map_append, List.take_left]
/-- A text that begins with a kind's words and a blank. -/
theorem readRow_app (r : KRow) (X : List UInt8) : readRow (r.1 ++ 32 :: X) r = fillO r.2.1 r.2.2.1 r.2.2.2 ((cutL 32 X).map strOf) := by
  unfold readRow
  have e : (r.1 ++ 32 :: X) ++ [32] = (r.1 ++ [32]) ++ (X ++ [32]) := by simp
  rw [e, strip_app, Option.bind_some, words_of]
theorem readRow_bare (r : KRow) : readRow r.1 r = fillO r.2.1 r.2.2.1 r.2.2.2 [] := by
  unfold readRow
  have e := strip_app (r.1 ++ [32]) []
  rw [List.append_nil] at e
  rw [e, Option.bind_some]
  rfl
theorem digit_char (u : Nat) : ∀ c ∈ Lib.decDigits u, 48 ≤ c.toNat ∧ c.toNat ≤ 57 := by
  induction u using Nat.strongRecOn with
  | _ u ih =>
    intro c hc
    by_cases h : u < 10
    · rw [Lib.decDigits_one h] at hc
      rw [List.mem_singleton.1 hc]
      have : (UInt8.ofNat (48 + u)).toNat = 48 + u := by simp; omega
      omega
    · rw [decDigits_step h] at hc
      rcases List.mem_append.1 hc with hc | hc
      · exact ih (u / 10) (by omega) c hc
      · rw [List.mem_singleton.1 hc]
        have : (UInt8.ofNat (48 + u % 10)).toNat = 48 + u % 10 := by simp; omega
        omega
theorem itoa_char (v : Int) : ∀ c ∈ Lib.itoa v, c = 45 ∨ (48 ≤ c.toNat ∧ c.toNat ≤ 57) := by
  unfold Lib.itoa
  intro c hc
  split at hc
  · rcases List.mem_cons.1 hc with rfl | hc
    · exact Or.inl rfl
    · exact Or.inr (digit_char _ c hc)
  · exact Or.inr (digit_char _ c hc)
theorem itoa_clean (v : Int) : (32 : UInt8) ∉ Lib.itoa v ∧ (10 : UInt8) ∉ Lib.itoa v := by
  constructor
  · intro h
    rcases itoa_char v 32 h with h | h
    · exact absurd h (by decide)
    · exact absurd h (by decide)
  · intro h
    rcases itoa_char v 10 h with h | h
    · exact absurd h (by decide)
    · exact absurd h (by decide)
theorem itoa_ne (v : Int) : Lib.itoa v ≠ [] := by
  unfold Lib.itoa
  split
  · simp
  · exact decDigits_ne _
/-- A kind's number. -/
def kRow (i : Nat) : KRow := kRows.getD i ([], false, false, false)
end Go.Proofs.YtoloooammaiipaaDoor
/- What the law's own count of steps gives, and what bytes a text of steps has; conditions: steps that weigh at most 1048576. -/
namespace Go.Proofs.YtoloooammaiipaaDoor
open Go Go.RowKit Go.Proofs.YtoloooammaiipaaDoor.PI Go.Proofs.YtoloooammaiipaaDoorW.PrintWords Go.Proofs.YtoloooammaiipaaDoorW.PrintLast
set_option linter.unusedVariables false
theorem wrap_small {n : Nat} (h : n ≤ 1000000000) : wrap64 (n : Int) = (n : Int) := wrap_fit (by omega) (by omega)
theorem wrap_plus {a b : Nat} (h : a + b ≤ 1000000000) : wrap64 ((a : Int) + (b : Int)) = ((a + b : Nat) : Int) := by
  rw [← wrap_small h]
  rfl
theorem wrap_one (i : Nat) (h : i ≤ 100000000) : wrap64 ((i : Int) + 1) = ((i + 1 : Nat) : Int) := wrap_plus (b := 1) (by omega)
theorem wtO_take (L : List Oup) (i : Nat) (h : i < L.length) : wtO (L.take (i + 1)) = wtO (L.take i) + (1 + (L[i]'h).f1.length) := by
  rw [List.take_succ_eq_append_getElem h]
  unfold wtO
  rw [List.map_append, List.sum_append]
  simp
theorem wtL_take (l : List Stp) (i : Nat) (h : i < l.length) : wtL (l.take (i + 1)) = wtL (l.take i) + wtS (l[i]'h) := by
  rw [List.take_succ_eq_append_getElem h]
  unfold wtL
  rw [List.map_append, List.sum_append]
  simp
theorem wtO_take_le (L : List Oup) (i : Nat) : wtO (L.take i) ≤ wtO L := by
  have h : wtO L = wtO (L.take i) + wtO (L.drop i) := by
    unfold wtO
    rw [← List.sum_append, ← List.map_append, List.take_append_drop]
  omega
/-- What steps weigh, counted by the law's own loop: a step's outputs. -/
theorem great_in (l : List Stp) (hw : wtL l ≤ 1048576) (i : Nat) (hi : i < l.length) : ∀ (d j k : Nat), j + d = ((l[i]'hi).f1).length → d < k → ∃ k', k' + d + 1 = k ∧
    PM.lamplighterlaw19_great.l1 k ((wtL (l.take i) + (1 + (l[i]'hi).f0.f3.length) + wtO ((l[i]'hi).f1.take j) : Nat) : Int) l (l.length : Int) (i : Int) (l[i]'hi).f1 (((l[i]'hi).f1).length : Int) (j : Int)
      = PM.lamplighterlaw19_great.l0 k' ((wtL (l.take (i + 1)) : Nat) : Int) l (l.length : Int) ((i + 1 : Nat) : Int)
  | 0, j, k, hj, hk => by
    obtain ⟨k, rfl⟩ : ∃ n, k = n + 1 := ⟨k - 1, by omega⟩
    refine ⟨k, rfl, ?_⟩
    obtain rfl : j = ((l[i]'hi).f1).length := by omega
    have hl := wtL_len l
    rw [PM.lamplighterlaw19_great.l1, if_neg (by omega), wrap_one i (by omega), wtL_take l i hi, List.take_length]
    unfold wtS
    congr 1
    omega
  | d + 1, j, k, hj, hk => by
    obtain ⟨k, rfl⟩ : ∃ n, k = n + 1 := ⟨k - 1, by omega⟩
    have hjl : j < ((l[i]'hi).f1).length := by omega
    have h1 := wtL_take l i hi
    have h2 := wtL_take_le l (i + 1)
    have h3 := wtO_take (l[i]'hi).f1 j hjl
    have h4 := wtO_take_le (l[i]'hi).f1 (j + 1)
    have h5 := wtO_len (l[i]'hi).f1
    have h6 : wtS (l[i]'hi) = 1 + (l[i]'hi).f0.f3.length + wtO (l[i]'hi).f1 := rfl
    have hr := rd_out hjl
    rw [PM.lamplighterlaw19_great.l1, if_pos (by omega), if_pos (by omega), if_pos (by omega), hr]
    have e1 := Lib.hid (show wrap64 (1 + ((((l[i]'hi).f1)[j]'hjl).f1.length : Int)) = ((1 + (((l[i]'hi).f1)[j]'hjl).f1.length : Nat) : Int) from wrap_plus (a := 1) (by omega))
    rw [e1.out, wrap_plus (by omega), wrap_one j (by omega)]
    obtain ⟨k', hk', he⟩ := great_in l hw i hi d (j + 1) k (by omega) (by omega)
    refine ⟨k', by omega, ?_⟩
    rw [← he, h3]
    congr 1
    omega
theorem great_out (l : List Stp) (hw : wtL l ≤ 1048576) : ∀ (d i k : Nat), i + d = l.length → 3000000 ≤ k + wtL (l.take i) + i → 
    PM.lamplighterlaw19_great.l0 k ((wtL (l.take i) : Nat) : Int) l (l.length : Int) (i : Int) = some (decide (1500 < wtL l))
  | 0, i, k, hi, hk => by
    have hl := wtL_len l
    have ht := wtL_take_le l i
    obtain ⟨k, rfl⟩ : ∃ n, k = n + 1 := ⟨k - 1, by omega⟩
    obtain rfl : i = l.length := by omega
    rw [PM.lamplighterlaw19_great.l0, if_neg (by omega), List.take_length]
    congr 1
    apply decide_eq_decide.2
    omega
  | d + 1, i, k, hi, hk => by
    have hl := wtL_len l
    have ht := wtL_take_le l i
    obtain ⟨k, rfl⟩ : ∃ n, k = n + 1 := ⟨k - 1, by omega⟩
    have hil : i < l.length := by omega
    have h1 := wtL_take l i hil
    have h2 := wtL_take_le l (i + 1)
    have h6 : wtS (l[i]'hil) = 1 + (l[i]'hil).f0.f3.length + wtO (l[i]'hil).f1 := rfl
    have h5 := wtO_len (l[i]'hil).f1
    have hr := rd_step hil
    rw [PM.lamplighterlaw19_great.l0, if_pos (by omega), if_pos (by omega), if_pos (by omega), hr]
    have e1 := Lib.hid (show wrap64 (1 + ((l[i]'hil).f0.f3.length : Int)) = ((1 + (l[i]'hil).f0.f3.length : Nat) : Int) from wrap_plus (a := 1) (by omega))
    rw [e1.out, wrap_plus (by omega)]
    obtain ⟨k', hk', he⟩ := great_in l hw i hil ((l[i]'hil).f1.length) 0 k (by omega) (by omega)
    have e0 : wtO ((l[i]'hil).f1.take 0) = 0 := rfl
    rw [e0, Nat.add_zero] at he
    rw [show (0 : Int) = ((0 : Nat) : Int) from rfl, he]
    exact great_out l hw d (i + 1) k' (by omega) (by omega)
theorem great_is (l : List Stp) (hw : wtL l ≤ 1048576) (k : Nat) (hk : 3000000 ≤ k) : PM.lamplighterlaw19_great.f k l = some (decide (1500 < wtL l)) := great_out l hw l.length 0 k (by omega) (by omega)
/-- A step's lines, counted. -/
def lnS (x : Stp) : Nat := 1 + x.f1.length + (if x.f2 = true then 1 else 0)
def lnL (l : List Stp) : Nat := (l.map lnS).sum
theorem lnL_take (l : List Stp) (i : Nat) (h : i < l.length) : lnL (l.take (i + 1)) = lnL (l.take i) + lnS (l[i]'h) := by
  rw [List.take_succ_eq_append_getElem h]
  unfold lnL
  rw [List.map_append, List.sum_append]
  simp
theorem lnS_le (x : Stp) : lnS x ≤ 1 + wtS x := by
  have := wtO_len x.f1
  unfold lnS wtS
  split <;> omega
theorem lnL_le (l : List Stp) : lnL l ≤ l.length + wtL l := by
  induction l with
  | nil => exact Nat.zero_le _
  | cons x r ih =>
    have e1 : lnL (x :: r) = lnS x + lnL r := by simp [lnL]
    have e2 : wtL (x :: r) = wtS x + wtL r := by simp [wtL]
    have := lnS_le x
    rw [e1, e2, List.length_cons]
    omega
theorem lnL_take_le (l : List Stp) (i : Nat) : lnL (l.take i) ≤ lnL l := by
  have h : lnL l = lnL (l.take i) + lnL (l.drop i) := by
    unfold lnL
    rw [← List.sum_append, ← List.map_append, List.take_append_drop]
  omega
theorem hexD_char : ∀ n : Fin 16, hexD n.1 ≠ 10 ∧ hexD n.1 ≠ 32 := by decide
theorem hexL_char (l : List Int) (h : ∀ x ∈ l, 0 ≤ x ∧ x ≤ 255) : ∀ c ∈ hexL l, c ≠ 10 ∧ c ≠ 32 := by
  intro c hc
  unfold hexL at hc
  obtain ⟨x, hx, hc⟩ := List.mem_flatMap.1 hc
  have hb := h x hx
  rcases List.mem_cons.1 hc with rfl | hc
  · exact hexD_char ⟨x.toNat / 16, by omega⟩
  · rw [List.mem_singleton.1 hc]
    exact hexD_char ⟨x.toNat % 16, by omega⟩
theorem hexT_char (l : List Int) (h : ∀ x ∈ l, 0 ≤ x ∧ x ≤ 255) : ∀ c ∈ hexT l, c ≠ 10 ∧ c ≠ 32 := by
  unfold hexT
  split
  · intro c hc
    rw [List.mem_singleton.1 hc]
    exact ⟨by decide, by decide⟩
  · exact hexL_char l h
theorem words_char (k : Nat) : (10 : UInt8) ∉ (kRows.getD k ([], false, false, false)).1 := by
  by_cases hk : k < 9
  · have key : ∀ j : Fin 9, (10 : UInt8) ∉ (kRows.getD j.1 ([], false, false, false)).1 := by decide
    exact key ⟨k, hk⟩
  · rw [List.getD_eq_getElem?_getD, List.getElem?_eq_none (by show 9 ≤ _; omega)]
    exact fun h => by cases h
theorem evO_clean (x : Stp) (h : StOK x) : (10 : UInt8) ∉ (evO x).1 := by
  have h1 := words_char x.f0.f0.toNat
  have h2 := fun hc => (hexT_char x.f0.f3 h.2.2.1 10 hc).1 rfl
  have h3 := (itoa_clean x.f0.f1).2
  have h4 := (itoa_clean x.f0.f2).2
  unfold evO eventO
  split
  · exact fun h => by cases h
  split
  · exact fun h => by cases h
  unfold evText
  intro hm
  rcases List.mem_append.1 hm with hm | hm
  · rcases List.mem_append.1 hm with hm | hm
    · rcases List.mem_append.1 hm with hm | hm
      · exact h1 hm
      · split at hm
        · rcases List.mem_cons.1 hm with hm | hm
          · exact absurd hm (by decide)
          · exact h2 hm
        · cases hm
    · split at hm
      · rcases List.mem_cons.1 hm with hm | hm
        · exact absurd hm (by decide)
        · exact h3 hm
      · cases hm
  · split at hm
    · rcases List.mem_cons.1 hm with hm | hm
      · exact absurd hm (by decide)
      · exact h4 hm
    · cases hm
theorem count_out (o : Oup) (h : OuOK o) : (outText o).count 10 = 1 := by
  have h2 : (hexT o.f1).count 10 = 0 := List.count_eq_zero.2 (fun hc => (hexT_char o.f1 h 10 hc).1 rfl)
  unfold outText
  rw [List.count_append, List.count_append, h2]
  split <;> rfl
theorem count_outs (L : List Oup) (h : ∀ o ∈ L, OuOK o) : (outsText L).count 10 = L.length := by
  induction L with
  | nil => rfl
  | cons o r ih =>
    have e1 : outsText (o :: r) = outText o ++ outsText r := by simp [outsText]
    rw [e1, List.count_append, count_out o (h o List.mem_cons_self), ih (fun x hx => h x (List.mem_cons_of_mem _ hx)), List.length_cons]
    omega
theorem count_step (x : Stp) (h : StOK x) : (stepText x).count 10 = lnS x := by
  have h1 : (evO x).1.count 10 = 0 := List.count_eq_zero.2 (evO_clean x h)
  have h2 := count_outs x.f1 h.2.2.2
  unfold stepText lnS
  rw [List.count_append, List.count_append, List.count_append, h1, h2]
  split
  · show 0 + 1 + (x.f1.length + 1) = _
    omega
  · show 0 + 1 + (x.f1.length + 0) = _
    omega
theorem count_fmt (l : List Stp) (h : ∀ x ∈ l, StOK x) : (fmtL l).count 10 = lnL l := by
  induction l with
  | nil => rfl
  | cons x r ih =>
    have e1 : fmtL (x :: r) = stepText x ++ fmtL r := by simp [fmtL]
    have e2 : lnL (x :: r) = lnS x + lnL r := by simp [lnL]
    rw [e1, e2, List.count_append, count_step x (h x List.mem_cons_self), ih (fun y hy => h y (List.mem_cons_of_mem _ hy))]
theorem outs_last (L : List Oup) : L = [] ∨ ∃ a, outsText L = a ++ [10] := by
  rcases List.eq_nil_or_concat L with rfl | ⟨r, o, rfl⟩
  · exact Or.inl rfl
  · right
    refine ⟨outsText r ++ ((if o.f0 = true then [98, 97, 99, 107, 32] else [111, 110, 32]) ++ hexT o.f1), ?_⟩
    unfold outsText
    rw [List.concat_eq_append, List.flatMap_append, List.flatMap_singleton]
    unfold outText
    simp
theorem step_last (x : Stp) : ∃ a, stepText x = a ++ [10] := by
  unfold stepText
  split
  · exact ⟨((evO x).1 ++ [10]) ++ (outsText x.f1 ++ [103, 111, 110, 101]), by simp⟩
  · rcases outs_last x.f1 with h | ⟨a, h⟩
    · rw [h]
      exact ⟨(evO x).1, by simp [outsText]⟩
    · rw [h]
      exact ⟨((evO x).1 ++ [10]) ++ a, by simp⟩
theorem fmt_last (l : List Stp) : l = [] ∨ ∃ a, fmtL l = a ++ [10] := by
  rcases List.eq_nil_or_concat l with rfl | ⟨r, x, rfl⟩
  · exact Or.inl rfl
  · right
    obtain ⟨a, ha⟩ := step_last x
    refine ⟨fmtL r ++ a, ?_⟩
    unfold fmtL
    rw [List.concat_eq_append, List.flatMap_append, List.flatMap_singleton, ha, List.append_assoc]
end Go.Proofs.YtoloooammaiipaaDoor
/- What texts of steps tell, in plain words: a text behind another, a text without its last byte; no conditions. -/
namespace Go.Proofs.YtoloooammaiipaaDoor
open Go Go.RowKit Go.Proofs.YtoloooammaiipaaDoor.PI Go.Proofs.YtoloooammaiipaaDoorW.PrintWords Go.Proofs.YtoloooammaiipaaDoorW.PrintLast
set_option linter.unusedVariables false
/-- What a text tells behind steps and lines so far. -/
def pf (L : List Stp) (n : Nat) (s : List UInt8) : List Stp × Nat × Int := parseL s.length L n s
theorem ten {n : Nat} : ¬ (([] : List Stp), n, (10 : Int)).2.2 = 0 := fun h => absurd (show (10 : Int) = 0 from h) (by decide)
theorem pf_nil (L : List Stp) (n : Nat) : pf L n [] = (L, n, 0) := rfl
theorem pf_line (L : List Stp) (n : Nat) {a : List UInt8} (ha : (10 : UInt8) ∉ a) (r : List UInt8) : pf L n (a ++ 10 :: r) = if (lineO L a).1 = true then pf (lineO L a).2 (n + 1) r else ([], n, 10) := by
  unfold pf
  have hl : (a ++ 10 :: r).length = (a.length + r.length) + 1 := by simp; omega
  have hne : ¬ (a ++ 10 :: r) = [] := by simp
  rw [hl, parseL, if_neg hne, cut1_hit ha]
  simp only [true_and]
  split
  · exact parseL_fuel _ _ _ _ _ (by omega) (Nat.le_refl _)
  · rfl
theorem pf_cut (L : List Stp) (n : Nat) {s : List UInt8} (hs : (10 : UInt8) ∉ s) (h0 : s ≠ []) : pf L n s = ([], n, 10) := by
  unfold pf
  obtain ⟨k, hk⟩ : ∃ k, s.length = k + 1 := ⟨s.length - 1, by have := List.length_pos_iff.2 h0; omega⟩
  rw [hk, parseL, if_neg h0, cut1_miss hs, if_neg]
  intro h
  exact absurd (show false = true from h.1) (by decide)
/-- A text is empty, or a line and what is behind it, or no line at all. -/
theorem lines_cases (s : List UInt8) : s = [] ∨ (s ≠ [] ∧ (10 : UInt8) ∉ s) ∨ ∃ a r, (10 : UInt8) ∉ a ∧ s = a ++ 10 :: r := by
  by_cases h : (10 : UInt8) ∈ s
  · obtain ⟨a, r, e, ha⟩ := first_hit h
    exact Or.inr (Or.inr ⟨a, r, ha, e⟩)
  · by_cases h0 : s = []
    · exact Or.inl h0
    · exact Or.inr (Or.inl ⟨h0, h⟩)
theorem pf_err (L : List Stp) (n : Nat) (s : List UInt8) : (pf L n s).2.2 = 0 ∨ ((pf L n s).2.2 = 10 ∧ (pf L n s).1 = []) := by
  obtain ⟨k, hk⟩ : ∃ k, k = s.length := ⟨_, rfl⟩
  induction k using Nat.strongRecOn generalizing s L n with
  | _ k ih =>
    rcases lines_cases s with rfl | ⟨h0, hn⟩ | ⟨a, r, ha, rfl⟩
    · exact Or.inl rfl
    · rw [pf_cut L n hn h0]
      exact Or.inr ⟨rfl, rfl⟩
    · rw [pf_line L n ha]
      split
      · exact ih r.length (by rw [hk]; simp; omega) _ _ r rfl
      · exact Or.inr ⟨rfl, rfl⟩
/-- Empty, or its last byte ends a line. -/
def Nl (s : List UInt8) : Prop := s = [] ∨ ∃ a, s = a ++ [10]
theorem nl_tail {a r : List UInt8} (h : Nl (a ++ 10 :: r)) : Nl r := by
  rcases h with h | ⟨b, h⟩
  · exact absurd h (by simp)
  · rcases List.eq_nil_or_concat r with rfl | ⟨r', x, rfl⟩
    · exact Or.inl rfl
    · right
      rw [List.concat_eq_append] at h ⊢
      have e : a ++ 10 :: (r' ++ [x]) = (a ++ 10 :: r') ++ [x] := by simp
      rw [e] at h
      have := List.append_inj' h rfl
      obtain rfl : x = 10 := by simpa using this.2
      exact ⟨r', rfl⟩
theorem nl_none {s : List UInt8} (h : Nl s) (hn : (10 : UInt8) ∉ s) : s = [] := by
  rcases h with h | ⟨a, rfl⟩
  · exact h
  · exact absurd (List.mem_append_right _ List.mem_cons_self) hn
theorem pf_app (L : List Stp) (n : Nat) (s t : List UInt8) (h : Nl s) : pf L n (s ++ t) = if (pf L n s).2.2 = 0 then pf (pf L n s).1 (pf L n s).2.1 t else pf L n s := by
  obtain ⟨k, hk⟩ : ∃ k, k = s.length := ⟨_, rfl⟩
  induction k using Nat.strongRecOn generalizing s L n with
  | _ k ih =>
    rcases lines_cases s with rfl | ⟨h0, hn⟩ | ⟨a, r, ha, rfl⟩
    · rw [pf_nil, List.nil_append, if_pos rfl]
    · exact absurd (nl_none h hn) h0
    · have e : a ++ 10 :: r ++ t = a ++ 10 :: (r ++ t) := by simp
      rw [e, pf_line L n ha, pf_line L n ha]
      by_cases hl : (lineO L a).1 = true
      · rw [if_pos hl, if_pos hl]
        exact ih r.length (by rw [hk]; simp; omega) _ _ r (nl_tail h) rfl
      · rw [if_neg hl, if_neg hl, if_neg ten]
theorem line_nil (L : List Stp) : (lineO L []).1 = false := by
  have h1 : readO [] = none := by decide +kernel
  have h2 : (outO []).2.2 = false := by decide +kernel
  unfold lineO
  rw [h1]
  simp only
  split
  · rfl
  split
  · rfl
  split
  · rename_i h
    exact absurd h (by decide)
  split
  · rename_i h
    rw [h2] at h
    exact absurd h (by decide)
  · rfl
/-- Without its last byte a text that is right is wrong, in its last line. -/
theorem pf_drop (L : List Stp) (n : Nat) (s : List UInt8) (h : (pf L n (s ++ [10])).2.2 = 0) : n < (pf L n (s ++ [10])).2.1 ∧ pf L n s = ([], (pf L n (s ++ [10])).2.1 - 1, 10) := by
  obtain ⟨k, hk⟩ : ∃ k, k = s.length := ⟨_, rfl⟩
  induction k using Nat.strongRecOn generalizing s L n with
  | _ k ih =>
    rcases lines_cases s with rfl | ⟨h0, hn⟩ | ⟨a, r, ha, rfl⟩
    · rw [show ([] ++ [10] : List UInt8) = [] ++ 10 :: [] from rfl, pf_line L n (by simp), line_nil, if_neg Bool.false_ne_true] at h
      exact absurd h ten
    · rw [show s ++ [10] = s ++ 10 :: [] from rfl, pf_line L n hn] at h ⊢
      by_cases hl : (lineO L s).1 = true
      · rw [if_pos hl, pf_nil, pf_cut L n hn h0]
        exact ⟨Nat.lt_succ_self n, rfl⟩
      · rw [if_neg hl] at h
        exact absurd h ten
    · have e : a ++ 10 :: r ++ [10] = a ++ 10 :: (r ++ [10]) := by simp
      rw [e, pf_line L n ha] at h ⊢
      rw [pf_line L n ha]
      by_cases hl : (lineO L a).1 = true
      · rw [if_pos hl] at h ⊢
        rw [if_pos hl]
        obtain ⟨h1, h2⟩ := ih r.length (by rw [hk]; simp; omega) _ _ r h rfl
        exact ⟨by omega, h2⟩
      · rw [if_neg hl] at h
        exact absurd h ten
theorem last_get (M L : List Stp) (z : Stp) (h : L ≠ []) : (M ++ L).getD ((M ++ L).length - 1) z = L.getD (L.length - 1) z := by
  have hp := List.length_pos_iff.2 h
  rw [List.getD_eq_getElem?_getD, List.getD_eq_getElem?_getD, List.length_append, List.getElem?_append_right (by omega)]
  congr 2
  omega
theorem last_set (M L : List Stp) (z : Stp) (h : L ≠ []) : (M ++ L).set ((M ++ L).length - 1) z = M ++ L.set (L.length - 1) z := by
  have hp := List.length_pos_iff.2 h
  rw [List.length_append, List.set_append_right _ _ (by omega)]
  congr 2
  omega
/-- Steps ahead of some change nothing for a line. -/
theorem line_shift (M L : List Stp) (a : List UInt8) (h : L ≠ []) : lineO (M ++ L) a = ((lineO L a).1, M ++ (lineO L a).2) ∧ (lineO L a).2 ≠ [] := by
  have h2 : M ++ L ≠ [] := by simp [h]
  unfold lineO
  cases readO a with
  | some x => exact ⟨by simp, by simp⟩
  | none =>
    simp only
    rw [if_neg h, if_neg h2, last_get M L _ h, last_set M L _ h, last_set M L _ h]
    split
    · exact ⟨rfl, h⟩
    split
    · exact ⟨rfl, by simp [h]⟩
    split
    · exact ⟨rfl, by simp [h]⟩
    · exact ⟨rfl, h⟩
theorem pf_shift (M : List Stp) (m : Nat) (L : List Stp) (n : Nat) (s : List UInt8) (h : L ≠ []) : pf (M ++ L) (m + n) s = if (pf L n s).2.2 = 0 then (M ++ (pf L n s).1, m + (pf L n s).2.1, 0) else ([], m + (pf L n s).2.1, 10) := by
  obtain ⟨k, hk⟩ : ∃ k, k = s.length := ⟨_, rfl⟩
  induction k using Nat.strongRecOn generalizing s L n with
  | _ k ih =>
    rcases lines_cases s with rfl | ⟨h0, hn⟩ | ⟨a, r, ha, rfl⟩
    · rw [pf_nil, pf_nil, if_pos rfl]
    · rw [pf_cut _ _ hn h0, pf_cut _ _ hn h0, if_neg ten]
    · obtain ⟨h1, h2⟩ := line_shift M L a h
      rw [pf_line _ _ ha, pf_line _ _ ha, h1]
      simp only
      by_cases hl : (lineO L a).1 = true
      · rw [if_pos hl, if_pos hl, Nat.add_assoc]
        exact ih r.length (by rw [hk]; simp; omega) _ _ r h2 rfl
      · rw [if_neg hl, if_neg hl, if_neg ten]
/-- A text whose first line is an event's, or nothing that may be behind steps. -/
theorem pf_start (M : List Stp) (m : Nat) (s : List UInt8) (h : ∀ a r, (10 : UInt8) ∉ a → s = a ++ 10 :: r → readO a = none → (lineO M a).1 = false) : pf M m s = if (pf [] 0 s).2.2 = 0 then (M ++ (pf [] 0 s).1, m + (pf [] 0 s).2.1, 0) else ([], m + (pf [] 0 s).2.1, 10) := by
  rcases lines_cases s with rfl | ⟨h0, hn⟩ | ⟨a, r, ha, rfl⟩
  · rw [pf_nil, pf_nil, if_pos rfl]
    simp
  · rw [pf_cut _ _ hn h0, pf_cut _ _ hn h0, if_neg ten]
    simp
  · cases hr : readO a with
    | none =>
      have h1 := h a r ha rfl hr
      have h2 : (lineO [] a).1 = false := by
        unfold lineO
        rw [hr]
        rfl
      rw [pf_line _ _ ha, pf_line _ _ ha, h1, h2, if_neg Bool.false_ne_true, if_neg Bool.false_ne_true, if_neg ten]
      simp
    | some x =>
      have h1 : ∀ K : List Stp, lineO K a = (true, K ++ [⟨⟨(x.1 : Int), x.2.2.1, x.2.2.2, x.2.1⟩, [], false⟩]) := fun K => by
        unfold lineO
        rw [hr]
      rw [pf_line _ _ ha, pf_line _ _ ha, h1 M, h1 [], if_pos rfl, if_pos rfl]
      exact pf_shift M m _ 1 r (by simp)
end Go.Proofs.YtoloooammaiipaaDoor
/- What is told of a text tells that text, and what is told of steps' text is those steps, in plain words; conditions: numbers of at most 18 digits. -/
namespace Go.Proofs.YtoloooammaiipaaDoor
open Go Go.RowKit Go.Proofs.YtoloooammaiipaaDoor.PI Go.Proofs.YtoloooammaiipaaDoorW.PrintWords Go.Proofs.YtoloooammaiipaaDoorW.PrintLast
set_option linter.unusedVariables false
theorem hexD_hexN_key : ∀ c : Fin 256, ∀ n : Fin 16, hexN (UInt8.ofNat c.1) = some n.1 → hexD n.1 = UInt8.ofNat c.1 := by decide +kernel
theorem hexD_hexN {c : UInt8} {n : Nat} (h : hexN c = some n) : hexD n = c := by
  have hc : c = UInt8.ofNat c.toNat := by simp
  have hn := hexN_lt h
  have := hexD_hexN_key ⟨c.toNat, c.toNat_lt⟩ ⟨n, hn⟩
  simp only at this
  rw [← hc] at this
  exact this h
theorem hexL_unhex : ∀ (k : Nat) (s : List UInt8), s.length ≤ k → ∀ l, unhex s = some l → hexL l = s ∧ ∀ x ∈ l, 0 ≤ x ∧ x ≤ 255
  | _, [], _, l, h => by
    obtain rfl := Option.some.inj h
    exact ⟨rfl, fun x hx => (by cases hx)⟩
  | _, [_], _, l, h => by cases h
  | 0, a :: b :: r, hk, l, h => by simp at hk
  | k + 1, a :: b :: r, hk, l, h => by
    cases ha : hexN a with
    | none => rw [unhex_n1 ha] at h; cases h
    | some x =>
      cases hb : hexN b with
      | none => rw [unhex_n2 hb] at h; cases h
      | some y =>
        rw [unhex_s ha hb] at h
        obtain ⟨l', h1, rfl⟩ := Option.map_eq_some_iff.1 h
        obtain ⟨i1, i2⟩ := hexL_unhex k r (by simp only [List.length_cons] at hk; omega) l' h1
        have hx := hexN_lt ha
        have hy := hexN_lt hb
        have e : hexL ((((16 * x + y : Nat) : Int)) :: l') = [hexD ((((16 * x + y : Nat) : Int)).toNat / 16), hexD ((((16 * x + y : Nat) : Int)).toNat % 16)] ++ hexL l' := by simp [hexL]
        refine ⟨?_, fun z hz => ?_⟩
        · rw [e, i1, Int.toNat_natCast, show (16 * x + y) / 16 = x by omega, show (16 * x + y) % 16 = y by omega, hexD_hexN ha, hexD_hexN hb]
          rfl
        · rcases List.mem_cons.1 hz with rfl | hz
          · omega
          · exact i2 z hz
theorem hexT_bytesO {s : List UInt8} {l : List Int} (h : bytesO s = some l) : hexT l = s ∧ ∀ x ∈ l, 0 ≤ x ∧ x ≤ 255 := by
  unfold bytesO at h
  split at h
  · rename_i hs
    obtain rfl := Option.some.inj h
    rw [hs]
    exact ⟨rfl, fun x hx => (by cases hx)⟩
  split at h
  · cases h
  · rename_i h1 h2
    obtain ⟨i1, i2⟩ := hexL_unhex s.length s (Nat.le_refl _) l h
    refine ⟨?_, i2⟩
    unfold hexT
    rw [if_neg, i1]
    rintro rfl
    exact h2 i1.symm
theorem bytesO_hexT {l : List Int} (h : ∀ x ∈ l, 0 ≤ x ∧ x ≤ 255) : bytesO (hexT l) = some l := by
  unfold hexT
  by_cases hl : l = []
  · rw [if_pos hl, hl]
    rfl
  · rw [if_neg hl]
    have hn := hexL_length l
    have hp := List.length_pos_iff.2 hl
    unfold bytesO
    rw [if_neg, if_neg, unhex_hexL l h]
    · intro e
      rw [e] at hn
      simp at hn
      omega
    · intro e
      rw [e] at hn
      simp at hn
      omega
theorem bytesO_nil : bytesO [] = none := rfl
theorem numL_nil : numL [] = none := by decide +kernel
theorem itoa_numL {s : List UInt8} {v : Int} (h : numL s = some v) : Lib.itoa v = s ∧ -9223372036854775808 ≤ v ∧ v ≤ 9223372036854775807 := by
  unfold numL at h
  split at h
  · rename_i u hu
    by_cases hq : Lib.itoa u = s ∧ (if s.head? = some 45 then s.length - 1 else s.length) ≤ 18
    · rw [if_pos hq] at h
      obtain rfl := Option.some.inj h
      exact ⟨hq.1, Lib.atoiAll_bounds hu⟩
    · rw [if_neg hq] at h
      cases h
  · cases h
/-- A field that was taken. -/
theorem takeW_some {α : Type} {f : Bool} {g : List UInt8 → Option α} {z v : α} {w r : List ByteArray} (hg : g [] = none) (h : takeW f g z w = some (v, r)) : if f = true then ∃ a, w = a :: r ∧ g a.data.toList = some v else v = z ∧ r = w := by
  unfold takeW at h
  cases f with
  | false =>
    rw [if_neg (by decide)] at h ⊢
    obtain ⟨rfl, rfl⟩ := Prod.mk.inj (Option.some.inj h)
    exact ⟨rfl, rfl⟩
  | true =>
    rw [if_pos rfl] at h ⊢
    obtain ⟨x, h1, h2⟩ := Option.map_eq_some_iff.1 h
    obtain ⟨rfl, rfl⟩ := Prod.mk.inj h2
    cases w with
    | nil => exact absurd (hg.symm.trans h1) (by simp)
    | cons a w' => exact ⟨a, rfl, h1⟩
/-- The words that a kind's fields make. -/
def wordsOf (fd fc fk : Bool) (n k : Int) (d : List Int) : List (List UInt8) := ((if fd = true then [hexT d] else []) ++ (if fc = true then [Lib.itoa n] else [])) ++ (if fk = true then [Lib.itoa k] else [])
theorem fillO_some {fd fc fk : Bool} {w : List ByteArray} {d : List Int} {n k : Int} (h : fillO fd fc fk w = some (d, n, k)) :
    w.map (fun a => a.data.toList) = wordsOf fd fc fk n k d ∧ ¬ evBad fd fc fk n k d ∧ (∀ x ∈ d, 0 ≤ x ∧ x ≤ 255) ∧ (-9223372036854775808 ≤ n ∧ n ≤ 9223372036854775807) ∧ (-9223372036854775808 ≤ k ∧ k ≤ 9223372036854775807) := by
  unfold fillO at h
  obtain ⟨⟨d', w1⟩, h1, h⟩ := Option.bind_eq_some_iff.1 h
  obtain ⟨⟨n', w2⟩, h2, h⟩ := Option.bind_eq_some_iff.1 h
  obtain ⟨⟨k', w3⟩, h3, h⟩ := Option.bind_eq_some_iff.1 h
  simp only at h2 h3 h
  split at h
  · rename_i h0
    obtain rfl := List.eq_nil_of_length_eq_zero h0
    have he := Option.some.inj h
    simp only [Prod.mk.injEq] at he
    obtain ⟨rfl, rfl, rfl⟩ := he
    have g1 := takeW_some bytesO_nil h1
    have g2 := takeW_some numL_nil h2
    have g3 := takeW_some numL_nil h3
    have a1 : w.map (fun a => a.data.toList) = (if fd = true then [hexT d'] else []) ++ w1.map (fun a => a.data.toList) ∧ (fd = false → d' = []) ∧ (∀ x ∈ d', 0 ≤ x ∧ x ≤ 255) := by
      cases fd with
      | false =>
        rw [if_neg (by decide)] at g1
        obtain ⟨rfl, rfl⟩ := g1
        exact ⟨rfl, fun _ => rfl, fun x hx => (by cases hx)⟩
      | true =>
        rw [if_pos rfl] at g1
        obtain ⟨a, rfl, ha⟩ := g1
        obtain ⟨b1, b2⟩ := hexT_bytesO ha
        refine ⟨?_, fun h => (by cases h), b2⟩
        rw [if_pos rfl, b1]
        rfl
    have num : ∀ (f : Bool) (v : Int) (u r : List ByteArray), (if f = true then ∃ a, u = a :: r ∧ numL a.data.toList = some v else v = 0 ∧ r = u) → u.map (fun a => a.data.toList) = (if f = true then [Lib.itoa v] else []) ++ r.map (fun a => a.data.toList) ∧ (f = false → v = 0) ∧ (-9223372036854775808 ≤ v ∧ v ≤ 9223372036854775807) := by
      intro f v u r g
      cases f with
      | false =>
        rw [if_neg (by decide)] at g
        obtain ⟨rfl, rfl⟩ := g
        exact ⟨rfl, fun _ => rfl, by decide, by decide⟩
      | true =>
        rw [if_pos rfl] at g
        obtain ⟨a, rfl, ha⟩ := g
        obtain ⟨b1, b2⟩ := itoa_numL ha
        refine ⟨?_, fun h => (by cases h), b2⟩
        rw [if_pos rfl, b1]
        rfl
    have a2 := num _ _ _ _ g2
    have a3 := num _ _ _ _ g3
    refine ⟨?_, ?_, a1.2.2, a2.2.2, a3.2.2⟩
    · rw [a1.1, a2.1, a3.1]
      simp [wordsOf]
    · rintro (⟨p, q⟩ | ⟨p, q⟩ | ⟨p, q⟩)
      · rw [a1.2.1 p] at q
        exact absurd q (by decide)
      · exact q (a2.2.1 p)
      · exact q (a3.2.1 p)
  · cases h
theorem evText_words (r : KRow) (n k : Int) (d : List Int) : evText r n k d = r.1 ++ (wordsOf r.2.1 r.2.2.1 r.2.2.2 n k d).flatMap (fun x => 32 :: x) := by
  unfold evText wordsOf
  split <;> split <;> split <;> simp
theorem join_flat : ∀ (L : List (List UInt8)), L ≠ [] → 32 :: joinL 32 L = L.flatMap (fun x => 32 :: x)
  | [], h => absurd rfl h
  | [x], _ => by simp [joinL]
  | x :: y :: r, _ => by
    rw [joinL_cons 32 x (by simp), List.flatMap_cons, ← join_flat (y :: r) (by simp)]
    rfl
theorem strip_some {p s x : List UInt8} (h : stripL p s = some x) : s = p ++ x := by
  unfold stripL at h
  split at h
  · rename_i hp
    obtain rfl := Option.some.inj h
    conv => lhs; rw [← List.take_append_drop p.length s, hp]
  · cases h
theorem readRow_some {s : List UInt8} {r : KRow} {d : List Int} {n k : Int} (h : readRow s r = some (d, n, k)) :
    s = evText r n k d ∧ ¬ evBad r.2.1 r.2.2.1 r.2.2.2 n k d ∧ (∀ x ∈ d, 0 ≤ x ∧ x ≤ 255) ∧ (-9223372036854775808 ≤ n ∧ n ≤ 9223372036854775807) ∧ (-9223372036854775808 ≤ k ∧ k ≤ 9223372036854775807) := by
  unfold readRow at h
  obtain ⟨x, h1, h2⟩ := Option.bind_eq_some_iff.1 h
  have hs := strip_some h1
  obtain ⟨f1, f2⟩ := fillO_some h2
  refine ⟨?_, f2⟩
  rw [evText_words]
  rcases List.eq_nil_or_concat x with rfl | ⟨y, c, rfl⟩
  · have e : (List.map strOf (cutL 32 [])).take (List.count 32 ([] : List UInt8)) = [] := rfl
    rw [e] at f1
    rw [← f1]
    have := List.append_inj' (s₁ := s) (s₂ := r.1) (t₁ := [32]) (t₂ := [32]) (by rw [hs, List.append_nil]) rfl
    rw [this.1]
    simp
  · rw [List.concat_eq_append] at hs f1
    rw [← List.append_assoc] at hs
    have h3 := List.append_inj' hs rfl
    obtain rfl : c = 32 := by simpa using h3.2.symm
    rw [words_of, List.map_map] at f1
    have e : (fun a : ByteArray => a.data.toList) ∘ strOf = id := by
      funext l
      exact strOf_data l
    rw [e, List.map_id] at f1
    rw [← f1, ← join_flat _ (cutL_ne _ _), joinL_cutL, h3.1]
    simp
theorem readO_told {s : List UInt8} {x : Nat × List Int × Int × Int} (h : readO s = some x) : x.1 < 9 ∧ evO ⟨⟨(x.1 : Int), x.2.2.1, x.2.2.2, x.2.1⟩, [], false⟩ = (s, 0) ∧ StOK ⟨⟨(x.1 : Int), x.2.2.1, x.2.2.2, x.2.1⟩, [], false⟩ := by
  unfold readO at h
  obtain ⟨i, hi, h1⟩ := List.exists_of_findSome?_eq_some h
  have hi9 := List.mem_range.1 hi
  obtain ⟨⟨d, n, k⟩, h2, rfl⟩ := Option.map_eq_some_iff.1 h1
  obtain ⟨e, nb, hd, hn, hk⟩ := readRow_some h2
  refine ⟨hi9, ?_, hn, hk, hd, fun o ho => (by cases ho)⟩
  unfold evO eventO
  simp only [Int.toNat_natCast]
  rw [if_neg (by omega), if_neg nb, ← e]
theorem outO_told {s : List UInt8} (h : (outO s).2.2 = true) : outText ⟨(outO s).1, (outO s).2.1⟩ = s ++ [10] ∧ OuOK ⟨(outO s).1, (outO s).2.1⟩ := by
  have h0 := h
  unfold outO at h0
  simp only [Bool.and_eq_true, Bool.or_eq_true, decide_eq_true_eq] at h0
  obtain ⟨h1, h2⟩ := h0
  cases hb : bytesO (cut1 32 s).2.1 with
  | none =>
    rw [hb] at h1
    cases h1
  | some l =>
    obtain ⟨b1, b2⟩ := hexT_bytesO hb
    have e1 : (outO s).2.1 = l := by
      unfold outO
      rw [hb]
      rfl
    have e0 : (outO s).1 = decide ((cut1 32 s).1 = backL) := rfl
    have hm : (32 : UInt8) ∈ s := by
      by_cases hm : (32 : UInt8) ∈ s
      · exact hm
      · rw [cut1_miss hm] at hb
        exact absurd (bytesO_nil.symm.trans hb) (by simp)
    obtain ⟨a, b, rfl, ha⟩ := first_hit hm
    rw [e1, e0]
    rw [cut1_hit ha] at b1 h2 ⊢
    simp only at b1 h2 ⊢
    refine ⟨?_, b2⟩
    unfold outText
    simp only
    rw [b1]
    rcases h2 with rfl | rfl
    · rw [if_pos (decide_eq_true rfl)]
      simp [backL]
    · rw [if_neg (by rw [decide_eq_true_eq]; exact fun h => absurd (List.cons.inj h).1 (by decide))]
      simp [onL]
theorem fmtL_app (A B : List Stp) : fmtL (A ++ B) = fmtL A ++ fmtL B := by
  unfold fmtL
  rw [List.flatMap_append]
theorem fmtL_one (x : Stp) : fmtL [x] = stepText x := by simp [fmtL]
/-- A step that may be written. -/
def Good (x : Stp) : Prop := StOK x ∧ (evO x).2 = 0
theorem line_told (L : List Stp) (a : List UInt8) (h : (lineO L a).1 = true) (hg : ∀ x ∈ L, Good x) : fmtL (lineO L a).2 = fmtL L ++ (a ++ [10]) ∧ ∀ x ∈ (lineO L a).2, Good x := by
  cases hr : readO a with
  | some x =>
    have e : lineO L a = (true, L ++ [⟨⟨(x.1 : Int), x.2.2.1, x.2.2.2, x.2.1⟩, [], false⟩]) := by
      unfold lineO
      rw [hr]
    obtain ⟨r1, r2, r3⟩ := readO_told hr
    rw [e]
    refine ⟨?_, fun y hy => ?_⟩
    · show fmtL (L ++ _) = _
      rw [fmtL_app, fmtL_one]
      unfold stepText
      rw [r2]
      simp [outsText]
    · rcases List.mem_append.1 hy with hy | hy
      · exact hg y hy
      · rw [List.mem_singleton.1 hy]
        exact ⟨r3, by rw [r2]⟩
  | none =>
    rcases List.eq_nil_or_concat L with rfl | ⟨M, z, rfl⟩
    · have e : lineO [] a = (false, []) := by
        unfold lineO
        rw [hr]
        rfl
      rw [e] at h
      cases h
    · rw [List.concat_eq_append] at h hg ⊢
      have hz := hg z (List.mem_append_right _ List.mem_cons_self)
      have hne : ¬ (M ++ [z]) = [] := by simp
      have g1 : (M ++ [z]).getD ((M ++ [z]).length - 1) z42 = z := last_get M [z] _ (by simp)
      have g2 : ∀ y : Stp, (M ++ [z]).set ((M ++ [z]).length - 1) y = M ++ [y] := fun y => last_set M [z] y (by simp)
      unfold lineO at h ⊢
      rw [hr] at h ⊢
      simp only at h ⊢
      rw [if_neg hne, g1] at h ⊢
      by_cases hf : z.f2 = true
      · rw [if_pos hf] at h
        cases h
      rw [if_neg hf] at h ⊢
      have hf0 : z.f2 = false := by simpa using hf
      rw [g2, g2] at h ⊢
      by_cases hgone : a = goneL
      · rw [if_pos hgone]
        refine ⟨?_, fun y hy => ?_⟩
        · show fmtL (M ++ _) = _
          rw [fmtL_app, fmtL_app, fmtL_one, fmtL_one, hgone]
          unfold stepText
          rw [hf0]
          simp [evO, goneL]
        · rcases List.mem_append.1 hy with hy | hy
          · exact hg y (List.mem_append_left _ hy)
          · rw [List.mem_singleton.1 hy]
            exact hz
      rw [if_neg hgone] at h ⊢
      by_cases ho : (outO a).2.2 = true
      · rw [if_pos ho]
        obtain ⟨o1, o2⟩ := outO_told ho
        refine ⟨?_, fun y hy => ?_⟩
        · show fmtL (M ++ _) = _
          rw [fmtL_app, fmtL_app, fmtL_one, fmtL_one, ← o1]
          unfold stepText
          rw [hf0]
          simp [evO, outsText]
        · rcases List.mem_append.1 hy with hy | hy
          · exact hg y (List.mem_append_left _ hy)
          · rw [List.mem_singleton.1 hy]
            refine ⟨⟨hz.1.1, hz.1.2.1, hz.1.2.2.1, fun o hm => ?_⟩, hz.2⟩
            rcases List.mem_append.1 hm with hm | hm
            · exact hz.1.2.2.2 o hm
            · rw [List.mem_singleton.1 hm]
              exact o2
      · rw [if_neg ho] at h
        cases h
/-- A text that tells steps is their text. -/
theorem pf_told (L : List Stp) (n : Nat) (s : List UInt8) (h : (pf L n s).2.2 = 0) (hg : ∀ x ∈ L, Good x) : fmtL (pf L n s).1 = fmtL L ++ s ∧ ∀ x ∈ (pf L n s).1, Good x := by
  obtain ⟨k, hk⟩ : ∃ k, k = s.length := ⟨_, rfl⟩
  induction k using Nat.strongRecOn generalizing s L n with
  | _ k ih =>
    rcases lines_cases s with rfl | ⟨h0, hn⟩ | ⟨a, r, ha, rfl⟩
    · rw [pf_nil]
      exact ⟨(List.append_nil _).symm, hg⟩
    · rw [pf_cut _ _ hn h0] at h
      exact absurd h ten
    · rw [pf_line _ _ ha] at h ⊢
      by_cases hl : (lineO L a).1 = true
      · rw [if_pos hl] at h ⊢
        obtain ⟨l1, l2⟩ := line_told L a hl hg
        obtain ⟨i1, i2⟩ := ih r.length (by rw [hk]; simp; omega) _ _ r h l2 rfl
        refine ⟨?_, i2⟩
        rw [i1, l1]
        simp
      · rw [if_neg hl] at h
        exact absurd h ten
theorem format_told {s : List UInt8} (h : (pf [] 0 s).2.2 = 0) : formatO (pf [] 0 s).1 = (s, 0) ∧ ∀ x ∈ (pf [] 0 s).1, StOK x := by
  obtain ⟨h1, h2⟩ := pf_told [] 0 s h (fun x hx => (by cases hx))
  refine ⟨?_, fun x hx => (h2 x hx).1⟩
  unfold formatO
  rw [List.find?_eq_none.2 (fun x hx => by rw [(h2 x hx).2]; decide), h1]
  rfl
end Go.Proofs.YtoloooammaiipaaDoor
/- What is told of steps' text is those steps, in plain words; conditions: numbers of at most 18 digits, bytes. -/
namespace Go.Proofs.YtoloooammaiipaaDoor
open Go Go.RowKit Go.Proofs.YtoloooammaiipaaDoor.PI Go.Proofs.YtoloooammaiipaaDoorW.PrintWords Go.Proofs.YtoloooammaiipaaDoorW.PrintLast
set_option linter.unusedVariables false
theorem takeW_yes {α : Type} {g : List UInt8 → Option α} {z v : α} {a : List UInt8} {r : List ByteArray} (h : g a = some v) : takeW true g z (strOf a :: r) = some (v, r) := by
  unfold takeW
  rw [if_pos rfl, List.headD_cons, strOf_data, h]
  rfl
theorem takeW_not {α : Type} {g : List UInt8 → Option α} {z : α} {w : List ByteArray} : takeW false g z w = some (z, w) := rfl
/-- Numbers that a text tells. -/
def Sm (v : Int) : Prop := -1000000000000000000 < v ∧ v < 1000000000000000000
theorem fillO_words {fd fc fk : Bool} {d : List Int} {n k : Int} (hb : ¬ evBad fd fc fk n k d) (hd : ∀ x ∈ d, 0 ≤ x ∧ x ≤ 255) (hn : Sm n) (hk : Sm k) : fillO fd fc fk ((wordsOf fd fc fk n k d).map strOf) = some (d, n, k) := by
  have h1 := bytesO_hexT hd
  have h2 := numL_itoa hn.1 hn.2
  have h3 := numL_itoa hk.1 hk.2
  have e1 : fd = false → d = [] := fun h => by
    by_cases h0 : d = []
    · exact h0
    · exact absurd (Or.inl ⟨h, List.length_pos_iff.2 h0⟩) hb
  have e2 : fc = false → n = 0 := fun h => by
    by_cases h0 : n = 0
    · exact h0
    · exact absurd (Or.inr (Or.inl ⟨h, h0⟩)) hb
  have e3 : fk = false → k = 0 := fun h => by
    by_cases h0 : k = 0
    · exact h0
    · exact absurd (Or.inr (Or.inr ⟨h, h0⟩)) hb
  have t1 : ∀ r : List ByteArray, takeW fd bytesO [] ((if fd = true then [strOf (hexT d)] else []) ++ r) = some (d, r) := fun r => by
    cases fd with
    | false =>
      rw [e1 rfl]
      exact takeW_not
    | true => exact takeW_yes h1
  have t2 : ∀ r : List ByteArray, takeW fc numL 0 ((if fc = true then [strOf (Lib.itoa n)] else []) ++ r) = some (n, r) := fun r => by
    cases fc with
    | false =>
      rw [e2 rfl]
      exact takeW_not
    | true => exact takeW_yes h2
  have t3 : ∀ r : List ByteArray, takeW fk numL 0 ((if fk = true then [strOf (Lib.itoa k)] else []) ++ r) = some (k, r) := fun r => by
    cases fk with
    | false =>
      rw [e3 rfl]
      exact takeW_not
    | true => exact takeW_yes h3
  have hw : (wordsOf fd fc fk n k d).map strOf = (if fd = true then [strOf (hexT d)] else []) ++ ((if fc = true then [strOf (Lib.itoa n)] else []) ++ ((if fk = true then [strOf (Lib.itoa k)] else []) ++ [])) := by
    unfold wordsOf
    split <;> split <;> split <;> rfl
  unfold fillO
  rw [hw, t1, Option.bind_some]
  simp only
  rw [t2, Option.bind_some]
  simp only
  rw [t3, Option.bind_some]
  rfl
theorem hexD_ne : ∀ n : Fin 16, hexD n.1 ≠ 10 ∧ hexD n.1 ≠ 32 := by decide
theorem hexT_ne (l : List Int) (h : ∀ x ∈ l, 0 ≤ x ∧ x ≤ 255) : ∀ c ∈ hexT l, c ≠ 10 ∧ c ≠ 32 := by
  unfold hexT
  split
  · intro c hc
    rw [List.mem_singleton.1 hc]
    exact ⟨by decide, by decide⟩
  · intro c hc
    unfold hexL at hc
    obtain ⟨x, hx, hc⟩ := List.mem_flatMap.1 hc
    have hb := h x hx
    rcases List.mem_cons.1 hc with rfl | hc
    · exact hexD_ne ⟨x.toNat / 16, by omega⟩
    · rw [List.mem_singleton.1 hc]
      exact hexD_ne ⟨x.toNat % 16, by omega⟩
theorem words_clean {fd fc fk : Bool} {d : List Int} {n k : Int} (hd : ∀ x ∈ d, 0 ≤ x ∧ x ≤ 255) : ∀ x ∈ wordsOf fd fc fk n k d, (32 : UInt8) ∉ x := by
  intro x hx
  unfold wordsOf at hx
  rcases List.mem_append.1 hx with hx | hx
  · rcases List.mem_append.1 hx with hx | hx
    · split at hx
      · rw [List.mem_singleton.1 hx]
        exact fun hc => (hexT_ne d hd 32 hc).2 rfl
      · cases hx
    · split at hx
      · rw [List.mem_singleton.1 hx]
        exact (itoa_clean n).1
      · cases hx
  · split at hx
    · rw [List.mem_singleton.1 hx]
      exact (itoa_clean k).1
    · cases hx
theorem readRow_text (r : KRow) {d : List Int} {n k : Int} (hb : ¬ evBad r.2.1 r.2.2.1 r.2.2.2 n k d) (hd : ∀ x ∈ d, 0 ≤ x ∧ x ≤ 255) (hn : Sm n) (hk : Sm k) : readRow (evText r n k d) r = some (d, n, k) := by
  have hf := fillO_words hb hd hn hk
  have hc := words_clean (fd := r.2.1) (fc := r.2.2.1) (fk := r.2.2.2) (n := n) (k := k) hd
  rw [evText_words]
  by_cases hw : wordsOf r.2.1 r.2.2.1 r.2.2.2 n k d = []
  · rw [hw] at hf ⊢
    rw [List.flatMap_nil, List.append_nil, readRow_bare]
    exact hf
  · rw [← join_flat _ hw, readRow_app, cutL_joinL hw hc]
    exact hf
theorem strip_none {p q X : List UInt8} (m : Nat) (hp : m ≤ p.length) (hq : m ≤ q.length) (h : p.take m ≠ q.take m) : stripL p (q ++ X) = none := by
  unfold stripL
  rw [if_neg]
  intro e
  apply h
  rw [← e, List.take_take, Nat.min_eq_left hp, List.take_append_of_le_length hq]
theorem rows_far : ∀ i j : Fin 9, i ≠ j → ((kRows.getD i.1 ([], false, false, false)).1 ++ [32]).take (min ((kRows.getD i.1 ([], false, false, false)).1 ++ [32]).length ((kRows.getD j.1 ([], false, false, false)).1 ++ [32]).length) ≠ ((kRows.getD j.1 ([], false, false, false)).1 ++ [32]).take (min ((kRows.getD i.1 ([], false, false, false)).1 ++ [32]).length ((kRows.getD j.1 ([], false, false, false)).1 ++ [32]).length) := by decide +kernel
theorem evText_split (r : KRow) (n k : Int) (d : List Int) : ∃ X, evText r n k d ++ [32] = (r.1 ++ [32]) ++ X := by
  rw [evText_words]
  cases wordsOf r.2.1 r.2.2.1 r.2.2.2 n k d with
  | nil => exact ⟨[], by simp⟩
  | cons a t => exact ⟨(a ++ t.flatMap (fun x => 32 :: x)) ++ [32], by simp⟩
theorem readAt_other {i j : Nat} (hi : i < 9) (hj : j < 9) (h : i ≠ j) (n k : Int) (d : List Int) : readAt (evText (kRows.getD j ([], false, false, false)) n k d) i = none := by
  obtain ⟨X, e⟩ := evText_split (kRows.getD j ([], false, false, false)) n k d
  have hf := rows_far ⟨i, hi⟩ ⟨j, hj⟩ (fun e => h (Fin.mk.inj e))
  unfold readAt readRow
  rw [e, strip_none _ (Nat.min_le_left _ _) (Nat.min_le_right _ _) hf]
  rfl
theorem range_at : ∀ i : Fin 9, List.range 9 = (List.range 9).take i.1 ++ i.1 :: (List.range 9).drop (i.1 + 1) := by decide
theorem range_before : ∀ i : Fin 9, ∀ x ∈ (List.range 9).take i.1, x < 9 ∧ x ≠ i.1 := by decide
theorem readO_text {i : Nat} (hi : i < 9) {d : List Int} {n k : Int} (hb : ¬ evBad (kRows.getD i ([], false, false, false)).2.1 (kRows.getD i ([], false, false, false)).2.2.1 (kRows.getD i ([], false, false, false)).2.2.2 n k d) (hd : ∀ x ∈ d, 0 ≤ x ∧ x ≤ 255) (hn : Sm n) (hk : Sm k) :
    readO (evText (kRows.getD i ([], false, false, false)) n k d) = some (i, d, n, k) := by
  unfold readO
  rw [List.findSome?_eq_some_iff]
  refine ⟨_, i, _, range_at ⟨i, hi⟩, ?_, fun x hx => ?_⟩
  · unfold readAt
    rw [readRow_text _ hb hd hn hk]
    rfl
  · obtain ⟨h1, h2⟩ := range_before ⟨i, hi⟩ x hx
    rw [readAt_other h1 hi h2]
    rfl
theorem line_ev (L : List Stp) (x : Stp) (hx : Good x) (hn : Sm x.f0.f1) (hk : Sm x.f0.f2) : lineO L (evO x).1 = (true, L ++ [⟨x.f0, [], false⟩]) := by
  obtain ⟨h1, h2⟩ := hx
  obtain ⟨⟨kd, n, k, d⟩, os, g⟩ := x
  have hr : readO (evO ⟨⟨kd, n, k, d⟩, os, g⟩).1 = some (kd.toNat, d, n, k) ∧ 0 ≤ kd := by
    unfold evO eventO at h2 ⊢
    simp only at h2 ⊢
    by_cases q1 : kd < 0 ∨ 9 ≤ kd
    · rw [if_pos q1] at h2
      exact absurd h2 (by decide)
    rw [if_neg q1] at h2 ⊢
    by_cases q2 : evBad (kRows.getD kd.toNat ([], false, false, false)).2.1 (kRows.getD kd.toNat ([], false, false, false)).2.2.1 (kRows.getD kd.toNat ([], false, false, false)).2.2.2 n k d
    · rw [if_pos q2] at h2
      exact absurd h2 (by decide)
    rw [if_neg q2]
    exact ⟨readO_text (by omega) q2 h1.2.2.1 hn hk, by omega⟩
  unfold lineO
  rw [hr.1]
  simp only
  rw [Int.toNat_of_nonneg hr.2]
/-- What no event begins with. -/
theorem row_two : ∀ j : Fin 9, ∃ c0 c1 r, (kRows.getD j.1 ([], false, false, false)).1 = c0 :: c1 :: r ∧ c0 ≠ 98 ∧ c0 ≠ 103 ∧ ¬ (c0 = 111 ∧ c1 = 110) := by
  intro j
  match j with
  | 0 => exact ⟨_, _, _, rfl, by decide, by decide, by decide⟩
  | 1 => exact ⟨_, _, _, rfl, by decide, by decide, by decide⟩
  | 2 => exact ⟨_, _, _, rfl, by decide, by decide, by decide⟩
  | 3 => exact ⟨_, _, _, rfl, by decide, by decide, by decide⟩
  | 4 => exact ⟨_, _, _, rfl, by decide, by decide, by decide⟩
  | 5 => exact ⟨_, _, _, rfl, by decide, by decide, by decide⟩
  | 6 => exact ⟨_, _, _, rfl, by decide, by decide, by decide⟩
  | 7 => exact ⟨_, _, _, rfl, by decide, by decide, by decide⟩
  | 8 => exact ⟨_, _, _, rfl, by decide, by decide, by decide⟩
theorem readO_head {c0 c1 : UInt8} (h : c0 = 98 ∨ c0 = 103 ∨ (c0 = 111 ∧ c1 = 110)) (r : List UInt8) : readO (c0 :: c1 :: r) = none := by
  unfold readO
  rw [List.findSome?_eq_none_iff]
  intro i hi
  obtain ⟨d0, d1, t, e, g1, g2, g3⟩ := row_two ⟨i, List.mem_range.1 hi⟩
  simp only at e
  unfold readAt readRow
  have hs : stripL ((kRows.getD i ([], false, false, false)).1 ++ [32]) ((c0 :: c1 :: r) ++ [32]) = none := by
    rw [e]
    have h2 := strip_none (p := d0 :: d1 :: t ++ [32]) (q := [c0, c1]) (X := r ++ [32]) 2 (by simp) (by simp) (by
      intro e
      have e1 := List.cons.inj e
      have e2 := List.cons.inj e1.2
      rcases h with h | h | h
      · exact g1 (e1.1.trans h)
      · exact g2 (e1.1.trans h)
      · exact g3 ⟨e1.1.trans h.1, e2.1.trans h.2⟩)
    exact h2
  rw [hs]
  rfl
/-- An output's line, without its end. -/
def outLine (o : Oup) : List UInt8 := (if o.f0 = true then backL else onL) ++ 32 :: hexT o.f1
theorem outText_line (o : Oup) : outText o = outLine o ++ [10] := by
  unfold outText outLine
  split <;> simp [backL, onL]
theorem outO_line (o : Oup) (h : OuOK o) : outO (outLine o) = (o.f0, o.f1, true) ∧ readO (outLine o) = none ∧ outLine o ≠ goneL ∧ (10 : UInt8) ∉ outLine o := by
  obtain ⟨b, l⟩ := o
  have hb : bytesO (hexT l) = some l := bytesO_hexT h
  have hx := hexT_ne l h
  cases b with
  | true =>
    have e : outLine ⟨true, l⟩ = backL ++ 32 :: hexT l := rfl
    refine ⟨?_, readO_head (Or.inl rfl) _, fun hc => absurd (List.cons.inj hc).1 (by decide), fun hm => ?_⟩
    · unfold outO
      rw [e, cut1_hit (by decide)]
      simp only
      rw [hb]
      rfl
    · rw [e] at hm
      rcases List.mem_append.1 hm with hm | hm
      · exact absurd hm (by decide)
      · rcases List.mem_cons.1 hm with hm | hm
        · exact absurd hm (by decide)
        · exact (hx 10 hm).1 rfl
  | false =>
    have e : outLine ⟨false, l⟩ = onL ++ 32 :: hexT l := rfl
    refine ⟨?_, readO_head (Or.inr (Or.inr ⟨rfl, rfl⟩)) _, fun hc => absurd (List.cons.inj hc).1 (by decide), fun hm => ?_⟩
    · unfold outO
      rw [e, cut1_hit (by decide)]
      simp only
      rw [hb]
      rfl
    · rw [e] at hm
      rcases List.mem_append.1 hm with hm | hm
      · exact absurd hm (by decide)
      · rcases List.mem_cons.1 hm with hm | hm
        · exact absurd hm (by decide)
        · exact (hx 10 hm).1 rfl
theorem line_out (M : List Stp) (z : Stp) (hz : z.f2 = false) (o : Oup) (h : OuOK o) : lineO (M ++ [z]) (outLine o) = (true, M ++ [⟨z.f0, z.f1 ++ [o], false⟩]) := by
  obtain ⟨h1, h2, h3, -⟩ := outO_line o h
  have hne : ¬ (M ++ [z]) = [] := by simp
  have g1 : (M ++ [z]).getD ((M ++ [z]).length - 1) z42 = z := last_get M [z] _ (by simp)
  have g2 : ∀ y : Stp, (M ++ [z]).set ((M ++ [z]).length - 1) y = M ++ [y] := fun y => last_set M [z] y (by simp)
  unfold lineO
  rw [h2]
  simp only
  rw [if_neg hne, g1, hz, if_neg (by decide), if_neg h3, h1, g2]
  rfl
theorem line_gone (M : List Stp) (z : Stp) (hz : z.f2 = false) : lineO (M ++ [z]) goneL = (true, M ++ [⟨z.f0, z.f1, true⟩]) := by
  have h2 : readO goneL = none := readO_head (Or.inr (Or.inl rfl)) _
  have hne : ¬ (M ++ [z]) = [] := by simp
  have g1 : (M ++ [z]).getD ((M ++ [z]).length - 1) z42 = z := last_get M [z] _ (by simp)
  have g2 : ∀ y : Stp, (M ++ [z]).set ((M ++ [z]).length - 1) y = M ++ [y] := fun y => last_set M [z] y (by simp)
  unfold lineO
  rw [h2]
  simp only
  rw [if_neg hne, g1, hz, if_neg (by decide), if_pos trivial, g2]
theorem pf_outs (M : List Stp) (e : S29) (r : List UInt8) : ∀ (os' os : List Oup) (n : Nat), (∀ o ∈ os', OuOK o) → ∃ n', pf (M ++ [⟨e, os, false⟩]) n (outsText os' ++ r) = pf (M ++ [⟨e, os ++ os', false⟩]) n' r
  | [], os, n, _ => ⟨n, by rw [List.append_nil]; rfl⟩
  | o :: t, os, n, h => by
    have ho := h o List.mem_cons_self
    obtain ⟨-, -, -, hc⟩ := outO_line o ho
    have e1 : outsText (o :: t) ++ r = outLine o ++ 10 :: (outsText t ++ r) := by
      have : outsText (o :: t) = outText o ++ outsText t := by simp [outsText]
      rw [this, outText_line]
      simp
    obtain ⟨n', i⟩ := pf_outs M e r t (os ++ [o]) (n + 1) (fun x hx => h x (List.mem_cons_of_mem _ hx))
    refine ⟨n', ?_⟩
    rw [e1, pf_line _ _ hc, line_out M _ rfl o ho, if_pos rfl, i]
    simp
theorem pf_step (L : List Stp) (n : Nat) (x : Stp) (hx : Good x) (hn : Sm x.f0.f1) (hk : Sm x.f0.f2) (hc : (10 : UInt8) ∉ (evO x).1) (r : List UInt8) : ∃ n', pf L n (stepText x ++ r) = pf (L ++ [x]) n' r := by
  have hl := line_ev L x hx hn hk
  have e1 : stepText x ++ r = (evO x).1 ++ 10 :: (outsText x.f1 ++ ((if x.f2 = true then [103, 111, 110, 101, 10] else []) ++ r)) := by
    unfold stepText
    simp
  rw [e1, pf_line _ _ hc, hl, if_pos rfl]
  obtain ⟨n', i⟩ := pf_outs L x.f0 ((if x.f2 = true then [103, 111, 110, 101, 10] else []) ++ r) x.f1 [] (n + 1) hx.1.2.2.2
  simp only
  rw [i, List.nil_append]
  obtain ⟨ev, os, g⟩ := x
  cases g with
  | false => exact ⟨n', rfl⟩
  | true =>
    refine ⟨n' + 1, ?_⟩
    show pf _ n' (goneL ++ 10 :: r) = _
    rw [pf_line _ _ (by decide), line_gone L _ rfl, if_pos rfl]
theorem ev_clean (x : Stp) (h : StOK x) : (10 : UInt8) ∉ (evO x).1 := by
  have key : ∀ j : Fin 9, (10 : UInt8) ∉ (kRows.getD j.1 ([], false, false, false)).1 := by decide
  unfold evO eventO
  by_cases q1 : x.f0.f0 < 0 ∨ 9 ≤ x.f0.f0
  · rw [if_pos q1]
    exact fun h => by cases h
  rw [if_neg q1]
  split
  · exact fun h => by cases h
  simp only
  rw [evText_words]
  intro hm
  rcases List.mem_append.1 hm with hm | hm
  · exact key ⟨x.f0.f0.toNat, by omega⟩ hm
  · obtain ⟨w, hw, hm⟩ := List.mem_flatMap.1 hm
    rcases List.mem_cons.1 hm with hm | hm
    · exact absurd hm (by decide)
    unfold wordsOf at hw
    rcases List.mem_append.1 hw with hw | hw
    · rcases List.mem_append.1 hw with hw | hw
      · split at hw
        · rw [List.mem_singleton.1 hw] at hm
          exact (hexT_ne _ h.2.2.1 10 hm).1 rfl
        · cases hw
      · split at hw
        · rw [List.mem_singleton.1 hw] at hm
          exact (itoa_clean _).2 hm
        · cases hw
    · split at hw
      · rw [List.mem_singleton.1 hw] at hm
        exact (itoa_clean _).2 hm
      · cases hw
/-- Steps' text tells the steps. -/
theorem pf_fmt : ∀ (l L : List Stp) (n : Nat), (∀ x ∈ l, Good x ∧ Sm x.f0.f1 ∧ Sm x.f0.f2) → ∃ n', pf L n (fmtL l) = (L ++ l, n', 0)
  | [], L, n, _ => ⟨n, by rw [List.append_nil]; rfl⟩
  | x :: t, L, n, h => by
    obtain ⟨h1, h2, h3⟩ := h x List.mem_cons_self
    have e1 : fmtL (x :: t) = stepText x ++ fmtL t := by simp [fmtL]
    obtain ⟨n1, i1⟩ := pf_step L n x h1 h2 h3 (ev_clean x h1.1) (fmtL t)
    obtain ⟨n2, i2⟩ := pf_fmt t (L ++ [x]) n1 (fun y hy => h y (List.mem_cons_of_mem _ hy))
    refine ⟨n2, ?_⟩
    rw [e1, i1, i2]
    simp
end Go.Proofs.YtoloooammaiipaaDoor
/- What the law TraceBack gives: a walk; conditions: steps of bytes that weigh at most 1048576, a text of at most 1048576 bytes; the tables lie as the program's text lays them. -/
namespace Go.Proofs.YtoloooammaiipaaDoor
open Go Go.RowKit Go.Proofs.YtoloooammaiipaaDoor.PI Go.Proofs.YtoloooammaiipaaDoorW.PrintWords Go.Proofs.YtoloooammaiipaaDoorW.PrintLast Go.Proofs.YtoloooammaiipaaDoorW.PrintMore
set_option linter.unusedVariables false
set_option linter.unusedSimpArgs false
/-- Whether a number is too great for the law. -/
def bigO (n : Int) : Bool := decide (n > 576460752303423488) || decide (n < -576460752303423488)
theorem big_walk (n : Int) (w : World) : Calls Tryd.prog 25 #[.int .i64 n] w fun e w' => e = .returned (.bool (bigO n)) ∧ Below w.heap.size w w' := by
  go_enter Tryd.func25, Tryd.ntmps25
  by_cases h1 : n > 576460752303423488
  · have c1 : decide (n > 576460752303423488) = true := decide_eq_true h1
    have e : bigO n = true := by unfold bigO; rw [c1]; rfl
    rw [e]
    go_wp2_with fail
    go_ret
    exact ⟨rfl, Below.refl _ _⟩
  · have c1 : decide (n > 576460752303423488) = false := decide_eq_false h1
    obtain ⟨b, hb⟩ : ∃ b, b = decide (n < -576460752303423488) := ⟨_, rfl⟩
    have e : bigO n = b := by unfold bigO; rw [c1, hb]; rfl
    rw [e]
    go_wp2_with fail
    go_ret
    exact ⟨by first | rfl | (rw [hb]; rfl), Below.refl _ _⟩
theorem format_fine {l : List Stp} (h : (formatO l).2 = 0) : (formatO l).1 = fmtL l ∧ ∀ x ∈ l, (evO x).2 = 0 := by
  unfold formatO at h ⊢
  cases hf : l.find? (fun x => (evO x).2 != 0) with
  | some x =>
    rw [hf] at h
    have hx : (evO x).2 ≠ 0 := by simpa using List.find?_some hf
    exact absurd h hx
  | none =>
    refine ⟨rfl, fun x hx => ?_⟩
    have := List.find?_eq_none.1 hf x hx
    simpa using this
theorem wt_out {l : List Stp} {x : Stp} (h : x ∈ l) : x.f1.length ≤ wtL l := by
  induction l with
  | nil => cases h
  | cons y r ih =>
    have e2 : wtL (y :: r) = wtS y + wtL r := by simp [wtL]
    rcases List.mem_cons.1 h with rfl | h
    · have := wtO_len x.f1
      have e3 : wtS x = 1 + x.f0.f3.length + wtO x.f1 := rfl
      omega
    · have := ih h
      omega
theorem hexT_ge (d : List Int) : d.length ≤ (hexT d).length := by
  unfold hexT
  split
  · rename_i h
    rw [h]
    exact Nat.zero_le _
  · rw [hexL_length]
    omega
theorem ev_ge (x : Stp) (h : (evO x).2 = 0) : x.f0.f3.length ≤ (evO x).1.length := by
  unfold evO eventO at h ⊢
  by_cases q1 : x.f0.f0 < 0 ∨ 9 ≤ x.f0.f0
  · rw [if_pos q1] at h
    exact absurd h (by decide)
  rw [if_neg q1] at h ⊢
  split at h
  · exact absurd h (by decide)
  · rename_i q2
    rw [if_neg q2]
    simp only
    by_cases h0 : x.f0.f3 = []
    · rw [h0]
      exact Nat.zero_le _
    · have hd : (kRows.getD x.f0.f0.toNat ([], false, false, false)).2.1 = true := by
        cases hq : (kRows.getD x.f0.f0.toNat ([], false, false, false)).2.1 with
        | true => rfl
        | false => exact absurd (Or.inl ⟨hq, List.length_pos_iff.2 h0⟩) q2
      have := hexT_ge x.f0.f3
      unfold evText
      rw [if_pos hd]
      simp only [List.length_append, List.length_cons]
      omega
theorem outs_ge (L : List Oup) : wtO L ≤ (outsText L).length := by
  induction L with
  | nil => exact Nat.zero_le _
  | cons o r ih =>
    have e1 : outsText (o :: r) = outText o ++ outsText r := by simp [outsText]
    have e2 : wtO (o :: r) = (1 + o.f1.length) + wtO r := by simp [wtO]
    have h1 := hexT_ge o.f1
    have h2 : 1 + o.f1.length ≤ (outText o).length := by
      unfold outText
      simp only [List.length_append, List.length_cons, List.length_nil]
      omega
    rw [e1, e2, List.length_append]
    omega
theorem fmt_ge (l : List Stp) (h : ∀ x ∈ l, (evO x).2 = 0) : wtL l ≤ (fmtL l).length := by
  induction l with
  | nil => exact Nat.zero_le _
  | cons x r ih =>
    have e1 : fmtL (x :: r) = stepText x ++ fmtL r := by simp [fmtL]
    have e2 : wtL (x :: r) = wtS x + wtL r := by simp [wtL]
    have h1 := ev_ge x (h x List.mem_cons_self)
    have h2 := outs_ge x.f1
    have h3 : wtS x ≤ (stepText x).length := by
      unfold stepText wtS
      simp only [List.length_append, List.length_cons, List.length_nil]
      omega
    have := ih (fun y hy => h y (List.mem_cons_of_mem _ hy))
    rw [e1, e2, List.length_append]
    omega
theorem pf_weight {s : List UInt8} (h : (pf [] 0 s).2.2 = 0) : wtL (pf [] 0 s).1 ≤ s.length := by
  obtain ⟨h1, h2⟩ := pf_told [] 0 s h (fun x hx => (by cases hx))
  have := fmt_ge _ (fun x hx => (h2 x hx).2)
  rw [h1] at this
  exact this
set_option maxHeartbeats 16000000 in
set_option maxRecDepth 100000 in
theorem back_walk (A : Option Addr) (c0 : Nat) (l : List Stp) (s : ByteArray) (w : World) (hr : Kd.C k42 w A l.length l) (hc : l.length ≤ c0) (hok : ∀ x ∈ l, StOK x) (hw : wtL l ≤ 1048576) (hs : s.size ≤ 1048576) (hG : GlobT w) :
    Calls Tryd.prog 7 #[.slice A l.length c0, .string s] w fun e w' => e = .returned (.bool true) ∧ Below w.heap.size w w' := by
  have HR := Lib.hid hr
  have HC := Lib.hid hc
  have HOK := Lib.hid hok
  have HW := Lib.hid hw
  have HS := Lib.hid hs
  have HG := Lib.hid hG
  have HGR := Lib.hid (great_is l hw 3000000 (Nat.le_refl _))
  clear hr hc hok hw hs hG
  go_enter Tryd.func7, Tryd.ntmps7
  go_wp2_with fail
  refine (alive_walk w HG.out).mono ?_
  rintro e w1 ⟨rfl, hb1⟩
  have HB1 := Lib.hid hb1
  clear hb1
  go_wp2_with fail
  refine (PM.lamplighterlaw19_great.calls 3000000 A c0 l _ w1 (Kd.C_below HR.out HB1.out) HC.out HGR.out).mono ?_
  rintro e w2 ⟨rfl, hb2⟩
  have HB2 := Lib.hid (below_step HB1.out hb2)
  clear hb2 HB1 w1
  by_cases hgr : 1500 < wtL l
  · rw [decide_eq_true hgr]
    go_wp2_with fail
    refine (alive_walk w2 (globt_below HG.out HB2.out)).mono ?_
    rintro e w3 ⟨rfl, hb3⟩
    have HB3 := Lib.hid (below_step HB2.out hb3)
    clear hb3
    go_wp2_with fail
    go_ret
    exact ⟨rfl, HB3.out⟩
  rw [decide_eq_false hgr]
  by_cases hs2 : (2000 : Int) < (s.size : Int)
  · have c1 : decide ((s.size : Int) > 2000) = true := decide_eq_true hs2
    go_wp2_with fail
    refine (alive_walk w2 (globt_below HG.out HB2.out)).mono ?_
    rintro e w3 ⟨rfl, hb3⟩
    have HB3 := Lib.hid (below_step HB2.out hb3)
    clear hb3
    go_wp2_with fail
    go_ret
    exact ⟨rfl, HB3.out⟩
  have c1 : decide ((s.size : Int) > 2000) = false := decide_eq_false hs2
  have HGS := Lib.hid (show wtL l ≤ 1500 from by omega)
  have HSS := Lib.hid (show s.size ≤ 2000 from by omega)
  clear HGR
  go_wp2_with fail
  go_loopw [32] (fun v32 wr => ∃ i : Nat, v32 = .int .i64 i ∧ i ≤ l.length ∧ Hid (Below w.heap.size w wr ∧ ∀ x ∈ l.take i, bigO x.f0.f1 = false ∧ bigO x.f0.f2 = false)) (fun v32 _ => l.length - (intOf v32).toNat)
  case atStart => exact ⟨0, rfl, by omega, Lib.hid ⟨HB2.out, fun x hx => (by cases hx)⟩⟩
  case round =>
    obtain ⟨i, rfl, hi, hh⟩ := hrel
    have HBW := Lib.hid hh.out.1
    have HSM := Lib.hid hh.out.2
    clear hh
    have HLN := Lib.hid (show l.length ≤ 1000000 from by have := wtL_len l; have := HGS.out; omega)
    by_cases hin : i < l.length
    · have i0 : (0 : Int) ≤ (i : Int) := by omega
      have i1 : (i : Int) < (l.length : Int) := by omega
      obtain ⟨ad, A3, c3, A4, c4, rfl, q0, q1, q2, q3, q4, q5, hc3, hC3, hc4, hC4⟩ := at_T42 HR.out (i : Int) i0 i1
      clear hc3 hC3 hc4 hC4
      have up : ∀ {p : Addr} {v : Value}, w.cell? p = some v → wr.cell? p = some v := fun {p v} h => (HBW.out.cell (World.block_lt_of_cell? w p h)).trans h
      replace q0 := up q0
      replace q1 := up q1
      replace q2 := up q2
      replace q3 := up q3
      replace q4 := up q4
      replace q5 := up q5
      clear up
      rw [rd_step hin] at q0 q1 q2 q3 q4 q5
      simp only [Int.toNat_natCast] at q0 q1 q2 q3 q4 q5
      obtain ⟨x, hx⟩ : ∃ x, x = l[i]'hin := ⟨_, rfl⟩
      rw [← hx] at q0 q1 q2 q3 q4 q5
      have HTK := Lib.hid (show l.take (i + 1) = l.take i ++ [x] from by rw [List.take_succ_eq_append_getElem hin, hx])
      clear hx
      obtain ⟨⟨k0, k1, k2, d⟩, os, cr⟩ := x
      simp only at q0 q1 q2 q3 q4 q5
      have BI := Lib.hid (hnext hin HLN.out)
      go_wp2_with fail
      refine (big_walk k1 _).mono ?_
      rintro e w3 ⟨rfl, hb3⟩
      have x2 := cell_of_cells (blk_new wr (.cells #[.int .i64 k0, .int .i64 k1, .int .i64 k2, .slice A3 d.length c3, .slice A4 os.length c4, .bool cr] 42 (0, 0))) 2
      simp only [List.getElem?_toArray, List.getElem?_cons_zero, List.getElem?_cons_succ] at x2
      replace x2 := (hb3.cell (World.block_lt_of_cell? _ _ x2)).trans x2
      have HB3 := Lib.hid (below_step (below_alloc HBW.out (.cells #[.int .i64 k0, .int .i64 k1, .int .i64 k2, .slice A3 d.length c3, .slice A4 os.length c4, .bool cr] 42 (0, 0))) hb3)
      clear hb3 q0 q1 q2 q3 q4 q5
      cases hb : bigO k1 with
      | true =>
        go_wp2_with fail
        go_ret
        exact ⟨rfl, HB3.out⟩
      | false =>
        go_wp2_with fail
        refine (big_walk k2 _).mono ?_
        rintro e w4 ⟨rfl, hb4⟩
        have HB4 := Lib.hid (below_step HB3.out hb4)
        clear hb4 x2
        cases hb2 : bigO k2 with
        | true =>
          go_wp2_with fail
          go_ret
          exact ⟨rfl, HB4.out⟩
        | false =>
          have HSN := Lib.hid (show ∀ x ∈ l.take (i + 1), bigO x.f0.f1 = false ∧ bigO x.f0.f2 = false from fun x hx => by
            rw [HTK.out] at hx
            rcases List.mem_append.1 hx with hx | hx
            · exact HSM.out x hx
            · rw [List.mem_singleton.1 hx]
              exact ⟨hb, hb2⟩)
          clear hb hb2
          go_wp2_with fail
          exact ⟨⟨i + 1, by first | rfl | exact congrArg _ BI.out, hin, Lib.hid ⟨HB4.out, HSN.out⟩⟩, by first | exact hmeas hin BI.out | exact hmeas hin rfl⟩
    · obtain rfl : i = l.length := by omega
      have HSA := Lib.hid (show ∀ x ∈ l, Sm x.f0.f1 ∧ Sm x.f0.f2 from fun x hx => by
        have h := HSM.out x (by rw [List.take_length]; exact hx)
        unfold bigO at h
        simp only [Bool.or_eq_false_iff, decide_eq_false_iff_not] at h
        unfold Sm
        omega)
      clear HSM hi
      go_wp2_with fail
      refine (format_walk A c0 l wr (Kd.C_below HR.out HBW.out) HC.out HOK.out (by have := HGS.out; omega) (globt_below HG.out HBW.out)).mono ?_
      rintro e w4 ⟨rfl, hb4⟩
      have HB4 := Lib.hid (below_step HBW.out hb4)
      clear hb4
      by_cases he : (formatO l).2 = 0
      · obtain ⟨f0, v0⟩ := format_fine he
        rw [he, f0]
        have hlen := fmtL_len l HOK.out
        obtain ⟨n', hpl⟩ := pf_fmt l [] 0 (fun x hx => ⟨⟨HOK.out x hx, v0 x hx⟩, HSA.out x hx⟩)
        rw [List.nil_append] at hpl
        go_wp2_with fail
        refine (parse_walk (strOf (fmtL l)) (by rw [strOf_size]; have := HGS.out; omega) w4 (globt_below HG.out HB4.out)).mono ?_
        rintro e w5 ⟨hb5, v, rfl, hS⟩
        have HB5 := Lib.hid (below_step HB4.out hb5)
        have hN := Kd.R_N (Kd.S_R hS)
        have hpf : parseO (strOf (fmtL l)).data.toList = (l, n', 0) := by rw [strOf_data]; exact hpl
        rw [hpf] at hN ⊢
        obtain ⟨D, cD, rfl⟩ := Kd.N_slice hN
        have hCD := Kd.N_reads' hN
        clear hS hN hb5 hpf hpl hlen f0 v0 he
        simp only at hCD ⊢
        go_wp2_with fail
        refine (same_walk A D c0 cD l w5 (Kd.C_below HR.out HB5.out) hCD.2.2 HLN.out (fun x hx => by have := wt_out hx; have := HGS.out; omega)).mono ?_
        rintro e wz ⟨rfl, hbz⟩
        have HBZ := Lib.hid (below_step HB5.out hbz)
        clear hbz hCD HB5 HB4
        go_wp2_with fail
        refine (parse_walk s (by have := HSS.out; omega) wz (globt_below HG.out HBZ.out)).mono ?_
        rintro e w6 ⟨hb6, v, rfl, hS⟩
        have HB6 := Lib.hid (below_step HBZ.out hb6)
        have hN := Kd.R_N (Kd.S_R hS)
        have hpf : parseO s.data.toList = pf [] 0 s.data.toList := rfl
        rw [hpf] at hN ⊢
        obtain ⟨B, cB, rfl⟩ := Kd.N_slice hN
        have hCB := Kd.N_reads' hN
        clear hS hN hb6 hpf
        rcases pf_err [] 0 s.data.toList with hp | ⟨hp, hp2⟩
        · obtain ⟨g1, g2⟩ := format_told hp
          have g3 := pf_weight hp
          rw [hp]
          generalize (pf [] 0 s.data.toList).2.1 = nn
          generalize (pf [] 0 s.data.toList).1 = m at hCB g1 g2 g3 ⊢
          have HCB := Lib.hid hCB
          have HM := Lib.hid (show wtL m ≤ 100000 from by have := HSS.out; rw [len_size] at g3; omega)
          clear hCB g3
          go_wp2_with fail
          refine (format_walk B cB m w6 HCB.out.2.2 HCB.out.2.1 g2 HM.out (globt_below HG.out HB6.out)).mono ?_
          rintro e w7 ⟨rfl, hb7⟩
          have HB7 := Lib.hid (below_step HB6.out hb7)
          clear hb7
          rw [g1]
          simp only
          have hss : strOf s.data.toList = s := rfl
          rw [hss]
          have p3 : (s.toList == s.toList) = true := beq_self_eq_true _
          clear g1 g2 hss
          go_wp2_with fail
          go_ret
          exact ⟨by first | rfl | simp, HB7.out⟩
        · rw [hp, hp2]
          generalize (pf [] 0 s.data.toList).2.1 = nn
          clear hCB
          go_wp2_with fail
          go_ret
          exact ⟨by first | rfl | simp, HB6.out⟩
      · have e1 : ((formatO l).2 == 0) = false := beq_eq_false_iff_ne.2 he
        obtain ⟨wz, hwz⟩ : ∃ wz, wz = w4 := ⟨_, rfl⟩
        have HBZ := HB4
        rw [← hwz] at HBZ ⊢
        clear hwz HB4
        go_wp2_with fail
        refine (parse_walk s (by have := HSS.out; omega) wz (globt_below HG.out HBZ.out)).mono ?_
        rintro e w6 ⟨hb6, v, rfl, hS⟩
        have HB6 := Lib.hid (below_step HBZ.out hb6)
        have hN := Kd.R_N (Kd.S_R hS)
        have hpf : parseO s.data.toList = pf [] 0 s.data.toList := rfl
        rw [hpf] at hN ⊢
        obtain ⟨B, cB, rfl⟩ := Kd.N_slice hN
        have hCB := Kd.N_reads' hN
        clear hS hN hb6 hpf
        rcases pf_err [] 0 s.data.toList with hp | ⟨hp, hp2⟩
        · obtain ⟨g1, g2⟩ := format_told hp
          have g3 := pf_weight hp
          rw [hp]
          generalize (pf [] 0 s.data.toList).2.1 = nn
          generalize (pf [] 0 s.data.toList).1 = m at hCB g1 g2 g3 ⊢
          have HCB := Lib.hid hCB
          have HM := Lib.hid (show wtL m ≤ 100000 from by have := HSS.out; rw [len_size] at g3; omega)
          clear hCB g3
          go_wp2_with fail
          refine (format_walk B cB m w6 HCB.out.2.2 HCB.out.2.1 g2 HM.out (globt_below HG.out HB6.out)).mono ?_
          rintro e w7 ⟨rfl, hb7⟩
          have HB7 := Lib.hid (below_step HB6.out hb7)
          clear hb7
          rw [g1]
          simp only
          have hss : strOf s.data.toList = s := rfl
          rw [hss]
          have p3 : (s.toList == s.toList) = true := beq_self_eq_true _
          clear g1 g2 hss
          go_wp2_with fail
          go_ret
          exact ⟨by first | rfl | simp, HB7.out⟩
        · rw [hp, hp2]
          generalize (pf [] 0 s.data.toList).2.1 = nn
          clear hCB
          go_wp2_with fail
          go_ret
          exact ⟨by first | rfl | simp, HB6.out⟩
end Go.Proofs.YtoloooammaiipaaDoor
/- The law TraceBack, in plain words: steps' text is parsed as them; what is parsed is written as that text; conditions: steps of bytes, which weigh at most 1048576 with the text. -/
namespace Go.Proofs.YtoloooammaiipaaDoor
open Go Go.RowKit Go.Proofs.YtoloooammaiipaaDoor.PI Go.Proofs.YtoloooammaiipaaDoorW.PrintWords Go.Proofs.YtoloooammaiipaaDoorW.PrintLast
namespace Pure
theorem TraceBack {A : Option Addr} {c0 : Nat} (l : List Stp) (s : ByteArray) (hok : ∀ x ∈ l, StOK x) (hw : wtL l ≤ 1048576) (hs : s.size ≤ 1048576) (w : World) (hr : Kd.C k42 w A l.length l) (hc : l.length ≤ c0) (hG : GlobT w) :
    Calls Tryd.prog 7 #[.slice A l.length c0, .string s] w fun e w' => e = .returned (.bool true) ∧ Below w.heap.size w w' := back_walk A c0 l s w hr hc hok hw hs hG
end Pure
end Go.Proofs.YtoloooammaiipaaDoor
/- A slice of steps as an argument: what it holds, how much its reading counts, and that its reading stays while the memory that was there stays; condition: it reads at its type. -/
namespace Go.Proofs.YtoloooammaiipaaDoor.OpenSt
open Go Go.Deep Go.ChangeShapes Go.WideShapes Go.ChangeAt Go.RowKit Go.Proofs.YtoloooammaiipaaDoor Go.Proofs.YtoloooammaiipaaDoor.PI Go.Proofs.YtoloooammaiipaaDoorW.PrintWords Go.Proofs.YtoloooammaiipaaDoorW.PrintLast
set_option linter.unusedVariables false

theorem laidOut : laidOutB Tryd.prog = true := by kernel_rfl
section
variable {H : Type} {enc : TypeId × Value → H} {W : World}
/-- Elements of a kind, as a row's reading gives them. -/
theorem choose_all {β : Type} {α : Type} {l : List β} {R : Nat → β → α → Prop} (h : ∀ (i : Nat) (b : β), l[i]? = some b → ∃ a, R i b a) : ∃ ys : List α, ys.length = l.length ∧ ∀ (i : Nat) (b : β), l[i]? = some b → ∃ a, ys[i]? = some a ∧ R i b a := by
  induction l generalizing R with
  | nil => exact ⟨[], rfl, fun i b hb => by simp at hb⟩
  | cons x r ih =>
    obtain ⟨a, ha⟩ := h 0 x rfl
    obtain ⟨ys, hl, hy⟩ := ih (R := fun i b a => R (i + 1) b a) (fun i b hb => h (i + 1) b (by simpa using hb))
    refine ⟨a :: ys, by simp [hl], fun i b hb => ?_⟩
    cases i with
    | zero =>
      simp only [List.getElem?_cons_zero, Option.some.injEq] at hb
      subst hb
      exact ⟨a, rfl, ha⟩
    | succ i => exact hy i b (by simpa using hb)
theorem bulk_all (l : List (DataW H)) : Rows.uptoBulkAll l = (l.map Rows.uptoBulk).sum := by
  induction l with
  | nil => rfl
  | cons x r ih => simp only [Rows.uptoBulkAll, ih, List.map_cons, List.sum_cons]
theorem sum_le {α β : Type} {ys : List α} {xs : List β} {f : α → Nat} {g : β → Nat} (hl : ys.length = xs.length) (h : ∀ (i : Nat) (b : β), xs[i]? = some b → ∃ a, ys[i]? = some a ∧ f a ≤ g b) : (ys.map f).sum ≤ (xs.map g).sum := by
  induction xs generalizing ys with
  | nil =>
    obtain rfl := List.eq_nil_of_length_eq_zero hl
    exact Nat.le_refl _
  | cons x r ih =>
    obtain ⟨a, ha, hfg⟩ := h 0 x rfl
    cases ys with
    | nil => simp at ha
    | cons y s =>
      simp only [List.getElem?_cons_zero, Option.some.injEq] at ha
      subst ha
      have := ih (ys := s) (by simpa using hl) (fun i b hb => by simpa using h (i + 1) b (by simpa using hb))
      simp only [List.map_cons, List.sum_cons]
      omega
theorem open_row {α : Type} (d : Kd α) {e t : TypeId} (ht : Tryd.prog.underlying t = some (.slice e)) (hce : Tryd.prog.cellsOf e = d.sz) (Q : α → Prop) (wt : α → Nat) {fuel : Nat} {cs : List Value} {x : DataW H × List MemPlace}
    (elem : ∀ (n : Nat) (cs : List Value) (x : DataW H × List MemPlace), DataW.trod enc Tryd.prog W 0 (fun _ => true) true n e cs = some x → ∃ a, d.K W a cs ∧ Q a ∧ wt a ≤ Rows.uptoBulk x.1)
    (h : DataW.trod enc Tryd.prog W 0 (fun _ => true) true fuel t cs = some x) :
    ∃ (A : Option Addr) (l : List α) (c : Nat), cs = [.slice A l.length c] ∧ l.length ≤ c ∧ d.C W A l.length l ∧ (∀ a ∈ l, Q a) ∧ (l.map wt).sum + 1 ≤ Rows.uptoBulk x.1 := by
  rcases DataW.trod_slice ht h with ⟨rfl, rfl⟩ | ⟨ad, len, cap, elems, rest, n, rfl, rfl, rfl, -, hl, hm, hlen, hel, -, -⟩
  · exact ⟨none, [], 0, rfl, Nat.le_refl _, ⟨rfl, by simp, fun h => absurd h (by simp)⟩, (fun a ha => by cases ha), Nat.le_refl 1⟩
  · have key : ∀ (i : Nat) (b : DataW H × List MemPlace), elems[i]? = some b → ∃ a : α, (∃ c, c.length = d.sz ∧ d.K W a c ∧ ∀ j u, c[j]? = some u → W.cell? (ad.add (i * d.sz + j)) = some u) ∧ Q a ∧ wt a ≤ Rows.uptoBulk b.1 := fun i b hb => by
      have hi : i < len := by
        have := (List.getElem?_eq_some_iff.1 hb).1
        omega
      have h1 := hel i hi
      rw [hb, hce] at h1
      obtain ⟨c, hc, hx⟩ := Option.bind_eq_some_iff.1 h1
      obtain ⟨-, hcl, hcc⟩ := World.cells?_some hc
      obtain ⟨a, hK, hQ, hw⟩ := elem n c b hx
      refine ⟨a, ⟨c, hcl, hK, fun j u hu => ?_⟩, hQ, hw⟩
      have hj : j < d.sz := by
        have := (List.getElem?_eq_some_iff.1 hu).1
        omega
      have h2 := hcc j hj
      rw [Deep.add_add] at h2
      rw [h2, hu]
    obtain ⟨ys, hyl, hy⟩ := choose_all key
    have hyn : ys.length = len := by omega
    refine ⟨some ad, ys, cap, by rw [hyn], by omega, ⟨rfl, by rw [hyn]; unfold maxLen at hm; omega, fun _ => ⟨ad, rfl, fun j p hp => ?_⟩⟩, fun a ha => ?_, ?_⟩
    · have hj : j < elems.length := by
        have := (List.getElem?_eq_some_iff.1 hp).1
        omega
      obtain ⟨a, ha, hR, -, -⟩ := hy j _ (List.getElem?_eq_getElem hj)
      obtain rfl := Option.some.inj (hp.symm.trans ha)
      exact hR
    · obtain ⟨j, hj, rfl⟩ := List.mem_iff_getElem.1 ha
      obtain ⟨a', ha', -, hq, -⟩ := hy j _ (List.getElem?_eq_getElem (by omega : j < elems.length))
      obtain rfl := Option.some.inj ((List.getElem?_eq_getElem hj).symm.trans ha')
      exact hq
    · have h1 := sum_le (f := wt) (g := fun b : DataW H × List MemPlace => Rows.uptoBulk b.1) hyl (fun i b hb => by
        obtain ⟨a, ha, -, -, hw⟩ := hy i b hb
        exact ⟨a, ha, hw⟩)
      have h2 : (elems.map fun b => Rows.uptoBulk b.1).sum = Rows.uptoBulkAll (elems.map (·.1)) := by
        rw [bulk_all, List.map_map]
        rfl
      simp only [Rows.uptoBulk]
      omega
theorem byte_wf {a : Int} (ha : (Lit.int .u8 a).wf = true) : 0 ≤ a ∧ a ≤ 255 := by simpa [Lit.wf, IntKind.min, IntKind.max, IntKind.signed, IntKind.bits] using ha
theorem int_wf {a : Int} (ha : (Lit.int .i64 a).wf = true) : -9223372036854775808 ≤ a ∧ a ≤ 9223372036854775807 := by simpa [Lit.wf, IntKind.min, IntKind.max, IntKind.signed, IntKind.bits] using ha
theorem sum_ones (l : List Int) : (l.map fun _ => 1).sum = l.length := by
  induction l with
  | nil => rfl
  | cons x r ih => rw [List.map_cons, List.sum_cons, ih, List.length_cons]; omega
theorem open_data {n : Nat} {cs : List Value} {x : DataW H × List MemPlace} (h : DataW.trod enc Tryd.prog W 0 (fun _ => true) true n 22 cs = some x) :
    ∃ (A : Option Addr) (l : List Int) (c : Nat), cs = [.slice A l.length c] ∧ l.length ≤ c ∧ (Kd.int .u8).C W A l.length l ∧ (∀ a ∈ l, 0 ≤ a ∧ a ≤ 255) ∧ l.length + 1 ≤ Rows.uptoBulk x.1 := by
  obtain ⟨A, l, c, h1, h2, h3, h4, h5⟩ := open_row (Kd.int .u8) (e := 5) Tryd.underlying22 (by kernel_rfl) (fun a => 0 ≤ a ∧ a ≤ 255) (fun _ => 1) (fun n cs x hx => by
    obtain ⟨z, rfl, rfl, hw⟩ := DataW.trod_int Tryd.underlying5 hx
    exact ⟨z, rfl, byte_wf hw, Nat.le_refl 1⟩) h
  rw [sum_ones] at h5
  exact ⟨A, l, c, h1, h2, h3, h4, h5⟩
theorem two_of {xs : List (DataW H × List MemPlace)} (h : xs.length = 2) : ∃ a b, xs = [a, b] := by
  match xs, h with
  | [a, b], _ => exact ⟨a, b, rfl⟩
theorem three_of {xs : List (DataW H × List MemPlace)} (h : xs.length = 3) : ∃ a b c, xs = [a, b, c] := by
  match xs, h with
  | [a, b, c], _ => exact ⟨a, b, c, rfl⟩
theorem four_of {xs : List (DataW H × List MemPlace)} (h : xs.length = 4) : ∃ a b c d, xs = [a, b, c, d] := by
  match xs, h with
  | [a, b, c, d], _ => exact ⟨a, b, c, d, rfl⟩
set_option maxRecDepth 100000 in
theorem open_out {n : Nat} {cs : List Value} {x : DataW H × List MemPlace} (h : DataW.trod enc Tryd.prog W 0 (fun _ => true) true n 56 cs = some x) : ∃ a : Oup, k56.K W a cs ∧ OuOK a ∧ 1 + a.f1.length ≤ Rows.uptoBulk x.1 := by
  obtain ⟨xs, m, rfl, rfl, hl, hn, hf⟩ := DataW.trod_struct Tryd.underlying56 h
  obtain ⟨a, b, rfl⟩ := two_of hn
  have hl2 : cs.length = 2 := hl.trans (by kernel_rfl)
  match cs, hl2 with
  | [v0, v1], _ =>
    have f0 : DataW.trod enc Tryd.prog W 0 (fun _ => true) true m 4 [v0] = some a := hf 0 _ rfl
    have f1 : DataW.trod enc Tryd.prog W 0 (fun _ => true) true m 22 [v1] = some b := hf 1 _ rfl
    obtain ⟨b0, e0, rfl⟩ := DataW.trod_bool Tryd.underlying4 f0
    obtain ⟨A, l, c, e1, hc, hC, hb, hw⟩ := open_data f1
    obtain rfl : v0 = .bool b0 := by simpa using e0
    obtain rfl : v1 = .slice A l.length c := by simpa using e1
    refine ⟨⟨b0, l⟩, k56_mk W ⟨b0, l⟩ hc hC, hb, ?_⟩
    simp only [List.map_cons, List.map_nil, Rows.uptoBulk, Rows.uptoBulkAll]
    omega
set_option maxRecDepth 100000 in
theorem open_event {n : Nat} {cs : List Value} {x : DataW H × List MemPlace} (h : DataW.trod enc Tryd.prog W 0 (fun _ => true) true n 29 cs = some x) :
    ∃ (k0 k1 k2 : Int) (A : Option Addr) (l : List Int) (c : Nat), cs = [.int .i64 k0, .int .i64 k1, .int .i64 k2, .slice A l.length c] ∧ ((-9223372036854775808 ≤ k1 ∧ k1 ≤ 9223372036854775807) ∧ (-9223372036854775808 ≤ k2 ∧ k2 ≤ 9223372036854775807)) ∧ l.length ≤ c ∧ (Kd.int .u8).C W A l.length l ∧ (∀ a ∈ l, 0 ≤ a ∧ a ≤ 255) ∧ 1 + l.length ≤ Rows.uptoBulk x.1 := by
  obtain ⟨xs, m, rfl, rfl, hl, hn, hf⟩ := DataW.trod_struct Tryd.underlying29 h
  obtain ⟨a, b, d, e, rfl⟩ := four_of hn
  have hl2 : cs.length = 4 := hl.trans (by kernel_rfl)
  match cs, hl2 with
  | [v0, v1, v2, v3], _ =>
    have f0 : DataW.trod enc Tryd.prog W 0 (fun _ => true) true m 3 [v0] = some a := hf 0 _ rfl
    have f1 : DataW.trod enc Tryd.prog W 0 (fun _ => true) true m 3 [v1] = some b := hf 1 _ rfl
    have f2 : DataW.trod enc Tryd.prog W 0 (fun _ => true) true m 3 [v2] = some d := hf 2 _ rfl
    have f3 : DataW.trod enc Tryd.prog W 0 (fun _ => true) true m 22 [v3] = some e := hf 3 _ rfl
    obtain ⟨z0, e0, rfl, -⟩ := DataW.trod_int Tryd.underlying3 f0
    obtain ⟨z1, e1, rfl, w1⟩ := DataW.trod_int Tryd.underlying3 f1
    obtain ⟨z2, e2, rfl, w2⟩ := DataW.trod_int Tryd.underlying3 f2
    obtain ⟨A, l, c, e3, hc, hC, hb, hw⟩ := open_data f3
    obtain rfl : v0 = .int .i64 z0 := by simpa using e0
    obtain rfl : v1 = .int .i64 z1 := by simpa using e1
    obtain rfl : v2 = .int .i64 z2 := by simpa using e2
    obtain rfl : v3 = .slice A l.length c := by simpa using e3
    refine ⟨z0, z1, z2, A, l, c, rfl, ⟨int_wf w1, int_wf w2⟩, hc, hC, hb, ?_⟩
    simp only [List.map_cons, List.map_nil, Rows.uptoBulk, Rows.uptoBulkAll]
    omega
set_option maxRecDepth 100000 in
theorem open_step {n : Nat} {cs : List Value} {x : DataW H × List MemPlace} (h : DataW.trod enc Tryd.prog W 0 (fun _ => true) true n 42 cs = some x) : ∃ a : Stp, k42.K W a cs ∧ StOK a ∧ wtS a ≤ Rows.uptoBulk x.1 := by
  obtain ⟨xs, m, rfl, rfl, hl, hn, hf⟩ := DataW.trod_struct Tryd.underlying42 h
  obtain ⟨a, b, d, rfl⟩ := three_of hn
  have hl2 : cs.length = 6 := hl.trans (by kernel_rfl)
  match cs, hl2 with
  | [v0, v1, v2, v3, v4, v5], _ =>
    have f0 : DataW.trod enc Tryd.prog W 0 (fun _ => true) true m 29 [v0, v1, v2, v3] = some a := hf 0 _ rfl
    have f1 : DataW.trod enc Tryd.prog W 0 (fun _ => true) true m 40 [v4] = some b := hf 1 _ rfl
    have f2 : DataW.trod enc Tryd.prog W 0 (fun _ => true) true m 4 [v5] = some d := hf 2 _ rfl
    obtain ⟨z0, z1, z2, A, l, c, e0, hz, hc, hC, hb, hw⟩ := open_event f0
    obtain ⟨A2, l2, c2, e1, hc2, hC2, hq2, hw2⟩ := open_row k56 (e := 56) Tryd.underlying40 (by kernel_rfl) OuOK (fun a : Oup => 1 + a.f1.length) (fun n cs x hx => open_out hx) f1
    obtain ⟨b5, e2, rfl⟩ := DataW.trod_bool Tryd.underlying4 f2
    simp only [List.cons.injEq, and_true] at e0 e1 e2
    obtain ⟨rfl, rfl, rfl, rfl⟩ := e0
    subst e1 e2
    refine ⟨⟨⟨z0, z1, z2, l⟩, l2, b5⟩, k42_mk W ⟨⟨z0, z1, z2, l⟩, l2, b5⟩ hc hC hc2 hC2, ⟨hz.1, hz.2, hb, hq2⟩, ?_⟩
    have e9 : wtO l2 = (l2.map fun a : Oup => 1 + a.f1.length).sum := rfl
    simp only [List.map_cons, List.map_nil, Rows.uptoBulk, Rows.uptoBulkAll, wtS]
    rw [e9]
    omega
end
set_option maxRecDepth 100000 in
theorem open_steps {H : Type} {enc : TypeId × Value → H} {W : World} {base : Nat} {v : Value} {d : DataW H} {p : List MemPlace} (hv : Value.okWide Tryd.prog W .any base 43 v) (h : DataW.Trod enc Tryd.prog W 0 (fun _ => true) true 43 v d p) :
    ∃ (A : Option Addr) (l : List Stp) (c : Nat), v = .slice A l.length c ∧ l.length ≤ c ∧ k42.C W A l.length l ∧ (∀ x ∈ l, StOK x) ∧ wtL l + 1 ≤ Rows.uptoBulk d ∧
      ∀ W', Below W.heap.size W W' → DataW.Trod enc Tryd.prog W' 0 (fun b => decide (b < W.heap.size)) true 43 v d p := by
  obtain ⟨a, len, cap, rfl⟩ := okWide_slice Tryd.underlying43 hv
  have k := h
  have lt : ∀ x ∈ p, x.block < W.heap.size := by obtain ⟨m, hm⟩ := k; exact DataW.trod_lt m _ _ _ hm
  obtain ⟨fuel, hf⟩ := h
  have hshut : ∀ W', Below W.heap.size W W' → DataW.Trod enc Tryd.prog W' 0 (fun b => decide (b < W.heap.size)) true 43 (.slice a len cap) d p := fun W' bel => Below.trod laidOut (by kernel_rfl) (of_decide_eq_true (by kernel_rfl)) k bel lt
  obtain ⟨A, l, c, e, hc, hC, hq, hw⟩ := open_row k42 (e := 42) Tryd.underlying43 (by kernel_rfl) StOK wtS (fun n cs x hx => open_step hx) hf
  have e2 : Value.slice a len cap = .slice A l.length c := by simpa [Value.cells] using e
  exact ⟨A, l, c, e2, hc, hC, hq, hw, hshut⟩
end Go.Proofs.YtoloooammaiipaaDoor.OpenSt
/- A world for the witness of a row that lists package-level tables and errors: each listed table holds what the row lists, each listed error a new block of its own. No conditions. -/
namespace Go.Proofs.YtoloooammaiipaaDoor.Laid
open Go Go.ChangeShapes Go.WideShapes Go.ChangeAt Go.RowKit
/-- The cells of a datum of numbers, texts and rows of them. -/
def cellsAt {H : Type} : Nat → DataW H → List Value
  | 0, _ => []
  | _ + 1, .lit (.int k n) => [.int k n]
  | _ + 1, .lit (.bool b) => [.bool b]
  | _ + 1, .lit (.string b) => [.string ⟨b.toArray⟩]
  | n + 1, .agg ps => ps.flatMap (cellsAt n)
  | _ + 1, _ => []
def layOne (P : Program) (h : Array Obj) (x : String × DataW Unit) : Array Obj :=
  match P.globalNamed x.1 with
  | some g => match x.2 with
    | .iface _ (.ptr d) => (h.push (.cells (cellsAt 5 d).toArray 140 (0, 0))).modify g fun
      | .cells _ t frozen => .cells #[.iface 138 (.pointer (some ⟨h.size, 0, none⟩))] t frozen
      | o => o
    | d => h.modify g fun
      | .cells _ t frozen => .cells (cellsAt 5 d).toArray t frozen
      | o => o
  | none => h
noncomputable def laidWorld (os : Os) : World :=
  { World.holding Tryd.prog os ⟨#[], #[], []⟩ with heap := Rows.traceBytesRow.laid.foldl (layOne Tryd.prog) (World.holding Tryd.prog os ⟨#[], #[], []⟩).heap }
set_option maxRecDepth 100000 in
theorem laid_met (os : Os) (args : Array Value) : laidMet Tryd.prog Rows.traceBytesRow.laid ((laidWorld os).forCall (fun _ _ => 0) ⟨#[], args, []⟩).memory :=
  laidMet_of_run3 8 (by kernel_rfl) (by kernel_rfl) (by kernel_rfl)
end Go.Proofs.YtoloooammaiipaaDoor.Laid

namespace Go.Proofs.YtoloooammaiipaaDoor.traceBack
open Go.ChangeShapes Go.WideShapes Go.ChangeAt Go.RowKit
open Go.ChangeMaps (open_string shut_string)
set_option linter.unusedVariables false
theorem own : ownKnob Tryd.prog.godebug = none := by kernel_rfl
theorem byte_wf {a : Int} (ha : (Lit.int .u8 a).wf = true) : 0 ≤ a ∧ a ≤ 255 := by simpa [Lit.wf, IntKind.min, IntKind.max, IntKind.signed, IntKind.bits] using ha
theorem word_wf {a : Int} (ha : (Lit.int .u16 a).wf = true) : 0 ≤ a ∧ a ≤ 65535 := by simpa [Lit.wf, IntKind.min, IntKind.max, IntKind.signed, IntKind.bits] using ha
set_option maxRecDepth 100000 in
/-- What the walk gives, for every argument. -/
theorem contract (H : Type) (enc : TypeId × Value → H) (W : World) (base : Nat) (args : Array Value) (ds gs : List (DataW H)) (before : List MemPlace)
    (hval0 : ∀ (j : Nat) t v, Tryd.f7.params[j]? = some t → args[j]? = some v → Value.okWide Tryd.prog W .any base t v)
    (hW : DataW.Whole enc Tryd.prog Tryd.f7.params.toList Rows.traceBackSpec.vars false W args.toList ds gs before)
    (hk : Rows.uptoSmall H (ds ++ gs) = true)
    (hsz0 : (DataW.weightsEach Tryd.prog (Tryd.f7.params.toList ++ Rows.traceBackSpec.plain.varTypes Tryd.prog) (ds ++ gs)).all (· ≤ reachBytes) = true)
    (hL : laidMetH Tryd.prog Rows.traceBackUptoRow.laid W)
    : Calls Tryd.prog 7 args W fun e W' => ∃ v, e = .returned v ∧ Rows.traceBackSpec.post enc Tryd.prog Tryd.f7 false true false false W args v W' := by
  have hsz := hsz0
  have hval : ∀ (j : Nat) t v, Tryd.f7.params[j]? = some t → args[j]? = some v → Value.okWide Tryd.prog W .any base t v := hval0
  have hW' := hW
  obtain ⟨p, q, hA0, hV, rfl, hfz, hnd⟩ := hW
  have hA : DataW.TrodAll enc Tryd.prog W 0 (fun _ => true) true Tryd.f7.params.toList args.toList ds p := hA0
  rw [Tryd.params7] at hA hval hsz
  obtain ⟨v0, vs0, d0, ds0, p0, q0, hargs, rfl, rfl, h0, r0⟩ := trodAll_cons hA
  obtain ⟨v1, vs1, d1, ds1, p1, q1, rfl, rfl, rfl, h1, r1⟩ := trodAll_cons r0
  obtain ⟨rfl, rfl, rfl⟩ := trodAll_nil r1
  obtain rfl : args = #[v0, v1] := by cases args; simp_all
  obtain ⟨rfl, rfl⟩ := trodVars_none hV
  have hkb : Rows.uptoBulkAll ([d0, d1] : List (DataW H)) ≤ 1048576 := by
    have h : Rows.uptoBulkAll ([d0, d1] ++ ([] : List (DataW H))) ≤ 1048576 := of_decide_eq_true hk
    simpa using h
  simp only [Rows.uptoBulkAll] at hkb
  obtain ⟨A0, l0, c0, rfl, n0, r0', q0, u0, b0⟩ := OpenSt.open_steps (hval 0 43 v0 rfl rfl) h0
  obtain ⟨a1, rfl, rfl, rfl, y1⟩ := open_string Tryd.underlying9 (hval 1 9 v1 rfl rfl) h1
  have w1 : a1.size ≤ 1048576 := by
    have e : a1.data.toList.length = a1.size := by rw [Array.length_toList]; rfl
    simp only [Rows.uptoBulk] at hkb
    omega
  clear hA0 hval0 hsz0
  refine (Pure.TraceBack l0 a1 q0 (by omega) w1 W r0' n0 (globt_laid hL)).mono fun e W' ⟨he, bel⟩ => ?_
  subst he
  exact ⟨_, rfl, _, _, _, [], _, [], hW', trodAll_mk1 (shut_bool Tryd.underlying4 _), (trodAll_cons_mk (b0 _ bel) (trodAll_cons_mk (shut_string Tryd.underlying9 y1) trodAll_mk0)), rfl, bel.frame _, fun h => by cases h⟩
set_option maxRecDepth 100000 in
theorem lifted (os : Os) (started : os.Started) (H : Type) (enc : TypeId × Value → H) (F : Stop.Interp) :
    ReturnsInHanded {} Tryd.checked os 7 .any ((Rows.OpenSpec.upto Rows.traceBackSpec).preRow enc Tryd.prog Tryd.f7 Rows.traceBackUptoRow.domain false Rows.traceBackUptoRow.laid) (((Rows.OpenSpec.upto Rows.traceBackSpec).at F).post enc Tryd.prog Tryd.f7 false true false false) := by
  refine returnsInHanded_of_row (C := Tryd.checked) (s := (Rows.OpenSpec.upto Rows.traceBackSpec)) own started (by kernel_rfl) Tryd.func7
    (witness_row_at (enc := enc) (C := Tryd.checked) false (Laid.laidWorld os) #[.slice none 0 0, .string ByteArray.empty] rfl (by kernel_rfl) (by kernel_rfl) (by kernel_rfl)
      (OpenSpec.preRow_of_cond 8 (x := ([.nil, .lit (.string [])], [], [])) (by kernel_rfl) (by kernel_rfl) (fun k hk => by cases hk; kernel_rfl) (by kernel_rfl) (Laid.laid_met os _))) ?_
  intro W base args ds gs before hval hW _ hcond hsz hL _ _
  exact contract H enc W base args ds gs before hval hW (hcond _ rfl) hsz hL
theorem over : Rows.traceBackUptoRow.holds Tryd.pinned (Rows.OpenSpec.upto Rows.traceBackSpec) :=
  OpenClaim.holds_of_cond 7 Tryd.f7 rfl rfl rfl rfl rfl rfl rfl ⟨rfl, rfl, rfl, rfl, rfl⟩ rfl rfl rfl rfl rfl (by kernel_rfl) Tryd.func7 (by kernel_rfl)
    (of_decide_eq_true (by kernel_rfl)) (by unfold Func.isWrapper; first | (rw [if_pos (by decide +kernel)]; kernel_rfl) | (rw [if_neg (by decide +kernel)]; exact ⟨rfl, rfl⟩))
    (fun os started H enc _ F => by rw [OpenClaim.pre_eq_preRow]; exact lifted os started H enc F)
theorem proved : Rows.TraceBackUptoSaid := over
/-- No parameter wants a stand-in; the program's own looks are off. -/
theorem plain (f : FuncId) (fn : Func) (hf : Tryd.pinned.checked.prog.funcNamed "lamplighter/lamplighterlaw19.TraceBack" = some f) (hfn : Tryd.pinned.checked.prog.funcs[f]? = some fn) :
    true = Tryd.pinned.checked.prog.looks [] ∧ ∀ (j : Nat) t, fn.params[j]? = some t → Tryd.pinned.checked.prog.wantsStandIn t = false := by
  obtain rfl : f = 7 := Option.some.inj ((show Tryd.prog.funcNamed "lamplighter/lamplighterlaw19.TraceBack" = some 7 by kernel_rfl).symm.trans hf) |>.symm
  obtain rfl : fn = Tryd.f7 := (Option.some.inj (Tryd.func7.symm.trans hfn)).symm
  refine ⟨by kernel_rfl, fun j t ht => ?_⟩
  rw [Tryd.params7] at ht
  have hall : (#[43, 9] : Array TypeId).all (fun t => !(Tryd.prog.wantsStandIn t)) = true := by kernel_rfl
  have hm := (Array.all_eq_true_iff_forall_mem.1 hall) t (Array.mem_of_getElem? ht)
  have hm2 : Tryd.prog.wantsStandIn t = false := by simpa using hm
  exact hm2
theorem card : Rows.TraceBackUptoCardSaid :=
  Claim7.holds_tied_plain_at .later [] _ _ _ _ proved (fun _ h => by cases h) (by kernel_rfl) (fun _ h => by cases h) traceBackUpto_row_tie rfl ⟨rfl, rfl⟩ (by kernel_rfl) rfl plain (by kernel_rfl)
#print axioms card
end Go.Proofs.YtoloooammaiipaaDoor.traceBack
namespace Go.Proofs.YtoloooammaiipaaDoor
/-- The statement, under a short name, for the claim. -/
theorem traceBack_holds : Rows.TraceBackUptoCardSaid := traceBack.card
end Go.Proofs.YtoloooammaiipaaDoor
