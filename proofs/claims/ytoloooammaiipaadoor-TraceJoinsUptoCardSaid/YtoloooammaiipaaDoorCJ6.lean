/- The law lamplighterlaw19_TraceJoins, proved for every input of its parameters' types; where the arguments count at most 1048576 together; package-level tables of the library lie as the program's text lays them. -/
import Derived.Test.YtoloooammaiipaaDoorCJ5
import Derived.Test.YtoloooammaiipaaDoorRows
import Derived.WalkKit
import Derived.ProofKit
import Derived.OpenShut
import Derived.ChangeOld
import Derived.Below
import Derived.Carry
import Derived.Deep.Slices
import Derived.Deep.DeepHandedRow
import Derived.Deep.DeepLaidRun
import Derived.Lib.LaidTab
import Derived.Test.YtoloooammaiipaaDoorCards
import Derived.Test.YtoloooammaiipaaDoorTie
import Derived.ShutString
import Derived.SizedLaws
import Derived.JoinedCond
/- What texts of steps tell, in plain words: a text behind another, a text without its last byte; no conditions. -/
namespace Go.Proofs.YtoloooammaiipaaDoor
open Go Go.RowKit Go.Proofs.YtoloooammaiipaaDoor.PI Go.Proofs.YtoloooammaiipaaDoorW.PrintWords Go.Proofs.YtoloooammaiipaaDoorW.PrintLast
set_option linter.unusedVariables false
/-- What a text tells behind steps and lines so far. -/
def pf (L : List Stp) (n : Nat) (s : List UInt8) : List Stp × Nat × Int := parseL s.length L n s
theorem ten {n : Nat} : ¬ (([] : List Stp), n, (10 : Int)).2.2 = 0 := fun h => absurd (show (10 : Int) = 0 from h) (by decide)
theorem pf_nil (L : List Stp) (n : Nat) : pf L n [] = (L, n, 0) := rfl
theorem pf_line (L : List Stp) (n : Nat) {a : List UInt8} (ha : (10 : UInt8) ∉ a) (r : List UInt8) : pf L n (a ++ 10 :: r) = if (lineO L a).1 = true then pf (lineO L a).2 (n + 1) r else ([], n, 10) := by
  unfold pf
  have hl : (a ++ 10 :: r).length = (a.length + r.length) + 1 := by simp; omega
  have hne : ¬ (a ++ 10 :: r) = [] := by simp
  rw [hl, parseL, if_neg hne, cut1_hit ha]
  simp only [true_and]
  split
  · exact parseL_fuel _ _ _ _ _ (by omega) (Nat.le_refl _)
  · rfl
theorem pf_cut (L : List Stp) (n : Nat) {s : List UInt8} (hs : (10 : UInt8) ∉ s) (h0 : s ≠ []) : pf L n s = ([], n, 10) := by
  unfold pf
  obtain ⟨k, hk⟩ : ∃ k, s.length = k + 1 := ⟨s.length - 1, by have := List.length_pos_iff.2 h0; omega⟩
  rw [hk, parseL, if_neg h0, cut1_miss hs, if_neg]
  intro h
  exact absurd (show false = true from h.1) (by decide)
/-- A text is empty, or a line and what is behind it, or no line at all. -/
theorem lines_cases (s : List UInt8) : s = [] ∨ (s ≠ [] ∧ (10 : UInt8) ∉ s) ∨ ∃ a r, (10 : UInt8) ∉ a ∧ s = a ++ 10 :: r := by
  by_cases h : (10 : UInt8) ∈ s
  · obtain ⟨a, r, e, ha⟩ := first_hit h
    exact Or.inr (Or.inr ⟨a, r, ha, e⟩)
  · by_cases h0 : s = []
    · exact Or.inl h0
    · exact Or.inr (Or.inl ⟨h0, h⟩)
theorem pf_err (L : List Stp) (n : Nat) (s : List UInt8) : (pf L n s).2.2 = 0 ∨ ((pf L n s).2.2 = 10 ∧ (pf L n s).1 = []) := by
  obtain ⟨k, hk⟩ : ∃ k, k = s.length := ⟨_, rfl⟩
  induction k using Nat.strongRecOn generalizing s L n with
  | _ k ih =>
    rcases lines_cases s with rfl | ⟨h0, hn⟩ | ⟨a, r, ha, rfl⟩
    · exact Or.inl rfl
    · rw [pf_cut L n hn h0]
      exact Or.inr ⟨rfl, rfl⟩
    · rw [pf_line L n ha]
      split
      · exact ih r.length (by rw [hk]; simp; omega) _ _ r rfl
      · exact Or.inr ⟨rfl, rfl⟩
/-- Empty, or its last byte ends a line. -/
def Nl (s : List UInt8) : Prop := s = [] ∨ ∃ a, s = a ++ [10]
theorem nl_tail {a r : List UInt8} (h : Nl (a ++ 10 :: r)) : Nl r := by
  rcases h with h | ⟨b, h⟩
  · exact absurd h (by simp)
  · rcases List.eq_nil_or_concat r with rfl | ⟨r', x, rfl⟩
    · exact Or.inl rfl
    · right
      rw [List.concat_eq_append] at h ⊢
      have e : a ++ 10 :: (r' ++ [x]) = (a ++ 10 :: r') ++ [x] := by simp
      rw [e] at h
      have := List.append_inj' h rfl
      obtain rfl : x = 10 := by simpa using this.2
      exact ⟨r', rfl⟩
theorem nl_none {s : List UInt8} (h : Nl s) (hn : (10 : UInt8) ∉ s) : s = [] := by
  rcases h with h | ⟨a, rfl⟩
  · exact h
  · exact absurd (List.mem_append_right _ List.mem_cons_self) hn
theorem pf_app (L : List Stp) (n : Nat) (s t : List UInt8) (h : Nl s) : pf L n (s ++ t) = if (pf L n s).2.2 = 0 then pf (pf L n s).1 (pf L n s).2.1 t else pf L n s := by
  obtain ⟨k, hk⟩ : ∃ k, k = s.length := ⟨_, rfl⟩
  induction k using Nat.strongRecOn generalizing s L n with
  | _ k ih =>
    rcases lines_cases s with rfl | ⟨h0, hn⟩ | ⟨a, r, ha, rfl⟩
    · rw [pf_nil, List.nil_append, if_pos rfl]
    · exact absurd (nl_none h hn) h0
    · have e : a ++ 10 :: r ++ t = a ++ 10 :: (r ++ t) := by simp
      rw [e, pf_line L n ha, pf_line L n ha]
      by_cases hl : (lineO L a).1 = true
      · rw [if_pos hl, if_pos hl]
        exact ih r.length (by rw [hk]; simp; omega) _ _ r (nl_tail h) rfl
      · rw [if_neg hl, if_neg hl, if_neg ten]
theorem line_nil (L : List Stp) : (lineO L []).1 = false := by
  have h1 : readO [] = none := by decide +kernel
  have h2 : (outO []).2.2 = false := by decide +kernel
  unfold lineO
  rw [h1]
  simp only
  split
  · rfl
  split
  · rfl
  split
  · rename_i h
    exact absurd h (by decide)
  split
  · rename_i h
    rw [h2] at h
    exact absurd h (by decide)
  · rfl
/-- Without its last byte a text that is right is wrong, in its last line. -/
theorem pf_drop (L : List Stp) (n : Nat) (s : List UInt8) (h : (pf L n (s ++ [10])).2.2 = 0) : n < (pf L n (s ++ [10])).2.1 ∧ pf L n s = ([], (pf L n (s ++ [10])).2.1 - 1, 10) := by
  obtain ⟨k, hk⟩ : ∃ k, k = s.length := ⟨_, rfl⟩
  induction k using Nat.strongRecOn generalizing s L n with
  | _ k ih =>
    rcases lines_cases s with rfl | ⟨h0, hn⟩ | ⟨a, r, ha, rfl⟩
    · rw [show ([] ++ [10] : List UInt8) = [] ++ 10 :: [] from rfl, pf_line L n (by simp), line_nil, if_neg Bool.false_ne_true] at h
      exact absurd h ten
    · rw [show s ++ [10] = s ++ 10 :: [] from rfl, pf_line L n hn] at h ⊢
      by_cases hl : (lineO L s).1 = true
      · rw [if_pos hl, pf_nil, pf_cut L n hn h0]
        exact ⟨Nat.lt_succ_self n, rfl⟩
      · rw [if_neg hl] at h
        exact absurd h ten
    · have e : a ++ 10 :: r ++ [10] = a ++ 10 :: (r ++ [10]) := by simp
      rw [e, pf_line L n ha] at h ⊢
      rw [pf_line L n ha]
      by_cases hl : (lineO L a).1 = true
      · rw [if_pos hl] at h ⊢
        rw [if_pos hl]
        obtain ⟨h1, h2⟩ := ih r.length (by rw [hk]; simp; omega) _ _ r h rfl
        exact ⟨by omega, h2⟩
      · rw [if_neg hl] at h
        exact absurd h ten
theorem last_get (M L : List Stp) (z : Stp) (h : L ≠ []) : (M ++ L).getD ((M ++ L).length - 1) z = L.getD (L.length - 1) z := by
  have hp := List.length_pos_iff.2 h
  rw [List.getD_eq_getElem?_getD, List.getD_eq_getElem?_getD, List.length_append, List.getElem?_append_right (by omega)]
  congr 2
  omega
theorem last_set (M L : List Stp) (z : Stp) (h : L ≠ []) : (M ++ L).set ((M ++ L).length - 1) z = M ++ L.set (L.length - 1) z := by
  have hp := List.length_pos_iff.2 h
  rw [List.length_append, List.set_append_right _ _ (by omega)]
  congr 2
  omega
/-- Steps ahead of some change nothing for a line. -/
theorem line_shift (M L : List Stp) (a : List UInt8) (h : L ≠ []) : lineO (M ++ L) a = ((lineO L a).1, M ++ (lineO L a).2) ∧ (lineO L a).2 ≠ [] := by
  have h2 : M ++ L ≠ [] := by simp [h]
  unfold lineO
  cases readO a with
  | some x => exact ⟨by simp, by simp⟩
  | none =>
    simp only
    rw [if_neg h, if_neg h2, last_get M L _ h, last_set M L _ h, last_set M L _ h]
    split
    · exact ⟨rfl, h⟩
    split
    · exact ⟨rfl, by simp [h]⟩
    split
    · exact ⟨rfl, by simp [h]⟩
    · exact ⟨rfl, h⟩
theorem pf_shift (M : List Stp) (m : Nat) (L : List Stp) (n : Nat) (s : List UInt8) (h : L ≠ []) : pf (M ++ L) (m + n) s = if (pf L n s).2.2 = 0 then (M ++ (pf L n s).1, m + (pf L n s).2.1, 0) else ([], m + (pf L n s).2.1, 10) := by
  obtain ⟨k, hk⟩ : ∃ k, k = s.length := ⟨_, rfl⟩
  induction k using Nat.strongRecOn generalizing s L n with
  | _ k ih =>
    rcases lines_cases s with rfl | ⟨h0, hn⟩ | ⟨a, r, ha, rfl⟩
    · rw [pf_nil, pf_nil, if_pos rfl]
    · rw [pf_cut _ _ hn h0, pf_cut _ _ hn h0, if_neg ten]
    · obtain ⟨h1, h2⟩ := line_shift M L a h
      rw [pf_line _ _ ha, pf_line _ _ ha, h1]
      simp only
      by_cases hl : (lineO L a).1 = true
      · rw [if_pos hl, if_pos hl, Nat.add_assoc]
        exact ih r.length (by rw [hk]; simp; omega) _ _ r h2 rfl
      · rw [if_neg hl, if_neg hl, if_neg ten]
/-- A text whose first line is an event's, or nothing that may be behind steps. -/
theorem pf_start (M : List Stp) (m : Nat) (s : List UInt8) (h : ∀ a r, (10 : UInt8) ∉ a → s = a ++ 10 :: r → readO a = none → (lineO M a).1 = false) : pf M m s = if (pf [] 0 s).2.2 = 0 then (M ++ (pf [] 0 s).1, m + (pf [] 0 s).2.1, 0) else ([], m + (pf [] 0 s).2.1, 10) := by
  rcases lines_cases s with rfl | ⟨h0, hn⟩ | ⟨a, r, ha, rfl⟩
  · rw [pf_nil, pf_nil, if_pos rfl]
    simp
  · rw [pf_cut _ _ hn h0, pf_cut _ _ hn h0, if_neg ten]
    simp
  · cases hr : readO a with
    | none =>
      have h1 := h a r ha rfl hr
      have h2 : (lineO [] a).1 = false := by
        unfold lineO
        rw [hr]
        rfl
      rw [pf_line _ _ ha, pf_line _ _ ha, h1, h2, if_neg Bool.false_ne_true, if_neg Bool.false_ne_true, if_neg ten]
      simp
    | some x =>
      have h1 : ∀ K : List Stp, lineO K a = (true, K ++ [⟨⟨(x.1 : Int), x.2.2.1, x.2.2.2, x.2.1⟩, [], false⟩]) := fun K => by
        unfold lineO
        rw [hr]
      rw [pf_line _ _ ha, pf_line _ _ ha, h1 M, h1 [], if_pos rfl, if_pos rfl]
      exact pf_shift M m _ 1 r (by simp)
end Go.Proofs.YtoloooammaiipaaDoor
/- What a text tells as an event, in plain words: the words behind a kind's, numerals among them; no conditions. -/
namespace Go.Proofs.YtoloooammaiipaaDoor
open Go Go.RowKit Go.Proofs.YtoloooammaiipaaDoorW.PrintWords Go.Proofs.YtoloooammaiipaaDoorW.PrintLast
set_option linter.unusedVariables false
theorem strip_ne {x y : UInt8} {p s : List UInt8} (h : x ≠ y) : stripL (x :: p) (y :: s) = none := by
  unfold stripL
  rw [if_neg]
  rw [List.length_cons, List.take_succ_cons]
  intro e
  exact h (List.cons.inj e).1.symm
theorem strip_app (p s : List UInt8) : stripL p (p ++ s) = some s := by
  unfold stripL
  rw [List.take_left, if_pos rfl, List.drop_left]
theorem words_of (X : List UInt8) : ((cutL 32 (X ++ [32])).map strOf).take ((X ++ [32]).count 32) = (cutL 32 X).map strOf := by
  have h1 := cutL_length 32 X
  have e : (X ++ [32]).count 32 = ((cutL 32 X).map strOf).length := by
    rw [List.length_map, h1, List.count_append]
    rfl
  rw [e, cutL_snoc_hit, List.map_append, List.take_left]
/-- A text that begins with a kind's words and a blank. -/
theorem readRow_app (r : KRow) (X : List UInt8) : readRow (r.1 ++ 32 :: X) r = fillO r.2.1 r.2.2.1 r.2.2.2 ((cutL 32 X).map strOf) := by
  unfold readRow
  have e : (r.1 ++ 32 :: X) ++ [32] = (r.1 ++ [32]) ++ (X ++ [32]) := by simp
  rw [e, strip_app, Option.bind_some, words_of]
theorem readRow_bare (r : KRow) : readRow r.1 r = fillO r.2.1 r.2.2.1 r.2.2.2 [] := by
  unfold readRow
  have e := strip_app (r.1 ++ [32]) []
  rw [List.append_nil] at e
  rw [e, Option.bind_some]
  rfl
theorem digit_char (u : Nat) : ∀ c ∈ Lib.decDigits u, 48 ≤ c.toNat ∧ c.toNat ≤ 57 := by
  induction u using Nat.strongRecOn with
  | _ u ih =>
    intro c hc
    by_cases h : u < 10
    · rw [Lib.decDigits_one h] at hc
      rw [List.mem_singleton.1 hc]
      have : (UInt8.ofNat (48 + u)).toNat = 48 + u := by simp; omega
      omega
    · rw [decDigits_step h] at hc
      rcases List.mem_append.1 hc with hc | hc
      · exact ih (u / 10) (by omega) c hc
      · rw [List.mem_singleton.1 hc]
        have : (UInt8.ofNat (48 + u % 10)).toNat = 48 + u % 10 := by simp; omega
        omega
theorem itoa_char (v : Int) : ∀ c ∈ Lib.itoa v, c = 45 ∨ (48 ≤ c.toNat ∧ c.toNat ≤ 57) := by
  unfold Lib.itoa
  intro c hc
  split at hc
  · rcases List.mem_cons.1 hc with rfl | hc
    · exact Or.inl rfl
    · exact Or.inr (digit_char _ c hc)
  · exact Or.inr (digit_char _ c hc)
theorem itoa_clean (v : Int) : (32 : UInt8) ∉ Lib.itoa v ∧ (10 : UInt8) ∉ Lib.itoa v := by
  constructor
  · intro h
    rcases itoa_char v 32 h with h | h
    · exact absurd h (by decide)
    · exact absurd h (by decide)
  · intro h
    rcases itoa_char v 10 h with h | h
    · exact absurd h (by decide)
    · exact absurd h (by decide)
theorem itoa_ne (v : Int) : Lib.itoa v ≠ [] := by
  unfold Lib.itoa
  split
  · simp
  · exact decDigits_ne _
/-- A kind's number. -/
def kRow (i : Nat) : KRow := kRows.getD i ([], false, false, false)
end Go.Proofs.YtoloooammaiipaaDoor
/- What the law's own count of steps gives, and what bytes a text of steps has; conditions: steps that weigh at most 1048576. -/
namespace Go.Proofs.YtoloooammaiipaaDoor
open Go Go.RowKit Go.Proofs.YtoloooammaiipaaDoor.PI Go.Proofs.YtoloooammaiipaaDoorW.PrintWords Go.Proofs.YtoloooammaiipaaDoorW.PrintLast
set_option linter.unusedVariables false
theorem wrap_small {n : Nat} (h : n ≤ 1000000000) : wrap64 (n : Int) = (n : Int) := wrap_fit (by omega) (by omega)
theorem wrap_plus {a b : Nat} (h : a + b ≤ 1000000000) : wrap64 ((a : Int) + (b : Int)) = ((a + b : Nat) : Int) := by
  rw [← wrap_small h]
  rfl
theorem wrap_one (i : Nat) (h : i ≤ 100000000) : wrap64 ((i : Int) + 1) = ((i + 1 : Nat) : Int) := wrap_plus (b := 1) (by omega)
theorem wtO_take (L : List Oup) (i : Nat) (h : i < L.length) : wtO (L.take (i + 1)) = wtO (L.take i) + (1 + (L[i]'h).f1.length) := by
  rw [List.take_succ_eq_append_getElem h]
  unfold wtO
  rw [List.map_append, List.sum_append]
  simp
theorem wtL_take (l : List Stp) (i : Nat) (h : i < l.length) : wtL (l.take (i + 1)) = wtL (l.take i) + wtS (l[i]'h) := by
  rw [List.take_succ_eq_append_getElem h]
  unfold wtL
  rw [List.map_append, List.sum_append]
  simp
theorem wtO_take_le (L : List Oup) (i : Nat) : wtO (L.take i) ≤ wtO L := by
  have h : wtO L = wtO (L.take i) + wtO (L.drop i) := by
    unfold wtO
    rw [← List.sum_append, ← List.map_append, List.take_append_drop]
  omega
/-- What steps weigh, counted by the law's own loop: a step's outputs. -/
theorem great_in (l : List Stp) (hw : wtL l ≤ 1048576) (i : Nat) (hi : i < l.length) : ∀ (d j k : Nat), j + d = ((l[i]'hi).f1).length → d < k → ∃ k', k' + d + 1 = k ∧
    PM.lamplighterlaw19_great.l1 k ((wtL (l.take i) + (1 + (l[i]'hi).f0.f3.length) + wtO ((l[i]'hi).f1.take j) : Nat) : Int) l (l.length : Int) (i : Int) (l[i]'hi).f1 (((l[i]'hi).f1).length : Int) (j : Int)
      = PM.lamplighterlaw19_great.l0 k' ((wtL (l.take (i + 1)) : Nat) : Int) l (l.length : Int) ((i + 1 : Nat) : Int)
  | 0, j, k, hj, hk => by
    obtain ⟨k, rfl⟩ : ∃ n, k = n + 1 := ⟨k - 1, by omega⟩
    refine ⟨k, rfl, ?_⟩
    obtain rfl : j = ((l[i]'hi).f1).length := by omega
    have hl := wtL_len l
    rw [PM.lamplighterlaw19_great.l1, if_neg (by omega), wrap_one i (by omega), wtL_take l i hi, List.take_length]
    unfold wtS
    congr 1
    omega
  | d + 1, j, k, hj, hk => by
    obtain ⟨k, rfl⟩ : ∃ n, k = n + 1 := ⟨k - 1, by omega⟩
    have hjl : j < ((l[i]'hi).f1).length := by omega
    have h1 := wtL_take l i hi
    have h2 := wtL_take_le l (i + 1)
    have h3 := wtO_take (l[i]'hi).f1 j hjl
    have h4 := wtO_take_le (l[i]'hi).f1 (j + 1)
    have h5 := wtO_len (l[i]'hi).f1
    have h6 : wtS (l[i]'hi) = 1 + (l[i]'hi).f0.f3.length + wtO (l[i]'hi).f1 := rfl
    have hr := rd_out hjl
    rw [PM.lamplighterlaw19_great.l1, if_pos (by omega), if_pos (by omega), if_pos (by omega), hr]
    have e1 := Lib.hid (show wrap64 (1 + ((((l[i]'hi).f1)[j]'hjl).f1.length : Int)) = ((1 + (((l[i]'hi).f1)[j]'hjl).f1.length : Nat) : Int) from wrap_plus (a := 1) (by omega))
    rw [e1.out, wrap_plus (by omega), wrap_one j (by omega)]
    obtain ⟨k', hk', he⟩ := great_in l hw i hi d (j + 1) k (by omega) (by omega)
    refine ⟨k', by omega, ?_⟩
    rw [← he, h3]
    congr 1
    omega
theorem great_out (l : List Stp) (hw : wtL l ≤ 1048576) : ∀ (d i k : Nat), i + d = l.length → 3000000 ≤ k + wtL (l.take i) + i → 
    PM.lamplighterlaw19_great.l0 k ((wtL (l.take i) : Nat) : Int) l (l.length : Int) (i : Int) = some (decide (1500 < wtL l))
  | 0, i, k, hi, hk => by
    have hl := wtL_len l
    have ht := wtL_take_le l i
    obtain ⟨k, rfl⟩ : ∃ n, k = n + 1 := ⟨k - 1, by omega⟩
    obtain rfl : i = l.length := by omega
    rw [PM.lamplighterlaw19_great.l0, if_neg (by omega), List.take_length]
    congr 1
    apply decide_eq_decide.2
    omega
  | d + 1, i, k, hi, hk => by
    have hl := wtL_len l
    have ht := wtL_take_le l i
    obtain ⟨k, rfl⟩ : ∃ n, k = n + 1 := ⟨k - 1, by omega⟩
    have hil : i < l.length := by omega
    have h1 := wtL_take l i hil
    have h2 := wtL_take_le l (i + 1)
    have h6 : wtS (l[i]'hil) = 1 + (l[i]'hil).f0.f3.length + wtO (l[i]'hil).f1 := rfl
    have h5 := wtO_len (l[i]'hil).f1
    have hr := rd_step hil
    rw [PM.lamplighterlaw19_great.l0, if_pos (by omega), if_pos (by omega), if_pos (by omega), hr]
    have e1 := Lib.hid (show wrap64 (1 + ((l[i]'hil).f0.f3.length : Int)) = ((1 + (l[i]'hil).f0.f3.length : Nat) : Int) from wrap_plus (a := 1) (by omega))
    rw [e1.out, wrap_plus (by omega)]
    obtain ⟨k', hk', he⟩ := great_in l hw i hil ((l[i]'hil).f1.length) 0 k (by omega) (by omega)
    have e0 : wtO ((l[i]'hil).f1.take 0) = 0 := rfl
    rw [e0, Nat.add_zero] at he
    rw [show (0 : Int) = ((0 : Nat) : Int) from rfl, he]
    exact great_out l hw d (i + 1) k' (by omega) (by omega)
theorem great_is (l : List Stp) (hw : wtL l ≤ 1048576) (k : Nat) (hk : 3000000 ≤ k) : PM.lamplighterlaw19_great.f k l = some (decide (1500 < wtL l)) := great_out l hw l.length 0 k (by omega) (by omega)
/-- A step's lines, counted. -/
def lnS (x : Stp) : Nat := 1 + x.f1.length + (if x.f2 = true then 1 else 0)
def lnL (l : List Stp) : Nat := (l.map lnS).sum
theorem lnL_take (l : List Stp) (i : Nat) (h : i < l.length) : lnL (l.take (i + 1)) = lnL (l.take i) + lnS (l[i]'h) := by
  rw [List.take_succ_eq_append_getElem h]
  unfold lnL
  rw [List.map_append, List.sum_append]
  simp
theorem lnS_le (x : Stp) : lnS x ≤ 1 + wtS x := by
  have := wtO_len x.f1
  unfold lnS wtS
  split <;> omega
theorem lnL_le (l : List Stp) : lnL l ≤ l.length + wtL l := by
  induction l with
  | nil => exact Nat.zero_le _
  | cons x r ih =>
    have e1 : lnL (x :: r) = lnS x + lnL r := by simp [lnL]
    have e2 : wtL (x :: r) = wtS x + wtL r := by simp [wtL]
    have := lnS_le x
    rw [e1, e2, List.length_cons]
    omega
theorem lnL_take_le (l : List Stp) (i : Nat) : lnL (l.take i) ≤ lnL l := by
  have h : lnL l = lnL (l.take i) + lnL (l.drop i) := by
    unfold lnL
    rw [← List.sum_append, ← List.map_append, List.take_append_drop]
  omega
theorem hexD_char : ∀ n : Fin 16, hexD n.1 ≠ 10 ∧ hexD n.1 ≠ 32 := by decide
theorem hexL_char (l : List Int) (h : ∀ x ∈ l, 0 ≤ x ∧ x ≤ 255) : ∀ c ∈ hexL l, c ≠ 10 ∧ c ≠ 32 := by
  intro c hc
  unfold hexL at hc
  obtain ⟨x, hx, hc⟩ := List.mem_flatMap.1 hc
  have hb := h x hx
  rcases List.mem_cons.1 hc with rfl | hc
  · exact hexD_char ⟨x.toNat / 16, by omega⟩
  · rw [List.mem_singleton.1 hc]
    exact hexD_char ⟨x.toNat % 16, by omega⟩
theorem hexT_char (l : List Int) (h : ∀ x ∈ l, 0 ≤ x ∧ x ≤ 255) : ∀ c ∈ hexT l, c ≠ 10 ∧ c ≠ 32 := by
  unfold hexT
  split
  · intro c hc
    rw [List.mem_singleton.1 hc]
    exact ⟨by decide, by decide⟩
  · exact hexL_char l h
theorem words_char (k : Nat) : (10 : UInt8) ∉ (kRows.getD k ([], false, false, false)).1 := by
  by_cases hk : k < 9
  · have key : ∀ j : Fin 9, (10 : UInt8) ∉ (kRows.getD j.1 ([], false, false, false)).1 := by decide
    exact key ⟨k, hk⟩
  · rw [List.getD_eq_getElem?_getD, List.getElem?_eq_none (by show 9 ≤ _; omega)]
    exact fun h => by cases h
theorem evO_clean (x : Stp) (h : StOK x) : (10 : UInt8) ∉ (evO x).1 := by
  have h1 := words_char x.f0.f0.toNat
  have h2 := fun hc => (hexT_char x.f0.f3 h.2.2.1 10 hc).1 rfl
  have h3 := (itoa_clean x.f0.f1).2
  have h4 := (itoa_clean x.f0.f2).2
  unfold evO eventO
  split
  · exact fun h => by cases h
  split
  · exact fun h => by cases h
  unfold evText
  intro hm
  rcases List.mem_append.1 hm with hm | hm
  · rcases List.mem_append.1 hm with hm | hm
    · rcases List.mem_append.1 hm with hm | hm
      · exact h1 hm
      · split at hm
        · rcases List.mem_cons.1 hm with hm | hm
          · exact absurd hm (by decide)
          · exact h2 hm
        · cases hm
    · split at hm
      · rcases List.mem_cons.1 hm with hm | hm
        · exact absurd hm (by decide)
        · exact h3 hm
      · cases hm
  · split at hm
    · rcases List.mem_cons.1 hm with hm | hm
      · exact absurd hm (by decide)
      · exact h4 hm
    · cases hm
theorem count_out (o : Oup) (h : OuOK o) : (outText o).count 10 = 1 := by
  have h2 : (hexT o.f1).count 10 = 0 := List.count_eq_zero.2 (fun hc => (hexT_char o.f1 h 10 hc).1 rfl)
  unfold outText
  rw [List.count_append, List.count_append, h2]
  split <;> rfl
theorem count_outs (L : List Oup) (h : ∀ o ∈ L, OuOK o) : (outsText L).count 10 = L.length := by
  induction L with
  | nil => rfl
  | cons o r ih =>
    have e1 : outsText (o :: r) = outText o ++ outsText r := by simp [outsText]
    rw [e1, List.count_append, count_out o (h o List.mem_cons_self), ih (fun x hx => h x (List.mem_cons_of_mem _ hx)), List.length_cons]
    omega
theorem count_step (x : Stp) (h : StOK x) : (stepText x).count 10 = lnS x := by
  have h1 : (evO x).1.count 10 = 0 := List.count_eq_zero.2 (evO_clean x h)
  have h2 := count_outs x.f1 h.2.2.2
  unfold stepText lnS
  rw [List.count_append, List.count_append, List.count_append, h1, h2]
  split
  · show 0 + 1 + (x.f1.length + 1) = _
    omega
  · show 0 + 1 + (x.f1.length + 0) = _
    omega
theorem count_fmt (l : List Stp) (h : ∀ x ∈ l, StOK x) : (fmtL l).count 10 = lnL l := by
  induction l with
  | nil => rfl
  | cons x r ih =>
    have e1 : fmtL (x :: r) = stepText x ++ fmtL r := by simp [fmtL]
    have e2 : lnL (x :: r) = lnS x + lnL r := by simp [lnL]
    rw [e1, e2, List.count_append, count_step x (h x List.mem_cons_self), ih (fun y hy => h y (List.mem_cons_of_mem _ hy))]
theorem outs_last (L : List Oup) : L = [] ∨ ∃ a, outsText L = a ++ [10] := by
  rcases List.eq_nil_or_concat L with rfl | ⟨r, o, rfl⟩
  · exact Or.inl rfl
  · right
    refine ⟨outsText r ++ ((if o.f0 = true then [98, 97, 99, 107, 32] else [111, 110, 32]) ++ hexT o.f1), ?_⟩
    unfold outsText
    rw [List.concat_eq_append, List.flatMap_append, List.flatMap_singleton]
    unfold outText
    simp
theorem step_last (x : Stp) : ∃ a, stepText x = a ++ [10] := by
  unfold stepText
  split
  · exact ⟨((evO x).1 ++ [10]) ++ (outsText x.f1 ++ [103, 111, 110, 101]), by simp⟩
  · rcases outs_last x.f1 with h | ⟨a, h⟩
    · rw [h]
      exact ⟨(evO x).1, by simp [outsText]⟩
    · rw [h]
      exact ⟨((evO x).1 ++ [10]) ++ a, by simp⟩
theorem fmt_last (l : List Stp) : l = [] ∨ ∃ a, fmtL l = a ++ [10] := by
  rcases List.eq_nil_or_concat l with rfl | ⟨r, x, rfl⟩
  · exact Or.inl rfl
  · right
    obtain ⟨a, ha⟩ := step_last x
    refine ⟨fmtL r ++ a, ?_⟩
    unfold fmtL
    rw [List.concat_eq_append, List.flatMap_append, List.flatMap_singleton, ha, List.append_assoc]
end Go.Proofs.YtoloooammaiipaaDoor
/- The law TraceJoins, in plain words: two texts of steps, one behind the other, are the steps of both; without its last byte a text isn't one; conditions: steps of bytes, which weigh at most 1048576. -/
namespace Go.Proofs.YtoloooammaiipaaDoor
open Go Go.RowKit Go.Proofs.YtoloooammaiipaaDoor.PI Go.Proofs.YtoloooammaiipaaDoorW.PrintWords Go.Proofs.YtoloooammaiipaaDoorW.PrintLast
set_option linter.unusedVariables false
theorem pf_len (L : List Stp) (n : Nat) (s : List UInt8) : (pf L n s).1.length ≤ L.length + s.length ∧ (∀ B, (∀ x ∈ L, x.f1.length ≤ B) → ∀ x ∈ (pf L n s).1, x.f1.length ≤ B + s.length) ∧ (pf L n s).2.1 ≤ n + s.length := by
  obtain ⟨k, hk⟩ : ∃ k, k = s.length := ⟨_, rfl⟩
  induction k using Nat.strongRecOn generalizing s L n with
  | _ k ih =>
    rcases lines_cases s with rfl | ⟨h0, hn⟩ | ⟨a, r, ha, rfl⟩
    · rw [pf_nil]
      exact ⟨Nat.le_refl _, fun B h => h, Nat.le_refl _⟩
    · rw [pf_cut _ _ hn h0]
      exact ⟨Nat.zero_le _, fun B h x hx => (by cases hx), Nat.le_add_right _ _⟩
    · rw [pf_line _ _ ha]
      have hl : (a ++ 10 :: r).length = a.length + (r.length + 1) := by simp
      by_cases hc : (lineO L a).1 = true
      · rw [if_pos hc, hl]
        obtain ⟨h1, h2⟩ := lineO_len L a
        obtain ⟨i1, i2, i3⟩ := ih r.length (by rw [hk]; simp; omega) (lineO L a).2 (n + 1) r rfl
        refine ⟨by omega, fun B h x hx => ?_, by omega⟩
        have := i2 (B + 1) (h2 B h) x hx
        omega
      · rw [if_neg hc]
        exact ⟨Nat.zero_le _, fun B h x hx => (by cases hx), Nat.le_add_right _ _⟩
theorem row_head : ∀ j : Fin 9, ∃ c0 c1 r, (kRows.getD j.1 ([], false, false, false)).1 = c0 :: c1 :: r ∧ c0 ≠ 98 ∧ c0 ≠ 103 ∧ ¬ (c0 = 111 ∧ c1 = 110) := by
  intro j
  match j with
  | 0 => exact ⟨_, _, _, rfl, by decide, by decide, by decide⟩
  | 1 => exact ⟨_, _, _, rfl, by decide, by decide, by decide⟩
  | 2 => exact ⟨_, _, _, rfl, by decide, by decide, by decide⟩
  | 3 => exact ⟨_, _, _, rfl, by decide, by decide, by decide⟩
  | 4 => exact ⟨_, _, _, rfl, by decide, by decide, by decide⟩
  | 5 => exact ⟨_, _, _, rfl, by decide, by decide, by decide⟩
  | 6 => exact ⟨_, _, _, rfl, by decide, by decide, by decide⟩
  | 7 => exact ⟨_, _, _, rfl, by decide, by decide, by decide⟩
  | 8 => exact ⟨_, _, _, rfl, by decide, by decide, by decide⟩
theorem ev_head (x : Stp) (h : (evO x).2 = 0) : ∃ c0 c1 r, (evO x).1 = c0 :: c1 :: r ∧ c0 ≠ 98 ∧ c0 ≠ 103 ∧ ¬ (c0 = 111 ∧ c1 = 110) := by
  unfold evO eventO at h ⊢
  by_cases h1 : x.f0.f0 < 0 ∨ 9 ≤ x.f0.f0
  · rw [if_pos h1] at h
    exact absurd h (by decide)
  rw [if_neg h1] at h ⊢
  split at h
  · exact absurd h (by decide)
  · rename_i h2
    rw [if_neg h2]
    obtain ⟨c0, c1, r, e, g⟩ := row_head ⟨x.f0.f0.toNat, by omega⟩
    simp only at e
    have e3 : ∀ n k d, ∃ q, evText (kRows.getD x.f0.f0.toNat ([], false, false, false)) n k d = c0 :: c1 :: q := fun _ _ _ => by
      unfold evText
      rw [e]
      exact ⟨_, rfl⟩
    obtain ⟨q, e4⟩ := e3 x.f0.f1 x.f0.f2 x.f0.f3
    exact ⟨c0, c1, q, e4, g⟩
theorem cut1_pre (c : UInt8) (l : List UInt8) : ∃ r, l = (cut1 c l).1 ++ r := by
  by_cases h : c ∈ l
  · obtain ⟨a, b, rfl, ha⟩ := first_hit h
    rw [cut1_hit ha]
    exact ⟨_, rfl⟩
  · rw [cut1_miss h]
    exact ⟨[], by simp⟩
theorem ev_line (M : List Stp) (x : Stp) (h : (evO x).2 = 0) (hr : readO (evO x).1 = none) : (lineO M (evO x).1).1 = false := by
  obtain ⟨c0, c1, r, e, g1, g2, g3⟩ := ev_head x h
  obtain ⟨r2, e2⟩ := cut1_pre 32 (evO x).1
  have hb : ¬ (cut1 32 (evO x).1).1 = backL := fun hc => by
    rw [hc, e] at e2
    exact g1 (List.cons.inj e2).1
  have ho : ¬ (cut1 32 (evO x).1).1 = onL := fun hc => by
    rw [hc, e] at e2
    have h3 := List.cons.inj e2
    exact g3 ⟨h3.1, (List.cons.inj h3.2).1⟩
  have hout : (outO (evO x).1).2.2 = false := by
    unfold outO
    simp only
    rw [decide_eq_false hb, decide_eq_false ho]
    simp
  have hg : ¬ (evO x).1 = goneL := fun hc => by
    rw [hc] at e
    exact g2 (List.cons.inj e).1.symm
  unfold lineO
  rw [hr]
  simp only
  split
  · rfl
  split
  · rfl
  first | (rw [if_neg hg, if_neg (by rw [hout]; decide)]; done) | rw [if_neg (by rw [hout]; decide)]
theorem fmt_start (M : List Stp) (l : List Stp) (hok : ∀ x ∈ l, StOK x) (hgd : ∀ x ∈ l, (evO x).2 = 0) : ∀ a r, (10 : UInt8) ∉ a → fmtL l = a ++ 10 :: r → readO a = none → (lineO M a).1 = false := by
  intro a r ha e hr
  cases l with
  | nil => exact absurd e.symm (by simp [fmtL])
  | cons x l' =>
    have e1 : fmtL (x :: l') = (evO x).1 ++ 10 :: ((outsText x.f1 ++ (if x.f2 = true then [103, 111, 110, 101, 10] else [])) ++ fmtL l') := by simp [fmtL, stepText]
    have hc := evO_clean x (hok x List.mem_cons_self)
    have h1 := cut1_hit hc ((outsText x.f1 ++ (if x.f2 = true then [103, 111, 110, 101, 10] else [])) ++ fmtL l')
    rw [← e1, e, cut1_hit ha] at h1
    have h2 := (Prod.mk.inj h1).1
    rw [h2] at hr ⊢
    exact ev_line M x (hgd x List.mem_cons_self) hr
theorem fmt_nl (l : List Stp) : Nl (fmtL l) := by
  rcases fmt_last l with h | h
  · left
    rw [h]
    rfl
  · exact Or.inr h
theorem format_zero {l : List Stp} (h : (formatO l).2 = 0) : (formatO l).1 = fmtL l ∧ ∀ x ∈ l, (evO x).2 = 0 := by
  unfold formatO at h ⊢
  cases hf : l.find? (fun x => (evO x).2 != 0) with
  | some x =>
    rw [hf] at h
    have hx : (evO x).2 ≠ 0 := by simpa using List.find?_some hf
    exact absurd h hx
  | none =>
    refine ⟨rfl, fun x hx => ?_⟩
    have := List.find?_eq_none.1 hf x hx
    simpa using this
theorem formatO_len (l : List Stp) (hok : ∀ x ∈ l, StOK x) (h : wtL l ≤ 1500) : (formatO l).1.length ≤ 150000 := by
  have := fmtL_len l hok
  unfold formatO
  split
  · exact Nat.zero_le _
  · show (fmtL l).length ≤ _
    omega
theorem add_is (a b : Nat) (ha : a ≤ 400000) (hb : b ≤ 400000) : ((a + b : Nat) : Int) = wrap64 ((a : Int) + (b : Int)) := (wrap_plus (by omega)).symm
theorem dec_is (m : Nat) (h0 : 0 < m) (h1 : m ≤ 400000) : ((m - 1 : Nat) : Int) = wrap64 ((m : Int) - 1) := by
  rw [wrap_fit (by omega) (by omega)]
  omega
namespace Pure
theorem TraceJoins (l0 : List Stp) (l1 : List Stp) (q0 : ∀ x ∈ l0, StOK x) (w0 : wtL l0 ≤ 1048576) (q1 : ∀ x ∈ l1, StOK x) (w1 : wtL l1 ≤ 1048576) : ∃ k, PM.lamplighterlaw19_TraceJoins.f k l0 l1 = some true := by
  refine ⟨4000000, ?_⟩
  have hA : PM.lamplighterlaw19_alive.f = some true := rfl
  unfold PM.lamplighterlaw19_TraceJoins.f
  rw [hA, Option.bind_some, if_pos rfl, great_is l0 w0 _ (by decide), Option.bind_some, great_is l1 w1 _ (by decide), Option.bind_some, show (4000000 : Nat) = 3999997 + 1 + 1 + 1 from rfl]
  by_cases hg0 : 1500 < wtL l0
  · rw [if_pos (decide_eq_true hg0), PM.lamplighterlaw19_TraceJoins.j0, if_pos rfl, hA]
    rfl
  rw [if_neg (by rw [decide_eq_true_eq]; exact hg0)]
  by_cases hg1 : 1500 < wtL l1
  · rw [decide_eq_true hg1, PM.lamplighterlaw19_TraceJoins.j0, if_pos rfl, hA]
    rfl
  rw [decide_eq_false hg1, PM.lamplighterlaw19_TraceJoins.j0, if_neg (by decide)]
  have hF0 : PM.trace_Format.f l0 = some (strOf (formatO l0).1, (formatO l0).2) := if_pos ⟨q0, by omega⟩
  have hF1 : PM.trace_Format.f l1 = some (strOf (formatO l1).1, (formatO l1).2) := if_pos ⟨q1, by omega⟩
  rw [hF0, Option.bind_some, hF1, Option.bind_some]
  simp only
  by_cases he0 : (formatO l0).2 = 0
  rotate_left
  · rw [if_neg he0, PM.lamplighterlaw19_TraceJoins.j1, if_pos rfl]
  rw [if_pos he0]
  by_cases he1 : (formatO l1).2 = 0
  rotate_left
  · have e : ((formatO l1).2 != 0) = true := bne_iff_ne.2 he1
    rw [e, PM.lamplighterlaw19_TraceJoins.j1, if_pos rfl]
  have e : ((formatO l1).2 != 0) = false := by rw [he1]; rfl
  rw [e, PM.lamplighterlaw19_TraceJoins.j1, if_neg (by decide)]
  have n0 := formatO_len l0 q0 (by omega)
  have n1 := formatO_len l1 q1 (by omega)
  obtain ⟨f0, v0⟩ := format_zero he0
  obtain ⟨f1, v1⟩ := format_zero he1
  obtain ⟨s, hs⟩ : ∃ s, s = (formatO l0).1 := ⟨_, rfl⟩
  obtain ⟨t, ht⟩ : ∃ t, t = (formatO l1).1 := ⟨_, rfl⟩
  rw [← hs] at n0 f0 ⊢
  rw [← ht] at n1 f1 ⊢
  have hns : Nl s := f0 ▸ fmt_nl l0
  have hst := fun M => f1 ▸ fmt_start M l1 q1 v1
  have hsz0 := strOf_size s
  have hsz1 := strOf_size t
  have hcat : strOf s ++ strOf t = strOf (s ++ t) := (strOf_snoc s t).symm
  have hP : ∀ u : List UInt8, u.length ≤ 400000 → PM.trace_Parse.f (strOf u) = some ((pf [] 0 u).1, ((pf [] 0 u).2.1 : Int), (pf [] 0 u).2.2) := fun u hu => by
    unfold PM.trace_Parse.f
    rw [if_pos (by rw [strOf_size]; exact hu), strOf_data]
    rfl
  rw [if_pos (by omega), hcat, hP _ (by rw [List.length_append]; omega), Option.bind_some, hP _ (by omega), Option.bind_some, hP _ (by omega), Option.bind_some]
  simp only
  have happ := pf_app [] 0 s t hns
  rcases pf_err [] 0 s with hs0 | ⟨hs0, hs1⟩
  rotate_left
  · rw [hs0, if_neg (by decide)] at happ
    have hx : (pf [] 0 (s ++ t)).2.2 = 10 := by rw [happ, hs0]
    rw [hx, hs0, if_pos rfl, PM.lamplighterlaw19_TraceJoins.j2]
    split
    · rfl
    · rw [if_neg (by decide)]
  rw [if_pos hs0] at happ
  have hsh := pf_start (pf [] 0 s).1 (pf [] 0 s).2.1 t (hst _)
  rw [hsh] at happ
  rcases pf_err [] 0 t with ht0 | ⟨ht0, ht1⟩
  rotate_left
  · rw [ht0, if_neg (by decide)] at happ
    have hx : (pf [] 0 (s ++ t)).2.2 = 10 := by rw [happ]
    rw [hx, hs0, if_neg (by decide), PM.lamplighterlaw19_TraceJoins.j2, if_pos rfl]
    rfl
  rw [if_pos ht0] at happ
  rw [happ, hs0, ht0]
  simp only
  obtain ⟨b1, b2, b3⟩ := pf_len [] 0 s
  obtain ⟨c1, c2, c3⟩ := pf_len [] 0 t
  have b4 := b2 0 (fun x hx => by cases hx)
  have c4 := c2 0 (fun x hx => by cases hx)
  simp only [List.length_nil, Nat.zero_add] at b1 b3 b4 c1 c3 c4
  have hsame : PM.lamplighterref19_Same.f ((pf [] 0 s).1 ++ (pf [] 0 t).1) (([] ++ (pf [] 0 s).1) ++ (pf [] 0 t).1) = some true := by
    unfold PM.lamplighterref19_Same.f
    rw [List.nil_append, if_pos]
    refine ⟨rfl, by rw [List.length_append]; omega, fun x hx => ?_⟩
    rcases List.mem_append.1 hx with hx | hx
    · have := b4 x hx; omega
    · have := c4 x hx; omega
  have ba : (pf [] 0 s).2.1 ≤ 400000 := by omega
  have ca : (pf [] 0 t).2.1 ≤ 400000 := by omega
  have g1 : (pf [] 0 s).1.length < 1759218604441 := by omega
  have g2 : (pf [] 0 s).1.length + (pf [] 0 t).1.length < 1759218604441 := by omega
  rw [if_pos trivial, show ((0 : Int) != 0) = false from rfl, PM.lamplighterlaw19_TraceJoins.j2, if_neg (by decide), if_pos rfl]
  rcases hns with hs9 | ⟨s', hs9⟩
  · have hz : ¬ ((strOf s).size : Int) > 0 := by rw [hsz0, hs9]; decide
    rw [if_neg hz, if_pos (add_is _ _ ba ca), Option.bind_some, if_pos (by simp; exact g1), Option.bind_some, if_pos (by simp; exact g2), hsame]
    rfl
  · have hl9 : s.length = s'.length + 1 := by rw [hs9]; simp
    have hz : ((strOf s).size : Int) > 0 := by omega
    have hw : wrap64 (((strOf s).size : Int) - 1) = (s'.length : Int) := by
      rw [hsz0, ← dec_is _ (by omega) (by omega), hl9]
      rfl
    have hw1 : (0 : Int) ≤ (s'.length : Int) := Int.natCast_nonneg _
    have hw2 : (s'.length : Int) ≤ ((strOf s).size : Int) := by rw [hsz0]; exact Int.ofNat_le.2 (by rw [hl9]; exact Nat.le_succ _)
    have hw3 : s'.length ≤ 400000 := by omega
    have hex : (strOf s).extract 0 ((s'.length : Int)).toNat = strOf s' := by
      apply bytes_eq
      rw [Lib.extract_data, strOf_data, strOf_data, Int.toNat_natCast, List.drop_zero, Nat.sub_zero, hs9, List.take_left]
    have hd := pf_drop [] 0 s' (by rw [← hs9]; exact hs0)
    rw [← hs9] at hd
    have hm1 : (((pf [] 0 s).2.1 - 1 : Nat) : Int) = wrap64 (((pf [] 0 s).2.1 : Int) - 1) := dec_is _ hd.1 ba
    rw [if_pos hz, hw, if_pos hw1, if_pos hw2, hex, hP _ hw3, Option.bind_some, hd.2]
    simp only
    rw [if_pos trivial, if_pos hm1, if_pos (add_is _ _ ba ca), Option.bind_some, if_pos (by simp; exact g1), Option.bind_some, if_pos (by simp; exact g2), hsame]
    rfl
end Pure
end Go.Proofs.YtoloooammaiipaaDoor
/- A slice of steps as an argument: what it holds, how much its reading counts, and that its reading stays while the memory that was there stays; condition: it reads at its type. -/
namespace Go.Proofs.YtoloooammaiipaaDoor.OpenSt
open Go Go.Deep Go.ChangeShapes Go.WideShapes Go.ChangeAt Go.RowKit Go.Proofs.YtoloooammaiipaaDoor Go.Proofs.YtoloooammaiipaaDoor.PI Go.Proofs.YtoloooammaiipaaDoorW.PrintWords Go.Proofs.YtoloooammaiipaaDoorW.PrintLast
set_option linter.unusedVariables false

theorem laidOut : laidOutB Tryd.prog = true := by kernel_rfl
section
variable {H : Type} {enc : TypeId × Value → H} {W : World}
/-- Elements of a kind, as a row's reading gives them. -/
theorem choose_all {β : Type} {α : Type} {l : List β} {R : Nat → β → α → Prop} (h : ∀ (i : Nat) (b : β), l[i]? = some b → ∃ a, R i b a) : ∃ ys : List α, ys.length = l.length ∧ ∀ (i : Nat) (b : β), l[i]? = some b → ∃ a, ys[i]? = some a ∧ R i b a := by
  induction l generalizing R with
  | nil => exact ⟨[], rfl, fun i b hb => by simp at hb⟩
  | cons x r ih =>
    obtain ⟨a, ha⟩ := h 0 x rfl
    obtain ⟨ys, hl, hy⟩ := ih (R := fun i b a => R (i + 1) b a) (fun i b hb => h (i + 1) b (by simpa using hb))
    refine ⟨a :: ys, by simp [hl], fun i b hb => ?_⟩
    cases i with
    | zero =>
      simp only [List.getElem?_cons_zero, Option.some.injEq] at hb
      subst hb
      exact ⟨a, rfl, ha⟩
    | succ i => exact hy i b (by simpa using hb)
theorem bulk_all (l : List (DataW H)) : Rows.uptoBulkAll l = (l.map Rows.uptoBulk).sum := by
  induction l with
  | nil => rfl
  | cons x r ih => simp only [Rows.uptoBulkAll, ih, List.map_cons, List.sum_cons]
theorem sum_le {α β : Type} {ys : List α} {xs : List β} {f : α → Nat} {g : β → Nat} (hl : ys.length = xs.length) (h : ∀ (i : Nat) (b : β), xs[i]? = some b → ∃ a, ys[i]? = some a ∧ f a ≤ g b) : (ys.map f).sum ≤ (xs.map g).sum := by
  induction xs generalizing ys with
  | nil =>
    obtain rfl := List.eq_nil_of_length_eq_zero hl
    exact Nat.le_refl _
  | cons x r ih =>
    obtain ⟨a, ha, hfg⟩ := h 0 x rfl
    cases ys with
    | nil => simp at ha
    | cons y s =>
      simp only [List.getElem?_cons_zero, Option.some.injEq] at ha
      subst ha
      have := ih (ys := s) (by simpa using hl) (fun i b hb => by simpa using h (i + 1) b (by simpa using hb))
      simp only [List.map_cons, List.sum_cons]
      omega
theorem open_row {α : Type} (d : Kd α) {e t : TypeId} (ht : Tryd.prog.underlying t = some (.slice e)) (hce : Tryd.prog.cellsOf e = d.sz) (Q : α → Prop) (wt : α → Nat) {fuel : Nat} {cs : List Value} {x : DataW H × List MemPlace}
    (elem : ∀ (n : Nat) (cs : List Value) (x : DataW H × List MemPlace), DataW.trod enc Tryd.prog W 0 (fun _ => true) true n e cs = some x → ∃ a, d.K W a cs ∧ Q a ∧ wt a ≤ Rows.uptoBulk x.1)
    (h : DataW.trod enc Tryd.prog W 0 (fun _ => true) true fuel t cs = some x) :
    ∃ (A : Option Addr) (l : List α) (c : Nat), cs = [.slice A l.length c] ∧ l.length ≤ c ∧ d.C W A l.length l ∧ (∀ a ∈ l, Q a) ∧ (l.map wt).sum + 1 ≤ Rows.uptoBulk x.1 := by
  rcases DataW.trod_slice ht h with ⟨rfl, rfl⟩ | ⟨ad, len, cap, elems, rest, n, rfl, rfl, rfl, -, hl, hm, hlen, hel, -, -⟩
  · exact ⟨none, [], 0, rfl, Nat.le_refl _, ⟨rfl, by simp, fun h => absurd h (by simp)⟩, (fun a ha => by cases ha), Nat.le_refl 1⟩
  · have key : ∀ (i : Nat) (b : DataW H × List MemPlace), elems[i]? = some b → ∃ a : α, (∃ c, c.length = d.sz ∧ d.K W a c ∧ ∀ j u, c[j]? = some u → W.cell? (ad.add (i * d.sz + j)) = some u) ∧ Q a ∧ wt a ≤ Rows.uptoBulk b.1 := fun i b hb => by
      have hi : i < len := by
        have := (List.getElem?_eq_some_iff.1 hb).1
        omega
      have h1 := hel i hi
      rw [hb, hce] at h1
      obtain ⟨c, hc, hx⟩ := Option.bind_eq_some_iff.1 h1
      obtain ⟨-, hcl, hcc⟩ := World.cells?_some hc
      obtain ⟨a, hK, hQ, hw⟩ := elem n c b hx
      refine ⟨a, ⟨c, hcl, hK, fun j u hu => ?_⟩, hQ, hw⟩
      have hj : j < d.sz := by
        have := (List.getElem?_eq_some_iff.1 hu).1
        omega
      have h2 := hcc j hj
      rw [Deep.add_add] at h2
      rw [h2, hu]
    obtain ⟨ys, hyl, hy⟩ := choose_all key
    have hyn : ys.length = len := by omega
    refine ⟨some ad, ys, cap, by rw [hyn], by omega, ⟨rfl, by rw [hyn]; unfold maxLen at hm; omega, fun _ => ⟨ad, rfl, fun j p hp => ?_⟩⟩, fun a ha => ?_, ?_⟩
    · have hj : j < elems.length := by
        have := (List.getElem?_eq_some_iff.1 hp).1
        omega
      obtain ⟨a, ha, hR, -, -⟩ := hy j _ (List.getElem?_eq_getElem hj)
      obtain rfl := Option.some.inj (hp.symm.trans ha)
      exact hR
    · obtain ⟨j, hj, rfl⟩ := List.mem_iff_getElem.1 ha
      obtain ⟨a', ha', -, hq, -⟩ := hy j _ (List.getElem?_eq_getElem (by omega : j < elems.length))
      obtain rfl := Option.some.inj ((List.getElem?_eq_getElem hj).symm.trans ha')
      exact hq
    · have h1 := sum_le (f := wt) (g := fun b : DataW H × List MemPlace => Rows.uptoBulk b.1) hyl (fun i b hb => by
        obtain ⟨a, ha, -, -, hw⟩ := hy i b hb
        exact ⟨a, ha, hw⟩)
      have h2 : (elems.map fun b => Rows.uptoBulk b.1).sum = Rows.uptoBulkAll (elems.map (·.1)) := by
        rw [bulk_all, List.map_map]
        rfl
      simp only [Rows.uptoBulk]
      omega
theorem byte_wf {a : Int} (ha : (Lit.int .u8 a).wf = true) : 0 ≤ a ∧ a ≤ 255 := by simpa [Lit.wf, IntKind.min, IntKind.max, IntKind.signed, IntKind.bits] using ha
theorem int_wf {a : Int} (ha : (Lit.int .i64 a).wf = true) : -9223372036854775808 ≤ a ∧ a ≤ 9223372036854775807 := by simpa [Lit.wf, IntKind.min, IntKind.max, IntKind.signed, IntKind.bits] using ha
theorem sum_ones (l : List Int) : (l.map fun _ => 1).sum = l.length := by
  induction l with
  | nil => rfl
  | cons x r ih => rw [List.map_cons, List.sum_cons, ih, List.length_cons]; omega
theorem open_data {n : Nat} {cs : List Value} {x : DataW H × List MemPlace} (h : DataW.trod enc Tryd.prog W 0 (fun _ => true) true n 22 cs = some x) :
    ∃ (A : Option Addr) (l : List Int) (c : Nat), cs = [.slice A l.length c] ∧ l.length ≤ c ∧ (Kd.int .u8).C W A l.length l ∧ (∀ a ∈ l, 0 ≤ a ∧ a ≤ 255) ∧ l.length + 1 ≤ Rows.uptoBulk x.1 := by
  obtain ⟨A, l, c, h1, h2, h3, h4, h5⟩ := open_row (Kd.int .u8) (e := 5) Tryd.underlying22 (by kernel_rfl) (fun a => 0 ≤ a ∧ a ≤ 255) (fun _ => 1) (fun n cs x hx => by
    obtain ⟨z, rfl, rfl, hw⟩ := DataW.trod_int Tryd.underlying5 hx
    exact ⟨z, rfl, byte_wf hw, Nat.le_refl 1⟩) h
  rw [sum_ones] at h5
  exact ⟨A, l, c, h1, h2, h3, h4, h5⟩
theorem two_of {xs : List (DataW H × List MemPlace)} (h : xs.length = 2) : ∃ a b, xs = [a, b] := by
  match xs, h with
  | [a, b], _ => exact ⟨a, b, rfl⟩
theorem three_of {xs : List (DataW H × List MemPlace)} (h : xs.length = 3) : ∃ a b c, xs = [a, b, c] := by
  match xs, h with
  | [a, b, c], _ => exact ⟨a, b, c, rfl⟩
theorem four_of {xs : List (DataW H × List MemPlace)} (h : xs.length = 4) : ∃ a b c d, xs = [a, b, c, d] := by
  match xs, h with
  | [a, b, c, d], _ => exact ⟨a, b, c, d, rfl⟩
set_option maxRecDepth 100000 in
theorem open_out {n : Nat} {cs : List Value} {x : DataW H × List MemPlace} (h : DataW.trod enc Tryd.prog W 0 (fun _ => true) true n 56 cs = some x) : ∃ a : Oup, k56.K W a cs ∧ OuOK a ∧ 1 + a.f1.length ≤ Rows.uptoBulk x.1 := by
  obtain ⟨xs, m, rfl, rfl, hl, hn, hf⟩ := DataW.trod_struct Tryd.underlying56 h
  obtain ⟨a, b, rfl⟩ := two_of hn
  have hl2 : cs.length = 2 := hl.trans (by kernel_rfl)
  match cs, hl2 with
  | [v0, v1], _ =>
    have f0 : DataW.trod enc Tryd.prog W 0 (fun _ => true) true m 4 [v0] = some a := hf 0 _ rfl
    have f1 : DataW.trod enc Tryd.prog W 0 (fun _ => true) true m 22 [v1] = some b := hf 1 _ rfl
    obtain ⟨b0, e0, rfl⟩ := DataW.trod_bool Tryd.underlying4 f0
    obtain ⟨A, l, c, e1, hc, hC, hb, hw⟩ := open_data f1
    obtain rfl : v0 = .bool b0 := by simpa using e0
    obtain rfl : v1 = .slice A l.length c := by simpa using e1
    refine ⟨⟨b0, l⟩, k56_mk W ⟨b0, l⟩ hc hC, hb, ?_⟩
    simp only [List.map_cons, List.map_nil, Rows.uptoBulk, Rows.uptoBulkAll]
    omega
set_option maxRecDepth 100000 in
theorem open_event {n : Nat} {cs : List Value} {x : DataW H × List MemPlace} (h : DataW.trod enc Tryd.prog W 0 (fun _ => true) true n 29 cs = some x) :
    ∃ (k0 k1 k2 : Int) (A : Option Addr) (l : List Int) (c : Nat), cs = [.int .i64 k0, .int .i64 k1, .int .i64 k2, .slice A l.length c] ∧ ((-9223372036854775808 ≤ k1 ∧ k1 ≤ 9223372036854775807) ∧ (-9223372036854775808 ≤ k2 ∧ k2 ≤ 9223372036854775807)) ∧ l.length ≤ c ∧ (Kd.int .u8).C W A l.length l ∧ (∀ a ∈ l, 0 ≤ a ∧ a ≤ 255) ∧ 1 + l.length ≤ Rows.uptoBulk x.1 := by
  obtain ⟨xs, m, rfl, rfl, hl, hn, hf⟩ := DataW.trod_struct Tryd.underlying29 h
  obtain ⟨a, b, d, e, rfl⟩ := four_of hn
  have hl2 : cs.length = 4 := hl.trans (by kernel_rfl)
  match cs, hl2 with
  | [v0, v1, v2, v3], _ =>
    have f0 : DataW.trod enc Tryd.prog W 0 (fun _ => true) true m 3 [v0] = some a := hf 0 _ rfl
    have f1 : DataW.trod enc Tryd.prog W 0 (fun _ => true) true m 3 [v1] = some b := hf 1 _ rfl
    have f2 : DataW.trod enc Tryd.prog W 0 (fun _ => true) true m 3 [v2] = some d := hf 2 _ rfl
    have f3 : DataW.trod enc Tryd.prog W 0 (fun _ => true) true m 22 [v3] = some e := hf 3 _ rfl
    obtain ⟨z0, e0, rfl, -⟩ := DataW.trod_int Tryd.underlying3 f0
    obtain ⟨z1, e1, rfl, w1⟩ := DataW.trod_int Tryd.underlying3 f1
    obtain ⟨z2, e2, rfl, w2⟩ := DataW.trod_int Tryd.underlying3 f2
    obtain ⟨A, l, c, e3, hc, hC, hb, hw⟩ := open_data f3
    obtain rfl : v0 = .int .i64 z0 := by simpa using e0
    obtain rfl : v1 = .int .i64 z1 := by simpa using e1
    obtain rfl : v2 = .int .i64 z2 := by simpa using e2
    obtain rfl : v3 = .slice A l.length c := by simpa using e3
    refine ⟨z0, z1, z2, A, l, c, rfl, ⟨int_wf w1, int_wf w2⟩, hc, hC, hb, ?_⟩
    simp only [List.map_cons, List.map_nil, Rows.uptoBulk, Rows.uptoBulkAll]
    omega
set_option maxRecDepth 100000 in
theorem open_step {n : Nat} {cs : List Value} {x : DataW H × List MemPlace} (h : DataW.trod enc Tryd.prog W 0 (fun _ => true) true n 42 cs = some x) : ∃ a : Stp, k42.K W a cs ∧ StOK a ∧ wtS a ≤ Rows.uptoBulk x.1 := by
  obtain ⟨xs, m, rfl, rfl, hl, hn, hf⟩ := DataW.trod_struct Tryd.underlying42 h
  obtain ⟨a, b, d, rfl⟩ := three_of hn
  have hl2 : cs.length = 6 := hl.trans (by kernel_rfl)
  match cs, hl2 with
  | [v0, v1, v2, v3, v4, v5], _ =>
    have f0 : DataW.trod enc Tryd.prog W 0 (fun _ => true) true m 29 [v0, v1, v2, v3] = some a := hf 0 _ rfl
    have f1 : DataW.trod enc Tryd.prog W 0 (fun _ => true) true m 40 [v4] = some b := hf 1 _ rfl
    have f2 : DataW.trod enc Tryd.prog W 0 (fun _ => true) true m 4 [v5] = some d := hf 2 _ rfl
    obtain ⟨z0, z1, z2, A, l, c, e0, hz, hc, hC, hb, hw⟩ := open_event f0
    obtain ⟨A2, l2, c2, e1, hc2, hC2, hq2, hw2⟩ := open_row k56 (e := 56) Tryd.underlying40 (by kernel_rfl) OuOK (fun a : Oup => 1 + a.f1.length) (fun n cs x hx => open_out hx) f1
    obtain ⟨b5, e2, rfl⟩ := DataW.trod_bool Tryd.underlying4 f2
    simp only [List.cons.injEq, and_true] at e0 e1 e2
    obtain ⟨rfl, rfl, rfl, rfl⟩ := e0
    subst e1 e2
    refine ⟨⟨⟨z0, z1, z2, l⟩, l2, b5⟩, k42_mk W ⟨⟨z0, z1, z2, l⟩, l2, b5⟩ hc hC hc2 hC2, ⟨hz.1, hz.2, hb, hq2⟩, ?_⟩
    have e9 : wtO l2 = (l2.map fun a : Oup => 1 + a.f1.length).sum := rfl
    simp only [List.map_cons, List.map_nil, Rows.uptoBulk, Rows.uptoBulkAll, wtS]
    rw [e9]
    omega
end
set_option maxRecDepth 100000 in
theorem open_steps {H : Type} {enc : TypeId × Value → H} {W : World} {base : Nat} {v : Value} {d : DataW H} {p : List MemPlace} (hv : Value.okWide Tryd.prog W .any base 43 v) (h : DataW.Trod enc Tryd.prog W 0 (fun _ => true) true 43 v d p) :
    ∃ (A : Option Addr) (l : List Stp) (c : Nat), v = .slice A l.length c ∧ l.length ≤ c ∧ k42.C W A l.length l ∧ (∀ x ∈ l, StOK x) ∧ wtL l + 1 ≤ Rows.uptoBulk d ∧
      ∀ W', Below W.heap.size W W' → DataW.Trod enc Tryd.prog W' 0 (fun b => decide (b < W.heap.size)) true 43 v d p := by
  obtain ⟨a, len, cap, rfl⟩ := okWide_slice Tryd.underlying43 hv
  have k := h
  have lt : ∀ x ∈ p, x.block < W.heap.size := by obtain ⟨m, hm⟩ := k; exact DataW.trod_lt m _ _ _ hm
  obtain ⟨fuel, hf⟩ := h
  have hshut : ∀ W', Below W.heap.size W W' → DataW.Trod enc Tryd.prog W' 0 (fun b => decide (b < W.heap.size)) true 43 (.slice a len cap) d p := fun W' bel => Below.trod laidOut (by kernel_rfl) (of_decide_eq_true (by kernel_rfl)) k bel lt
  obtain ⟨A, l, c, e, hc, hC, hq, hw⟩ := open_row k42 (e := 42) Tryd.underlying43 (by kernel_rfl) StOK wtS (fun n cs x hx => open_step hx) hf
  have e2 : Value.slice a len cap = .slice A l.length c := by simpa [Value.cells] using e
  exact ⟨A, l, c, e2, hc, hC, hq, hw, hshut⟩
end Go.Proofs.YtoloooammaiipaaDoor.OpenSt
/- A world for the witness of a row that lists package-level tables and errors: each listed table holds what the row lists, each listed error a new block of its own. No conditions. -/
namespace Go.Proofs.YtoloooammaiipaaDoor.Laid
open Go Go.ChangeShapes Go.WideShapes Go.ChangeAt Go.RowKit
/-- The cells of a datum of numbers, texts and rows of them. -/
def cellsAt {H : Type} : Nat → DataW H → List Value
  | 0, _ => []
  | _ + 1, .lit (.int k n) => [.int k n]
  | _ + 1, .lit (.bool b) => [.bool b]
  | _ + 1, .lit (.string b) => [.string ⟨b.toArray⟩]
  | n + 1, .agg ps => ps.flatMap (cellsAt n)
  | _ + 1, _ => []
def layOne (P : Program) (h : Array Obj) (x : String × DataW Unit) : Array Obj :=
  match P.globalNamed x.1 with
  | some g => match x.2 with
    | .iface _ (.ptr d) => (h.push (.cells (cellsAt 5 d).toArray 140 (0, 0))).modify g fun
      | .cells _ t frozen => .cells #[.iface 138 (.pointer (some ⟨h.size, 0, none⟩))] t frozen
      | o => o
    | d => h.modify g fun
      | .cells _ t frozen => .cells (cellsAt 5 d).toArray t frozen
      | o => o
  | none => h
noncomputable def laidWorld (os : Os) : World :=
  { World.holding Tryd.prog os ⟨#[], #[], []⟩ with heap := Rows.traceBytesRow.laid.foldl (layOne Tryd.prog) (World.holding Tryd.prog os ⟨#[], #[], []⟩).heap }
set_option maxRecDepth 100000 in
theorem laid_met (os : Os) (args : Array Value) : laidMet Tryd.prog Rows.traceBytesRow.laid ((laidWorld os).forCall (fun _ _ => 0) ⟨#[], args, []⟩).memory :=
  laidMet_of_run3 8 (by kernel_rfl) (by kernel_rfl) (by kernel_rfl)
end Go.Proofs.YtoloooammaiipaaDoor.Laid

namespace Go.Proofs.YtoloooammaiipaaDoor.traceJoins
open Go.ChangeShapes Go.WideShapes Go.ChangeAt Go.RowKit
open Go.ChangeMaps (open_string shut_string)
set_option linter.unusedVariables false
theorem own : ownKnob Tryd.prog.godebug = none := by kernel_rfl
theorem byte_wf {a : Int} (ha : (Lit.int .u8 a).wf = true) : 0 ≤ a ∧ a ≤ 255 := by simpa [Lit.wf, IntKind.min, IntKind.max, IntKind.signed, IntKind.bits] using ha
theorem word_wf {a : Int} (ha : (Lit.int .u16 a).wf = true) : 0 ≤ a ∧ a ≤ 65535 := by simpa [Lit.wf, IntKind.min, IntKind.max, IntKind.signed, IntKind.bits] using ha
set_option maxRecDepth 100000 in
/-- What the walk gives, for every argument. -/
theorem contract (H : Type) (enc : TypeId × Value → H) (W : World) (base : Nat) (args : Array Value) (ds gs : List (DataW H)) (before : List MemPlace)
    (hval0 : ∀ (j : Nat) t v, Tryd.f8.params[j]? = some t → args[j]? = some v → Value.okWide Tryd.prog W .any base t v)
    (hW : DataW.Whole enc Tryd.prog Tryd.f8.params.toList Rows.traceJoinsSpec.vars false W args.toList ds gs before)
    (hk : Rows.uptoSmall H (ds ++ gs) = true)
    (hsz0 : (DataW.weightsEach Tryd.prog (Tryd.f8.params.toList ++ Rows.traceJoinsSpec.plain.varTypes Tryd.prog) (ds ++ gs)).all (· ≤ reachBytes) = true)
    (hL : laidMetH Tryd.prog Rows.traceJoinsUptoRow.laid W)
    : Calls Tryd.prog 8 args W fun e W' => ∃ v, e = .returned v ∧ Rows.traceJoinsSpec.post enc Tryd.prog Tryd.f8 false true false false W args v W' := by
  have hsz := hsz0
  have hval : ∀ (j : Nat) t v, Tryd.f8.params[j]? = some t → args[j]? = some v → Value.okWide Tryd.prog W .any base t v := hval0
  have hW' := hW
  obtain ⟨p, q, hA0, hV, rfl, hfz, hnd⟩ := hW
  have hA : DataW.TrodAll enc Tryd.prog W 0 (fun _ => true) true Tryd.f8.params.toList args.toList ds p := hA0
  rw [Tryd.params8] at hA hval hsz
  obtain ⟨v0, vs0, d0, ds0, p0, q0, hargs, rfl, rfl, h0, r0⟩ := trodAll_cons hA
  obtain ⟨v1, vs1, d1, ds1, p1, q1, rfl, rfl, rfl, h1, r1⟩ := trodAll_cons r0
  obtain ⟨rfl, rfl, rfl⟩ := trodAll_nil r1
  obtain rfl : args = #[v0, v1] := by cases args; simp_all
  obtain ⟨rfl, rfl⟩ := trodVars_none hV
  have hkb : Rows.uptoBulkAll ([d0, d1] : List (DataW H)) ≤ 1048576 := by
    have h : Rows.uptoBulkAll ([d0, d1] ++ ([] : List (DataW H))) ≤ 1048576 := of_decide_eq_true hk
    simpa using h
  simp only [Rows.uptoBulkAll] at hkb
  obtain ⟨A0, l0, c0, rfl, n0, r0', q0, u0, b0⟩ := OpenSt.open_steps (hval 0 43 v0 rfl rfl) h0
  obtain ⟨A1, l1, c1, rfl, n1, r1', q1, u1, b1⟩ := OpenSt.open_steps (hval 1 43 v1 rfl rfl) h1
  clear hA0 hval0 hsz0
  obtain ⟨k, hk'⟩ := Pure.TraceJoins l0 l1 q0 (by omega) q1 (by omega)
  refine (PM.lamplighterlaw19_TraceJoins.calls k A0 c0 l0 A1 c1 l1 true W r0' n0 r1' n1 hk' rfl (globt_laid hL)).mono fun e W' ⟨he, bel⟩ => ?_
  subst he
  exact ⟨_, rfl, _, _, _, [], _, [], hW', trodAll_mk1 (shut_bool Tryd.underlying4 _), (trodAll_cons_mk (b0 _ bel) (trodAll_cons_mk (b1 _ bel) trodAll_mk0)), rfl, bel.frame _, fun h => by cases h⟩
set_option maxRecDepth 100000 in
theorem lifted (os : Os) (started : os.Started) (H : Type) (enc : TypeId × Value → H) (F : Stop.Interp) :
    ReturnsInHanded {} Tryd.checked os 8 .any ((Rows.OpenSpec.upto Rows.traceJoinsSpec).preRow enc Tryd.prog Tryd.f8 Rows.traceJoinsUptoRow.domain false Rows.traceJoinsUptoRow.laid) (((Rows.OpenSpec.upto Rows.traceJoinsSpec).at F).post enc Tryd.prog Tryd.f8 false true false false) := by
  refine returnsInHanded_of_row (C := Tryd.checked) (s := (Rows.OpenSpec.upto Rows.traceJoinsSpec)) own started (by kernel_rfl) Tryd.func8
    (witness_row_at (enc := enc) (C := Tryd.checked) false (Laid.laidWorld os) #[.slice none 0 0, .slice none 0 0] rfl (by kernel_rfl) (by kernel_rfl) (by kernel_rfl)
      (OpenSpec.preRow_of_cond 8 (x := ([.nil, .nil], [], [])) (by kernel_rfl) (by kernel_rfl) (fun k hk => by cases hk; kernel_rfl) (by kernel_rfl) (Laid.laid_met os _))) ?_
  intro W base args ds gs before hval hW _ hcond hsz hL _ _
  exact contract H enc W base args ds gs before hval hW (hcond _ rfl) hsz hL
theorem over : Rows.traceJoinsUptoRow.holds Tryd.pinned (Rows.OpenSpec.upto Rows.traceJoinsSpec) :=
  OpenClaim.holds_of_cond 8 Tryd.f8 rfl rfl rfl rfl rfl rfl rfl ⟨rfl, rfl, rfl, rfl, rfl⟩ rfl rfl rfl rfl rfl (by kernel_rfl) Tryd.func8 (by kernel_rfl)
    (of_decide_eq_true (by kernel_rfl)) (by unfold Func.isWrapper; first | (rw [if_pos (by decide +kernel)]; kernel_rfl) | (rw [if_neg (by decide +kernel)]; exact ⟨rfl, rfl⟩))
    (fun os started H enc _ F => by rw [OpenClaim.pre_eq_preRow]; exact lifted os started H enc F)
theorem proved : Rows.TraceJoinsUptoSaid := over
/-- No parameter wants a stand-in; the program's own looks are off. -/
theorem plain (f : FuncId) (fn : Func) (hf : Tryd.pinned.checked.prog.funcNamed "lamplighter/lamplighterlaw19.TraceJoins" = some f) (hfn : Tryd.pinned.checked.prog.funcs[f]? = some fn) :
    true = Tryd.pinned.checked.prog.looks [] ∧ ∀ (j : Nat) t, fn.params[j]? = some t → Tryd.pinned.checked.prog.wantsStandIn t = false := by
  obtain rfl : f = 8 := Option.some.inj ((show Tryd.prog.funcNamed "lamplighter/lamplighterlaw19.TraceJoins" = some 8 by kernel_rfl).symm.trans hf) |>.symm
  obtain rfl : fn = Tryd.f8 := (Option.some.inj (Tryd.func8.symm.trans hfn)).symm
  refine ⟨by kernel_rfl, fun j t ht => ?_⟩
  rw [Tryd.params8] at ht
  have hall : (#[43, 43] : Array TypeId).all (fun t => !(Tryd.prog.wantsStandIn t)) = true := by kernel_rfl
  have hm := (Array.all_eq_true_iff_forall_mem.1 hall) t (Array.mem_of_getElem? ht)
  have hm2 : Tryd.prog.wantsStandIn t = false := by simpa using hm
  exact hm2
theorem card : Rows.TraceJoinsUptoCardSaid :=
  Claim7.holds_tied_plain_at .later [] _ _ _ _ proved (fun _ h => by cases h) (by kernel_rfl) (fun _ h => by cases h) traceJoinsUpto_row_tie rfl ⟨rfl, rfl⟩ (by kernel_rfl) rfl plain (by kernel_rfl)
#print axioms card
end Go.Proofs.YtoloooammaiipaaDoor.traceJoins
namespace Go.Proofs.YtoloooammaiipaaDoor
/-- The statement, under a short name, for the claim. -/
theorem traceJoins_holds : Rows.TraceJoinsUptoCardSaid := traceJoins.card
end Go.Proofs.YtoloooammaiipaaDoor
