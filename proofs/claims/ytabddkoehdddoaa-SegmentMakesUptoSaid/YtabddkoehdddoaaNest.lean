/- Rows of rows of texts: what is read of one, how much they weigh, what may be among them. -/
import Derived.Test.YtabddkoehdddoaaProg
import Derived.Test.YtabddkoehdddoaaWWords
import Derived.Test.YtabddkoehdddoaaWLast
import Derived.Test.YtabddkoehdddoaaWMore
import Derived.Test.YtabddkoehdddoaaCut
import Derived.Test.YtabddkoehdddoaaStr
namespace Go.Proofs.Ytabddkoehdddoaa
open Go Go.RowKit Go.Proofs.YtabddkoehdddoaaW.PrintWords Go.Proofs.YtabddkoehdddoaaW.PrintLast

/-- What some texts weigh. -/
def wt (p : List ByteArray) : Nat := (p.map fun x => 1 + x.size).sum
/-- What some rows of texts weigh. -/
def wts (l : List (List ByteArray)) : Nat := (l.map wt).sum
theorem wt_snoc (p : List ByteArray) (x : ByteArray) : wt (p ++ [x]) = wt p + (1 + x.size) := by simp [wt]
theorem wts_snoc (l : List (List ByteArray)) (p : List ByteArray) : wts (l ++ [p]) = wts l + wt p := by simp [wts]
theorem wt_take (p : List ByteArray) (i : Nat) (h : i < p.length) : wt (p.take (i + 1)) = wt (p.take i) + (1 + (p[i]'h).size) := by
  rw [List.take_succ_eq_append_getElem h, wt_snoc]
theorem wts_take (l : List (List ByteArray)) (i : Nat) (h : i < l.length) : wts (l.take (i + 1)) = wts (l.take i) + wt (l[i]'h) := by
  rw [List.take_succ_eq_append_getElem h, wts_snoc]
theorem wt_le (p : List ByteArray) (i : Nat) : wt (p.take i) ≤ wt p := by
  have h : wt p = wt (p.take i) + wt (p.drop i) := by
    unfold wt
    rw [← List.sum_append, ← List.map_append, List.take_append_drop]
  omega
theorem wts_le (l : List (List ByteArray)) (i : Nat) : wts (l.take i) ≤ wts l := by
  have h : wts l = wts (l.take i) + wts (l.drop i) := by
    unfold wts
    rw [← List.sum_append, ← List.map_append, List.take_append_drop]
  omega
theorem wt_length (p : List ByteArray) : p.length ≤ wt p := by
  induction p with
  | nil => exact Nat.zero_le _
  | cons x r ih =>
    have e : wt (x :: r) = (1 + x.size) + wt r := by simp [wt]
    rw [e, List.length_cons]
    omega
theorem wts_length {l : List (List ByteArray)} (h : ∀ p ∈ l, p ≠ []) : l.length ≤ wts l := by
  induction l with
  | nil => exact Nat.zero_le _
  | cons p r ih =>
    have e : wts (p :: r) = wt p + wts r := by simp [wts]
    have h1 := ih (fun q hq => h q (List.mem_cons_of_mem _ hq))
    have h2 := wt_length p
    have h3 : 0 < p.length := List.length_pos_iff.2 (h p List.mem_cons_self)
    rw [e, List.length_cons]
    omega
theorem wt_mem {p : List ByteArray} {x : ByteArray} (h : x ∈ p) : x.size ≤ wt p := by
  obtain ⟨i, hi, rfl⟩ := List.mem_iff_getElem.1 h
  have h1 := wt_take p i hi
  have h2 := wt_le p (i + 1)
  omega
theorem wts_mem {l : List (List ByteArray)} {p : List ByteArray} (h : p ∈ l) : wt p ≤ wts l := by
  obtain ⟨i, hi, rfl⟩ := List.mem_iff_getElem.1 h
  have h1 := wts_take l i hi
  have h2 := wts_le l (i + 1)
  omega
/-- A text without the two signs. -/
def Clean2 (x : ByteArray) : Prop := ∀ c ∈ x.data.toList, c ≠ 126 ∧ c ≠ 94
/-- Rows that may stay: none is empty, each text is without the signs. -/
def Kept (own : List (List ByteArray)) : Prop := ∀ p ∈ own, p ≠ [] ∧ ∀ x ∈ p, Clean2 x
/-- A row of rows: one of them. -/
theorem at_rows {α : Type} {d : Kd α} {e : Nat} {w : World} {A : Option Addr} {n : Nat} {xs : List (List α)} (h : (Kd.slice e d).C w A n xs) {i : Nat} (hi : i < xs.length) :
    ∃ ad A' c', A = some ad ∧ w.cell? (ad.add i) = some (.slice A' (xs[i]'hi).length c') ∧ (xs[i]'hi).length ≤ c' ∧ d.C w A' (xs[i]'hi).length (xs[i]'hi) := by
  obtain ⟨hn, hm, hr⟩ := h
  obtain ⟨ad, e1, hc⟩ := hr (by omega)
  obtain ⟨c, hs, ⟨A', c', e2, hl, hC⟩, hcell⟩ := hc i _ (List.getElem?_eq_getElem hi)
  subst e2
  have h0 := hcell 0 _ rfl
  have e3 : i * (Kd.slice e d).sz + 0 = i := by show i * 1 + 0 = i; omega
  rw [e3] at h0
  exact ⟨ad, A', c', e1, h0, hl, hC⟩
/-- A row of texts: one of them. -/
theorem at_text {w : World} {A : Option Addr} {n : Nat} {xs : List ByteArray} (h : Kd.string.C w A n xs) {i : Nat} (hi : i < xs.length) :
    ∃ ad, A = some ad ∧ w.cell? (ad.add i) = some (.string (xs[i]'hi)) := by
  obtain ⟨ad, e, hc⟩ := (Kd.reads_of_C (enc := Value.string) (d := ByteArray.empty) (h1 := fun _ => rfl) h).2.2 (by have := h.1; omega)
  refine ⟨ad, e, ?_⟩
  rw [hc i (by have := h.1; omega), List.getD_eq_getElem?_getD, List.getElem?_eq_getElem hi]
  rfl
theorem text_at {x : ByteArray} {j : Nat} (h : j < x.size) {c : UInt8} (hc : c ∈ x.data.toList.take (j + 1)) : c ∈ x.data.toList.take j ∨ c = x[j]'h := by
  have hl : j < x.data.toList.length := by rw [Array.length_toList]; exact h
  rw [List.take_succ_eq_append_getElem hl, List.mem_append, List.mem_singleton] at hc
  rcases hc with hc | hc
  · exact Or.inl hc
  · exact Or.inr hc
end Go.Proofs.Ytabddkoehdddoaa
