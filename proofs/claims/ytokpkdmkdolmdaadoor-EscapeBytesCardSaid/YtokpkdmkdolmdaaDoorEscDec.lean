/- What decoding gives, by the parts of a text: plain laws on lists of bytes; no program in sight. -/
import Derived.Test.YtokpkdmkdolmdaaDoorEscBack
namespace Go.Proofs.YtokpkdmkdolmdaaDoor
open Go

/-- What parts tell, wherever they stand. -/
def decO (a0 a1 a2 a3 a4 : Int) : Bool → List (List UInt8) → Option (List UInt8)
  | _, [] => some []
  | false, x :: r => (decO a0 a1 a2 a3 a4 true r).map (x ++ ·)
  | true, [_] => none
  | true, y :: z :: r => (tellL a0 a1 a2 a3 a4 y).bind fun t => (decO a0 a1 a2 a3 a4 false (z :: r)).map (t ++ ·)
theorem decS_some (a0 a1 a2 a3 a4 : Int) (n : Nat) : ∀ (p : List (List UInt8)) (b : Bool) (z acc : List UInt8) (i : Nat), decO a0 a1 a2 a3 a4 b p = some z → decS a0 a1 a2 a3 a4 n b p acc i = (acc ++ z, n, 0)
  | [], b, z, acc, i, h => by
    have e : z = [] := by cases b <;> (unfold decO at h; exact (Option.some.inj h).symm)
    subst e
    cases b <;> simp [decS]
  | x :: r, false, z, acc, i, h => by
    unfold decO at h
    obtain ⟨y, hy, rfl⟩ := Option.map_eq_some_iff.1 h
    show decS a0 a1 a2 a3 a4 n true r (acc ++ x) (i + x.length) = _
    rw [decS_some a0 a1 a2 a3 a4 n r true y _ _ hy, List.append_assoc]
  | [y], true, z, acc, i, h => by cases h
  | y :: x :: r, true, z, acc, i, h => by
    unfold decO at h
    obtain ⟨t, ht, h⟩ := Option.bind_eq_some_iff.1 h
    obtain ⟨u, hu, rfl⟩ := Option.map_eq_some_iff.1 h
    unfold decS
    rw [ht]
    show decS a0 a1 a2 a3 a4 n false (x :: r) (acc ++ t) (i + y.length + 2) = _
    rw [decS_some a0 a1 a2 a3 a4 n (x :: r) false u _ _ hu, List.append_assoc]
theorem decS_none (a0 a1 a2 a3 a4 : Int) (n : Nat) : ∀ (p : List (List UInt8)) (b : Bool) (acc : List UInt8) (i : Nat), decO a0 a1 a2 a3 a4 b p = none → ∃ j, decS a0 a1 a2 a3 a4 n b p acc i = ([], j, 10)
  | [], b, acc, i, h => by cases b <;> cases h
  | x :: r, false, acc, i, h => by
    unfold decO at h
    exact decS_none a0 a1 a2 a3 a4 n r true (acc ++ x) (i + x.length) (Option.map_eq_none_iff.1 h)
  | [y], true, acc, i, h => ⟨i, rfl⟩
  | y :: x :: r, true, acc, i, h => by
    unfold decO at h
    unfold decS
    cases ht : tellL a0 a1 a2 a3 a4 y with
    | none => exact ⟨i, rfl⟩
    | some t =>
      rw [ht] at h
      exact decS_none a0 a1 a2 a3 a4 n (x :: r) false (acc ++ t) (i + y.length + 2) (Option.map_eq_none_iff.1 h)
theorem decS_code {a0 a1 a2 a3 a4 : Int} {n : Nat} {p : List (List UInt8)} {b : Bool} {acc : List UInt8} {i : Nat} : (decS a0 a1 a2 a3 a4 n b p acc i).2.2 = 0 ∨ (decS a0 a1 a2 a3 a4 n b p acc i).2.2 = 10 := by
  cases h : decO a0 a1 a2 a3 a4 b p with
  | none => obtain ⟨j, e⟩ := decS_none a0 a1 a2 a3 a4 n p b acc i h; rw [e]; exact Or.inr rfl
  | some z => rw [decS_some a0 a1 a2 a3 a4 n p b z acc i h]; exact Or.inl rfl
/-- How long what is told is. -/
theorem decO_length (a0 a1 a2 a3 a4 : Int) : ∀ (p : List (List UInt8)) (b : Bool) (z : List UInt8), decO a0 a1 a2 a3 a4 b p = some z → z.length ≤ (p.map List.length).sum
  | [], b, z, h => by
    have e : z = [] := by cases b <;> (unfold decO at h; exact (Option.some.inj h).symm)
    subst e
    simp
  | x :: r, false, z, h => by
    unfold decO at h
    obtain ⟨y, hy, rfl⟩ := Option.map_eq_some_iff.1 h
    have := decO_length a0 a1 a2 a3 a4 r true y hy
    simp only [List.length_append, List.map_cons, List.sum_cons]
    omega
  | [y], true, z, h => by cases h
  | y :: x :: r, true, z, h => by
    unfold decO at h
    obtain ⟨t, ht, h⟩ := Option.bind_eq_some_iff.1 h
    obtain ⟨u, hu, rfl⟩ := Option.map_eq_some_iff.1 h
    have h1 := decO_length a0 a1 a2 a3 a4 (x :: r) false u hu
    have h2 := tell_length ht
    simp only [List.length_append, List.map_cons, List.sum_cons] at h1 ⊢
    omega
theorem cut_sum (c : UInt8) (l : List UInt8) : ((cutL c l).map List.length).sum + (cutL c l).length = l.length + 1 := by
  induction l with
  | nil => rfl
  | cons x r ih =>
    by_cases h : x = c
    · subst h
      rw [cutL_hit]
      simp only [List.map_cons, List.sum_cons, List.length_cons, List.length_nil]
      omega
    · rw [cutL_miss h]
      obtain ⟨y, t, e⟩ := cutL_form c r
      rw [e] at ih ⊢
      simp only [List.map_cons, List.sum_cons, List.length_cons, List.headD_cons, List.tail_cons] at ih ⊢
      omega
/-- Two texts, one behind the other. -/
def glue : List (List UInt8) → List (List UInt8) → List (List UInt8)
  | [], q => q
  | [x], q => (x ++ q.headD []) :: q.tail
  | x :: y :: r, q => x :: glue (y :: r) q
theorem glue_cons (x y : List UInt8) (r q : List (List UInt8)) : glue (x :: y :: r) q = x :: glue (y :: r) q := rfl
theorem glue_form (x : List UInt8) (r q : List (List UInt8)) : ∃ y t, glue (x :: r) q = y :: t := by
  cases r with
  | nil => exact ⟨_, _, rfl⟩
  | cons y r => exact ⟨_, _, rfl⟩
theorem cut_glue (c : UInt8) (l m : List UInt8) : cutL c (l ++ m) = glue (cutL c l) (cutL c m) := by
  induction l with
  | nil =>
    show cutL c m = glue [[]] (cutL c m)
    obtain ⟨h, t, e⟩ := cutL_form c m
    rw [e]
    rfl
  | cons x r ih =>
    obtain ⟨h, t, e⟩ := cutL_form c r
    rw [List.cons_append]
    by_cases hx : x = c
    · subst hx
      rw [cutL_hit, cutL_hit, ih, e]
      rfl
    · rw [cutL_miss hx, cutL_miss hx, ih, e]
      cases t with
      | nil => rfl
      | cons y t => rfl
theorem decO_glue (a0 a1 a2 a3 a4 : Int) (v : List UInt8) (q : List (List UInt8)) (u : List UInt8) (hq : decO a0 a1 a2 a3 a4 false (v :: q) = some u) : ∀ (p : List (List UInt8)) (x : List UInt8) (b : Bool) (z : List UInt8), decO a0 a1 a2 a3 a4 b (x :: p) = some z → decO a0 a1 a2 a3 a4 b (glue (x :: p) (v :: q)) = some (z ++ u) := by
  intro p
  induction p with
  | nil =>
    intro x b z h
    cases b with
    | true => cases h
    | false =>
      unfold decO at h hq
      obtain ⟨y, hy, rfl⟩ := Option.map_eq_some_iff.1 h
      have e : y = [] := by unfold decO at hy; exact (Option.some.inj hy).symm
      subst e
      obtain ⟨w, hw, rfl⟩ := Option.map_eq_some_iff.1 hq
      show decO a0 a1 a2 a3 a4 false ((x ++ v) :: q) = _
      unfold decO
      rw [hw]
      simp
  | cons y p ih =>
    intro x b z h
    rw [glue_cons]
    cases b with
    | false =>
      unfold decO at h
      obtain ⟨w, hw, rfl⟩ := Option.map_eq_some_iff.1 h
      unfold decO
      rw [ih y true w hw]
      simp
    | true =>
      unfold decO at h
      obtain ⟨t, ht, h⟩ := Option.bind_eq_some_iff.1 h
      obtain ⟨w, hw, rfl⟩ := Option.map_eq_some_iff.1 h
      have ih2 := ih y false w hw
      obtain ⟨y', t', e⟩ := glue_form y p (v :: q)
      rw [e] at ih2 ⊢
      unfold decO
      rw [ht, ih2]
      simp
/-- Where it is wrong there is the escapes' sign. -/
theorem dec_place (a0 a1 a2 a3 a4 : Int) (n : Nat) : ∀ (m : Nat) (l acc : List UInt8) (i j : Nat), l.length ≤ m → decS a0 a1 a2 a3 a4 n false (cutL (xE a3) l) acc i = ([], j, 10) → ∃ o, j = i + o ∧ l[o]? = some (xE a3)
  | m, l, acc, i, j, hm, h => by
    by_cases he : xE a3 ∈ l
    · obtain ⟨a, b, rfl, ha⟩ := first_hit he
      rw [cutL_append_hit ha] at h
      have hx : (a ++ xE a3 :: b)[a.length]? = some (xE a3) := by simp
      have h1 : decS a0 a1 a2 a3 a4 n true (cutL (xE a3) b) (acc ++ a) (i + a.length) = ([], j, 10) := h
      by_cases hb : xE a3 ∈ b
      · obtain ⟨y, d, rfl, hy⟩ := first_hit hb
        rw [cutL_append_hit hy] at h1
        obtain ⟨z, r, e⟩ := cutL_form (xE a3) d
        rw [e] at h1
        unfold decS at h1
        cases ht : tellL a0 a1 a2 a3 a4 y with
        | none =>
          rw [ht] at h1
          have : i + a.length = j := congrArg (fun p => p.2.1) h1
          exact ⟨a.length, this.symm, hx⟩
        | some t =>
          rw [ht] at h1
          cases m with
          | zero => simp at hm
          | succ m =>
            have h2 : decS a0 a1 a2 a3 a4 n false (cutL (xE a3) d) (acc ++ a ++ t) (i + a.length + y.length + 2) = ([], j, 10) := by rw [e]; exact h1
            obtain ⟨o, ho, hl⟩ := dec_place a0 a1 a2 a3 a4 n m d _ _ j (by simp only [List.length_append, List.length_cons] at hm; omega) h2
            refine ⟨a.length + y.length + 2 + o, by omega, ?_⟩
            have e2 : a ++ xE a3 :: (y ++ xE a3 :: d) = (a ++ xE a3 :: (y ++ [xE a3])) ++ d := by simp
            rw [e2, List.getElem?_append_right (by simp; omega)]
            rw [← hl]
            congr 1
            simp
            omega
      · rw [cutL_clean hb] at h1
        have : i + a.length = j := congrArg (fun p => p.2.1) h1
        exact ⟨a.length, this.symm, hx⟩
    · rw [cutL_clean he] at h
      have : (0 : Int) = 10 := congrArg (fun p => p.2.2) h
      omega
end Go.Proofs.YtokpkdmkdolmdaaDoor
