/- The law MshChecks as a statement over five signs and ten texts; condition: the signs are bytes, the texts are such as memory bears. -/
import Derived.Test.YtbkalgkjkcfplaaDoorPMx11
import Derived.Test.YtbkalgkjkcfplaaDoorPMx18
import Derived.Test.YtbkalgkjkcfplaaDoorM8
import Derived.Test.YtbkalgkjkcfplaaDoorM9
namespace Go.Proofs.YtbkalgkjkcfplaaDoor.Pure
open Go Go.RowKit Go.Proofs.YtbkalgkjkcfplaaDoor.PM Go.Proofs.YtbkalgkjkcfplaaDoorW.PrintWords Go.Proofs.YtbkalgkjkcfplaaDoorW.PrintLast
theorem great_spec (c0 c1 c2 c3 c4 : Int) (t5 t6 t7 t8 t9 t10 t11 t12 t13 t14 : ByteArray) (ht5 : t5.size ≤ 140737488351232) (ht6 : t6.size ≤ 140737488351232) (ht7 : t7.size ≤ 140737488351232) (ht8 : t8.size ≤ 140737488351232) (ht9 : t9.size ≤ 140737488351232) (ht10 : t10.size ≤ 140737488351232) (ht11 : t11.size ≤ 140737488351232) (ht12 : t12.size ≤ 140737488351232) (ht13 : t13.size ≤ 140737488351232) (ht14 : t14.size ≤ 140737488351232) :
    lamplighterlaw09_great.f c0 c1 c2 c3 c4 t5 t6 t7 t8 t9 t10 t11 t12 t13 t14 = some (decide ((t5.size : Int) + (t6.size : Int) + (t7.size : Int) + (t8.size : Int) + (t9.size : Int) + (t10.size : Int) + (t11.size : Int) + (t12.size : Int) + (t13.size : Int) + (t14.size : Int) > 3000)) := by
  unfold lamplighterlaw09_great.f
  have r0 : -9223372036854775808 ≤ (t5.size : Int) + (t6.size : Int) ∧ (t5.size : Int) + (t6.size : Int) ≤ 9223372036854775807 := by omega
  have r1 : -9223372036854775808 ≤ (t5.size : Int) + (t6.size : Int) + (t7.size : Int) ∧ (t5.size : Int) + (t6.size : Int) + (t7.size : Int) ≤ 9223372036854775807 := by omega
  have r2 : -9223372036854775808 ≤ (t5.size : Int) + (t6.size : Int) + (t7.size : Int) + (t8.size : Int) ∧ (t5.size : Int) + (t6.size : Int) + (t7.size : Int) + (t8.size : Int) ≤ 9223372036854775807 := by omega
  have r3 : -9223372036854775808 ≤ (t5.size : Int) + (t6.size : Int) + (t7.size : Int) + (t8.size : Int) + (t9.size : Int) ∧ (t5.size : Int) + (t6.size : Int) + (t7.size : Int) + (t8.size : Int) + (t9.size : Int) ≤ 9223372036854775807 := by omega
  have r4 : -9223372036854775808 ≤ (t5.size : Int) + (t6.size : Int) + (t7.size : Int) + (t8.size : Int) + (t9.size : Int) + (t10.size : Int) ∧ (t5.size : Int) + (t6.size : Int) + (t7.size : Int) + (t8.size : Int) + (t9.size : Int) + (t10.size : Int) ≤ 9223372036854775807 := by omega
  have r5 : -9223372036854775808 ≤ (t5.size : Int) + (t6.size : Int) + (t7.size : Int) + (t8.size : Int) + (t9.size : Int) + (t10.size : Int) + (t11.size : Int) ∧ (t5.size : Int) + (t6.size : Int) + (t7.size : Int) + (t8.size : Int) + (t9.size : Int) + (t10.size : Int) + (t11.size : Int) ≤ 9223372036854775807 := by omega
  have r6 : -9223372036854775808 ≤ (t5.size : Int) + (t6.size : Int) + (t7.size : Int) + (t8.size : Int) + (t9.size : Int) + (t10.size : Int) + (t11.size : Int) + (t12.size : Int) ∧ (t5.size : Int) + (t6.size : Int) + (t7.size : Int) + (t8.size : Int) + (t9.size : Int) + (t10.size : Int) + (t11.size : Int) + (t12.size : Int) ≤ 9223372036854775807 := by omega
  have r7 : -9223372036854775808 ≤ (t5.size : Int) + (t6.size : Int) + (t7.size : Int) + (t8.size : Int) + (t9.size : Int) + (t10.size : Int) + (t11.size : Int) + (t12.size : Int) + (t13.size : Int) ∧ (t5.size : Int) + (t6.size : Int) + (t7.size : Int) + (t8.size : Int) + (t9.size : Int) + (t10.size : Int) + (t11.size : Int) + (t12.size : Int) + (t13.size : Int) ≤ 9223372036854775807 := by omega
  have r8 : -9223372036854775808 ≤ (t5.size : Int) + (t6.size : Int) + (t7.size : Int) + (t8.size : Int) + (t9.size : Int) + (t10.size : Int) + (t11.size : Int) + (t12.size : Int) + (t13.size : Int) + (t14.size : Int) ∧ (t5.size : Int) + (t6.size : Int) + (t7.size : Int) + (t8.size : Int) + (t9.size : Int) + (t10.size : Int) + (t11.size : Int) + (t12.size : Int) + (t13.size : Int) + (t14.size : Int) ≤ 9223372036854775807 := by omega
  have w0 := wrap_fit r0.1 r0.2
  have w1 := wrap_fit r1.1 r1.2
  have w2 := wrap_fit r2.1 r2.2
  have w3 := wrap_fit r3.1 r3.2
  have w4 := wrap_fit r4.1 r4.2
  have w5 := wrap_fit r5.1 r5.2
  have w6 := wrap_fit r6.1 r6.2
  have w7 := wrap_fit r7.1 r7.2
  have w8 := wrap_fit r8.1 r8.2
  rw [w0, w1, w2, w3, w4, w5, w6, w7, w8]
theorem vers_loop (c0 c1 c2 c3 c4 : Int) (t5 t6 t7 t8 t9 t10 t11 t12 t13 t14 : ByteArray) (s : ByteArray) (e : Int) (r : Int) (l : List ByteArray) (hl : l.length ≤ 1000)
    (hC : ∀ k, 30000 ≤ k → msh_Check.f k c0 c1 c2 c3 c4 t5 t6 t7 t8 t9 t10 t11 t12 t13 t14 = some r ∧ lamplighterref09_Check.f k c0 c1 c2 c3 c4 t5 t6 t7 t8 t9 t10 t11 t12 t13 t14 = some r) (d : Nat) : ∀ (k i : Nat), i ≤ l.length → l.length - i = d → 40000 + d ≤ k →
    lamplighterlaw09_MshChecks.l0 k s e s e l l (l.length : Int) (i : Int) c0 c1 c2 c3 c4 t5 t6 t7 t8 t9 t10 t11 t12 t13 t14 = some true := by
  induction d with
  | zero =>
    intro k i hi hd hk
    obtain ⟨k, rfl⟩ : ∃ m, k = m + 1 := ⟨k - 1, by omega⟩
    obtain rfl : i = l.length := by omega
    have q : ¬ ((l.length : Int) < (l.length : Int)) := by omega
    obtain ⟨h1, h2⟩ := hC k (by omega)
    rw [lamplighterlaw09_MshChecks.l0, if_neg q, h1, Option.bind_some, h2, Option.bind_some, if_pos rfl, if_pos rfl]
    simp
  | succ d ih =>
    intro k i hi hd hk
    obtain ⟨k, rfl⟩ : ∃ m, k = m + 1 := ⟨k - 1, by omega⟩
    have q : (i : Int) < (l.length : Int) := by omega
    have q0 : (0 : Int) ≤ (i : Int) := by omega
    have e1 := ih k (i + 1) (by omega) (by omega) (by omega)
    rw [lamplighterlaw09_MshChecks.l0, if_pos q, if_pos q0, if_pos q, if_pos q, if_pos rfl, wrap_succ i (by omega), e1]
theorem MshChecks (c0 c1 c2 c3 c4 : Int) (t5 t6 t7 t8 t9 t10 t11 t12 t13 t14 : ByteArray) (hc0 : IsByte c0) (hc1 : IsByte c1) (hc2 : IsByte c2) (hc3 : IsByte c3) (hc4 : IsByte c4) (ht5 : t5.size ≤ 140737488351232) (ht6 : t6.size ≤ 140737488351232) (ht7 : t7.size ≤ 140737488351232) (ht8 : t8.size ≤ 140737488351232) (ht9 : t9.size ≤ 140737488351232) (ht10 : t10.size ≤ 140737488351232) (ht11 : t11.size ≤ 140737488351232) (ht12 : t12.size ≤ 140737488351232) (ht13 : t13.size ≤ 140737488351232) (ht14 : t14.size ≤ 140737488351232) : ∃ k, lamplighterlaw09_MshChecks.f k c0 c1 c2 c3 c4 t5 t6 t7 t8 t9 t10 t11 t12 t13 t14 = some true := by
  refine ⟨60000, ?_⟩
  unfold lamplighterlaw09_MshChecks.f
  rw [great_spec c0 c1 c2 c3 c4 t5 t6 t7 t8 t9 t10 t11 t12 t13 t14 ht5 ht6 ht7 ht8 ht9 ht10 ht11 ht12 ht13 ht14, Option.bind_some]
  by_cases hg : (t5.size : Int) + (t6.size : Int) + (t7.size : Int) + (t8.size : Int) + (t9.size : Int) + (t10.size : Int) + (t11.size : Int) + (t12.size : Int) + (t13.size : Int) + (t14.size : Int) > 3000
  · rw [if_pos (decide_eq_true hg), alive9_is 60000 (by omega)]
    rfl
  · have hb : bulkOf [t5, t6, t7, t8, t9, t10, t11, t12, t13, t14] ≤ 10000 := by
      simp only [bulkOf, List.map_cons, List.map_nil, List.sum_cons, List.sum_nil]
      omega
    have hC : ∀ k, 30000 ≤ k → msh_Check.f k c0 c1 c2 c3 c4 t5 t6 t7 t8 t9 t10 t11 t12 t13 t14 = some (checkOf (UInt8.ofNat c1.toNat) (UInt8.ofNat c2.toNat) t11.data.toList t12.data.toList t13.data.toList t14.data.toList) ∧ lamplighterref09_Check.f k c0 c1 c2 c3 c4 t5 t6 t7 t8 t9 t10 t11 t12 t13 t14 = some (checkOf (UInt8.ofNat c1.toNat) (UInt8.ofNat c2.toNat) t11.data.toList t12.data.toList t13.data.toList t14.data.toList) := fun k hk =>
      ⟨Check_spec k (by omega) c0 c1 c2 c3 c4 t5 t6 t7 t8 t9 t10 t11 t12 t13 t14 (by omega) (by omega) hc1 hc2, refCheck_spec k hk c0 c1 c2 c3 c4 t5 t6 t7 t8 t9 t10 t11 t12 t13 t14 (by omega) (by omega) hc1 hc2⟩
    have hv1 : msh_Versions.f = some (verB.map strOf) := rfl
    have hv2 : lamplighterref09_Versions.f = some (verB.map strOf) := rfl
    rw [if_neg (by rw [decide_eq_true_eq]; exact hg), Write_spec 60000 (by omega) c0 c1 c2 c3 c4 t5 t6 t7 t8 t9 t10 t11 t12 t13 t14 hb hc0 hc1 hc2 hc3 hc4, Option.bind_some, refWrite_spec 60000 (by omega) c0 c1 c2 c3 c4 t5 t6 t7 t8 t9 t10 t11 t12 t13 t14 hb hc0, Option.bind_some, hv1, Option.bind_some, hv2, Option.bind_some,
      alive9_is 60000 (by omega), Option.bind_some, if_pos rfl]
    generalize writeOf c0 c1 c2 c3 c4 [t5, t6, t7, t8, t9, t10, t11, t12, t13, t14] = wr
    obtain ⟨s, e⟩ := wr
    rw [show (60000 : Nat) = 59999 + 1 from rfl, lamplighterlaw09_MshChecks.j0, if_neg (by decide)]
    exact vers_loop c0 c1 c2 c3 c4 t5 t6 t7 t8 t9 t10 t11 t12 t13 t14 s e _ (verB.map strOf) (by decide) hC 10 59999 0 (by decide) rfl (by omega)
end Go.Proofs.YtbkalgkjkcfplaaDoor.Pure
