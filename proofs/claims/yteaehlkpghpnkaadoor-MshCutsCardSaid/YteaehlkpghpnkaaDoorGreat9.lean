/- When a head counts as great for the laws of heads; condition: texts such as memory bears. -/
import Derived.Test.YteaehlkpghpnkaaDoorPHx2
import Derived.Test.YteaehlkpghpnkaaDoorStr
namespace Go.Proofs.YteaehlkpghpnkaaDoor.Pure
open Go Go.RowKit Go.Proofs.YteaehlkpghpnkaaDoor.PH Go.Proofs.YteaehlkpghpnkaaDoorW.PrintWords Go.Proofs.YteaehlkpghpnkaaDoorW.PrintLast
theorem great9_spec (c0 c1 c2 c3 c4 : Int) (t5 t6 t7 t8 t9 t10 t11 t12 t13 t14 : ByteArray) (ht5 : t5.size ≤ 140737488351232) (ht6 : t6.size ≤ 140737488351232) (ht7 : t7.size ≤ 140737488351232) (ht8 : t8.size ≤ 140737488351232) (ht9 : t9.size ≤ 140737488351232) (ht10 : t10.size ≤ 140737488351232) (ht11 : t11.size ≤ 140737488351232) (ht12 : t12.size ≤ 140737488351232) (ht13 : t13.size ≤ 140737488351232) (ht14 : t14.size ≤ 140737488351232) :
    lamplighterlaw09_great.f c0 c1 c2 c3 c4 t5 t6 t7 t8 t9 t10 t11 t12 t13 t14 = some (decide ((t5.size : Int) + (t6.size : Int) + (t7.size : Int) + (t8.size : Int) + (t9.size : Int) + (t10.size : Int) + (t11.size : Int) + (t12.size : Int) + (t13.size : Int) + (t14.size : Int) > 3000)) := by
  unfold lamplighterlaw09_great.f
  have r0 : -9223372036854775808 ≤ (t5.size : Int) + (t6.size : Int) ∧ (t5.size : Int) + (t6.size : Int) ≤ 9223372036854775807 := by omega
  have r1 : -9223372036854775808 ≤ (t5.size : Int) + (t6.size : Int) + (t7.size : Int) ∧ (t5.size : Int) + (t6.size : Int) + (t7.size : Int) ≤ 9223372036854775807 := by omega
  have r2 : -9223372036854775808 ≤ (t5.size : Int) + (t6.size : Int) + (t7.size : Int) + (t8.size : Int) ∧ (t5.size : Int) + (t6.size : Int) + (t7.size : Int) + (t8.size : Int) ≤ 9223372036854775807 := by omega
  have r3 : -9223372036854775808 ≤ (t5.size : Int) + (t6.size : Int) + (t7.size : Int) + (t8.size : Int) + (t9.size : Int) ∧ (t5.size : Int) + (t6.size : Int) + (t7.size : Int) + (t8.size : Int) + (t9.size : Int) ≤ 9223372036854775807 := by omega
  have r4 : -9223372036854775808 ≤ (t5.size : Int) + (t6.size : Int) + (t7.size : Int) + (t8.size : Int) + (t9.size : Int) + (t10.size : Int) ∧ (t5.size : Int) + (t6.size : Int) + (t7.size : Int) + (t8.size : Int) + (t9.size : Int) + (t10.size : Int) ≤ 9223372036854775807 := by omega
  have r5 : -9223372036854775808 ≤ (t5.size : Int) + (t6.size : Int) + (t7.size : Int) + (t8.size : Int) + (t9.size : Int) + (t10.size : Int) + (t11.size : Int) ∧ (t5.size : Int) + (t6.size : Int) + (t7.size : Int) + (t8.size : Int) + (t9.size : Int) + (t10.size : Int) + (t11.size : Int) ≤ 9223372036854775807 := by omega
  have r6 : -9223372036854775808 ≤ (t5.size : Int) + (t6.size : Int) + (t7.size : Int) + (t8.size : Int) + (t9.size : Int) + (t10.size : Int) + (t11.size : Int) + (t12.size : Int) ∧ (t5.size : Int) + (t6.size : Int) + (t7.size : Int) + (t8.size : Int) + (t9.size : Int) + (t10.size : Int) + (t11.size : Int) + (t12.size : Int) ≤ 9223372036854775807 := by omega
  have r7 : -9223372036854775808 ≤ (t5.size : Int) + (t6.size : Int) + (t7.size : Int) + (t8.size : Int) + (t9.size : Int) + (t10.size : Int) + (t11.size : Int) + (t12.size : Int) + (t13.size : Int) ∧ (t5.size : Int) + (t6.size : Int) + (t7.size : Int) + (t8.size : Int) + (t9.size : Int) + (t10.size : Int) + (t11.size : Int) + (t12.size : Int) + (t13.size : Int) ≤ 9223372036854775807 := by omega
  have r8 : -9223372036854775808 ≤ (t5.size : Int) + (t6.size : Int) + (t7.size : Int) + (t8.size : Int) + (t9.size : Int) + (t10.size : Int) + (t11.size : Int) + (t12.size : Int) + (t13.size : Int) + (t14.size : Int) ∧ (t5.size : Int) + (t6.size : Int) + (t7.size : Int) + (t8.size : Int) + (t9.size : Int) + (t10.size : Int) + (t11.size : Int) + (t12.size : Int) + (t13.size : Int) + (t14.size : Int) ≤ 9223372036854775807 := by omega
  have w0 := wrap_fit r0.1 r0.2
  have w1 := wrap_fit r1.1 r1.2
  have w2 := wrap_fit r2.1 r2.2
  have w3 := wrap_fit r3.1 r3.2
  have w4 := wrap_fit r4.1 r4.2
  have w5 := wrap_fit r5.1 r5.2
  have w6 := wrap_fit r6.1 r6.2
  have w7 := wrap_fit r7.1 r7.2
  have w8 := wrap_fit r8.1 r8.2
  rw [w0, w1, w2, w3, w4, w5, w6, w7, w8]
end Go.Proofs.YteaehlkpghpnkaaDoor.Pure
