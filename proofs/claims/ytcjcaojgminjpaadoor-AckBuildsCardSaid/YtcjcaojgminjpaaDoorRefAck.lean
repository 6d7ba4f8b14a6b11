/- What answers are as the document builds them, over lists of bytes; conditions: texts of at most 10000 bytes together, fuel for a step each. -/
import Derived.Test.YtcjcaojgminjpaaDoorPDx14
import Derived.Test.YtcjcaojgminjpaaDoorPDx16
import Derived.Test.YtcjcaojgminjpaaDoorRefKnown10
import Derived.Test.YtcjcaojgminjpaaDoorRefWrite9
import Derived.Test.YtcjcaojgminjpaaDoorRefMake8
import Derived.Test.YtcjcaojgminjpaaDoorRefJoin8
namespace Go.Proofs.YtcjcaojgminjpaaDoor.Pure
open Go Go.RowKit Go.Proofs.YtcjcaojgminjpaaDoor.PD Go.Proofs.YtcjcaojgminjpaaDoorW.PrintWords Go.Proofs.YtcjcaojgminjpaaDoorW.PrintLast
theorem refBuild_spec (k : Nat) (hk : 40000≤k) (c c1 c2 c3 c4 : Int) (t5 t6 t7 t8 t9 t10 t11 t12 t13 t14 code : ByteArray) (hb : t5.size + t6.size + t7.size + t8.size + t9.size + t12.size + t13.size + t14.size≤9000) (hcode : code.size≤1000) (hc : IsByte c) :
    lamplighterref10_Build.f k c c1 c2 c3 c4 t5 t6 t7 t8 t9 t10 t11 t12 t13 t14 code=some (strOf (buildOf c c1 c2 c3 c4 t5 t6 t7 t8 t9 t12 t13 t14 code).1,(buildOf c c1 c2 c3 c4 t5 t6 t7 t8 t9 t12 t13 t14 code).2):=by
  have hA : (⟨#[65,67,75]⟩ : ByteArray)=ACK:=rfl
  have hAs:ACK.size=3:=rfl
  have h0s : (⟨#[]⟩ : ByteArray).size=0:=rfl
  have hbk:bulkOf [t7,t8,t5,t6,t9,⟨#[]⟩,ACK,t12,t13,t14]≤9010 + 3:=bulk10 (n:=9003) (by omega)
  have hws:=write_size c c1 c2 c3 c4 [t7,t8,t5,t6,t9,⟨#[]⟩,ACK,t12,t13,t14] (by omega)
  have hms:=msa_length c code t12
  unfold lamplighterref10_Build.f
  rw [refKnows_spec code,Option.bind_some,hA,refWrite_spec k (by omega) c c1 c2 c3 c4 t7 t8 t5 t6 t9 ⟨#[]⟩ ACK t12 t13 t14 (by omega) hc]
  unfold buildOf
  by_cases h1 : code.data.toList ∈ codeB
  · rw [if_pos (decide_eq_true h1),if_pos h1,Option.bind_some]
    by_cases h2 : (writeOf c c1 c2 c3 c4 [t7,t8,t5,t6,t9,⟨#[]⟩,ACK,t12,t13,t14]).2=0
    · rw [if_pos h2,if_pos h2,show (⟨#[77,83,65]⟩ : ByteArray)=strOf MSA from rfl,refMake_spec k c c1 c2 c3 c4 MSA [code,t12] (by decide) (by rw [two_bulk]; omega) (by show 2 < k; omega),Option.bind_some,
        refJoin_spec k _ (by rw [two_bulk,strOf_size]; unfold msaOf at hms; omega) (by show 2 < k; omega),Option.bind_some]
      rfl
    · rw [if_neg h2,if_neg h2]
      rfl
  · rw [if_neg (by rw [decide_eq_true_eq]; exact h1),if_neg h1]
    rfl
end Go.Proofs.YtcjcaojgminjpaaDoor.Pure
