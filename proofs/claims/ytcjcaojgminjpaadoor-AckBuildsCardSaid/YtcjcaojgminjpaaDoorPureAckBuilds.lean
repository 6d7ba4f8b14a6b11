/- The law AckBuilds as a statement over five signs, ten texts and a code: the answer is the document's, or why there is none; conditions: the signs are bytes, the texts are such as memory bears. -/
import Derived.Test.YtcjcaojgminjpaaDoorPDx16
import Derived.Test.YtcjcaojgminjpaaDoorAlive10
import Derived.Test.YtcjcaojgminjpaaDoorRefAck
import Derived.Test.YtcjcaojgminjpaaDoorGreat10
namespace Go.Proofs.YtcjcaojgminjpaaDoor.Pure
open Go Go.RowKit Go.Proofs.YtcjcaojgminjpaaDoor.PD Go.Proofs.YtcjcaojgminjpaaDoorW.PrintWords Go.Proofs.YtcjcaojgminjpaaDoorW.PrintLast
theorem AckBuilds (c0 c1 c2 c3 c4 : Int) (t5 t6 t7 t8 t9 t10 t11 t12 t13 t14 : ByteArray) (code : ByteArray) (hc0 : IsByte c0) (hc1 : IsByte c1) (hc2 : IsByte c2) (hc3 : IsByte c3) (hc4 : IsByte c4) (ht5 : t5.size≤140737488351232) (ht6 : t6.size≤140737488351232) (ht7 : t7.size≤140737488351232) (ht8 : t8.size≤140737488351232) (ht9 : t9.size≤140737488351232) (ht10 : t10.size≤140737488351232) (ht11 : t11.size≤140737488351232) (ht12 : t12.size≤140737488351232) (ht13 : t13.size≤140737488351232) (ht14 : t14.size≤140737488351232) (_hcode : code.size≤140737488351232) : ∃ k,lamplighterlaw10_AckBuilds.f k c0 c1 c2 c3 c4 t5 t6 t7 t8 t9 t10 t11 t12 t13 t14 code=some true:=by
  refine ⟨60001,?_⟩
  unfold lamplighterlaw10_AckBuilds.f
  rw [great10_spec c0 c1 c2 c3 c4 t5 t6 t7 t8 t9 t10 t11 t12 t13 t14 ht5 ht6 ht7 ht8 ht9 ht10 ht11 ht12 ht13 ht14,Option.bind_some]
  by_cases hg : (t5.size : Int) + (t6.size : Int) + (t7.size : Int) + (t8.size : Int) + (t9.size : Int) + (t10.size : Int) + (t11.size : Int) + (t12.size : Int) + (t13.size : Int) + (t14.size : Int) > 2000
  · rw [if_pos (decide_eq_true hg),lamplighterlaw10_AckBuilds.j0,if_pos rfl,alive10_is 60000 (by decide)]
    rfl
  · rw [if_neg (by rw [decide_eq_true_eq]; exact hg),lamplighterlaw10_AckBuilds.j0]
    by_cases hs : (code.size : Int) > 500
    · rw [if_pos (decide_eq_true hs),alive10_is 60000 (by decide)]
      rfl
    · have hb:t5.size + t6.size + t7.size + t8.size + t9.size + t12.size + t13.size + t14.size≤9000:=by omega
      have hcd:ack_Codes.f=some codesL:=rfl
      rw [if_neg (by rw [decide_eq_true_eq]; exact hs),Build_spec 60000 (by decide) c0 c1 c2 c3 c4 t5 t6 t7 t8 t9 t10 t11 t12 t13 t14 code hb (by omega) hc0 hc1 hc2 hc3 hc4,Option.bind_some,refBuild_spec 60000 (by decide) c0 c1 c2 c3 c4 t5 t6 t7 t8 t9 t10 t11 t12 t13 t14 code hb (by omega) hc0,Option.bind_some,hcd,Option.bind_some,alive10_is 60000 (by decide),Option.bind_some,if_pos rfl]
      dsimp only
      rw [str_numsOf,if_pos rfl,if_pos rfl,knows_spec 60000 (by decide),Option.bind_some,refKnows_spec,Option.bind_some,beq_self_eq_true,if_pos rfl]
      have hl : ((codesL.length : Nat) : Int)=3:=rfl
      rw [hl,if_pos rfl,if_pos (by decide)]
      have r0:rdOf ByteArray.empty codesL 0=strOf [65,65]:=rfl
      have r1:rdOf ByteArray.empty codesL 1=strOf [65,69]:=rfl
      have r2:rdOf ByteArray.empty codesL 2=strOf [65,82]:=rfl
      rw [r0,r1,r2,strOf_list,strOf_list,strOf_list,if_pos rfl,if_pos (by decide),if_pos rfl,if_pos (by decide)]
      rfl
end Go.Proofs.YtcjcaojgminjpaaDoor.Pure
