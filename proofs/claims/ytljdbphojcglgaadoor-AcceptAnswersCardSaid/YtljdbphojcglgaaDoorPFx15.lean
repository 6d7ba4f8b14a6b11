import Derived.Test.YtljdbphojcglgaaDoorPFx0
import Derived.Test.YtljdbphojcglgaaDoorPFx7
import Derived.Test.YtljdbphojcglgaaDoorPFx14
namespace Go.Proofs.YtljdbphojcglgaaDoor.PF
open Go.RowKit Go.Proofs.YtljdbphojcglgaaDoorW.PrintWords Go.Proofs.YtljdbphojcglgaaDoorW.PrintLast Go.Proofs.YtljdbphojcglgaaDoorW.PrintMore
set_option maxHeartbeats 16000000
set_option maxRecDepth 100000
attribute [local go_sem] max2_int min2_int max_two min_two max_three min_three max_four min_four
set_option linter.unusedVariables false
set_option linter.unusedSimpArgs false

/-! ### lamplighterlaw11_alive: function 4 -/
/-- The example's answer, and nothing else. -/
def lamplighterlaw11_alive.f (k : Nat) : Option (Bool) :=
 (accept_Verdict.f k [77,83,72,124,94,126,92,38,124,124,124,124,124,124,124,65,68,84,124,55,124,80,124,50,46,53]).bind fun a=>(accept_Verdict.f k [77,83,72,124,94,126,92,38,124,124,124,124,124,124,124,65,68,84,124,55,124,80,124,57]).bind fun b=>(accept_Reply.f k [77,83,72,124,94,126,92,38,124,124,124,124,124,124,124,65,68,84,124,55,124,80,124,50,46,53] false).bind fun c =>
  if a.2.2.2.2.2.2.2.2.2.2.2.2.2.2.2.2=0∧a.2.2.2.2.2.2.2.2.2.2.2.2.2.2.2.1=⟨#[65,65]⟩∧b.2.2.2.2.2.2.2.2.2.2.2.2.2.2.2.2=12∧b.2.2.2.2.2.2.2.2.2.2.2.2.2.2.2.1=⟨#[65,82]⟩∧c.2=true∧c.1=[11,77,83,72,124,94,126,92,38,124,124,124,124,124,124,124,65,67,75,124,55,124,80,124,50,46,53,13,77,83,65,124,65,69,124,55,13,28,13] then some true else none
theorem lamplighterlaw11_alive.mono : ∀ k,LeO (lamplighterlaw11_alive.f k) (lamplighterlaw11_alive.f (k + 1)):=by
 intro k
 unfold lamplighterlaw11_alive.f
 repeat' first
   | (with_reducible exact accept_Verdict.mono _ _)
   | (with_reducible exact accept_Reply.mono _ _ _)
   | (with_reducible exact LeO.refl _)
   | (with_reducible refine LeO.ite ?_ ?_)
   | (with_reducible refine LeO.bind ?_ (fun _=>?_))
theorem lamplighterlaw11_alive.calls (k : Nat) (r : Bool) (w : World) (h : lamplighterlaw11_alive.f k=some r) (hG : GlobOK w) (hGC : GlobC w) (hGE : GlobE w) :
  Calls Tryd.prog 4 #[] w fun e w'=>e = .returned (.bool r)∧Below w.heap.size w w':=by
 have HG:=Lib.hid hG
 have HGC:=Lib.hid hGC
 have HGE:=Lib.hid hGE
 clear hG hGC hGE
 unfold lamplighterlaw11_alive.f at h
 obtain ⟨⟨x1,x2,x3,x4,x5,x6,x7,x8,x9,x10,x11,x12,x13,x14,x15,x16,x17⟩,h1,h⟩:=Option.bind_eq_some_iff.1 h
 obtain ⟨⟨y1,y2,y3,y4,y5,y6,y7,y8,y9,y10,y11,y12,y13,y14,y15,y16,y17⟩,h2,h⟩:=Option.bind_eq_some_iff.1 h
 obtain ⟨⟨z1,z2⟩,h3,h⟩:=Option.bind_eq_some_iff.1 h
 dsimp only at h
 split at h
 case isFalse=>cases h
 rename_i hcond
 obtain rfl:=Option.some.inj h
 obtain ⟨rfl,rfl,rfl,rfl,rfl,rfl⟩:=hcond
 clear h
 have HX:=Lib.hid h1
 have HY:=Lib.hid h2
 have HZ:=Lib.hid h3
 clear h1 h2 h3
 have hs:strOfNums [11,77,83,72,124,94,126,92,38,124,124,124,124,124,124,124,65,67,75,124,55,124,80,124,50,46,53,13,77,83,65,124,65,69,124,55,13,28,13]=(⟨#[11,77,83,72,124,94,126,92,38,124,124,124,124,124,124,124,65,67,75,124,55,124,80,124,50,46,53,13,77,83,65,124,65,69,124,55,13,28,13]⟩ : ByteArray):=by decide +kernel
 have HSTR:=Lib.hid hs
 clear hs
 go_enter Tryd.func4,Tryd.ntmps4
 go_wp2_with (first | ((with_reducible refine gate_dst (N:=11) rfl ?_); refine goesLit_ (n:=26) rfl rfl rfl rfl (by first | rfl | simp) ?_; refine (conv_lit (P:=Tryd.prog) Tryd.underlying22 Tryd.underlying5 [77,83,72,124,94,126,92,38,124,124,124,124,124,124,124,65,68,84,124,55,124,80,124,50,46,53] (by decide)).mono ?_; rintro e w1 ⟨v,rfl,hV,hb1⟩; refine ⟨_,rfl,?_⟩; have HV:=Lib.hid hV; have HB1:=Lib.hid hb1; clear hV hb1; obtain ⟨A1,c1,ev⟩:=Kd.V_slice HV.out; subst ev) | fail)
 refine (accept_Verdict.calls k A1 c1 [77,83,72,124,94,126,92,38,124,124,124,124,124,124,124,65,68,84,124,55,124,80,124,50,46,53] x1 x2 x3 x4 x5 x6 x7 x8 x9 x10 x11 x12 x13 x14 x15 _ _ _ (Kd.V_reads' HV.out).2.2 (Kd.V_reads' HV.out).2.1 HX.out (glob_below HG.out HB1.out)).mono ?_
 rintro e w2 ⟨rfl,hb2⟩
 have V1:=Lib.hid (Kd.V_below HV.out hb2)
 have HB:=Lib.hid (below_step HB1.out hb2)
 clear hb2 HV HB1
 go_wp2_with (first | ((with_reducible refine gate_dst (N:=20) rfl ?_); refine goesLit_ (n:=24) rfl rfl rfl rfl (by first | rfl | simp) ?_; refine (conv_lit (P:=Tryd.prog) Tryd.underlying22 Tryd.underlying5 [77,83,72,124,94,126,92,38,124,124,124,124,124,124,124,65,68,84,124,55,124,80,124,57] (by decide)).mono ?_; rintro e w3 ⟨v,rfl,hV3,hb3⟩; refine ⟨_,rfl,?_⟩; have HV2:=Lib.hid hV3; have HB2:=Lib.hid hb3; clear hV3 hb3; obtain ⟨A2,c2,ev⟩:=Kd.V_slice HV2.out; subst ev) | fail)
 have VL:=Lib.hid (Kd.V_below (Kd.V_below V1.out ((Below.refl _ _).alloc (Nat.le_refl _) _)) HB2.out)
 have HB3:=Lib.hid (below_step (HB.out.alloc HB.out.size _) HB2.out)
 clear V1 HB HB2
 refine (accept_Verdict.calls k A2 c2 [77,83,72,124,94,126,92,38,124,124,124,124,124,124,124,65,68,84,124,55,124,80,124,57] y1 y2 y3 y4 y5 y6 y7 y8 y9 y10 y11 y12 y13 y14 y15 _ _ _ (Kd.V_reads' HV2.out).2.2 (Kd.V_reads' HV2.out).2.1 HY.out (glob_below HG.out HB3.out)).mono ?_
 rintro e w4 ⟨rfl,hb4⟩
 have V4:=Lib.hid (Kd.V_below VL.out hb4)
 have HB4:=Lib.hid (below_step HB3.out hb4)
 clear hb4 HV2 VL HB3
 go_wp2_with fail
 have HB5:=Lib.hid (HB4.out.alloc HB4.out.size (.cells #[.int .u8 y1, .int .u8 y2, .int .u8 y3, .int .u8 y4, .int .u8 y5, .string y6, .string y7, .string y8, .string y9, .string y10, .string y11, .string y12, .string y13, .string y14, .string y15] 27))
 have V5:=Lib.hid (Kd.V_below V4.out ((Below.refl w4.heap.size w4).alloc (Nat.le_refl _) (.cells #[.int .u8 y1, .int .u8 y2, .int .u8 y3, .int .u8 y4, .int .u8 y5, .string y6, .string y7, .string y8, .string y9, .string y10, .string y11, .string y12, .string y13, .string y14, .string y15] 27)))
 refine (accept_Reply.calls k A1 c1 [77,83,72,124,94,126,92,38,124,124,124,124,124,124,124,65,68,84,124,55,124,80,124,50,46,53] false _ _ _ (Kd.V_reads' V5.out).2.2 (Kd.V_reads' V5.out).2.1 HZ.out (glob_below HG.out HB5.out) (globc_below HGC.out HB5.out) (globe_below HGE.out HB5.out)).mono ?_
 rintro e w5 ⟨v0,rfl,hR,hb5⟩
 have HB6:=Lib.hid (below_step HB5.out hb5)
 have hcv:=own_string (P:=Tryd.prog) Tryd.underlying22 Tryd.underlying5 Tryd.underlying9 (Kd.own_of_R hR)
 rw [HSTR.out] at hcv
 clear hb5 V4 V5 HB4 HB5 hR
 go_wp2_with fail
 go_ret
 exact ⟨by first | rfl | (simp; done),by repeat (first | exact HB6.out | apply bA | apply bN | apply bD)⟩


end Go.Proofs.YtljdbphojcglgaaDoor.PF
