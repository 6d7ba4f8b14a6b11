import Derived.Test.YtljdbphojcglgaaDoorPFx0
import Derived.Test.YtljdbphojcglgaaDoorPFx7
import Derived.Test.YtljdbphojcglgaaDoorPFx9
import Derived.Test.YtljdbphojcglgaaDoorPFx12
import Derived.Test.YtljdbphojcglgaaDoorPFx13
namespace Go.Proofs.YtljdbphojcglgaaDoor.PF
open Go.RowKit Go.Proofs.YtljdbphojcglgaaDoorW.PrintWords Go.Proofs.YtljdbphojcglgaaDoorW.PrintLast Go.Proofs.YtljdbphojcglgaaDoorW.PrintMore
set_option maxHeartbeats 8000000
set_option maxRecDepth 100000
attribute [local go_sem] max2_int min2_int max_two min_two max_three min_three max_four min_four
set_option linter.unusedVariables false
set_option linter.unusedSimpArgs false

/-! ### accept_Reply: function 6 -/
mutual
def accept_Reply.j0 : Nat→Bool→ByteArray→Bool→Int→Int→Int→Int→Int→ByteArray→ByteArray→ByteArray→ByteArray→ByteArray→ByteArray→ByteArray→ByteArray→ByteArray→ByteArray→Option (List Int × Bool)
 | 0,_,_,_,_,_,_,_,_,_,_,_,_,_,_,_,_,_,_=>none
 | k + 1,x1,x7,x24,x236000,x236001,x236002,x236003,x236004,x236005,x236006,x236007,x236008,x236009,x236010,x236011,x236012,x236013,x236014=>if x24=true then (some (([] : List Int),false)) else (if x7.toList=([65,65] : List UInt8) then (accept_Reply.j1 k x7 (!x1) x236000 x236001 x236002 x236003 x236004 x236005 x236006 x236007 x236008 x236009 x236010 x236011 x236012 x236013 x236014) else (accept_Reply.j1 k x7 false x236000 x236001 x236002 x236003 x236004 x236005 x236006 x236007 x236008 x236009 x236010 x236011 x236012 x236013 x236014))
def accept_Reply.j1 : Nat→ByteArray→Bool→Int→Int→Int→Int→Int→ByteArray→ByteArray→ByteArray→ByteArray→ByteArray→ByteArray→ByteArray→ByteArray→ByteArray→ByteArray→Option (List Int × Bool)
 | 0,_,_,_,_,_,_,_,_,_,_,_,_,_,_,_,_,_=>none
 | k + 1,x7,x30,x236000,x236001,x236002,x236003,x236004,x236005,x236006,x236007,x236008,x236009,x236010,x236011,x236012,x236013,x236014=>if x30=true then (accept_Reply.j2 k (⟨#[65,69]⟩ : ByteArray) x236000 x236001 x236002 x236003 x236004 x236005 x236006 x236007 x236008 x236009 x236010 x236011 x236012 x236013 x236014) else (accept_Reply.j2 k x7 x236000 x236001 x236002 x236003 x236004 x236005 x236006 x236007 x236008 x236009 x236010 x236011 x236012 x236013 x236014)
def accept_Reply.j2 : Nat→ByteArray→Int→Int→Int→Int→Int→ByteArray→ByteArray→ByteArray→ByteArray→ByteArray→ByteArray→ByteArray→ByteArray→ByteArray→ByteArray→Option (List Int × Bool)
 | 0,_,_,_,_,_,_,_,_,_,_,_,_,_,_,_,_=>none
 | k + 1,x7,x236000,x236001,x236002,x236003,x236004,x236005,x236006,x236007,x236008,x236009,x236010,x236011,x236012,x236013,x236014=>(ack_Build.f k x236000 x236001 x236002 x236003 x236004 x236005 x236006 x236007 x236008 x236009 x236010 x236011 x236012 x236013 x236014 x7).bind fun bt237=>(if bt237.2=0 then ((frame_Wrap.f bt237.1).bind fun bt241=>(some (bt241.1,(bt241.2 == 0)))) else (some (([] : List Int),false)))
end
def accept_Reply.f (k : Nat) (l0 : List Int) (a1 : Bool) : Option (List Int × Bool):=(accept_Verdict.f k l0).bind fun bt218=>(if bt218.2.2.2.2.2.2.2.2.2.2.2.2.2.2.2.1.toList=([] : List UInt8) then (accept_Reply.j0 k a1 bt218.2.2.2.2.2.2.2.2.2.2.2.2.2.2.2.1 true bt218.1 bt218.2.1 bt218.2.2.1 bt218.2.2.2.1 bt218.2.2.2.2.1 bt218.2.2.2.2.2.1 bt218.2.2.2.2.2.2.1 bt218.2.2.2.2.2.2.2.1 bt218.2.2.2.2.2.2.2.2.1 bt218.2.2.2.2.2.2.2.2.2.1 bt218.2.2.2.2.2.2.2.2.2.2.1 bt218.2.2.2.2.2.2.2.2.2.2.2.1 bt218.2.2.2.2.2.2.2.2.2.2.2.2.1 bt218.2.2.2.2.2.2.2.2.2.2.2.2.2.1 bt218.2.2.2.2.2.2.2.2.2.2.2.2.2.2.1) else ((frame_Good.f l0).bind fun t236=>(accept_Reply.j0 k a1 bt218.2.2.2.2.2.2.2.2.2.2.2.2.2.2.2.1 (!t236) bt218.1 bt218.2.1 bt218.2.2.1 bt218.2.2.2.1 bt218.2.2.2.2.1 bt218.2.2.2.2.2.1 bt218.2.2.2.2.2.2.1 bt218.2.2.2.2.2.2.2.1 bt218.2.2.2.2.2.2.2.2.1 bt218.2.2.2.2.2.2.2.2.2.1 bt218.2.2.2.2.2.2.2.2.2.2.1 bt218.2.2.2.2.2.2.2.2.2.2.2.1 bt218.2.2.2.2.2.2.2.2.2.2.2.2.1 bt218.2.2.2.2.2.2.2.2.2.2.2.2.2.1 bt218.2.2.2.2.2.2.2.2.2.2.2.2.2.2.1)))
theorem accept_Reply.mono_l : ∀ k,(∀ y0 y1 y2 y3 y4 y5 y6 y7 y8 y9 y10 y11 y12 y13 y14 y15 y16 y17,LeO (accept_Reply.j0 k y0 y1 y2 y3 y4 y5 y6 y7 y8 y9 y10 y11 y12 y13 y14 y15 y16 y17) (accept_Reply.j0 (k + 1) y0 y1 y2 y3 y4 y5 y6 y7 y8 y9 y10 y11 y12 y13 y14 y15 y16 y17))∧(∀ y0 y1 y2 y3 y4 y5 y6 y7 y8 y9 y10 y11 y12 y13 y14 y15 y16,LeO (accept_Reply.j1 k y0 y1 y2 y3 y4 y5 y6 y7 y8 y9 y10 y11 y12 y13 y14 y15 y16) (accept_Reply.j1 (k + 1) y0 y1 y2 y3 y4 y5 y6 y7 y8 y9 y10 y11 y12 y13 y14 y15 y16))∧(∀ y0 y1 y2 y3 y4 y5 y6 y7 y8 y9 y10 y11 y12 y13 y14 y15,LeO (accept_Reply.j2 k y0 y1 y2 y3 y4 y5 y6 y7 y8 y9 y10 y11 y12 y13 y14 y15) (accept_Reply.j2 (k + 1) y0 y1 y2 y3 y4 y5 y6 y7 y8 y9 y10 y11 y12 y13 y14 y15))
 | 0=>⟨fun _ _ _ _ _ _ _ _ _ _ _ _ _ _ _ _ _ _ r h=>by simp [accept_Reply.j0] at h,fun _ _ _ _ _ _ _ _ _ _ _ _ _ _ _ _ _ r h=>by simp [accept_Reply.j1] at h,fun _ _ _ _ _ _ _ _ _ _ _ _ _ _ _ _ r h=>by simp [accept_Reply.j2] at h⟩
 | k + 1=>by
  obtain ⟨ih0,ih1,ih2⟩:=accept_Reply.mono_l k
  refine ⟨?_,?_,?_⟩
  ·intro y0 y1 y2 y3 y4 y5 y6 y7 y8 y9 y10 y11 y12 y13 y14 y15 y16 y17
   unfold accept_Reply.j0
   repeat' first
   | (with_reducible exact ih0 _ _ _ _ _ _ _ _ _ _ _ _ _ _ _ _ _ _)
   | (with_reducible exact ih1 _ _ _ _ _ _ _ _ _ _ _ _ _ _ _ _ _)
   | (with_reducible exact ih2 _ _ _ _ _ _ _ _ _ _ _ _ _ _ _ _)
   | (with_reducible exact accept_Verdict.mono _ _)
   | (with_reducible exact ack_Build.mono _ _ _ _ _ _ _ _ _ _ _ _ _ _ _ _ _)
   | (with_reducible exact LeO.refl _)
   | (with_reducible exact LeO.none _)
   | (with_reducible refine LeO.ite ?_ ?_)
   | (with_reducible refine LeO.bind ?_ (fun _=>?_))
   | exact ih0 _ _ _ _ _ _ _ _ _ _ _ _ _ _ _ _ _ _
   | exact ih1 _ _ _ _ _ _ _ _ _ _ _ _ _ _ _ _ _
   | exact ih2 _ _ _ _ _ _ _ _ _ _ _ _ _ _ _ _
   | exact accept_Verdict.mono _ _
   | exact ack_Build.mono _ _ _ _ _ _ _ _ _ _ _ _ _ _ _ _ _
   | exact LeO.none _
   | refine LeO.ite ?_ ?_
   | refine LeO.bind ?_ (fun _=>?_)
  ·intro y0 y1 y2 y3 y4 y5 y6 y7 y8 y9 y10 y11 y12 y13 y14 y15 y16
   unfold accept_Reply.j1
   repeat' first
   | (with_reducible exact ih0 _ _ _ _ _ _ _ _ _ _ _ _ _ _ _ _ _ _)
   | (with_reducible exact ih1 _ _ _ _ _ _ _ _ _ _ _ _ _ _ _ _ _)
   | (with_reducible exact ih2 _ _ _ _ _ _ _ _ _ _ _ _ _ _ _ _)
   | (with_reducible exact accept_Verdict.mono _ _)
   | (with_reducible exact ack_Build.mono _ _ _ _ _ _ _ _ _ _ _ _ _ _ _ _ _)
   | (with_reducible exact LeO.refl _)
   | (with_reducible exact LeO.none _)
   | (with_reducible refine LeO.ite ?_ ?_)
   | (with_reducible refine LeO.bind ?_ (fun _=>?_))
   | exact ih0 _ _ _ _ _ _ _ _ _ _ _ _ _ _ _ _ _ _
   | exact ih1 _ _ _ _ _ _ _ _ _ _ _ _ _ _ _ _ _
   | exact ih2 _ _ _ _ _ _ _ _ _ _ _ _ _ _ _ _
   | exact accept_Verdict.mono _ _
   | exact ack_Build.mono _ _ _ _ _ _ _ _ _ _ _ _ _ _ _ _ _
   | exact LeO.none _
   | refine LeO.ite ?_ ?_
   | refine LeO.bind ?_ (fun _=>?_)
  ·intro y0 y1 y2 y3 y4 y5 y6 y7 y8 y9 y10 y11 y12 y13 y14 y15
   unfold accept_Reply.j2
   repeat' first
   | (with_reducible exact ih0 _ _ _ _ _ _ _ _ _ _ _ _ _ _ _ _ _ _)
   | (with_reducible exact ih1 _ _ _ _ _ _ _ _ _ _ _ _ _ _ _ _ _)
   | (with_reducible exact ih2 _ _ _ _ _ _ _ _ _ _ _ _ _ _ _ _)
   | (with_reducible exact accept_Verdict.mono _ _)
   | (with_reducible exact ack_Build.mono _ _ _ _ _ _ _ _ _ _ _ _ _ _ _ _ _)
   | (with_reducible exact LeO.refl _)
   | (with_reducible exact LeO.none _)
   | (with_reducible refine LeO.ite ?_ ?_)
   | (with_reducible refine LeO.bind ?_ (fun _=>?_))
   | exact ih0 _ _ _ _ _ _ _ _ _ _ _ _ _ _ _ _ _ _
   | exact ih1 _ _ _ _ _ _ _ _ _ _ _ _ _ _ _ _ _
   | exact ih2 _ _ _ _ _ _ _ _ _ _ _ _ _ _ _ _
   | exact accept_Verdict.mono _ _
   | exact ack_Build.mono _ _ _ _ _ _ _ _ _ _ _ _ _ _ _ _ _
   | exact LeO.none _
   | refine LeO.ite ?_ ?_
   | refine LeO.bind ?_ (fun _=>?_)
theorem accept_Reply.mono : ∀ a0 a1 k,LeO (accept_Reply.f k a0 a1) (accept_Reply.f (k + 1) a0 a1):=by
 intro a0 a1 k
 obtain ⟨ih0,ih1,ih2⟩:=accept_Reply.mono_l k
 unfold accept_Reply.f
 repeat' first
   | (with_reducible exact ih0 _ _ _ _ _ _ _ _ _ _ _ _ _ _ _ _ _ _)
   | (with_reducible exact ih1 _ _ _ _ _ _ _ _ _ _ _ _ _ _ _ _ _)
   | (with_reducible exact ih2 _ _ _ _ _ _ _ _ _ _ _ _ _ _ _ _)
   | (with_reducible exact accept_Verdict.mono _ _)
   | (with_reducible exact ack_Build.mono _ _ _ _ _ _ _ _ _ _ _ _ _ _ _ _ _)
   | (with_reducible exact LeO.refl _)
   | (with_reducible exact LeO.none _)
   | (with_reducible refine LeO.ite ?_ ?_)
   | (with_reducible refine LeO.bind ?_ (fun _=>?_))
   | exact ih0 _ _ _ _ _ _ _ _ _ _ _ _ _ _ _ _ _ _
   | exact ih1 _ _ _ _ _ _ _ _ _ _ _ _ _ _ _ _ _
   | exact ih2 _ _ _ _ _ _ _ _ _ _ _ _ _ _ _ _
   | exact accept_Verdict.mono _ _
   | exact ack_Build.mono _ _ _ _ _ _ _ _ _ _ _ _ _ _ _ _ _
   | exact LeO.none _
   | refine LeO.ite ?_ ?_
   | refine LeO.bind ?_ (fun _=>?_)
theorem accept_Reply.calls (k : Nat) (A0 : Option Addr) (c0 : Nat) (l0 : List Int) (a1 : Bool) (r1 : List Int) (r2 : Bool) (w : World) (hr0 : Kd.C (Kd.int .u8) w A0 l0.length l0) (hc0 : l0.length≤c0) (h : accept_Reply.f k l0 a1=some (r1,r2)) (hG : GlobOK w) (hGC : GlobC w) (hGE : GlobE w) :
  Calls Tryd.prog 6 #[.slice A0 l0.length c0, .bool a1] w fun e w' => ∃ v0_ : Value,e = .returned (.tuple #[v0_, .bool r2])∧Kd.R (Kd.int .u8) 5 w' w.heap.size (fun _=>True) v0_ r1∧Below w.heap.size w w':=by
 have HGLOB:=Lib.hid hG
 clear hG
 have HGLOC:=Lib.hid hGC
 clear hGC
 have HGLOE:=Lib.hid hGE
 clear hGE
 have hu27:=Tryd.underlying27
 have HR0:=Aside0.mk hr0
 have HC0:=Aside0.mk hc0
 clear hr0 hc0
 have HB:=Aside0.mk (Below.refl w.heap.size w)
 have H : ((accept_Verdict.f k l0).bind fun bt218=>(if bt218.2.2.2.2.2.2.2.2.2.2.2.2.2.2.2.1.toList=([] : List UInt8) then (accept_Reply.j0 k a1 bt218.2.2.2.2.2.2.2.2.2.2.2.2.2.2.2.1 true bt218.1 bt218.2.1 bt218.2.2.1 bt218.2.2.2.1 bt218.2.2.2.2.1 bt218.2.2.2.2.2.1 bt218.2.2.2.2.2.2.1 bt218.2.2.2.2.2.2.2.1 bt218.2.2.2.2.2.2.2.2.1 bt218.2.2.2.2.2.2.2.2.2.1 bt218.2.2.2.2.2.2.2.2.2.2.1 bt218.2.2.2.2.2.2.2.2.2.2.2.1 bt218.2.2.2.2.2.2.2.2.2.2.2.2.1 bt218.2.2.2.2.2.2.2.2.2.2.2.2.2.1 bt218.2.2.2.2.2.2.2.2.2.2.2.2.2.2.1) else ((frame_Good.f l0).bind fun t236=>(accept_Reply.j0 k a1 bt218.2.2.2.2.2.2.2.2.2.2.2.2.2.2.2.1 (!t236) bt218.1 bt218.2.1 bt218.2.2.1 bt218.2.2.2.1 bt218.2.2.2.2.1 bt218.2.2.2.2.2.1 bt218.2.2.2.2.2.2.1 bt218.2.2.2.2.2.2.2.1 bt218.2.2.2.2.2.2.2.2.1 bt218.2.2.2.2.2.2.2.2.2.1 bt218.2.2.2.2.2.2.2.2.2.2.1 bt218.2.2.2.2.2.2.2.2.2.2.2.1 bt218.2.2.2.2.2.2.2.2.2.2.2.2.1 bt218.2.2.2.2.2.2.2.2.2.2.2.2.2.1 bt218.2.2.2.2.2.2.2.2.2.2.2.2.2.2.1))))=some (r1,r2):=h
 clear h
 replace H:=Option.bind_eq_some_iff.mp H
 obtain ⟨⟨t218,t219,t220,t221,t222,t223,t224,t225,t226,t227,t228,t229,t230,t231,t232,t233,t234⟩,A30,H⟩:=H
 replace H : (if t233.toList=([] : List UInt8) then (accept_Reply.j0 k a1 t233 true t218 t219 t220 t221 t222 t223 t224 t225 t226 t227 t228 t229 t230 t231 t232) else ((frame_Good.f l0).bind fun t236=>(accept_Reply.j0 k a1 t233 (!t236) t218 t219 t220 t221 t222 t223 t224 t225 t226 t227 t228 t229 t230 t231 t232)))=some (r1,r2):=H
 have A3:=Aside0.mk A30
 clear A30
 have HC4:=Aside0.mk H
 clear H
 go_enter Tryd.func6,Tryd.ntmps6
 go_upto_region 2 with (first | ((with_reducible refine gate_callee (f:=5) rfl ?_); refine goesL_ (some 14) rfl rfl Tryd.func5 (by kernel_rfl) rfl #[.slice A0 l0.length c0] rfl (by (try simp only [List.map_toArray,List.map_cons,List.map_nil]); first | done | rfl | (simp only [List.length_drop,List.length_take]; rfl)) ?_; (with_reducible refine (accept_Verdict.calls k _ _ l0 t218 t219 t220 t221 t222 t223 t224 t225 t226 t227 t228 t229 t230 t231 t232 t233 t234 _ ?side1 ?side2 A3.out (glob_below HGLOB.out (by repeat (first | (with_reducible first | exact HB.out | apply bA | apply bN | apply bD) | exact HB.out)))).mono ?_); (case side1=>repeat (first | exact HR0.out | (with_reducible refine Kd.C_alloc ?_ _) | (with_reducible refine Kd.C_drewN ?_ _) | (with_reducible refine Kd.C_drew ?_))); (case side2=>exact HC0.out); rintro e w5 ⟨rfl,hb⟩; refine ⟨_,rfl,?_⟩; have n0_:=Aside0.mk (below_step (by repeat (first | (with_reducible first | exact HB.out | apply bA | apply bN | apply bD) | exact HB.out)) hb); clear HB; have HB:=n0_; clear n0_; (try clear hb)) | ((with_reducible refine gate_dst (N:=6) rfl ?_); refine box_event ?hg (N:=6) ?hd (cs:=#[.int .u8 0, .int .u8 0, .int .u8 0, .int .u8 0, .int .u8 0, .string (⟨#[]⟩ : ByteArray), .string (⟨#[]⟩ : ByteArray), .string (⟨#[]⟩ : ByteArray), .string (⟨#[]⟩ : ByteArray), .string (⟨#[]⟩ : ByteArray), .string (⟨#[]⟩ : ByteArray), .string (⟨#[]⟩ : ByteArray), .string (⟨#[]⟩ : ByteArray), .string (⟨#[]⟩ : ByteArray), .string (⟨#[]⟩ : ByteArray)]) (t:=27) ?hr ?_; (case hd=>rfl); (case hg=>rfl); (case hr=>first | (go_simp; done) | (go_simp; rfl)); intro gb235 hg w6 hbox hb; have n0_:=Aside0.mk (below_step (by repeat (first | (with_reducible first | exact HB.out | apply bA | apply bN | apply bD) | exact HB.out)) hb); have n1_:=Aside0.mk (hbox); have n2_:=Aside0.mk ((by rw [hg]; exact (below_size (by repeat (first | (with_reducible first | exact HB.out | apply bA | apply bN | apply bD) | exact HB.out))) : w.heap.size≤gb235)); have n3_:=Aside0.mk ((by rw [hg]; exact (below_size (by repeat (first | (with_reducible first | exact HB.out | apply bA | apply bN | apply bD) | exact HB.out))) : w.heap.size≤gb235)); clear HB; have HB:=n0_; have BK235:=n1_; have GW235:=n2_; have GE235:=n3_; clear n0_ n1_ n2_ n3_; clear hb hbox hg; have hcz7_0:w6.cell? ⟨gb235,0,none⟩=some (.int .u8 0):=blk_cell BK235.out 0; have hcz7_1:w6.cell? ⟨gb235,1,none⟩=some (.int .u8 0):=blk_cell BK235.out 1; have hcz7_2:w6.cell? ⟨gb235,2,none⟩=some (.int .u8 0):=blk_cell BK235.out 2; have hcz7_3:w6.cell? ⟨gb235,3,none⟩=some (.int .u8 0):=blk_cell BK235.out 3; have hcz7_4:w6.cell? ⟨gb235,4,none⟩=some (.int .u8 0):=blk_cell BK235.out 4; have hcz7_5:w6.cell? ⟨gb235,5,none⟩=some (.string (⟨#[]⟩ : ByteArray)):=blk_cell BK235.out 5; have hcz7_6:w6.cell? ⟨gb235,6,none⟩=some (.string (⟨#[]⟩ : ByteArray)):=blk_cell BK235.out 6; have hcz7_7:w6.cell? ⟨gb235,7,none⟩=some (.string (⟨#[]⟩ : ByteArray)):=blk_cell BK235.out 7; have hcz7_8:w6.cell? ⟨gb235,8,none⟩=some (.string (⟨#[]⟩ : ByteArray)):=blk_cell BK235.out 8; have hcz7_9:w6.cell? ⟨gb235,9,none⟩=some (.string (⟨#[]⟩ : ByteArray)):=blk_cell BK235.out 9; have hcz7_10:w6.cell? ⟨gb235,10,none⟩=some (.string (⟨#[]⟩ : ByteArray)):=blk_cell BK235.out 10; have hcz7_11:w6.cell? ⟨gb235,11,none⟩=some (.string (⟨#[]⟩ : ByteArray)):=blk_cell BK235.out 11; have hcz7_12:w6.cell? ⟨gb235,12,none⟩=some (.string (⟨#[]⟩ : ByteArray)):=blk_cell BK235.out 12; have hcz7_13:w6.cell? ⟨gb235,13,none⟩=some (.string (⟨#[]⟩ : ByteArray)):=blk_cell BK235.out 13; have hcz7_14:w6.cell? ⟨gb235,14,none⟩=some (.string (⟨#[]⟩ : ByteArray)):=blk_cell BK235.out 14; have hfz7_0:=blk_frozen BK235.out 0; have hfz7_1:=blk_frozen BK235.out 1; have hfz7_2:=blk_frozen BK235.out 2; have hfz7_3:=blk_frozen BK235.out 3; have hfz7_4:=blk_frozen BK235.out 4; have hfz7_5:=blk_frozen BK235.out 5; have hfz7_6:=blk_frozen BK235.out 6; have hfz7_7:=blk_frozen BK235.out 7; have hfz7_8:=blk_frozen BK235.out 8; have hfz7_9:=blk_frozen BK235.out 9; have hfz7_10:=blk_frozen BK235.out 10; have hfz7_11:=blk_frozen BK235.out 11; have hfz7_12:=blk_frozen BK235.out 12; have hfz7_13:=blk_frozen BK235.out 13; have hfz7_14:=blk_frozen BK235.out 14))
 (try simp only [Act.put,sA_,s0_,s1_])
 go_cut [24] (fun v24 wc => ∃ (kq : Nat) (x24_3 : Bool),v24 = .bool x24_3∧Aside0 (accept_Reply.j0 kq a1 t233 x24_3 t218 t219 t220 t221 t222 t223 t224 t225 t226 t227 t228 t229 t230 t231 t232=some (r1,r2))∧Aside0 (kq≤k)∧Aside0 (wc.heap[gb235]?=some (.cells #[.int .u8 t218, .int .u8 t219, .int .u8 t220, .int .u8 t221, .int .u8 t222, .string t223, .string t224, .string t225, .string t226, .string t227, .string t228, .string t229, .string t230, .string t231, .string t232] 27 (0,0)))∧Aside0 (Below w.heap.size w wc))
 case first =>
  have H:=HC4.out
  clear HC4
  by_cases c8 : t233.toList=([] : List UInt8)
  ·rw [if_pos c8] at H
   have c8b0 : (t233.toList == ([] : List UInt8))=true:=beq_iff_eq.mpr c8
   have c8b1 : (t233.toList != ([] : List UInt8))=false:=bne_eq_false_iff_eq.mpr c8
   clear c8
   (first | rw [c8b0] | (simp only [i64_w,i32_w]; rw [c8b0]) | skip)
   have H':=Aside0.mk H
   clear H
   go_wp2
   go_meet
   case rel=>exact ⟨_,(true),(by first | rfl | (simp; done) | (simp [*]; done)),H',⟨by first | omega | exact Nat.le_refl _⟩,⟨by (with_reducible repeat (first | refine kN ?_ _ | refine kD ?_ | refine kA ?_ _)); refine blk_put (cs:=#[.int .u8 t218, .int .u8 t219, .int .u8 t220, .int .u8 t221, .int .u8 t222, .string t223, .string t224, .string t225, .string t226, .string t227, .string t228, .string t229, .string t230, .string t231, .string (⟨#[]⟩ : ByteArray)]) ?_ 14 _ rfl; (with_reducible repeat (first | refine kN ?_ _ | refine kD ?_ | refine kA ?_ _)); refine blk_put (cs:=#[.int .u8 t218, .int .u8 t219, .int .u8 t220, .int .u8 t221, .int .u8 t222, .string t223, .string t224, .string t225, .string t226, .string t227, .string t228, .string t229, .string t230, .string (⟨#[]⟩ : ByteArray), .string (⟨#[]⟩ : ByteArray)]) ?_ 13 _ rfl; (with_reducible repeat (first | refine kN ?_ _ | refine kD ?_ | refine kA ?_ _)); refine blk_put (cs:=#[.int .u8 t218, .int .u8 t219, .int .u8 t220, .int .u8 t221, .int .u8 t222, .string t223, .string t224, .string t225, .string t226, .string t227, .string t228, .string t229, .string (⟨#[]⟩ : ByteArray), .string (⟨#[]⟩ : ByteArray), .string (⟨#[]⟩ : ByteArray)]) ?_ 12 _ rfl; (with_reducible repeat (first | refine kN ?_ _ | refine kD ?_ | refine kA ?_ _)); refine blk_put (cs:=#[.int .u8 t218, .int .u8 t219, .int .u8 t220, .int .u8 t221, .int .u8 t222, .string t223, .string t224, .string t225, .string t226, .string t227, .string t228, .string (⟨#[]⟩ : ByteArray), .string (⟨#[]⟩ : ByteArray), .string (⟨#[]⟩ : ByteArray), .string (⟨#[]⟩ : ByteArray)]) ?_ 11 _ rfl; (with_reducible repeat (first | refine kN ?_ _ | refine kD ?_ | refine kA ?_ _)); refine blk_put (cs:=#[.int .u8 t218, .int .u8 t219, .int .u8 t220, .int .u8 t221, .int .u8 t222, .string t223, .string t224, .string t225, .string t226, .string t227, .string (⟨#[]⟩ : ByteArray), .string (⟨#[]⟩ : ByteArray), .string (⟨#[]⟩ : ByteArray), .string (⟨#[]⟩ : ByteArray), .string (⟨#[]⟩ : ByteArray)]) ?_ 10 _ rfl; (with_reducible repeat (first | refine kN ?_ _ | refine kD ?_ | refine kA ?_ _)); refine blk_put (cs:=#[.int .u8 t218, .int .u8 t219, .int .u8 t220, .int .u8 t221, .int .u8 t222, .string t223, .string t224, .string t225, .string t226, .string (⟨#[]⟩ : ByteArray), .string (⟨#[]⟩ : ByteArray), .string (⟨#[]⟩ : ByteArray), .string (⟨#[]⟩ : ByteArray), .string (⟨#[]⟩ : ByteArray), .string (⟨#[]⟩ : ByteArray)]) ?_ 9 _ rfl; (with_reducible repeat (first | refine kN ?_ _ | refine kD ?_ | refine kA ?_ _)); refine blk_put (cs:=#[.int .u8 t218, .int .u8 t219, .int .u8 t220, .int .u8 t221, .int .u8 t222, .string t223, .string t224, .string t225, .string (⟨#[]⟩ : ByteArray), .string (⟨#[]⟩ : ByteArray), .string (⟨#[]⟩ : ByteArray), .string (⟨#[]⟩ : ByteArray), .string (⟨#[]⟩ : ByteArray), .string (⟨#[]⟩ : ByteArray), .string (⟨#[]⟩ : ByteArray)]) ?_ 8 _ rfl; (with_reducible repeat (first | refine kN ?_ _ | refine kD ?_ | refine kA ?_ _)); refine blk_put (cs:=#[.int .u8 t218, .int .u8 t219, .int .u8 t220, .int .u8 t221, .int .u8 t222, .string t223, .string t224, .string (⟨#[]⟩ : ByteArray), .string (⟨#[]⟩ : ByteArray), .string (⟨#[]⟩ : ByteArray), .string (⟨#[]⟩ : ByteArray), .string (⟨#[]⟩ : ByteArray), .string (⟨#[]⟩ : ByteArray), .string (⟨#[]⟩ : ByteArray), .string (⟨#[]⟩ : ByteArray)]) ?_ 7 _ rfl; (with_reducible repeat (first | refine kN ?_ _ | refine kD ?_ | refine kA ?_ _)); refine blk_put (cs:=#[.int .u8 t218, .int .u8 t219, .int .u8 t220, .int .u8 t221, .int .u8 t222, .string t223, .string (⟨#[]⟩ : ByteArray), .string (⟨#[]⟩ : ByteArray), .string (⟨#[]⟩ : ByteArray), .string (⟨#[]⟩ : ByteArray), .string (⟨#[]⟩ : ByteArray), .string (⟨#[]⟩ : ByteArray), .string (⟨#[]⟩ : ByteArray), .string (⟨#[]⟩ : ByteArray), .string (⟨#[]⟩ : ByteArray)]) ?_ 6 _ rfl; (with_reducible repeat (first | refine kN ?_ _ | refine kD ?_ | refine kA ?_ _)); refine blk_put (cs:=#[.int .u8 t218, .int .u8 t219, .int .u8 t220, .int .u8 t221, .int .u8 t222, .string (⟨#[]⟩ : ByteArray), .string (⟨#[]⟩ : ByteArray), .string (⟨#[]⟩ : ByteArray), .string (⟨#[]⟩ : ByteArray), .string (⟨#[]⟩ : ByteArray), .string (⟨#[]⟩ : ByteArray), .string (⟨#[]⟩ : ByteArray), .string (⟨#[]⟩ : ByteArray), .string (⟨#[]⟩ : ByteArray), .string (⟨#[]⟩ : ByteArray)]) ?_ 5 _ rfl; (with_reducible repeat (first | refine kN ?_ _ | refine kD ?_ | refine kA ?_ _)); refine blk_put (cs:=#[.int .u8 t218, .int .u8 t219, .int .u8 t220, .int .u8 t221, .int .u8 0, .string (⟨#[]⟩ : ByteArray), .string (⟨#[]⟩ : ByteArray), .string (⟨#[]⟩ : ByteArray), .string (⟨#[]⟩ : ByteArray), .string (⟨#[]⟩ : ByteArray), .string (⟨#[]⟩ : ByteArray), .string (⟨#[]⟩ : ByteArray), .string (⟨#[]⟩ : ByteArray), .string (⟨#[]⟩ : ByteArray), .string (⟨#[]⟩ : ByteArray)]) ?_ 4 _ rfl; (with_reducible repeat (first | refine kN ?_ _ | refine kD ?_ | refine kA ?_ _)); refine blk_put (cs:=#[.int .u8 t218, .int .u8 t219, .int .u8 t220, .int .u8 0, .int .u8 0, .string (⟨#[]⟩ : ByteArray), .string (⟨#[]⟩ : ByteArray), .string (⟨#[]⟩ : ByteArray), .string (⟨#[]⟩ : ByteArray), .string (⟨#[]⟩ : ByteArray), .string (⟨#[]⟩ : ByteArray), .string (⟨#[]⟩ : ByteArray), .string (⟨#[]⟩ : ByteArray), .string (⟨#[]⟩ : ByteArray), .string (⟨#[]⟩ : ByteArray)]) ?_ 3 _ rfl; (with_reducible repeat (first | refine kN ?_ _ | refine kD ?_ | refine kA ?_ _)); refine blk_put (cs:=#[.int .u8 t218, .int .u8 t219, .int .u8 0, .int .u8 0, .int .u8 0, .string (⟨#[]⟩ : ByteArray), .string (⟨#[]⟩ : ByteArray), .string (⟨#[]⟩ : ByteArray), .string (⟨#[]⟩ : ByteArray), .string (⟨#[]⟩ : ByteArray), .string (⟨#[]⟩ : ByteArray), .string (⟨#[]⟩ : ByteArray), .string (⟨#[]⟩ : ByteArray), .string (⟨#[]⟩ : ByteArray), .string (⟨#[]⟩ : ByteArray)]) ?_ 2 _ rfl; (with_reducible repeat (first | refine kN ?_ _ | refine kD ?_ | refine kA ?_ _)); refine blk_put (cs:=#[.int .u8 t218, .int .u8 0, .int .u8 0, .int .u8 0, .int .u8 0, .string (⟨#[]⟩ : ByteArray), .string (⟨#[]⟩ : ByteArray), .string (⟨#[]⟩ : ByteArray), .string (⟨#[]⟩ : ByteArray), .string (⟨#[]⟩ : ByteArray), .string (⟨#[]⟩ : ByteArray), .string (⟨#[]⟩ : ByteArray), .string (⟨#[]⟩ : ByteArray), .string (⟨#[]⟩ : ByteArray), .string (⟨#[]⟩ : ByteArray)]) ?_ 1 _ rfl; (with_reducible repeat (first | refine kN ?_ _ | refine kD ?_ | refine kA ?_ _)); refine blk_put (cs:=#[.int .u8 0, .int .u8 0, .int .u8 0, .int .u8 0, .int .u8 0, .string (⟨#[]⟩ : ByteArray), .string (⟨#[]⟩ : ByteArray), .string (⟨#[]⟩ : ByteArray), .string (⟨#[]⟩ : ByteArray), .string (⟨#[]⟩ : ByteArray), .string (⟨#[]⟩ : ByteArray), .string (⟨#[]⟩ : ByteArray), .string (⟨#[]⟩ : ByteArray), .string (⟨#[]⟩ : ByteArray), .string (⟨#[]⟩ : ByteArray)]) ?_ 0 _ rfl; (with_reducible repeat (first | refine kN ?_ _ | refine kD ?_ | refine kA ?_ _)); exact BK235.out⟩,⟨by repeat (first | (with_reducible first | exact HB.out | apply bA | apply bN | apply bD | refine below_set ?_ GE235.out) | exact HB.out)⟩⟩
  ·rw [if_neg c8] at H
   have c8b0 : (t233.toList == ([] : List UInt8))=false:=beq_eq_false_iff_ne.mpr c8
   have c8b1 : (t233.toList != ([] : List UInt8))=true:=bne_iff_ne.mpr c8
   (first | rw [c8b0] | (simp only [i64_w,i32_w]; rw [c8b0]) | skip)
   replace H:=Option.bind_eq_some_iff.mp H
   obtain ⟨t236,A90,H⟩:=H
   replace H : (accept_Reply.j0 k a1 t233 (!t236) t218 t219 t220 t221 t222 t223 t224 t225 t226 t227 t228 t229 t230 t231 t232)=some (r1,r2):=H
   have A9:=Aside0.mk A90
   clear A90
   have H':=Aside0.mk H
   clear H
   go_wp2_with (first | (go_at_call 16; (with_reducible refine (frame_Good.calls _ _ l0 t236 _ ?side1 ?side2 A9.out (globe_below HGLOE.out (by repeat (first | (with_reducible first | exact HB.out | apply bA | apply bN | apply bD | refine below_set ?_ GE235.out) | exact HB.out)))).mono ?_); (case side1=>exact Kd.C_below HR0.out (by repeat (first | (with_reducible first | exact HB.out | apply bA | apply bN | apply bD | refine below_set ?_ GE235.out) | exact HB.out))); (case side2=>exact HC0.out); rintro e w' ⟨rfl,⟨nd,rfl⟩⟩))
   go_meet
   case rel=>exact ⟨_,(!t236),(by first | rfl | (simp; done) | (simp [*]; done)),H',⟨by first | omega | exact Nat.le_refl _⟩,⟨by (with_reducible repeat (first | refine kN ?_ _ | refine kD ?_ | refine kA ?_ _)); refine blk_put (cs:=#[.int .u8 t218, .int .u8 t219, .int .u8 t220, .int .u8 t221, .int .u8 t222, .string t223, .string t224, .string t225, .string t226, .string t227, .string t228, .string t229, .string t230, .string t231, .string (⟨#[]⟩ : ByteArray)]) ?_ 14 _ rfl; (with_reducible repeat (first | refine kN ?_ _ | refine kD ?_ | refine kA ?_ _)); refine blk_put (cs:=#[.int .u8 t218, .int .u8 t219, .int .u8 t220, .int .u8 t221, .int .u8 t222, .string t223, .string t224, .string t225, .string t226, .string t227, .string t228, .string t229, .string t230, .string (⟨#[]⟩ : ByteArray), .string (⟨#[]⟩ : ByteArray)]) ?_ 13 _ rfl; (with_reducible repeat (first | refine kN ?_ _ | refine kD ?_ | refine kA ?_ _)); refine blk_put (cs:=#[.int .u8 t218, .int .u8 t219, .int .u8 t220, .int .u8 t221, .int .u8 t222, .string t223, .string t224, .string t225, .string t226, .string t227, .string t228, .string t229, .string (⟨#[]⟩ : ByteArray), .string (⟨#[]⟩ : ByteArray), .string (⟨#[]⟩ : ByteArray)]) ?_ 12 _ rfl; (with_reducible repeat (first | refine kN ?_ _ | refine kD ?_ | refine kA ?_ _)); refine blk_put (cs:=#[.int .u8 t218, .int .u8 t219, .int .u8 t220, .int .u8 t221, .int .u8 t222, .string t223, .string t224, .string t225, .string t226, .string t227, .string t228, .string (⟨#[]⟩ : ByteArray), .string (⟨#[]⟩ : ByteArray), .string (⟨#[]⟩ : ByteArray), .string (⟨#[]⟩ : ByteArray)]) ?_ 11 _ rfl; (with_reducible repeat (first | refine kN ?_ _ | refine kD ?_ | refine kA ?_ _)); refine blk_put (cs:=#[.int .u8 t218, .int .u8 t219, .int .u8 t220, .int .u8 t221, .int .u8 t222, .string t223, .string t224, .string t225, .string t226, .string t227, .string (⟨#[]⟩ : ByteArray), .string (⟨#[]⟩ : ByteArray), .string (⟨#[]⟩ : ByteArray), .string (⟨#[]⟩ : ByteArray), .string (⟨#[]⟩ : ByteArray)]) ?_ 10 _ rfl; (with_reducible repeat (first | refine kN ?_ _ | refine kD ?_ | refine kA ?_ _)); refine blk_put (cs:=#[.int .u8 t218, .int .u8 t219, .int .u8 t220, .int .u8 t221, .int .u8 t222, .string t223, .string t224, .string t225, .string t226, .string (⟨#[]⟩ : ByteArray), .string (⟨#[]⟩ : ByteArray), .string (⟨#[]⟩ : ByteArray), .string (⟨#[]⟩ : ByteArray), .string (⟨#[]⟩ : ByteArray), .string (⟨#[]⟩ : ByteArray)]) ?_ 9 _ rfl; (with_reducible repeat (first | refine kN ?_ _ | refine kD ?_ | refine kA ?_ _)); refine blk_put (cs:=#[.int .u8 t218, .int .u8 t219, .int .u8 t220, .int .u8 t221, .int .u8 t222, .string t223, .string t224, .string t225, .string (⟨#[]⟩ : ByteArray), .string (⟨#[]⟩ : ByteArray), .string (⟨#[]⟩ : ByteArray), .string (⟨#[]⟩ : ByteArray), .string (⟨#[]⟩ : ByteArray), .string (⟨#[]⟩ : ByteArray), .string (⟨#[]⟩ : ByteArray)]) ?_ 8 _ rfl; (with_reducible repeat (first | refine kN ?_ _ | refine kD ?_ | refine kA ?_ _)); refine blk_put (cs:=#[.int .u8 t218, .int .u8 t219, .int .u8 t220, .int .u8 t221, .int .u8 t222, .string t223, .string t224, .string (⟨#[]⟩ : ByteArray), .string (⟨#[]⟩ : ByteArray), .string (⟨#[]⟩ : ByteArray), .string (⟨#[]⟩ : ByteArray), .string (⟨#[]⟩ : ByteArray), .string (⟨#[]⟩ : ByteArray), .string (⟨#[]⟩ : ByteArray), .string (⟨#[]⟩ : ByteArray)]) ?_ 7 _ rfl; (with_reducible repeat (first | refine kN ?_ _ | refine kD ?_ | refine kA ?_ _)); refine blk_put (cs:=#[.int .u8 t218, .int .u8 t219, .int .u8 t220, .int .u8 t221, .int .u8 t222, .string t223, .string (⟨#[]⟩ : ByteArray), .string (⟨#[]⟩ : ByteArray), .string (⟨#[]⟩ : ByteArray), .string (⟨#[]⟩ : ByteArray), .string (⟨#[]⟩ : ByteArray), .string (⟨#[]⟩ : ByteArray), .string (⟨#[]⟩ : ByteArray), .string (⟨#[]⟩ : ByteArray), .string (⟨#[]⟩ : ByteArray)]) ?_ 6 _ rfl; (with_reducible repeat (first | refine kN ?_ _ | refine kD ?_ | refine kA ?_ _)); refine blk_put (cs:=#[.int .u8 t218, .int .u8 t219, .int .u8 t220, .int .u8 t221, .int .u8 t222, .string (⟨#[]⟩ : ByteArray), .string (⟨#[]⟩ : ByteArray), .string (⟨#[]⟩ : ByteArray), .string (⟨#[]⟩ : ByteArray), .string (⟨#[]⟩ : ByteArray), .string (⟨#[]⟩ : ByteArray), .string (⟨#[]⟩ : ByteArray), .string (⟨#[]⟩ : ByteArray), .string (⟨#[]⟩ : ByteArray), .string (⟨#[]⟩ : ByteArray)]) ?_ 5 _ rfl; (with_reducible repeat (first | refine kN ?_ _ | refine kD ?_ | refine kA ?_ _)); refine blk_put (cs:=#[.int .u8 t218, .int .u8 t219, .int .u8 t220, .int .u8 t221, .int .u8 0, .string (⟨#[]⟩ : ByteArray), .string (⟨#[]⟩ : ByteArray), .string (⟨#[]⟩ : ByteArray), .string (⟨#[]⟩ : ByteArray), .string (⟨#[]⟩ : ByteArray), .string (⟨#[]⟩ : ByteArray), .string (⟨#[]⟩ : ByteArray), .string (⟨#[]⟩ : ByteArray), .string (⟨#[]⟩ : ByteArray), .string (⟨#[]⟩ : ByteArray)]) ?_ 4 _ rfl; (with_reducible repeat (first | refine kN ?_ _ | refine kD ?_ | refine kA ?_ _)); refine blk_put (cs:=#[.int .u8 t218, .int .u8 t219, .int .u8 t220, .int .u8 0, .int .u8 0, .string (⟨#[]⟩ : ByteArray), .string (⟨#[]⟩ : ByteArray), .string (⟨#[]⟩ : ByteArray), .string (⟨#[]⟩ : ByteArray), .string (⟨#[]⟩ : ByteArray), .string (⟨#[]⟩ : ByteArray), .string (⟨#[]⟩ : ByteArray), .string (⟨#[]⟩ : ByteArray), .string (⟨#[]⟩ : ByteArray), .string (⟨#[]⟩ : ByteArray)]) ?_ 3 _ rfl; (with_reducible repeat (first | refine kN ?_ _ | refine kD ?_ | refine kA ?_ _)); refine blk_put (cs:=#[.int .u8 t218, .int .u8 t219, .int .u8 0, .int .u8 0, .int .u8 0, .string (⟨#[]⟩ : ByteArray), .string (⟨#[]⟩ : ByteArray), .string (⟨#[]⟩ : ByteArray), .string (⟨#[]⟩ : ByteArray), .string (⟨#[]⟩ : ByteArray), .string (⟨#[]⟩ : ByteArray), .string (⟨#[]⟩ : ByteArray), .string (⟨#[]⟩ : ByteArray), .string (⟨#[]⟩ : ByteArray), .string (⟨#[]⟩ : ByteArray)]) ?_ 2 _ rfl; (with_reducible repeat (first | refine kN ?_ _ | refine kD ?_ | refine kA ?_ _)); refine blk_put (cs:=#[.int .u8 t218, .int .u8 0, .int .u8 0, .int .u8 0, .int .u8 0, .string (⟨#[]⟩ : ByteArray), .string (⟨#[]⟩ : ByteArray), .string (⟨#[]⟩ : ByteArray), .string (⟨#[]⟩ : ByteArray), .string (⟨#[]⟩ : ByteArray), .string (⟨#[]⟩ : ByteArray), .string (⟨#[]⟩ : ByteArray), .string (⟨#[]⟩ : ByteArray), .string (⟨#[]⟩ : ByteArray), .string (⟨#[]⟩ : ByteArray)]) ?_ 1 _ rfl; (with_reducible repeat (first | refine kN ?_ _ | refine kD ?_ | refine kA ?_ _)); refine blk_put (cs:=#[.int .u8 0, .int .u8 0, .int .u8 0, .int .u8 0, .int .u8 0, .string (⟨#[]⟩ : ByteArray), .string (⟨#[]⟩ : ByteArray), .string (⟨#[]⟩ : ByteArray), .string (⟨#[]⟩ : ByteArray), .string (⟨#[]⟩ : ByteArray), .string (⟨#[]⟩ : ByteArray), .string (⟨#[]⟩ : ByteArray), .string (⟨#[]⟩ : ByteArray), .string (⟨#[]⟩ : ByteArray), .string (⟨#[]⟩ : ByteArray)]) ?_ 0 _ rfl; (with_reducible repeat (first | refine kN ?_ _ | refine kD ?_ | refine kA ?_ _)); exact BK235.out⟩,⟨by repeat (first | (with_reducible first | exact HB.out | apply bA | apply bN | apply bD | refine below_set ?_ GE235.out) | exact HB.out)⟩⟩
 case rest =>
  clear HC4
  try clear p2
  try clear c5
  try clear c6
  try clear c8
  try clear c8b0
  try clear c8b1
  try clear hcz7_0
  try clear hcz7_1
  try clear hcz7_10
  try clear hcz7_11
  try clear hcz7_12
  try clear hcz7_13
  try clear hcz7_14
  try clear hcz7_2
  try clear hcz7_3
  try clear hcz7_4
  try clear hcz7_5
  try clear hcz7_6
  try clear hcz7_7
  try clear hcz7_8
  try clear hcz7_9
  try clear hfz7_0
  try clear hfz7_1
  try clear hfz7_10
  try clear hfz7_11
  try clear hfz7_12
  try clear hfz7_13
  try clear hfz7_14
  try clear hfz7_2
  try clear hfz7_3
  try clear hfz7_4
  try clear hfz7_5
  try clear hfz7_6
  try clear hfz7_7
  try clear hfz7_8
  try clear hfz7_9
  obtain ⟨kq,x24_3,rfl,HA,HJ3,BK235,HB⟩:=hcut
  cases kq with
  | zero=>exact absurd HA.out (by simp [accept_Reply.j0])
  | succ kj3 =>
   have H:=HA.out
   clear HA
   simp only [accept_Reply.j0] at H
   by_cases c10 : x24_3=true
   ·subst c10
    have H1 : (some (([] : List Int),false))=some (r1,r2):=by rw [if_pos rfl] at H; exact H
    clear H
    have H:=H1
    clear H1
    simp only [Option.some.injEq,Prod.mk.injEq] at H
    obtain ⟨rfl,rfl⟩:=H
    go_wp2
    go_ret2
    exact ⟨_,by first | rfl | (simp [errW_none,errW_some] <;> rfl) | (simp [*,errW_none,errW_some] <;> rfl),by first | exact Kd.R_nil _ _ _ _ _ | exact Kd.N_nil _ _ _ _ _ | exact Kd.V_nil _ _ _ _ _ | exact Kd.Q_nil _ _ _ _ _ | exact Kd.S_nil _ _ _ _ _,by repeat (first | (with_reducible first | exact HB.out | apply bA | apply bN | apply bD | refine below_set ?_ GE235.out) | exact HB.out)⟩
   ·replace c10:=Bool.eq_false_iff.mpr c10
    subst c10
    have H1 : (if t233.toList=([65,65] : List UInt8) then (accept_Reply.j1 kj3 t233 (!a1) t218 t219 t220 t221 t222 t223 t224 t225 t226 t227 t228 t229 t230 t231 t232) else (accept_Reply.j1 kj3 t233 false t218 t219 t220 t221 t222 t223 t224 t225 t226 t227 t228 t229 t230 t231 t232))=some (r1,r2):=by rw [if_neg (show ¬ (false=true) by decide)] at H; exact H
    clear H
    have H:=H1
    clear H1
    have HC11:=Aside0.mk H
    clear H
    go_upto_region 4 with (fail)
    go_cut [30] (fun v30 wc => ∃ (kq : Nat) (x30_10 : Bool),v30 = .bool x30_10∧Aside0 (accept_Reply.j1 kq t233 x30_10 t218 t219 t220 t221 t222 t223 t224 t225 t226 t227 t228 t229 t230 t231 t232=some (r1,r2))∧Aside0 (kq≤kj3)∧Aside0 (wc.heap[gb235]?=some (.cells #[.int .u8 t218, .int .u8 t219, .int .u8 t220, .int .u8 t221, .int .u8 t222, .string t223, .string t224, .string t225, .string t226, .string t227, .string t228, .string t229, .string t230, .string t231, .string t232] 27 (0,0)))∧Aside0 (Below w.heap.size w wc))
    case first =>
     have H:=HC11.out
     clear HC11
     by_cases c12 : t233.toList=([65,65] : List UInt8)
     ·rw [if_pos c12] at H
      have c12b0 : (t233.toList == ([65,65] : List UInt8))=true:=beq_iff_eq.mpr c12
      have c12b1 : (t233.toList != ([65,65] : List UInt8))=false:=bne_eq_false_iff_eq.mpr c12
      clear c12
      (first | rw [c12b0] | (simp only [i64_w,i32_w]; rw [c12b0]) | skip)
      have H':=Aside0.mk H
      clear H
      go_wp2
      go_meet
      case rel=>exact ⟨_,(!a1),(by first | rfl | (simp; done) | (simp [*]; done)),H',⟨by have:=HJ3.out; first | omega | exact Nat.le_refl _⟩,⟨by (with_reducible repeat (first | refine kN ?_ _ | refine kD ?_ | refine kA ?_ _)); exact BK235.out⟩,⟨by repeat (first | (with_reducible first | exact HB.out | apply bA | apply bN | apply bD | refine below_set ?_ GE235.out) | exact HB.out)⟩⟩
     ·rw [if_neg c12] at H
      have c12b0 : (t233.toList == ([65,65] : List UInt8))=false:=beq_eq_false_iff_ne.mpr c12
      have c12b1 : (t233.toList != ([65,65] : List UInt8))=true:=bne_iff_ne.mpr c12
      (first | rw [c12b0] | (simp only [i64_w,i32_w]; rw [c12b0]) | skip)
      have H':=Aside0.mk H
      clear H
      go_wp2
      go_meet
      case rel=>exact ⟨_,(false),(by first | rfl | (simp; done) | (simp [*]; done)),H',⟨by have:=HJ3.out; first | omega | exact Nat.le_refl _⟩,⟨by (with_reducible repeat (first | refine kN ?_ _ | refine kD ?_ | refine kA ?_ _)); exact BK235.out⟩,⟨by repeat (first | (with_reducible first | exact HB.out | apply bA | apply bN | apply bD | refine below_set ?_ GE235.out) | exact HB.out)⟩⟩
    case rest =>
     clear HC11
     try clear c1
     try clear p2
     try clear c5
     try clear c6
     try clear c8
     try clear c8b0
     try clear c8b1
     try clear c10
     try clear c12
     try clear c12b0
     try clear c12b1
     try clear hcz7_0
     try clear hcz7_1
     try clear hcz7_10
     try clear hcz7_11
     try clear hcz7_12
     try clear hcz7_13
     try clear hcz7_14
     try clear hcz7_2
     try clear hcz7_3
     try clear hcz7_4
     try clear hcz7_5
     try clear hcz7_6
     try clear hcz7_7
     try clear hcz7_8
     try clear hcz7_9
     try clear hfz7_0
     try clear hfz7_1
     try clear hfz7_10
     try clear hfz7_11
     try clear hfz7_12
     try clear hfz7_13
     try clear hfz7_14
     try clear hfz7_2
     try clear hfz7_3
     try clear hfz7_4
     try clear hfz7_5
     try clear hfz7_6
     try clear hfz7_7
     try clear hfz7_8
     try clear hfz7_9
     try clear p2
     obtain ⟨kq,x30_10,rfl,HA,HJ10,BK235,HB⟩:=hcut
     cases kq with
     | zero=>exact absurd HA.out (by simp [accept_Reply.j1])
     | succ kj10 =>
      have H:=HA.out
      clear HA
      simp only [accept_Reply.j1] at H
      have HC13:=Aside0.mk H
      clear H
      go_upto_if 30 with (fail)
      go_cut [7] (fun v7 wc => ∃ (kq : Nat) (x7_12 : ByteArray),v7 = .string x7_12∧Aside0 (accept_Reply.j2 kq x7_12 t218 t219 t220 t221 t222 t223 t224 t225 t226 t227 t228 t229 t230 t231 t232=some (r1,r2))∧Aside0 (kq≤kj10)∧Aside0 (wc.heap[gb235]?=some (.cells #[.int .u8 t218, .int .u8 t219, .int .u8 t220, .int .u8 t221, .int .u8 t222, .string t223, .string t224, .string t225, .string t226, .string t227, .string t228, .string t229, .string t230, .string t231, .string t232] 27 (0,0)))∧Aside0 (Below w.heap.size w wc))
      case first =>
       have H:=HC13.out
       clear HC13
       by_cases c14 : x30_10=true
       ·subst c14
        have H1 : (accept_Reply.j2 kj10 (⟨#[65,69]⟩ : ByteArray) t218 t219 t220 t221 t222 t223 t224 t225 t226 t227 t228 t229 t230 t231 t232)=some (r1,r2):=by rw [if_pos rfl] at H; exact H
        clear H
        have H:=H1
        clear H1
        have H':=Aside0.mk H
        clear H
        go_wp2
        go_meet
        case rel=>exact ⟨_,((⟨#[65,69]⟩ : ByteArray)),(by first | rfl | (simp; done) | (simp [*]; done)),H',⟨by have:=HJ3.out; have:=HJ10.out; first | omega | exact Nat.le_refl _⟩,⟨by (with_reducible repeat (first | refine kN ?_ _ | refine kD ?_ | refine kA ?_ _)); exact BK235.out⟩,⟨by repeat (first | (with_reducible first | exact HB.out | apply bA | apply bN | apply bD | refine below_set ?_ GE235.out) | exact HB.out)⟩⟩
       ·replace c14:=Bool.eq_false_iff.mpr c14
        subst c14
        have H1 : (accept_Reply.j2 kj10 t233 t218 t219 t220 t221 t222 t223 t224 t225 t226 t227 t228 t229 t230 t231 t232)=some (r1,r2):=by rw [if_neg (show ¬ (false=true) by decide)] at H; exact H
        clear H
        have H:=H1
        clear H1
        have H':=Aside0.mk H
        clear H
        go_wp2
        go_meet
        case rel=>exact ⟨_,(t233),(by first | rfl | (simp; done) | (simp [*]; done)),H',⟨by have:=HJ3.out; have:=HJ10.out; first | omega | exact Nat.le_refl _⟩,⟨by (with_reducible repeat (first | refine kN ?_ _ | refine kD ?_ | refine kA ?_ _)); exact BK235.out⟩,⟨by repeat (first | (with_reducible first | exact HB.out | apply bA | apply bN | apply bD | refine below_set ?_ GE235.out) | exact HB.out)⟩⟩
      case rest =>
       clear HC13
       try clear c1
       try clear p2
       try clear c5
       try clear c6
       try clear c8
       try clear c8b0
       try clear c8b1
       try clear c10
       try clear c12
       try clear c12b0
       try clear c12b1
       try clear c14
       try clear hcz7_0
       try clear hcz7_1
       try clear hcz7_10
       try clear hcz7_11
       try clear hcz7_12
       try clear hcz7_13
       try clear hcz7_14
       try clear hcz7_2
       try clear hcz7_3
       try clear hcz7_4
       try clear hcz7_5
       try clear hcz7_6
       try clear hcz7_7
       try clear hcz7_8
       try clear hcz7_9
       try clear hfz7_0
       try clear hfz7_1
       try clear hfz7_10
       try clear hfz7_11
       try clear hfz7_12
       try clear hfz7_13
       try clear hfz7_14
       try clear hfz7_2
       try clear hfz7_3
       try clear hfz7_4
       try clear hfz7_5
       try clear hfz7_6
       try clear hfz7_7
       try clear hfz7_8
       try clear hfz7_9
       try clear p2
       obtain ⟨kq,x7_12,rfl,HA,HJ12,BK235,HB⟩:=hcut
       cases kq with
       | zero=>exact absurd HA.out (by simp [accept_Reply.j2])
       | succ kj12 =>
        have H:=HA.out
        clear HA
        simp only [accept_Reply.j2] at H
        replace H:=Option.bind_eq_some_iff.mp H
        obtain ⟨⟨t237,t240⟩,A150,H⟩:=H
        replace H : (if t240=0 then ((frame_Wrap.f t237).bind fun bt241=>(some (bt241.1,(bt241.2 == 0)))) else (some (([] : List Int),false)))=some (r1,r2):=H
        have A15:=Aside0.mk A150
        clear A150
        by_cases c16 : t240=0
        ·rw [if_pos c16] at H
         have c16b0 : (t240 == 0)=true:=beq_iff_eq.mpr c16
         have c16b1 : (t240 != 0)=false:=bne_eq_false_iff_eq.mpr c16
         clear c16
         replace H:=Option.bind_eq_some_iff.mp H
         obtain ⟨⟨t241,t242⟩,A170,H⟩:=H
         replace H : (some (t241,(t242 == 0)))=some (r1,r2):=H
         have A17:=Aside0.mk A170
         clear A170
         simp only [Option.some.injEq,Prod.mk.injEq] at H
         obtain ⟨rfl,rfl⟩:=H
         have hcz18_0:wc.cell? ⟨gb235,0,none⟩=some (.int .u8 t218):=blk_cell BK235.out 0
         have hcz18_1:wc.cell? ⟨gb235,1,none⟩=some (.int .u8 t219):=blk_cell BK235.out 1
         have hcz18_2:wc.cell? ⟨gb235,2,none⟩=some (.int .u8 t220):=blk_cell BK235.out 2
         have hcz18_3:wc.cell? ⟨gb235,3,none⟩=some (.int .u8 t221):=blk_cell BK235.out 3
         have hcz18_4:wc.cell? ⟨gb235,4,none⟩=some (.int .u8 t222):=blk_cell BK235.out 4
         have hcz18_5:wc.cell? ⟨gb235,5,none⟩=some (.string t223):=blk_cell BK235.out 5
         have hcz18_6:wc.cell? ⟨gb235,6,none⟩=some (.string t224):=blk_cell BK235.out 6
         have hcz18_7:wc.cell? ⟨gb235,7,none⟩=some (.string t225):=blk_cell BK235.out 7
         have hcz18_8:wc.cell? ⟨gb235,8,none⟩=some (.string t226):=blk_cell BK235.out 8
         have hcz18_9:wc.cell? ⟨gb235,9,none⟩=some (.string t227):=blk_cell BK235.out 9
         have hcz18_10:wc.cell? ⟨gb235,10,none⟩=some (.string t228):=blk_cell BK235.out 10
         have hcz18_11:wc.cell? ⟨gb235,11,none⟩=some (.string t229):=blk_cell BK235.out 11
         have hcz18_12:wc.cell? ⟨gb235,12,none⟩=some (.string t230):=blk_cell BK235.out 12
         have hcz18_13:wc.cell? ⟨gb235,13,none⟩=some (.string t231):=blk_cell BK235.out 13
         have hcz18_14:wc.cell? ⟨gb235,14,none⟩=some (.string t232):=blk_cell BK235.out 14
         have hfz18_0:=blk_frozen BK235.out 0
         have hfz18_1:=blk_frozen BK235.out 1
         have hfz18_2:=blk_frozen BK235.out 2
         have hfz18_3:=blk_frozen BK235.out 3
         have hfz18_4:=blk_frozen BK235.out 4
         have hfz18_5:=blk_frozen BK235.out 5
         have hfz18_6:=blk_frozen BK235.out 6
         have hfz18_7:=blk_frozen BK235.out 7
         have hfz18_8:=blk_frozen BK235.out 8
         have hfz18_9:=blk_frozen BK235.out 9
         have hfz18_10:=blk_frozen BK235.out 10
         have hfz18_11:=blk_frozen BK235.out 11
         have hfz18_12:=blk_frozen BK235.out 12
         have hfz18_13:=blk_frozen BK235.out 13
         have hfz18_14:=blk_frozen BK235.out 14
         go_wp2_with (first | ((with_reducible refine gate_callee (f:=17) rfl ?_); refine goesL_ (some 34) rfl rfl Tryd.func17 (by kernel_rfl) rfl #[.agg #[.int .u8 t218, .int .u8 t219, .int .u8 t220, .int .u8 t221, .int .u8 t222, .string t223, .string t224, .string t225, .string t226, .string t227, .string t228, .string t229, .string t230, .string t231, .string t232], .string x7_12] rfl (by (try simp only [List.map_toArray,List.map_cons,List.map_nil]); first | done | rfl | (simp only [List.length_drop,List.length_take]; rfl)) ?_; (with_reducible refine (ack_Build.calls kj12 t218 t219 t220 t221 t222 t223 t224 t225 t226 t227 t228 t229 t230 t231 t232 x7_12 t237 t240 _ A15.out (globc_below HGLOC.out (by repeat (first | (with_reducible first | exact HB.out | apply bA | apply bN | apply bD | refine below_set ?_ GE235.out) | exact HB.out)))).mono ?_); rintro e w19 ⟨v238,rfl,ho0,hb⟩; refine ⟨_,rfl,?_⟩; have n0_:=Aside0.mk (Kd.R_lower ho0 (below_size (by repeat (first | (with_reducible first | exact HB.out | apply bA | apply bN | apply bD | refine below_set ?_ GE235.out) | exact HB.out)))); have n1_:=Aside0.mk (blk_below (g:=gb235) (o := .cells #[.int .u8 t218, .int .u8 t219, .int .u8 t220, .int .u8 t221, .int .u8 t222, .string t223, .string t224, .string t225, .string t226, .string t227, .string t228, .string t229, .string t230, .string t231, .string t232] 27 (0,0)) (by (with_reducible repeat (first | refine kN ?_ _ | refine kD ?_ | refine kA ?_ _)); exact BK235.out) hb); have n2_:=Aside0.mk (below_step (by repeat (first | (with_reducible first | exact HB.out | apply bA | apply bN | apply bD | refine below_set ?_ GE235.out) | exact HB.out)) hb); clear BK235; clear HB; have HO239:=n0_; have BK235:=n1_; have HB:=n2_; clear n0_ n1_ n2_; (try clear hb); (try clear ho0); obtain ⟨Ao20,co20,eo20⟩:=Kd.R_slice HO239.out; subst eo20) | ((with_reducible refine gate_callee (f:=18) rfl ?_); refine goesL_ (some 41) rfl rfl Tryd.func18 (by kernel_rfl) rfl #[.slice Ao20 t237.length co20] rfl (by (try simp only [List.map_toArray,List.map_cons,List.map_nil]); first | done | rfl | (simp only [List.length_drop,List.length_take]; rfl)) ?_; (with_reducible refine (frame_Wrap.calls _ _ t237 t241 t242 _ ?side1 ?side2 A17.out (globe_below HGLOE.out (by repeat (first | (with_reducible first | exact HB.out | apply bA | apply bN | apply bD | refine below_set ?_ GE235.out) | exact HB.out)))).mono ?_); (case side1=>repeat (first | exact (Kd.R_reads' HO239.out).2.2 | (with_reducible refine Kd.C_alloc ?_ _) | (with_reducible refine Kd.C_drewN ?_ _) | (with_reducible refine Kd.C_drew ?_))); (case side2=>exact (Kd.R_reads' HO239.out).2.1); rintro e w21 ⟨v243,rfl,ho0,hb⟩; refine ⟨_,rfl,?_⟩; have n0_:=Aside0.mk (Kd.R_elder' (by (with_reducible repeat (first | apply Kd.R_alloc | apply Kd.R_drewN | apply Kd.R_drew)); exact HO239.out) (Kd.R_base ho0) hb); have n1_:=Aside0.mk (Kd.R_lower (Kd.R_new' ho0 (Kd.R_lt (by (with_reducible repeat (first | apply Kd.R_alloc | apply Kd.R_drewN | apply Kd.R_drew)); exact HO239.out))) (below_size (by repeat (first | (with_reducible first | exact HB.out | apply bA | apply bN | apply bD | refine below_set ?_ GE235.out) | exact HB.out)))); have n2_:=Aside0.mk (blk_below (g:=gb235) (o := .cells #[.int .u8 t218, .int .u8 t219, .int .u8 t220, .int .u8 t221, .int .u8 t222, .string t223, .string t224, .string t225, .string t226, .string t227, .string t228, .string t229, .string t230, .string t231, .string t232] 27 (0,0)) (by (with_reducible repeat (first | refine kN ?_ _ | refine kD ?_ | refine kA ?_ _)); exact BK235.out) hb); have n3_:=Aside0.mk (below_step (by repeat (first | (with_reducible first | exact HB.out | apply bA | apply bN | apply bD | refine below_set ?_ GE235.out) | exact HB.out)) hb); clear HO239; clear BK235; clear HB; have HO239:=n0_; have HO244:=n1_; have BK235:=n2_; have HB:=n3_; clear n0_ n1_ n2_ n3_; (try clear hb); (try clear ho0)))
         go_ret2
         exact ⟨_,by first | rfl | (simp [errW_none,errW_some] <;> rfl) | (simp [*,errW_none,errW_some] <;> rfl),by (with_reducible repeat (first | apply Kd.R_alloc | apply Kd.R_drewN | apply Kd.R_drew)); exact Kd.R_mono HO244.out (fun _ hk=>trivial),by repeat (first | (with_reducible first | exact HB.out | apply bA | apply bN | apply bD | refine below_set ?_ GE235.out) | exact HB.out)⟩
        ·rw [if_neg c16] at H
         have c16b0 : (t240 == 0)=false:=beq_eq_false_iff_ne.mpr c16
         have c16b1 : (t240 != 0)=true:=bne_iff_ne.mpr c16
         simp only [Option.some.injEq,Prod.mk.injEq] at H
         obtain ⟨rfl,rfl⟩:=H
         have hcz22_0:wc.cell? ⟨gb235,0,none⟩=some (.int .u8 t218):=blk_cell BK235.out 0
         have hcz22_1:wc.cell? ⟨gb235,1,none⟩=some (.int .u8 t219):=blk_cell BK235.out 1
         have hcz22_2:wc.cell? ⟨gb235,2,none⟩=some (.int .u8 t220):=blk_cell BK235.out 2
         have hcz22_3:wc.cell? ⟨gb235,3,none⟩=some (.int .u8 t221):=blk_cell BK235.out 3
         have hcz22_4:wc.cell? ⟨gb235,4,none⟩=some (.int .u8 t222):=blk_cell BK235.out 4
         have hcz22_5:wc.cell? ⟨gb235,5,none⟩=some (.string t223):=blk_cell BK235.out 5
         have hcz22_6:wc.cell? ⟨gb235,6,none⟩=some (.string t224):=blk_cell BK235.out 6
         have hcz22_7:wc.cell? ⟨gb235,7,none⟩=some (.string t225):=blk_cell BK235.out 7
         have hcz22_8:wc.cell? ⟨gb235,8,none⟩=some (.string t226):=blk_cell BK235.out 8
         have hcz22_9:wc.cell? ⟨gb235,9,none⟩=some (.string t227):=blk_cell BK235.out 9
         have hcz22_10:wc.cell? ⟨gb235,10,none⟩=some (.string t228):=blk_cell BK235.out 10
         have hcz22_11:wc.cell? ⟨gb235,11,none⟩=some (.string t229):=blk_cell BK235.out 11
         have hcz22_12:wc.cell? ⟨gb235,12,none⟩=some (.string t230):=blk_cell BK235.out 12
         have hcz22_13:wc.cell? ⟨gb235,13,none⟩=some (.string t231):=blk_cell BK235.out 13
         have hcz22_14:wc.cell? ⟨gb235,14,none⟩=some (.string t232):=blk_cell BK235.out 14
         have hfz22_0:=blk_frozen BK235.out 0
         have hfz22_1:=blk_frozen BK235.out 1
         have hfz22_2:=blk_frozen BK235.out 2
         have hfz22_3:=blk_frozen BK235.out 3
         have hfz22_4:=blk_frozen BK235.out 4
         have hfz22_5:=blk_frozen BK235.out 5
         have hfz22_6:=blk_frozen BK235.out 6
         have hfz22_7:=blk_frozen BK235.out 7
         have hfz22_8:=blk_frozen BK235.out 8
         have hfz22_9:=blk_frozen BK235.out 9
         have hfz22_10:=blk_frozen BK235.out 10
         have hfz22_11:=blk_frozen BK235.out 11
         have hfz22_12:=blk_frozen BK235.out 12
         have hfz22_13:=blk_frozen BK235.out 13
         have hfz22_14:=blk_frozen BK235.out 14
         go_wp2_with (first | ((with_reducible refine gate_callee (f:=17) rfl ?_); refine goesL_ (some 34) rfl rfl Tryd.func17 (by kernel_rfl) rfl #[.agg #[.int .u8 t218, .int .u8 t219, .int .u8 t220, .int .u8 t221, .int .u8 t222, .string t223, .string t224, .string t225, .string t226, .string t227, .string t228, .string t229, .string t230, .string t231, .string t232], .string x7_12] rfl (by (try simp only [List.map_toArray,List.map_cons,List.map_nil]); first | done | rfl | (simp only [List.length_drop,List.length_take]; rfl)) ?_; (with_reducible refine (ack_Build.calls kj12 t218 t219 t220 t221 t222 t223 t224 t225 t226 t227 t228 t229 t230 t231 t232 x7_12 t237 t240 _ A15.out (globc_below HGLOC.out (by repeat (first | (with_reducible first | exact HB.out | apply bA | apply bN | apply bD | refine below_set ?_ GE235.out) | exact HB.out)))).mono ?_); rintro e w23 ⟨v238,rfl,ho0,hb⟩; refine ⟨_,rfl,?_⟩; have n0_:=Aside0.mk (Kd.R_lower ho0 (below_size (by repeat (first | (with_reducible first | exact HB.out | apply bA | apply bN | apply bD | refine below_set ?_ GE235.out) | exact HB.out)))); have n1_:=Aside0.mk (blk_below (g:=gb235) (o := .cells #[.int .u8 t218, .int .u8 t219, .int .u8 t220, .int .u8 t221, .int .u8 t222, .string t223, .string t224, .string t225, .string t226, .string t227, .string t228, .string t229, .string t230, .string t231, .string t232] 27 (0,0)) (by (with_reducible repeat (first | refine kN ?_ _ | refine kD ?_ | refine kA ?_ _)); exact BK235.out) hb); have n2_:=Aside0.mk (below_step (by repeat (first | (with_reducible first | exact HB.out | apply bA | apply bN | apply bD | refine below_set ?_ GE235.out) | exact HB.out)) hb); clear BK235; clear HB; have HO239:=n0_; have BK235:=n1_; have HB:=n2_; clear n0_ n1_ n2_; (try clear hb); (try clear ho0)))
         go_ret2
         exact ⟨_,by first | rfl | (simp [errW_none,errW_some] <;> rfl) | (simp [*,errW_none,errW_some] <;> rfl),by first | exact Kd.R_nil _ _ _ _ _ | exact Kd.N_nil _ _ _ _ _ | exact Kd.V_nil _ _ _ _ _ | exact Kd.Q_nil _ _ _ _ _ | exact Kd.S_nil _ _ _ _ _,by repeat (first | (with_reducible first | exact HB.out | apply bA | apply bN | apply bD | refine below_set ?_ GE235.out) | exact HB.out)⟩

end Go.Proofs.YtljdbphojcglgaaDoor.PF
