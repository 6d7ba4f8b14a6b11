import Derived.Test.YtljdbphojcglgaaDoorPFx0
import Derived.Test.YtljdbphojcglgaaDoorPFx2
import Derived.Test.YtljdbphojcglgaaDoorPFx3
import Derived.Test.YtljdbphojcglgaaDoorPFx5
import Derived.Test.YtljdbphojcglgaaDoorPFx10
namespace Go.Proofs.YtljdbphojcglgaaDoor.PF
open Go.RowKit Go.Proofs.YtljdbphojcglgaaDoorW.PrintWords Go.Proofs.YtljdbphojcglgaaDoorW.PrintLast Go.Proofs.YtljdbphojcglgaaDoorW.PrintMore
set_option maxHeartbeats 8000000
set_option maxRecDepth 100000
attribute [local go_sem] max2_int min2_int max_two min_two max_three min_three max_four min_four
set_option linter.unusedVariables false
set_option linter.unusedSimpArgs false

/-! ### ack_Read: function 9 -/
def ack_Read.j0 : Nat→List ByteArray→Bool→Int→Int→Int→Int→Int→ByteArray→ByteArray→ByteArray→ByteArray→ByteArray→ByteArray→ByteArray→ByteArray→ByteArray→ByteArray→Option (ByteArray × ByteArray × Int)
 | 0,_,_,_,_,_,_,_,_,_,_,_,_,_,_,_,_,_=>none
 | k + 1,x6,x28,x272000,x272001,x272002,x272003,x272004,x272005,x272006,x272007,x272008,x272009,x272010,x272011,x272012,x272013,x272014=>if x28=true then (some ((⟨#[]⟩ : ByteArray),(⟨#[]⟩ : ByteArray),10)) else (if 1 < (x6.length : Int) then ((segment_Field.f (rdOf ByteArray.empty x6 1) 1 x272000 x272001 x272002 x272003 x272004).bind fun bt279=>((segment_Field.f (rdOf ByteArray.empty x6 1) 2 x272000 x272001 x272002 x272003 x272004).bind fun bt282=>((ack_Known.f k bt279.1).bind fun t284=>(if t284=true then (some (bt279.1,bt282.1,0)) else (some ((⟨#[]⟩ : ByteArray),(⟨#[]⟩ : ByteArray),17)))))) else (none))
def ack_Read.f (k : Nat) (l0 : List Int) : Option (ByteArray × ByteArray × Int):=(msh_Read.f k l0).bind fun bt255=>(if bt255.2.2.2.2.2.2.2.2.2.2.2.2.2.2.2=0 then ((segment_Split.f l0).bind fun t272=>(if (t272.length : Int) < 2 then (ack_Read.j0 k t272 true bt255.1 bt255.2.1 bt255.2.2.1 bt255.2.2.2.1 bt255.2.2.2.2.1 bt255.2.2.2.2.2.1 bt255.2.2.2.2.2.2.1 bt255.2.2.2.2.2.2.2.1 bt255.2.2.2.2.2.2.2.2.1 bt255.2.2.2.2.2.2.2.2.2.1 bt255.2.2.2.2.2.2.2.2.2.2.1 bt255.2.2.2.2.2.2.2.2.2.2.2.1 bt255.2.2.2.2.2.2.2.2.2.2.2.2.1 bt255.2.2.2.2.2.2.2.2.2.2.2.2.2.1 bt255.2.2.2.2.2.2.2.2.2.2.2.2.2.2.1) else (if 1 < (t272.length : Int) then ((segment_Name.f (rdOf ByteArray.empty t272 1)).bind fun t276=>(ack_Read.j0 k t272 (t276.toList != ([77,83,65] : List UInt8)) bt255.1 bt255.2.1 bt255.2.2.1 bt255.2.2.2.1 bt255.2.2.2.2.1 bt255.2.2.2.2.2.1 bt255.2.2.2.2.2.2.1 bt255.2.2.2.2.2.2.2.1 bt255.2.2.2.2.2.2.2.2.1 bt255.2.2.2.2.2.2.2.2.2.1 bt255.2.2.2.2.2.2.2.2.2.2.1 bt255.2.2.2.2.2.2.2.2.2.2.2.1 bt255.2.2.2.2.2.2.2.2.2.2.2.2.1 bt255.2.2.2.2.2.2.2.2.2.2.2.2.2.1 bt255.2.2.2.2.2.2.2.2.2.2.2.2.2.2.1)) else (none)))) else (some ((⟨#[]⟩ : ByteArray),(⟨#[]⟩ : ByteArray),bt255.2.2.2.2.2.2.2.2.2.2.2.2.2.2.2)))
theorem ack_Read.mono_l : ∀ k,(∀ y0 y1 y2 y3 y4 y5 y6 y7 y8 y9 y10 y11 y12 y13 y14 y15 y16,LeO (ack_Read.j0 k y0 y1 y2 y3 y4 y5 y6 y7 y8 y9 y10 y11 y12 y13 y14 y15 y16) (ack_Read.j0 (k + 1) y0 y1 y2 y3 y4 y5 y6 y7 y8 y9 y10 y11 y12 y13 y14 y15 y16))
 | 0=>fun _ _ _ _ _ _ _ _ _ _ _ _ _ _ _ _ _ r h=>by simp [ack_Read.j0] at h
 | k + 1=>by
  have ih0:=ack_Read.mono_l k
  ·intro y0 y1 y2 y3 y4 y5 y6 y7 y8 y9 y10 y11 y12 y13 y14 y15 y16
   unfold ack_Read.j0
   repeat' first
   | (with_reducible exact ih0 _ _ _ _ _ _ _ _ _ _ _ _ _ _ _ _ _)
   | (with_reducible exact ack_Known.mono _ _)
   | (with_reducible exact msh_Read.mono _ _)
   | (with_reducible exact LeO.refl _)
   | (with_reducible exact LeO.none _)
   | (with_reducible refine LeO.ite ?_ ?_)
   | (with_reducible refine LeO.bind ?_ (fun _=>?_))
   | exact ih0 _ _ _ _ _ _ _ _ _ _ _ _ _ _ _ _ _
   | exact ack_Known.mono _ _
   | exact msh_Read.mono _ _
   | exact LeO.none _
   | refine LeO.ite ?_ ?_
   | refine LeO.bind ?_ (fun _=>?_)
theorem ack_Read.mono : ∀ a0 k,LeO (ack_Read.f k a0) (ack_Read.f (k + 1) a0):=by
 intro a0 k
 have ih0:=ack_Read.mono_l k
 unfold ack_Read.f
 repeat' first
   | (with_reducible exact ih0 _ _ _ _ _ _ _ _ _ _ _ _ _ _ _ _ _)
   | (with_reducible exact ack_Known.mono _ _)
   | (with_reducible exact msh_Read.mono _ _)
   | (with_reducible exact LeO.refl _)
   | (with_reducible exact LeO.none _)
   | (with_reducible refine LeO.ite ?_ ?_)
   | (with_reducible refine LeO.bind ?_ (fun _=>?_))
   | exact ih0 _ _ _ _ _ _ _ _ _ _ _ _ _ _ _ _ _
   | exact ack_Known.mono _ _
   | exact msh_Read.mono _ _
   | exact LeO.none _
   | refine LeO.ite ?_ ?_
   | refine LeO.bind ?_ (fun _=>?_)
def ack_Read.T8 : Bool × List (List Nat × List Nat):=(true,[([],[]),([0],[0]),([1],[1]),([],[]),([3],[3]),([2,4],[2,4]),([5],[5]),([6],[6]),([6],[6]),([0,1,2,3,4,5,6,7],[]),([9,7,5,0,1,2,3,4,5,6,7],[7,9])])
def ack_Read.B8 : List Nat:=[0,1,3,0,8,31,63,127,127,255,767]
theorem ack_Read.tab8 : rtab .any (opsOf Tryd.f9 8)=ack_Read.T8:=by kernel_rfl
theorem ack_Read.bits8 : waitsOk ack_Read.T8.2 ack_Read.B8=true:=by kernel_rfl
def ack_Read.T9 : Bool × List (List Nat × List Nat):=(true,[([],[]),([0],[0]),([1],[1]),([],[]),([3],[3]),([2,4],[2,4]),([5],[5]),([6],[6]),([6],[6]),([0,1,2,3,4,5,6,7],[]),([9,7,5,0,1,2,3,4,5,6,7],[7,9])])
def ack_Read.B9 : List Nat:=[0,1,3,0,8,31,63,127,127,255,767]
theorem ack_Read.tab9 : rtab .any (opsOf Tryd.f9 9)=ack_Read.T9:=by kernel_rfl
theorem ack_Read.bits9 : waitsOk ack_Read.T9.2 ack_Read.B9=true:=by kernel_rfl
theorem ack_Read.calls (k : Nat) (A0 : Option Addr) (c0 : Nat) (l0 : List Int) (r1 : ByteArray) (r2 : ByteArray) (r3 : Int) (w : World) (hr0 : Kd.C (Kd.int .u8) w A0 l0.length l0) (hc0 : l0.length≤c0) (h : ack_Read.f k l0=some (r1,r2,r3)) (hGC : GlobC w) :
  Calls Tryd.prog 9 #[.slice A0 l0.length c0] w fun e w'=>e = .returned (.tuple #[.agg #[.string r1, .string r2], .int .i64 r3])∧Below w.heap.size w w':=by
 have HGLOC:=Lib.hid hGC
 clear hGC
 have hu37:=Tryd.underlying37
 have hu27:=Tryd.underlying27
 have hu25:=Tryd.underlying25
 have HR0:=Aside0.mk hr0
 have HC0:=Aside0.mk hc0
 clear hr0 hc0
 have HB:=Aside0.mk (Below.refl w.heap.size w)
 have H : ((msh_Read.f k l0).bind fun bt255=>(if bt255.2.2.2.2.2.2.2.2.2.2.2.2.2.2.2=0 then ((segment_Split.f l0).bind fun t272=>(if (t272.length : Int) < 2 then (ack_Read.j0 k t272 true bt255.1 bt255.2.1 bt255.2.2.1 bt255.2.2.2.1 bt255.2.2.2.2.1 bt255.2.2.2.2.2.1 bt255.2.2.2.2.2.2.1 bt255.2.2.2.2.2.2.2.1 bt255.2.2.2.2.2.2.2.2.1 bt255.2.2.2.2.2.2.2.2.2.1 bt255.2.2.2.2.2.2.2.2.2.2.1 bt255.2.2.2.2.2.2.2.2.2.2.2.1 bt255.2.2.2.2.2.2.2.2.2.2.2.2.1 bt255.2.2.2.2.2.2.2.2.2.2.2.2.2.1 bt255.2.2.2.2.2.2.2.2.2.2.2.2.2.2.1) else (if 1 < (t272.length : Int) then ((segment_Name.f (rdOf ByteArray.empty t272 1)).bind fun t276=>(ack_Read.j0 k t272 (t276.toList != ([77,83,65] : List UInt8)) bt255.1 bt255.2.1 bt255.2.2.1 bt255.2.2.2.1 bt255.2.2.2.2.1 bt255.2.2.2.2.2.1 bt255.2.2.2.2.2.2.1 bt255.2.2.2.2.2.2.2.1 bt255.2.2.2.2.2.2.2.2.1 bt255.2.2.2.2.2.2.2.2.2.1 bt255.2.2.2.2.2.2.2.2.2.2.1 bt255.2.2.2.2.2.2.2.2.2.2.2.1 bt255.2.2.2.2.2.2.2.2.2.2.2.2.1 bt255.2.2.2.2.2.2.2.2.2.2.2.2.2.1 bt255.2.2.2.2.2.2.2.2.2.2.2.2.2.2.1)) else (none)))) else (some ((⟨#[]⟩ : ByteArray),(⟨#[]⟩ : ByteArray),bt255.2.2.2.2.2.2.2.2.2.2.2.2.2.2.2))))=some (r1,r2,r3):=h
 clear h
 replace H:=Option.bind_eq_some_iff.mp H
 obtain ⟨⟨t255,t256,t257,t258,t259,t260,t261,t262,t263,t264,t265,t266,t267,t268,t269,t270⟩,A20,H⟩:=H
 replace H : (if t270=0 then ((segment_Split.f l0).bind fun t272=>(if (t272.length : Int) < 2 then (ack_Read.j0 k t272 true t255 t256 t257 t258 t259 t260 t261 t262 t263 t264 t265 t266 t267 t268 t269) else (if 1 < (t272.length : Int) then ((segment_Name.f (rdOf ByteArray.empty t272 1)).bind fun t276=>(ack_Read.j0 k t272 (t276.toList != ([77,83,65] : List UInt8)) t255 t256 t257 t258 t259 t260 t261 t262 t263 t264 t265 t266 t267 t268 t269)) else (none)))) else (some ((⟨#[]⟩ : ByteArray),(⟨#[]⟩ : ByteArray),t270)))=some (r1,r2,r3):=H
 have A2:=Aside0.mk A20
 clear A20
 by_cases c3 : t270=0
 ·rw [if_pos c3] at H
  have c3b0 : (t270 == 0)=true:=beq_iff_eq.mpr c3
  have c3b1 : (t270 != 0)=false:=bne_eq_false_iff_eq.mpr c3
  clear c3
  replace H:=Option.bind_eq_some_iff.mp H
  obtain ⟨t272,A40,H⟩:=H
  replace H : (if (t272.length : Int) < 2 then (ack_Read.j0 k t272 true t255 t256 t257 t258 t259 t260 t261 t262 t263 t264 t265 t266 t267 t268 t269) else (if 1 < (t272.length : Int) then ((segment_Name.f (rdOf ByteArray.empty t272 1)).bind fun t276=>(ack_Read.j0 k t272 (t276.toList != ([77,83,65] : List UInt8)) t255 t256 t257 t258 t259 t260 t261 t262 t263 t264 t265 t266 t267 t268 t269)) else (none)))=some (r1,r2,r3):=H
  have A4:=Aside0.mk A40
  clear A40
  have HC5:=Aside0.mk H
  clear H
  go_enter Tryd.func9,Tryd.ntmps9
  go_upto_region 5 with (first | ((with_reducible refine gate_dst (N:=2) rfl ?_); refine box_event ?hg (N:=2) ?hd (cs:=#[.string (⟨#[]⟩ : ByteArray), .string (⟨#[]⟩ : ByteArray)]) (t:=37) ?hr ?_; (case hd=>rfl); (case hg=>rfl); (case hr=>first | (go_simp; done) | (go_simp; rfl)); intro gb254 hg w6 hbox hb; have n0_:=Aside0.mk (below_step (by repeat (first | (with_reducible first | exact HB.out | apply bA | apply bN | apply bD) | exact HB.out)) hb); have n1_:=Aside0.mk (hbox); have n2_:=Aside0.mk ((by rw [hg]; exact (below_size (by repeat (first | (with_reducible first | exact HB.out | apply bA | apply bN | apply bD) | exact HB.out))) : w.heap.size≤gb254)); have n3_:=Aside0.mk ((by rw [hg]; exact (below_size (by repeat (first | (with_reducible first | exact HB.out | apply bA | apply bN | apply bD) | exact HB.out))) : w.heap.size≤gb254)); clear HB; have HB:=n0_; have BK254:=n1_; have GW254:=n2_; have GE254:=n3_; clear n0_ n1_ n2_ n3_; clear hb hbox hg) | ((with_reducible refine gate_callee (f:=11) rfl ?_); refine goesL_ (some 10) rfl rfl Tryd.func11 (by kernel_rfl) rfl #[.slice A0 l0.length c0] rfl (by (try simp only [List.map_toArray,List.map_cons,List.map_nil]); first | done | rfl | (simp only [List.length_drop,List.length_take]; rfl)) ?_; (with_reducible refine (msh_Read.calls k _ _ l0 t255 t256 t257 t258 t259 t260 t261 t262 t263 t264 t265 t266 t267 t268 t269 t270 _ ?side1 ?side2 A2.out).mono ?_); (case side1=>repeat (first | exact (Kd.C_below HR0.out HB.out) | (with_reducible refine Kd.C_alloc ?_ _) | (with_reducible refine Kd.C_drewN ?_ _) | (with_reducible refine Kd.C_drew ?_))); (case side2=>exact HC0.out); rintro e w7 ⟨rfl,hb⟩; refine ⟨_,rfl,?_⟩; have n0_:=Aside0.mk (blk_below (g:=gb254) (o := .cells #[.string (⟨#[]⟩ : ByteArray), .string (⟨#[]⟩ : ByteArray)] 37 (0,0)) (by (with_reducible repeat (first | refine kN ?_ _ | refine kD ?_ | refine kA ?_ _)); exact BK254.out) hb); have n1_:=Aside0.mk (below_step (by repeat (first | (with_reducible first | exact HB.out | apply bA | apply bN | apply bD | refine below_set ?_ GE254.out) | exact HB.out)) hb); clear BK254; clear HB; have BK254:=n0_; have HB:=n1_; clear n0_ n1_; (try clear hb)) | ((with_reducible refine gate_dst (N:=4) rfl ?_); refine box_event ?hg (N:=4) ?hd (cs:=#[.int .u8 0, .int .u8 0, .int .u8 0, .int .u8 0, .int .u8 0, .string (⟨#[]⟩ : ByteArray), .string (⟨#[]⟩ : ByteArray), .string (⟨#[]⟩ : ByteArray), .string (⟨#[]⟩ : ByteArray), .string (⟨#[]⟩ : ByteArray), .string (⟨#[]⟩ : ByteArray), .string (⟨#[]⟩ : ByteArray), .string (⟨#[]⟩ : ByteArray), .string (⟨#[]⟩ : ByteArray), .string (⟨#[]⟩ : ByteArray)]) (t:=27) ?hr ?_; (case hd=>rfl); (case hg=>rfl); (case hr=>first | (go_simp; done) | (go_simp; rfl)); intro gb271 hg w8 hbox hb; have n0_:=Aside0.mk (blk_below (g:=gb254) (o := .cells #[.string (⟨#[]⟩ : ByteArray), .string (⟨#[]⟩ : ByteArray)] 37 (0,0)) (by (with_reducible repeat (first | refine kN ?_ _ | refine kD ?_ | refine kA ?_ _)); exact BK254.out) hb); have n1_:=Aside0.mk (below_step (by repeat (first | (with_reducible first | exact HB.out | apply bA | apply bN | apply bD | refine below_set ?_ GE254.out) | exact HB.out)) hb); have n2_:=Aside0.mk (hbox); have n3_:=Aside0.mk ((by rw [hg]; exact (below_size (by repeat (first | (with_reducible first | exact HB.out | apply bA | apply bN | apply bD | refine below_set ?_ GE254.out) | exact HB.out))) : w.heap.size≤gb271)); have n4_:=Aside0.mk ((by rw [hg]; exact (below_size (by repeat (first | (with_reducible first | exact HB.out | apply bA | apply bN | apply bD | refine below_set ?_ GE254.out) | exact HB.out))) : w.heap.size≤gb271)); have n5_:=Aside0.mk ((by rw [hg]; exact Nat.ne_of_lt (blk_lt (g:=gb254) (o := .cells #[.string (⟨#[]⟩ : ByteArray), .string (⟨#[]⟩ : ByteArray)] 37 (0,0)) (by (with_reducible repeat (first | refine kN ?_ _ | refine kD ?_ | refine kA ?_ _)); exact BK254.out)) : gb254 ≠ gb271)); have n6_:=Aside0.mk ((by rw [hg]; exact Nat.ne_of_gt (blk_lt (g:=gb254) (o := .cells #[.string (⟨#[]⟩ : ByteArray), .string (⟨#[]⟩ : ByteArray)] 37 (0,0)) (by (with_reducible repeat (first | refine kN ?_ _ | refine kD ?_ | refine kA ?_ _)); exact BK254.out)) : gb271 ≠ gb254)); clear BK254; clear HB; have BK254:=n0_; have HB:=n1_; have BK271:=n2_; have GW271:=n3_; have GE271:=n4_; have NB254_271:=n5_; have NB271_254:=n6_; clear n0_ n1_ n2_ n3_ n4_ n5_ n6_; clear hb hbox hg; have hnb9:=NB271_254.out; have hnc9:=NB254_271.out; have hcz10_0:w8.cell? ⟨gb271,0,none⟩=some (.int .u8 0):=blk_cell BK271.out 0; have hcz10_1:w8.cell? ⟨gb271,1,none⟩=some (.int .u8 0):=blk_cell BK271.out 1; have hcz10_2:w8.cell? ⟨gb271,2,none⟩=some (.int .u8 0):=blk_cell BK271.out 2; have hcz10_3:w8.cell? ⟨gb271,3,none⟩=some (.int .u8 0):=blk_cell BK271.out 3; have hcz10_4:w8.cell? ⟨gb271,4,none⟩=some (.int .u8 0):=blk_cell BK271.out 4; have hcz10_5:w8.cell? ⟨gb271,5,none⟩=some (.string (⟨#[]⟩ : ByteArray)):=blk_cell BK271.out 5; have hcz10_6:w8.cell? ⟨gb271,6,none⟩=some (.string (⟨#[]⟩ : ByteArray)):=blk_cell BK271.out 6; have hcz10_7:w8.cell? ⟨gb271,7,none⟩=some (.string (⟨#[]⟩ : ByteArray)):=blk_cell BK271.out 7; have hcz10_8:w8.cell? ⟨gb271,8,none⟩=some (.string (⟨#[]⟩ : ByteArray)):=blk_cell BK271.out 8; have hcz10_9:w8.cell? ⟨gb271,9,none⟩=some (.string (⟨#[]⟩ : ByteArray)):=blk_cell BK271.out 9; have hcz10_10:w8.cell? ⟨gb271,10,none⟩=some (.string (⟨#[]⟩ : ByteArray)):=blk_cell BK271.out 10; have hcz10_11:w8.cell? ⟨gb271,11,none⟩=some (.string (⟨#[]⟩ : ByteArray)):=blk_cell BK271.out 11; have hcz10_12:w8.cell? ⟨gb271,12,none⟩=some (.string (⟨#[]⟩ : ByteArray)):=blk_cell BK271.out 12; have hcz10_13:w8.cell? ⟨gb271,13,none⟩=some (.string (⟨#[]⟩ : ByteArray)):=blk_cell BK271.out 13; have hcz10_14:w8.cell? ⟨gb271,14,none⟩=some (.string (⟨#[]⟩ : ByteArray)):=blk_cell BK271.out 14; have hfz10_0:=blk_frozen BK271.out 0; have hfz10_1:=blk_frozen BK271.out 1; have hfz10_2:=blk_frozen BK271.out 2; have hfz10_3:=blk_frozen BK271.out 3; have hfz10_4:=blk_frozen BK271.out 4; have hfz10_5:=blk_frozen BK271.out 5; have hfz10_6:=blk_frozen BK271.out 6; have hfz10_7:=blk_frozen BK271.out 7; have hfz10_8:=blk_frozen BK271.out 8; have hfz10_9:=blk_frozen BK271.out 9; have hfz10_10:=blk_frozen BK271.out 10; have hfz10_11:=blk_frozen BK271.out 11; have hfz10_12:=blk_frozen BK271.out 12; have hfz10_13:=blk_frozen BK271.out 13; have hfz10_14:=blk_frozen BK271.out 14) | ((with_reducible refine gate_callee (f:=21) rfl ?_); refine goesL_ (some 18) rfl rfl Tryd.func21 (by kernel_rfl) rfl #[.slice A0 l0.length c0] rfl (by (try simp only [List.map_toArray,List.map_cons,List.map_nil]); first | done | rfl | (simp only [List.length_drop,List.length_take]; rfl)) ?_; (with_reducible refine (segment_Split.calls _ _ l0 t272 _ ?side1 ?side2 A4.out).mono ?_); (case side1=>exact Kd.C_below HR0.out (by repeat (first | (with_reducible first | exact HB.out | apply bA | apply bN | apply bD | refine below_set ?_ GE254.out | refine below_set ?_ GE271.out) | exact HB.out))); (case side2=>exact HC0.out); rintro e w11 ⟨v273,rfl,ho0,hb⟩; refine ⟨_,rfl,?_⟩; have n0_:=Aside0.mk (Kd.R_lower ho0 (below_size (by repeat (first | (with_reducible first | exact HB.out | apply bA | apply bN | apply bD | refine below_set ?_ GE254.out | refine below_set ?_ GE271.out) | exact HB.out)))); have n1_:=Aside0.mk (blk_below (g:=gb254) (o := .cells #[.string (⟨#[]⟩ : ByteArray), .string (⟨#[]⟩ : ByteArray)] 37 (0,0)) (by (with_reducible repeat (first | refine kN ?_ _ | refine kD ?_ | refine kA ?_ _)); refine blk_far ?_ NB254_271.out _; (with_reducible repeat (first | refine kN ?_ _ | refine kD ?_ | refine kA ?_ _)); refine blk_far ?_ NB254_271.out _; (with_reducible repeat (first | refine kN ?_ _ | refine kD ?_ | refine kA ?_ _)); refine blk_far ?_ NB254_271.out _; (with_reducible repeat (first | refine kN ?_ _ | refine kD ?_ | refine kA ?_ _)); refine blk_far ?_ NB254_271.out _; (with_reducible repeat (first | refine kN ?_ _ | refine kD ?_ | refine kA ?_ _)); refine blk_far ?_ NB254_271.out _; (with_reducible repeat (first | refine kN ?_ _ | refine kD ?_ | refine kA ?_ _)); refine blk_far ?_ NB254_271.out _; (with_reducible repeat (first | refine kN ?_ _ | refine kD ?_ | refine kA ?_ _)); refine blk_far ?_ NB254_271.out _; (with_reducible repeat (first | refine kN ?_ _ | refine kD ?_ | refine kA ?_ _)); refine blk_far ?_ NB254_271.out _; (with_reducible repeat (first | refine kN ?_ _ | refine kD ?_ | refine kA ?_ _)); refine blk_far ?_ NB254_271.out _; (with_reducible repeat (first | refine kN ?_ _ | refine kD ?_ | refine kA ?_ _)); refine blk_far ?_ NB254_271.out _; (with_reducible repeat (first | refine kN ?_ _ | refine kD ?_ | refine kA ?_ _)); refine blk_far ?_ NB254_271.out _; (with_reducible repeat (first | refine kN ?_ _ | refine kD ?_ | refine kA ?_ _)); refine blk_far ?_ NB254_271.out _; (with_reducible repeat (first | refine kN ?_ _ | refine kD ?_ | refine kA ?_ _)); refine blk_far ?_ NB254_271.out _; (with_reducible repeat (first | refine kN ?_ _ | refine kD ?_ | refine kA ?_ _)); refine blk_far ?_ NB254_271.out _; (with_reducible repeat (first | refine kN ?_ _ | refine kD ?_ | refine kA ?_ _)); refine blk_far ?_ NB254_271.out _; (with_reducible repeat (first | refine kN ?_ _ | refine kD ?_ | refine kA ?_ _)); exact BK254.out) hb); have n2_:=Aside0.mk (blk_below (g:=gb271) (o := .cells #[.int .u8 t255, .int .u8 t256, .int .u8 t257, .int .u8 t258, .int .u8 t259, .string t260, .string t261, .string t262, .string t263, .string t264, .string t265, .string t266, .string t267, .string t268, .string t269] 27 (0,0)) (by (with_reducible repeat (first | refine kN ?_ _ | refine kD ?_ | refine kA ?_ _)); refine blk_put (cs:=#[.int .u8 t255, .int .u8 t256, .int .u8 t257, .int .u8 t258, .int .u8 t259, .string t260, .string t261, .string t262, .string t263, .string t264, .string t265, .string t266, .string t267, .string t268, .string (⟨#[]⟩ : ByteArray)]) ?_ 14 _ rfl; (with_reducible repeat (first | refine kN ?_ _ | refine kD ?_ | refine kA ?_ _)); refine blk_put (cs:=#[.int .u8 t255, .int .u8 t256, .int .u8 t257, .int .u8 t258, .int .u8 t259, .string t260, .string t261, .string t262, .string t263, .string t264, .string t265, .string t266, .string t267, .string (⟨#[]⟩ : ByteArray), .string (⟨#[]⟩ : ByteArray)]) ?_ 13 _ rfl; (with_reducible repeat (first | refine kN ?_ _ | refine kD ?_ | refine kA ?_ _)); refine blk_put (cs:=#[.int .u8 t255, .int .u8 t256, .int .u8 t257, .int .u8 t258, .int .u8 t259, .string t260, .string t261, .string t262, .string t263, .string t264, .string t265, .string t266, .string (⟨#[]⟩ : ByteArray), .string (⟨#[]⟩ : ByteArray), .string (⟨#[]⟩ : ByteArray)]) ?_ 12 _ rfl; (with_reducible repeat (first | refine kN ?_ _ | refine kD ?_ | refine kA ?_ _)); refine blk_put (cs:=#[.int .u8 t255, .int .u8 t256, .int .u8 t257, .int .u8 t258, .int .u8 t259, .string t260, .string t261, .string t262, .string t263, .string t264, .string t265, .string (⟨#[]⟩ : ByteArray), .string (⟨#[]⟩ : ByteArray), .string (⟨#[]⟩ : ByteArray), .string (⟨#[]⟩ : ByteArray)]) ?_ 11 _ rfl; (with_reducible repeat (first | refine kN ?_ _ | refine kD ?_ | refine kA ?_ _)); refine blk_put (cs:=#[.int .u8 t255, .int .u8 t256, .int .u8 t257, .int .u8 t258, .int .u8 t259, .string t260, .string t261, .string t262, .string t263, .string t264, .string (⟨#[]⟩ : ByteArray), .string (⟨#[]⟩ : ByteArray), .string (⟨#[]⟩ : ByteArray), .string (⟨#[]⟩ : ByteArray), .string (⟨#[]⟩ : ByteArray)]) ?_ 10 _ rfl; (with_reducible repeat (first | refine kN ?_ _ | refine kD ?_ | refine kA ?_ _)); refine blk_put (cs:=#[.int .u8 t255, .int .u8 t256, .int .u8 t257, .int .u8 t258, .int .u8 t259, .string t260, .string t261, .string t262, .string t263, .string (⟨#[]⟩ : ByteArray), .string (⟨#[]⟩ : ByteArray), .string (⟨#[]⟩ : ByteArray), .string (⟨#[]⟩ : ByteArray), .string (⟨#[]⟩ : ByteArray), .string (⟨#[]⟩ : ByteArray)]) ?_ 9 _ rfl; (with_reducible repeat (first | refine kN ?_ _ | refine kD ?_ | refine kA ?_ _)); refine blk_put (cs:=#[.int .u8 t255, .int .u8 t256, .int .u8 t257, .int .u8 t258, .int .u8 t259, .string t260, .string t261, .string t262, .string (⟨#[]⟩ : ByteArray), .string (⟨#[]⟩ : ByteArray), .string (⟨#[]⟩ : ByteArray), .string (⟨#[]⟩ : ByteArray), .string (⟨#[]⟩ : ByteArray), .string (⟨#[]⟩ : ByteArray), .string (⟨#[]⟩ : ByteArray)]) ?_ 8 _ rfl; (with_reducible repeat (first | refine kN ?_ _ | refine kD ?_ | refine kA ?_ _)); refine blk_put (cs:=#[.int .u8 t255, .int .u8 t256, .int .u8 t257, .int .u8 t258, .int .u8 t259, .string t260, .string t261, .string (⟨#[]⟩ : ByteArray), .string (⟨#[]⟩ : ByteArray), .string (⟨#[]⟩ : ByteArray), .string (⟨#[]⟩ : ByteArray), .string (⟨#[]⟩ : ByteArray), .string (⟨#[]⟩ : ByteArray), .string (⟨#[]⟩ : ByteArray), .string (⟨#[]⟩ : ByteArray)]) ?_ 7 _ rfl; (with_reducible repeat (first | refine kN ?_ _ | refine kD ?_ | refine kA ?_ _)); refine blk_put (cs:=#[.int .u8 t255, .int .u8 t256, .int .u8 t257, .int .u8 t258, .int .u8 t259, .string t260, .string (⟨#[]⟩ : ByteArray), .string (⟨#[]⟩ : ByteArray), .string (⟨#[]⟩ : ByteArray), .string (⟨#[]⟩ : ByteArray), .string (⟨#[]⟩ : ByteArray), .string (⟨#[]⟩ : ByteArray), .string (⟨#[]⟩ : ByteArray), .string (⟨#[]⟩ : ByteArray), .string (⟨#[]⟩ : ByteArray)]) ?_ 6 _ rfl; (with_reducible repeat (first | refine kN ?_ _ | refine kD ?_ | refine kA ?_ _)); refine blk_put (cs:=#[.int .u8 t255, .int .u8 t256, .int .u8 t257, .int .u8 t258, .int .u8 t259, .string (⟨#[]⟩ : ByteArray), .string (⟨#[]⟩ : ByteArray), .string (⟨#[]⟩ : ByteArray), .string (⟨#[]⟩ : ByteArray), .string (⟨#[]⟩ : ByteArray), .string (⟨#[]⟩ : ByteArray), .string (⟨#[]⟩ : ByteArray), .string (⟨#[]⟩ : ByteArray), .string (⟨#[]⟩ : ByteArray), .string (⟨#[]⟩ : ByteArray)]) ?_ 5 _ rfl; (with_reducible repeat (first | refine kN ?_ _ | refine kD ?_ | refine kA ?_ _)); refine blk_put (cs:=#[.int .u8 t255, .int .u8 t256, .int .u8 t257, .int .u8 t258, .int .u8 0, .string (⟨#[]⟩ : ByteArray), .string (⟨#[]⟩ : ByteArray), .string (⟨#[]⟩ : ByteArray), .string (⟨#[]⟩ : ByteArray), .string (⟨#[]⟩ : ByteArray), .string (⟨#[]⟩ : ByteArray), .string (⟨#[]⟩ : ByteArray), .string (⟨#[]⟩ : ByteArray), .string (⟨#[]⟩ : ByteArray), .string (⟨#[]⟩ : ByteArray)]) ?_ 4 _ rfl; (with_reducible repeat (first | refine kN ?_ _ | refine kD ?_ | refine kA ?_ _)); refine blk_put (cs:=#[.int .u8 t255, .int .u8 t256, .int .u8 t257, .int .u8 0, .int .u8 0, .string (⟨#[]⟩ : ByteArray), .string (⟨#[]⟩ : ByteArray), .string (⟨#[]⟩ : ByteArray), .string (⟨#[]⟩ : ByteArray), .string (⟨#[]⟩ : ByteArray), .string (⟨#[]⟩ : ByteArray), .string (⟨#[]⟩ : ByteArray), .string (⟨#[]⟩ : ByteArray), .string (⟨#[]⟩ : ByteArray), .string (⟨#[]⟩ : ByteArray)]) ?_ 3 _ rfl; (with_reducible repeat (first | refine kN ?_ _ | refine kD ?_ | refine kA ?_ _)); refine blk_put (cs:=#[.int .u8 t255, .int .u8 t256, .int .u8 0, .int .u8 0, .int .u8 0, .string (⟨#[]⟩ : ByteArray), .string (⟨#[]⟩ : ByteArray), .string (⟨#[]⟩ : ByteArray), .string (⟨#[]⟩ : ByteArray), .string (⟨#[]⟩ : ByteArray), .string (⟨#[]⟩ : ByteArray), .string (⟨#[]⟩ : ByteArray), .string (⟨#[]⟩ : ByteArray), .string (⟨#[]⟩ : ByteArray), .string (⟨#[]⟩ : ByteArray)]) ?_ 2 _ rfl; (with_reducible repeat (first | refine kN ?_ _ | refine kD ?_ | refine kA ?_ _)); refine blk_put (cs:=#[.int .u8 t255, .int .u8 0, .int .u8 0, .int .u8 0, .int .u8 0, .string (⟨#[]⟩ : ByteArray), .string (⟨#[]⟩ : ByteArray), .string (⟨#[]⟩ : ByteArray), .string (⟨#[]⟩ : ByteArray), .string (⟨#[]⟩ : ByteArray), .string (⟨#[]⟩ : ByteArray), .string (⟨#[]⟩ : ByteArray), .string (⟨#[]⟩ : ByteArray), .string (⟨#[]⟩ : ByteArray), .string (⟨#[]⟩ : ByteArray)]) ?_ 1 _ rfl; (with_reducible repeat (first | refine kN ?_ _ | refine kD ?_ | refine kA ?_ _)); refine blk_put (cs:=#[.int .u8 0, .int .u8 0, .int .u8 0, .int .u8 0, .int .u8 0, .string (⟨#[]⟩ : ByteArray), .string (⟨#[]⟩ : ByteArray), .string (⟨#[]⟩ : ByteArray), .string (⟨#[]⟩ : ByteArray), .string (⟨#[]⟩ : ByteArray), .string (⟨#[]⟩ : ByteArray), .string (⟨#[]⟩ : ByteArray), .string (⟨#[]⟩ : ByteArray), .string (⟨#[]⟩ : ByteArray), .string (⟨#[]⟩ : ByteArray)]) ?_ 0 _ rfl; (with_reducible repeat (first | refine kN ?_ _ | refine kD ?_ | refine kA ?_ _)); exact BK271.out) hb); have n3_:=Aside0.mk (below_step (by repeat (first | (with_reducible first | exact HB.out | apply bA | apply bN | apply bD | refine below_set ?_ GE254.out | refine below_set ?_ GE271.out) | exact HB.out)) hb); clear BK254; clear BK271; clear HB; have HO274:=n0_; have BK254:=n1_; have BK271:=n2_; have HB:=n3_; clear n0_ n1_ n2_ n3_; (try clear hb); (try clear ho0)))
  (try simp only [Act.put,sA_,s0_,s1_])
  go_cut [28] (fun v28 wc => ∃ (kq : Nat) (x28_4 : Bool),v28 = .bool x28_4∧Aside0 (ack_Read.j0 kq t272 x28_4 t255 t256 t257 t258 t259 t260 t261 t262 t263 t264 t265 t266 t267 t268 t269=some (r1,r2,r3))∧Aside0 (kq≤k)∧Aside0 (Kd.R Kd.string 9 wc w.heap.size (fun _=>True) v273 t272)∧Aside0 (wc.heap[gb254]?=some (.cells #[.string (⟨#[]⟩ : ByteArray), .string (⟨#[]⟩ : ByteArray)] 37 (0,0)))∧Aside0 (wc.heap[gb271]?=some (.cells #[.int .u8 t255, .int .u8 t256, .int .u8 t257, .int .u8 t258, .int .u8 t259, .string t260, .string t261, .string t262, .string t263, .string t264, .string t265, .string t266, .string t267, .string t268, .string t269] 27 (0,0)))∧Aside0 (Below w.heap.size w wc))
  case first =>
   have H:=HC5.out
   clear HC5
   by_cases c12 : (t272.length : Int) < 2
   ·rw [if_pos c12] at H
    have c12b0:decide ((t272.length : Int) < 2)=true:=decide_eq_true c12
    have c12b1:decide (t272.length < 2)=true:=decide_eq_true (by omega)
    clear c12
    (first | rw [c12b0] | (simp only [i64_w,i32_w]; rw [c12b0]) | skip)
    have H':=Aside0.mk H
    clear H
    obtain ⟨Ao13,co13,eo13⟩:=Kd.R_slice HO274.out
    subst eo13
    go_wp2
    go_meet
    case rel=>exact ⟨_,(true),(by first | rfl | (simp; done) | (simp [*]; done)),H',⟨by first | omega | exact Nat.le_refl _⟩,⟨by (with_reducible repeat (first | apply Kd.R_alloc | apply Kd.R_drewN | apply Kd.R_drew)); exact HO274.out⟩,⟨by (with_reducible repeat (first | refine kN ?_ _ | refine kD ?_ | refine kA ?_ _)); exact BK254.out⟩,⟨by (with_reducible repeat (first | refine kN ?_ _ | refine kD ?_ | refine kA ?_ _)); exact BK271.out⟩,⟨by repeat (first | (with_reducible first | exact HB.out | apply bA | apply bN | apply bD | refine below_set ?_ GE254.out | refine below_set ?_ GE271.out) | exact HB.out)⟩⟩
   ·rw [if_neg c12] at H
    have c12b0:decide ((t272.length : Int) < 2)=false:=decide_eq_false c12
    have c12b1:decide (t272.length < 2)=false:=decide_eq_false (by omega)
    clear c12
    (first | rw [c12b0] | (simp only [i64_w,i32_w]; rw [c12b0]) | skip)
    by_cases c14 : 1 < (t272.length : Int)
    ·rw [if_pos c14] at H
     have c14b0:decide (1 < (t272.length : Int))=true:=decide_eq_true c14
     have c14b1:decide (1 < t272.length)=true:=decide_eq_true (by omega)
     clear c14
     replace H:=Option.bind_eq_some_iff.mp H
     obtain ⟨t276,A150,H⟩:=H
     replace H : (ack_Read.j0 k t272 (t276.toList != ([77,83,65] : List UInt8)) t255 t256 t257 t258 t259 t260 t261 t262 t263 t264 t265 t266 t267 t268 t269)=some (r1,r2,r3):=H
     have A15:=Aside0.mk A150
     clear A150
     have H':=Aside0.mk H
     clear H
     obtain ⟨Ao16,co16,eo16⟩:=Kd.R_slice HO274.out
     subst eo16
     have p275:0≤(1 : Int):=(by omega)
     have q275:1 < (t272.length : Int):=of_decide_eq_true (by first | (with_reducible assumption) | assumption)
     obtain ⟨ad275,e275,hx275_0⟩:=Kd.at_string (Kd.R_reads' HO274.out).2.2 1 p275 q275
     cases e275
     (try simp only [show (1 : Int).toNat=1 from rfl,Nat.reduceMul,Nat.reduceEqDiff,Go.Addr.add,↓reduceIte] at hx275_0)
     have qi275 : (1 < t272.length)=True:=eq_true (by omega)
     (try rw [show ((1 : Int)).toNat=1 from rfl] at hx275_0)
     replace p275:=eq_true p275
     replace q275:=eq_true q275
     go_wp2_with (first | (go_at_call 22; (with_reducible refine (segment_Name.calls (rdOf ByteArray.empty t272 1) t276 _ A15.out).mono ?_); rintro e w17 ⟨rfl,hb⟩; have n0_:=Aside0.mk (Kd.R_below (by (with_reducible repeat (first | apply Kd.R_alloc | apply Kd.R_drewN | apply Kd.R_drew)); exact HO274.out) hb); have n1_:=Aside0.mk (blk_below (g:=gb254) (o := .cells #[.string (⟨#[]⟩ : ByteArray), .string (⟨#[]⟩ : ByteArray)] 37 (0,0)) (by (with_reducible repeat (first | refine kN ?_ _ | refine kD ?_ | refine kA ?_ _)); exact BK254.out) hb); have n2_:=Aside0.mk (blk_below (g:=gb271) (o := .cells #[.int .u8 t255, .int .u8 t256, .int .u8 t257, .int .u8 t258, .int .u8 t259, .string t260, .string t261, .string t262, .string t263, .string t264, .string t265, .string t266, .string t267, .string t268, .string t269] 27 (0,0)) (by (with_reducible repeat (first | refine kN ?_ _ | refine kD ?_ | refine kA ?_ _)); exact BK271.out) hb); have n3_:=Aside0.mk (below_step (by repeat (first | (with_reducible first | exact HB.out | apply bA | apply bN | apply bD | refine below_set ?_ GE254.out | refine below_set ?_ GE271.out) | exact HB.out)) hb); clear HO274; clear BK254; clear BK271; clear HB; have HO274:=n0_; have BK254:=n1_; have BK271:=n2_; have HB:=n3_; clear n0_ n1_ n2_ n3_; (try clear hb)))
     go_meet
     case rel=>exact ⟨_,((t276.toList != ([77,83,65] : List UInt8))),(by first | rfl | (simp; done) | (simp [*]; done)),H',⟨by first | omega | exact Nat.le_refl _⟩,⟨by (with_reducible repeat (first | apply Kd.R_alloc | apply Kd.R_drewN | apply Kd.R_drew)); exact HO274.out⟩,⟨by (with_reducible repeat (first | refine kN ?_ _ | refine kD ?_ | refine kA ?_ _)); exact BK254.out⟩,⟨by (with_reducible repeat (first | refine kN ?_ _ | refine kD ?_ | refine kA ?_ _)); exact BK271.out⟩,⟨by repeat (first | (with_reducible first | exact HB.out | apply bA | apply bN | apply bD | refine below_set ?_ GE254.out | refine below_set ?_ GE271.out) | exact HB.out)⟩⟩
    ·rw [if_neg c14] at H
     exact absurd H (by simp)
  case rest =>
   clear HC5
   try clear c1
   try clear c2
   try clear p2
   try clear q2
   try clear hx2
   try clear qi2
   try clear c3
   try clear c3b0
   try clear c3b1
   try clear c9
   try clear c11
   try clear c12
   try clear c12b0
   try clear c12b1
   try clear c14
   try clear c14b0
   try clear c14b1
   try clear hcz10_0
   try clear hcz10_1
   try clear hcz10_10
   try clear hcz10_11
   try clear hcz10_12
   try clear hcz10_13
   try clear hcz10_14
   try clear hcz10_2
   try clear hcz10_3
   try clear hcz10_4
   try clear hcz10_5
   try clear hcz10_6
   try clear hcz10_7
   try clear hcz10_8
   try clear hcz10_9
   try clear hfz10_0
   try clear hfz10_1
   try clear hfz10_10
   try clear hfz10_11
   try clear hfz10_12
   try clear hfz10_13
   try clear hfz10_14
   try clear hfz10_2
   try clear hfz10_3
   try clear hfz10_4
   try clear hfz10_5
   try clear hfz10_6
   try clear hfz10_7
   try clear hfz10_8
   try clear hfz10_9
   try clear hx275_0
   try clear p275
   try clear q275
   obtain ⟨kq,x28_4,rfl,HA,HJ4,HO_6,BK254,BK271,HB⟩:=hcut
   cases kq with
   | zero=>exact absurd HA.out (by simp [ack_Read.j0])
   | succ kj4 =>
    have H:=HA.out
    clear HA
    simp only [ack_Read.j0] at H
    by_cases c18 : x28_4=true
    ·subst c18
     have H1 : (some ((⟨#[]⟩ : ByteArray),(⟨#[]⟩ : ByteArray),10))=some (r1,r2,r3):=by rw [if_pos rfl] at H; exact H
     clear H
     have H:=H1
     clear H1
     simp only [Option.some.injEq,Prod.mk.injEq] at H
     obtain ⟨rfl,rfl,rfl⟩:=H
     have hnb19:=NB254_271.out
     have hnc19:=NB271_254.out
     have hcz20_0:wc.cell? ⟨gb254,0,none⟩=some (.string (⟨#[]⟩ : ByteArray)):=blk_cell BK254.out 0
     have hcz20_1:wc.cell? ⟨gb254,1,none⟩=some (.string (⟨#[]⟩ : ByteArray)):=blk_cell BK254.out 1
     have hfz20_0:=blk_frozen BK254.out 0
     have hfz20_1:=blk_frozen BK254.out 1
     go_wp2
     refine bodyPost_ret (results_ct rfl _ _ gb254 37 #[.string (⟨#[]⟩ : ByteArray), .string (⟨#[]⟩ : ByteArray)] (0,0) _ rfl (by (with_reducible repeat (first | refine kN ?_ _ | refine kD ?_ | refine kA ?_ _)); refine blk_put (cs:=#[.string (⟨#[]⟩ : ByteArray), .string (⟨#[]⟩ : ByteArray)]) ?_ 1 _ rfl; (with_reducible repeat (first | refine kN ?_ _ | refine kD ?_ | refine kA ?_ _)); refine blk_put (cs:=#[.string (⟨#[]⟩ : ByteArray), .string (⟨#[]⟩ : ByteArray)]) ?_ 0 _ rfl; (with_reducible repeat (first | refine kN ?_ _ | refine kD ?_ | refine kA ?_ _)); exact BK254.out) Tryd.underlying37 rfl (by kernel_rfl)) rfl ?_
     exact ⟨by first | rfl | (simp [errW_none,errW_some] <;> rfl) | (simp [*,errW_none,errW_some] <;> rfl),by repeat (first | (with_reducible first | exact HB.out | apply bA | apply bN | apply bD | refine below_set ?_ GE254.out | refine below_set ?_ GE271.out) | exact HB.out)⟩
    ·replace c18:=Bool.eq_false_iff.mpr c18
     subst c18
     have H1 : (if 1 < (t272.length : Int) then ((segment_Field.f (rdOf ByteArray.empty t272 1) 1 t255 t256 t257 t258 t259).bind fun bt279=>((segment_Field.f (rdOf ByteArray.empty t272 1) 2 t255 t256 t257 t258 t259).bind fun bt282=>((ack_Known.f kj4 bt279.1).bind fun t284=>(if t284=true then (some (bt279.1,bt282.1,0)) else (some ((⟨#[]⟩ : ByteArray),(⟨#[]⟩ : ByteArray),17)))))) else (none))=some (r1,r2,r3):=by rw [if_neg (show ¬ (false=true) by decide)] at H; exact H
     clear H
     have H:=H1
     clear H1
     by_cases c21 : 1 < (t272.length : Int)
     ·rw [if_pos c21] at H
      have c21b0:decide (1 < (t272.length : Int))=true:=decide_eq_true c21
      have c21b1:decide (1 < t272.length)=true:=decide_eq_true (by omega)
      clear c21
      replace H:=Option.bind_eq_some_iff.mp H
      obtain ⟨⟨t279,t280⟩,A220,H⟩:=H
      replace H : ((segment_Field.f (rdOf ByteArray.empty t272 1) 2 t255 t256 t257 t258 t259).bind fun bt282=>((ack_Known.f kj4 t279).bind fun t284=>(if t284=true then (some (t279,bt282.1,0)) else (some ((⟨#[]⟩ : ByteArray),(⟨#[]⟩ : ByteArray),17)))))=some (r1,r2,r3):=H
      have A22:=Aside0.mk A220
      clear A220
      replace H:=Option.bind_eq_some_iff.mp H
      obtain ⟨⟨t282,t283⟩,A230,H⟩:=H
      replace H : ((ack_Known.f kj4 t279).bind fun t284=>(if t284=true then (some (t279,t282,0)) else (some ((⟨#[]⟩ : ByteArray),(⟨#[]⟩ : ByteArray),17))))=some (r1,r2,r3):=H
      have A23:=Aside0.mk A230
      clear A230
      replace H:=Option.bind_eq_some_iff.mp H
      obtain ⟨t284,A240,H⟩:=H
      replace H : (if t284=true then (some (t279,t282,0)) else (some ((⟨#[]⟩ : ByteArray),(⟨#[]⟩ : ByteArray),17)))=some (r1,r2,r3):=H
      have A24:=Aside0.mk A240
      clear A240
      by_cases c25 : t284=true
      ·subst c25
       have H1 : (some (t279,t282,0))=some (r1,r2,r3):=by rw [if_pos rfl] at H; exact H
       clear H
       have H:=H1
       clear H1
       simp only [Option.some.injEq,Prod.mk.injEq] at H
       obtain ⟨rfl,rfl,rfl⟩:=H
       try go_wp2_with (first | ((with_reducible refine gate_dst (N:=7) rfl ?_); refine box_event ?hg (N:=7) ?hd (cs:=#[.string (⟨#[]⟩ : ByteArray), .string (⟨#[]⟩ : ByteArray)]) (t:=37) ?hr ?_; (case hd=>rfl); (case hg=>rfl); (case hr=>first | (go_simp; done) | (go_simp; rfl)); intro gb277 hg w26 hbox hb; have n0_:=Aside0.mk (Kd.R_below (by (with_reducible repeat (first | apply Kd.R_alloc | apply Kd.R_drewN | apply Kd.R_drew)); exact HO_6.out) hb); have n1_:=Aside0.mk (blk_below (g:=gb254) (o := .cells #[.string (⟨#[]⟩ : ByteArray), .string (⟨#[]⟩ : ByteArray)] 37 (0,0)) (by (with_reducible repeat (first | refine kN ?_ _ | refine kD ?_ | refine kA ?_ _)); exact BK254.out) hb); have n2_:=Aside0.mk (blk_below (g:=gb271) (o := .cells #[.int .u8 t255, .int .u8 t256, .int .u8 t257, .int .u8 t258, .int .u8 t259, .string t260, .string t261, .string t262, .string t263, .string t264, .string t265, .string t266, .string t267, .string t268, .string t269] 27 (0,0)) (by (with_reducible repeat (first | refine kN ?_ _ | refine kD ?_ | refine kA ?_ _)); exact BK271.out) hb); have n3_:=Aside0.mk (below_step (by repeat (first | (with_reducible first | exact HB.out | apply bA | apply bN | apply bD | refine below_set ?_ GE254.out | refine below_set ?_ GE271.out) | exact HB.out)) hb); have n4_:=Aside0.mk (hbox); have n5_:=Aside0.mk ((by rw [hg]; exact (below_size (by repeat (first | (with_reducible first | exact HB.out | apply bA | apply bN | apply bD | refine below_set ?_ GE254.out | refine below_set ?_ GE271.out) | exact HB.out))) : w.heap.size≤gb277)); have n6_:=Aside0.mk ((by rw [hg]; exact (below_size (by repeat (first | (with_reducible first | exact HB.out | apply bA | apply bN | apply bD | refine below_set ?_ GE254.out | refine below_set ?_ GE271.out) | exact HB.out))) : w.heap.size≤gb277)); have n7_:=Aside0.mk ((by rw [hg]; exact Nat.ne_of_lt (blk_lt (g:=gb254) (o := .cells #[.string (⟨#[]⟩ : ByteArray), .string (⟨#[]⟩ : ByteArray)] 37 (0,0)) (by (with_reducible repeat (first | refine kN ?_ _ | refine kD ?_ | refine kA ?_ _)); exact BK254.out)) : gb254 ≠ gb277)); have n8_:=Aside0.mk ((by rw [hg]; exact Nat.ne_of_gt (blk_lt (g:=gb254) (o := .cells #[.string (⟨#[]⟩ : ByteArray), .string (⟨#[]⟩ : ByteArray)] 37 (0,0)) (by (with_reducible repeat (first | refine kN ?_ _ | refine kD ?_ | refine kA ?_ _)); exact BK254.out)) : gb277 ≠ gb254)); have n9_:=Aside0.mk ((by rw [hg]; exact Nat.ne_of_lt (blk_lt (g:=gb271) (o := .cells #[.int .u8 t255, .int .u8 t256, .int .u8 t257, .int .u8 t258, .int .u8 t259, .string t260, .string t261, .string t262, .string t263, .string t264, .string t265, .string t266, .string t267, .string t268, .string t269] 27 (0,0)) (by (with_reducible repeat (first | refine kN ?_ _ | refine kD ?_ | refine kA ?_ _)); exact BK271.out)) : gb271 ≠ gb277)); have n10_:=Aside0.mk ((by rw [hg]; exact Nat.ne_of_gt (blk_lt (g:=gb271) (o := .cells #[.int .u8 t255, .int .u8 t256, .int .u8 t257, .int .u8 t258, .int .u8 t259, .string t260, .string t261, .string t262, .string t263, .string t264, .string t265, .string t266, .string t267, .string t268, .string t269] 27 (0,0)) (by (with_reducible repeat (first | refine kN ?_ _ | refine kD ?_ | refine kA ?_ _)); exact BK271.out)) : gb277 ≠ gb271)); clear HO_6; clear BK254; clear BK271; clear HB; have HO_6:=n0_; have BK254:=n1_; have BK271:=n2_; have HB:=n3_; have BK277:=n4_; have GW277:=n5_; have GE277:=n6_; have NB254_277:=n7_; have NB277_254:=n8_; have NB271_277:=n9_; have NB277_271:=n10_; clear n0_ n1_ n2_ n3_ n4_ n5_ n6_ n7_ n8_ n9_ n10_; clear hb hbox hg))
       have n0_:=Aside0.mk (Kd.R_drew HO_6.out)
       have n1_:=Aside0.mk (blk_drew BK254.out)
       have n2_:=Aside0.mk (blk_drew BK271.out)
       have n3_:=Aside0.mk (blk_drew BK277.out)
       have n4_:=Aside0.mk (below_drew1 HB.out)
       clear HO_6
       clear BK254
       clear BK271
       clear BK277
       clear HB
       have HO_6:=n0_
       have BK254:=n1_
       have BK271:=n2_
       have BK277:=n3_
       have HB:=n4_
       clear n0_ n1_ n2_ n3_ n4_
       obtain ⟨Ao28,co28,eo28⟩:=Kd.R_slice HO_6.out
       (first | subst eo28 | (injection eo28 with f1_ f2_ f3_; have f4_:=f1_.symm; have f5_:=f3_.symm; clear f1_ f2_ f3_; subst f4_; subst f5_))
       have p278:0≤(1 : Int):=(by omega)
       have q278:1 < (t272.length : Int):=of_decide_eq_true (by first | (with_reducible assumption) | assumption)
       obtain ⟨ad278,e278,hx278_0⟩:=Kd.at_string (Kd.R_reads' HO_6.out).2.2 1 p278 q278
       cases e278
       (try simp only [show (1 : Int).toNat=1 from rfl,Nat.reduceMul,Nat.reduceEqDiff,Go.Addr.add,↓reduceIte] at hx278_0)
       have qi278 : (1 < t272.length)=True:=eq_true (by omega)
       (try rw [show ((1 : Int)).toNat=1 from rfl] at hx278_0)
       replace p278:=eq_true p278
       replace q278:=eq_true q278
       refine start_ (n:=11) (S:=fun w'=>w'.cell? ⟨gb271,0,none⟩=some (.int .u8 t255)∧w'.cell? ⟨gb271,1,none⟩=some (.int .u8 t256)∧w'.cell? ⟨gb271,2,none⟩=some (.int .u8 t257)∧w'.cell? ⟨gb271,3,none⟩=some (.int .u8 t258)∧w'.cell? ⟨gb271,4,none⟩=some (.int .u8 t259)∧w'.cell? ⟨gb271,5,none⟩=some (.string t260)∧w'.cell? ⟨gb271,6,none⟩=some (.string t261)∧w'.cell? ⟨gb271,7,none⟩=some (.string t262)∧w'.cell? ⟨gb271,8,none⟩=some (.string t263)∧w'.cell? ⟨gb271,9,none⟩=some (.string t264)∧w'.cell? ⟨gb271,10,none⟩=some (.string t265)∧w'.cell? ⟨gb271,11,none⟩=some (.string t266)∧w'.cell? ⟨gb271,12,none⟩=some (.string t267)∧w'.cell? ⟨gb271,13,none⟩=some (.string t268)∧w'.cell? ⟨gb271,14,none⟩=some (.string t269)∧w'.cell? ⟨ad278.block,ad278.off + 1,none⟩=some (.string (rdOf ByteArray.empty t272 1))) (ds:=[]) #[false,false,false,false,false,false,false,false,false,false,false] (by kernel_rfl) rfl rfl ⟨blk_cell BK271.out 0,blk_cell BK271.out 1,blk_cell BK271.out 2,blk_cell BK271.out 3,blk_cell BK271.out 4,blk_cell BK271.out 5,blk_cell BK271.out 6,blk_cell BK271.out 7,blk_cell BK271.out 8,blk_cell BK271.out 9,blk_cell BK271.out 10,blk_cell BK271.out 11,blk_cell BK271.out 12,blk_cell BK271.out 13,blk_cell BK271.out 14,hx278_0⟩ (fun hHeld=>?_); refine with_tabW ack_Read.tab8 ack_Read.bits8 (fun HT_ HW_=>?_)
       generalize w26.drew=w27 at HO_6 BK254 BK271 BK277 HB hx278_0 hHeld ⊢
       refine pure_ (i:=0) (N:=some 31) (v:=?_) (a':=?_) #[true,false,false,false,false,false,false,false,false,false,false] rfl rfl (any_of HT_.out (by kernel_rfl)) (fun _ _ _ h=>h) (Or.inl ⟨by rfl,?_⟩) ?_ ?_
       rotate_left
       ·intro w'
        go_simp
        with_reducible rfl
       rotate_left
       ·simp only [Act.put,sA_,s0_,s1_,i64_w,i32_w]
        rfl
       refine pure_ (i:=1) (N:=some 32) (v:=?_) (a':=?_) #[true,true,false,false,false,false,false,false,false,false,false] rfl rfl (any_of HT_.out (by kernel_rfl)) (fun _ _ _ h=>h) (Or.inl ⟨by rfl,?_⟩) ?_ ?_
       rotate_left
       ·intro w'
        go_simp
        with_reducible rfl
       rotate_left
       ·simp only [Act.put,sA_,s0_,s1_,i64_w,i32_w]
        rfl
       refine pure_ (i:=3) (N:=some 34) (v:=?_) (a':=?_) #[true,true,false,true,false,false,false,false,false,false,false] rfl rfl (any_of HT_.out (by kernel_rfl)) (fun _ _ _ h=>h) (Or.inl ⟨by rfl,?_⟩) ?_ ?_
       rotate_left
       ·intro w'
        go_simp
        with_reducible rfl
       rotate_left
       ·simp only [Act.put,sA_,s0_,s1_,i64_w,i32_w]
        rfl
       refine take_ (i:=2) (N:=some 33) (v:=?_) (a':=?_) #[true,true,true,true,false,false,false,false,false,false,false] rfl rfl (take_ofW HT_.out HW_.out (by kernel_rfl)) (fun _ _ _ h=>h) (Or.inl ⟨by rfl,?_⟩) hHeld ?_ ?_
       rotate_left
       ·rintro w' ⟨s0,s1,s2,s3,s4,s5,s6,s7,s8,s9,s10,s11,s12,s13,s14,s15⟩
        go_simp
        with_reducible rfl
       rotate_left
       ·simp only [Act.put,sA_,s0_,s1_,i64_w,i32_w]
        rfl
       refine take_ (i:=4) (N:=some 35) (v:=?_) (a':=?_) #[true,true,true,true,true,false,false,false,false,false,false] rfl rfl (take_ofW HT_.out HW_.out (by kernel_rfl)) (fun _ _ _ h=>h) (Or.inl ⟨by rfl,?_⟩) hHeld ?_ ?_
       rotate_left
       ·rintro w' ⟨s0,s1,s2,s3,s4,s5,s6,s7,s8,s9,s10,s11,s12,s13,s14,s15⟩
        go_simp
        with_reducible rfl
       rotate_left
       ·simp only [Act.put,sA_,s0_,s1_,i64_w,i32_w]
        rfl
       refine one_ (i:=5) (N:=some 36) #[true,true,true,true,true,true,false,false,false,false,false] rfl rfl (one_of HT_.out (by kernel_rfl)) (by decide) (fun K hK=>?_)
       refine goes_ Tryd.func23 (by kernel_rfl) rfl #[.string (rdOf ByteArray.empty t272 1), .int .i64 1, .agg #[.int .u8 t255, .int .u8 t256, .int .u8 t257, .int .u8 t258, .int .u8 t259]] (by rfl) rfl rfl (by (try simp only [List.map_toArray,List.map_cons,List.map_nil]); first | done | rfl | (simp only [List.length_drop,List.length_take]; rfl)) ?_
       with_reducible refine (segment_Field.calls (rdOf ByteArray.empty t272 1) 1 t255 t256 t257 t258 t259 t279 t280 _ A22.out).mono ?_
       rintro e w29 ⟨rfl,hb⟩
       have HS15_:=(hb.cell (World.block_lt_of_cell? _ _ (hHeld.2.2.2.2.2.2.2.2.2.2.2.2.2.2.2))).trans (hHeld.2.2.2.2.2.2.2.2.2.2.2.2.2.2.2)
       refine ⟨_,rfl,?_⟩
       have n0_:=Aside0.mk (Kd.R_below (by (with_reducible repeat (first | apply Kd.R_alloc | apply Kd.R_drewN | apply Kd.R_drew)); exact HO_6.out) hb)
       have n1_:=Aside0.mk (blk_below (g:=gb254) (o := .cells #[.string (⟨#[]⟩ : ByteArray), .string (⟨#[]⟩ : ByteArray)] 37 (0,0)) (by (with_reducible repeat (first | refine kN ?_ _ | refine kD ?_ | refine kA ?_ _)); exact BK254.out) hb)
       have n2_:=Aside0.mk (blk_below (g:=gb271) (o := .cells #[.int .u8 t255, .int .u8 t256, .int .u8 t257, .int .u8 t258, .int .u8 t259, .string t260, .string t261, .string t262, .string t263, .string t264, .string t265, .string t266, .string t267, .string t268, .string t269] 27 (0,0)) (by (with_reducible repeat (first | refine kN ?_ _ | refine kD ?_ | refine kA ?_ _)); exact BK271.out) hb)
       have n3_:=Aside0.mk (blk_below (g:=gb277) (o := .cells #[.string (⟨#[]⟩ : ByteArray), .string (⟨#[]⟩ : ByteArray)] 37 (0,0)) (by (with_reducible repeat (first | refine kN ?_ _ | refine kD ?_ | refine kA ?_ _)); exact BK277.out) hb)
       have n4_:=Aside0.mk (below_step (by repeat (first | (with_reducible first | exact HB.out | apply bA | apply bN | apply bD | refine below_set ?_ GE254.out | refine below_set ?_ GE271.out | refine below_set ?_ GE277.out) | exact HB.out)) hb)
       clear HO_6
       clear BK254
       clear BK271
       clear BK277
       clear HB
       have HO_6:=n0_
       have BK254:=n1_
       have BK271:=n2_
       have BK277:=n3_
       have HB:=n4_
       clear n0_ n1_ n2_ n3_ n4_
       (try clear hb)
       (try clear hb2)
       (try clear hk)
       (try clear hi)
       refine hK.out _ _ ⟨blk_cell BK271.out 0,blk_cell BK271.out 1,blk_cell BK271.out 2,blk_cell BK271.out 3,blk_cell BK271.out 4,blk_cell BK271.out 5,blk_cell BK271.out 6,blk_cell BK271.out 7,blk_cell BK271.out 8,blk_cell BK271.out 9,blk_cell BK271.out 10,blk_cell BK271.out 11,blk_cell BK271.out 12,blk_cell BK271.out 13,blk_cell BK271.out 14,HS15_⟩ (fun hHeld=>?_)
       clear hK K
       refine norm_ (a':=?_) ?_ ?_
       rotate_left
       ·show Act.put _ (some 36) _=_
        simp only [Act.put,sA_,s0_,s1_,i64_w,i32_w]
        rfl
       refine pure_ (i:=6) (N:=some 30) (v:=?_) (a':=?_) #[true,true,true,true,true,true,true,false,false,false,false] rfl rfl (any_of HT_.out (by kernel_rfl)) (fun _ _ _ h=>h) (Or.inl ⟨by rfl,?_⟩) ?_ ?_
       rotate_left
       ·intro w'
        go_simp
        with_reducible rfl
       rotate_left
       ·simp only [Act.put,sA_,s0_,s1_,i64_w,i32_w]
        rfl
       refine pure_ (i:=7) (N:=some 37) (v:=?_) (a':=?_) #[true,true,true,true,true,true,true,true,false,false,false] rfl rfl (any_of HT_.out (by kernel_rfl)) (fun _ _ _ h=>h) (Or.inl ⟨by rfl,?_⟩) ?_ ?_
       rotate_left
       ·intro w'
        go_simp
        with_reducible rfl
       rotate_left
       ·simp only [Act.put,sA_,s0_,s1_,i64_w,i32_w]
        rfl
       refine pure_ (i:=8) (N:=some 38) (v:=?_) (a':=?_) #[true,true,true,true,true,true,true,true,true,false,false] rfl rfl (any_of HT_.out (by kernel_rfl)) (fun _ _ _ h=>h) (Or.inl ⟨by rfl,?_⟩) ?_ ?_
       rotate_left
       ·intro w'
        go_simp
        with_reducible rfl
       rotate_left
       ·simp only [Act.put,sA_,s0_,s1_,i64_w,i32_w]
        rfl
       refine pure_ (i:=9) (N:=some 39) (v:=?_) (a':=?_) #[true,true,true,true,true,true,true,true,true,true,false] rfl rfl (any_of HT_.out (by kernel_rfl)) (fun _ _ _ h=>h) (Or.inl ⟨by rfl,?_⟩) ?_ ?_
       rotate_left
       ·intro w'
        go_simp
        with_reducible rfl
       rotate_left
       ·simp only [Act.put,sA_,s0_,s1_,i64_w,i32_w]
        rfl
       refine one_ (i:=10) (N:=none) #[true,true,true,true,true,true,true,true,true,true,true] rfl rfl (one_of HT_.out (by kernel_rfl)) (by decide) (fun K hK=>?_)
       have hs30:w29.cell? ⟨gb277,0,none⟩=some (.string (⟨#[]⟩ : ByteArray)):=blk_cell BK277.out 0
       have hfs30:=blk_frozen BK277.out 0
       have hns30_0:=NB254_277.out
       have hns30_1:=NB271_277.out
       have hms30_0:=NB277_254.out
       have hms30_1:=NB277_271.out
       refine skip_ (w1:=?_) (by rfl) rfl ?_ ?_
       rotate_left
       ·go_simp
        rfl
       refine hK.out _ _ ⟨((cF (p:=⟨gb277,_,none⟩) NB271_277.out _).trans (hHeld.1)),((cF (p:=⟨gb277,_,none⟩) NB271_277.out _).trans (hHeld.2.1)),((cF (p:=⟨gb277,_,none⟩) NB271_277.out _).trans (hHeld.2.2.1)),((cF (p:=⟨gb277,_,none⟩) NB271_277.out _).trans (hHeld.2.2.2.1)),((cF (p:=⟨gb277,_,none⟩) NB271_277.out _).trans (hHeld.2.2.2.2.1)),((cF (p:=⟨gb277,_,none⟩) NB271_277.out _).trans (hHeld.2.2.2.2.2.1)),((cF (p:=⟨gb277,_,none⟩) NB271_277.out _).trans (hHeld.2.2.2.2.2.2.1)),((cF (p:=⟨gb277,_,none⟩) NB271_277.out _).trans (hHeld.2.2.2.2.2.2.2.1)),((cF (p:=⟨gb277,_,none⟩) NB271_277.out _).trans (hHeld.2.2.2.2.2.2.2.2.1)),((cF (p:=⟨gb277,_,none⟩) NB271_277.out _).trans (hHeld.2.2.2.2.2.2.2.2.2.1)),((cF (p:=⟨gb277,_,none⟩) NB271_277.out _).trans (hHeld.2.2.2.2.2.2.2.2.2.2.1)),((cF (p:=⟨gb277,_,none⟩) NB271_277.out _).trans (hHeld.2.2.2.2.2.2.2.2.2.2.2.1)),((cF (p:=⟨gb277,_,none⟩) NB271_277.out _).trans (hHeld.2.2.2.2.2.2.2.2.2.2.2.2.1)),((cF (p:=⟨gb277,_,none⟩) NB271_277.out _).trans (hHeld.2.2.2.2.2.2.2.2.2.2.2.2.2.1)),((cF (p:=⟨gb277,_,none⟩) NB271_277.out _).trans (hHeld.2.2.2.2.2.2.2.2.2.2.2.2.2.2.1)),((cF (p:=⟨gb277,_,none⟩) (by first | exact Kd.own_blk (Kd.R_ne HO_6.out BK277.out (by decide)) | (rw [add_block]; exact Kd.own_blk (Kd.R_ne HO_6.out BK277.out (by decide))) | (show (Addr.add _ _).block ≠ _; rw [add_block]; exact Kd.own_blk (Kd.R_ne HO_6.out BK277.out (by decide))) | (dsimp only; exact Kd.own_blk (Kd.R_ne HO_6.out BK277.out (by decide)))) _).trans (hHeld.2.2.2.2.2.2.2.2.2.2.2.2.2.2.2))⟩ (fun hHeld=>?_)
       clear hK K
       refine done_ (done_of HT_.out (by kernel_rfl)) ?_
       try go_wp2
       have n0_:Aside0 (Kd.R Kd.string 9 (w29.setCell ⟨gb277,0,none⟩ (.string t279)) w.heap.size (fun _=>True) (.slice (some ad278) t272.length co28) t272):=⟨by (with_reducible repeat (first | apply Kd.R_alloc | apply Kd.R_drewN | apply Kd.R_drew)); exact Kd.R_mono (Kd.R_far (p:=⟨gb277,0,none⟩) (Kd.R_types HO_6.out BK277.out (by decide)) (fun _ hk=>hk.2) (.string t279)) (fun _ hk=>trivial)⟩
       have n1_:Aside0 ((w29.setCell ⟨gb277,0,none⟩ (.string t279)).heap[gb254]?=some (.cells #[.string (⟨#[]⟩ : ByteArray), .string (⟨#[]⟩ : ByteArray)] 37 (0,0))):=⟨by (with_reducible repeat (first | refine kN ?_ _ | refine kD ?_ | refine kA ?_ _)); refine blk_far ?_ NB254_277.out _; (with_reducible repeat (first | refine kN ?_ _ | refine kD ?_ | refine kA ?_ _)); exact BK254.out⟩
       have n2_:Aside0 ((w29.setCell ⟨gb277,0,none⟩ (.string t279)).heap[gb271]?=some (.cells #[.int .u8 t255, .int .u8 t256, .int .u8 t257, .int .u8 t258, .int .u8 t259, .string t260, .string t261, .string t262, .string t263, .string t264, .string t265, .string t266, .string t267, .string t268, .string t269] 27 (0,0))):=⟨by (with_reducible repeat (first | refine kN ?_ _ | refine kD ?_ | refine kA ?_ _)); refine blk_far ?_ NB271_277.out _; (with_reducible repeat (first | refine kN ?_ _ | refine kD ?_ | refine kA ?_ _)); exact BK271.out⟩
       have n3_:Aside0 ((w29.setCell ⟨gb277,0,none⟩ (.string t279)).heap[gb277]?=some (.cells #[.string t279, .string (⟨#[]⟩ : ByteArray)] 37 (0,0))):=⟨by (with_reducible repeat (first | refine kN ?_ _ | refine kD ?_ | refine kA ?_ _)); refine blk_put (cs:=#[.string (⟨#[]⟩ : ByteArray), .string (⟨#[]⟩ : ByteArray)]) ?_ 0 _ rfl; (with_reducible repeat (first | refine kN ?_ _ | refine kD ?_ | refine kA ?_ _)); exact BK277.out⟩
       have n4_:Aside0 (Below w.heap.size w (w29.setCell ⟨gb277,0,none⟩ (.string t279))):=⟨by repeat (first | (with_reducible first | exact HB.out | apply bA | apply bN | apply bD | refine below_set ?_ GE254.out | refine below_set ?_ GE271.out | refine below_set ?_ GE277.out) | exact HB.out)⟩
       (try clear HO_6)
       (try clear BK254)
       (try clear BK271)
       (try clear BK277)
       (try clear HB)
       generalize (w29.setCell ⟨gb277,0,none⟩ (.string t279))=w31 at n0_ n1_ n2_ n3_ n4_ ⊢
       have HO_6:=n0_
       have BK254:=n1_
       have BK271:=n2_
       have BK277:=n3_
       have HB:=n4_
       clear n0_ n1_ n2_ n3_ n4_
       have n0_:=Aside0.mk (Kd.R_drew HO_6.out)
       have n1_:=Aside0.mk (blk_drew BK254.out)
       have n2_:=Aside0.mk (blk_drew BK271.out)
       have n3_:=Aside0.mk (blk_drew BK277.out)
       have n4_:=Aside0.mk (below_drew1 HB.out)
       clear HO_6
       clear BK254
       clear BK271
       clear BK277
       clear HB
       have HO_6:=n0_
       have BK254:=n1_
       have BK271:=n2_
       have BK277:=n3_
       have HB:=n4_
       clear n0_ n1_ n2_ n3_ n4_
       have p281:0≤(1 : Int):=(by omega)
       have q281:1 < (t272.length : Int):=of_decide_eq_true (by first | (with_reducible assumption) | assumption)
       obtain ⟨ad281,e281,hx281_0⟩:=Kd.at_string (Kd.R_reads' HO_6.out).2.2 1 p281 q281
       obtain rfl : ad278=ad281:=(by injection e281)
       (try simp only [show (1 : Int).toNat=1 from rfl,Nat.reduceMul,Nat.reduceEqDiff,Go.Addr.add,↓reduceIte] at hx281_0)
       have qi281 : (1 < t272.length)=True:=eq_true (by omega)
       (try rw [show ((1 : Int)).toNat=1 from rfl] at hx281_0)
       replace p281:=eq_true p281
       replace q281:=eq_true q281
       refine start_ (n:=11) (S:=fun w'=>w'.cell? ⟨gb271,0,none⟩=some (.int .u8 t255)∧w'.cell? ⟨gb271,1,none⟩=some (.int .u8 t256)∧w'.cell? ⟨gb271,2,none⟩=some (.int .u8 t257)∧w'.cell? ⟨gb271,3,none⟩=some (.int .u8 t258)∧w'.cell? ⟨gb271,4,none⟩=some (.int .u8 t259)∧w'.cell? ⟨gb271,5,none⟩=some (.string t260)∧w'.cell? ⟨gb271,6,none⟩=some (.string t261)∧w'.cell? ⟨gb271,7,none⟩=some (.string t262)∧w'.cell? ⟨gb271,8,none⟩=some (.string t263)∧w'.cell? ⟨gb271,9,none⟩=some (.string t264)∧w'.cell? ⟨gb271,10,none⟩=some (.string t265)∧w'.cell? ⟨gb271,11,none⟩=some (.string t266)∧w'.cell? ⟨gb271,12,none⟩=some (.string t267)∧w'.cell? ⟨gb271,13,none⟩=some (.string t268)∧w'.cell? ⟨gb271,14,none⟩=some (.string t269)∧w'.cell? ⟨ad278.block,ad278.off + 1,none⟩=some (.string (rdOf ByteArray.empty t272 1))) (ds:=[]) #[false,false,false,false,false,false,false,false,false,false,false] (by kernel_rfl) rfl rfl ⟨blk_cell BK271.out 0,blk_cell BK271.out 1,blk_cell BK271.out 2,blk_cell BK271.out 3,blk_cell BK271.out 4,blk_cell BK271.out 5,blk_cell BK271.out 6,blk_cell BK271.out 7,blk_cell BK271.out 8,blk_cell BK271.out 9,blk_cell BK271.out 10,blk_cell BK271.out 11,blk_cell BK271.out 12,blk_cell BK271.out 13,blk_cell BK271.out 14,hx281_0⟩ (fun hHeld=>?_); refine with_tabW ack_Read.tab9 ack_Read.bits9 (fun HT_ HW_=>?_)
       generalize w31.drew=w32 at HO_6 BK254 BK271 BK277 HB hx281_0 hHeld ⊢
       refine pure_ (i:=0) (N:=some 41) (v:=?_) (a':=?_) #[true,false,false,false,false,false,false,false,false,false,false] rfl rfl (any_of HT_.out (by kernel_rfl)) (fun _ _ _ h=>h) (Or.inl ⟨by rfl,?_⟩) ?_ ?_
       rotate_left
       ·intro w'
        go_simp
        with_reducible rfl
       rotate_left
       ·simp only [Act.put,sA_,s0_,s1_,i64_w,i32_w]
        rfl
       refine pure_ (i:=1) (N:=some 42) (v:=?_) (a':=?_) #[true,true,false,false,false,false,false,false,false,false,false] rfl rfl (any_of HT_.out (by kernel_rfl)) (fun _ _ _ h=>h) (Or.inl ⟨by rfl,?_⟩) ?_ ?_
       rotate_left
       ·intro w'
        go_simp
        with_reducible rfl
       rotate_left
       ·simp only [Act.put,sA_,s0_,s1_,i64_w,i32_w]
        rfl
       refine pure_ (i:=3) (N:=some 44) (v:=?_) (a':=?_) #[true,true,false,true,false,false,false,false,false,false,false] rfl rfl (any_of HT_.out (by kernel_rfl)) (fun _ _ _ h=>h) (Or.inl ⟨by rfl,?_⟩) ?_ ?_
       rotate_left
       ·intro w'
        go_simp
        with_reducible rfl
       rotate_left
       ·simp only [Act.put,sA_,s0_,s1_,i64_w,i32_w]
        rfl
       refine take_ (i:=2) (N:=some 43) (v:=?_) (a':=?_) #[true,true,true,true,false,false,false,false,false,false,false] rfl rfl (take_ofW HT_.out HW_.out (by kernel_rfl)) (fun _ _ _ h=>h) (Or.inl ⟨by rfl,?_⟩) hHeld ?_ ?_
       rotate_left
       ·rintro w' ⟨s0,s1,s2,s3,s4,s5,s6,s7,s8,s9,s10,s11,s12,s13,s14,s15⟩
        go_simp
        with_reducible rfl
       rotate_left
       ·simp only [Act.put,sA_,s0_,s1_,i64_w,i32_w]
        rfl
       refine take_ (i:=4) (N:=some 45) (v:=?_) (a':=?_) #[true,true,true,true,true,false,false,false,false,false,false] rfl rfl (take_ofW HT_.out HW_.out (by kernel_rfl)) (fun _ _ _ h=>h) (Or.inl ⟨by rfl,?_⟩) hHeld ?_ ?_
       rotate_left
       ·rintro w' ⟨s0,s1,s2,s3,s4,s5,s6,s7,s8,s9,s10,s11,s12,s13,s14,s15⟩
        go_simp
        with_reducible rfl
       rotate_left
       ·simp only [Act.put,sA_,s0_,s1_,i64_w,i32_w]
        rfl
       refine one_ (i:=5) (N:=some 46) #[true,true,true,true,true,true,false,false,false,false,false] rfl rfl (one_of HT_.out (by kernel_rfl)) (by decide) (fun K hK=>?_)
       refine goes_ Tryd.func23 (by kernel_rfl) rfl #[.string (rdOf ByteArray.empty t272 1), .int .i64 2, .agg #[.int .u8 t255, .int .u8 t256, .int .u8 t257, .int .u8 t258, .int .u8 t259]] (by rfl) rfl rfl (by (try simp only [List.map_toArray,List.map_cons,List.map_nil]); first | done | rfl | (simp only [List.length_drop,List.length_take]; rfl)) ?_
       with_reducible refine (segment_Field.calls (rdOf ByteArray.empty t272 1) 2 t255 t256 t257 t258 t259 t282 t283 _ A23.out).mono ?_
       rintro e w33 ⟨rfl,hb⟩
       have HS15_:=(hb.cell (World.block_lt_of_cell? _ _ (hHeld.2.2.2.2.2.2.2.2.2.2.2.2.2.2.2))).trans (hHeld.2.2.2.2.2.2.2.2.2.2.2.2.2.2.2)
       refine ⟨_,rfl,?_⟩
       have n0_:=Aside0.mk (Kd.R_below (by (with_reducible repeat (first | apply Kd.R_alloc | apply Kd.R_drewN | apply Kd.R_drew)); exact HO_6.out) hb)
       have n1_:=Aside0.mk (blk_below (g:=gb254) (o := .cells #[.string (⟨#[]⟩ : ByteArray), .string (⟨#[]⟩ : ByteArray)] 37 (0,0)) (by (with_reducible repeat (first | refine kN ?_ _ | refine kD ?_ | refine kA ?_ _)); exact BK254.out) hb)
       have n2_:=Aside0.mk (blk_below (g:=gb271) (o := .cells #[.int .u8 t255, .int .u8 t256, .int .u8 t257, .int .u8 t258, .int .u8 t259, .string t260, .string t261, .string t262, .string t263, .string t264, .string t265, .string t266, .string t267, .string t268, .string t269] 27 (0,0)) (by (with_reducible repeat (first | refine kN ?_ _ | refine kD ?_ | refine kA ?_ _)); exact BK271.out) hb)
       have n3_:=Aside0.mk (blk_below (g:=gb277) (o := .cells #[.string t279, .string (⟨#[]⟩ : ByteArray)] 37 (0,0)) (by (with_reducible repeat (first | refine kN ?_ _ | refine kD ?_ | refine kA ?_ _)); exact BK277.out) hb)
       have n4_:=Aside0.mk (below_step (by repeat (first | (with_reducible first | exact HB.out | apply bA | apply bN | apply bD | refine below_set ?_ GE254.out | refine below_set ?_ GE271.out | refine below_set ?_ GE277.out) | exact HB.out)) hb)
       clear HO_6
       clear BK254
       clear BK271
       clear BK277
       clear HB
       have HO_6:=n0_
       have BK254:=n1_
       have BK271:=n2_
       have BK277:=n3_
       have HB:=n4_
       clear n0_ n1_ n2_ n3_ n4_
       (try clear hb)
       (try clear hb2)
       (try clear hk)
       (try clear hi)
       refine hK.out _ _ ⟨blk_cell BK271.out 0,blk_cell BK271.out 1,blk_cell BK271.out 2,blk_cell BK271.out 3,blk_cell BK271.out 4,blk_cell BK271.out 5,blk_cell BK271.out 6,blk_cell BK271.out 7,blk_cell BK271.out 8,blk_cell BK271.out 9,blk_cell BK271.out 10,blk_cell BK271.out 11,blk_cell BK271.out 12,blk_cell BK271.out 13,blk_cell BK271.out 14,HS15_⟩ (fun hHeld=>?_)
       clear hK K
       refine norm_ (a':=?_) ?_ ?_
       rotate_left
       ·show Act.put _ (some 46) _=_
        simp only [Act.put,sA_,s0_,s1_,i64_w,i32_w]
        rfl
       refine pure_ (i:=6) (N:=some 40) (v:=?_) (a':=?_) #[true,true,true,true,true,true,true,false,false,false,false] rfl rfl (any_of HT_.out (by kernel_rfl)) (fun _ _ _ h=>h) (Or.inl ⟨by rfl,?_⟩) ?_ ?_
       rotate_left
       ·intro w'
        go_simp
        with_reducible rfl
       rotate_left
       ·simp only [Act.put,sA_,s0_,s1_,i64_w,i32_w]
        rfl
       refine pure_ (i:=7) (N:=some 47) (v:=?_) (a':=?_) #[true,true,true,true,true,true,true,true,false,false,false] rfl rfl (any_of HT_.out (by kernel_rfl)) (fun _ _ _ h=>h) (Or.inl ⟨by rfl,?_⟩) ?_ ?_
       rotate_left
       ·intro w'
        go_simp
        with_reducible rfl
       rotate_left
       ·simp only [Act.put,sA_,s0_,s1_,i64_w,i32_w]
        rfl
       refine pure_ (i:=8) (N:=some 48) (v:=?_) (a':=?_) #[true,true,true,true,true,true,true,true,true,false,false] rfl rfl (any_of HT_.out (by kernel_rfl)) (fun _ _ _ h=>h) (Or.inl ⟨by rfl,?_⟩) ?_ ?_
       rotate_left
       ·intro w'
        go_simp
        with_reducible rfl
       rotate_left
       ·simp only [Act.put,sA_,s0_,s1_,i64_w,i32_w]
        rfl
       refine pure_ (i:=9) (N:=some 49) (v:=?_) (a':=?_) #[true,true,true,true,true,true,true,true,true,true,false] rfl rfl (any_of HT_.out (by kernel_rfl)) (fun _ _ _ h=>h) (Or.inl ⟨by rfl,?_⟩) ?_ ?_
       rotate_left
       ·intro w'
        go_simp
        with_reducible rfl
       rotate_left
       ·simp only [Act.put,sA_,s0_,s1_,i64_w,i32_w]
        rfl
       refine one_ (i:=10) (N:=none) #[true,true,true,true,true,true,true,true,true,true,true] rfl rfl (one_of HT_.out (by kernel_rfl)) (by decide) (fun K hK=>?_)
       have hs34:w33.cell? ⟨gb277,1,none⟩=some (.string (⟨#[]⟩ : ByteArray)):=blk_cell BK277.out 1
       have hfs34:=blk_frozen BK277.out 1
       have hns34_0:=NB254_277.out
       have hns34_1:=NB271_277.out
       have hms34_0:=NB277_254.out
       have hms34_1:=NB277_271.out
       refine skip_ (w1:=?_) (by rfl) rfl ?_ ?_
       rotate_left
       ·go_simp
        rfl
       refine hK.out _ _ ⟨((cF (p:=⟨gb277,_,none⟩) NB271_277.out _).trans (hHeld.1)),((cF (p:=⟨gb277,_,none⟩) NB271_277.out _).trans (hHeld.2.1)),((cF (p:=⟨gb277,_,none⟩) NB271_277.out _).trans (hHeld.2.2.1)),((cF (p:=⟨gb277,_,none⟩) NB271_277.out _).trans (hHeld.2.2.2.1)),((cF (p:=⟨gb277,_,none⟩) NB271_277.out _).trans (hHeld.2.2.2.2.1)),((cF (p:=⟨gb277,_,none⟩) NB271_277.out _).trans (hHeld.2.2.2.2.2.1)),((cF (p:=⟨gb277,_,none⟩) NB271_277.out _).trans (hHeld.2.2.2.2.2.2.1)),((cF (p:=⟨gb277,_,none⟩) NB271_277.out _).trans (hHeld.2.2.2.2.2.2.2.1)),((cF (p:=⟨gb277,_,none⟩) NB271_277.out _).trans (hHeld.2.2.2.2.2.2.2.2.1)),((cF (p:=⟨gb277,_,none⟩) NB271_277.out _).trans (hHeld.2.2.2.2.2.2.2.2.2.1)),((cF (p:=⟨gb277,_,none⟩) NB271_277.out _).trans (hHeld.2.2.2.2.2.2.2.2.2.2.1)),((cF (p:=⟨gb277,_,none⟩) NB271_277.out _).trans (hHeld.2.2.2.2.2.2.2.2.2.2.2.1)),((cF (p:=⟨gb277,_,none⟩) NB271_277.out _).trans (hHeld.2.2.2.2.2.2.2.2.2.2.2.2.1)),((cF (p:=⟨gb277,_,none⟩) NB271_277.out _).trans (hHeld.2.2.2.2.2.2.2.2.2.2.2.2.2.1)),((cF (p:=⟨gb277,_,none⟩) NB271_277.out _).trans (hHeld.2.2.2.2.2.2.2.2.2.2.2.2.2.2.1)),((cF (p:=⟨gb277,_,none⟩) (by first | exact Kd.own_blk (Kd.R_ne HO_6.out BK277.out (by decide)) | (rw [add_block]; exact Kd.own_blk (Kd.R_ne HO_6.out BK277.out (by decide))) | (show (Addr.add _ _).block ≠ _; rw [add_block]; exact Kd.own_blk (Kd.R_ne HO_6.out BK277.out (by decide))) | (dsimp only; exact Kd.own_blk (Kd.R_ne HO_6.out BK277.out (by decide)))) _).trans (hHeld.2.2.2.2.2.2.2.2.2.2.2.2.2.2.2))⟩ (fun hHeld=>?_)
       clear hK K
       refine done_ (done_of HT_.out (by kernel_rfl)) ?_
       have hnb35:=NB277_254.out
       have hnc35:=NB254_277.out
       have hnb36:=NB277_271.out
       have hnc36:=NB271_277.out
       have hcz37_0:w33.cell? ⟨gb277,0,none⟩=some (.string t279):=blk_cell BK277.out 0
       have hcz37_1:w33.cell? ⟨gb277,1,none⟩=some (.string (⟨#[]⟩ : ByteArray)):=blk_cell BK277.out 1
       have hfz37_0:=blk_frozen BK277.out 0
       have hfz37_1:=blk_frozen BK277.out 1
       try go_wp2_with (first | ((with_reducible refine gate_callee (f:=24) rfl ?_); refine goesL_ (some 52) rfl rfl Tryd.func24 (by kernel_rfl) rfl #[.string t279] rfl (by (try simp only [List.map_toArray,List.map_cons,List.map_nil]); first | done | rfl | (simp only [List.length_drop,List.length_take]; rfl)) ?_; (with_reducible refine (ack_Known.calls kj4 t279 true _ A24.out (globc_below HGLOC.out (by repeat (first | (with_reducible first | exact HB.out | apply bA | apply bN | apply bD | refine below_set ?_ GE254.out | refine below_set ?_ GE271.out | refine below_set ?_ GE277.out) | exact HB.out)))).mono ?_); rintro e w' ⟨rfl,⟨nd,rfl⟩⟩; refine ⟨_,rfl,?_⟩; have hnb38:=NB254_271.out; have hnc38:=NB271_254.out; have hcz39_0:w33.cell? ⟨gb254,0,none⟩=some (.string (⟨#[]⟩ : ByteArray)):=blk_cell BK254.out 0; have hcz39_1:w33.cell? ⟨gb254,1,none⟩=some (.string (⟨#[]⟩ : ByteArray)):=blk_cell BK254.out 1; have hfz39_0:=blk_frozen BK254.out 0; have hfz39_1:=blk_frozen BK254.out 1))
       refine bodyPost_ret (results_ct rfl _ _ gb254 37 #[.string t279, .string t282] (0,0) _ rfl (by (with_reducible repeat (first | refine kN ?_ _ | refine kD ?_ | refine kA ?_ _)); refine blk_put (cs:=#[.string t279, .string (⟨#[]⟩ : ByteArray)]) ?_ 1 _ rfl; (with_reducible repeat (first | refine kN ?_ _ | refine kD ?_ | refine kA ?_ _)); refine blk_put (cs:=#[.string (⟨#[]⟩ : ByteArray), .string (⟨#[]⟩ : ByteArray)]) ?_ 0 _ rfl; (with_reducible repeat (first | refine kN ?_ _ | refine kD ?_ | refine kA ?_ _)); refine blk_far ?_ NB254_277.out _; (with_reducible repeat (first | refine kN ?_ _ | refine kD ?_ | refine kA ?_ _)); exact BK254.out) Tryd.underlying37 rfl (by kernel_rfl)) rfl ?_
       exact ⟨by first | rfl | (simp [errW_none,errW_some] <;> rfl) | (simp [*,errW_none,errW_some] <;> rfl),by repeat (first | (with_reducible first | exact HB.out | apply bA | apply bN | apply bD | refine below_set ?_ GE254.out | refine below_set ?_ GE271.out | refine below_set ?_ GE277.out) | exact HB.out)⟩
      ·replace c25:=Bool.eq_false_iff.mpr c25
       subst c25
       have H1 : (some ((⟨#[]⟩ : ByteArray),(⟨#[]⟩ : ByteArray),17))=some (r1,r2,r3):=by rw [if_neg (show ¬ (false=true) by decide)] at H; exact H
       clear H
       have H:=H1
       clear H1
       simp only [Option.some.injEq,Prod.mk.injEq] at H
       obtain ⟨rfl,rfl,rfl⟩:=H
       try go_wp2_with (first | ((with_reducible refine gate_dst (N:=7) rfl ?_); refine box_event ?hg (N:=7) ?hd (cs:=#[.string (⟨#[]⟩ : ByteArray), .string (⟨#[]⟩ : ByteArray)]) (t:=37) ?hr ?_; (case hd=>rfl); (case hg=>rfl); (case hr=>first | (go_simp; done) | (go_simp; rfl)); intro gb277 hg w40 hbox hb; have n0_:=Aside0.mk (Kd.R_below (by (with_reducible repeat (first | apply Kd.R_alloc | apply Kd.R_drewN | apply Kd.R_drew)); exact HO_6.out) hb); have n1_:=Aside0.mk (blk_below (g:=gb254) (o := .cells #[.string (⟨#[]⟩ : ByteArray), .string (⟨#[]⟩ : ByteArray)] 37 (0,0)) (by (with_reducible repeat (first | refine kN ?_ _ | refine kD ?_ | refine kA ?_ _)); exact BK254.out) hb); have n2_:=Aside0.mk (blk_below (g:=gb271) (o := .cells #[.int .u8 t255, .int .u8 t256, .int .u8 t257, .int .u8 t258, .int .u8 t259, .string t260, .string t261, .string t262, .string t263, .string t264, .string t265, .string t266, .string t267, .string t268, .string t269] 27 (0,0)) (by (with_reducible repeat (first | refine kN ?_ _ | refine kD ?_ | refine kA ?_ _)); exact BK271.out) hb); have n3_:=Aside0.mk (below_step (by repeat (first | (with_reducible first | exact HB.out | apply bA | apply bN | apply bD | refine below_set ?_ GE254.out | refine below_set ?_ GE271.out) | exact HB.out)) hb); have n4_:=Aside0.mk (hbox); have n5_:=Aside0.mk ((by rw [hg]; exact (below_size (by repeat (first | (with_reducible first | exact HB.out | apply bA | apply bN | apply bD | refine below_set ?_ GE254.out | refine below_set ?_ GE271.out) | exact HB.out))) : w.heap.size≤gb277)); have n6_:=Aside0.mk ((by rw [hg]; exact (below_size (by repeat (first | (with_reducible first | exact HB.out | apply bA | apply bN | apply bD | refine below_set ?_ GE254.out | refine below_set ?_ GE271.out) | exact HB.out))) : w.heap.size≤gb277)); have n7_:=Aside0.mk ((by rw [hg]; exact Nat.ne_of_lt (blk_lt (g:=gb254) (o := .cells #[.string (⟨#[]⟩ : ByteArray), .string (⟨#[]⟩ : ByteArray)] 37 (0,0)) (by (with_reducible repeat (first | refine kN ?_ _ | refine kD ?_ | refine kA ?_ _)); exact BK254.out)) : gb254 ≠ gb277)); have n8_:=Aside0.mk ((by rw [hg]; exact Nat.ne_of_gt (blk_lt (g:=gb254) (o := .cells #[.string (⟨#[]⟩ : ByteArray), .string (⟨#[]⟩ : ByteArray)] 37 (0,0)) (by (with_reducible repeat (first | refine kN ?_ _ | refine kD ?_ | refine kA ?_ _)); exact BK254.out)) : gb277 ≠ gb254)); have n9_:=Aside0.mk ((by rw [hg]; exact Nat.ne_of_lt (blk_lt (g:=gb271) (o := .cells #[.int .u8 t255, .int .u8 t256, .int .u8 t257, .int .u8 t258, .int .u8 t259, .string t260, .string t261, .string t262, .string t263, .string t264, .string t265, .string t266, .string t267, .string t268, .string t269] 27 (0,0)) (by (with_reducible repeat (first | refine kN ?_ _ | refine kD ?_ | refine kA ?_ _)); exact BK271.out)) : gb271 ≠ gb277)); have n10_:=Aside0.mk ((by rw [hg]; exact Nat.ne_of_gt (blk_lt (g:=gb271) (o := .cells #[.int .u8 t255, .int .u8 t256, .int .u8 t257, .int .u8 t258, .int .u8 t259, .string t260, .string t261, .string t262, .string t263, .string t264, .string t265, .string t266, .string t267, .string t268, .string t269] 27 (0,0)) (by (with_reducible repeat (first | refine kN ?_ _ | refine kD ?_ | refine kA ?_ _)); exact BK271.out)) : gb277 ≠ gb271)); clear HO_6; clear BK254; clear BK271; clear HB; have HO_6:=n0_; have BK254:=n1_; have BK271:=n2_; have HB:=n3_; have BK277:=n4_; have GW277:=n5_; have GE277:=n6_; have NB254_277:=n7_; have NB277_254:=n8_; have NB271_277:=n9_; have NB277_271:=n10_; clear n0_ n1_ n2_ n3_ n4_ n5_ n6_ n7_ n8_ n9_ n10_; clear hb hbox hg))
       have n0_:=Aside0.mk (Kd.R_drew HO_6.out)
       have n1_:=Aside0.mk (blk_drew BK254.out)
       have n2_:=Aside0.mk (blk_drew BK271.out)
       have n3_:=Aside0.mk (blk_drew BK277.out)
       have n4_:=Aside0.mk (below_drew1 HB.out)
       clear HO_6
       clear BK254
       clear BK271
       clear BK277
       clear HB
       have HO_6:=n0_
       have BK254:=n1_
       have BK271:=n2_
       have BK277:=n3_
       have HB:=n4_
       clear n0_ n1_ n2_ n3_ n4_
       obtain ⟨Ao42,co42,eo42⟩:=Kd.R_slice HO_6.out
       (first | subst eo42 | (injection eo42 with f1_ f2_ f3_; have f4_:=f1_.symm; have f5_:=f3_.symm; clear f1_ f2_ f3_; subst f4_; subst f5_))
       have p278:0≤(1 : Int):=(by omega)
       have q278:1 < (t272.length : Int):=of_decide_eq_true (by first | (with_reducible assumption) | assumption)
       obtain ⟨ad278,e278,hx278_0⟩:=Kd.at_string (Kd.R_reads' HO_6.out).2.2 1 p278 q278
       cases e278
       (try simp only [show (1 : Int).toNat=1 from rfl,Nat.reduceMul,Nat.reduceEqDiff,Go.Addr.add,↓reduceIte] at hx278_0)
       have qi278 : (1 < t272.length)=True:=eq_true (by omega)
       (try rw [show ((1 : Int)).toNat=1 from rfl] at hx278_0)
       replace p278:=eq_true p278
       replace q278:=eq_true q278
       refine start_ (n:=11) (S:=fun w'=>w'.cell? ⟨gb271,0,none⟩=some (.int .u8 t255)∧w'.cell? ⟨gb271,1,none⟩=some (.int .u8 t256)∧w'.cell? ⟨gb271,2,none⟩=some (.int .u8 t257)∧w'.cell? ⟨gb271,3,none⟩=some (.int .u8 t258)∧w'.cell? ⟨gb271,4,none⟩=some (.int .u8 t259)∧w'.cell? ⟨gb271,5,none⟩=some (.string t260)∧w'.cell? ⟨gb271,6,none⟩=some (.string t261)∧w'.cell? ⟨gb271,7,none⟩=some (.string t262)∧w'.cell? ⟨gb271,8,none⟩=some (.string t263)∧w'.cell? ⟨gb271,9,none⟩=some (.string t264)∧w'.cell? ⟨gb271,10,none⟩=some (.string t265)∧w'.cell? ⟨gb271,11,none⟩=some (.string t266)∧w'.cell? ⟨gb271,12,none⟩=some (.string t267)∧w'.cell? ⟨gb271,13,none⟩=some (.string t268)∧w'.cell? ⟨gb271,14,none⟩=some (.string t269)∧w'.cell? ⟨ad278.block,ad278.off + 1,none⟩=some (.string (rdOf ByteArray.empty t272 1))) (ds:=[]) #[false,false,false,false,false,false,false,false,false,false,false] (by kernel_rfl) rfl rfl ⟨blk_cell BK271.out 0,blk_cell BK271.out 1,blk_cell BK271.out 2,blk_cell BK271.out 3,blk_cell BK271.out 4,blk_cell BK271.out 5,blk_cell BK271.out 6,blk_cell BK271.out 7,blk_cell BK271.out 8,blk_cell BK271.out 9,blk_cell BK271.out 10,blk_cell BK271.out 11,blk_cell BK271.out 12,blk_cell BK271.out 13,blk_cell BK271.out 14,hx278_0⟩ (fun hHeld=>?_); refine with_tabW ack_Read.tab8 ack_Read.bits8 (fun HT_ HW_=>?_)
       generalize w40.drew=w41 at HO_6 BK254 BK271 BK277 HB hx278_0 hHeld ⊢
       refine pure_ (i:=0) (N:=some 31) (v:=?_) (a':=?_) #[true,false,false,false,false,false,false,false,false,false,false] rfl rfl (any_of HT_.out (by kernel_rfl)) (fun _ _ _ h=>h) (Or.inl ⟨by rfl,?_⟩) ?_ ?_
       rotate_left
       ·intro w'
        go_simp
        with_reducible rfl
       rotate_left
       ·simp only [Act.put,sA_,s0_,s1_,i64_w,i32_w]
        rfl
       refine pure_ (i:=1) (N:=some 32) (v:=?_) (a':=?_) #[true,true,false,false,false,false,false,false,false,false,false] rfl rfl (any_of HT_.out (by kernel_rfl)) (fun _ _ _ h=>h) (Or.inl ⟨by rfl,?_⟩) ?_ ?_
       rotate_left
       ·intro w'
        go_simp
        with_reducible rfl
       rotate_left
       ·simp only [Act.put,sA_,s0_,s1_,i64_w,i32_w]
        rfl
       refine pure_ (i:=3) (N:=some 34) (v:=?_) (a':=?_) #[true,true,false,true,false,false,false,false,false,false,false] rfl rfl (any_of HT_.out (by kernel_rfl)) (fun _ _ _ h=>h) (Or.inl ⟨by rfl,?_⟩) ?_ ?_
       rotate_left
       ·intro w'
        go_simp
        with_reducible rfl
       rotate_left
       ·simp only [Act.put,sA_,s0_,s1_,i64_w,i32_w]
        rfl
       refine take_ (i:=2) (N:=some 33) (v:=?_) (a':=?_) #[true,true,true,true,false,false,false,false,false,false,false] rfl rfl (take_ofW HT_.out HW_.out (by kernel_rfl)) (fun _ _ _ h=>h) (Or.inl ⟨by rfl,?_⟩) hHeld ?_ ?_
       rotate_left
       ·rintro w' ⟨s0,s1,s2,s3,s4,s5,s6,s7,s8,s9,s10,s11,s12,s13,s14,s15⟩
        go_simp
        with_reducible rfl
       rotate_left
       ·simp only [Act.put,sA_,s0_,s1_,i64_w,i32_w]
        rfl
       refine take_ (i:=4) (N:=some 35) (v:=?_) (a':=?_) #[true,true,true,true,true,false,false,false,false,false,false] rfl rfl (take_ofW HT_.out HW_.out (by kernel_rfl)) (fun _ _ _ h=>h) (Or.inl ⟨by rfl,?_⟩) hHeld ?_ ?_
       rotate_left
       ·rintro w' ⟨s0,s1,s2,s3,s4,s5,s6,s7,s8,s9,s10,s11,s12,s13,s14,s15⟩
        go_simp
        with_reducible rfl
       rotate_left
       ·simp only [Act.put,sA_,s0_,s1_,i64_w,i32_w]
        rfl
       refine one_ (i:=5) (N:=some 36) #[true,true,true,true,true,true,false,false,false,false,false] rfl rfl (one_of HT_.out (by kernel_rfl)) (by decide) (fun K hK=>?_)
       refine goes_ Tryd.func23 (by kernel_rfl) rfl #[.string (rdOf ByteArray.empty t272 1), .int .i64 1, .agg #[.int .u8 t255, .int .u8 t256, .int .u8 t257, .int .u8 t258, .int .u8 t259]] (by rfl) rfl rfl (by (try simp only [List.map_toArray,List.map_cons,List.map_nil]); first | done | rfl | (simp only [List.length_drop,List.length_take]; rfl)) ?_
       with_reducible refine (segment_Field.calls (rdOf ByteArray.empty t272 1) 1 t255 t256 t257 t258 t259 t279 t280 _ A22.out).mono ?_
       rintro e w43 ⟨rfl,hb⟩
       have HS15_:=(hb.cell (World.block_lt_of_cell? _ _ (hHeld.2.2.2.2.2.2.2.2.2.2.2.2.2.2.2))).trans (hHeld.2.2.2.2.2.2.2.2.2.2.2.2.2.2.2)
       refine ⟨_,rfl,?_⟩
       have n0_:=Aside0.mk (Kd.R_below (by (with_reducible repeat (first | apply Kd.R_alloc | apply Kd.R_drewN | apply Kd.R_drew)); exact HO_6.out) hb)
       have n1_:=Aside0.mk (blk_below (g:=gb254) (o := .cells #[.string (⟨#[]⟩ : ByteArray), .string (⟨#[]⟩ : ByteArray)] 37 (0,0)) (by (with_reducible repeat (first | refine kN ?_ _ | refine kD ?_ | refine kA ?_ _)); exact BK254.out) hb)
       have n2_:=Aside0.mk (blk_below (g:=gb271) (o := .cells #[.int .u8 t255, .int .u8 t256, .int .u8 t257, .int .u8 t258, .int .u8 t259, .string t260, .string t261, .string t262, .string t263, .string t264, .string t265, .string t266, .string t267, .string t268, .string t269] 27 (0,0)) (by (with_reducible repeat (first | refine kN ?_ _ | refine kD ?_ | refine kA ?_ _)); exact BK271.out) hb)
       have n3_:=Aside0.mk (blk_below (g:=gb277) (o := .cells #[.string (⟨#[]⟩ : ByteArray), .string (⟨#[]⟩ : ByteArray)] 37 (0,0)) (by (with_reducible repeat (first | refine kN ?_ _ | refine kD ?_ | refine kA ?_ _)); exact BK277.out) hb)
       have n4_:=Aside0.mk (below_step (by repeat (first | (with_reducible first | exact HB.out | apply bA | apply bN | apply bD | refine below_set ?_ GE254.out | refine below_set ?_ GE271.out | refine below_set ?_ GE277.out) | exact HB.out)) hb)
       clear HO_6
       clear BK254
       clear BK271
       clear BK277
       clear HB
       have HO_6:=n0_
       have BK254:=n1_
       have BK271:=n2_
       have BK277:=n3_
       have HB:=n4_
       clear n0_ n1_ n2_ n3_ n4_
       (try clear hb)
       (try clear hb2)
       (try clear hk)
       (try clear hi)
       refine hK.out _ _ ⟨blk_cell BK271.out 0,blk_cell BK271.out 1,blk_cell BK271.out 2,blk_cell BK271.out 3,blk_cell BK271.out 4,blk_cell BK271.out 5,blk_cell BK271.out 6,blk_cell BK271.out 7,blk_cell BK271.out 8,blk_cell BK271.out 9,blk_cell BK271.out 10,blk_cell BK271.out 11,blk_cell BK271.out 12,blk_cell BK271.out 13,blk_cell BK271.out 14,HS15_⟩ (fun hHeld=>?_)
       clear hK K
       refine norm_ (a':=?_) ?_ ?_
       rotate_left
       ·show Act.put _ (some 36) _=_
        simp only [Act.put,sA_,s0_,s1_,i64_w,i32_w]
        rfl
       refine pure_ (i:=6) (N:=some 30) (v:=?_) (a':=?_) #[true,true,true,true,true,true,true,false,false,false,false] rfl rfl (any_of HT_.out (by kernel_rfl)) (fun _ _ _ h=>h) (Or.inl ⟨by rfl,?_⟩) ?_ ?_
       rotate_left
       ·intro w'
        go_simp
        with_reducible rfl
       rotate_left
       ·simp only [Act.put,sA_,s0_,s1_,i64_w,i32_w]
        rfl
       refine pure_ (i:=7) (N:=some 37) (v:=?_) (a':=?_) #[true,true,true,true,true,true,true,true,false,false,false] rfl rfl (any_of HT_.out (by kernel_rfl)) (fun _ _ _ h=>h) (Or.inl ⟨by rfl,?_⟩) ?_ ?_
       rotate_left
       ·intro w'
        go_simp
        with_reducible rfl
       rotate_left
       ·simp only [Act.put,sA_,s0_,s1_,i64_w,i32_w]
        rfl
       refine pure_ (i:=8) (N:=some 38) (v:=?_) (a':=?_) #[true,true,true,true,true,true,true,true,true,false,false] rfl rfl (any_of HT_.out (by kernel_rfl)) (fun _ _ _ h=>h) (Or.inl ⟨by rfl,?_⟩) ?_ ?_
       rotate_left
       ·intro w'
        go_simp
        with_reducible rfl
       rotate_left
       ·simp only [Act.put,sA_,s0_,s1_,i64_w,i32_w]
        rfl
       refine pure_ (i:=9) (N:=some 39) (v:=?_) (a':=?_) #[true,true,true,true,true,true,true,true,true,true,false] rfl rfl (any_of HT_.out (by kernel_rfl)) (fun _ _ _ h=>h) (Or.inl ⟨by rfl,?_⟩) ?_ ?_
       rotate_left
       ·intro w'
        go_simp
        with_reducible rfl
       rotate_left
       ·simp only [Act.put,sA_,s0_,s1_,i64_w,i32_w]
        rfl
       refine one_ (i:=10) (N:=none) #[true,true,true,true,true,true,true,true,true,true,true] rfl rfl (one_of HT_.out (by kernel_rfl)) (by decide) (fun K hK=>?_)
       have hs44:w43.cell? ⟨gb277,0,none⟩=some (.string (⟨#[]⟩ : ByteArray)):=blk_cell BK277.out 0
       have hfs44:=blk_frozen BK277.out 0
       have hns44_0:=NB254_277.out
       have hns44_1:=NB271_277.out
       have hms44_0:=NB277_254.out
       have hms44_1:=NB277_271.out
       refine skip_ (w1:=?_) (by rfl) rfl ?_ ?_
       rotate_left
       ·go_simp
        rfl
       refine hK.out _ _ ⟨((cF (p:=⟨gb277,_,none⟩) NB271_277.out _).trans (hHeld.1)),((cF (p:=⟨gb277,_,none⟩) NB271_277.out _).trans (hHeld.2.1)),((cF (p:=⟨gb277,_,none⟩) NB271_277.out _).trans (hHeld.2.2.1)),((cF (p:=⟨gb277,_,none⟩) NB271_277.out _).trans (hHeld.2.2.2.1)),((cF (p:=⟨gb277,_,none⟩) NB271_277.out _).trans (hHeld.2.2.2.2.1)),((cF (p:=⟨gb277,_,none⟩) NB271_277.out _).trans (hHeld.2.2.2.2.2.1)),((cF (p:=⟨gb277,_,none⟩) NB271_277.out _).trans (hHeld.2.2.2.2.2.2.1)),((cF (p:=⟨gb277,_,none⟩) NB271_277.out _).trans (hHeld.2.2.2.2.2.2.2.1)),((cF (p:=⟨gb277,_,none⟩) NB271_277.out _).trans (hHeld.2.2.2.2.2.2.2.2.1)),((cF (p:=⟨gb277,_,none⟩) NB271_277.out _).trans (hHeld.2.2.2.2.2.2.2.2.2.1)),((cF (p:=⟨gb277,_,none⟩) NB271_277.out _).trans (hHeld.2.2.2.2.2.2.2.2.2.2.1)),((cF (p:=⟨gb277,_,none⟩) NB271_277.out _).trans (hHeld.2.2.2.2.2.2.2.2.2.2.2.1)),((cF (p:=⟨gb277,_,none⟩) NB271_277.out _).trans (hHeld.2.2.2.2.2.2.2.2.2.2.2.2.1)),((cF (p:=⟨gb277,_,none⟩) NB271_277.out _).trans (hHeld.2.2.2.2.2.2.2.2.2.2.2.2.2.1)),((cF (p:=⟨gb277,_,none⟩) NB271_277.out _).trans (hHeld.2.2.2.2.2.2.2.2.2.2.2.2.2.2.1)),((cF (p:=⟨gb277,_,none⟩) (by first | exact Kd.own_blk (Kd.R_ne HO_6.out BK277.out (by decide)) | (rw [add_block]; exact Kd.own_blk (Kd.R_ne HO_6.out BK277.out (by decide))) | (show (Addr.add _ _).block ≠ _; rw [add_block]; exact Kd.own_blk (Kd.R_ne HO_6.out BK277.out (by decide))) | (dsimp only; exact Kd.own_blk (Kd.R_ne HO_6.out BK277.out (by decide)))) _).trans (hHeld.2.2.2.2.2.2.2.2.2.2.2.2.2.2.2))⟩ (fun hHeld=>?_)
       clear hK K
       refine done_ (done_of HT_.out (by kernel_rfl)) ?_
       try go_wp2
       have n0_:Aside0 (Kd.R Kd.string 9 (w43.setCell ⟨gb277,0,none⟩ (.string t279)) w.heap.size (fun _=>True) (.slice (some ad278) t272.length co42) t272):=⟨by (with_reducible repeat (first | apply Kd.R_alloc | apply Kd.R_drewN | apply Kd.R_drew)); exact Kd.R_mono (Kd.R_far (p:=⟨gb277,0,none⟩) (Kd.R_types HO_6.out BK277.out (by decide)) (fun _ hk=>hk.2) (.string t279)) (fun _ hk=>trivial)⟩
       have n1_:Aside0 ((w43.setCell ⟨gb277,0,none⟩ (.string t279)).heap[gb254]?=some (.cells #[.string (⟨#[]⟩ : ByteArray), .string (⟨#[]⟩ : ByteArray)] 37 (0,0))):=⟨by (with_reducible repeat (first | refine kN ?_ _ | refine kD ?_ | refine kA ?_ _)); refine blk_far ?_ NB254_277.out _; (with_reducible repeat (first | refine kN ?_ _ | refine kD ?_ | refine kA ?_ _)); exact BK254.out⟩
       have n2_:Aside0 ((w43.setCell ⟨gb277,0,none⟩ (.string t279)).heap[gb271]?=some (.cells #[.int .u8 t255, .int .u8 t256, .int .u8 t257, .int .u8 t258, .int .u8 t259, .string t260, .string t261, .string t262, .string t263, .string t264, .string t265, .string t266, .string t267, .string t268, .string t269] 27 (0,0))):=⟨by (with_reducible repeat (first | refine kN ?_ _ | refine kD ?_ | refine kA ?_ _)); refine blk_far ?_ NB271_277.out _; (with_reducible repeat (first | refine kN ?_ _ | refine kD ?_ | refine kA ?_ _)); exact BK271.out⟩
       have n3_:Aside0 ((w43.setCell ⟨gb277,0,none⟩ (.string t279)).heap[gb277]?=some (.cells #[.string t279, .string (⟨#[]⟩ : ByteArray)] 37 (0,0))):=⟨by (with_reducible repeat (first | refine kN ?_ _ | refine kD ?_ | refine kA ?_ _)); refine blk_put (cs:=#[.string (⟨#[]⟩ : ByteArray), .string (⟨#[]⟩ : ByteArray)]) ?_ 0 _ rfl; (with_reducible repeat (first | refine kN ?_ _ | refine kD ?_ | refine kA ?_ _)); exact BK277.out⟩
       have n4_:Aside0 (Below w.heap.size w (w43.setCell ⟨gb277,0,none⟩ (.string t279))):=⟨by repeat (first | (with_reducible first | exact HB.out | apply bA | apply bN | apply bD | refine below_set ?_ GE254.out | refine below_set ?_ GE271.out | refine below_set ?_ GE277.out) | exact HB.out)⟩
       (try clear HO_6)
       (try clear BK254)
       (try clear BK271)
       (try clear BK277)
       (try clear HB)
       generalize (w43.setCell ⟨gb277,0,none⟩ (.string t279))=w45 at n0_ n1_ n2_ n3_ n4_ ⊢
       have HO_6:=n0_
       have BK254:=n1_
       have BK271:=n2_
       have BK277:=n3_
       have HB:=n4_
       clear n0_ n1_ n2_ n3_ n4_
       have n0_:=Aside0.mk (Kd.R_drew HO_6.out)
       have n1_:=Aside0.mk (blk_drew BK254.out)
       have n2_:=Aside0.mk (blk_drew BK271.out)
       have n3_:=Aside0.mk (blk_drew BK277.out)
       have n4_:=Aside0.mk (below_drew1 HB.out)
       clear HO_6
       clear BK254
       clear BK271
       clear BK277
       clear HB
       have HO_6:=n0_
       have BK254:=n1_
       have BK271:=n2_
       have BK277:=n3_
       have HB:=n4_
       clear n0_ n1_ n2_ n3_ n4_
       have p281:0≤(1 : Int):=(by omega)
       have q281:1 < (t272.length : Int):=of_decide_eq_true (by first | (with_reducible assumption) | assumption)
       obtain ⟨ad281,e281,hx281_0⟩:=Kd.at_string (Kd.R_reads' HO_6.out).2.2 1 p281 q281
       obtain rfl : ad278=ad281:=(by injection e281)
       (try simp only [show (1 : Int).toNat=1 from rfl,Nat.reduceMul,Nat.reduceEqDiff,Go.Addr.add,↓reduceIte] at hx281_0)
       have qi281 : (1 < t272.length)=True:=eq_true (by omega)
       (try rw [show ((1 : Int)).toNat=1 from rfl] at hx281_0)
       replace p281:=eq_true p281
       replace q281:=eq_true q281
       refine start_ (n:=11) (S:=fun w'=>w'.cell? ⟨gb271,0,none⟩=some (.int .u8 t255)∧w'.cell? ⟨gb271,1,none⟩=some (.int .u8 t256)∧w'.cell? ⟨gb271,2,none⟩=some (.int .u8 t257)∧w'.cell? ⟨gb271,3,none⟩=some (.int .u8 t258)∧w'.cell? ⟨gb271,4,none⟩=some (.int .u8 t259)∧w'.cell? ⟨gb271,5,none⟩=some (.string t260)∧w'.cell? ⟨gb271,6,none⟩=some (.string t261)∧w'.cell? ⟨gb271,7,none⟩=some (.string t262)∧w'.cell? ⟨gb271,8,none⟩=some (.string t263)∧w'.cell? ⟨gb271,9,none⟩=some (.string t264)∧w'.cell? ⟨gb271,10,none⟩=some (.string t265)∧w'.cell? ⟨gb271,11,none⟩=some (.string t266)∧w'.cell? ⟨gb271,12,none⟩=some (.string t267)∧w'.cell? ⟨gb271,13,none⟩=some (.string t268)∧w'.cell? ⟨gb271,14,none⟩=some (.string t269)∧w'.cell? ⟨ad278.block,ad278.off + 1,none⟩=some (.string (rdOf ByteArray.empty t272 1))) (ds:=[]) #[false,false,false,false,false,false,false,false,false,false,false] (by kernel_rfl) rfl rfl ⟨blk_cell BK271.out 0,blk_cell BK271.out 1,blk_cell BK271.out 2,blk_cell BK271.out 3,blk_cell BK271.out 4,blk_cell BK271.out 5,blk_cell BK271.out 6,blk_cell BK271.out 7,blk_cell BK271.out 8,blk_cell BK271.out 9,blk_cell BK271.out 10,blk_cell BK271.out 11,blk_cell BK271.out 12,blk_cell BK271.out 13,blk_cell BK271.out 14,hx281_0⟩ (fun hHeld=>?_); refine with_tabW ack_Read.tab9 ack_Read.bits9 (fun HT_ HW_=>?_)
       generalize w45.drew=w46 at HO_6 BK254 BK271 BK277 HB hx281_0 hHeld ⊢
       refine pure_ (i:=0) (N:=some 41) (v:=?_) (a':=?_) #[true,false,false,false,false,false,false,false,false,false,false] rfl rfl (any_of HT_.out (by kernel_rfl)) (fun _ _ _ h=>h) (Or.inl ⟨by rfl,?_⟩) ?_ ?_
       rotate_left
       ·intro w'
        go_simp
        with_reducible rfl
       rotate_left
       ·simp only [Act.put,sA_,s0_,s1_,i64_w,i32_w]
        rfl
       refine pure_ (i:=1) (N:=some 42) (v:=?_) (a':=?_) #[true,true,false,false,false,false,false,false,false,false,false] rfl rfl (any_of HT_.out (by kernel_rfl)) (fun _ _ _ h=>h) (Or.inl ⟨by rfl,?_⟩) ?_ ?_
       rotate_left
       ·intro w'
        go_simp
        with_reducible rfl
       rotate_left
       ·simp only [Act.put,sA_,s0_,s1_,i64_w,i32_w]
        rfl
       refine pure_ (i:=3) (N:=some 44) (v:=?_) (a':=?_) #[true,true,false,true,false,false,false,false,false,false,false] rfl rfl (any_of HT_.out (by kernel_rfl)) (fun _ _ _ h=>h) (Or.inl ⟨by rfl,?_⟩) ?_ ?_
       rotate_left
       ·intro w'
        go_simp
        with_reducible rfl
       rotate_left
       ·simp only [Act.put,sA_,s0_,s1_,i64_w,i32_w]
        rfl
       refine take_ (i:=2) (N:=some 43) (v:=?_) (a':=?_) #[true,true,true,true,false,false,false,false,false,false,false] rfl rfl (take_ofW HT_.out HW_.out (by kernel_rfl)) (fun _ _ _ h=>h) (Or.inl ⟨by rfl,?_⟩) hHeld ?_ ?_
       rotate_left
       ·rintro w' ⟨s0,s1,s2,s3,s4,s5,s6,s7,s8,s9,s10,s11,s12,s13,s14,s15⟩
        go_simp
        with_reducible rfl
       rotate_left
       ·simp only [Act.put,sA_,s0_,s1_,i64_w,i32_w]
        rfl
       refine take_ (i:=4) (N:=some 45) (v:=?_) (a':=?_) #[true,true,true,true,true,false,false,false,false,false,false] rfl rfl (take_ofW HT_.out HW_.out (by kernel_rfl)) (fun _ _ _ h=>h) (Or.inl ⟨by rfl,?_⟩) hHeld ?_ ?_
       rotate_left
       ·rintro w' ⟨s0,s1,s2,s3,s4,s5,s6,s7,s8,s9,s10,s11,s12,s13,s14,s15⟩
        go_simp
        with_reducible rfl
       rotate_left
       ·simp only [Act.put,sA_,s0_,s1_,i64_w,i32_w]
        rfl
       refine one_ (i:=5) (N:=some 46) #[true,true,true,true,true,true,false,false,false,false,false] rfl rfl (one_of HT_.out (by kernel_rfl)) (by decide) (fun K hK=>?_)
       refine goes_ Tryd.func23 (by kernel_rfl) rfl #[.string (rdOf ByteArray.empty t272 1), .int .i64 2, .agg #[.int .u8 t255, .int .u8 t256, .int .u8 t257, .int .u8 t258, .int .u8 t259]] (by rfl) rfl rfl (by (try simp only [List.map_toArray,List.map_cons,List.map_nil]); first | done | rfl | (simp only [List.length_drop,List.length_take]; rfl)) ?_
       with_reducible refine (segment_Field.calls (rdOf ByteArray.empty t272 1) 2 t255 t256 t257 t258 t259 t282 t283 _ A23.out).mono ?_
       rintro e w47 ⟨rfl,hb⟩
       have HS15_:=(hb.cell (World.block_lt_of_cell? _ _ (hHeld.2.2.2.2.2.2.2.2.2.2.2.2.2.2.2))).trans (hHeld.2.2.2.2.2.2.2.2.2.2.2.2.2.2.2)
       refine ⟨_,rfl,?_⟩
       have n0_:=Aside0.mk (Kd.R_below (by (with_reducible repeat (first | apply Kd.R_alloc | apply Kd.R_drewN | apply Kd.R_drew)); exact HO_6.out) hb)
       have n1_:=Aside0.mk (blk_below (g:=gb254) (o := .cells #[.string (⟨#[]⟩ : ByteArray), .string (⟨#[]⟩ : ByteArray)] 37 (0,0)) (by (with_reducible repeat (first | refine kN ?_ _ | refine kD ?_ | refine kA ?_ _)); exact BK254.out) hb)
       have n2_:=Aside0.mk (blk_below (g:=gb271) (o := .cells #[.int .u8 t255, .int .u8 t256, .int .u8 t257, .int .u8 t258, .int .u8 t259, .string t260, .string t261, .string t262, .string t263, .string t264, .string t265, .string t266, .string t267, .string t268, .string t269] 27 (0,0)) (by (with_reducible repeat (first | refine kN ?_ _ | refine kD ?_ | refine kA ?_ _)); exact BK271.out) hb)
       have n3_:=Aside0.mk (blk_below (g:=gb277) (o := .cells #[.string t279, .string (⟨#[]⟩ : ByteArray)] 37 (0,0)) (by (with_reducible repeat (first | refine kN ?_ _ | refine kD ?_ | refine kA ?_ _)); exact BK277.out) hb)
       have n4_:=Aside0.mk (below_step (by repeat (first | (with_reducible first | exact HB.out | apply bA | apply bN | apply bD | refine below_set ?_ GE254.out | refine below_set ?_ GE271.out | refine below_set ?_ GE277.out) | exact HB.out)) hb)
       clear HO_6
       clear BK254
       clear BK271
       clear BK277
       clear HB
       have HO_6:=n0_
       have BK254:=n1_
       have BK271:=n2_
       have BK277:=n3_
       have HB:=n4_
       clear n0_ n1_ n2_ n3_ n4_
       (try clear hb)
       (try clear hb2)
       (try clear hk)
       (try clear hi)
       refine hK.out _ _ ⟨blk_cell BK271.out 0,blk_cell BK271.out 1,blk_cell BK271.out 2,blk_cell BK271.out 3,blk_cell BK271.out 4,blk_cell BK271.out 5,blk_cell BK271.out 6,blk_cell BK271.out 7,blk_cell BK271.out 8,blk_cell BK271.out 9,blk_cell BK271.out 10,blk_cell BK271.out 11,blk_cell BK271.out 12,blk_cell BK271.out 13,blk_cell BK271.out 14,HS15_⟩ (fun hHeld=>?_)
       clear hK K
       refine norm_ (a':=?_) ?_ ?_
       rotate_left
       ·show Act.put _ (some 46) _=_
        simp only [Act.put,sA_,s0_,s1_,i64_w,i32_w]
        rfl
       refine pure_ (i:=6) (N:=some 40) (v:=?_) (a':=?_) #[true,true,true,true,true,true,true,false,false,false,false] rfl rfl (any_of HT_.out (by kernel_rfl)) (fun _ _ _ h=>h) (Or.inl ⟨by rfl,?_⟩) ?_ ?_
       rotate_left
       ·intro w'
        go_simp
        with_reducible rfl
       rotate_left
       ·simp only [Act.put,sA_,s0_,s1_,i64_w,i32_w]
        rfl
       refine pure_ (i:=7) (N:=some 47) (v:=?_) (a':=?_) #[true,true,true,true,true,true,true,true,false,false,false] rfl rfl (any_of HT_.out (by kernel_rfl)) (fun _ _ _ h=>h) (Or.inl ⟨by rfl,?_⟩) ?_ ?_
       rotate_left
       ·intro w'
        go_simp
        with_reducible rfl
       rotate_left
       ·simp only [Act.put,sA_,s0_,s1_,i64_w,i32_w]
        rfl
       refine pure_ (i:=8) (N:=some 48) (v:=?_) (a':=?_) #[true,true,true,true,true,true,true,true,true,false,false] rfl rfl (any_of HT_.out (by kernel_rfl)) (fun _ _ _ h=>h) (Or.inl ⟨by rfl,?_⟩) ?_ ?_
       rotate_left
       ·intro w'
        go_simp
        with_reducible rfl
       rotate_left
       ·simp only [Act.put,sA_,s0_,s1_,i64_w,i32_w]
        rfl
       refine pure_ (i:=9) (N:=some 49) (v:=?_) (a':=?_) #[true,true,true,true,true,true,true,true,true,true,false] rfl rfl (any_of HT_.out (by kernel_rfl)) (fun _ _ _ h=>h) (Or.inl ⟨by rfl,?_⟩) ?_ ?_
       rotate_left
       ·intro w'
        go_simp
        with_reducible rfl
       rotate_left
       ·simp only [Act.put,sA_,s0_,s1_,i64_w,i32_w]
        rfl
       refine one_ (i:=10) (N:=none) #[true,true,true,true,true,true,true,true,true,true,true] rfl rfl (one_of HT_.out (by kernel_rfl)) (by decide) (fun K hK=>?_)
       have hs48:w47.cell? ⟨gb277,1,none⟩=some (.string (⟨#[]⟩ : ByteArray)):=blk_cell BK277.out 1
       have hfs48:=blk_frozen BK277.out 1
       have hns48_0:=NB254_277.out
       have hns48_1:=NB271_277.out
       have hms48_0:=NB277_254.out
       have hms48_1:=NB277_271.out
       refine skip_ (w1:=?_) (by rfl) rfl ?_ ?_
       rotate_left
       ·go_simp
        rfl
       refine hK.out _ _ ⟨((cF (p:=⟨gb277,_,none⟩) NB271_277.out _).trans (hHeld.1)),((cF (p:=⟨gb277,_,none⟩) NB271_277.out _).trans (hHeld.2.1)),((cF (p:=⟨gb277,_,none⟩) NB271_277.out _).trans (hHeld.2.2.1)),((cF (p:=⟨gb277,_,none⟩) NB271_277.out _).trans (hHeld.2.2.2.1)),((cF (p:=⟨gb277,_,none⟩) NB271_277.out _).trans (hHeld.2.2.2.2.1)),((cF (p:=⟨gb277,_,none⟩) NB271_277.out _).trans (hHeld.2.2.2.2.2.1)),((cF (p:=⟨gb277,_,none⟩) NB271_277.out _).trans (hHeld.2.2.2.2.2.2.1)),((cF (p:=⟨gb277,_,none⟩) NB271_277.out _).trans (hHeld.2.2.2.2.2.2.2.1)),((cF (p:=⟨gb277,_,none⟩) NB271_277.out _).trans (hHeld.2.2.2.2.2.2.2.2.1)),((cF (p:=⟨gb277,_,none⟩) NB271_277.out _).trans (hHeld.2.2.2.2.2.2.2.2.2.1)),((cF (p:=⟨gb277,_,none⟩) NB271_277.out _).trans (hHeld.2.2.2.2.2.2.2.2.2.2.1)),((cF (p:=⟨gb277,_,none⟩) NB271_277.out _).trans (hHeld.2.2.2.2.2.2.2.2.2.2.2.1)),((cF (p:=⟨gb277,_,none⟩) NB271_277.out _).trans (hHeld.2.2.2.2.2.2.2.2.2.2.2.2.1)),((cF (p:=⟨gb277,_,none⟩) NB271_277.out _).trans (hHeld.2.2.2.2.2.2.2.2.2.2.2.2.2.1)),((cF (p:=⟨gb277,_,none⟩) NB271_277.out _).trans (hHeld.2.2.2.2.2.2.2.2.2.2.2.2.2.2.1)),((cF (p:=⟨gb277,_,none⟩) (by first | exact Kd.own_blk (Kd.R_ne HO_6.out BK277.out (by decide)) | (rw [add_block]; exact Kd.own_blk (Kd.R_ne HO_6.out BK277.out (by decide))) | (show (Addr.add _ _).block ≠ _; rw [add_block]; exact Kd.own_blk (Kd.R_ne HO_6.out BK277.out (by decide))) | (dsimp only; exact Kd.own_blk (Kd.R_ne HO_6.out BK277.out (by decide)))) _).trans (hHeld.2.2.2.2.2.2.2.2.2.2.2.2.2.2.2))⟩ (fun hHeld=>?_)
       clear hK K
       refine done_ (done_of HT_.out (by kernel_rfl)) ?_
       have hnb49:=NB277_254.out
       have hnc49:=NB254_277.out
       have hnb50:=NB277_271.out
       have hnc50:=NB271_277.out
       have hcz51_0:w47.cell? ⟨gb277,0,none⟩=some (.string t279):=blk_cell BK277.out 0
       have hcz51_1:w47.cell? ⟨gb277,1,none⟩=some (.string (⟨#[]⟩ : ByteArray)):=blk_cell BK277.out 1
       have hfz51_0:=blk_frozen BK277.out 0
       have hfz51_1:=blk_frozen BK277.out 1
       try go_wp2_with (first | ((with_reducible refine gate_callee (f:=24) rfl ?_); refine goesL_ (some 52) rfl rfl Tryd.func24 (by kernel_rfl) rfl #[.string t279] rfl (by (try simp only [List.map_toArray,List.map_cons,List.map_nil]); first | done | rfl | (simp only [List.length_drop,List.length_take]; rfl)) ?_; (with_reducible refine (ack_Known.calls kj4 t279 false _ A24.out (globc_below HGLOC.out (by repeat (first | (with_reducible first | exact HB.out | apply bA | apply bN | apply bD | refine below_set ?_ GE254.out | refine below_set ?_ GE271.out | refine below_set ?_ GE277.out) | exact HB.out)))).mono ?_); rintro e w' ⟨rfl,⟨nd,rfl⟩⟩; refine ⟨_,rfl,?_⟩; have hnb52:=NB254_271.out; have hnc52:=NB271_254.out; have hcz53_0:w47.cell? ⟨gb254,0,none⟩=some (.string (⟨#[]⟩ : ByteArray)):=blk_cell BK254.out 0; have hcz53_1:w47.cell? ⟨gb254,1,none⟩=some (.string (⟨#[]⟩ : ByteArray)):=blk_cell BK254.out 1; have hfz53_0:=blk_frozen BK254.out 0; have hfz53_1:=blk_frozen BK254.out 1))
       refine bodyPost_ret (results_ct rfl _ _ gb254 37 #[.string (⟨#[]⟩ : ByteArray), .string (⟨#[]⟩ : ByteArray)] (0,0) _ rfl (by (with_reducible repeat (first | refine kN ?_ _ | refine kD ?_ | refine kA ?_ _)); refine blk_put (cs:=#[.string (⟨#[]⟩ : ByteArray), .string (⟨#[]⟩ : ByteArray)]) ?_ 1 _ rfl; (with_reducible repeat (first | refine kN ?_ _ | refine kD ?_ | refine kA ?_ _)); refine blk_put (cs:=#[.string (⟨#[]⟩ : ByteArray), .string (⟨#[]⟩ : ByteArray)]) ?_ 0 _ rfl; (with_reducible repeat (first | refine kN ?_ _ | refine kD ?_ | refine kA ?_ _)); refine blk_far ?_ NB254_277.out _; (with_reducible repeat (first | refine kN ?_ _ | refine kD ?_ | refine kA ?_ _)); exact BK254.out) Tryd.underlying37 rfl (by kernel_rfl)) rfl ?_
       exact ⟨by first | rfl | (simp [errW_none,errW_some] <;> rfl) | (simp [*,errW_none,errW_some] <;> rfl),by repeat (first | (with_reducible first | exact HB.out | apply bA | apply bN | apply bD | refine below_set ?_ GE254.out | refine below_set ?_ GE271.out | refine below_set ?_ GE277.out) | exact HB.out)⟩
     ·rw [if_neg c21] at H
      exact absurd H (by simp)
 ·rw [if_neg c3] at H
  have c3b0 : (t270 == 0)=false:=beq_eq_false_iff_ne.mpr c3
  have c3b1 : (t270 != 0)=true:=bne_iff_ne.mpr c3
  simp only [Option.some.injEq,Prod.mk.injEq] at H
  obtain ⟨rfl,rfl,rfl⟩:=H
  go_enter Tryd.func9,Tryd.ntmps9
  go_wp2_with (first | ((with_reducible refine gate_dst (N:=2) rfl ?_); refine box_event ?hg (N:=2) ?hd (cs:=#[.string (⟨#[]⟩ : ByteArray), .string (⟨#[]⟩ : ByteArray)]) (t:=37) ?hr ?_; (case hd=>rfl); (case hg=>rfl); (case hr=>first | (go_simp; done) | (go_simp; rfl)); intro gb254 hg w54 hbox hb; have n0_:=Aside0.mk (below_step (by repeat (first | (with_reducible first | exact HB.out | apply bA | apply bN | apply bD) | exact HB.out)) hb); have n1_:=Aside0.mk (hbox); have n2_:=Aside0.mk ((by rw [hg]; exact (below_size (by repeat (first | (with_reducible first | exact HB.out | apply bA | apply bN | apply bD) | exact HB.out))) : w.heap.size≤gb254)); have n3_:=Aside0.mk ((by rw [hg]; exact (below_size (by repeat (first | (with_reducible first | exact HB.out | apply bA | apply bN | apply bD) | exact HB.out))) : w.heap.size≤gb254)); clear HB; have HB:=n0_; have BK254:=n1_; have GW254:=n2_; have GE254:=n3_; clear n0_ n1_ n2_ n3_; clear hb hbox hg) | ((with_reducible refine gate_callee (f:=11) rfl ?_); refine goesL_ (some 10) rfl rfl Tryd.func11 (by kernel_rfl) rfl #[.slice A0 l0.length c0] rfl (by (try simp only [List.map_toArray,List.map_cons,List.map_nil]); first | done | rfl | (simp only [List.length_drop,List.length_take]; rfl)) ?_; (with_reducible refine (msh_Read.calls k _ _ l0 t255 t256 t257 t258 t259 t260 t261 t262 t263 t264 t265 t266 t267 t268 t269 t270 _ ?side1 ?side2 A2.out).mono ?_); (case side1=>repeat (first | exact (Kd.C_below HR0.out HB.out) | (with_reducible refine Kd.C_alloc ?_ _) | (with_reducible refine Kd.C_drewN ?_ _) | (with_reducible refine Kd.C_drew ?_))); (case side2=>exact HC0.out); rintro e w55 ⟨rfl,hb⟩; refine ⟨_,rfl,?_⟩; have n0_:=Aside0.mk (blk_below (g:=gb254) (o := .cells #[.string (⟨#[]⟩ : ByteArray), .string (⟨#[]⟩ : ByteArray)] 37 (0,0)) (by (with_reducible repeat (first | refine kN ?_ _ | refine kD ?_ | refine kA ?_ _)); exact BK254.out) hb); have n1_:=Aside0.mk (below_step (by repeat (first | (with_reducible first | exact HB.out | apply bA | apply bN | apply bD | refine below_set ?_ GE254.out) | exact HB.out)) hb); clear BK254; clear HB; have BK254:=n0_; have HB:=n1_; clear n0_ n1_; (try clear hb)) | ((with_reducible refine gate_dst (N:=4) rfl ?_); refine box_event ?hg (N:=4) ?hd (cs:=#[.int .u8 0, .int .u8 0, .int .u8 0, .int .u8 0, .int .u8 0, .string (⟨#[]⟩ : ByteArray), .string (⟨#[]⟩ : ByteArray), .string (⟨#[]⟩ : ByteArray), .string (⟨#[]⟩ : ByteArray), .string (⟨#[]⟩ : ByteArray), .string (⟨#[]⟩ : ByteArray), .string (⟨#[]⟩ : ByteArray), .string (⟨#[]⟩ : ByteArray), .string (⟨#[]⟩ : ByteArray), .string (⟨#[]⟩ : ByteArray)]) (t:=27) ?hr ?_; (case hd=>rfl); (case hg=>rfl); (case hr=>first | (go_simp; done) | (go_simp; rfl)); intro gb271 hg w56 hbox hb; have n0_:=Aside0.mk (blk_below (g:=gb254) (o := .cells #[.string (⟨#[]⟩ : ByteArray), .string (⟨#[]⟩ : ByteArray)] 37 (0,0)) (by (with_reducible repeat (first | refine kN ?_ _ | refine kD ?_ | refine kA ?_ _)); exact BK254.out) hb); have n1_:=Aside0.mk (below_step (by repeat (first | (with_reducible first | exact HB.out | apply bA | apply bN | apply bD | refine below_set ?_ GE254.out) | exact HB.out)) hb); have n2_:=Aside0.mk (hbox); have n3_:=Aside0.mk ((by rw [hg]; exact (below_size (by repeat (first | (with_reducible first | exact HB.out | apply bA | apply bN | apply bD | refine below_set ?_ GE254.out) | exact HB.out))) : w.heap.size≤gb271)); have n4_:=Aside0.mk ((by rw [hg]; exact (below_size (by repeat (first | (with_reducible first | exact HB.out | apply bA | apply bN | apply bD | refine below_set ?_ GE254.out) | exact HB.out))) : w.heap.size≤gb271)); have n5_:=Aside0.mk ((by rw [hg]; exact Nat.ne_of_lt (blk_lt (g:=gb254) (o := .cells #[.string (⟨#[]⟩ : ByteArray), .string (⟨#[]⟩ : ByteArray)] 37 (0,0)) (by (with_reducible repeat (first | refine kN ?_ _ | refine kD ?_ | refine kA ?_ _)); exact BK254.out)) : gb254 ≠ gb271)); have n6_:=Aside0.mk ((by rw [hg]; exact Nat.ne_of_gt (blk_lt (g:=gb254) (o := .cells #[.string (⟨#[]⟩ : ByteArray), .string (⟨#[]⟩ : ByteArray)] 37 (0,0)) (by (with_reducible repeat (first | refine kN ?_ _ | refine kD ?_ | refine kA ?_ _)); exact BK254.out)) : gb271 ≠ gb254)); clear BK254; clear HB; have BK254:=n0_; have HB:=n1_; have BK271:=n2_; have GW271:=n3_; have GE271:=n4_; have NB254_271:=n5_; have NB271_254:=n6_; clear n0_ n1_ n2_ n3_ n4_ n5_ n6_; clear hb hbox hg; have hnb57:=NB271_254.out; have hnc57:=NB254_271.out; have hcz58_0:w56.cell? ⟨gb271,0,none⟩=some (.int .u8 0):=blk_cell BK271.out 0; have hcz58_1:w56.cell? ⟨gb271,1,none⟩=some (.int .u8 0):=blk_cell BK271.out 1; have hcz58_2:w56.cell? ⟨gb271,2,none⟩=some (.int .u8 0):=blk_cell BK271.out 2; have hcz58_3:w56.cell? ⟨gb271,3,none⟩=some (.int .u8 0):=blk_cell BK271.out 3; have hcz58_4:w56.cell? ⟨gb271,4,none⟩=some (.int .u8 0):=blk_cell BK271.out 4; have hcz58_5:w56.cell? ⟨gb271,5,none⟩=some (.string (⟨#[]⟩ : ByteArray)):=blk_cell BK271.out 5; have hcz58_6:w56.cell? ⟨gb271,6,none⟩=some (.string (⟨#[]⟩ : ByteArray)):=blk_cell BK271.out 6; have hcz58_7:w56.cell? ⟨gb271,7,none⟩=some (.string (⟨#[]⟩ : ByteArray)):=blk_cell BK271.out 7; have hcz58_8:w56.cell? ⟨gb271,8,none⟩=some (.string (⟨#[]⟩ : ByteArray)):=blk_cell BK271.out 8; have hcz58_9:w56.cell? ⟨gb271,9,none⟩=some (.string (⟨#[]⟩ : ByteArray)):=blk_cell BK271.out 9; have hcz58_10:w56.cell? ⟨gb271,10,none⟩=some (.string (⟨#[]⟩ : ByteArray)):=blk_cell BK271.out 10; have hcz58_11:w56.cell? ⟨gb271,11,none⟩=some (.string (⟨#[]⟩ : ByteArray)):=blk_cell BK271.out 11; have hcz58_12:w56.cell? ⟨gb271,12,none⟩=some (.string (⟨#[]⟩ : ByteArray)):=blk_cell BK271.out 12; have hcz58_13:w56.cell? ⟨gb271,13,none⟩=some (.string (⟨#[]⟩ : ByteArray)):=blk_cell BK271.out 13; have hcz58_14:w56.cell? ⟨gb271,14,none⟩=some (.string (⟨#[]⟩ : ByteArray)):=blk_cell BK271.out 14; have hfz58_0:=blk_frozen BK271.out 0; have hfz58_1:=blk_frozen BK271.out 1; have hfz58_2:=blk_frozen BK271.out 2; have hfz58_3:=blk_frozen BK271.out 3; have hfz58_4:=blk_frozen BK271.out 4; have hfz58_5:=blk_frozen BK271.out 5; have hfz58_6:=blk_frozen BK271.out 6; have hfz58_7:=blk_frozen BK271.out 7; have hfz58_8:=blk_frozen BK271.out 8; have hfz58_9:=blk_frozen BK271.out 9; have hfz58_10:=blk_frozen BK271.out 10; have hfz58_11:=blk_frozen BK271.out 11; have hfz58_12:=blk_frozen BK271.out 12; have hfz58_13:=blk_frozen BK271.out 13; have hfz58_14:=blk_frozen BK271.out 14; have hcz59_0:w56.cell? ⟨gb254,0,none⟩=some (.string (⟨#[]⟩ : ByteArray)):=blk_cell BK254.out 0; have hcz59_1:w56.cell? ⟨gb254,1,none⟩=some (.string (⟨#[]⟩ : ByteArray)):=blk_cell BK254.out 1; have hfz59_0:=blk_frozen BK254.out 0; have hfz59_1:=blk_frozen BK254.out 1))
  refine bodyPost_ret (results_ct rfl _ _ gb254 37 #[.string (⟨#[]⟩ : ByteArray), .string (⟨#[]⟩ : ByteArray)] (0,0) _ rfl (by (with_reducible repeat (first | refine kN ?_ _ | refine kD ?_ | refine kA ?_ _)); refine blk_put (cs:=#[.string (⟨#[]⟩ : ByteArray), .string (⟨#[]⟩ : ByteArray)]) ?_ 1 _ rfl; (with_reducible repeat (first | refine kN ?_ _ | refine kD ?_ | refine kA ?_ _)); refine blk_put (cs:=#[.string (⟨#[]⟩ : ByteArray), .string (⟨#[]⟩ : ByteArray)]) ?_ 0 _ rfl; (with_reducible repeat (first | refine kN ?_ _ | refine kD ?_ | refine kA ?_ _)); refine blk_far ?_ NB254_271.out _; (with_reducible repeat (first | refine kN ?_ _ | refine kD ?_ | refine kA ?_ _)); refine blk_far ?_ NB254_271.out _; (with_reducible repeat (first | refine kN ?_ _ | refine kD ?_ | refine kA ?_ _)); refine blk_far ?_ NB254_271.out _; (with_reducible repeat (first | refine kN ?_ _ | refine kD ?_ | refine kA ?_ _)); refine blk_far ?_ NB254_271.out _; (with_reducible repeat (first | refine kN ?_ _ | refine kD ?_ | refine kA ?_ _)); refine blk_far ?_ NB254_271.out _; (with_reducible repeat (first | refine kN ?_ _ | refine kD ?_ | refine kA ?_ _)); refine blk_far ?_ NB254_271.out _; (with_reducible repeat (first | refine kN ?_ _ | refine kD ?_ | refine kA ?_ _)); refine blk_far ?_ NB254_271.out _; (with_reducible repeat (first | refine kN ?_ _ | refine kD ?_ | refine kA ?_ _)); refine blk_far ?_ NB254_271.out _; (with_reducible repeat (first | refine kN ?_ _ | refine kD ?_ | refine kA ?_ _)); refine blk_far ?_ NB254_271.out _; (with_reducible repeat (first | refine kN ?_ _ | refine kD ?_ | refine kA ?_ _)); refine blk_far ?_ NB254_271.out _; (with_reducible repeat (first | refine kN ?_ _ | refine kD ?_ | refine kA ?_ _)); refine blk_far ?_ NB254_271.out _; (with_reducible repeat (first | refine kN ?_ _ | refine kD ?_ | refine kA ?_ _)); refine blk_far ?_ NB254_271.out _; (with_reducible repeat (first | refine kN ?_ _ | refine kD ?_ | refine kA ?_ _)); refine blk_far ?_ NB254_271.out _; (with_reducible repeat (first | refine kN ?_ _ | refine kD ?_ | refine kA ?_ _)); refine blk_far ?_ NB254_271.out _; (with_reducible repeat (first | refine kN ?_ _ | refine kD ?_ | refine kA ?_ _)); refine blk_far ?_ NB254_271.out _; (with_reducible repeat (first | refine kN ?_ _ | refine kD ?_ | refine kA ?_ _)); exact BK254.out) Tryd.underlying37 rfl (by kernel_rfl)) rfl ?_
  exact ⟨by first | rfl | (simp [errW_none,errW_some] <;> rfl) | (simp [*,errW_none,errW_some] <;> rfl),by repeat (first | (with_reducible first | exact HB.out | apply bA | apply bN | apply bD | refine below_set ?_ GE254.out | refine below_set ?_ GE271.out) | exact HB.out)⟩

end Go.Proofs.YtljdbphojcglgaaDoor.PF
