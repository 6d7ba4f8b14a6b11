import Derived.Test.YtmjdnkiohdkfpaaDoorPFx0
import Derived.Test.YtmjdnkiohdkfpaaDoorPFx2
import Derived.Test.YtmjdnkiohdkfpaaDoorPFx8
import Derived.Test.YtmjdnkiohdkfpaaDoorPFx9
import Derived.Test.YtmjdnkiohdkfpaaDoorPFx10
import Derived.Test.YtmjdnkiohdkfpaaDoorPFx16
import Derived.Test.YtmjdnkiohdkfpaaDoorPFx17
import Derived.Test.YtmjdnkiohdkfpaaDoorConvApp
namespace Go.Proofs.YtmjdnkiohdkfpaaDoor.PF
open Go.RowKit Go.Proofs.YtmjdnkiohdkfpaaDoorW.PrintWords Go.Proofs.YtmjdnkiohdkfpaaDoorW.PrintLast Go.Proofs.YtmjdnkiohdkfpaaDoorW.PrintMore
set_option maxHeartbeats 8000000
set_option maxRecDepth 100000
attribute [local go_sem] max2_int min2_int max_two min_two max_three min_three max_four min_four
set_option linter.unusedVariables false
set_option linter.unusedSimpArgs false

attribute [local go_sem high] eqA25
/-! ### lamplighterlaw11_AcceptHeads: function 3 -/
mutual
def lamplighterlaw11_AcceptHeads.j0 : Nat→List Int→ByteArray→Bool→Int→Int→Int→Int→Int→ByteArray→ByteArray→ByteArray→ByteArray→ByteArray→ByteArray→ByteArray→ByteArray→ByteArray→ByteArray→Option (Bool)
 | 0,_,_,_,_,_,_,_,_,_,_,_,_,_,_,_,_,_,_=>none
 | k + 1,x1,x5,x30,x246000,x246001,x246002,x246003,x246004,x246005,x246006,x246007,x246008,x246009,x246010,x246011,x246012,x246013,x246014=>if x30=true then ((lamplighterlaw11_alive.f k).bind fun t248=>(some t248)) else (if x5.size + 1≤9223372036854775807 then ((cv_str.f (x5 ++ (⟨#[13]⟩ : ByteArray))).bind fun t249=>((accept_Verdict.f k t249).bind fun bt252=>((cv_app.f (x5 ++ (⟨#[13]⟩ : ByteArray)) x1).bind fun t270=>((accept_Verdict.f k t270).bind fun bt273=>(lamplighterlaw11_AcceptHeads.l0 k x5 bt252.2.2.2.2.2.2.2.2.2.2.2.2.2.2.2.1 bt252.2.2.2.2.2.2.2.2.2.2.2.2.2.2.2.2 bt273.2.2.2.2.2.2.2.2.2.2.2.2.2.2.2.1 bt273.2.2.2.2.2.2.2.2.2.2.2.2.2.2.2.2 (x5.size : Int) 0 x246000 x246001 x246002 x246003 x246004 x246005 x246006 x246007 x246008 x246009 x246010 x246011 x246012 x246013 x246014 bt252.1 bt252.2.1 bt252.2.2.1 bt252.2.2.2.1 bt252.2.2.2.2.1 bt252.2.2.2.2.2.1 bt252.2.2.2.2.2.2.1 bt252.2.2.2.2.2.2.2.1 bt252.2.2.2.2.2.2.2.2.1 bt252.2.2.2.2.2.2.2.2.2.1 bt252.2.2.2.2.2.2.2.2.2.2.1 bt252.2.2.2.2.2.2.2.2.2.2.2.1 bt252.2.2.2.2.2.2.2.2.2.2.2.2.1 bt252.2.2.2.2.2.2.2.2.2.2.2.2.2.1 bt252.2.2.2.2.2.2.2.2.2.2.2.2.2.2.1 bt273.1 bt273.2.1 bt273.2.2.1 bt273.2.2.2.1 bt273.2.2.2.2.1 bt273.2.2.2.2.2.1 bt273.2.2.2.2.2.2.1 bt273.2.2.2.2.2.2.2.1 bt273.2.2.2.2.2.2.2.2.1 bt273.2.2.2.2.2.2.2.2.2.1 bt273.2.2.2.2.2.2.2.2.2.2.1 bt273.2.2.2.2.2.2.2.2.2.2.2.1 bt273.2.2.2.2.2.2.2.2.2.2.2.2.1 bt273.2.2.2.2.2.2.2.2.2.2.2.2.2.1 bt273.2.2.2.2.2.2.2.2.2.2.2.2.2.2.1))))) else (none))
def lamplighterlaw11_AcceptHeads.l0 : Nat→ByteArray→ByteArray→Int→ByteArray→Int→Int→Int→Int→Int→Int→Int→Int→ByteArray→ByteArray→ByteArray→ByteArray→ByteArray→ByteArray→ByteArray→ByteArray→ByteArray→ByteArray→Int→Int→Int→Int→Int→ByteArray→ByteArray→ByteArray→ByteArray→ByteArray→ByteArray→ByteArray→ByteArray→ByteArray→ByteArray→Int→Int→Int→Int→Int→ByteArray→ByteArray→ByteArray→ByteArray→ByteArray→ByteArray→ByteArray→ByteArray→ByteArray→ByteArray→Option (Bool)
 | 0,_,_,_,_,_,_,_,_,_,_,_,_,_,_,_,_,_,_,_,_,_,_,_,_,_,_,_,_,_,_,_,_,_,_,_,_,_,_,_,_,_,_,_,_,_,_,_,_,_,_,_,_=>none
 | k + 1,x5,x8,x9,x11,x12,x51,x52,x246000,x246001,x246002,x246003,x246004,x246005,x246006,x246007,x246008,x246009,x246010,x246011,x246012,x246013,x246014,x270000,x270001,x270002,x270003,x270004,x270005,x270006,x270007,x270008,x270009,x270010,x270011,x270012,x270013,x270014,x291000,x291001,x291002,x291003,x291004,x291005,x291006,x291007,x291008,x291009,x291010,x291011,x291012,x291013,x291014=>if x52 < x51 then (if 0≤x52 then (if x52 < (x5.size : Int) then (if (bt x5 x52)=28 then ((lamplighterlaw11_alive.f k).bind fun t291=>(if t291=true then (if x9=10 then (if x12=x9 then (if x8.toList=([] : List UInt8) then (some (x11.toList == ([] : List UInt8))) else (some false)) else (some false)) else (some false)) else (some false))) else (lamplighterlaw11_AcceptHeads.l0 k x5 x8 x9 x11 x12 x51 (wrap64 (x52 + 1)) x246000 x246001 x246002 x246003 x246004 x246005 x246006 x246007 x246008 x246009 x246010 x246011 x246012 x246013 x246014 x270000 x270001 x270002 x270003 x270004 x270005 x270006 x270007 x270008 x270009 x270010 x270011 x270012 x270013 x270014 x291000 x291001 x291002 x291003 x291004 x291005 x291006 x291007 x291008 x291009 x291010 x291011 x291012 x291013 x291014)) else (none)) else (none)) else ((lamplighterlaw11_alive.f k).bind fun t292=>(if t292=true then (if ((x270000 == x246000 && (x270001 == x246001 && (x270002 == x246002 && (x270003 == x246003 && (x270004 == x246004))))) && (x270005.toList == x246005.toList && (x270006.toList == x246006.toList && (x270007.toList == x246007.toList && (x270008.toList == x246008.toList && (x270009.toList == x246009.toList && (x270010.toList == x246010.toList && (x270011.toList == x246011.toList && (x270012.toList == x246012.toList && (x270013.toList == x246013.toList && (x270014.toList == x246014.toList)))))))))))=true then (if ((x291000 == x246000 && (x291001 == x246001 && (x291002 == x246002 && (x291003 == x246003 && (x291004 == x246004))))) && (x291005.toList == x246005.toList && (x291006.toList == x246006.toList && (x291007.toList == x246007.toList && (x291008.toList == x246008.toList && (x291009.toList == x246009.toList && (x291010.toList == x246010.toList && (x291011.toList == x246011.toList && (x291012.toList == x246012.toList && (x291013.toList == x246013.toList && (x291014.toList == x246014.toList)))))))))))=true then (if x8.toList=x11.toList then (if x9=x12 then ((msh_Check.f k x246000 x246001 x246002 x246003 x246004 x246005 x246006 x246007 x246008 x246009 x246010 x246011 x246012 x246013 x246014).bind fun t293=>(if x9=t293 then (some (x8.toList != ([] : List UInt8))) else (some false))) else (some false)) else (some false)) else (some false)) else (some false)) else (some false)))
end
def lamplighterlaw11_AcceptHeads.f (k : Nat) (a0_0 : Int) (a0_1 : Int) (a0_2 : Int) (a0_3 : Int) (a0_4 : Int) (a0_5 : ByteArray) (a0_6 : ByteArray) (a0_7 : ByteArray) (a0_8 : ByteArray) (a0_9 : ByteArray) (a0_10 : ByteArray) (a0_11 : ByteArray) (a0_12 : ByteArray) (a0_13 : ByteArray) (a0_14 : ByteArray) (l1 : List Int) : Option (Bool):=(msh_Write.f k a0_0 a0_1 a0_2 a0_3 a0_4 a0_5 a0_6 a0_7 a0_8 a0_9 a0_10 a0_11 a0_12 a0_13 a0_14).bind fun bt246=>(if bt246.2=0 then (if (bt246.1.size : Int) > 2000 then (lamplighterlaw11_AcceptHeads.j0 k l1 bt246.1 true a0_0 a0_1 a0_2 a0_3 a0_4 a0_5 a0_6 a0_7 a0_8 a0_9 a0_10 a0_11 a0_12 a0_13 a0_14) else (lamplighterlaw11_AcceptHeads.j0 k l1 bt246.1 (decide ((l1.length : Int) > 1000)) a0_0 a0_1 a0_2 a0_3 a0_4 a0_5 a0_6 a0_7 a0_8 a0_9 a0_10 a0_11 a0_12 a0_13 a0_14)) else (lamplighterlaw11_AcceptHeads.j0 k l1 bt246.1 true a0_0 a0_1 a0_2 a0_3 a0_4 a0_5 a0_6 a0_7 a0_8 a0_9 a0_10 a0_11 a0_12 a0_13 a0_14))
theorem lamplighterlaw11_AcceptHeads.mono_l : ∀ k,(∀ y0 y1 y2 y3 y4 y5 y6 y7 y8 y9 y10 y11 y12 y13 y14 y15 y16 y17,LeO (lamplighterlaw11_AcceptHeads.j0 k y0 y1 y2 y3 y4 y5 y6 y7 y8 y9 y10 y11 y12 y13 y14 y15 y16 y17) (lamplighterlaw11_AcceptHeads.j0 (k + 1) y0 y1 y2 y3 y4 y5 y6 y7 y8 y9 y10 y11 y12 y13 y14 y15 y16 y17))∧(∀ y0 y1 y2 y3 y4 y5 y6 y7 y8 y9 y10 y11 y12 y13 y14 y15 y16 y17 y18 y19 y20 y21 y22 y23 y24 y25 y26 y27 y28 y29 y30 y31 y32 y33 y34 y35 y36 y37 y38 y39 y40 y41 y42 y43 y44 y45 y46 y47 y48 y49 y50 y51,LeO (lamplighterlaw11_AcceptHeads.l0 k y0 y1 y2 y3 y4 y5 y6 y7 y8 y9 y10 y11 y12 y13 y14 y15 y16 y17 y18 y19 y20 y21 y22 y23 y24 y25 y26 y27 y28 y29 y30 y31 y32 y33 y34 y35 y36 y37 y38 y39 y40 y41 y42 y43 y44 y45 y46 y47 y48 y49 y50 y51) (lamplighterlaw11_AcceptHeads.l0 (k + 1) y0 y1 y2 y3 y4 y5 y6 y7 y8 y9 y10 y11 y12 y13 y14 y15 y16 y17 y18 y19 y20 y21 y22 y23 y24 y25 y26 y27 y28 y29 y30 y31 y32 y33 y34 y35 y36 y37 y38 y39 y40 y41 y42 y43 y44 y45 y46 y47 y48 y49 y50 y51))
 | 0=>⟨fun _ _ _ _ _ _ _ _ _ _ _ _ _ _ _ _ _ _ r h=>by simp [lamplighterlaw11_AcceptHeads.j0] at h,fun _ _ _ _ _ _ _ _ _ _ _ _ _ _ _ _ _ _ _ _ _ _ _ _ _ _ _ _ _ _ _ _ _ _ _ _ _ _ _ _ _ _ _ _ _ _ _ _ _ _ _ _ r h=>by simp [lamplighterlaw11_AcceptHeads.l0] at h⟩
 | k + 1=>by
  obtain ⟨ih0,ih1⟩:=lamplighterlaw11_AcceptHeads.mono_l k
  refine ⟨?_,?_⟩
  ·intro y0 y1 y2 y3 y4 y5 y6 y7 y8 y9 y10 y11 y12 y13 y14 y15 y16 y17
   unfold lamplighterlaw11_AcceptHeads.j0
   repeat' first
   | (with_reducible exact ih0 _ _ _ _ _ _ _ _ _ _ _ _ _ _ _ _ _ _)
   | (with_reducible exact ih1 _ _ _ _ _ _ _ _ _ _ _ _ _ _ _ _ _ _ _ _ _ _ _ _ _ _ _ _ _ _ _ _ _ _ _ _ _ _ _ _ _ _ _ _ _ _ _ _ _ _ _ _)
   | (with_reducible exact accept_Verdict.mono _ _)
   | (with_reducible exact lamplighterlaw11_alive.mono _)
   | (with_reducible exact msh_Check.mono _ _ _ _ _ _ _ _ _ _ _ _ _ _ _ _)
   | (with_reducible exact msh_Write.mono _ _ _ _ _ _ _ _ _ _ _ _ _ _ _ _)
   | (with_reducible exact LeO.refl _)
   | (with_reducible exact LeO.none _)
   | (with_reducible refine LeO.ite ?_ ?_)
   | (with_reducible refine LeO.bind ?_ (fun _=>?_))
   | exact ih0 _ _ _ _ _ _ _ _ _ _ _ _ _ _ _ _ _ _
   | exact ih1 _ _ _ _ _ _ _ _ _ _ _ _ _ _ _ _ _ _ _ _ _ _ _ _ _ _ _ _ _ _ _ _ _ _ _ _ _ _ _ _ _ _ _ _ _ _ _ _ _ _ _ _
   | exact accept_Verdict.mono _ _
   | exact lamplighterlaw11_alive.mono _
   | exact msh_Check.mono _ _ _ _ _ _ _ _ _ _ _ _ _ _ _ _
   | exact msh_Write.mono _ _ _ _ _ _ _ _ _ _ _ _ _ _ _ _
   | exact LeO.none _
   | refine LeO.ite ?_ ?_
   | refine LeO.bind ?_ (fun _=>?_)
  ·intro y0 y1 y2 y3 y4 y5 y6 y7 y8 y9 y10 y11 y12 y13 y14 y15 y16 y17 y18 y19 y20 y21 y22 y23 y24 y25 y26 y27 y28 y29 y30 y31 y32 y33 y34 y35 y36 y37 y38 y39 y40 y41 y42 y43 y44 y45 y46 y47 y48 y49 y50 y51
   unfold lamplighterlaw11_AcceptHeads.l0
   repeat' first
   | (with_reducible exact ih0 _ _ _ _ _ _ _ _ _ _ _ _ _ _ _ _ _ _)
   | (with_reducible exact ih1 _ _ _ _ _ _ _ _ _ _ _ _ _ _ _ _ _ _ _ _ _ _ _ _ _ _ _ _ _ _ _ _ _ _ _ _ _ _ _ _ _ _ _ _ _ _ _ _ _ _ _ _)
   | (with_reducible exact accept_Verdict.mono _ _)
   | (with_reducible exact lamplighterlaw11_alive.mono _)
   | (with_reducible exact msh_Check.mono _ _ _ _ _ _ _ _ _ _ _ _ _ _ _ _)
   | (with_reducible exact msh_Write.mono _ _ _ _ _ _ _ _ _ _ _ _ _ _ _ _)
   | (with_reducible exact LeO.refl _)
   | (with_reducible exact LeO.none _)
   | (with_reducible refine LeO.ite ?_ ?_)
   | (with_reducible refine LeO.bind ?_ (fun _=>?_))
   | exact ih0 _ _ _ _ _ _ _ _ _ _ _ _ _ _ _ _ _ _
   | exact ih1 _ _ _ _ _ _ _ _ _ _ _ _ _ _ _ _ _ _ _ _ _ _ _ _ _ _ _ _ _ _ _ _ _ _ _ _ _ _ _ _ _ _ _ _ _ _ _ _ _ _ _ _
   | exact accept_Verdict.mono _ _
   | exact lamplighterlaw11_alive.mono _
   | exact msh_Check.mono _ _ _ _ _ _ _ _ _ _ _ _ _ _ _ _
   | exact msh_Write.mono _ _ _ _ _ _ _ _ _ _ _ _ _ _ _ _
   | exact LeO.none _
   | refine LeO.ite ?_ ?_
   | refine LeO.bind ?_ (fun _=>?_)
theorem lamplighterlaw11_AcceptHeads.mono : ∀ a0 a1 a2 a3 a4 a5 a6 a7 a8 a9 a10 a11 a12 a13 a14 a15 k,LeO (lamplighterlaw11_AcceptHeads.f k a0 a1 a2 a3 a4 a5 a6 a7 a8 a9 a10 a11 a12 a13 a14 a15) (lamplighterlaw11_AcceptHeads.f (k + 1) a0 a1 a2 a3 a4 a5 a6 a7 a8 a9 a10 a11 a12 a13 a14 a15):=by
 intro a0 a1 a2 a3 a4 a5 a6 a7 a8 a9 a10 a11 a12 a13 a14 a15 k
 obtain ⟨ih0,ih1⟩:=lamplighterlaw11_AcceptHeads.mono_l k
 unfold lamplighterlaw11_AcceptHeads.f
 repeat' first
   | (with_reducible exact ih0 _ _ _ _ _ _ _ _ _ _ _ _ _ _ _ _ _ _)
   | (with_reducible exact ih1 _ _ _ _ _ _ _ _ _ _ _ _ _ _ _ _ _ _ _ _ _ _ _ _ _ _ _ _ _ _ _ _ _ _ _ _ _ _ _ _ _ _ _ _ _ _ _ _ _ _ _ _)
   | (with_reducible exact accept_Verdict.mono _ _)
   | (with_reducible exact lamplighterlaw11_alive.mono _)
   | (with_reducible exact msh_Check.mono _ _ _ _ _ _ _ _ _ _ _ _ _ _ _ _)
   | (with_reducible exact msh_Write.mono _ _ _ _ _ _ _ _ _ _ _ _ _ _ _ _)
   | (with_reducible exact LeO.refl _)
   | (with_reducible exact LeO.none _)
   | (with_reducible refine LeO.ite ?_ ?_)
   | (with_reducible refine LeO.bind ?_ (fun _=>?_))
   | exact ih0 _ _ _ _ _ _ _ _ _ _ _ _ _ _ _ _ _ _
   | exact ih1 _ _ _ _ _ _ _ _ _ _ _ _ _ _ _ _ _ _ _ _ _ _ _ _ _ _ _ _ _ _ _ _ _ _ _ _ _ _ _ _ _ _ _ _ _ _ _ _ _ _ _ _
   | exact accept_Verdict.mono _ _
   | exact lamplighterlaw11_alive.mono _
   | exact msh_Check.mono _ _ _ _ _ _ _ _ _ _ _ _ _ _ _ _
   | exact msh_Write.mono _ _ _ _ _ _ _ _ _ _ _ _ _ _ _ _
   | exact LeO.none _
   | refine LeO.ite ?_ ?_
   | refine LeO.bind ?_ (fun _=>?_)
theorem lamplighterlaw11_AcceptHeads.calls (k : Nat) (a0_0 : Int) (a0_1 : Int) (a0_2 : Int) (a0_3 : Int) (a0_4 : Int) (a0_5 : ByteArray) (a0_6 : ByteArray) (a0_7 : ByteArray) (a0_8 : ByteArray) (a0_9 : ByteArray) (a0_10 : ByteArray) (a0_11 : ByteArray) (a0_12 : ByteArray) (a0_13 : ByteArray) (a0_14 : ByteArray) (A1 : Option Addr) (c1 : Nat) (l1 : List Int) (r : Bool) (w : World) (hr1 : Kd.C (Kd.int .u8) w A1 l1.length l1) (hc1 : l1.length≤c1) (h : lamplighterlaw11_AcceptHeads.f k a0_0 a0_1 a0_2 a0_3 a0_4 a0_5 a0_6 a0_7 a0_8 a0_9 a0_10 a0_11 a0_12 a0_13 a0_14 l1=some r) (hrt : r=true) (hG : GlobOK w) (hGC : GlobC w) (hGE : GlobE w) :
  Calls Tryd.prog 3 #[.agg #[.int .u8 a0_0, .int .u8 a0_1, .int .u8 a0_2, .int .u8 a0_3, .int .u8 a0_4, .string a0_5, .string a0_6, .string a0_7, .string a0_8, .string a0_9, .string a0_10, .string a0_11, .string a0_12, .string a0_13, .string a0_14], .slice A1 l1.length c1] w fun e w'=>e = .returned (.bool r)∧Below w.heap.size w w':=by
 have HGLOB:=Lib.hid hG
 clear hG
 have HGLOC:=Lib.hid hGC
 clear hGC
 have HGLOE:=Lib.hid hGE
 clear hGE
 have hu25:=Tryd.underlying25
 have HR1:=Aside0.mk hr1
 have HC1:=Aside0.mk hc1
 clear hr1 hc1
 have HB:=Aside0.mk (Below.refl w.heap.size w)
 have H : ((msh_Write.f k a0_0 a0_1 a0_2 a0_3 a0_4 a0_5 a0_6 a0_7 a0_8 a0_9 a0_10 a0_11 a0_12 a0_13 a0_14).bind fun bt246=>(if bt246.2=0 then (if (bt246.1.size : Int) > 2000 then (lamplighterlaw11_AcceptHeads.j0 k l1 bt246.1 true a0_0 a0_1 a0_2 a0_3 a0_4 a0_5 a0_6 a0_7 a0_8 a0_9 a0_10 a0_11 a0_12 a0_13 a0_14) else (lamplighterlaw11_AcceptHeads.j0 k l1 bt246.1 (decide ((l1.length : Int) > 1000)) a0_0 a0_1 a0_2 a0_3 a0_4 a0_5 a0_6 a0_7 a0_8 a0_9 a0_10 a0_11 a0_12 a0_13 a0_14)) else (lamplighterlaw11_AcceptHeads.j0 k l1 bt246.1 true a0_0 a0_1 a0_2 a0_3 a0_4 a0_5 a0_6 a0_7 a0_8 a0_9 a0_10 a0_11 a0_12 a0_13 a0_14)))=some r:=h
 clear h
 replace H:=Option.bind_eq_some_iff.mp H
 obtain ⟨⟨t246,t247⟩,A30,H⟩:=H
 replace H : (if t247=0 then (if (t246.size : Int) > 2000 then (lamplighterlaw11_AcceptHeads.j0 k l1 t246 true a0_0 a0_1 a0_2 a0_3 a0_4 a0_5 a0_6 a0_7 a0_8 a0_9 a0_10 a0_11 a0_12 a0_13 a0_14) else (lamplighterlaw11_AcceptHeads.j0 k l1 t246 (decide ((l1.length : Int) > 1000)) a0_0 a0_1 a0_2 a0_3 a0_4 a0_5 a0_6 a0_7 a0_8 a0_9 a0_10 a0_11 a0_12 a0_13 a0_14)) else (lamplighterlaw11_AcceptHeads.j0 k l1 t246 true a0_0 a0_1 a0_2 a0_3 a0_4 a0_5 a0_6 a0_7 a0_8 a0_9 a0_10 a0_11 a0_12 a0_13 a0_14))=some r:=H
 have A3:=Aside0.mk A30
 clear A30
 have HC4:=Aside0.mk H
 clear H
 go_enter Tryd.func3,Tryd.ntmps3
 go_upto_region 2 with (first | ((with_reducible refine gate_dst (N:=2) rfl ?_); (try (refine gate_guard (by rfl) ?_; dsimp only)); refine box_event ?hg (N:=2) ?hd (cs:=#[.int .u8 a0_0, .int .u8 a0_1, .int .u8 a0_2, .int .u8 a0_3, .int .u8 a0_4, .string a0_5, .string a0_6, .string a0_7, .string a0_8, .string a0_9, .string a0_10, .string a0_11, .string a0_12, .string a0_13, .string a0_14]) (t:=25) ?hr ?_; (case hd=>rfl); (case hg=>rfl); (case hr=>first | (go_simp; done) | (go_simp; rfl)); intro gb245 hg w5 hbox hb; have n0_:=Aside0.mk (below_step (by repeat (first | (with_reducible first | exact HB.out | apply bA | apply bN | apply bD) | exact HB.out)) hb); have n1_:=Aside0.mk (hbox); have n2_:=Aside0.mk ((by rw [hg]; exact (below_size (by repeat (first | (with_reducible first | exact HB.out | apply bA | apply bN | apply bD) | exact HB.out))) : w.heap.size≤gb245)); have n3_:=Aside0.mk ((by rw [hg]; exact (below_size (by repeat (first | (with_reducible first | exact HB.out | apply bA | apply bN | apply bD) | exact HB.out))) : w.heap.size≤gb245)); clear HB; have HB:=n0_; have BK245:=n1_; have GW245:=n2_; have GE245:=n3_; clear n0_ n1_ n2_ n3_; clear hb hbox hg; have hcz6_0:w5.cell? ⟨gb245,0,none⟩=some (.int .u8 a0_0):=blk_cell BK245.out 0; have hcz6_1:w5.cell? ⟨gb245,1,none⟩=some (.int .u8 a0_1):=blk_cell BK245.out 1; have hcz6_2:w5.cell? ⟨gb245,2,none⟩=some (.int .u8 a0_2):=blk_cell BK245.out 2; have hcz6_3:w5.cell? ⟨gb245,3,none⟩=some (.int .u8 a0_3):=blk_cell BK245.out 3; have hcz6_4:w5.cell? ⟨gb245,4,none⟩=some (.int .u8 a0_4):=blk_cell BK245.out 4; have hcz6_5:w5.cell? ⟨gb245,5,none⟩=some (.string a0_5):=blk_cell BK245.out 5; have hcz6_6:w5.cell? ⟨gb245,6,none⟩=some (.string a0_6):=blk_cell BK245.out 6; have hcz6_7:w5.cell? ⟨gb245,7,none⟩=some (.string a0_7):=blk_cell BK245.out 7; have hcz6_8:w5.cell? ⟨gb245,8,none⟩=some (.string a0_8):=blk_cell BK245.out 8; have hcz6_9:w5.cell? ⟨gb245,9,none⟩=some (.string a0_9):=blk_cell BK245.out 9; have hcz6_10:w5.cell? ⟨gb245,10,none⟩=some (.string a0_10):=blk_cell BK245.out 10; have hcz6_11:w5.cell? ⟨gb245,11,none⟩=some (.string a0_11):=blk_cell BK245.out 11; have hcz6_12:w5.cell? ⟨gb245,12,none⟩=some (.string a0_12):=blk_cell BK245.out 12; have hcz6_13:w5.cell? ⟨gb245,13,none⟩=some (.string a0_13):=blk_cell BK245.out 13; have hcz6_14:w5.cell? ⟨gb245,14,none⟩=some (.string a0_14):=blk_cell BK245.out 14; have hfz6_0:=blk_frozen BK245.out 0; have hfz6_1:=blk_frozen BK245.out 1; have hfz6_2:=blk_frozen BK245.out 2; have hfz6_3:=blk_frozen BK245.out 3; have hfz6_4:=blk_frozen BK245.out 4; have hfz6_5:=blk_frozen BK245.out 5; have hfz6_6:=blk_frozen BK245.out 6; have hfz6_7:=blk_frozen BK245.out 7; have hfz6_8:=blk_frozen BK245.out 8; have hfz6_9:=blk_frozen BK245.out 9; have hfz6_10:=blk_frozen BK245.out 10; have hfz6_11:=blk_frozen BK245.out 11; have hfz6_12:=blk_frozen BK245.out 12; have hfz6_13:=blk_frozen BK245.out 13; have hfz6_14:=blk_frozen BK245.out 14) | ((with_reducible refine gate_callee (f:=8) rfl ?_); refine goesL_ (some 16) rfl rfl Tryd.func8 (by kernel_rfl) rfl #[.agg #[.int .u8 a0_0, .int .u8 a0_1, .int .u8 a0_2, .int .u8 a0_3, .int .u8 a0_4, .string a0_5, .string a0_6, .string a0_7, .string a0_8, .string a0_9, .string a0_10, .string a0_11, .string a0_12, .string a0_13, .string a0_14]] rfl (by (try simp only [List.map_toArray,List.map_cons,List.map_nil]); first | done | rfl | (simp only [List.length_drop,List.length_take]; rfl)) ?_; (with_reducible refine (msh_Write.calls k a0_0 a0_1 a0_2 a0_3 a0_4 a0_5 a0_6 a0_7 a0_8 a0_9 a0_10 a0_11 a0_12 a0_13 a0_14 t246 t247 _ A3.out).mono ?_); rintro e w7 ⟨rfl,hb⟩; refine ⟨_,rfl,?_⟩; have n0_:=Aside0.mk (blk_below (g:=gb245) (o := .cells #[.int .u8 a0_0, .int .u8 a0_1, .int .u8 a0_2, .int .u8 a0_3, .int .u8 a0_4, .string a0_5, .string a0_6, .string a0_7, .string a0_8, .string a0_9, .string a0_10, .string a0_11, .string a0_12, .string a0_13, .string a0_14] 25 (0,0)) (by (with_reducible repeat (first | refine kN ?_ _ | refine kD ?_ | refine kA ?_ _)); exact BK245.out) hb); have n1_:=Aside0.mk (below_step (by repeat (first | (with_reducible first | exact HB.out | apply bA | apply bN | apply bD | refine below_set ?_ GE245.out) | exact HB.out)) hb); clear BK245; clear HB; have BK245:=n0_; have HB:=n1_; clear n0_ n1_; (try clear hb)))
 (try simp only [Act.put,sA_,s0_,s1_])
 go_cut [30] (fun v30 wc => ∃ (kq : Nat) (x30_3 : Bool),v30 = .bool x30_3∧Aside0 (lamplighterlaw11_AcceptHeads.j0 kq l1 t246 x30_3 a0_0 a0_1 a0_2 a0_3 a0_4 a0_5 a0_6 a0_7 a0_8 a0_9 a0_10 a0_11 a0_12 a0_13 a0_14=some r)∧Aside0 (kq≤k)∧Aside0 (wc.heap[gb245]?=some (.cells #[.int .u8 a0_0, .int .u8 a0_1, .int .u8 a0_2, .int .u8 a0_3, .int .u8 a0_4, .string a0_5, .string a0_6, .string a0_7, .string a0_8, .string a0_9, .string a0_10, .string a0_11, .string a0_12, .string a0_13, .string a0_14] 25 (0,0)))∧Aside0 (Below w.heap.size w wc))
 case first =>
  have H:=HC4.out
  clear HC4
  by_cases c8 : t247=0
  ·rw [if_pos c8] at H
   have c8b0 : (t247 == 0)=true:=beq_iff_eq.mpr c8
   have c8b1 : (t247 != 0)=false:=bne_eq_false_iff_eq.mpr c8
   clear c8
   (first | rw [c8b0] | (simp only [i64_w,i32_w]; rw [c8b0]) | skip)
   by_cases c9 : (t246.size : Int) > 2000
   ·rw [if_pos c9] at H
    have c9b0:decide (2000 < (t246.size : Int))=true:=decide_eq_true c9
    have c9b1:decide (2000 < t246.size)=true:=decide_eq_true (by omega)
    clear c9
    have H':=Aside0.mk H
    clear H
    go_wp2
    go_meet
    case rel=>exact ⟨_,(true),(by first | rfl | (simp; done) | (simp [*]; done)),H',⟨by first | omega | exact Nat.le_refl _⟩,⟨by (with_reducible repeat (first | refine kN ?_ _ | refine kD ?_ | refine kA ?_ _)); exact BK245.out⟩,⟨by repeat (first | (with_reducible first | exact HB.out | apply bA | apply bN | apply bD | refine below_set ?_ GE245.out) | exact HB.out)⟩⟩
   ·rw [if_neg c9] at H
    have c9b0:decide (2000 < (t246.size : Int))=false:=decide_eq_false c9
    have c9b1:decide (2000 < t246.size)=false:=decide_eq_false (by omega)
    clear c9
    have H':=Aside0.mk H
    clear H
    go_wp2
    go_meet
    case rel=>exact ⟨_,(decide ((l1.length : Int) > 1000)),(by first | rfl | (simp; done) | (simp [*]; done)),H',⟨by first | omega | exact Nat.le_refl _⟩,⟨by (with_reducible repeat (first | refine kN ?_ _ | refine kD ?_ | refine kA ?_ _)); exact BK245.out⟩,⟨by repeat (first | (with_reducible first | exact HB.out | apply bA | apply bN | apply bD | refine below_set ?_ GE245.out) | exact HB.out)⟩⟩
  ·rw [if_neg c8] at H
   have c8b0 : (t247 == 0)=false:=beq_eq_false_iff_ne.mpr c8
   have c8b1 : (t247 != 0)=true:=bne_iff_ne.mpr c8
   (first | rw [c8b0] | (simp only [i64_w,i32_w]; rw [c8b0]) | skip)
   have H':=Aside0.mk H
   clear H
   go_wp2
   go_meet
   case rel=>exact ⟨_,(true),(by first | rfl | (simp; done) | (simp [*]; done)),H',⟨by first | omega | exact Nat.le_refl _⟩,⟨by (with_reducible repeat (first | refine kN ?_ _ | refine kD ?_ | refine kA ?_ _)); exact BK245.out⟩,⟨by repeat (first | (with_reducible first | exact HB.out | apply bA | apply bN | apply bD | refine below_set ?_ GE245.out) | exact HB.out)⟩⟩
 case rest =>
  clear HC4
  try clear c1
  try clear p2
  try clear c3
  try clear c8
  try clear c8b0
  try clear c8b1
  try clear c9
  try clear c9b0
  try clear c9b1
  try clear hcz6_0
  try clear hcz6_1
  try clear hcz6_10
  try clear hcz6_11
  try clear hcz6_12
  try clear hcz6_13
  try clear hcz6_14
  try clear hcz6_2
  try clear hcz6_3
  try clear hcz6_4
  try clear hcz6_5
  try clear hcz6_6
  try clear hcz6_7
  try clear hcz6_8
  try clear hcz6_9
  try clear hfz6_0
  try clear hfz6_1
  try clear hfz6_10
  try clear hfz6_11
  try clear hfz6_12
  try clear hfz6_13
  try clear hfz6_14
  try clear hfz6_2
  try clear hfz6_3
  try clear hfz6_4
  try clear hfz6_5
  try clear hfz6_6
  try clear hfz6_7
  try clear hfz6_8
  try clear hfz6_9
  obtain ⟨kq,x30_3,rfl,HA,HJ3,BK245,HB⟩:=hcut
  cases kq with
  | zero=>exact absurd HA.out (by simp [lamplighterlaw11_AcceptHeads.j0])
  | succ kj3 =>
   have H:=HA.out
   clear HA
   simp only [lamplighterlaw11_AcceptHeads.j0] at H
   by_cases c10 : x30_3=true
   ·subst c10
    have H1 : ((lamplighterlaw11_alive.f kj3).bind fun t248=>(some t248))=some r:=by rw [if_pos rfl] at H; exact H
    clear H
    have H:=H1
    clear H1
    replace H:=Option.bind_eq_some_iff.mp H
    obtain ⟨t248,A110,H⟩:=H
    replace H : (some t248)=some r:=H
    have A11:=Aside0.mk A110
    clear A110
    obtain rfl:=Option.some.inj H
    clear hrt
    go_wp2_with (first | ((with_reducible refine gate_callee (f:=9) rfl ?_); refine goesL_ (some 31) rfl rfl Tryd.func9 (by kernel_rfl) rfl #[] rfl (by (try simp only [List.map_toArray,List.map_cons,List.map_nil]); first | done | rfl | (simp only [List.length_drop,List.length_take]; rfl)) ?_; (with_reducible refine (lamplighterlaw11_alive.calls kj3  t248 _ A11.out (glob_below HGLOB.out (by repeat (first | (with_reducible first | exact HB.out | apply bA | apply bN | apply bD | refine below_set ?_ GE245.out) | exact HB.out))) (globc_below HGLOC.out (by repeat (first | (with_reducible first | exact HB.out | apply bA | apply bN | apply bD | refine below_set ?_ GE245.out) | exact HB.out))) (globe_below HGLOE.out (by repeat (first | (with_reducible first | exact HB.out | apply bA | apply bN | apply bD | refine below_set ?_ GE245.out) | exact HB.out)))).mono ?_); rintro e w12 ⟨rfl,hb⟩; refine ⟨_,rfl,?_⟩; have n0_:=Aside0.mk (blk_below (g:=gb245) (o := .cells #[.int .u8 a0_0, .int .u8 a0_1, .int .u8 a0_2, .int .u8 a0_3, .int .u8 a0_4, .string a0_5, .string a0_6, .string a0_7, .string a0_8, .string a0_9, .string a0_10, .string a0_11, .string a0_12, .string a0_13, .string a0_14] 25 (0,0)) (by (with_reducible repeat (first | refine kN ?_ _ | refine kD ?_ | refine kA ?_ _)); exact BK245.out) hb); have n1_:=Aside0.mk (below_step (by repeat (first | (with_reducible first | exact HB.out | apply bA | apply bN | apply bD | refine below_set ?_ GE245.out) | exact HB.out)) hb); clear BK245; clear HB; have BK245:=n0_; have HB:=n1_; clear n0_ n1_; (try clear hb)))
    go_ret
    exact ⟨by first | rfl | (generalize t267.toList=l_; cases l_ <;> rfl) | (simp [errW_none,errW_some] <;> rfl) | (simp [*,errW_none,errW_some] <;> rfl),by repeat (first | (with_reducible first | exact HB.out | apply bA | apply bN | apply bD | refine below_set ?_ GE245.out) | exact HB.out)⟩
   ·replace c10:=Bool.eq_false_iff.mpr c10
    subst c10
    have H1 : (if t246.size + 1≤9223372036854775807 then ((cv_str.f (t246 ++ (⟨#[13]⟩ : ByteArray))).bind fun t249=>((accept_Verdict.f kj3 t249).bind fun bt252=>((cv_app.f (t246 ++ (⟨#[13]⟩ : ByteArray)) l1).bind fun t270=>((accept_Verdict.f kj3 t270).bind fun bt273=>(lamplighterlaw11_AcceptHeads.l0 kj3 t246 bt252.2.2.2.2.2.2.2.2.2.2.2.2.2.2.2.1 bt252.2.2.2.2.2.2.2.2.2.2.2.2.2.2.2.2 bt273.2.2.2.2.2.2.2.2.2.2.2.2.2.2.2.1 bt273.2.2.2.2.2.2.2.2.2.2.2.2.2.2.2.2 (t246.size : Int) 0 a0_0 a0_1 a0_2 a0_3 a0_4 a0_5 a0_6 a0_7 a0_8 a0_9 a0_10 a0_11 a0_12 a0_13 a0_14 bt252.1 bt252.2.1 bt252.2.2.1 bt252.2.2.2.1 bt252.2.2.2.2.1 bt252.2.2.2.2.2.1 bt252.2.2.2.2.2.2.1 bt252.2.2.2.2.2.2.2.1 bt252.2.2.2.2.2.2.2.2.1 bt252.2.2.2.2.2.2.2.2.2.1 bt252.2.2.2.2.2.2.2.2.2.2.1 bt252.2.2.2.2.2.2.2.2.2.2.2.1 bt252.2.2.2.2.2.2.2.2.2.2.2.2.1 bt252.2.2.2.2.2.2.2.2.2.2.2.2.2.1 bt252.2.2.2.2.2.2.2.2.2.2.2.2.2.2.1 bt273.1 bt273.2.1 bt273.2.2.1 bt273.2.2.2.1 bt273.2.2.2.2.1 bt273.2.2.2.2.2.1 bt273.2.2.2.2.2.2.1 bt273.2.2.2.2.2.2.2.1 bt273.2.2.2.2.2.2.2.2.1 bt273.2.2.2.2.2.2.2.2.2.1 bt273.2.2.2.2.2.2.2.2.2.2.1 bt273.2.2.2.2.2.2.2.2.2.2.2.1 bt273.2.2.2.2.2.2.2.2.2.2.2.2.1 bt273.2.2.2.2.2.2.2.2.2.2.2.2.2.1 bt273.2.2.2.2.2.2.2.2.2.2.2.2.2.2.1))))) else (none))=some r:=by rw [if_neg (show ¬ (false=true) by decide)] at H; exact H
    clear H
    have H:=H1
    clear H1
    by_cases c13 : t246.size + 1≤9223372036854775807
    ·rw [if_pos c13] at H
     have c13b0:=eq_true c13
     have c13b1:decide (t246.size + 1≤9223372036854775807)=true:=decide_eq_true c13
     try have c13b2 : (9223372036854775807 < t246.size + 1)=False:=eq_false (Nat.not_lt.2 c13)
     try (have c13b4:=c13b2; simp only [ByteArray.size_append] at c13b4)
     replace H:=Option.bind_eq_some_iff.mp H
     obtain ⟨t249,A140,H⟩:=H
     replace H : ((accept_Verdict.f kj3 t249).bind fun bt252=>((cv_app.f (t246 ++ (⟨#[13]⟩ : ByteArray)) l1).bind fun t270=>((accept_Verdict.f kj3 t270).bind fun bt273=>(lamplighterlaw11_AcceptHeads.l0 kj3 t246 bt252.2.2.2.2.2.2.2.2.2.2.2.2.2.2.2.1 bt252.2.2.2.2.2.2.2.2.2.2.2.2.2.2.2.2 bt273.2.2.2.2.2.2.2.2.2.2.2.2.2.2.2.1 bt273.2.2.2.2.2.2.2.2.2.2.2.2.2.2.2.2 (t246.size : Int) 0 a0_0 a0_1 a0_2 a0_3 a0_4 a0_5 a0_6 a0_7 a0_8 a0_9 a0_10 a0_11 a0_12 a0_13 a0_14 bt252.1 bt252.2.1 bt252.2.2.1 bt252.2.2.2.1 bt252.2.2.2.2.1 bt252.2.2.2.2.2.1 bt252.2.2.2.2.2.2.1 bt252.2.2.2.2.2.2.2.1 bt252.2.2.2.2.2.2.2.2.1 bt252.2.2.2.2.2.2.2.2.2.1 bt252.2.2.2.2.2.2.2.2.2.2.1 bt252.2.2.2.2.2.2.2.2.2.2.2.1 bt252.2.2.2.2.2.2.2.2.2.2.2.2.1 bt252.2.2.2.2.2.2.2.2.2.2.2.2.2.1 bt252.2.2.2.2.2.2.2.2.2.2.2.2.2.2.1 bt273.1 bt273.2.1 bt273.2.2.1 bt273.2.2.2.1 bt273.2.2.2.2.1 bt273.2.2.2.2.2.1 bt273.2.2.2.2.2.2.1 bt273.2.2.2.2.2.2.2.1 bt273.2.2.2.2.2.2.2.2.1 bt273.2.2.2.2.2.2.2.2.2.1 bt273.2.2.2.2.2.2.2.2.2.2.1 bt273.2.2.2.2.2.2.2.2.2.2.2.1 bt273.2.2.2.2.2.2.2.2.2.2.2.2.1 bt273.2.2.2.2.2.2.2.2.2.2.2.2.2.1 bt273.2.2.2.2.2.2.2.2.2.2.2.2.2.2.1))))=some r:=H
     have A14:=Aside0.mk A140
     clear A140
     replace H:=Option.bind_eq_some_iff.mp H
     obtain ⟨⟨t252,t253,t254,t255,t256,t257,t258,t259,t260,t261,t262,t263,t264,t265,t266,t267,t268⟩,A150,H⟩:=H
     replace H : ((cv_app.f (t246 ++ (⟨#[13]⟩ : ByteArray)) l1).bind fun t270=>((accept_Verdict.f kj3 t270).bind fun bt273=>(lamplighterlaw11_AcceptHeads.l0 kj3 t246 t267 t268 bt273.2.2.2.2.2.2.2.2.2.2.2.2.2.2.2.1 bt273.2.2.2.2.2.2.2.2.2.2.2.2.2.2.2.2 (t246.size : Int) 0 a0_0 a0_1 a0_2 a0_3 a0_4 a0_5 a0_6 a0_7 a0_8 a0_9 a0_10 a0_11 a0_12 a0_13 a0_14 t252 t253 t254 t255 t256 t257 t258 t259 t260 t261 t262 t263 t264 t265 t266 bt273.1 bt273.2.1 bt273.2.2.1 bt273.2.2.2.1 bt273.2.2.2.2.1 bt273.2.2.2.2.2.1 bt273.2.2.2.2.2.2.1 bt273.2.2.2.2.2.2.2.1 bt273.2.2.2.2.2.2.2.2.1 bt273.2.2.2.2.2.2.2.2.2.1 bt273.2.2.2.2.2.2.2.2.2.2.1 bt273.2.2.2.2.2.2.2.2.2.2.2.1 bt273.2.2.2.2.2.2.2.2.2.2.2.2.1 bt273.2.2.2.2.2.2.2.2.2.2.2.2.2.1 bt273.2.2.2.2.2.2.2.2.2.2.2.2.2.2.1)))=some r:=H
     have A15:=Aside0.mk A150
     clear A150
     replace H:=Option.bind_eq_some_iff.mp H
     obtain ⟨t270,A160,H⟩:=H
     replace H : ((accept_Verdict.f kj3 t270).bind fun bt273=>(lamplighterlaw11_AcceptHeads.l0 kj3 t246 t267 t268 bt273.2.2.2.2.2.2.2.2.2.2.2.2.2.2.2.1 bt273.2.2.2.2.2.2.2.2.2.2.2.2.2.2.2.2 (t246.size : Int) 0 a0_0 a0_1 a0_2 a0_3 a0_4 a0_5 a0_6 a0_7 a0_8 a0_9 a0_10 a0_11 a0_12 a0_13 a0_14 t252 t253 t254 t255 t256 t257 t258 t259 t260 t261 t262 t263 t264 t265 t266 bt273.1 bt273.2.1 bt273.2.2.1 bt273.2.2.2.1 bt273.2.2.2.2.1 bt273.2.2.2.2.2.1 bt273.2.2.2.2.2.2.1 bt273.2.2.2.2.2.2.2.1 bt273.2.2.2.2.2.2.2.2.1 bt273.2.2.2.2.2.2.2.2.2.1 bt273.2.2.2.2.2.2.2.2.2.2.1 bt273.2.2.2.2.2.2.2.2.2.2.2.1 bt273.2.2.2.2.2.2.2.2.2.2.2.2.1 bt273.2.2.2.2.2.2.2.2.2.2.2.2.2.1 bt273.2.2.2.2.2.2.2.2.2.2.2.2.2.2.1))=some r:=H
     have A16:=Aside0.mk A160
     clear A160
     replace H:=Option.bind_eq_some_iff.mp H
     obtain ⟨⟨t273,t274,t275,t276,t277,t278,t279,t280,t281,t282,t283,t284,t285,t286,t287,t288,t289⟩,A170,H⟩:=H
     replace H : (lamplighterlaw11_AcceptHeads.l0 kj3 t246 t267 t268 t288 t289 (t246.size : Int) 0 a0_0 a0_1 a0_2 a0_3 a0_4 a0_5 a0_6 a0_7 a0_8 a0_9 a0_10 a0_11 a0_12 a0_13 a0_14 t252 t253 t254 t255 t256 t257 t258 t259 t260 t261 t262 t263 t264 t265 t266 t273 t274 t275 t276 t277 t278 t279 t280 t281 t282 t283 t284 t285 t286 t287)=some r:=H
     have A17:=Aside0.mk A170
     clear A170
     have H':=Aside0.mk H
     clear H
     go_wp2_with (first | ((with_reducible refine gate_dst (N:=35) rfl ?_); (try (refine gate_guard (by rfl) ?_; dsimp only)); refine goesStr_ rfl rfl rfl rfl ?_; (with_reducible refine (cv_str.calls (t246 ++ (⟨#[13]⟩ : ByteArray)) t249 _ A14.out).mono ?_); rintro e w18 ⟨v250,rfl,ho0,hb⟩; refine ⟨_,rfl,?_⟩; have n0_:=Aside0.mk (Kd.V_lower (Kd.V_mono (ok':=fun k_=>k_ ≠ gb245) ho0 (fun k_ hk_=>(Kd.freshB (g:=gb245) (o := .cells #[.int .u8 a0_0, .int .u8 a0_1, .int .u8 a0_2, .int .u8 a0_3, .int .u8 a0_4, .string a0_5, .string a0_6, .string a0_7, .string a0_8, .string a0_9, .string a0_10, .string a0_11, .string a0_12, .string a0_13, .string a0_14] 25 (0,0)) (by (with_reducible repeat (first | refine kN ?_ _ | refine kD ?_ | refine kA ?_ _)); exact BK245.out) k_ hk_))) (below_size (by repeat (first | (with_reducible first | exact HB.out | apply bA | apply bN | apply bD | refine below_set ?_ GE245.out) | exact HB.out)))); have n1_:=Aside0.mk (blk_below (g:=gb245) (o := .cells #[.int .u8 a0_0, .int .u8 a0_1, .int .u8 a0_2, .int .u8 a0_3, .int .u8 a0_4, .string a0_5, .string a0_6, .string a0_7, .string a0_8, .string a0_9, .string a0_10, .string a0_11, .string a0_12, .string a0_13, .string a0_14] 25 (0,0)) (by (with_reducible repeat (first | refine kN ?_ _ | refine kD ?_ | refine kA ?_ _)); exact BK245.out) hb); have n2_:=Aside0.mk (below_step (by repeat (first | (with_reducible first | exact HB.out | apply bA | apply bN | apply bD | refine below_set ?_ GE245.out) | exact HB.out)) hb); clear BK245; clear HB; have HO251:=n0_; have BK245:=n1_; have HB:=n2_; clear n0_ n1_ n2_; (try clear hb); (try clear ho0); obtain ⟨Ao19,co19,eo19⟩:=Kd.V_slice HO251.out; subst eo19) | ((with_reducible refine gate_callee (f:=10) rfl ?_); refine goesL_ (some 36) rfl rfl Tryd.func10 (by kernel_rfl) rfl #[.slice Ao19 t249.length co19] rfl (by (try simp only [List.map_toArray,List.map_cons,List.map_nil]); first | done | rfl | (simp only [List.length_drop,List.length_take]; rfl)) ?_; (with_reducible refine (accept_Verdict.calls kj3 _ _ t249 t252 t253 t254 t255 t256 t257 t258 t259 t260 t261 t262 t263 t264 t265 t266 t267 t268 _ ?side1 ?side2 A15.out (glob_below HGLOB.out (by repeat (first | (with_reducible first | exact HB.out | apply bA | apply bN | apply bD | refine below_set ?_ GE245.out) | exact HB.out)))).mono ?_); (case side1=>repeat (first | exact (Kd.V_reads' HO251.out).2.2 | (with_reducible refine Kd.C_alloc ?_ _) | (with_reducible refine Kd.C_drewN ?_ _) | (with_reducible refine Kd.C_drew ?_))); (case side2=>exact (Kd.V_reads' HO251.out).2.1); rintro e w20 ⟨rfl,hb⟩; refine ⟨_,rfl,?_⟩; have n0_:=Aside0.mk (Kd.V_below (by (with_reducible repeat (first | apply Kd.V_alloc | apply Kd.V_drewN | apply Kd.V_drew)); exact HO251.out) hb); have n1_:=Aside0.mk (blk_below (g:=gb245) (o := .cells #[.int .u8 a0_0, .int .u8 a0_1, .int .u8 a0_2, .int .u8 a0_3, .int .u8 a0_4, .string a0_5, .string a0_6, .string a0_7, .string a0_8, .string a0_9, .string a0_10, .string a0_11, .string a0_12, .string a0_13, .string a0_14] 25 (0,0)) (by (with_reducible repeat (first | refine kN ?_ _ | refine kD ?_ | refine kA ?_ _)); exact BK245.out) hb); have n2_:=Aside0.mk (below_step (by repeat (first | (with_reducible first | exact HB.out | apply bA | apply bN | apply bD | refine below_set ?_ GE245.out) | exact HB.out)) hb); clear HO251; clear BK245; clear HB; have HO251:=n0_; have BK245:=n1_; have HB:=n2_; clear n0_ n1_ n2_; (try clear hb)) | ((with_reducible refine gate_dst (N:=43) rfl ?_); refine goesStrX_ rfl rfl rfl rfl Tryd.underlying9 Tryd.underlying26 Tryd.underlying5 ?_) | ((with_reducible refine gate_dst (N:=45) rfl ?_); (try (refine gate_guard (by rfl) ?_; dsimp only)); refine goesApp_ (v := .slice A1 l1.length c1) rfl rfl rfl rfl rfl (by first | rfl | simp) (by first | rfl | (simp only [ByteArray.size_append]; rfl) | simp) (by first | rfl | (simp only [ByteArray.size_append]; rfl) | simp) ?_; (with_reducible refine (cv_app.calls (t246 ++ (⟨#[13]⟩ : ByteArray)) _ _ l1 t270 _ ?side1 ?side2 A16.out).mono ?_); (case side1=>exact Kd.C_below HR1.out (by repeat (first | (with_reducible first | exact HB.out | apply bA | apply bN | apply bD) | exact HB.out))); (case side2=>exact HC1.out); rintro e w24 ⟨v271,rfl,ho0,hb⟩; refine ⟨_,rfl,?_⟩; have LT_:=blk_lt BK245.out; have n1_:=Aside0.mk (Kd.V_lower (Kd.V_mono (ok':=fun _=>True) ho0 (fun _ _=>trivial)) (below_size (by repeat (first | (with_reducible first | exact HB.out | apply bA | apply bN | apply bD) | exact HB.out)))); have n2_:=Aside0.mk (blk_below (g:=gb245) (o := .cells #[.int .u8 a0_0, .int .u8 a0_1, .int .u8 a0_2, .int .u8 a0_3, .int .u8 a0_4, .string a0_5, .string a0_6, .string a0_7, .string a0_8, .string a0_9, .string a0_10, .string a0_11, .string a0_12, .string a0_13, .string a0_14] 25 (0,0)) (by (with_reducible repeat (first | refine kN ?_ _ | refine kD ?_ | refine kA ?_ _)); exact BK245.out) hb); have n3_:=Aside0.mk (blk_below (g:=w20.heap.size) (o := .cells #[.int .u8 t252, .int .u8 t253, .int .u8 t254, .int .u8 t255, .int .u8 t256, .string t257, .string t258, .string t259, .string t260, .string t261, .string t262, .string t263, .string t264, .string t265, .string t266] 25 (0,0)) (by (with_reducible repeat (first | refine kN ?_ _ | refine kD ?_)); exact heap_new w20 _) hb); have n4_:=Aside0.mk (below_step (by repeat (first | (with_reducible first | exact HB.out | apply bA | apply bN | apply bD) | exact HB.out)) hb); clear HO251 BK245 HB hb ho0; have HO272:=n1_; have BK245:=n2_; have BK269:=n3_; have HB:=n4_; clear n1_ n2_ n3_ n4_; generalize w20.heap.size=gb269 at BK269 LT_ ⊢; have NB245_269:=Aside0.mk (Nat.ne_of_lt LT_); have NB269_245:=Aside0.mk (Nat.ne_of_gt LT_); clear LT_; obtain ⟨Ao25,co25,eo25⟩:=Kd.V_slice HO272.out; subst eo25) | ((with_reducible refine gate_callee (f:=10) rfl ?_); refine goesL_ (some 46) rfl rfl Tryd.func10 (by kernel_rfl) rfl #[.slice Ao25 t270.length co25] rfl (by (try simp only [List.map_toArray,List.map_cons,List.map_nil]); first | done | rfl | (simp only [List.length_drop,List.length_take]; rfl)) ?_; (with_reducible refine (accept_Verdict.calls kj3 _ _ t270 t273 t274 t275 t276 t277 t278 t279 t280 t281 t282 t283 t284 t285 t286 t287 t288 t289 _ ?side1 ?side2 A17.out (glob_below HGLOB.out (by repeat (first | (with_reducible first | exact HB.out | apply bA | apply bN | apply bD) | exact HB.out)))).mono ?_); (case side1=>repeat (first | exact (Kd.V_reads' HO272.out).2.2 | (with_reducible refine Kd.C_alloc ?_ _) | (with_reducible refine Kd.C_drewN ?_ _) | (with_reducible refine Kd.C_drew ?_))); (case side2=>exact (Kd.V_reads' HO272.out).2.1); rintro e w26 ⟨rfl,hb⟩; refine ⟨_,rfl,?_⟩; have n2_:=Aside0.mk (blk_below (g:=gb245) (o := .cells #[.int .u8 a0_0, .int .u8 a0_1, .int .u8 a0_2, .int .u8 a0_3, .int .u8 a0_4, .string a0_5, .string a0_6, .string a0_7, .string a0_8, .string a0_9, .string a0_10, .string a0_11, .string a0_12, .string a0_13, .string a0_14] 25 (0,0)) (by (with_reducible repeat (first | refine kN ?_ _ | refine kD ?_ | refine kA ?_ _)); exact BK245.out) hb); have n3_:=Aside0.mk (blk_below (g:=gb269) (o := .cells #[.int .u8 t252, .int .u8 t253, .int .u8 t254, .int .u8 t255, .int .u8 t256, .string t257, .string t258, .string t259, .string t260, .string t261, .string t262, .string t263, .string t264, .string t265, .string t266] 25 (0,0)) (by (with_reducible repeat (first | refine kN ?_ _ | refine kD ?_ | refine kA ?_ _)); exact BK269.out) hb); have n4_:=Aside0.mk (below_step (by repeat (first | (with_reducible first | exact HB.out | apply bA | apply bN | apply bD) | exact HB.out)) hb); clear HO272 BK245 BK269 HB hb; have BK245:=n2_; have BK269:=n3_; have HB:=n4_; clear n2_ n3_ n4_))
     generalize hg290 : w26.heap.size=gb290
     have LT245:=blk_lt BK245.out
     rw [hg290] at LT245
     have NB245_290:=Aside0.mk (Nat.ne_of_lt LT245)
     have NB290_245:=Aside0.mk (Nat.ne_of_gt LT245)
     clear LT245
     have LT269:=blk_lt BK269.out
     rw [hg290] at LT269
     have NB269_290:=Aside0.mk (Nat.ne_of_lt LT269)
     have NB290_269:=Aside0.mk (Nat.ne_of_gt LT269)
     clear LT269
     go_loopg [52] kj3 (fun kq v52 w' => ∃ (x52_2 : Int),v52 = .int .i64 x52_2∧Aside0 (lamplighterlaw11_AcceptHeads.l0 kq t246 t267 t268 t288 t289 (t246.size : Int) x52_2 a0_0 a0_1 a0_2 a0_3 a0_4 a0_5 a0_6 a0_7 a0_8 a0_9 a0_10 a0_11 a0_12 a0_13 a0_14 t252 t253 t254 t255 t256 t257 t258 t259 t260 t261 t262 t263 t264 t265 t266 t273 t274 t275 t276 t277 t278 t279 t280 t281 t282 t283 t284 t285 t286 t287=some r)∧Aside0 (kq≤kj3)∧Aside0 (w'.heap[gb245]?=some (.cells #[.int .u8 a0_0, .int .u8 a0_1, .int .u8 a0_2, .int .u8 a0_3, .int .u8 a0_4, .string a0_5, .string a0_6, .string a0_7, .string a0_8, .string a0_9, .string a0_10, .string a0_11, .string a0_12, .string a0_13, .string a0_14] 25 (0,0)))∧Aside0 (w'.heap[gb269]?=some (.cells #[.int .u8 t252, .int .u8 t253, .int .u8 t254, .int .u8 t255, .int .u8 t256, .string t257, .string t258, .string t259, .string t260, .string t261, .string t262, .string t263, .string t264, .string t265, .string t266] 25 (0,0)))∧Aside0 (w'.heap[gb290]?=some (.cells #[.int .u8 t273, .int .u8 t274, .int .u8 t275, .int .u8 t276, .int .u8 t277, .string t278, .string t279, .string t280, .string t281, .string t282, .string t283, .string t284, .string t285, .string t286, .string t287] 25 (0,0)))∧Aside0 (Below w.heap.size w w'))
     case atStart=>exact ⟨(0),(by first | rfl | (simp; done) | (simp [*]; done)),H',⟨Nat.le_refl _⟩,⟨by (with_reducible repeat (first | refine kN ?_ _ | refine kD ?_ | refine kA ?_ _)); exact BK245.out⟩,⟨by (with_reducible repeat (first | refine kN ?_ _ | refine kD ?_ | refine kA ?_ _)); exact BK269.out⟩,⟨by rw [← hg290]; (with_reducible repeat (first | refine kN ?_ _ | refine kD ?_)); exact heap_new w26 _⟩,⟨by repeat (first | (with_reducible first | exact HB.out | apply bA | apply bN | apply bD) | exact HB.out)⟩⟩
     case round =>
      clear H'
      try clear c1
      try clear c2
      try clear p2
      try clear c3
      try clear c8
      try clear c8b0
      try clear c8b1
      try clear c9
      try clear c9b0
      try clear c9b1
      try clear c10
      try clear c13
      try clear c13b0
      try clear c13b1
      try clear c13b2
      try clear c22
      try clear c28
      try clear c29
      try clear hcz23_0
      try clear hcz23_1
      try clear hcz23_10
      try clear hcz23_11
      try clear hcz23_12
      try clear hcz23_13
      try clear hcz23_14
      try clear hcz23_2
      try clear hcz23_3
      try clear hcz23_4
      try clear hcz23_5
      try clear hcz23_6
      try clear hcz23_7
      try clear hcz23_8
      try clear hcz23_9
      try clear hcz30_0
      try clear hcz30_1
      try clear hcz30_10
      try clear hcz30_11
      try clear hcz30_12
      try clear hcz30_13
      try clear hcz30_14
      try clear hcz30_2
      try clear hcz30_3
      try clear hcz30_4
      try clear hcz30_5
      try clear hcz30_6
      try clear hcz30_7
      try clear hcz30_8
      try clear hcz30_9
      try clear hcz6_0
      try clear hcz6_1
      try clear hcz6_10
      try clear hcz6_11
      try clear hcz6_12
      try clear hcz6_13
      try clear hcz6_14
      try clear hcz6_2
      try clear hcz6_3
      try clear hcz6_4
      try clear hcz6_5
      try clear hcz6_6
      try clear hcz6_7
      try clear hcz6_8
      try clear hcz6_9
      try clear hfz23_0
      try clear hfz23_1
      try clear hfz23_10
      try clear hfz23_11
      try clear hfz23_12
      try clear hfz23_13
      try clear hfz23_14
      try clear hfz23_2
      try clear hfz23_3
      try clear hfz23_4
      try clear hfz23_5
      try clear hfz23_6
      try clear hfz23_7
      try clear hfz23_8
      try clear hfz23_9
      try clear hfz30_0
      try clear hfz30_1
      try clear hfz30_10
      try clear hfz30_11
      try clear hfz30_12
      try clear hfz30_13
      try clear hfz30_14
      try clear hfz30_2
      try clear hfz30_3
      try clear hfz30_4
      try clear hfz30_5
      try clear hfz30_6
      try clear hfz30_7
      try clear hfz30_8
      try clear hfz30_9
      try clear hfz6_0
      try clear hfz6_1
      try clear hfz6_10
      try clear hfz6_11
      try clear hfz6_12
      try clear hfz6_13
      try clear hfz6_14
      try clear hfz6_2
      try clear hfz6_3
      try clear hfz6_4
      try clear hfz6_5
      try clear hfz6_6
      try clear hfz6_7
      try clear hfz6_8
      try clear hfz6_9
      try clear p2
      obtain ⟨x52_2,rfl,HA,HK2,BK245,BK269,BK290,HB⟩:=hrel
      cases gk with
      | zero=>exact absurd HA.out (by simp [lamplighterlaw11_AcceptHeads.l0])
      | succ k2 =>
       have H:=HA.out
       clear HA
       simp only [lamplighterlaw11_AcceptHeads.l0] at H
       by_cases c31 : x52_2 < (t246.size : Int)
       ·rw [if_pos c31] at H
        have c31b0:decide (x52_2 < (t246.size : Int))=true:=decide_eq_true c31
        clear c31
        by_cases c32 : 0≤x52_2
        ·rw [if_pos c32] at H
         have c32b0:decide (0≤x52_2)=true:=decide_eq_true c32
         clear c32
         by_cases c33 : x52_2 < (t246.size : Int)
         ·rw [if_pos c33] at H
          have c33b0:decide (x52_2 < (t246.size : Int))=true:=decide_eq_true c33
          clear c33
          by_cases c35 : (bt t246 x52_2)=28
          ·rw [if_pos c35] at H
           have c35b0 : ((bt t246 x52_2) == 28)=true:=beq_iff_eq.mpr c35
           have c35b1 : ((bt t246 x52_2) != 28)=false:=bne_eq_false_iff_eq.mpr c35
           clear c35
           replace H:=Option.bind_eq_some_iff.mp H
           obtain ⟨t291,A360,H⟩:=H
           replace H : (if t291=true then (if t268=10 then (if t289=t268 then (if t267.toList=([] : List UInt8) then (some (t288.toList == ([] : List UInt8))) else (some false)) else (some false)) else (some false)) else (some false))=some r:=H
           have A36:=Aside0.mk A360
           clear A360
           by_cases c37 : t291=true
           ·subst c37
            have H1 : (if t268=10 then (if t289=t268 then (if t267.toList=([] : List UInt8) then (some (t288.toList == ([] : List UInt8))) else (some false)) else (some false)) else (some false))=some r:=by rw [if_pos rfl] at H; exact H
            clear H
            have H:=H1
            clear H1
            by_cases c38 : t268=10
            ·rw [if_pos c38] at H
             have c38b0 : (t268 == 10)=true:=beq_iff_eq.mpr c38
             have c38b1 : (t268 != 10)=false:=bne_eq_false_iff_eq.mpr c38
             clear c38
             by_cases c39 : t289=t268
             ·rw [if_pos c39] at H
              have c39b0 : (t289 == t268)=true:=beq_iff_eq.mpr c39
              have c39b1 : (t289 != t268)=false:=bne_eq_false_iff_eq.mpr c39
              clear c39
              by_cases c40 : t267.toList=([] : List UInt8)
              ·rw [if_pos c40] at H
               have c40b0 : (t267.toList == ([] : List UInt8))=true:=beq_iff_eq.mpr c40
               have c40b1 : (t267.toList != ([] : List UInt8))=false:=bne_eq_false_iff_eq.mpr c40
               clear c40
               obtain rfl:=Option.some.inj H
               clear hrt
               have p34:0≤(x52_2 : Int):=of_decide_eq_true (by first | (with_reducible assumption) | assumption)
               have q34:x52_2 < (t246.size : Int):=of_decide_eq_true (by first | (with_reducible assumption) | assumption)
               have hx34:=bt_at t246 x52_2
               replace p34:=eq_true p34
               replace q34:=eq_true q34
               go_wp2_with (first | ((with_reducible refine gate_callee (f:=9) rfl ?_); refine goesL_ (some 59) rfl rfl Tryd.func9 (by kernel_rfl) rfl #[] rfl (by (try simp only [List.map_toArray,List.map_cons,List.map_nil]); first | done | rfl | (simp only [List.length_drop,List.length_take]; rfl)) ?_; (with_reducible refine (lamplighterlaw11_alive.calls k2  true _ A36.out (glob_below HGLOB.out (by repeat (first | (with_reducible first | exact HB.out | apply bA | apply bN | apply bD | refine below_set ?_ GE245.out | refine below_set ?_ GE269.out | refine below_set ?_ GE290.out) | exact HB.out))) (globc_below HGLOC.out (by repeat (first | (with_reducible first | exact HB.out | apply bA | apply bN | apply bD | refine below_set ?_ GE245.out | refine below_set ?_ GE269.out | refine below_set ?_ GE290.out) | exact HB.out))) (globe_below HGLOE.out (by repeat (first | (with_reducible first | exact HB.out | apply bA | apply bN | apply bD | refine below_set ?_ GE245.out | refine below_set ?_ GE269.out | refine below_set ?_ GE290.out) | exact HB.out)))).mono ?_); rintro e w41 ⟨rfl,hb⟩; refine ⟨_,rfl,?_⟩; have n0_:=Aside0.mk (blk_below (g:=gb245) (o := .cells #[.int .u8 a0_0, .int .u8 a0_1, .int .u8 a0_2, .int .u8 a0_3, .int .u8 a0_4, .string a0_5, .string a0_6, .string a0_7, .string a0_8, .string a0_9, .string a0_10, .string a0_11, .string a0_12, .string a0_13, .string a0_14] 25 (0,0)) (by (with_reducible repeat (first | refine kN ?_ _ | refine kD ?_ | refine kA ?_ _)); exact BK245.out) hb); have n1_:=Aside0.mk (blk_below (g:=gb269) (o := .cells #[.int .u8 t252, .int .u8 t253, .int .u8 t254, .int .u8 t255, .int .u8 t256, .string t257, .string t258, .string t259, .string t260, .string t261, .string t262, .string t263, .string t264, .string t265, .string t266] 25 (0,0)) (by (with_reducible repeat (first | refine kN ?_ _ | refine kD ?_ | refine kA ?_ _)); exact BK269.out) hb); have n2_:=Aside0.mk (blk_below (g:=gb290) (o := .cells #[.int .u8 t273, .int .u8 t274, .int .u8 t275, .int .u8 t276, .int .u8 t277, .string t278, .string t279, .string t280, .string t281, .string t282, .string t283, .string t284, .string t285, .string t286, .string t287] 25 (0,0)) (by (with_reducible repeat (first | refine kN ?_ _ | refine kD ?_ | refine kA ?_ _)); exact BK290.out) hb); have n3_:=Aside0.mk (below_step (by repeat (first | (with_reducible first | exact HB.out | apply bA | apply bN | apply bD | refine below_set ?_ GE245.out | refine below_set ?_ GE269.out | refine below_set ?_ GE290.out) | exact HB.out)) hb); clear BK245; clear BK269; clear BK290; clear HB; have BK245:=n0_; have BK269:=n1_; have BK290:=n2_; have HB:=n3_; clear n0_ n1_ n2_ n3_; (try clear hb)))
               go_ret
               exact ⟨by first | rfl | (generalize t267.toList=l_; cases l_ <;> rfl) | (simp [errW_none,errW_some] <;> rfl) | (simp [*,errW_none,errW_some] <;> rfl),by repeat (first | (with_reducible first | exact HB.out | apply bA | apply bN | apply bD | refine below_set ?_ GE245.out | refine below_set ?_ GE269.out | refine below_set ?_ GE290.out) | exact HB.out)⟩
              ·rw [if_neg c40] at H
               have c40b0 : (t267.toList == ([] : List UInt8))=false:=beq_eq_false_iff_ne.mpr c40
               have c40b1 : (t267.toList != ([] : List UInt8))=true:=bne_iff_ne.mpr c40
               obtain rfl:=Option.some.inj H
               cases hrt
             ·rw [if_neg c39] at H
              have c39b0 : (t289 == t268)=false:=beq_eq_false_iff_ne.mpr c39
              have c39b1 : (t289 != t268)=true:=bne_iff_ne.mpr c39
              obtain rfl:=Option.some.inj H
              cases hrt
            ·rw [if_neg c38] at H
             have c38b0 : (t268 == 10)=false:=beq_eq_false_iff_ne.mpr c38
             have c38b1 : (t268 != 10)=true:=bne_iff_ne.mpr c38
             obtain rfl:=Option.some.inj H
             cases hrt
           ·replace c37:=Bool.eq_false_iff.mpr c37
            subst c37
            have H1 : (some false)=some r:=by rw [if_neg (show ¬ (false=true) by decide)] at H; exact H
            clear H
            have H:=H1
            clear H1
            obtain rfl:=Option.some.inj H
            cases hrt
          ·rw [if_neg c35] at H
           have c35b0 : ((bt t246 x52_2) == 28)=false:=beq_eq_false_iff_ne.mpr c35
           have c35b1 : ((bt t246 x52_2) != 28)=true:=bne_iff_ne.mpr c35
           have H':=Aside0.mk H
           clear H
           have p34:0≤(x52_2 : Int):=of_decide_eq_true (by first | (with_reducible assumption) | assumption)
           have q34:x52_2 < (t246.size : Int):=of_decide_eq_true (by first | (with_reducible assumption) | assumption)
           have hx34:=bt_at t246 x52_2
           replace p34:=eq_true p34
           replace q34:=eq_true q34
           go_wp2
           go_roundg k2
           case measure=>have:=HJ3.out; have:=HK2.out; omega
           case rel=>exact ⟨(wrap64 (x52_2 + 1)),(by first | rfl | (simp; done) | (simp [*]; done)),H',⟨by have:=HJ3.out; have:=HK2.out; omega⟩,⟨by (with_reducible repeat (first | refine kN ?_ _ | refine kD ?_ | refine kA ?_ _)); exact BK245.out⟩,⟨by (with_reducible repeat (first | refine kN ?_ _ | refine kD ?_ | refine kA ?_ _)); exact BK269.out⟩,⟨by (with_reducible repeat (first | refine kN ?_ _ | refine kD ?_ | refine kA ?_ _)); exact BK290.out⟩,⟨by repeat (first | (with_reducible first | exact HB.out | apply bA | apply bN | apply bD | refine below_set ?_ GE245.out | refine below_set ?_ GE269.out | refine below_set ?_ GE290.out) | exact HB.out)⟩⟩
         ·rw [if_neg c33] at H
          exact absurd H (by simp)
        ·rw [if_neg c32] at H
         exact absurd H (by simp)
       ·rw [if_neg c31] at H
        have c31b0:decide (x52_2 < (t246.size : Int))=false:=decide_eq_false c31
        clear c31
        replace H:=Option.bind_eq_some_iff.mp H
        obtain ⟨t292,A460,H⟩:=H
        replace H : (if t292=true then (if ((t252 == a0_0 && (t253 == a0_1 && (t254 == a0_2 && (t255 == a0_3 && (t256 == a0_4))))) && (t257.toList == a0_5.toList && (t258.toList == a0_6.toList && (t259.toList == a0_7.toList && (t260.toList == a0_8.toList && (t261.toList == a0_9.toList && (t262.toList == a0_10.toList && (t263.toList == a0_11.toList && (t264.toList == a0_12.toList && (t265.toList == a0_13.toList && (t266.toList == a0_14.toList)))))))))))=true then (if ((t273 == a0_0 && (t274 == a0_1 && (t275 == a0_2 && (t276 == a0_3 && (t277 == a0_4))))) && (t278.toList == a0_5.toList && (t279.toList == a0_6.toList && (t280.toList == a0_7.toList && (t281.toList == a0_8.toList && (t282.toList == a0_9.toList && (t283.toList == a0_10.toList && (t284.toList == a0_11.toList && (t285.toList == a0_12.toList && (t286.toList == a0_13.toList && (t287.toList == a0_14.toList)))))))))))=true then (if t267.toList=t288.toList then (if t268=t289 then ((msh_Check.f k2 a0_0 a0_1 a0_2 a0_3 a0_4 a0_5 a0_6 a0_7 a0_8 a0_9 a0_10 a0_11 a0_12 a0_13 a0_14).bind fun t293=>(if t268=t293 then (some (t267.toList != ([] : List UInt8))) else (some false))) else (some false)) else (some false)) else (some false)) else (some false)) else (some false))=some r:=H
        have A46:=Aside0.mk A460
        clear A460
        by_cases c47 : t292=true
        ·subst c47
         have H1 : (if ((t252 == a0_0 && (t253 == a0_1 && (t254 == a0_2 && (t255 == a0_3 && (t256 == a0_4))))) && (t257.toList == a0_5.toList && (t258.toList == a0_6.toList && (t259.toList == a0_7.toList && (t260.toList == a0_8.toList && (t261.toList == a0_9.toList && (t262.toList == a0_10.toList && (t263.toList == a0_11.toList && (t264.toList == a0_12.toList && (t265.toList == a0_13.toList && (t266.toList == a0_14.toList)))))))))))=true then (if ((t273 == a0_0 && (t274 == a0_1 && (t275 == a0_2 && (t276 == a0_3 && (t277 == a0_4))))) && (t278.toList == a0_5.toList && (t279.toList == a0_6.toList && (t280.toList == a0_7.toList && (t281.toList == a0_8.toList && (t282.toList == a0_9.toList && (t283.toList == a0_10.toList && (t284.toList == a0_11.toList && (t285.toList == a0_12.toList && (t286.toList == a0_13.toList && (t287.toList == a0_14.toList)))))))))))=true then (if t267.toList=t288.toList then (if t268=t289 then ((msh_Check.f k2 a0_0 a0_1 a0_2 a0_3 a0_4 a0_5 a0_6 a0_7 a0_8 a0_9 a0_10 a0_11 a0_12 a0_13 a0_14).bind fun t293=>(if t268=t293 then (some (t267.toList != ([] : List UInt8))) else (some false))) else (some false)) else (some false)) else (some false)) else (some false))=some r:=by rw [if_pos rfl] at H; exact H
         clear H
         have H:=H1
         clear H1
         by_cases c48 : ((t252 == a0_0 && (t253 == a0_1 && (t254 == a0_2 && (t255 == a0_3 && (t256 == a0_4))))) && (t257.toList == a0_5.toList && (t258.toList == a0_6.toList && (t259.toList == a0_7.toList && (t260.toList == a0_8.toList && (t261.toList == a0_9.toList && (t262.toList == a0_10.toList && (t263.toList == a0_11.toList && (t264.toList == a0_12.toList && (t265.toList == a0_13.toList && (t266.toList == a0_14.toList)))))))))))=true
         ·rw [if_pos c48] at H
          have c48b0 : ((t252 == a0_0 && (t253 == a0_1 && (t254 == a0_2 && (t255 == a0_3 && (t256 == a0_4))))) && (t257.toList == a0_5.toList && (t258.toList == a0_6.toList && (t259.toList == a0_7.toList && (t260.toList == a0_8.toList && (t261.toList == a0_9.toList && (t262.toList == a0_10.toList && (t263.toList == a0_11.toList && (t264.toList == a0_12.toList && (t265.toList == a0_13.toList && (t266.toList == a0_14.toList)))))))))))=true:=c48
          clear c48
          by_cases c49 : ((t273 == a0_0 && (t274 == a0_1 && (t275 == a0_2 && (t276 == a0_3 && (t277 == a0_4))))) && (t278.toList == a0_5.toList && (t279.toList == a0_6.toList && (t280.toList == a0_7.toList && (t281.toList == a0_8.toList && (t282.toList == a0_9.toList && (t283.toList == a0_10.toList && (t284.toList == a0_11.toList && (t285.toList == a0_12.toList && (t286.toList == a0_13.toList && (t287.toList == a0_14.toList)))))))))))=true
          ·rw [if_pos c49] at H
           have c49b0 : ((t273 == a0_0 && (t274 == a0_1 && (t275 == a0_2 && (t276 == a0_3 && (t277 == a0_4))))) && (t278.toList == a0_5.toList && (t279.toList == a0_6.toList && (t280.toList == a0_7.toList && (t281.toList == a0_8.toList && (t282.toList == a0_9.toList && (t283.toList == a0_10.toList && (t284.toList == a0_11.toList && (t285.toList == a0_12.toList && (t286.toList == a0_13.toList && (t287.toList == a0_14.toList)))))))))))=true:=c49
           clear c49
           by_cases c50 : t267.toList=t288.toList
           ·rw [if_pos c50] at H
            have c50b0 : (t267.toList == t288.toList)=true:=beq_iff_eq.mpr c50
            have c50b1 : (t267.toList != t288.toList)=false:=bne_eq_false_iff_eq.mpr c50
            clear c50
            by_cases c51 : t268=t289
            ·rw [if_pos c51] at H
             have c51b0 : (t268 == t289)=true:=beq_iff_eq.mpr c51
             have c51b1 : (t268 != t289)=false:=bne_eq_false_iff_eq.mpr c51
             clear c51
             replace H:=Option.bind_eq_some_iff.mp H
             obtain ⟨t293,A520,H⟩:=H
             replace H : (if t268=t293 then (some (t267.toList != ([] : List UInt8))) else (some false))=some r:=H
             have A52:=Aside0.mk A520
             clear A520
             by_cases c53 : t268=t293
             ·rw [if_pos c53] at H
              have c53b0 : (t268 == t293)=true:=beq_iff_eq.mpr c53
              have c53b1 : (t268 != t293)=false:=bne_eq_false_iff_eq.mpr c53
              clear c53
              obtain rfl:=Option.some.inj H
              clear hrt
              go_wp2_with (first | ((with_reducible refine gate_callee (f:=9) rfl ?_); refine goesL_ (some 78) rfl rfl Tryd.func9 (by kernel_rfl) rfl #[] rfl (by (try simp only [List.map_toArray,List.map_cons,List.map_nil]); first | done | rfl | (simp only [List.length_drop,List.length_take]; rfl)) ?_; (with_reducible refine (lamplighterlaw11_alive.calls k2  true _ A46.out (glob_below HGLOB.out (by repeat (first | (with_reducible first | exact HB.out | apply bA | apply bN | apply bD | refine below_set ?_ GE245.out | refine below_set ?_ GE269.out | refine below_set ?_ GE290.out) | exact HB.out))) (globc_below HGLOC.out (by repeat (first | (with_reducible first | exact HB.out | apply bA | apply bN | apply bD | refine below_set ?_ GE245.out | refine below_set ?_ GE269.out | refine below_set ?_ GE290.out) | exact HB.out))) (globe_below HGLOE.out (by repeat (first | (with_reducible first | exact HB.out | apply bA | apply bN | apply bD | refine below_set ?_ GE245.out | refine below_set ?_ GE269.out | refine below_set ?_ GE290.out) | exact HB.out)))).mono ?_); rintro e w54 ⟨rfl,hb⟩; refine ⟨_,rfl,?_⟩; have n0_:=Aside0.mk (blk_below (g:=gb245) (o := .cells #[.int .u8 a0_0, .int .u8 a0_1, .int .u8 a0_2, .int .u8 a0_3, .int .u8 a0_4, .string a0_5, .string a0_6, .string a0_7, .string a0_8, .string a0_9, .string a0_10, .string a0_11, .string a0_12, .string a0_13, .string a0_14] 25 (0,0)) (by (with_reducible repeat (first | refine kN ?_ _ | refine kD ?_ | refine kA ?_ _)); exact BK245.out) hb); have n1_:=Aside0.mk (blk_below (g:=gb269) (o := .cells #[.int .u8 t252, .int .u8 t253, .int .u8 t254, .int .u8 t255, .int .u8 t256, .string t257, .string t258, .string t259, .string t260, .string t261, .string t262, .string t263, .string t264, .string t265, .string t266] 25 (0,0)) (by (with_reducible repeat (first | refine kN ?_ _ | refine kD ?_ | refine kA ?_ _)); exact BK269.out) hb); have n2_:=Aside0.mk (blk_below (g:=gb290) (o := .cells #[.int .u8 t273, .int .u8 t274, .int .u8 t275, .int .u8 t276, .int .u8 t277, .string t278, .string t279, .string t280, .string t281, .string t282, .string t283, .string t284, .string t285, .string t286, .string t287] 25 (0,0)) (by (with_reducible repeat (first | refine kN ?_ _ | refine kD ?_ | refine kA ?_ _)); exact BK290.out) hb); have n3_:=Aside0.mk (below_step (by repeat (first | (with_reducible first | exact HB.out | apply bA | apply bN | apply bD | refine below_set ?_ GE245.out | refine below_set ?_ GE269.out | refine below_set ?_ GE290.out) | exact HB.out)) hb); clear BK245; clear BK269; clear BK290; clear HB; have BK245:=n0_; have BK269:=n1_; have BK290:=n2_; have HB:=n3_; clear n0_ n1_ n2_ n3_; (try clear hb); have hnb55:=NB269_245.out; have hnc55:=NB245_269.out; have hnb56:=NB269_290.out; have hnc56:=NB290_269.out; have hcz57_0:w54.cell? ⟨gb269,0,none⟩=some (.int .u8 t252):=blk_cell BK269.out 0; have hcz57_1:w54.cell? ⟨gb269,1,none⟩=some (.int .u8 t253):=blk_cell BK269.out 1; have hcz57_2:w54.cell? ⟨gb269,2,none⟩=some (.int .u8 t254):=blk_cell BK269.out 2; have hcz57_3:w54.cell? ⟨gb269,3,none⟩=some (.int .u8 t255):=blk_cell BK269.out 3; have hcz57_4:w54.cell? ⟨gb269,4,none⟩=some (.int .u8 t256):=blk_cell BK269.out 4; have hcz57_5:w54.cell? ⟨gb269,5,none⟩=some (.string t257):=blk_cell BK269.out 5; have hcz57_6:w54.cell? ⟨gb269,6,none⟩=some (.string t258):=blk_cell BK269.out 6; have hcz57_7:w54.cell? ⟨gb269,7,none⟩=some (.string t259):=blk_cell BK269.out 7; have hcz57_8:w54.cell? ⟨gb269,8,none⟩=some (.string t260):=blk_cell BK269.out 8; have hcz57_9:w54.cell? ⟨gb269,9,none⟩=some (.string t261):=blk_cell BK269.out 9; have hcz57_10:w54.cell? ⟨gb269,10,none⟩=some (.string t262):=blk_cell BK269.out 10; have hcz57_11:w54.cell? ⟨gb269,11,none⟩=some (.string t263):=blk_cell BK269.out 11; have hcz57_12:w54.cell? ⟨gb269,12,none⟩=some (.string t264):=blk_cell BK269.out 12; have hcz57_13:w54.cell? ⟨gb269,13,none⟩=some (.string t265):=blk_cell BK269.out 13; have hcz57_14:w54.cell? ⟨gb269,14,none⟩=some (.string t266):=blk_cell BK269.out 14; have hfz57_0:=blk_frozen BK269.out 0; have hfz57_1:=blk_frozen BK269.out 1; have hfz57_2:=blk_frozen BK269.out 2; have hfz57_3:=blk_frozen BK269.out 3; have hfz57_4:=blk_frozen BK269.out 4; have hfz57_5:=blk_frozen BK269.out 5; have hfz57_6:=blk_frozen BK269.out 6; have hfz57_7:=blk_frozen BK269.out 7; have hfz57_8:=blk_frozen BK269.out 8; have hfz57_9:=blk_frozen BK269.out 9; have hfz57_10:=blk_frozen BK269.out 10; have hfz57_11:=blk_frozen BK269.out 11; have hfz57_12:=blk_frozen BK269.out 12; have hfz57_13:=blk_frozen BK269.out 13; have hfz57_14:=blk_frozen BK269.out 14; have hnb58:=NB245_290.out; have hnc58:=NB290_245.out; have hcz59_0:w54.cell? ⟨gb245,0,none⟩=some (.int .u8 a0_0):=blk_cell BK245.out 0; have hcz59_1:w54.cell? ⟨gb245,1,none⟩=some (.int .u8 a0_1):=blk_cell BK245.out 1; have hcz59_2:w54.cell? ⟨gb245,2,none⟩=some (.int .u8 a0_2):=blk_cell BK245.out 2; have hcz59_3:w54.cell? ⟨gb245,3,none⟩=some (.int .u8 a0_3):=blk_cell BK245.out 3; have hcz59_4:w54.cell? ⟨gb245,4,none⟩=some (.int .u8 a0_4):=blk_cell BK245.out 4; have hcz59_5:w54.cell? ⟨gb245,5,none⟩=some (.string a0_5):=blk_cell BK245.out 5; have hcz59_6:w54.cell? ⟨gb245,6,none⟩=some (.string a0_6):=blk_cell BK245.out 6; have hcz59_7:w54.cell? ⟨gb245,7,none⟩=some (.string a0_7):=blk_cell BK245.out 7; have hcz59_8:w54.cell? ⟨gb245,8,none⟩=some (.string a0_8):=blk_cell BK245.out 8; have hcz59_9:w54.cell? ⟨gb245,9,none⟩=some (.string a0_9):=blk_cell BK245.out 9; have hcz59_10:w54.cell? ⟨gb245,10,none⟩=some (.string a0_10):=blk_cell BK245.out 10; have hcz59_11:w54.cell? ⟨gb245,11,none⟩=some (.string a0_11):=blk_cell BK245.out 11; have hcz59_12:w54.cell? ⟨gb245,12,none⟩=some (.string a0_12):=blk_cell BK245.out 12; have hcz59_13:w54.cell? ⟨gb245,13,none⟩=some (.string a0_13):=blk_cell BK245.out 13; have hcz59_14:w54.cell? ⟨gb245,14,none⟩=some (.string a0_14):=blk_cell BK245.out 14; have hfz59_0:=blk_frozen BK245.out 0; have hfz59_1:=blk_frozen BK245.out 1; have hfz59_2:=blk_frozen BK245.out 2; have hfz59_3:=blk_frozen BK245.out 3; have hfz59_4:=blk_frozen BK245.out 4; have hfz59_5:=blk_frozen BK245.out 5; have hfz59_6:=blk_frozen BK245.out 6; have hfz59_7:=blk_frozen BK245.out 7; have hfz59_8:=blk_frozen BK245.out 8; have hfz59_9:=blk_frozen BK245.out 9; have hfz59_10:=blk_frozen BK245.out 10; have hfz59_11:=blk_frozen BK245.out 11; have hfz59_12:=blk_frozen BK245.out 12; have hfz59_13:=blk_frozen BK245.out 13; have hfz59_14:=blk_frozen BK245.out 14; have hcz60_0:w54.cell? ⟨gb290,0,none⟩=some (.int .u8 t273):=blk_cell BK290.out 0; have hcz60_1:w54.cell? ⟨gb290,1,none⟩=some (.int .u8 t274):=blk_cell BK290.out 1; have hcz60_2:w54.cell? ⟨gb290,2,none⟩=some (.int .u8 t275):=blk_cell BK290.out 2; have hcz60_3:w54.cell? ⟨gb290,3,none⟩=some (.int .u8 t276):=blk_cell BK290.out 3; have hcz60_4:w54.cell? ⟨gb290,4,none⟩=some (.int .u8 t277):=blk_cell BK290.out 4; have hcz60_5:w54.cell? ⟨gb290,5,none⟩=some (.string t278):=blk_cell BK290.out 5; have hcz60_6:w54.cell? ⟨gb290,6,none⟩=some (.string t279):=blk_cell BK290.out 6; have hcz60_7:w54.cell? ⟨gb290,7,none⟩=some (.string t280):=blk_cell BK290.out 7; have hcz60_8:w54.cell? ⟨gb290,8,none⟩=some (.string t281):=blk_cell BK290.out 8; have hcz60_9:w54.cell? ⟨gb290,9,none⟩=some (.string t282):=blk_cell BK290.out 9; have hcz60_10:w54.cell? ⟨gb290,10,none⟩=some (.string t283):=blk_cell BK290.out 10; have hcz60_11:w54.cell? ⟨gb290,11,none⟩=some (.string t284):=blk_cell BK290.out 11; have hcz60_12:w54.cell? ⟨gb290,12,none⟩=some (.string t285):=blk_cell BK290.out 12; have hcz60_13:w54.cell? ⟨gb290,13,none⟩=some (.string t286):=blk_cell BK290.out 13; have hcz60_14:w54.cell? ⟨gb290,14,none⟩=some (.string t287):=blk_cell BK290.out 14; have hfz60_0:=blk_frozen BK290.out 0; have hfz60_1:=blk_frozen BK290.out 1; have hfz60_2:=blk_frozen BK290.out 2; have hfz60_3:=blk_frozen BK290.out 3; have hfz60_4:=blk_frozen BK290.out 4; have hfz60_5:=blk_frozen BK290.out 5; have hfz60_6:=blk_frozen BK290.out 6; have hfz60_7:=blk_frozen BK290.out 7; have hfz60_8:=blk_frozen BK290.out 8; have hfz60_9:=blk_frozen BK290.out 9; have hfz60_10:=blk_frozen BK290.out 10; have hfz60_11:=blk_frozen BK290.out 11; have hfz60_12:=blk_frozen BK290.out 12; have hfz60_13:=blk_frozen BK290.out 13; have hfz60_14:=blk_frozen BK290.out 14) | (go_at_call 11; (with_reducible refine (msh_Check.calls k2 a0_0 a0_1 a0_2 a0_3 a0_4 a0_5 a0_6 a0_7 a0_8 a0_9 a0_10 a0_11 a0_12 a0_13 a0_14 t293 _ A52.out (glob_below HGLOB.out (by repeat (first | (with_reducible first | exact HB.out | apply bA | apply bN | apply bD | refine below_set ?_ GE245.out | refine below_set ?_ GE269.out | refine below_set ?_ GE290.out) | exact HB.out)))).mono ?_); rintro e w61 ⟨rfl,hb⟩; have n0_:=Aside0.mk (blk_below (g:=gb245) (o := .cells #[.int .u8 a0_0, .int .u8 a0_1, .int .u8 a0_2, .int .u8 a0_3, .int .u8 a0_4, .string a0_5, .string a0_6, .string a0_7, .string a0_8, .string a0_9, .string a0_10, .string a0_11, .string a0_12, .string a0_13, .string a0_14] 25 (0,0)) (by (with_reducible repeat (first | refine kN ?_ _ | refine kD ?_ | refine kA ?_ _)); exact BK245.out) hb); have n1_:=Aside0.mk (blk_below (g:=gb269) (o := .cells #[.int .u8 t252, .int .u8 t253, .int .u8 t254, .int .u8 t255, .int .u8 t256, .string t257, .string t258, .string t259, .string t260, .string t261, .string t262, .string t263, .string t264, .string t265, .string t266] 25 (0,0)) (by (with_reducible repeat (first | refine kN ?_ _ | refine kD ?_ | refine kA ?_ _)); exact BK269.out) hb); have n2_:=Aside0.mk (blk_below (g:=gb290) (o := .cells #[.int .u8 t273, .int .u8 t274, .int .u8 t275, .int .u8 t276, .int .u8 t277, .string t278, .string t279, .string t280, .string t281, .string t282, .string t283, .string t284, .string t285, .string t286, .string t287] 25 (0,0)) (by (with_reducible repeat (first | refine kN ?_ _ | refine kD ?_ | refine kA ?_ _)); exact BK290.out) hb); have n3_:=Aside0.mk (below_step (by repeat (first | (with_reducible first | exact HB.out | apply bA | apply bN | apply bD | refine below_set ?_ GE245.out | refine below_set ?_ GE269.out | refine below_set ?_ GE290.out) | exact HB.out)) hb); clear BK245; clear BK269; clear BK290; clear HB; have BK245:=n0_; have BK269:=n1_; have BK290:=n2_; have HB:=n3_; clear n0_ n1_ n2_ n3_; (try clear hb)))
              go_ret
              exact ⟨by first | rfl | (generalize t267.toList=l_; cases l_ <;> rfl) | (simp [errW_none,errW_some] <;> rfl) | (simp [*,errW_none,errW_some] <;> rfl),by repeat (first | (with_reducible first | exact HB.out | apply bA | apply bN | apply bD | refine below_set ?_ GE245.out | refine below_set ?_ GE269.out | refine below_set ?_ GE290.out) | exact HB.out)⟩
             ·rw [if_neg c53] at H
              have c53b0 : (t268 == t293)=false:=beq_eq_false_iff_ne.mpr c53
              have c53b1 : (t268 != t293)=true:=bne_iff_ne.mpr c53
              obtain rfl:=Option.some.inj H
              cases hrt
            ·rw [if_neg c51] at H
             have c51b0 : (t268 == t289)=false:=beq_eq_false_iff_ne.mpr c51
             have c51b1 : (t268 != t289)=true:=bne_iff_ne.mpr c51
             obtain rfl:=Option.some.inj H
             cases hrt
           ·rw [if_neg c50] at H
            have c50b0 : (t267.toList == t288.toList)=false:=beq_eq_false_iff_ne.mpr c50
            have c50b1 : (t267.toList != t288.toList)=true:=bne_iff_ne.mpr c50
            obtain rfl:=Option.some.inj H
            cases hrt
          ·rw [if_neg c49] at H
           have c49b0 : ((t273 == a0_0 && (t274 == a0_1 && (t275 == a0_2 && (t276 == a0_3 && (t277 == a0_4))))) && (t278.toList == a0_5.toList && (t279.toList == a0_6.toList && (t280.toList == a0_7.toList && (t281.toList == a0_8.toList && (t282.toList == a0_9.toList && (t283.toList == a0_10.toList && (t284.toList == a0_11.toList && (t285.toList == a0_12.toList && (t286.toList == a0_13.toList && (t287.toList == a0_14.toList)))))))))))=false:=by simpa using c49
           clear c49
           obtain rfl:=Option.some.inj H
           cases hrt
         ·rw [if_neg c48] at H
          have c48b0 : ((t252 == a0_0 && (t253 == a0_1 && (t254 == a0_2 && (t255 == a0_3 && (t256 == a0_4))))) && (t257.toList == a0_5.toList && (t258.toList == a0_6.toList && (t259.toList == a0_7.toList && (t260.toList == a0_8.toList && (t261.toList == a0_9.toList && (t262.toList == a0_10.toList && (t263.toList == a0_11.toList && (t264.toList == a0_12.toList && (t265.toList == a0_13.toList && (t266.toList == a0_14.toList)))))))))))=false:=by simpa using c48
          clear c48
          obtain rfl:=Option.some.inj H
          cases hrt
        ·replace c47:=Bool.eq_false_iff.mpr c47
         subst c47
         have H1 : (some false)=some r:=by rw [if_neg (show ¬ (false=true) by decide)] at H; exact H
         clear H
         have H:=H1
         clear H1
         obtain rfl:=Option.some.inj H
         cases hrt
    ·rw [if_neg c13] at H
     exact absurd H (by simp)

end Go.Proofs.YtmjdnkiohdkfpaaDoor.PF
