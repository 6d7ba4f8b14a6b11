import Derived.Test.YtcjcaojgminjpabDoorPBx0
import Derived.Test.YtcjcaojgminjpabDoorPBx2
import Derived.Test.YtcjcaojgminjpabDoorPBx8
import Derived.Test.YtcjcaojgminjpabDoorPBx9
import Derived.Test.YtcjcaojgminjpabDoorPBx14
import Derived.Test.YtcjcaojgminjpabDoorPBx15
import Derived.Test.YtcjcaojgminjpabDoorPBx19
namespace Go.Proofs.YtcjcaojgminjpabDoor.PB
open Go.RowKit Go.Proofs.YtcjcaojgminjpabDoorW.PrintWords Go.Proofs.YtcjcaojgminjpabDoorW.PrintLast Go.Proofs.YtcjcaojgminjpabDoorW.PrintMore
set_option maxHeartbeats 8000000
set_option maxRecDepth 100000
attribute [local go_sem] max2_int min2_int max_two min_two max_three min_three max_four min_four
set_option linter.unusedVariables false
set_option linter.unusedSimpArgs false

attribute [local go_sem high] eqA45
/-! ### lamplighterlaw10_AckForms: function 7 -/
mutual
def lamplighterlaw10_AckForms.j0 : Nat→ByteArray→ByteArray→Bool→Int→Int→Int→Int→Int→ByteArray→ByteArray→ByteArray→ByteArray→ByteArray→ByteArray→ByteArray→ByteArray→ByteArray→ByteArray→Option (Bool)
 | 0,_,_,_,_,_,_,_,_,_,_,_,_,_,_,_,_,_,_=>none
 | k + 1,x1,x5,x30,x348000,x348001,x348002,x348003,x348004,x348005,x348006,x348007,x348008,x348009,x348010,x348011,x348012,x348013,x348014=>if x30=true then ((lamplighterlaw10_alive.f k).bind fun t351=>(some t351)) else (lamplighterlaw10_AckForms.l0 k x1 x5 (x1.size : Int) 0 x348000 x348001 x348002 x348003 x348004 x348005 x348006 x348007 x348008 x348009 x348010 x348011 x348012 x348013 x348014)
def lamplighterlaw10_AckForms.l0 : Nat→ByteArray→ByteArray→Int→Int→Int→Int→Int→Int→Int→ByteArray→ByteArray→ByteArray→ByteArray→ByteArray→ByteArray→ByteArray→ByteArray→ByteArray→ByteArray→Option (Bool)
 | 0,_,_,_,_,_,_,_,_,_,_,_,_,_,_,_,_,_,_,_=>none
 | k + 1,x1,x5,x33,x34,x348000,x348001,x348002,x348003,x348004,x348005,x348006,x348007,x348008,x348009,x348010,x348011,x348012,x348013,x348014=>if x34 < x33 then (if 0≤x34 then (if x34 < (x1.size : Int) then (if (bt x1 x34)=13 then ((lamplighterlaw10_alive.f k).bind fun t352=>(some t352)) else (if (bt x1 x34)=x348000 then ((lamplighterlaw10_alive.f k).bind fun t353=>(some t353)) else (lamplighterlaw10_AckForms.l0 k x1 x5 x33 (wrap64 (x34 + 1)) x348000 x348001 x348002 x348003 x348004 x348005 x348006 x348007 x348008 x348009 x348010 x348011 x348012 x348013 x348014))) else (none)) else (none)) else ((some (([x348000] : List Int) : List Int)).bind fun y354=>(if x5.size + 1≤9223372036854775807 then ((cv_str.f (x5 ++ (⟨#[13]⟩ : ByteArray))).bind fun t357=>((ack_Read.f k t357).bind fun bt360=>(if x5.size + 4≤9223372036854775807 then (if (x5 ++ (⟨#[13,77,83,66]⟩ : ByteArray)).size + (strOfNums y354).size≤9223372036854775807 then (if ((x5 ++ (⟨#[13,77,83,66]⟩ : ByteArray)) ++ (strOfNums y354)).size + 2≤9223372036854775807 then (if (((x5 ++ (⟨#[13,77,83,66]⟩ : ByteArray)) ++ (strOfNums y354)) ++ (⟨#[65,65]⟩ : ByteArray)).size + (strOfNums y354).size≤9223372036854775807 then (if ((((x5 ++ (⟨#[13,77,83,66]⟩ : ByteArray)) ++ (strOfNums y354)) ++ (⟨#[65,65]⟩ : ByteArray)) ++ (strOfNums y354)).size + 2≤9223372036854775807 then ((cv_str.f (((((x5 ++ (⟨#[13,77,83,66]⟩ : ByteArray)) ++ (strOfNums y354)) ++ (⟨#[65,65]⟩ : ByteArray)) ++ (strOfNums y354)) ++ (⟨#[49,13]⟩ : ByteArray))).bind fun t364=>((ack_Read.f k t364).bind fun bt367=>(if (x5 ++ (⟨#[13,77,83,65]⟩ : ByteArray)).size + (strOfNums y354).size≤9223372036854775807 then (if ((x5 ++ (⟨#[13,77,83,65]⟩ : ByteArray)) ++ (strOfNums y354)).size + x1.size≤9223372036854775807 then (if (((x5 ++ (⟨#[13,77,83,65]⟩ : ByteArray)) ++ (strOfNums y354)) ++ x1).size + (strOfNums y354).size≤9223372036854775807 then (if ((((x5 ++ (⟨#[13,77,83,65]⟩ : ByteArray)) ++ (strOfNums y354)) ++ x1) ++ (strOfNums y354)).size + 2≤9223372036854775807 then ((cv_str.f (((((x5 ++ (⟨#[13,77,83,65]⟩ : ByteArray)) ++ (strOfNums y354)) ++ x1) ++ (strOfNums y354)) ++ (⟨#[49,13]⟩ : ByteArray))).bind fun t371=>((ack_Read.f k t371).bind fun bt374=>((lamplighterlaw10_alive.f k).bind fun t378=>(if t378=true then (if bt360.2.2=10 then (lamplighterlaw10_AckForms.j2 k x1 bt374.2.2 (bt367.2.2 != 10) bt374.1 bt374.2.1) else (lamplighterlaw10_AckForms.j2 k x1 bt374.2.2 true bt374.1 bt374.2.1)) else (lamplighterlaw10_AckForms.j2 k x1 bt374.2.2 true bt374.1 bt374.2.1))))) else (none)) else (none)) else (none)) else (none)))) else (none)) else (none)) else (none)) else (none)) else (none)))) else (none)))
def lamplighterlaw10_AckForms.j2 : Nat→ByteArray→Int→Bool→ByteArray→ByteArray→Option (Bool)
 | 0,_,_,_,_,_=>none
 | k + 1,x1,x14,x100,x378000,x378001=>if x100=true then (some false) else ((ack_Known.f k x1).bind fun t379=>(if t379=true then (if x14=0 then (some (x378000.toList == x1.toList && (x378001.toList == ([49] : List UInt8)))) else (some false)) else (if x14=17 then (some (x378000.toList == ([] : List UInt8) && (x378001.toList == ([] : List UInt8)))) else (some false))))
end
def lamplighterlaw10_AckForms.f (k : Nat) (a0_0 : Int) (a0_1 : Int) (a0_2 : Int) (a0_3 : Int) (a0_4 : Int) (a0_5 : ByteArray) (a0_6 : ByteArray) (a0_7 : ByteArray) (a0_8 : ByteArray) (a0_9 : ByteArray) (a0_10 : ByteArray) (a0_11 : ByteArray) (a0_12 : ByteArray) (a0_13 : ByteArray) (a0_14 : ByteArray) (a1 : ByteArray) : Option (Bool):=(msh_Write.f k a0_0 a0_1 a0_2 a0_3 a0_4 a0_5 a0_6 a0_7 a0_8 a0_9 a0_10 a0_11 a0_12 a0_13 a0_14).bind fun bt348=>(if bt348.2=0 then ((lamplighterlaw10_great.f a0_0 a0_1 a0_2 a0_3 a0_4 a0_5 a0_6 a0_7 a0_8 a0_9 a0_10 a0_11 a0_12 a0_13 a0_14).bind fun t350=>(if t350=true then (lamplighterlaw10_AckForms.j0 k a1 bt348.1 true a0_0 a0_1 a0_2 a0_3 a0_4 a0_5 a0_6 a0_7 a0_8 a0_9 a0_10 a0_11 a0_12 a0_13 a0_14) else (lamplighterlaw10_AckForms.j0 k a1 bt348.1 (decide ((a1.size : Int) > 100)) a0_0 a0_1 a0_2 a0_3 a0_4 a0_5 a0_6 a0_7 a0_8 a0_9 a0_10 a0_11 a0_12 a0_13 a0_14))) else (lamplighterlaw10_AckForms.j0 k a1 bt348.1 true a0_0 a0_1 a0_2 a0_3 a0_4 a0_5 a0_6 a0_7 a0_8 a0_9 a0_10 a0_11 a0_12 a0_13 a0_14))
theorem lamplighterlaw10_AckForms.mono_l : ∀ k,(∀ y0 y1 y2 y3 y4 y5 y6 y7 y8 y9 y10 y11 y12 y13 y14 y15 y16 y17,LeO (lamplighterlaw10_AckForms.j0 k y0 y1 y2 y3 y4 y5 y6 y7 y8 y9 y10 y11 y12 y13 y14 y15 y16 y17) (lamplighterlaw10_AckForms.j0 (k + 1) y0 y1 y2 y3 y4 y5 y6 y7 y8 y9 y10 y11 y12 y13 y14 y15 y16 y17))∧(∀ y0 y1 y2 y3 y4 y5 y6 y7 y8 y9 y10 y11 y12 y13 y14 y15 y16 y17 y18,LeO (lamplighterlaw10_AckForms.l0 k y0 y1 y2 y3 y4 y5 y6 y7 y8 y9 y10 y11 y12 y13 y14 y15 y16 y17 y18) (lamplighterlaw10_AckForms.l0 (k + 1) y0 y1 y2 y3 y4 y5 y6 y7 y8 y9 y10 y11 y12 y13 y14 y15 y16 y17 y18))∧(∀ y0 y1 y2 y3 y4,LeO (lamplighterlaw10_AckForms.j2 k y0 y1 y2 y3 y4) (lamplighterlaw10_AckForms.j2 (k + 1) y0 y1 y2 y3 y4))
 | 0=>⟨fun _ _ _ _ _ _ _ _ _ _ _ _ _ _ _ _ _ _ r h=>by simp [lamplighterlaw10_AckForms.j0] at h,fun _ _ _ _ _ _ _ _ _ _ _ _ _ _ _ _ _ _ _ r h=>by simp [lamplighterlaw10_AckForms.l0] at h,fun _ _ _ _ _ r h=>by simp [lamplighterlaw10_AckForms.j2] at h⟩
 | k + 1=>by
  obtain ⟨ih0,ih1,ih2⟩:=lamplighterlaw10_AckForms.mono_l k
  refine ⟨?_,?_,?_⟩
  ·intro y0 y1 y2 y3 y4 y5 y6 y7 y8 y9 y10 y11 y12 y13 y14 y15 y16 y17
   unfold lamplighterlaw10_AckForms.j0
   repeat' first
   | (with_reducible exact ih0 _ _ _ _ _ _ _ _ _ _ _ _ _ _ _ _ _ _)
   | (with_reducible exact ih1 _ _ _ _ _ _ _ _ _ _ _ _ _ _ _ _ _ _ _)
   | (with_reducible exact ih2 _ _ _ _ _)
   | (with_reducible exact ack_Known.mono _ _)
   | (with_reducible exact ack_Read.mono _ _)
   | (with_reducible exact lamplighterlaw10_alive.mono _)
   | (with_reducible exact msh_Write.mono _ _ _ _ _ _ _ _ _ _ _ _ _ _ _ _)
   | (with_reducible exact LeO.refl _)
   | (with_reducible exact LeO.none _)
   | (with_reducible refine LeO.ite ?_ ?_)
   | (with_reducible refine LeO.bind ?_ (fun _=>?_))
   | exact ih0 _ _ _ _ _ _ _ _ _ _ _ _ _ _ _ _ _ _
   | exact ih1 _ _ _ _ _ _ _ _ _ _ _ _ _ _ _ _ _ _ _
   | exact ih2 _ _ _ _ _
   | exact ack_Known.mono _ _
   | exact ack_Read.mono _ _
   | exact lamplighterlaw10_alive.mono _
   | exact msh_Write.mono _ _ _ _ _ _ _ _ _ _ _ _ _ _ _ _
   | exact LeO.none _
   | refine LeO.ite ?_ ?_
   | refine LeO.bind ?_ (fun _=>?_)
  ·intro y0 y1 y2 y3 y4 y5 y6 y7 y8 y9 y10 y11 y12 y13 y14 y15 y16 y17 y18
   unfold lamplighterlaw10_AckForms.l0
   repeat' first
   | (with_reducible exact ih0 _ _ _ _ _ _ _ _ _ _ _ _ _ _ _ _ _ _)
   | (with_reducible exact ih1 _ _ _ _ _ _ _ _ _ _ _ _ _ _ _ _ _ _ _)
   | (with_reducible exact ih2 _ _ _ _ _)
   | (with_reducible exact ack_Known.mono _ _)
   | (with_reducible exact ack_Read.mono _ _)
   | (with_reducible exact lamplighterlaw10_alive.mono _)
   | (with_reducible exact msh_Write.mono _ _ _ _ _ _ _ _ _ _ _ _ _ _ _ _)
   | (with_reducible exact LeO.refl _)
   | (with_reducible exact LeO.none _)
   | (with_reducible refine LeO.ite ?_ ?_)
   | (with_reducible refine LeO.bind ?_ (fun _=>?_))
   | exact ih0 _ _ _ _ _ _ _ _ _ _ _ _ _ _ _ _ _ _
   | exact ih1 _ _ _ _ _ _ _ _ _ _ _ _ _ _ _ _ _ _ _
   | exact ih2 _ _ _ _ _
   | exact ack_Known.mono _ _
   | exact ack_Read.mono _ _
   | exact lamplighterlaw10_alive.mono _
   | exact msh_Write.mono _ _ _ _ _ _ _ _ _ _ _ _ _ _ _ _
   | exact LeO.none _
   | refine LeO.ite ?_ ?_
   | refine LeO.bind ?_ (fun _=>?_)
  ·intro y0 y1 y2 y3 y4
   unfold lamplighterlaw10_AckForms.j2
   repeat' first
   | (with_reducible exact ih0 _ _ _ _ _ _ _ _ _ _ _ _ _ _ _ _ _ _)
   | (with_reducible exact ih1 _ _ _ _ _ _ _ _ _ _ _ _ _ _ _ _ _ _ _)
   | (with_reducible exact ih2 _ _ _ _ _)
   | (with_reducible exact ack_Known.mono _ _)
   | (with_reducible exact ack_Read.mono _ _)
   | (with_reducible exact lamplighterlaw10_alive.mono _)
   | (with_reducible exact msh_Write.mono _ _ _ _ _ _ _ _ _ _ _ _ _ _ _ _)
   | (with_reducible exact LeO.refl _)
   | (with_reducible exact LeO.none _)
   | (with_reducible refine LeO.ite ?_ ?_)
   | (with_reducible refine LeO.bind ?_ (fun _=>?_))
   | exact ih0 _ _ _ _ _ _ _ _ _ _ _ _ _ _ _ _ _ _
   | exact ih1 _ _ _ _ _ _ _ _ _ _ _ _ _ _ _ _ _ _ _
   | exact ih2 _ _ _ _ _
   | exact ack_Known.mono _ _
   | exact ack_Read.mono _ _
   | exact lamplighterlaw10_alive.mono _
   | exact msh_Write.mono _ _ _ _ _ _ _ _ _ _ _ _ _ _ _ _
   | exact LeO.none _
   | refine LeO.ite ?_ ?_
   | refine LeO.bind ?_ (fun _=>?_)
theorem lamplighterlaw10_AckForms.mono : ∀ a0 a1 a2 a3 a4 a5 a6 a7 a8 a9 a10 a11 a12 a13 a14 a15 k,LeO (lamplighterlaw10_AckForms.f k a0 a1 a2 a3 a4 a5 a6 a7 a8 a9 a10 a11 a12 a13 a14 a15) (lamplighterlaw10_AckForms.f (k + 1) a0 a1 a2 a3 a4 a5 a6 a7 a8 a9 a10 a11 a12 a13 a14 a15):=by
 intro a0 a1 a2 a3 a4 a5 a6 a7 a8 a9 a10 a11 a12 a13 a14 a15 k
 obtain ⟨ih0,ih1,ih2⟩:=lamplighterlaw10_AckForms.mono_l k
 unfold lamplighterlaw10_AckForms.f
 repeat' first
   | (with_reducible exact ih0 _ _ _ _ _ _ _ _ _ _ _ _ _ _ _ _ _ _)
   | (with_reducible exact ih1 _ _ _ _ _ _ _ _ _ _ _ _ _ _ _ _ _ _ _)
   | (with_reducible exact ih2 _ _ _ _ _)
   | (with_reducible exact ack_Known.mono _ _)
   | (with_reducible exact ack_Read.mono _ _)
   | (with_reducible exact lamplighterlaw10_alive.mono _)
   | (with_reducible exact msh_Write.mono _ _ _ _ _ _ _ _ _ _ _ _ _ _ _ _)
   | (with_reducible exact LeO.refl _)
   | (with_reducible exact LeO.none _)
   | (with_reducible refine LeO.ite ?_ ?_)
   | (with_reducible refine LeO.bind ?_ (fun _=>?_))
   | exact ih0 _ _ _ _ _ _ _ _ _ _ _ _ _ _ _ _ _ _
   | exact ih1 _ _ _ _ _ _ _ _ _ _ _ _ _ _ _ _ _ _ _
   | exact ih2 _ _ _ _ _
   | exact ack_Known.mono _ _
   | exact ack_Read.mono _ _
   | exact lamplighterlaw10_alive.mono _
   | exact msh_Write.mono _ _ _ _ _ _ _ _ _ _ _ _ _ _ _ _
   | exact LeO.none _
   | refine LeO.ite ?_ ?_
   | refine LeO.bind ?_ (fun _=>?_)
theorem lamplighterlaw10_AckForms.calls (k : Nat) (a0_0 : Int) (a0_1 : Int) (a0_2 : Int) (a0_3 : Int) (a0_4 : Int) (a0_5 : ByteArray) (a0_6 : ByteArray) (a0_7 : ByteArray) (a0_8 : ByteArray) (a0_9 : ByteArray) (a0_10 : ByteArray) (a0_11 : ByteArray) (a0_12 : ByteArray) (a0_13 : ByteArray) (a0_14 : ByteArray) (a1 : ByteArray) (r : Bool) (w : World) (h : lamplighterlaw10_AckForms.f k a0_0 a0_1 a0_2 a0_3 a0_4 a0_5 a0_6 a0_7 a0_8 a0_9 a0_10 a0_11 a0_12 a0_13 a0_14 a1=some r) (hrt : r=true) (hGC : GlobC w) :
  Calls Tryd.prog 7 #[.agg #[.int .u8 a0_0, .int .u8 a0_1, .int .u8 a0_2, .int .u8 a0_3, .int .u8 a0_4, .string a0_5, .string a0_6, .string a0_7, .string a0_8, .string a0_9, .string a0_10, .string a0_11, .string a0_12, .string a0_13, .string a0_14], .string a1] w fun e w'=>e = .returned (.bool r)∧Below w.heap.size w w':=by
 have HGLOC:=Lib.hid hGC
 clear hGC
 have hu25:=Tryd.underlying25
 have hu45:=Tryd.underlying45
 have HB:=Aside0.mk (Below.refl w.heap.size w)
 have H : ((msh_Write.f k a0_0 a0_1 a0_2 a0_3 a0_4 a0_5 a0_6 a0_7 a0_8 a0_9 a0_10 a0_11 a0_12 a0_13 a0_14).bind fun bt348=>(if bt348.2=0 then ((lamplighterlaw10_great.f a0_0 a0_1 a0_2 a0_3 a0_4 a0_5 a0_6 a0_7 a0_8 a0_9 a0_10 a0_11 a0_12 a0_13 a0_14).bind fun t350=>(if t350=true then (lamplighterlaw10_AckForms.j0 k a1 bt348.1 true a0_0 a0_1 a0_2 a0_3 a0_4 a0_5 a0_6 a0_7 a0_8 a0_9 a0_10 a0_11 a0_12 a0_13 a0_14) else (lamplighterlaw10_AckForms.j0 k a1 bt348.1 (decide ((a1.size : Int) > 100)) a0_0 a0_1 a0_2 a0_3 a0_4 a0_5 a0_6 a0_7 a0_8 a0_9 a0_10 a0_11 a0_12 a0_13 a0_14))) else (lamplighterlaw10_AckForms.j0 k a1 bt348.1 true a0_0 a0_1 a0_2 a0_3 a0_4 a0_5 a0_6 a0_7 a0_8 a0_9 a0_10 a0_11 a0_12 a0_13 a0_14)))=some r:=h
 clear h
 replace H:=Option.bind_eq_some_iff.mp H
 obtain ⟨⟨t348,t349⟩,A30,H⟩:=H
 replace H : (if t349=0 then ((lamplighterlaw10_great.f a0_0 a0_1 a0_2 a0_3 a0_4 a0_5 a0_6 a0_7 a0_8 a0_9 a0_10 a0_11 a0_12 a0_13 a0_14).bind fun t350=>(if t350=true then (lamplighterlaw10_AckForms.j0 k a1 t348 true a0_0 a0_1 a0_2 a0_3 a0_4 a0_5 a0_6 a0_7 a0_8 a0_9 a0_10 a0_11 a0_12 a0_13 a0_14) else (lamplighterlaw10_AckForms.j0 k a1 t348 (decide ((a1.size : Int) > 100)) a0_0 a0_1 a0_2 a0_3 a0_4 a0_5 a0_6 a0_7 a0_8 a0_9 a0_10 a0_11 a0_12 a0_13 a0_14))) else (lamplighterlaw10_AckForms.j0 k a1 t348 true a0_0 a0_1 a0_2 a0_3 a0_4 a0_5 a0_6 a0_7 a0_8 a0_9 a0_10 a0_11 a0_12 a0_13 a0_14))=some r:=H
 have A3:=Aside0.mk A30
 clear A30
 have HC4:=Aside0.mk H
 clear H
 go_enter Tryd.func7,Tryd.ntmps7
 go_upto_region 2 with (first | ((with_reducible refine gate_dst (N:=2) rfl ?_); (try (refine gate_guard (by rfl) ?_; dsimp only)); refine box_event ?hg (N:=2) ?hd (cs:=#[.int .u8 a0_0, .int .u8 a0_1, .int .u8 a0_2, .int .u8 a0_3, .int .u8 a0_4, .string a0_5, .string a0_6, .string a0_7, .string a0_8, .string a0_9, .string a0_10, .string a0_11, .string a0_12, .string a0_13, .string a0_14]) (t:=25) ?hr ?_; (case hd=>rfl); (case hg=>rfl); (case hr=>first | (go_simp; done) | (go_simp; rfl)); intro gb347 hg w5 hbox hb; have n0_:=Aside0.mk (below_step (by repeat (first | (with_reducible first | exact HB.out | apply bA | apply bN | apply bD) | exact HB.out)) hb); have n1_:=Aside0.mk (hbox); have n2_:=Aside0.mk ((by rw [hg]; exact (below_size (by repeat (first | (with_reducible first | exact HB.out | apply bA | apply bN | apply bD) | exact HB.out))) : w.heap.size≤gb347)); have n3_:=Aside0.mk ((by rw [hg]; exact (below_size (by repeat (first | (with_reducible first | exact HB.out | apply bA | apply bN | apply bD) | exact HB.out))) : w.heap.size≤gb347)); clear HB; have HB:=n0_; have BK347:=n1_; have GW347:=n2_; have GE347:=n3_; clear n0_ n1_ n2_ n3_; clear hb hbox hg; have hcz6_0:w5.cell? ⟨gb347,0,none⟩=some (.int .u8 a0_0):=blk_cell BK347.out 0; have hcz6_1:w5.cell? ⟨gb347,1,none⟩=some (.int .u8 a0_1):=blk_cell BK347.out 1; have hcz6_2:w5.cell? ⟨gb347,2,none⟩=some (.int .u8 a0_2):=blk_cell BK347.out 2; have hcz6_3:w5.cell? ⟨gb347,3,none⟩=some (.int .u8 a0_3):=blk_cell BK347.out 3; have hcz6_4:w5.cell? ⟨gb347,4,none⟩=some (.int .u8 a0_4):=blk_cell BK347.out 4; have hcz6_5:w5.cell? ⟨gb347,5,none⟩=some (.string a0_5):=blk_cell BK347.out 5; have hcz6_6:w5.cell? ⟨gb347,6,none⟩=some (.string a0_6):=blk_cell BK347.out 6; have hcz6_7:w5.cell? ⟨gb347,7,none⟩=some (.string a0_7):=blk_cell BK347.out 7; have hcz6_8:w5.cell? ⟨gb347,8,none⟩=some (.string a0_8):=blk_cell BK347.out 8; have hcz6_9:w5.cell? ⟨gb347,9,none⟩=some (.string a0_9):=blk_cell BK347.out 9; have hcz6_10:w5.cell? ⟨gb347,10,none⟩=some (.string a0_10):=blk_cell BK347.out 10; have hcz6_11:w5.cell? ⟨gb347,11,none⟩=some (.string a0_11):=blk_cell BK347.out 11; have hcz6_12:w5.cell? ⟨gb347,12,none⟩=some (.string a0_12):=blk_cell BK347.out 12; have hcz6_13:w5.cell? ⟨gb347,13,none⟩=some (.string a0_13):=blk_cell BK347.out 13; have hcz6_14:w5.cell? ⟨gb347,14,none⟩=some (.string a0_14):=blk_cell BK347.out 14; have hfz6_0:=blk_frozen BK347.out 0; have hfz6_1:=blk_frozen BK347.out 1; have hfz6_2:=blk_frozen BK347.out 2; have hfz6_3:=blk_frozen BK347.out 3; have hfz6_4:=blk_frozen BK347.out 4; have hfz6_5:=blk_frozen BK347.out 5; have hfz6_6:=blk_frozen BK347.out 6; have hfz6_7:=blk_frozen BK347.out 7; have hfz6_8:=blk_frozen BK347.out 8; have hfz6_9:=blk_frozen BK347.out 9; have hfz6_10:=blk_frozen BK347.out 10; have hfz6_11:=blk_frozen BK347.out 11; have hfz6_12:=blk_frozen BK347.out 12; have hfz6_13:=blk_frozen BK347.out 13; have hfz6_14:=blk_frozen BK347.out 14) | (go_at_call 11; (with_reducible refine (msh_Write.calls k a0_0 a0_1 a0_2 a0_3 a0_4 a0_5 a0_6 a0_7 a0_8 a0_9 a0_10 a0_11 a0_12 a0_13 a0_14 t348 t349 _ A3.out).mono ?_); rintro e w7 ⟨rfl,hb⟩; have n0_:=Aside0.mk (blk_below (g:=gb347) (o := .cells #[.int .u8 a0_0, .int .u8 a0_1, .int .u8 a0_2, .int .u8 a0_3, .int .u8 a0_4, .string a0_5, .string a0_6, .string a0_7, .string a0_8, .string a0_9, .string a0_10, .string a0_11, .string a0_12, .string a0_13, .string a0_14] 25 (0,0)) (by (with_reducible repeat (first | refine kN ?_ _ | refine kD ?_ | refine kA ?_ _)); exact BK347.out) hb); have n1_:=Aside0.mk (below_step (by repeat (first | (with_reducible first | exact HB.out | apply bA | apply bN | apply bD | refine below_set ?_ GE347.out) | exact HB.out)) hb); clear BK347; clear HB; have BK347:=n0_; have HB:=n1_; clear n0_ n1_; (try clear hb)))
 (try simp only [Act.put,sA_,s0_,s1_])
 go_cut [30] (fun v30 wc => ∃ (kq : Nat) (x30_3 : Bool),v30 = .bool x30_3∧Aside0 (lamplighterlaw10_AckForms.j0 kq a1 t348 x30_3 a0_0 a0_1 a0_2 a0_3 a0_4 a0_5 a0_6 a0_7 a0_8 a0_9 a0_10 a0_11 a0_12 a0_13 a0_14=some r)∧Aside0 (kq≤k)∧Aside0 (wc.heap[gb347]?=some (.cells #[.int .u8 a0_0, .int .u8 a0_1, .int .u8 a0_2, .int .u8 a0_3, .int .u8 a0_4, .string a0_5, .string a0_6, .string a0_7, .string a0_8, .string a0_9, .string a0_10, .string a0_11, .string a0_12, .string a0_13, .string a0_14] 25 (0,0)))∧Aside0 (Below w.heap.size w wc))
 case first =>
  have H:=HC4.out
  clear HC4
  by_cases c8 : t349=0
  ·rw [if_pos c8] at H
   have c8b0 : (t349 == 0)=true:=beq_iff_eq.mpr c8
   have c8b1 : (t349 != 0)=false:=bne_eq_false_iff_eq.mpr c8
   clear c8
   (first | rw [c8b0] | (simp only [i64_w,i32_w]; rw [c8b0]) | skip)
   replace H:=Option.bind_eq_some_iff.mp H
   obtain ⟨t350,A90,H⟩:=H
   replace H : (if t350=true then (lamplighterlaw10_AckForms.j0 k a1 t348 true a0_0 a0_1 a0_2 a0_3 a0_4 a0_5 a0_6 a0_7 a0_8 a0_9 a0_10 a0_11 a0_12 a0_13 a0_14) else (lamplighterlaw10_AckForms.j0 k a1 t348 (decide ((a1.size : Int) > 100)) a0_0 a0_1 a0_2 a0_3 a0_4 a0_5 a0_6 a0_7 a0_8 a0_9 a0_10 a0_11 a0_12 a0_13 a0_14))=some r:=H
   have A9:=Aside0.mk A90
   clear A90
   by_cases c10 : t350=true
   ·subst c10
    have H1 : (lamplighterlaw10_AckForms.j0 k a1 t348 true a0_0 a0_1 a0_2 a0_3 a0_4 a0_5 a0_6 a0_7 a0_8 a0_9 a0_10 a0_11 a0_12 a0_13 a0_14)=some r:=by rw [if_pos rfl] at H; exact H
    clear H
    have H:=H1
    clear H1
    have H':=Aside0.mk H
    clear H
    have hcz11_0:w7.cell? ⟨gb347,0,none⟩=some (.int .u8 a0_0):=blk_cell BK347.out 0
    have hcz11_1:w7.cell? ⟨gb347,1,none⟩=some (.int .u8 a0_1):=blk_cell BK347.out 1
    have hcz11_2:w7.cell? ⟨gb347,2,none⟩=some (.int .u8 a0_2):=blk_cell BK347.out 2
    have hcz11_3:w7.cell? ⟨gb347,3,none⟩=some (.int .u8 a0_3):=blk_cell BK347.out 3
    have hcz11_4:w7.cell? ⟨gb347,4,none⟩=some (.int .u8 a0_4):=blk_cell BK347.out 4
    have hcz11_5:w7.cell? ⟨gb347,5,none⟩=some (.string a0_5):=blk_cell BK347.out 5
    have hcz11_6:w7.cell? ⟨gb347,6,none⟩=some (.string a0_6):=blk_cell BK347.out 6
    have hcz11_7:w7.cell? ⟨gb347,7,none⟩=some (.string a0_7):=blk_cell BK347.out 7
    have hcz11_8:w7.cell? ⟨gb347,8,none⟩=some (.string a0_8):=blk_cell BK347.out 8
    have hcz11_9:w7.cell? ⟨gb347,9,none⟩=some (.string a0_9):=blk_cell BK347.out 9
    have hcz11_10:w7.cell? ⟨gb347,10,none⟩=some (.string a0_10):=blk_cell BK347.out 10
    have hcz11_11:w7.cell? ⟨gb347,11,none⟩=some (.string a0_11):=blk_cell BK347.out 11
    have hcz11_12:w7.cell? ⟨gb347,12,none⟩=some (.string a0_12):=blk_cell BK347.out 12
    have hcz11_13:w7.cell? ⟨gb347,13,none⟩=some (.string a0_13):=blk_cell BK347.out 13
    have hcz11_14:w7.cell? ⟨gb347,14,none⟩=some (.string a0_14):=blk_cell BK347.out 14
    have hfz11_0:=blk_frozen BK347.out 0
    have hfz11_1:=blk_frozen BK347.out 1
    have hfz11_2:=blk_frozen BK347.out 2
    have hfz11_3:=blk_frozen BK347.out 3
    have hfz11_4:=blk_frozen BK347.out 4
    have hfz11_5:=blk_frozen BK347.out 5
    have hfz11_6:=blk_frozen BK347.out 6
    have hfz11_7:=blk_frozen BK347.out 7
    have hfz11_8:=blk_frozen BK347.out 8
    have hfz11_9:=blk_frozen BK347.out 9
    have hfz11_10:=blk_frozen BK347.out 10
    have hfz11_11:=blk_frozen BK347.out 11
    have hfz11_12:=blk_frozen BK347.out 12
    have hfz11_13:=blk_frozen BK347.out 13
    have hfz11_14:=blk_frozen BK347.out 14
    go_wp2_with (first | (go_at_call 22; (with_reducible refine (lamplighterlaw10_great.calls a0_0 a0_1 a0_2 a0_3 a0_4 a0_5 a0_6 a0_7 a0_8 a0_9 a0_10 a0_11 a0_12 a0_13 a0_14 true _ A9.out).mono ?_); rintro e w12 ⟨rfl,hb⟩; have n0_:=Aside0.mk (blk_below (g:=gb347) (o := .cells #[.int .u8 a0_0, .int .u8 a0_1, .int .u8 a0_2, .int .u8 a0_3, .int .u8 a0_4, .string a0_5, .string a0_6, .string a0_7, .string a0_8, .string a0_9, .string a0_10, .string a0_11, .string a0_12, .string a0_13, .string a0_14] 25 (0,0)) (by (with_reducible repeat (first | refine kN ?_ _ | refine kD ?_ | refine kA ?_ _)); exact BK347.out) hb); have n1_:=Aside0.mk (below_step (by repeat (first | (with_reducible first | exact HB.out | apply bA | apply bN | apply bD | refine below_set ?_ GE347.out) | exact HB.out)) hb); clear BK347; clear HB; have BK347:=n0_; have HB:=n1_; clear n0_ n1_; (try clear hb)))
    repeat (go_quiet (first | (go_at_call 22; (with_reducible refine (lamplighterlaw10_great.calls a0_0 a0_1 a0_2 a0_3 a0_4 a0_5 a0_6 a0_7 a0_8 a0_9 a0_10 a0_11 a0_12 a0_13 a0_14 true _ A9.out).mono ?_); rintro e w12 ⟨rfl,hb⟩; have n0_:=Aside0.mk (blk_below (g:=gb347) (o := .cells #[.int .u8 a0_0, .int .u8 a0_1, .int .u8 a0_2, .int .u8 a0_3, .int .u8 a0_4, .string a0_5, .string a0_6, .string a0_7, .string a0_8, .string a0_9, .string a0_10, .string a0_11, .string a0_12, .string a0_13, .string a0_14] 25 (0,0)) (by (with_reducible repeat (first | refine kN ?_ _ | refine kD ?_ | refine kA ?_ _)); exact BK347.out) hb); have n1_:=Aside0.mk (below_step (by repeat (first | (with_reducible first | exact HB.out | apply bA | apply bN | apply bD | refine below_set ?_ GE347.out) | exact HB.out)) hb); clear BK347; clear HB; have BK347:=n0_; have HB:=n1_; clear n0_ n1_; (try clear hb))); try go_wp2_with (first | (go_at_call 22; (with_reducible refine (lamplighterlaw10_great.calls a0_0 a0_1 a0_2 a0_3 a0_4 a0_5 a0_6 a0_7 a0_8 a0_9 a0_10 a0_11 a0_12 a0_13 a0_14 true _ A9.out).mono ?_); rintro e w12 ⟨rfl,hb⟩; have n0_:=Aside0.mk (blk_below (g:=gb347) (o := .cells #[.int .u8 a0_0, .int .u8 a0_1, .int .u8 a0_2, .int .u8 a0_3, .int .u8 a0_4, .string a0_5, .string a0_6, .string a0_7, .string a0_8, .string a0_9, .string a0_10, .string a0_11, .string a0_12, .string a0_13, .string a0_14] 25 (0,0)) (by (with_reducible repeat (first | refine kN ?_ _ | refine kD ?_ | refine kA ?_ _)); exact BK347.out) hb); have n1_:=Aside0.mk (below_step (by repeat (first | (with_reducible first | exact HB.out | apply bA | apply bN | apply bD | refine below_set ?_ GE347.out) | exact HB.out)) hb); clear BK347; clear HB; have BK347:=n0_; have HB:=n1_; clear n0_ n1_; (try clear hb))))
    go_meet
    case rel=>exact ⟨_,(true),(by first | rfl | (simp; done) | (simp [*]; done)),H',⟨by first | omega | exact Nat.le_refl _⟩,⟨by (with_reducible repeat (first | refine kN ?_ _ | refine kD ?_ | refine kA ?_ _)); exact BK347.out⟩,⟨by repeat (first | (with_reducible first | exact HB.out | apply bA | apply bN | apply bD | refine below_set ?_ GE347.out) | exact HB.out)⟩⟩
   ·replace c10:=Bool.eq_false_iff.mpr c10
    subst c10
    have H1 : (lamplighterlaw10_AckForms.j0 k a1 t348 (decide ((a1.size : Int) > 100)) a0_0 a0_1 a0_2 a0_3 a0_4 a0_5 a0_6 a0_7 a0_8 a0_9 a0_10 a0_11 a0_12 a0_13 a0_14)=some r:=by rw [if_neg (show ¬ (false=true) by decide)] at H; exact H
    clear H
    have H:=H1
    clear H1
    have H':=Aside0.mk H
    clear H
    have hcz13_0:w7.cell? ⟨gb347,0,none⟩=some (.int .u8 a0_0):=blk_cell BK347.out 0
    have hcz13_1:w7.cell? ⟨gb347,1,none⟩=some (.int .u8 a0_1):=blk_cell BK347.out 1
    have hcz13_2:w7.cell? ⟨gb347,2,none⟩=some (.int .u8 a0_2):=blk_cell BK347.out 2
    have hcz13_3:w7.cell? ⟨gb347,3,none⟩=some (.int .u8 a0_3):=blk_cell BK347.out 3
    have hcz13_4:w7.cell? ⟨gb347,4,none⟩=some (.int .u8 a0_4):=blk_cell BK347.out 4
    have hcz13_5:w7.cell? ⟨gb347,5,none⟩=some (.string a0_5):=blk_cell BK347.out 5
    have hcz13_6:w7.cell? ⟨gb347,6,none⟩=some (.string a0_6):=blk_cell BK347.out 6
    have hcz13_7:w7.cell? ⟨gb347,7,none⟩=some (.string a0_7):=blk_cell BK347.out 7
    have hcz13_8:w7.cell? ⟨gb347,8,none⟩=some (.string a0_8):=blk_cell BK347.out 8
    have hcz13_9:w7.cell? ⟨gb347,9,none⟩=some (.string a0_9):=blk_cell BK347.out 9
    have hcz13_10:w7.cell? ⟨gb347,10,none⟩=some (.string a0_10):=blk_cell BK347.out 10
    have hcz13_11:w7.cell? ⟨gb347,11,none⟩=some (.string a0_11):=blk_cell BK347.out 11
    have hcz13_12:w7.cell? ⟨gb347,12,none⟩=some (.string a0_12):=blk_cell BK347.out 12
    have hcz13_13:w7.cell? ⟨gb347,13,none⟩=some (.string a0_13):=blk_cell BK347.out 13
    have hcz13_14:w7.cell? ⟨gb347,14,none⟩=some (.string a0_14):=blk_cell BK347.out 14
    have hfz13_0:=blk_frozen BK347.out 0
    have hfz13_1:=blk_frozen BK347.out 1
    have hfz13_2:=blk_frozen BK347.out 2
    have hfz13_3:=blk_frozen BK347.out 3
    have hfz13_4:=blk_frozen BK347.out 4
    have hfz13_5:=blk_frozen BK347.out 5
    have hfz13_6:=blk_frozen BK347.out 6
    have hfz13_7:=blk_frozen BK347.out 7
    have hfz13_8:=blk_frozen BK347.out 8
    have hfz13_9:=blk_frozen BK347.out 9
    have hfz13_10:=blk_frozen BK347.out 10
    have hfz13_11:=blk_frozen BK347.out 11
    have hfz13_12:=blk_frozen BK347.out 12
    have hfz13_13:=blk_frozen BK347.out 13
    have hfz13_14:=blk_frozen BK347.out 14
    go_wp2_with (first | (go_at_call 22; (with_reducible refine (lamplighterlaw10_great.calls a0_0 a0_1 a0_2 a0_3 a0_4 a0_5 a0_6 a0_7 a0_8 a0_9 a0_10 a0_11 a0_12 a0_13 a0_14 false _ A9.out).mono ?_); rintro e w14 ⟨rfl,hb⟩; have n0_:=Aside0.mk (blk_below (g:=gb347) (o := .cells #[.int .u8 a0_0, .int .u8 a0_1, .int .u8 a0_2, .int .u8 a0_3, .int .u8 a0_4, .string a0_5, .string a0_6, .string a0_7, .string a0_8, .string a0_9, .string a0_10, .string a0_11, .string a0_12, .string a0_13, .string a0_14] 25 (0,0)) (by (with_reducible repeat (first | refine kN ?_ _ | refine kD ?_ | refine kA ?_ _)); exact BK347.out) hb); have n1_:=Aside0.mk (below_step (by repeat (first | (with_reducible first | exact HB.out | apply bA | apply bN | apply bD | refine below_set ?_ GE347.out) | exact HB.out)) hb); clear BK347; clear HB; have BK347:=n0_; have HB:=n1_; clear n0_ n1_; (try clear hb)))
    repeat (go_quiet (first | (go_at_call 22; (with_reducible refine (lamplighterlaw10_great.calls a0_0 a0_1 a0_2 a0_3 a0_4 a0_5 a0_6 a0_7 a0_8 a0_9 a0_10 a0_11 a0_12 a0_13 a0_14 false _ A9.out).mono ?_); rintro e w14 ⟨rfl,hb⟩; have n0_:=Aside0.mk (blk_below (g:=gb347) (o := .cells #[.int .u8 a0_0, .int .u8 a0_1, .int .u8 a0_2, .int .u8 a0_3, .int .u8 a0_4, .string a0_5, .string a0_6, .string a0_7, .string a0_8, .string a0_9, .string a0_10, .string a0_11, .string a0_12, .string a0_13, .string a0_14] 25 (0,0)) (by (with_reducible repeat (first | refine kN ?_ _ | refine kD ?_ | refine kA ?_ _)); exact BK347.out) hb); have n1_:=Aside0.mk (below_step (by repeat (first | (with_reducible first | exact HB.out | apply bA | apply bN | apply bD | refine below_set ?_ GE347.out) | exact HB.out)) hb); clear BK347; clear HB; have BK347:=n0_; have HB:=n1_; clear n0_ n1_; (try clear hb))); try go_wp2_with (first | (go_at_call 22; (with_reducible refine (lamplighterlaw10_great.calls a0_0 a0_1 a0_2 a0_3 a0_4 a0_5 a0_6 a0_7 a0_8 a0_9 a0_10 a0_11 a0_12 a0_13 a0_14 false _ A9.out).mono ?_); rintro e w14 ⟨rfl,hb⟩; have n0_:=Aside0.mk (blk_below (g:=gb347) (o := .cells #[.int .u8 a0_0, .int .u8 a0_1, .int .u8 a0_2, .int .u8 a0_3, .int .u8 a0_4, .string a0_5, .string a0_6, .string a0_7, .string a0_8, .string a0_9, .string a0_10, .string a0_11, .string a0_12, .string a0_13, .string a0_14] 25 (0,0)) (by (with_reducible repeat (first | refine kN ?_ _ | refine kD ?_ | refine kA ?_ _)); exact BK347.out) hb); have n1_:=Aside0.mk (below_step (by repeat (first | (with_reducible first | exact HB.out | apply bA | apply bN | apply bD | refine below_set ?_ GE347.out) | exact HB.out)) hb); clear BK347; clear HB; have BK347:=n0_; have HB:=n1_; clear n0_ n1_; (try clear hb))))
    go_meet
    case rel=>exact ⟨_,(decide ((a1.size : Int) > 100)),(by first | rfl | (simp; done) | (simp [*]; done)),H',⟨by first | omega | exact Nat.le_refl _⟩,⟨by (with_reducible repeat (first | refine kN ?_ _ | refine kD ?_ | refine kA ?_ _)); exact BK347.out⟩,⟨by repeat (first | (with_reducible first | exact HB.out | apply bA | apply bN | apply bD | refine below_set ?_ GE347.out) | exact HB.out)⟩⟩
  ·rw [if_neg c8] at H
   have c8b0 : (t349 == 0)=false:=beq_eq_false_iff_ne.mpr c8
   have c8b1 : (t349 != 0)=true:=bne_iff_ne.mpr c8
   (first | rw [c8b0] | (simp only [i64_w,i32_w]; rw [c8b0]) | skip)
   have H':=Aside0.mk H
   clear H
   go_wp2
   repeat (go_quiet (fail); try go_wp2)
   go_meet
   case rel=>exact ⟨_,(true),(by first | rfl | (simp; done) | (simp [*]; done)),H',⟨by first | omega | exact Nat.le_refl _⟩,⟨by (with_reducible repeat (first | refine kN ?_ _ | refine kD ?_ | refine kA ?_ _)); exact BK347.out⟩,⟨by repeat (first | (with_reducible first | exact HB.out | apply bA | apply bN | apply bD | refine below_set ?_ GE347.out) | exact HB.out)⟩⟩
 case rest =>
  clear HC4
  try clear c1
  try clear p2
  try clear c7
  try clear c8
  try clear c8b0
  try clear c8b1
  try clear c10
  try clear hcz11_0
  try clear hcz11_1
  try clear hcz11_10
  try clear hcz11_11
  try clear hcz11_12
  try clear hcz11_13
  try clear hcz11_14
  try clear hcz11_2
  try clear hcz11_3
  try clear hcz11_4
  try clear hcz11_5
  try clear hcz11_6
  try clear hcz11_7
  try clear hcz11_8
  try clear hcz11_9
  try clear hcz13_0
  try clear hcz13_1
  try clear hcz13_10
  try clear hcz13_11
  try clear hcz13_12
  try clear hcz13_13
  try clear hcz13_14
  try clear hcz13_2
  try clear hcz13_3
  try clear hcz13_4
  try clear hcz13_5
  try clear hcz13_6
  try clear hcz13_7
  try clear hcz13_8
  try clear hcz13_9
  try clear hcz6_0
  try clear hcz6_1
  try clear hcz6_10
  try clear hcz6_11
  try clear hcz6_12
  try clear hcz6_13
  try clear hcz6_14
  try clear hcz6_2
  try clear hcz6_3
  try clear hcz6_4
  try clear hcz6_5
  try clear hcz6_6
  try clear hcz6_7
  try clear hcz6_8
  try clear hcz6_9
  try clear hfz11_0
  try clear hfz11_1
  try clear hfz11_10
  try clear hfz11_11
  try clear hfz11_12
  try clear hfz11_13
  try clear hfz11_14
  try clear hfz11_2
  try clear hfz11_3
  try clear hfz11_4
  try clear hfz11_5
  try clear hfz11_6
  try clear hfz11_7
  try clear hfz11_8
  try clear hfz11_9
  try clear hfz13_0
  try clear hfz13_1
  try clear hfz13_10
  try clear hfz13_11
  try clear hfz13_12
  try clear hfz13_13
  try clear hfz13_14
  try clear hfz13_2
  try clear hfz13_3
  try clear hfz13_4
  try clear hfz13_5
  try clear hfz13_6
  try clear hfz13_7
  try clear hfz13_8
  try clear hfz13_9
  try clear hfz6_0
  try clear hfz6_1
  try clear hfz6_10
  try clear hfz6_11
  try clear hfz6_12
  try clear hfz6_13
  try clear hfz6_14
  try clear hfz6_2
  try clear hfz6_3
  try clear hfz6_4
  try clear hfz6_5
  try clear hfz6_6
  try clear hfz6_7
  try clear hfz6_8
  try clear hfz6_9
  obtain ⟨kq,x30_3,rfl,HA,HJ3,BK347,HB⟩:=hcut
  cases kq with
  | zero=>exact absurd HA.out (by simp [lamplighterlaw10_AckForms.j0])
  | succ kj3 =>
   have H:=HA.out
   clear HA
   simp only [lamplighterlaw10_AckForms.j0] at H
   by_cases c15 : x30_3=true
   ·subst c15
    have H1 : ((lamplighterlaw10_alive.f kj3).bind fun t351=>(some t351))=some r:=by rw [if_pos rfl] at H; exact H
    clear H
    have H:=H1
    clear H1
    replace H:=Option.bind_eq_some_iff.mp H
    obtain ⟨t351,A160,H⟩:=H
    replace H : (some t351)=some r:=H
    have A16:=Aside0.mk A160
    clear A160
    obtain rfl:=Option.some.inj H
    clear hrt
    go_wp2_with (first | (go_at_call 18; (with_reducible refine (lamplighterlaw10_alive.calls kj3  t351 _ A16.out (globc_below HGLOC.out (by repeat (first | (with_reducible first | exact HB.out | apply bA | apply bN | apply bD | refine below_set ?_ GE347.out) | exact HB.out)))).mono ?_); rintro e w17 ⟨rfl,hb⟩; have n0_:=Aside0.mk (blk_below (g:=gb347) (o := .cells #[.int .u8 a0_0, .int .u8 a0_1, .int .u8 a0_2, .int .u8 a0_3, .int .u8 a0_4, .string a0_5, .string a0_6, .string a0_7, .string a0_8, .string a0_9, .string a0_10, .string a0_11, .string a0_12, .string a0_13, .string a0_14] 25 (0,0)) (by (with_reducible repeat (first | refine kN ?_ _ | refine kD ?_ | refine kA ?_ _)); exact BK347.out) hb); have n1_:=Aside0.mk (below_step (by repeat (first | (with_reducible first | exact HB.out | apply bA | apply bN | apply bD | refine below_set ?_ GE347.out) | exact HB.out)) hb); clear BK347; clear HB; have BK347:=n0_; have HB:=n1_; clear n0_ n1_; (try clear hb)))
    repeat (go_quiet (first | (go_at_call 18; (with_reducible refine (lamplighterlaw10_alive.calls kj3  t351 _ A16.out (globc_below HGLOC.out (by repeat (first | (with_reducible first | exact HB.out | apply bA | apply bN | apply bD | refine below_set ?_ GE347.out) | exact HB.out)))).mono ?_); rintro e w17 ⟨rfl,hb⟩; have n0_:=Aside0.mk (blk_below (g:=gb347) (o := .cells #[.int .u8 a0_0, .int .u8 a0_1, .int .u8 a0_2, .int .u8 a0_3, .int .u8 a0_4, .string a0_5, .string a0_6, .string a0_7, .string a0_8, .string a0_9, .string a0_10, .string a0_11, .string a0_12, .string a0_13, .string a0_14] 25 (0,0)) (by (with_reducible repeat (first | refine kN ?_ _ | refine kD ?_ | refine kA ?_ _)); exact BK347.out) hb); have n1_:=Aside0.mk (below_step (by repeat (first | (with_reducible first | exact HB.out | apply bA | apply bN | apply bD | refine below_set ?_ GE347.out) | exact HB.out)) hb); clear BK347; clear HB; have BK347:=n0_; have HB:=n1_; clear n0_ n1_; (try clear hb))); try go_wp2_with (first | (go_at_call 18; (with_reducible refine (lamplighterlaw10_alive.calls kj3  t351 _ A16.out (globc_below HGLOC.out (by repeat (first | (with_reducible first | exact HB.out | apply bA | apply bN | apply bD | refine below_set ?_ GE347.out) | exact HB.out)))).mono ?_); rintro e w17 ⟨rfl,hb⟩; have n0_:=Aside0.mk (blk_below (g:=gb347) (o := .cells #[.int .u8 a0_0, .int .u8 a0_1, .int .u8 a0_2, .int .u8 a0_3, .int .u8 a0_4, .string a0_5, .string a0_6, .string a0_7, .string a0_8, .string a0_9, .string a0_10, .string a0_11, .string a0_12, .string a0_13, .string a0_14] 25 (0,0)) (by (with_reducible repeat (first | refine kN ?_ _ | refine kD ?_ | refine kA ?_ _)); exact BK347.out) hb); have n1_:=Aside0.mk (below_step (by repeat (first | (with_reducible first | exact HB.out | apply bA | apply bN | apply bD | refine below_set ?_ GE347.out) | exact HB.out)) hb); clear BK347; clear HB; have BK347:=n0_; have HB:=n1_; clear n0_ n1_; (try clear hb))))
    go_ret
    exact ⟨by first | rfl | (simp [errW_none,errW_some] <;> rfl) | (simp [*,errW_none,errW_some] <;> rfl),by repeat (first | (with_reducible first | exact HB.out | apply bA | apply bN | apply bD | refine below_set ?_ GE347.out) | exact HB.out)⟩
   ·replace c15:=Bool.eq_false_iff.mpr c15
    subst c15
    have H1 : (lamplighterlaw10_AckForms.l0 kj3 a1 t348 (a1.size : Int) 0 a0_0 a0_1 a0_2 a0_3 a0_4 a0_5 a0_6 a0_7 a0_8 a0_9 a0_10 a0_11 a0_12 a0_13 a0_14)=some r:=by rw [if_neg (show ¬ (false=true) by decide)] at H; exact H
    clear H
    have H:=H1
    clear H1
    have H':=Aside0.mk H
    clear H
    go_wp2
    repeat (go_quiet (fail); try go_wp2)
    go_loopg [34] kj3 (fun kq v34 w' => ∃ (x34_2 : Int),v34 = .int .i64 x34_2∧Aside0 (lamplighterlaw10_AckForms.l0 kq a1 t348 (a1.size : Int) x34_2 a0_0 a0_1 a0_2 a0_3 a0_4 a0_5 a0_6 a0_7 a0_8 a0_9 a0_10 a0_11 a0_12 a0_13 a0_14=some r)∧Aside0 (kq≤kj3)∧Aside0 (w'.heap[gb347]?=some (.cells #[.int .u8 a0_0, .int .u8 a0_1, .int .u8 a0_2, .int .u8 a0_3, .int .u8 a0_4, .string a0_5, .string a0_6, .string a0_7, .string a0_8, .string a0_9, .string a0_10, .string a0_11, .string a0_12, .string a0_13, .string a0_14] 25 (0,0)))∧Aside0 (Below w.heap.size w w'))
    case atStart=>exact ⟨(0),(by first | rfl | (simp; done) | (simp [*]; done)),H',⟨Nat.le_refl _⟩,⟨by (with_reducible repeat (first | refine kN ?_ _ | refine kD ?_ | refine kA ?_ _)); exact BK347.out⟩,⟨by repeat (first | (with_reducible first | exact HB.out | apply bA | apply bN | apply bD | refine below_set ?_ GE347.out) | exact HB.out)⟩⟩
    case round =>
     clear H'
     try clear c1
     try clear p2
     try clear c7
     try clear c8
     try clear c8b0
     try clear c8b1
     try clear c10
     try clear c15
     try clear hcz11_0
     try clear hcz11_1
     try clear hcz11_10
     try clear hcz11_11
     try clear hcz11_12
     try clear hcz11_13
     try clear hcz11_14
     try clear hcz11_2
     try clear hcz11_3
     try clear hcz11_4
     try clear hcz11_5
     try clear hcz11_6
     try clear hcz11_7
     try clear hcz11_8
     try clear hcz11_9
     try clear hcz13_0
     try clear hcz13_1
     try clear hcz13_10
     try clear hcz13_11
     try clear hcz13_12
     try clear hcz13_13
     try clear hcz13_14
     try clear hcz13_2
     try clear hcz13_3
     try clear hcz13_4
     try clear hcz13_5
     try clear hcz13_6
     try clear hcz13_7
     try clear hcz13_8
     try clear hcz13_9
     try clear hcz6_0
     try clear hcz6_1
     try clear hcz6_10
     try clear hcz6_11
     try clear hcz6_12
     try clear hcz6_13
     try clear hcz6_14
     try clear hcz6_2
     try clear hcz6_3
     try clear hcz6_4
     try clear hcz6_5
     try clear hcz6_6
     try clear hcz6_7
     try clear hcz6_8
     try clear hcz6_9
     try clear hfz11_0
     try clear hfz11_1
     try clear hfz11_10
     try clear hfz11_11
     try clear hfz11_12
     try clear hfz11_13
     try clear hfz11_14
     try clear hfz11_2
     try clear hfz11_3
     try clear hfz11_4
     try clear hfz11_5
     try clear hfz11_6
     try clear hfz11_7
     try clear hfz11_8
     try clear hfz11_9
     try clear hfz13_0
     try clear hfz13_1
     try clear hfz13_10
     try clear hfz13_11
     try clear hfz13_12
     try clear hfz13_13
     try clear hfz13_14
     try clear hfz13_2
     try clear hfz13_3
     try clear hfz13_4
     try clear hfz13_5
     try clear hfz13_6
     try clear hfz13_7
     try clear hfz13_8
     try clear hfz13_9
     try clear hfz6_0
     try clear hfz6_1
     try clear hfz6_10
     try clear hfz6_11
     try clear hfz6_12
     try clear hfz6_13
     try clear hfz6_14
     try clear hfz6_2
     try clear hfz6_3
     try clear hfz6_4
     try clear hfz6_5
     try clear hfz6_6
     try clear hfz6_7
     try clear hfz6_8
     try clear hfz6_9
     try clear p2
     obtain ⟨x34_2,rfl,HA,HK2,BK347,HB⟩:=hrel
     cases gk with
     | zero=>exact absurd HA.out (by simp [lamplighterlaw10_AckForms.l0])
     | succ k2 =>
      have H:=HA.out
      clear HA
      simp only [lamplighterlaw10_AckForms.l0] at H
      by_cases c18 : x34_2 < (a1.size : Int)
      ·rw [if_pos c18] at H
       have c18b0:decide (x34_2 < (a1.size : Int))=true:=decide_eq_true c18
       clear c18
       by_cases c19 : 0≤x34_2
       ·rw [if_pos c19] at H
        have c19b0:decide (0≤x34_2)=true:=decide_eq_true c19
        clear c19
        by_cases c20 : x34_2 < (a1.size : Int)
        ·rw [if_pos c20] at H
         have c20b0:decide (x34_2 < (a1.size : Int))=true:=decide_eq_true c20
         clear c20
         by_cases c22 : (bt a1 x34_2)=13
         ·rw [if_pos c22] at H
          have c22b0 : ((bt a1 x34_2) == 13)=true:=beq_iff_eq.mpr c22
          have c22b1 : ((bt a1 x34_2) != 13)=false:=bne_eq_false_iff_eq.mpr c22
          clear c22
          replace H:=Option.bind_eq_some_iff.mp H
          obtain ⟨t352,A230,H⟩:=H
          replace H : (some t352)=some r:=H
          have A23:=Aside0.mk A230
          clear A230
          obtain rfl:=Option.some.inj H
          clear hrt
          have p21:0≤(x34_2 : Int):=of_decide_eq_true (by first | (with_reducible assumption) | assumption)
          have q21:x34_2 < (a1.size : Int):=of_decide_eq_true (by first | (with_reducible assumption) | assumption)
          have hx21:=bt_at a1 x34_2
          replace p21:=eq_true p21
          replace q21:=eq_true q21
          go_wp2_with (first | (go_at_call 18; (with_reducible refine (lamplighterlaw10_alive.calls k2  t352 _ A23.out (globc_below HGLOC.out (by repeat (first | (with_reducible first | exact HB.out | apply bA | apply bN | apply bD | refine below_set ?_ GE347.out) | exact HB.out)))).mono ?_); rintro e w24 ⟨rfl,hb⟩; have n0_:=Aside0.mk (blk_below (g:=gb347) (o := .cells #[.int .u8 a0_0, .int .u8 a0_1, .int .u8 a0_2, .int .u8 a0_3, .int .u8 a0_4, .string a0_5, .string a0_6, .string a0_7, .string a0_8, .string a0_9, .string a0_10, .string a0_11, .string a0_12, .string a0_13, .string a0_14] 25 (0,0)) (by (with_reducible repeat (first | refine kN ?_ _ | refine kD ?_ | refine kA ?_ _)); exact BK347.out) hb); have n1_:=Aside0.mk (below_step (by repeat (first | (with_reducible first | exact HB.out | apply bA | apply bN | apply bD | refine below_set ?_ GE347.out) | exact HB.out)) hb); clear BK347; clear HB; have BK347:=n0_; have HB:=n1_; clear n0_ n1_; (try clear hb)))
          repeat (go_quiet (first | (go_at_call 18; (with_reducible refine (lamplighterlaw10_alive.calls k2  t352 _ A23.out (globc_below HGLOC.out (by repeat (first | (with_reducible first | exact HB.out | apply bA | apply bN | apply bD | refine below_set ?_ GE347.out) | exact HB.out)))).mono ?_); rintro e w24 ⟨rfl,hb⟩; have n0_:=Aside0.mk (blk_below (g:=gb347) (o := .cells #[.int .u8 a0_0, .int .u8 a0_1, .int .u8 a0_2, .int .u8 a0_3, .int .u8 a0_4, .string a0_5, .string a0_6, .string a0_7, .string a0_8, .string a0_9, .string a0_10, .string a0_11, .string a0_12, .string a0_13, .string a0_14] 25 (0,0)) (by (with_reducible repeat (first | refine kN ?_ _ | refine kD ?_ | refine kA ?_ _)); exact BK347.out) hb); have n1_:=Aside0.mk (below_step (by repeat (first | (with_reducible first | exact HB.out | apply bA | apply bN | apply bD | refine below_set ?_ GE347.out) | exact HB.out)) hb); clear BK347; clear HB; have BK347:=n0_; have HB:=n1_; clear n0_ n1_; (try clear hb))); try go_wp2_with (first | (go_at_call 18; (with_reducible refine (lamplighterlaw10_alive.calls k2  t352 _ A23.out (globc_below HGLOC.out (by repeat (first | (with_reducible first | exact HB.out | apply bA | apply bN | apply bD | refine below_set ?_ GE347.out) | exact HB.out)))).mono ?_); rintro e w24 ⟨rfl,hb⟩; have n0_:=Aside0.mk (blk_below (g:=gb347) (o := .cells #[.int .u8 a0_0, .int .u8 a0_1, .int .u8 a0_2, .int .u8 a0_3, .int .u8 a0_4, .string a0_5, .string a0_6, .string a0_7, .string a0_8, .string a0_9, .string a0_10, .string a0_11, .string a0_12, .string a0_13, .string a0_14] 25 (0,0)) (by (with_reducible repeat (first | refine kN ?_ _ | refine kD ?_ | refine kA ?_ _)); exact BK347.out) hb); have n1_:=Aside0.mk (below_step (by repeat (first | (with_reducible first | exact HB.out | apply bA | apply bN | apply bD | refine below_set ?_ GE347.out) | exact HB.out)) hb); clear BK347; clear HB; have BK347:=n0_; have HB:=n1_; clear n0_ n1_; (try clear hb))))
          go_ret
          exact ⟨by first | rfl | (simp [errW_none,errW_some] <;> rfl) | (simp [*,errW_none,errW_some] <;> rfl),by repeat (first | (with_reducible first | exact HB.out | apply bA | apply bN | apply bD | refine below_set ?_ GE347.out) | exact HB.out)⟩
         ·rw [if_neg c22] at H
          have c22b0 : ((bt a1 x34_2) == 13)=false:=beq_eq_false_iff_ne.mpr c22
          have c22b1 : ((bt a1 x34_2) != 13)=true:=bne_iff_ne.mpr c22
          by_cases c26 : (bt a1 x34_2)=a0_0
          ·rw [if_pos c26] at H
           have c26b0 : ((bt a1 x34_2) == a0_0)=true:=beq_iff_eq.mpr c26
           have c26b1 : ((bt a1 x34_2) != a0_0)=false:=bne_eq_false_iff_eq.mpr c26
           clear c26
           replace H:=Option.bind_eq_some_iff.mp H
           obtain ⟨t353,A270,H⟩:=H
           replace H : (some t353)=some r:=H
           have A27:=Aside0.mk A270
           clear A270
           obtain rfl:=Option.some.inj H
           clear hrt
           have p21:0≤(x34_2 : Int):=of_decide_eq_true (by first | (with_reducible assumption) | assumption)
           have q21:x34_2 < (a1.size : Int):=of_decide_eq_true (by first | (with_reducible assumption) | assumption)
           have hx21:=bt_at a1 x34_2
           replace p21:=eq_true p21
           replace q21:=eq_true q21
           have p25:0≤(x34_2 : Int):=of_decide_eq_true (by first | (with_reducible assumption) | assumption)
           have q25:x34_2 < (a1.size : Int):=of_decide_eq_true (by first | (with_reducible assumption) | assumption)
           have hx25:=bt_at a1 x34_2
           replace p25:=eq_true p25
           replace q25:=eq_true q25
           have hcz28_0:wr.cell? ⟨gb347,0,none⟩=some (.int .u8 a0_0):=blk_cell BK347.out 0
           have hcz28_1:wr.cell? ⟨gb347,1,none⟩=some (.int .u8 a0_1):=blk_cell BK347.out 1
           have hcz28_2:wr.cell? ⟨gb347,2,none⟩=some (.int .u8 a0_2):=blk_cell BK347.out 2
           have hcz28_3:wr.cell? ⟨gb347,3,none⟩=some (.int .u8 a0_3):=blk_cell BK347.out 3
           have hcz28_4:wr.cell? ⟨gb347,4,none⟩=some (.int .u8 a0_4):=blk_cell BK347.out 4
           have hcz28_5:wr.cell? ⟨gb347,5,none⟩=some (.string a0_5):=blk_cell BK347.out 5
           have hcz28_6:wr.cell? ⟨gb347,6,none⟩=some (.string a0_6):=blk_cell BK347.out 6
           have hcz28_7:wr.cell? ⟨gb347,7,none⟩=some (.string a0_7):=blk_cell BK347.out 7
           have hcz28_8:wr.cell? ⟨gb347,8,none⟩=some (.string a0_8):=blk_cell BK347.out 8
           have hcz28_9:wr.cell? ⟨gb347,9,none⟩=some (.string a0_9):=blk_cell BK347.out 9
           have hcz28_10:wr.cell? ⟨gb347,10,none⟩=some (.string a0_10):=blk_cell BK347.out 10
           have hcz28_11:wr.cell? ⟨gb347,11,none⟩=some (.string a0_11):=blk_cell BK347.out 11
           have hcz28_12:wr.cell? ⟨gb347,12,none⟩=some (.string a0_12):=blk_cell BK347.out 12
           have hcz28_13:wr.cell? ⟨gb347,13,none⟩=some (.string a0_13):=blk_cell BK347.out 13
           have hcz28_14:wr.cell? ⟨gb347,14,none⟩=some (.string a0_14):=blk_cell BK347.out 14
           have hfz28_0:=blk_frozen BK347.out 0
           have hfz28_1:=blk_frozen BK347.out 1
           have hfz28_2:=blk_frozen BK347.out 2
           have hfz28_3:=blk_frozen BK347.out 3
           have hfz28_4:=blk_frozen BK347.out 4
           have hfz28_5:=blk_frozen BK347.out 5
           have hfz28_6:=blk_frozen BK347.out 6
           have hfz28_7:=blk_frozen BK347.out 7
           have hfz28_8:=blk_frozen BK347.out 8
           have hfz28_9:=blk_frozen BK347.out 9
           have hfz28_10:=blk_frozen BK347.out 10
           have hfz28_11:=blk_frozen BK347.out 11
           have hfz28_12:=blk_frozen BK347.out 12
           have hfz28_13:=blk_frozen BK347.out 13
           have hfz28_14:=blk_frozen BK347.out 14
           go_wp2_with (first | (go_at_call 18; (with_reducible refine (lamplighterlaw10_alive.calls k2  t353 _ A27.out (globc_below HGLOC.out (by repeat (first | (with_reducible first | exact HB.out | apply bA | apply bN | apply bD | refine below_set ?_ GE347.out) | exact HB.out)))).mono ?_); rintro e w29 ⟨rfl,hb⟩; have n0_:=Aside0.mk (blk_below (g:=gb347) (o := .cells #[.int .u8 a0_0, .int .u8 a0_1, .int .u8 a0_2, .int .u8 a0_3, .int .u8 a0_4, .string a0_5, .string a0_6, .string a0_7, .string a0_8, .string a0_9, .string a0_10, .string a0_11, .string a0_12, .string a0_13, .string a0_14] 25 (0,0)) (by (with_reducible repeat (first | refine kN ?_ _ | refine kD ?_ | refine kA ?_ _)); exact BK347.out) hb); have n1_:=Aside0.mk (below_step (by repeat (first | (with_reducible first | exact HB.out | apply bA | apply bN | apply bD | refine below_set ?_ GE347.out) | exact HB.out)) hb); clear BK347; clear HB; have BK347:=n0_; have HB:=n1_; clear n0_ n1_; (try clear hb)))
           repeat (go_quiet (first | (go_at_call 18; (with_reducible refine (lamplighterlaw10_alive.calls k2  t353 _ A27.out (globc_below HGLOC.out (by repeat (first | (with_reducible first | exact HB.out | apply bA | apply bN | apply bD | refine below_set ?_ GE347.out) | exact HB.out)))).mono ?_); rintro e w29 ⟨rfl,hb⟩; have n0_:=Aside0.mk (blk_below (g:=gb347) (o := .cells #[.int .u8 a0_0, .int .u8 a0_1, .int .u8 a0_2, .int .u8 a0_3, .int .u8 a0_4, .string a0_5, .string a0_6, .string a0_7, .string a0_8, .string a0_9, .string a0_10, .string a0_11, .string a0_12, .string a0_13, .string a0_14] 25 (0,0)) (by (with_reducible repeat (first | refine kN ?_ _ | refine kD ?_ | refine kA ?_ _)); exact BK347.out) hb); have n1_:=Aside0.mk (below_step (by repeat (first | (with_reducible first | exact HB.out | apply bA | apply bN | apply bD | refine below_set ?_ GE347.out) | exact HB.out)) hb); clear BK347; clear HB; have BK347:=n0_; have HB:=n1_; clear n0_ n1_; (try clear hb))); try go_wp2_with (first | (go_at_call 18; (with_reducible refine (lamplighterlaw10_alive.calls k2  t353 _ A27.out (globc_below HGLOC.out (by repeat (first | (with_reducible first | exact HB.out | apply bA | apply bN | apply bD | refine below_set ?_ GE347.out) | exact HB.out)))).mono ?_); rintro e w29 ⟨rfl,hb⟩; have n0_:=Aside0.mk (blk_below (g:=gb347) (o := .cells #[.int .u8 a0_0, .int .u8 a0_1, .int .u8 a0_2, .int .u8 a0_3, .int .u8 a0_4, .string a0_5, .string a0_6, .string a0_7, .string a0_8, .string a0_9, .string a0_10, .string a0_11, .string a0_12, .string a0_13, .string a0_14] 25 (0,0)) (by (with_reducible repeat (first | refine kN ?_ _ | refine kD ?_ | refine kA ?_ _)); exact BK347.out) hb); have n1_:=Aside0.mk (below_step (by repeat (first | (with_reducible first | exact HB.out | apply bA | apply bN | apply bD | refine below_set ?_ GE347.out) | exact HB.out)) hb); clear BK347; clear HB; have BK347:=n0_; have HB:=n1_; clear n0_ n1_; (try clear hb))))
           go_ret
           exact ⟨by first | rfl | (simp [errW_none,errW_some] <;> rfl) | (simp [*,errW_none,errW_some] <;> rfl),by repeat (first | (with_reducible first | exact HB.out | apply bA | apply bN | apply bD | refine below_set ?_ GE347.out) | exact HB.out)⟩
          ·rw [if_neg c26] at H
           have c26b0 : ((bt a1 x34_2) == a0_0)=false:=beq_eq_false_iff_ne.mpr c26
           have c26b1 : ((bt a1 x34_2) != a0_0)=true:=bne_iff_ne.mpr c26
           have H':=Aside0.mk H
           clear H
           have p21:0≤(x34_2 : Int):=of_decide_eq_true (by first | (with_reducible assumption) | assumption)
           have q21:x34_2 < (a1.size : Int):=of_decide_eq_true (by first | (with_reducible assumption) | assumption)
           have hx21:=bt_at a1 x34_2
           replace p21:=eq_true p21
           replace q21:=eq_true q21
           have p25:0≤(x34_2 : Int):=of_decide_eq_true (by first | (with_reducible assumption) | assumption)
           have q25:x34_2 < (a1.size : Int):=of_decide_eq_true (by first | (with_reducible assumption) | assumption)
           have hx25:=bt_at a1 x34_2
           replace p25:=eq_true p25
           replace q25:=eq_true q25
           have hcz30_0:wr.cell? ⟨gb347,0,none⟩=some (.int .u8 a0_0):=blk_cell BK347.out 0
           have hcz30_1:wr.cell? ⟨gb347,1,none⟩=some (.int .u8 a0_1):=blk_cell BK347.out 1
           have hcz30_2:wr.cell? ⟨gb347,2,none⟩=some (.int .u8 a0_2):=blk_cell BK347.out 2
           have hcz30_3:wr.cell? ⟨gb347,3,none⟩=some (.int .u8 a0_3):=blk_cell BK347.out 3
           have hcz30_4:wr.cell? ⟨gb347,4,none⟩=some (.int .u8 a0_4):=blk_cell BK347.out 4
           have hcz30_5:wr.cell? ⟨gb347,5,none⟩=some (.string a0_5):=blk_cell BK347.out 5
           have hcz30_6:wr.cell? ⟨gb347,6,none⟩=some (.string a0_6):=blk_cell BK347.out 6
           have hcz30_7:wr.cell? ⟨gb347,7,none⟩=some (.string a0_7):=blk_cell BK347.out 7
           have hcz30_8:wr.cell? ⟨gb347,8,none⟩=some (.string a0_8):=blk_cell BK347.out 8
           have hcz30_9:wr.cell? ⟨gb347,9,none⟩=some (.string a0_9):=blk_cell BK347.out 9
           have hcz30_10:wr.cell? ⟨gb347,10,none⟩=some (.string a0_10):=blk_cell BK347.out 10
           have hcz30_11:wr.cell? ⟨gb347,11,none⟩=some (.string a0_11):=blk_cell BK347.out 11
           have hcz30_12:wr.cell? ⟨gb347,12,none⟩=some (.string a0_12):=blk_cell BK347.out 12
           have hcz30_13:wr.cell? ⟨gb347,13,none⟩=some (.string a0_13):=blk_cell BK347.out 13
           have hcz30_14:wr.cell? ⟨gb347,14,none⟩=some (.string a0_14):=blk_cell BK347.out 14
           have hfz30_0:=blk_frozen BK347.out 0
           have hfz30_1:=blk_frozen BK347.out 1
           have hfz30_2:=blk_frozen BK347.out 2
           have hfz30_3:=blk_frozen BK347.out 3
           have hfz30_4:=blk_frozen BK347.out 4
           have hfz30_5:=blk_frozen BK347.out 5
           have hfz30_6:=blk_frozen BK347.out 6
           have hfz30_7:=blk_frozen BK347.out 7
           have hfz30_8:=blk_frozen BK347.out 8
           have hfz30_9:=blk_frozen BK347.out 9
           have hfz30_10:=blk_frozen BK347.out 10
           have hfz30_11:=blk_frozen BK347.out 11
           have hfz30_12:=blk_frozen BK347.out 12
           have hfz30_13:=blk_frozen BK347.out 13
           have hfz30_14:=blk_frozen BK347.out 14
           go_wp2
           repeat (go_quiet (fail); try go_wp2)
           go_roundg k2
           case measure=>have:=HJ3.out; have:=HK2.out; omega
           case rel=>exact ⟨(wrap64 (x34_2 + 1)),(by first | rfl | (simp; done) | (simp [*]; done)),H',⟨by have:=HJ3.out; have:=HK2.out; omega⟩,⟨by (with_reducible repeat (first | refine kN ?_ _ | refine kD ?_ | refine kA ?_ _)); exact BK347.out⟩,⟨by repeat (first | (with_reducible first | exact HB.out | apply bA | apply bN | apply bD | refine below_set ?_ GE347.out) | exact HB.out)⟩⟩
        ·rw [if_neg c20] at H
         exact absurd H (by simp)
       ·rw [if_neg c19] at H
        exact absurd H (by simp)
      ·rw [if_neg c18] at H
       have c18b0:decide (x34_2 < (a1.size : Int))=false:=decide_eq_false c18
       clear c18
       obtain ⟨y354,hy354⟩ : ∃ y_ : List Int,y_=(([a0_0] : List Int)):=⟨_,rfl⟩
       replace H : (if t348.size + 1≤9223372036854775807 then ((cv_str.f (t348 ++ (⟨#[13]⟩ : ByteArray))).bind fun t357=>((ack_Read.f k2 t357).bind fun bt360=>(if t348.size + 4≤9223372036854775807 then (if (t348 ++ (⟨#[13,77,83,66]⟩ : ByteArray)).size + (strOfNums y354).size≤9223372036854775807 then (if ((t348 ++ (⟨#[13,77,83,66]⟩ : ByteArray)) ++ (strOfNums y354)).size + 2≤9223372036854775807 then (if (((t348 ++ (⟨#[13,77,83,66]⟩ : ByteArray)) ++ (strOfNums y354)) ++ (⟨#[65,65]⟩ : ByteArray)).size + (strOfNums y354).size≤9223372036854775807 then (if ((((t348 ++ (⟨#[13,77,83,66]⟩ : ByteArray)) ++ (strOfNums y354)) ++ (⟨#[65,65]⟩ : ByteArray)) ++ (strOfNums y354)).size + 2≤9223372036854775807 then ((cv_str.f (((((t348 ++ (⟨#[13,77,83,66]⟩ : ByteArray)) ++ (strOfNums y354)) ++ (⟨#[65,65]⟩ : ByteArray)) ++ (strOfNums y354)) ++ (⟨#[49,13]⟩ : ByteArray))).bind fun t364=>((ack_Read.f k2 t364).bind fun bt367=>(if (t348 ++ (⟨#[13,77,83,65]⟩ : ByteArray)).size + (strOfNums y354).size≤9223372036854775807 then (if ((t348 ++ (⟨#[13,77,83,65]⟩ : ByteArray)) ++ (strOfNums y354)).size + a1.size≤9223372036854775807 then (if (((t348 ++ (⟨#[13,77,83,65]⟩ : ByteArray)) ++ (strOfNums y354)) ++ a1).size + (strOfNums y354).size≤9223372036854775807 then (if ((((t348 ++ (⟨#[13,77,83,65]⟩ : ByteArray)) ++ (strOfNums y354)) ++ a1) ++ (strOfNums y354)).size + 2≤9223372036854775807 then ((cv_str.f (((((t348 ++ (⟨#[13,77,83,65]⟩ : ByteArray)) ++ (strOfNums y354)) ++ a1) ++ (strOfNums y354)) ++ (⟨#[49,13]⟩ : ByteArray))).bind fun t371=>((ack_Read.f k2 t371).bind fun bt374=>((lamplighterlaw10_alive.f k2).bind fun t378=>(if t378=true then (if bt360.2.2=10 then (lamplighterlaw10_AckForms.j2 k2 a1 bt374.2.2 (bt367.2.2 != 10) bt374.1 bt374.2.1) else (lamplighterlaw10_AckForms.j2 k2 a1 bt374.2.2 true bt374.1 bt374.2.1)) else (lamplighterlaw10_AckForms.j2 k2 a1 bt374.2.2 true bt374.1 bt374.2.1))))) else (none)) else (none)) else (none)) else (none)))) else (none)) else (none)) else (none)) else (none)) else (none)))) else (none))=some r:=by first | (rw [hy354]; with_reducible exact H) | (have H2_:=(Option.bind_some _ _).symm.trans H; rw [hy354]; with_reducible exact H2_) | (have H2_:=(Option.bind_some _ _).symm.trans H; with_reducible exact H2_) | with_reducible exact H | (rw [hy354]; exact H) | exact H
       have Ny354:=Aside0.mk hy354
       clear hy354
       by_cases c31 : t348.size + 1≤9223372036854775807
       ·rw [if_pos c31] at H
        have c31b0:=eq_true c31
        have c31b1:decide (t348.size + 1≤9223372036854775807)=true:=decide_eq_true c31
        try have c31b2 : (9223372036854775807 < t348.size + 1)=False:=eq_false (Nat.not_lt.2 c31)
        try (have c31b4:=c31b2; simp only [ByteArray.size_append] at c31b4)
        replace H:=Option.bind_eq_some_iff.mp H
        obtain ⟨t357,A320,H⟩:=H
        replace H : ((ack_Read.f k2 t357).bind fun bt360=>(if t348.size + 4≤9223372036854775807 then (if (t348 ++ (⟨#[13,77,83,66]⟩ : ByteArray)).size + (strOfNums y354).size≤9223372036854775807 then (if ((t348 ++ (⟨#[13,77,83,66]⟩ : ByteArray)) ++ (strOfNums y354)).size + 2≤9223372036854775807 then (if (((t348 ++ (⟨#[13,77,83,66]⟩ : ByteArray)) ++ (strOfNums y354)) ++ (⟨#[65,65]⟩ : ByteArray)).size + (strOfNums y354).size≤9223372036854775807 then (if ((((t348 ++ (⟨#[13,77,83,66]⟩ : ByteArray)) ++ (strOfNums y354)) ++ (⟨#[65,65]⟩ : ByteArray)) ++ (strOfNums y354)).size + 2≤9223372036854775807 then ((cv_str.f (((((t348 ++ (⟨#[13,77,83,66]⟩ : ByteArray)) ++ (strOfNums y354)) ++ (⟨#[65,65]⟩ : ByteArray)) ++ (strOfNums y354)) ++ (⟨#[49,13]⟩ : ByteArray))).bind fun t364=>((ack_Read.f k2 t364).bind fun bt367=>(if (t348 ++ (⟨#[13,77,83,65]⟩ : ByteArray)).size + (strOfNums y354).size≤9223372036854775807 then (if ((t348 ++ (⟨#[13,77,83,65]⟩ : ByteArray)) ++ (strOfNums y354)).size + a1.size≤9223372036854775807 then (if (((t348 ++ (⟨#[13,77,83,65]⟩ : ByteArray)) ++ (strOfNums y354)) ++ a1).size + (strOfNums y354).size≤9223372036854775807 then (if ((((t348 ++ (⟨#[13,77,83,65]⟩ : ByteArray)) ++ (strOfNums y354)) ++ a1) ++ (strOfNums y354)).size + 2≤9223372036854775807 then ((cv_str.f (((((t348 ++ (⟨#[13,77,83,65]⟩ : ByteArray)) ++ (strOfNums y354)) ++ a1) ++ (strOfNums y354)) ++ (⟨#[49,13]⟩ : ByteArray))).bind fun t371=>((ack_Read.f k2 t371).bind fun bt374=>((lamplighterlaw10_alive.f k2).bind fun t378=>(if t378=true then (if bt360.2.2=10 then (lamplighterlaw10_AckForms.j2 k2 a1 bt374.2.2 (bt367.2.2 != 10) bt374.1 bt374.2.1) else (lamplighterlaw10_AckForms.j2 k2 a1 bt374.2.2 true bt374.1 bt374.2.1)) else (lamplighterlaw10_AckForms.j2 k2 a1 bt374.2.2 true bt374.1 bt374.2.1))))) else (none)) else (none)) else (none)) else (none)))) else (none)) else (none)) else (none)) else (none)) else (none)))=some r:=H
        have A32:=Aside0.mk A320
        clear A320
        replace H:=Option.bind_eq_some_iff.mp H
        obtain ⟨⟨t360,t361,t362⟩,A330,H⟩:=H
        replace H : (if t348.size + 4≤9223372036854775807 then (if (t348 ++ (⟨#[13,77,83,66]⟩ : ByteArray)).size + (strOfNums y354).size≤9223372036854775807 then (if ((t348 ++ (⟨#[13,77,83,66]⟩ : ByteArray)) ++ (strOfNums y354)).size + 2≤9223372036854775807 then (if (((t348 ++ (⟨#[13,77,83,66]⟩ : ByteArray)) ++ (strOfNums y354)) ++ (⟨#[65,65]⟩ : ByteArray)).size + (strOfNums y354).size≤9223372036854775807 then (if ((((t348 ++ (⟨#[13,77,83,66]⟩ : ByteArray)) ++ (strOfNums y354)) ++ (⟨#[65,65]⟩ : ByteArray)) ++ (strOfNums y354)).size + 2≤9223372036854775807 then ((cv_str.f (((((t348 ++ (⟨#[13,77,83,66]⟩ : ByteArray)) ++ (strOfNums y354)) ++ (⟨#[65,65]⟩ : ByteArray)) ++ (strOfNums y354)) ++ (⟨#[49,13]⟩ : ByteArray))).bind fun t364=>((ack_Read.f k2 t364).bind fun bt367=>(if (t348 ++ (⟨#[13,77,83,65]⟩ : ByteArray)).size + (strOfNums y354).size≤9223372036854775807 then (if ((t348 ++ (⟨#[13,77,83,65]⟩ : ByteArray)) ++ (strOfNums y354)).size + a1.size≤9223372036854775807 then (if (((t348 ++ (⟨#[13,77,83,65]⟩ : ByteArray)) ++ (strOfNums y354)) ++ a1).size + (strOfNums y354).size≤9223372036854775807 then (if ((((t348 ++ (⟨#[13,77,83,65]⟩ : ByteArray)) ++ (strOfNums y354)) ++ a1) ++ (strOfNums y354)).size + 2≤9223372036854775807 then ((cv_str.f (((((t348 ++ (⟨#[13,77,83,65]⟩ : ByteArray)) ++ (strOfNums y354)) ++ a1) ++ (strOfNums y354)) ++ (⟨#[49,13]⟩ : ByteArray))).bind fun t371=>((ack_Read.f k2 t371).bind fun bt374=>((lamplighterlaw10_alive.f k2).bind fun t378=>(if t378=true then (if t362=10 then (lamplighterlaw10_AckForms.j2 k2 a1 bt374.2.2 (bt367.2.2 != 10) bt374.1 bt374.2.1) else (lamplighterlaw10_AckForms.j2 k2 a1 bt374.2.2 true bt374.1 bt374.2.1)) else (lamplighterlaw10_AckForms.j2 k2 a1 bt374.2.2 true bt374.1 bt374.2.1))))) else (none)) else (none)) else (none)) else (none)))) else (none)) else (none)) else (none)) else (none)) else (none))=some r:=H
        have A33:=Aside0.mk A330
        clear A330
        by_cases c34 : t348.size + 4≤9223372036854775807
        ·rw [if_pos c34] at H
         have c34b0:=eq_true c34
         have c34b1:decide (t348.size + 4≤9223372036854775807)=true:=decide_eq_true c34
         try have c34b2 : (9223372036854775807 < t348.size + 4)=False:=eq_false (Nat.not_lt.2 c34)
         try (have c34b4:=c34b2; simp only [ByteArray.size_append] at c34b4)
         by_cases c35 : (t348 ++ (⟨#[13,77,83,66]⟩ : ByteArray)).size + (strOfNums y354).size≤9223372036854775807
         ·rw [if_pos c35] at H
          have c35b0:=eq_true c35
          have c35b1:decide ((t348 ++ (⟨#[13,77,83,66]⟩ : ByteArray)).size + (strOfNums y354).size≤9223372036854775807)=true:=decide_eq_true c35
          try have c35b2 : (9223372036854775807 < (t348 ++ (⟨#[13,77,83,66]⟩ : ByteArray)).size + (strOfNums y354).size)=False:=eq_false (Nat.not_lt.2 c35)
          try (have c35b4:=c35b2; simp only [ByteArray.size_append] at c35b4)
          by_cases c36 : ((t348 ++ (⟨#[13,77,83,66]⟩ : ByteArray)) ++ (strOfNums y354)).size + 2≤9223372036854775807
          ·rw [if_pos c36] at H
           have c36b0:=eq_true c36
           have c36b1:decide (((t348 ++ (⟨#[13,77,83,66]⟩ : ByteArray)) ++ (strOfNums y354)).size + 2≤9223372036854775807)=true:=decide_eq_true c36
           try have c36b2 : (9223372036854775807 < ((t348 ++ (⟨#[13,77,83,66]⟩ : ByteArray)) ++ (strOfNums y354)).size + 2)=False:=eq_false (Nat.not_lt.2 c36)
           try (have c36b4:=c36b2; simp only [ByteArray.size_append] at c36b4)
           by_cases c37 : (((t348 ++ (⟨#[13,77,83,66]⟩ : ByteArray)) ++ (strOfNums y354)) ++ (⟨#[65,65]⟩ : ByteArray)).size + (strOfNums y354).size≤9223372036854775807
           ·rw [if_pos c37] at H
            have c37b0:=eq_true c37
            have c37b1:decide ((((t348 ++ (⟨#[13,77,83,66]⟩ : ByteArray)) ++ (strOfNums y354)) ++ (⟨#[65,65]⟩ : ByteArray)).size + (strOfNums y354).size≤9223372036854775807)=true:=decide_eq_true c37
            try have c37b2 : (9223372036854775807 < (((t348 ++ (⟨#[13,77,83,66]⟩ : ByteArray)) ++ (strOfNums y354)) ++ (⟨#[65,65]⟩ : ByteArray)).size + (strOfNums y354).size)=False:=eq_false (Nat.not_lt.2 c37)
            try (have c37b4:=c37b2; simp only [ByteArray.size_append] at c37b4)
            by_cases c38 : ((((t348 ++ (⟨#[13,77,83,66]⟩ : ByteArray)) ++ (strOfNums y354)) ++ (⟨#[65,65]⟩ : ByteArray)) ++ (strOfNums y354)).size + 2≤9223372036854775807
            ·rw [if_pos c38] at H
             have c38b0:=eq_true c38
             have c38b1:decide (((((t348 ++ (⟨#[13,77,83,66]⟩ : ByteArray)) ++ (strOfNums y354)) ++ (⟨#[65,65]⟩ : ByteArray)) ++ (strOfNums y354)).size + 2≤9223372036854775807)=true:=decide_eq_true c38
             try have c38b2 : (9223372036854775807 < ((((t348 ++ (⟨#[13,77,83,66]⟩ : ByteArray)) ++ (strOfNums y354)) ++ (⟨#[65,65]⟩ : ByteArray)) ++ (strOfNums y354)).size + 2)=False:=eq_false (Nat.not_lt.2 c38)
             try (have c38b4:=c38b2; simp only [ByteArray.size_append] at c38b4)
             replace H:=Option.bind_eq_some_iff.mp H
             obtain ⟨t364,A390,H⟩:=H
             replace H : ((ack_Read.f k2 t364).bind fun bt367=>(if (t348 ++ (⟨#[13,77,83,65]⟩ : ByteArray)).size + (strOfNums y354).size≤9223372036854775807 then (if ((t348 ++ (⟨#[13,77,83,65]⟩ : ByteArray)) ++ (strOfNums y354)).size + a1.size≤9223372036854775807 then (if (((t348 ++ (⟨#[13,77,83,65]⟩ : ByteArray)) ++ (strOfNums y354)) ++ a1).size + (strOfNums y354).size≤9223372036854775807 then (if ((((t348 ++ (⟨#[13,77,83,65]⟩ : ByteArray)) ++ (strOfNums y354)) ++ a1) ++ (strOfNums y354)).size + 2≤9223372036854775807 then ((cv_str.f (((((t348 ++ (⟨#[13,77,83,65]⟩ : ByteArray)) ++ (strOfNums y354)) ++ a1) ++ (strOfNums y354)) ++ (⟨#[49,13]⟩ : ByteArray))).bind fun t371=>((ack_Read.f k2 t371).bind fun bt374=>((lamplighterlaw10_alive.f k2).bind fun t378=>(if t378=true then (if t362=10 then (lamplighterlaw10_AckForms.j2 k2 a1 bt374.2.2 (bt367.2.2 != 10) bt374.1 bt374.2.1) else (lamplighterlaw10_AckForms.j2 k2 a1 bt374.2.2 true bt374.1 bt374.2.1)) else (lamplighterlaw10_AckForms.j2 k2 a1 bt374.2.2 true bt374.1 bt374.2.1))))) else (none)) else (none)) else (none)) else (none)))=some r:=H
             have A39:=Aside0.mk A390
             clear A390
             replace H:=Option.bind_eq_some_iff.mp H
             obtain ⟨⟨t367,t368,t369⟩,A400,H⟩:=H
             replace H : (if (t348 ++ (⟨#[13,77,83,65]⟩ : ByteArray)).size + (strOfNums y354).size≤9223372036854775807 then (if ((t348 ++ (⟨#[13,77,83,65]⟩ : ByteArray)) ++ (strOfNums y354)).size + a1.size≤9223372036854775807 then (if (((t348 ++ (⟨#[13,77,83,65]⟩ : ByteArray)) ++ (strOfNums y354)) ++ a1).size + (strOfNums y354).size≤9223372036854775807 then (if ((((t348 ++ (⟨#[13,77,83,65]⟩ : ByteArray)) ++ (strOfNums y354)) ++ a1) ++ (strOfNums y354)).size + 2≤9223372036854775807 then ((cv_str.f (((((t348 ++ (⟨#[13,77,83,65]⟩ : ByteArray)) ++ (strOfNums y354)) ++ a1) ++ (strOfNums y354)) ++ (⟨#[49,13]⟩ : ByteArray))).bind fun t371=>((ack_Read.f k2 t371).bind fun bt374=>((lamplighterlaw10_alive.f k2).bind fun t378=>(if t378=true then (if t362=10 then (lamplighterlaw10_AckForms.j2 k2 a1 bt374.2.2 (t369 != 10) bt374.1 bt374.2.1) else (lamplighterlaw10_AckForms.j2 k2 a1 bt374.2.2 true bt374.1 bt374.2.1)) else (lamplighterlaw10_AckForms.j2 k2 a1 bt374.2.2 true bt374.1 bt374.2.1))))) else (none)) else (none)) else (none)) else (none))=some r:=H
             have A40:=Aside0.mk A400
             clear A400
             by_cases c41 : (t348 ++ (⟨#[13,77,83,65]⟩ : ByteArray)).size + (strOfNums y354).size≤9223372036854775807
             ·rw [if_pos c41] at H
              have c41b0:=eq_true c41
              have c41b1:decide ((t348 ++ (⟨#[13,77,83,65]⟩ : ByteArray)).size + (strOfNums y354).size≤9223372036854775807)=true:=decide_eq_true c41
              try have c41b2 : (9223372036854775807 < (t348 ++ (⟨#[13,77,83,65]⟩ : ByteArray)).size + (strOfNums y354).size)=False:=eq_false (Nat.not_lt.2 c41)
              try (have c41b4:=c41b2; simp only [ByteArray.size_append] at c41b4)
              by_cases c42 : ((t348 ++ (⟨#[13,77,83,65]⟩ : ByteArray)) ++ (strOfNums y354)).size + a1.size≤9223372036854775807
              ·rw [if_pos c42] at H
               have c42b0:=eq_true c42
               have c42b1:decide (((t348 ++ (⟨#[13,77,83,65]⟩ : ByteArray)) ++ (strOfNums y354)).size + a1.size≤9223372036854775807)=true:=decide_eq_true c42
               try have c42b2 : (9223372036854775807 < ((t348 ++ (⟨#[13,77,83,65]⟩ : ByteArray)) ++ (strOfNums y354)).size + a1.size)=False:=eq_false (Nat.not_lt.2 c42)
               try (have c42b4:=c42b2; simp only [ByteArray.size_append] at c42b4)
               by_cases c43 : (((t348 ++ (⟨#[13,77,83,65]⟩ : ByteArray)) ++ (strOfNums y354)) ++ a1).size + (strOfNums y354).size≤9223372036854775807
               ·rw [if_pos c43] at H
                have c43b0:=eq_true c43
                have c43b1:decide ((((t348 ++ (⟨#[13,77,83,65]⟩ : ByteArray)) ++ (strOfNums y354)) ++ a1).size + (strOfNums y354).size≤9223372036854775807)=true:=decide_eq_true c43
                try have c43b2 : (9223372036854775807 < (((t348 ++ (⟨#[13,77,83,65]⟩ : ByteArray)) ++ (strOfNums y354)) ++ a1).size + (strOfNums y354).size)=False:=eq_false (Nat.not_lt.2 c43)
                try (have c43b4:=c43b2; simp only [ByteArray.size_append] at c43b4)
                by_cases c44 : ((((t348 ++ (⟨#[13,77,83,65]⟩ : ByteArray)) ++ (strOfNums y354)) ++ a1) ++ (strOfNums y354)).size + 2≤9223372036854775807
                ·rw [if_pos c44] at H
                 have c44b0:=eq_true c44
                 have c44b1:decide (((((t348 ++ (⟨#[13,77,83,65]⟩ : ByteArray)) ++ (strOfNums y354)) ++ a1) ++ (strOfNums y354)).size + 2≤9223372036854775807)=true:=decide_eq_true c44
                 try have c44b2 : (9223372036854775807 < ((((t348 ++ (⟨#[13,77,83,65]⟩ : ByteArray)) ++ (strOfNums y354)) ++ a1) ++ (strOfNums y354)).size + 2)=False:=eq_false (Nat.not_lt.2 c44)
                 try (have c44b4:=c44b2; simp only [ByteArray.size_append] at c44b4)
                 replace H:=Option.bind_eq_some_iff.mp H
                 obtain ⟨t371,A450,H⟩:=H
                 replace H : ((ack_Read.f k2 t371).bind fun bt374=>((lamplighterlaw10_alive.f k2).bind fun t378=>(if t378=true then (if t362=10 then (lamplighterlaw10_AckForms.j2 k2 a1 bt374.2.2 (t369 != 10) bt374.1 bt374.2.1) else (lamplighterlaw10_AckForms.j2 k2 a1 bt374.2.2 true bt374.1 bt374.2.1)) else (lamplighterlaw10_AckForms.j2 k2 a1 bt374.2.2 true bt374.1 bt374.2.1))))=some r:=H
                 have A45:=Aside0.mk A450
                 clear A450
                 replace H:=Option.bind_eq_some_iff.mp H
                 obtain ⟨⟨t374,t375,t376⟩,A460,H⟩:=H
                 replace H : ((lamplighterlaw10_alive.f k2).bind fun t378=>(if t378=true then (if t362=10 then (lamplighterlaw10_AckForms.j2 k2 a1 t376 (t369 != 10) t374 t375) else (lamplighterlaw10_AckForms.j2 k2 a1 t376 true t374 t375)) else (lamplighterlaw10_AckForms.j2 k2 a1 t376 true t374 t375)))=some r:=H
                 have A46:=Aside0.mk A460
                 clear A460
                 have HC47:=Aside0.mk H
                 clear H
                 have hcz48_0:wr.cell? ⟨gb347,0,none⟩=some (.int .u8 a0_0):=blk_cell BK347.out 0
                 have hcz48_1:wr.cell? ⟨gb347,1,none⟩=some (.int .u8 a0_1):=blk_cell BK347.out 1
                 have hcz48_2:wr.cell? ⟨gb347,2,none⟩=some (.int .u8 a0_2):=blk_cell BK347.out 2
                 have hcz48_3:wr.cell? ⟨gb347,3,none⟩=some (.int .u8 a0_3):=blk_cell BK347.out 3
                 have hcz48_4:wr.cell? ⟨gb347,4,none⟩=some (.int .u8 a0_4):=blk_cell BK347.out 4
                 have hcz48_5:wr.cell? ⟨gb347,5,none⟩=some (.string a0_5):=blk_cell BK347.out 5
                 have hcz48_6:wr.cell? ⟨gb347,6,none⟩=some (.string a0_6):=blk_cell BK347.out 6
                 have hcz48_7:wr.cell? ⟨gb347,7,none⟩=some (.string a0_7):=blk_cell BK347.out 7
                 have hcz48_8:wr.cell? ⟨gb347,8,none⟩=some (.string a0_8):=blk_cell BK347.out 8
                 have hcz48_9:wr.cell? ⟨gb347,9,none⟩=some (.string a0_9):=blk_cell BK347.out 9
                 have hcz48_10:wr.cell? ⟨gb347,10,none⟩=some (.string a0_10):=blk_cell BK347.out 10
                 have hcz48_11:wr.cell? ⟨gb347,11,none⟩=some (.string a0_11):=blk_cell BK347.out 11
                 have hcz48_12:wr.cell? ⟨gb347,12,none⟩=some (.string a0_12):=blk_cell BK347.out 12
                 have hcz48_13:wr.cell? ⟨gb347,13,none⟩=some (.string a0_13):=blk_cell BK347.out 13
                 have hcz48_14:wr.cell? ⟨gb347,14,none⟩=some (.string a0_14):=blk_cell BK347.out 14
                 have hfz48_0:=blk_frozen BK347.out 0
                 have hfz48_1:=blk_frozen BK347.out 1
                 have hfz48_2:=blk_frozen BK347.out 2
                 have hfz48_3:=blk_frozen BK347.out 3
                 have hfz48_4:=blk_frozen BK347.out 4
                 have hfz48_5:=blk_frozen BK347.out 5
                 have hfz48_6:=blk_frozen BK347.out 6
                 have hfz48_7:=blk_frozen BK347.out 7
                 have hfz48_8:=blk_frozen BK347.out 8
                 have hfz48_9:=blk_frozen BK347.out 9
                 have hfz48_10:=blk_frozen BK347.out 10
                 have hfz48_11:=blk_frozen BK347.out 11
                 have hfz48_12:=blk_frozen BK347.out 12
                 have hfz48_13:=blk_frozen BK347.out 13
                 have hfz48_14:=blk_frozen BK347.out 14
                 have zz0 : (9223372036854775807 < t348.size + 4 + (strOfNums y354).size + 2)=False:=c36b4
                 have zz1 : (9223372036854775807 < t348.size + 4 + (strOfNums y354).size + 2 + (strOfNums y354).size + 2)=False:=c38b4
                 have zz2 : (9223372036854775807 < t348.size + 4 + (strOfNums y354).size + a1.size + (strOfNums y354).size + 2)=False:=c44b4
                 go_upto_region 14 with (first | ((with_reducible refine gate_dst (N:=55) rfl ?_); (try (refine gate_guard (by rfl) ?_; dsimp only)); refine Kd.R_lit (Kd.int .u8) _ 5 ?hg (N:=55) ?hd (xs:=([a0_0] : List Int)) (inner:=[.int .u8 a0_0]) (ok:=fun _=>True) (okp:=fun _=>True) ?hr ?hp (fun _ hk=>hk) trivial (Below.refl _ _) (Nat.le_refl _) (by simp) ?_; (case hd=>rfl); (case hg=>rfl); (case hr=>first | (go_simp; done) | (go_simp; rfl)); (case hp=>exact (Reps.one (show Kd.M (Kd.int .u8) _ _ _ a0_0 [.int .u8 a0_0] from rfl) (Reps.none _ _))); intro v355 w49 ho50 hb hg_ hnew_; clear hg_ hnew_; (first | rw [← Ny354.out] at ho50 | (simp only [Int.reduceToNat] at ho50; rw [← Ny354.out] at ho50)); have n0_:=Aside0.mk (Kd.R_lower ho50 (below_size (by repeat (first | (with_reducible first | exact HB.out | apply bA | apply bN | apply bD | refine below_set ?_ GE347.out) | exact HB.out)))); have n1_:=Aside0.mk (blk_below (g:=gb347) (o := .cells #[.int .u8 a0_0, .int .u8 a0_1, .int .u8 a0_2, .int .u8 a0_3, .int .u8 a0_4, .string a0_5, .string a0_6, .string a0_7, .string a0_8, .string a0_9, .string a0_10, .string a0_11, .string a0_12, .string a0_13, .string a0_14] 25 (0,0)) (by (with_reducible repeat (first | refine kN ?_ _ | refine kD ?_ | refine kA ?_ _)); exact BK347.out) hb); have n2_:=Aside0.mk (below_step (by repeat (first | (with_reducible first | exact HB.out | apply bA | apply bN | apply bD | refine below_set ?_ GE347.out) | exact HB.out)) hb); clear BK347; clear HB; have HO356:=n0_; have BK347:=n1_; have HB:=n2_; clear n0_ n1_ n2_; clear hb ho50; have hcv51:=own_string (P:=Tryd.prog) Tryd.underlying34 Tryd.underlying5 Tryd.underlying9 (Kd.own_of_R HO356.out)) | ((with_reducible refine gate_dst (N:=60) rfl ?_); (try (refine gate_guard (by rfl) ?_; dsimp only)); refine goesStr_ rfl rfl rfl rfl ?_; (with_reducible refine (cv_str.calls (t348 ++ (⟨#[13]⟩ : ByteArray)) t357 _ A32.out).mono ?_); rintro e w52 ⟨v358,rfl,ho0,hb⟩; refine ⟨_,rfl,?_⟩; have n0_:=Aside0.mk (Kd.R_below (by (with_reducible repeat (first | apply Kd.R_alloc | apply Kd.R_drewN | apply Kd.R_drew)); exact HO356.out) hb); have n1_:=Aside0.mk (Kd.V_lower (Kd.V_mono (ok':=fun k_=>some k_ ≠ (v355 : Value).ownBlock∧k_ ≠ gb347) ho0 (fun k_ hk_=>⟨(Kd.fresh' (Kd.R_lt (by (with_reducible repeat (first | apply Kd.R_alloc | apply Kd.R_drewN | apply Kd.R_drew)); exact HO356.out)) k_ hk_),(Kd.freshB (g:=gb347) (o := .cells #[.int .u8 a0_0, .int .u8 a0_1, .int .u8 a0_2, .int .u8 a0_3, .int .u8 a0_4, .string a0_5, .string a0_6, .string a0_7, .string a0_8, .string a0_9, .string a0_10, .string a0_11, .string a0_12, .string a0_13, .string a0_14] 25 (0,0)) (by (with_reducible repeat (first | refine kN ?_ _ | refine kD ?_ | refine kA ?_ _)); exact BK347.out) k_ hk_)⟩)) (below_size (by repeat (first | (with_reducible first | exact HB.out | apply bA | apply bN | apply bD | refine below_set ?_ GE347.out) | exact HB.out)))); have n2_:=Aside0.mk (blk_below (g:=gb347) (o := .cells #[.int .u8 a0_0, .int .u8 a0_1, .int .u8 a0_2, .int .u8 a0_3, .int .u8 a0_4, .string a0_5, .string a0_6, .string a0_7, .string a0_8, .string a0_9, .string a0_10, .string a0_11, .string a0_12, .string a0_13, .string a0_14] 25 (0,0)) (by (with_reducible repeat (first | refine kN ?_ _ | refine kD ?_ | refine kA ?_ _)); exact BK347.out) hb); have n3_:=Aside0.mk (below_step (by repeat (first | (with_reducible first | exact HB.out | apply bA | apply bN | apply bD | refine below_set ?_ GE347.out) | exact HB.out)) hb); clear HO356; clear BK347; clear HB; have HO356:=n0_; have HO359:=n1_; have BK347:=n2_; have HB:=n3_; clear n0_ n1_ n2_ n3_; (try clear hb); (try clear ho0); obtain ⟨Ao53,co53,eo53⟩:=Kd.V_slice HO359.out; subst eo53) | (go_at_call 19; (with_reducible refine (ack_Read.calls k2 _ _ t357 t360 t361 t362 _ ?side1 ?side2 A33.out (globc_below HGLOC.out (by repeat (first | (with_reducible first | exact HB.out | apply bA | apply bN | apply bD | refine below_set ?_ GE347.out) | exact HB.out)))).mono ?_); (case side1=>repeat (first | exact (Kd.V_reads' HO359.out).2.2 | (with_reducible refine Kd.C_alloc ?_ _) | (with_reducible refine Kd.C_drewN ?_ _) | (with_reducible refine Kd.C_drew ?_))); (case side2=>exact (Kd.V_reads' HO359.out).2.1); rintro e w54 ⟨rfl,hb⟩; have n0_:=Aside0.mk (Kd.R_below (by (with_reducible repeat (first | apply Kd.R_alloc | apply Kd.R_drewN | apply Kd.R_drew)); exact HO356.out) hb); have n1_:=Aside0.mk (Kd.V_below (by (with_reducible repeat (first | apply Kd.V_alloc | apply Kd.V_drewN | apply Kd.V_drew)); exact HO359.out) hb); have n2_:=Aside0.mk (blk_below (g:=gb347) (o := .cells #[.int .u8 a0_0, .int .u8 a0_1, .int .u8 a0_2, .int .u8 a0_3, .int .u8 a0_4, .string a0_5, .string a0_6, .string a0_7, .string a0_8, .string a0_9, .string a0_10, .string a0_11, .string a0_12, .string a0_13, .string a0_14] 25 (0,0)) (by (with_reducible repeat (first | refine kN ?_ _ | refine kD ?_ | refine kA ?_ _)); exact BK347.out) hb); have n3_:=Aside0.mk (below_step (by repeat (first | (with_reducible first | exact HB.out | apply bA | apply bN | apply bD | refine below_set ?_ GE347.out) | exact HB.out)) hb); clear HO356; clear HO359; clear BK347; clear HB; have HO356:=n0_; have HO359:=n1_; have BK347:=n2_; have HB:=n3_; clear n0_ n1_ n2_ n3_; (try clear hb)) | ((with_reducible refine gate_dst (N:=9) rfl ?_); (try (refine gate_guard (by rfl) ?_; dsimp only)); refine box_event ?hg (N:=9) ?hd (cs:=#[.string (⟨#[]⟩ : ByteArray), .string (⟨#[]⟩ : ByteArray)]) (t:=45) ?hr ?_; (case hd=>rfl); (case hg=>rfl); (case hr=>first | (go_simp; done) | (go_simp; rfl)); intro gb363 hg w55 hbox hb; have n0_:=Aside0.mk (Kd.R_below (by (with_reducible repeat (first | apply Kd.R_alloc | apply Kd.R_drewN | apply Kd.R_drew)); exact HO356.out) hb); have n1_:=Aside0.mk (Kd.V_below (Kd.V_elderB (by (with_reducible repeat (first | apply Kd.V_alloc | apply Kd.V_drewN | apply Kd.V_drew)); exact HO359.out) gb363 (Nat.le_of_eq hg.symm)) hb); have n2_:=Aside0.mk (blk_below (g:=gb347) (o := .cells #[.int .u8 a0_0, .int .u8 a0_1, .int .u8 a0_2, .int .u8 a0_3, .int .u8 a0_4, .string a0_5, .string a0_6, .string a0_7, .string a0_8, .string a0_9, .string a0_10, .string a0_11, .string a0_12, .string a0_13, .string a0_14] 25 (0,0)) (by (with_reducible repeat (first | refine kN ?_ _ | refine kD ?_ | refine kA ?_ _)); exact BK347.out) hb); have n3_:=Aside0.mk (below_step (by repeat (first | (with_reducible first | exact HB.out | apply bA | apply bN | apply bD | refine below_set ?_ GE347.out) | exact HB.out)) hb); have n4_:=Aside0.mk (hbox); have n5_:=Aside0.mk ((by rw [hg]; exact (below_size (by repeat (first | (with_reducible first | exact HB.out | apply bA | apply bN | apply bD | refine below_set ?_ GE347.out) | exact HB.out))) : w.heap.size≤gb363)); have n6_:=Aside0.mk ((by rw [hg]; exact (below_size (by repeat (first | (with_reducible first | exact HB.out | apply bA | apply bN | apply bD | refine below_set ?_ GE347.out) | exact HB.out))) : w.heap.size≤gb363)); have n7_:=Aside0.mk ((by rw [hg]; exact Nat.ne_of_lt (blk_lt (g:=gb347) (o := .cells #[.int .u8 a0_0, .int .u8 a0_1, .int .u8 a0_2, .int .u8 a0_3, .int .u8 a0_4, .string a0_5, .string a0_6, .string a0_7, .string a0_8, .string a0_9, .string a0_10, .string a0_11, .string a0_12, .string a0_13, .string a0_14] 25 (0,0)) (by (with_reducible repeat (first | refine kN ?_ _ | refine kD ?_ | refine kA ?_ _)); exact BK347.out)) : gb347 ≠ gb363)); have n8_:=Aside0.mk ((by rw [hg]; exact Nat.ne_of_gt (blk_lt (g:=gb347) (o := .cells #[.int .u8 a0_0, .int .u8 a0_1, .int .u8 a0_2, .int .u8 a0_3, .int .u8 a0_4, .string a0_5, .string a0_6, .string a0_7, .string a0_8, .string a0_9, .string a0_10, .string a0_11, .string a0_12, .string a0_13, .string a0_14] 25 (0,0)) (by (with_reducible repeat (first | refine kN ?_ _ | refine kD ?_ | refine kA ?_ _)); exact BK347.out)) : gb363 ≠ gb347)); clear HO356; clear HO359; clear BK347; clear HB; have HO356:=n0_; have HO359:=n1_; have BK347:=n2_; have HB:=n3_; have BK363:=n4_; have GW363:=n5_; have GE363:=n6_; have NB347_363:=n7_; have NB363_347:=n8_; clear n0_ n1_ n2_ n3_ n4_ n5_ n6_ n7_ n8_; clear hb hbox hg; have hnb56:=NB363_347.out; have hnc56:=NB347_363.out; have hcz57_0:w55.cell? ⟨gb363,0,none⟩=some (.string (⟨#[]⟩ : ByteArray)):=blk_cell BK363.out 0; have hcz57_1:w55.cell? ⟨gb363,1,none⟩=some (.string (⟨#[]⟩ : ByteArray)):=blk_cell BK363.out 1; have hfz57_0:=blk_frozen BK363.out 0; have hfz57_1:=blk_frozen BK363.out 1) | ((with_reducible refine gate_dst (N:=73) rfl ?_); (try (refine gate_guard (by rfl) ?_; dsimp only)); refine goesStr_ rfl rfl rfl rfl ?_; (with_reducible refine (cv_str.calls (((((t348 ++ (⟨#[13,77,83,66]⟩ : ByteArray)) ++ (strOfNums y354)) ++ (⟨#[65,65]⟩ : ByteArray)) ++ (strOfNums y354)) ++ (⟨#[49,13]⟩ : ByteArray)) t364 _ A39.out).mono ?_); rintro e w58 ⟨v365,rfl,ho0,hb⟩; refine ⟨_,rfl,?_⟩; have n0_:=Aside0.mk (Kd.R_below (by (with_reducible repeat (first | apply Kd.R_alloc | apply Kd.R_drewN | apply Kd.R_drew)); exact (Kd.R_mono (Kd.R_far (p:=⟨gb363,1,none⟩) (Kd.R_far (p:=⟨gb363,0,none⟩) (Kd.R_types HO356.out BK363.out (by decide)) (fun _ hk=>hk.2) (.string t360)) (fun _ hk=>hk.2) (.string t361)) (fun _ h_=>h_.1))) hb); have n1_:=Aside0.mk (Kd.V_below (by (with_reducible repeat (first | apply Kd.V_alloc | apply Kd.V_drewN | apply Kd.V_drew)); exact (Kd.V_mono (Kd.V_far (p:=⟨gb363,1,none⟩) (Kd.V_far (p:=⟨gb363,0,none⟩) (Kd.V_mono HO359.out (fun k_ hk=>(⟨hk,hk.2⟩ : _∧k_ ≠ gb363))) (fun _ hk=>hk.2) (.string t360)) (fun _ hk=>hk.2) (.string t361)) (fun _ h_=>h_.1))) hb); have n2_:=Aside0.mk (Kd.V_lower (Kd.V_mono (ok':=fun k_=>some k_ ≠ (v355 : Value).ownBlock∧k_ ≠ gb347∧k_ ≠ gb363) ho0 (fun k_ hk_=>⟨(Kd.fresh' (Kd.R_lt (by (with_reducible repeat (first | apply Kd.R_alloc | apply Kd.R_drewN | apply Kd.R_drew)); exact (Kd.R_mono (Kd.R_far (p:=⟨gb363,1,none⟩) (Kd.R_far (p:=⟨gb363,0,none⟩) (Kd.R_types HO356.out BK363.out (by decide)) (fun _ hk=>hk.2) (.string t360)) (fun _ hk=>hk.2) (.string t361)) (fun _ h_=>h_.1)))) k_ hk_),(Kd.freshB (g:=gb347) (o := .cells #[.int .u8 a0_0, .int .u8 a0_1, .int .u8 a0_2, .int .u8 a0_3, .int .u8 a0_4, .string a0_5, .string a0_6, .string a0_7, .string a0_8, .string a0_9, .string a0_10, .string a0_11, .string a0_12, .string a0_13, .string a0_14] 25 (0,0)) (by (with_reducible repeat (first | refine kN ?_ _ | refine kD ?_ | refine kA ?_ _)); refine blk_far ?_ NB347_363.out _; (with_reducible repeat (first | refine kN ?_ _ | refine kD ?_ | refine kA ?_ _)); refine blk_far ?_ NB347_363.out _; (with_reducible repeat (first | refine kN ?_ _ | refine kD ?_ | refine kA ?_ _)); exact BK347.out) k_ hk_),(Kd.freshB (g:=gb363) (o := .cells #[.string t360, .string t361] 45 (0,0)) (by (with_reducible repeat (first | refine kN ?_ _ | refine kD ?_ | refine kA ?_ _)); refine blk_put (cs:=#[.string t360, .string (⟨#[]⟩ : ByteArray)]) ?_ 1 _ rfl; (with_reducible repeat (first | refine kN ?_ _ | refine kD ?_ | refine kA ?_ _)); refine blk_put (cs:=#[.string (⟨#[]⟩ : ByteArray), .string (⟨#[]⟩ : ByteArray)]) ?_ 0 _ rfl; (with_reducible repeat (first | refine kN ?_ _ | refine kD ?_ | refine kA ?_ _)); exact BK363.out) k_ hk_)⟩)) (below_size (by repeat (first | (with_reducible first | exact HB.out | apply bA | apply bN | apply bD | refine below_set ?_ GE347.out | refine below_set ?_ GE363.out) | exact HB.out)))); have n3_:=Aside0.mk (blk_below (g:=gb347) (o := .cells #[.int .u8 a0_0, .int .u8 a0_1, .int .u8 a0_2, .int .u8 a0_3, .int .u8 a0_4, .string a0_5, .string a0_6, .string a0_7, .string a0_8, .string a0_9, .string a0_10, .string a0_11, .string a0_12, .string a0_13, .string a0_14] 25 (0,0)) (by (with_reducible repeat (first | refine kN ?_ _ | refine kD ?_ | refine kA ?_ _)); refine blk_far ?_ NB347_363.out _; (with_reducible repeat (first | refine kN ?_ _ | refine kD ?_ | refine kA ?_ _)); refine blk_far ?_ NB347_363.out _; (with_reducible repeat (first | refine kN ?_ _ | refine kD ?_ | refine kA ?_ _)); exact BK347.out) hb); have n4_:=Aside0.mk (blk_below (g:=gb363) (o := .cells #[.string t360, .string t361] 45 (0,0)) (by (with_reducible repeat (first | refine kN ?_ _ | refine kD ?_ | refine kA ?_ _)); refine blk_put (cs:=#[.string t360, .string (⟨#[]⟩ : ByteArray)]) ?_ 1 _ rfl; (with_reducible repeat (first | refine kN ?_ _ | refine kD ?_ | refine kA ?_ _)); refine blk_put (cs:=#[.string (⟨#[]⟩ : ByteArray), .string (⟨#[]⟩ : ByteArray)]) ?_ 0 _ rfl; (with_reducible repeat (first | refine kN ?_ _ | refine kD ?_ | refine kA ?_ _)); exact BK363.out) hb); have n5_:=Aside0.mk (below_step (by repeat (first | (with_reducible first | exact HB.out | apply bA | apply bN | apply bD | refine below_set ?_ GE347.out | refine below_set ?_ GE363.out) | exact HB.out)) hb); clear HO356; clear HO359; clear BK347; clear BK363; clear HB; have HO356:=n0_; have HO359:=n1_; have HO366:=n2_; have BK347:=n3_; have BK363:=n4_; have HB:=n5_; clear n0_ n1_ n2_ n3_ n4_ n5_; (try clear hb); (try clear ho0); obtain ⟨Ao59,co59,eo59⟩:=Kd.V_slice HO366.out; subst eo59) | (go_at_call 19; (with_reducible refine (ack_Read.calls k2 _ _ t364 t367 t368 t369 _ ?side1 ?side2 A40.out (globc_below HGLOC.out (by repeat (first | (with_reducible first | exact HB.out | apply bA | apply bN | apply bD | refine below_set ?_ GE347.out | refine below_set ?_ GE363.out) | exact HB.out)))).mono ?_); (case side1=>repeat (first | exact (Kd.V_reads' HO366.out).2.2 | (with_reducible refine Kd.C_alloc ?_ _) | (with_reducible refine Kd.C_drewN ?_ _) | (with_reducible refine Kd.C_drew ?_))); (case side2=>exact (Kd.V_reads' HO366.out).2.1); rintro e w60 ⟨rfl,hb⟩; have n0_:=Aside0.mk (Kd.R_below (by (with_reducible repeat (first | apply Kd.R_alloc | apply Kd.R_drewN | apply Kd.R_drew)); exact HO356.out) hb); have n1_:=Aside0.mk (Kd.V_below (by (with_reducible repeat (first | apply Kd.V_alloc | apply Kd.V_drewN | apply Kd.V_drew)); exact HO359.out) hb); have n2_:=Aside0.mk (Kd.V_below (by (with_reducible repeat (first | apply Kd.V_alloc | apply Kd.V_drewN | apply Kd.V_drew)); exact HO366.out) hb); have n3_:=Aside0.mk (blk_below (g:=gb347) (o := .cells #[.int .u8 a0_0, .int .u8 a0_1, .int .u8 a0_2, .int .u8 a0_3, .int .u8 a0_4, .string a0_5, .string a0_6, .string a0_7, .string a0_8, .string a0_9, .string a0_10, .string a0_11, .string a0_12, .string a0_13, .string a0_14] 25 (0,0)) (by (with_reducible repeat (first | refine kN ?_ _ | refine kD ?_ | refine kA ?_ _)); exact BK347.out) hb); have n4_:=Aside0.mk (blk_below (g:=gb363) (o := .cells #[.string t360, .string t361] 45 (0,0)) (by (with_reducible repeat (first | refine kN ?_ _ | refine kD ?_ | refine kA ?_ _)); exact BK363.out) hb); have n5_:=Aside0.mk (below_step (by repeat (first | (with_reducible first | exact HB.out | apply bA | apply bN | apply bD | refine below_set ?_ GE347.out | refine below_set ?_ GE363.out) | exact HB.out)) hb); clear HO356; clear HO359; clear HO366; clear BK347; clear BK363; clear HB; have HO356:=n0_; have HO359:=n1_; have HO366:=n2_; have BK347:=n3_; have BK363:=n4_; have HB:=n5_; clear n0_ n1_ n2_ n3_ n4_ n5_; (try clear hb)) | ((with_reducible refine gate_dst (N:=11) rfl ?_); (try (refine gate_guard (by rfl) ?_; dsimp only)); refine box_event ?hg (N:=11) ?hd (cs:=#[.string (⟨#[]⟩ : ByteArray), .string (⟨#[]⟩ : ByteArray)]) (t:=45) ?hr ?_; (case hd=>rfl); (case hg=>rfl); (case hr=>first | (go_simp; done) | (go_simp; rfl)); intro gb370 hg w61 hbox hb; have n0_:=Aside0.mk (Kd.R_below (by (with_reducible repeat (first | apply Kd.R_alloc | apply Kd.R_drewN | apply Kd.R_drew)); exact HO356.out) hb); have n1_:=Aside0.mk (Kd.V_below (Kd.V_elderB (by (with_reducible repeat (first | apply Kd.V_alloc | apply Kd.V_drewN | apply Kd.V_drew)); exact HO359.out) gb370 (Nat.le_of_eq hg.symm)) hb); have n2_:=Aside0.mk (Kd.V_below (Kd.V_elderB (by (with_reducible repeat (first | apply Kd.V_alloc | apply Kd.V_drewN | apply Kd.V_drew)); exact HO366.out) gb370 (Nat.le_of_eq hg.symm)) hb); have n3_:=Aside0.mk (blk_below (g:=gb347) (o := .cells #[.int .u8 a0_0, .int .u8 a0_1, .int .u8 a0_2, .int .u8 a0_3, .int .u8 a0_4, .string a0_5, .string a0_6, .string a0_7, .string a0_8, .string a0_9, .string a0_10, .string a0_11, .string a0_12, .string a0_13, .string a0_14] 25 (0,0)) (by (with_reducible repeat (first | refine kN ?_ _ | refine kD ?_ | refine kA ?_ _)); exact BK347.out) hb); have n4_:=Aside0.mk (blk_below (g:=gb363) (o := .cells #[.string t360, .string t361] 45 (0,0)) (by (with_reducible repeat (first | refine kN ?_ _ | refine kD ?_ | refine kA ?_ _)); exact BK363.out) hb); have n5_:=Aside0.mk (below_step (by repeat (first | (with_reducible first | exact HB.out | apply bA | apply bN | apply bD | refine below_set ?_ GE347.out | refine below_set ?_ GE363.out) | exact HB.out)) hb); have n6_:=Aside0.mk (hbox); have n7_:=Aside0.mk ((by rw [hg]; exact (below_size (by repeat (first | (with_reducible first | exact HB.out | apply bA | apply bN | apply bD | refine below_set ?_ GE347.out | refine below_set ?_ GE363.out) | exact HB.out))) : w.heap.size≤gb370)); have n8_:=Aside0.mk ((by rw [hg]; exact (below_size (by repeat (first | (with_reducible first | exact HB.out | apply bA | apply bN | apply bD | refine below_set ?_ GE347.out | refine below_set ?_ GE363.out) | exact HB.out))) : w.heap.size≤gb370)); have n9_:=Aside0.mk ((by rw [hg]; exact Nat.ne_of_lt (blk_lt (g:=gb347) (o := .cells #[.int .u8 a0_0, .int .u8 a0_1, .int .u8 a0_2, .int .u8 a0_3, .int .u8 a0_4, .string a0_5, .string a0_6, .string a0_7, .string a0_8, .string a0_9, .string a0_10, .string a0_11, .string a0_12, .string a0_13, .string a0_14] 25 (0,0)) (by (with_reducible repeat (first | refine kN ?_ _ | refine kD ?_ | refine kA ?_ _)); exact BK347.out)) : gb347 ≠ gb370)); have n10_:=Aside0.mk ((by rw [hg]; exact Nat.ne_of_gt (blk_lt (g:=gb347) (o := .cells #[.int .u8 a0_0, .int .u8 a0_1, .int .u8 a0_2, .int .u8 a0_3, .int .u8 a0_4, .string a0_5, .string a0_6, .string a0_7, .string a0_8, .string a0_9, .string a0_10, .string a0_11, .string a0_12, .string a0_13, .string a0_14] 25 (0,0)) (by (with_reducible repeat (first | refine kN ?_ _ | refine kD ?_ | refine kA ?_ _)); exact BK347.out)) : gb370 ≠ gb347)); have n11_:=Aside0.mk ((by rw [hg]; exact Nat.ne_of_lt (blk_lt (g:=gb363) (o := .cells #[.string t360, .string t361] 45 (0,0)) (by (with_reducible repeat (first | refine kN ?_ _ | refine kD ?_ | refine kA ?_ _)); exact BK363.out)) : gb363 ≠ gb370)); have n12_:=Aside0.mk ((by rw [hg]; exact Nat.ne_of_gt (blk_lt (g:=gb363) (o := .cells #[.string t360, .string t361] 45 (0,0)) (by (with_reducible repeat (first | refine kN ?_ _ | refine kD ?_ | refine kA ?_ _)); exact BK363.out)) : gb370 ≠ gb363)); clear HO356; clear HO359; clear HO366; clear BK347; clear BK363; clear HB; have HO356:=n0_; have HO359:=n1_; have HO366:=n2_; have BK347:=n3_; have BK363:=n4_; have HB:=n5_; have BK370:=n6_; have GW370:=n7_; have GE370:=n8_; have NB347_370:=n9_; have NB370_347:=n10_; have NB363_370:=n11_; have NB370_363:=n12_; clear n0_ n1_ n2_ n3_ n4_ n5_ n6_ n7_ n8_ n9_ n10_ n11_ n12_; clear hb hbox hg; have hnb62:=NB370_347.out; have hnc62:=NB347_370.out; have hnb63:=NB370_363.out; have hnc63:=NB363_370.out; have hcz64_0:w61.cell? ⟨gb370,0,none⟩=some (.string (⟨#[]⟩ : ByteArray)):=blk_cell BK370.out 0; have hcz64_1:w61.cell? ⟨gb370,1,none⟩=some (.string (⟨#[]⟩ : ByteArray)):=blk_cell BK370.out 1; have hfz64_0:=blk_frozen BK370.out 0; have hfz64_1:=blk_frozen BK370.out 1) | ((with_reducible refine gate_dst (N:=87) rfl ?_); (try (refine gate_guard (by rfl) ?_; dsimp only)); refine goesStr_ rfl rfl rfl rfl ?_; (with_reducible refine (cv_str.calls (((((t348 ++ (⟨#[13,77,83,65]⟩ : ByteArray)) ++ (strOfNums y354)) ++ a1) ++ (strOfNums y354)) ++ (⟨#[49,13]⟩ : ByteArray)) t371 _ A45.out).mono ?_); rintro e w65 ⟨v372,rfl,ho0,hb⟩; refine ⟨_,rfl,?_⟩; have n0_:=Aside0.mk (Kd.R_below (by (with_reducible repeat (first | apply Kd.R_alloc | apply Kd.R_drewN | apply Kd.R_drew)); exact (Kd.R_mono (Kd.R_far (p:=⟨gb370,1,none⟩) (Kd.R_far (p:=⟨gb370,0,none⟩) (Kd.R_types HO356.out BK370.out (by decide)) (fun _ hk=>hk.2) (.string t367)) (fun _ hk=>hk.2) (.string t368)) (fun _ h_=>h_.1))) hb); have n1_:=Aside0.mk (Kd.V_below (by (with_reducible repeat (first | apply Kd.V_alloc | apply Kd.V_drewN | apply Kd.V_drew)); exact (Kd.V_mono (Kd.V_far (p:=⟨gb370,1,none⟩) (Kd.V_far (p:=⟨gb370,0,none⟩) (Kd.V_mono HO359.out (fun k_ hk=>(⟨hk,hk.2⟩ : _∧k_ ≠ gb370))) (fun _ hk=>hk.2) (.string t367)) (fun _ hk=>hk.2) (.string t368)) (fun _ h_=>h_.1))) hb); have n2_:=Aside0.mk (Kd.V_below (by (with_reducible repeat (first | apply Kd.V_alloc | apply Kd.V_drewN | apply Kd.V_drew)); exact (Kd.V_mono (Kd.V_far (p:=⟨gb370,1,none⟩) (Kd.V_far (p:=⟨gb370,0,none⟩) (Kd.V_mono HO366.out (fun k_ hk=>(⟨hk,hk.2⟩ : _∧k_ ≠ gb370))) (fun _ hk=>hk.2) (.string t367)) (fun _ hk=>hk.2) (.string t368)) (fun _ h_=>h_.1))) hb); have n3_:=Aside0.mk (Kd.V_lower (Kd.V_mono (ok':=fun k_=>some k_ ≠ (v355 : Value).ownBlock∧k_ ≠ gb347∧k_ ≠ gb363∧k_ ≠ gb370) ho0 (fun k_ hk_=>⟨(Kd.fresh' (Kd.R_lt (by (with_reducible repeat (first | apply Kd.R_alloc | apply Kd.R_drewN | apply Kd.R_drew)); exact (Kd.R_mono (Kd.R_far (p:=⟨gb370,1,none⟩) (Kd.R_far (p:=⟨gb370,0,none⟩) (Kd.R_types HO356.out BK370.out (by decide)) (fun _ hk=>hk.2) (.string t367)) (fun _ hk=>hk.2) (.string t368)) (fun _ h_=>h_.1)))) k_ hk_),(Kd.freshB (g:=gb347) (o := .cells #[.int .u8 a0_0, .int .u8 a0_1, .int .u8 a0_2, .int .u8 a0_3, .int .u8 a0_4, .string a0_5, .string a0_6, .string a0_7, .string a0_8, .string a0_9, .string a0_10, .string a0_11, .string a0_12, .string a0_13, .string a0_14] 25 (0,0)) (by (with_reducible repeat (first | refine kN ?_ _ | refine kD ?_ | refine kA ?_ _)); refine blk_far ?_ NB347_370.out _; (with_reducible repeat (first | refine kN ?_ _ | refine kD ?_ | refine kA ?_ _)); refine blk_far ?_ NB347_370.out _; (with_reducible repeat (first | refine kN ?_ _ | refine kD ?_ | refine kA ?_ _)); exact BK347.out) k_ hk_),(Kd.freshB (g:=gb363) (o := .cells #[.string t360, .string t361] 45 (0,0)) (by (with_reducible repeat (first | refine kN ?_ _ | refine kD ?_ | refine kA ?_ _)); refine blk_far ?_ NB363_370.out _; (with_reducible repeat (first | refine kN ?_ _ | refine kD ?_ | refine kA ?_ _)); refine blk_far ?_ NB363_370.out _; (with_reducible repeat (first | refine kN ?_ _ | refine kD ?_ | refine kA ?_ _)); exact BK363.out) k_ hk_),(Kd.freshB (g:=gb370) (o := .cells #[.string t367, .string t368] 45 (0,0)) (by (with_reducible repeat (first | refine kN ?_ _ | refine kD ?_ | refine kA ?_ _)); refine blk_put (cs:=#[.string t367, .string (⟨#[]⟩ : ByteArray)]) ?_ 1 _ rfl; (with_reducible repeat (first | refine kN ?_ _ | refine kD ?_ | refine kA ?_ _)); refine blk_put (cs:=#[.string (⟨#[]⟩ : ByteArray), .string (⟨#[]⟩ : ByteArray)]) ?_ 0 _ rfl; (with_reducible repeat (first | refine kN ?_ _ | refine kD ?_ | refine kA ?_ _)); exact BK370.out) k_ hk_)⟩)) (below_size (by repeat (first | (with_reducible first | exact HB.out | apply bA | apply bN | apply bD | refine below_set ?_ GE347.out | refine below_set ?_ GE363.out | refine below_set ?_ GE370.out) | exact HB.out)))); have n4_:=Aside0.mk (blk_below (g:=gb347) (o := .cells #[.int .u8 a0_0, .int .u8 a0_1, .int .u8 a0_2, .int .u8 a0_3, .int .u8 a0_4, .string a0_5, .string a0_6, .string a0_7, .string a0_8, .string a0_9, .string a0_10, .string a0_11, .string a0_12, .string a0_13, .string a0_14] 25 (0,0)) (by (with_reducible repeat (first | refine kN ?_ _ | refine kD ?_ | refine kA ?_ _)); refine blk_far ?_ NB347_370.out _; (with_reducible repeat (first | refine kN ?_ _ | refine kD ?_ | refine kA ?_ _)); refine blk_far ?_ NB347_370.out _; (with_reducible repeat (first | refine kN ?_ _ | refine kD ?_ | refine kA ?_ _)); exact BK347.out) hb); have n5_:=Aside0.mk (blk_below (g:=gb363) (o := .cells #[.string t360, .string t361] 45 (0,0)) (by (with_reducible repeat (first | refine kN ?_ _ | refine kD ?_ | refine kA ?_ _)); refine blk_far ?_ NB363_370.out _; (with_reducible repeat (first | refine kN ?_ _ | refine kD ?_ | refine kA ?_ _)); refine blk_far ?_ NB363_370.out _; (with_reducible repeat (first | refine kN ?_ _ | refine kD ?_ | refine kA ?_ _)); exact BK363.out) hb); have n6_:=Aside0.mk (blk_below (g:=gb370) (o := .cells #[.string t367, .string t368] 45 (0,0)) (by (with_reducible repeat (first | refine kN ?_ _ | refine kD ?_ | refine kA ?_ _)); refine blk_put (cs:=#[.string t367, .string (⟨#[]⟩ : ByteArray)]) ?_ 1 _ rfl; (with_reducible repeat (first | refine kN ?_ _ | refine kD ?_ | refine kA ?_ _)); refine blk_put (cs:=#[.string (⟨#[]⟩ : ByteArray), .string (⟨#[]⟩ : ByteArray)]) ?_ 0 _ rfl; (with_reducible repeat (first | refine kN ?_ _ | refine kD ?_ | refine kA ?_ _)); exact BK370.out) hb); have n7_:=Aside0.mk (below_step (by repeat (first | (with_reducible first | exact HB.out | apply bA | apply bN | apply bD | refine below_set ?_ GE347.out | refine below_set ?_ GE363.out | refine below_set ?_ GE370.out) | exact HB.out)) hb); clear HO356; clear HO359; clear HO366; clear BK347; clear BK363; clear BK370; clear HB; have HO356:=n0_; have HO359:=n1_; have HO366:=n2_; have HO373:=n3_; have BK347:=n4_; have BK363:=n5_; have BK370:=n6_; have HB:=n7_; clear n0_ n1_ n2_ n3_ n4_ n5_ n6_ n7_; (try clear hb); (try clear ho0); obtain ⟨Ao66,co66,eo66⟩:=Kd.V_slice HO373.out; subst eo66) | (go_at_call 19; (with_reducible refine (ack_Read.calls k2 _ _ t371 t374 t375 t376 _ ?side1 ?side2 A46.out (globc_below HGLOC.out (by repeat (first | (with_reducible first | exact HB.out | apply bA | apply bN | apply bD | refine below_set ?_ GE347.out | refine below_set ?_ GE363.out | refine below_set ?_ GE370.out) | exact HB.out)))).mono ?_); (case side1=>repeat (first | exact (Kd.V_reads' HO373.out).2.2 | (with_reducible refine Kd.C_alloc ?_ _) | (with_reducible refine Kd.C_drewN ?_ _) | (with_reducible refine Kd.C_drew ?_))); (case side2=>exact (Kd.V_reads' HO373.out).2.1); rintro e w67 ⟨rfl,hb⟩; have n0_:=Aside0.mk (Kd.R_below (by (with_reducible repeat (first | apply Kd.R_alloc | apply Kd.R_drewN | apply Kd.R_drew)); exact HO356.out) hb); have n1_:=Aside0.mk (Kd.V_below (by (with_reducible repeat (first | apply Kd.V_alloc | apply Kd.V_drewN | apply Kd.V_drew)); exact HO359.out) hb); have n2_:=Aside0.mk (Kd.V_below (by (with_reducible repeat (first | apply Kd.V_alloc | apply Kd.V_drewN | apply Kd.V_drew)); exact HO366.out) hb); have n3_:=Aside0.mk (Kd.V_below (by (with_reducible repeat (first | apply Kd.V_alloc | apply Kd.V_drewN | apply Kd.V_drew)); exact HO373.out) hb); have n4_:=Aside0.mk (blk_below (g:=gb347) (o := .cells #[.int .u8 a0_0, .int .u8 a0_1, .int .u8 a0_2, .int .u8 a0_3, .int .u8 a0_4, .string a0_5, .string a0_6, .string a0_7, .string a0_8, .string a0_9, .string a0_10, .string a0_11, .string a0_12, .string a0_13, .string a0_14] 25 (0,0)) (by (with_reducible repeat (first | refine kN ?_ _ | refine kD ?_ | refine kA ?_ _)); exact BK347.out) hb); have n5_:=Aside0.mk (blk_below (g:=gb363) (o := .cells #[.string t360, .string t361] 45 (0,0)) (by (with_reducible repeat (first | refine kN ?_ _ | refine kD ?_ | refine kA ?_ _)); exact BK363.out) hb); have n6_:=Aside0.mk (blk_below (g:=gb370) (o := .cells #[.string t367, .string t368] 45 (0,0)) (by (with_reducible repeat (first | refine kN ?_ _ | refine kD ?_ | refine kA ?_ _)); exact BK370.out) hb); have n7_:=Aside0.mk (below_step (by repeat (first | (with_reducible first | exact HB.out | apply bA | apply bN | apply bD | refine below_set ?_ GE347.out | refine below_set ?_ GE363.out | refine below_set ?_ GE370.out) | exact HB.out)) hb); clear HO356; clear HO359; clear HO366; clear HO373; clear BK347; clear BK363; clear BK370; clear HB; have HO356:=n0_; have HO359:=n1_; have HO366:=n2_; have HO373:=n3_; have BK347:=n4_; have BK363:=n5_; have BK370:=n6_; have HB:=n7_; clear n0_ n1_ n2_ n3_ n4_ n5_ n6_ n7_; (try clear hb)) | ((with_reducible refine gate_dst (N:=13) rfl ?_); (try (refine gate_guard (by rfl) ?_; dsimp only)); refine box_event ?hg (N:=13) ?hd (cs:=#[.string (⟨#[]⟩ : ByteArray), .string (⟨#[]⟩ : ByteArray)]) (t:=45) ?hr ?_; (case hd=>rfl); (case hg=>rfl); (case hr=>first | (go_simp; done) | (go_simp; rfl)); intro gb377 hg w68 hbox hb; have n0_:=Aside0.mk (Kd.R_below (by (with_reducible repeat (first | apply Kd.R_alloc | apply Kd.R_drewN | apply Kd.R_drew)); exact HO356.out) hb); have n1_:=Aside0.mk (Kd.V_below (Kd.V_elderB (by (with_reducible repeat (first | apply Kd.V_alloc | apply Kd.V_drewN | apply Kd.V_drew)); exact HO359.out) gb377 (Nat.le_of_eq hg.symm)) hb); have n2_:=Aside0.mk (Kd.V_below (Kd.V_elderB (by (with_reducible repeat (first | apply Kd.V_alloc | apply Kd.V_drewN | apply Kd.V_drew)); exact HO366.out) gb377 (Nat.le_of_eq hg.symm)) hb); have n3_:=Aside0.mk (Kd.V_below (Kd.V_elderB (by (with_reducible repeat (first | apply Kd.V_alloc | apply Kd.V_drewN | apply Kd.V_drew)); exact HO373.out) gb377 (Nat.le_of_eq hg.symm)) hb); have n4_:=Aside0.mk (blk_below (g:=gb347) (o := .cells #[.int .u8 a0_0, .int .u8 a0_1, .int .u8 a0_2, .int .u8 a0_3, .int .u8 a0_4, .string a0_5, .string a0_6, .string a0_7, .string a0_8, .string a0_9, .string a0_10, .string a0_11, .string a0_12, .string a0_13, .string a0_14] 25 (0,0)) (by (with_reducible repeat (first | refine kN ?_ _ | refine kD ?_ | refine kA ?_ _)); exact BK347.out) hb); have n5_:=Aside0.mk (blk_below (g:=gb363) (o := .cells #[.string t360, .string t361] 45 (0,0)) (by (with_reducible repeat (first | refine kN ?_ _ | refine kD ?_ | refine kA ?_ _)); exact BK363.out) hb); have n6_:=Aside0.mk (blk_below (g:=gb370) (o := .cells #[.string t367, .string t368] 45 (0,0)) (by (with_reducible repeat (first | refine kN ?_ _ | refine kD ?_ | refine kA ?_ _)); exact BK370.out) hb); have n7_:=Aside0.mk (below_step (by repeat (first | (with_reducible first | exact HB.out | apply bA | apply bN | apply bD | refine below_set ?_ GE347.out | refine below_set ?_ GE363.out | refine below_set ?_ GE370.out) | exact HB.out)) hb); have n8_:=Aside0.mk (hbox); have n9_:=Aside0.mk ((by rw [hg]; exact (below_size (by repeat (first | (with_reducible first | exact HB.out | apply bA | apply bN | apply bD | refine below_set ?_ GE347.out | refine below_set ?_ GE363.out | refine below_set ?_ GE370.out) | exact HB.out))) : w.heap.size≤gb377)); have n10_:=Aside0.mk ((by rw [hg]; exact (below_size (by repeat (first | (with_reducible first | exact HB.out | apply bA | apply bN | apply bD | refine below_set ?_ GE347.out | refine below_set ?_ GE363.out | refine below_set ?_ GE370.out) | exact HB.out))) : w.heap.size≤gb377)); have n11_:=Aside0.mk ((by rw [hg]; exact Nat.ne_of_lt (blk_lt (g:=gb347) (o := .cells #[.int .u8 a0_0, .int .u8 a0_1, .int .u8 a0_2, .int .u8 a0_3, .int .u8 a0_4, .string a0_5, .string a0_6, .string a0_7, .string a0_8, .string a0_9, .string a0_10, .string a0_11, .string a0_12, .string a0_13, .string a0_14] 25 (0,0)) (by (with_reducible repeat (first | refine kN ?_ _ | refine kD ?_ | refine kA ?_ _)); exact BK347.out)) : gb347 ≠ gb377)); have n12_:=Aside0.mk ((by rw [hg]; exact Nat.ne_of_gt (blk_lt (g:=gb347) (o := .cells #[.int .u8 a0_0, .int .u8 a0_1, .int .u8 a0_2, .int .u8 a0_3, .int .u8 a0_4, .string a0_5, .string a0_6, .string a0_7, .string a0_8, .string a0_9, .string a0_10, .string a0_11, .string a0_12, .string a0_13, .string a0_14] 25 (0,0)) (by (with_reducible repeat (first | refine kN ?_ _ | refine kD ?_ | refine kA ?_ _)); exact BK347.out)) : gb377 ≠ gb347)); have n13_:=Aside0.mk ((by rw [hg]; exact Nat.ne_of_lt (blk_lt (g:=gb363) (o := .cells #[.string t360, .string t361] 45 (0,0)) (by (with_reducible repeat (first | refine kN ?_ _ | refine kD ?_ | refine kA ?_ _)); exact BK363.out)) : gb363 ≠ gb377)); have n14_:=Aside0.mk ((by rw [hg]; exact Nat.ne_of_gt (blk_lt (g:=gb363) (o := .cells #[.string t360, .string t361] 45 (0,0)) (by (with_reducible repeat (first | refine kN ?_ _ | refine kD ?_ | refine kA ?_ _)); exact BK363.out)) : gb377 ≠ gb363)); have n15_:=Aside0.mk ((by rw [hg]; exact Nat.ne_of_lt (blk_lt (g:=gb370) (o := .cells #[.string t367, .string t368] 45 (0,0)) (by (with_reducible repeat (first | refine kN ?_ _ | refine kD ?_ | refine kA ?_ _)); exact BK370.out)) : gb370 ≠ gb377)); have n16_:=Aside0.mk ((by rw [hg]; exact Nat.ne_of_gt (blk_lt (g:=gb370) (o := .cells #[.string t367, .string t368] 45 (0,0)) (by (with_reducible repeat (first | refine kN ?_ _ | refine kD ?_ | refine kA ?_ _)); exact BK370.out)) : gb377 ≠ gb370)); clear HO356; clear HO359; clear HO366; clear HO373; clear BK347; clear BK363; clear BK370; clear HB; have HO356:=n0_; have HO359:=n1_; have HO366:=n2_; have HO373:=n3_; have BK347:=n4_; have BK363:=n5_; have BK370:=n6_; have HB:=n7_; have BK377:=n8_; have GW377:=n9_; have GE377:=n10_; have NB347_377:=n11_; have NB377_347:=n12_; have NB363_377:=n13_; have NB377_363:=n14_; have NB370_377:=n15_; have NB377_370:=n16_; clear n0_ n1_ n2_ n3_ n4_ n5_ n6_ n7_ n8_ n9_ n10_ n11_ n12_ n13_ n14_ n15_ n16_; clear hb hbox hg; have hnb69:=NB377_347.out; have hnc69:=NB347_377.out; have hnb70:=NB377_363.out; have hnc70:=NB363_377.out; have hnb71:=NB377_370.out; have hnc71:=NB370_377.out; have hcz72_0:w68.cell? ⟨gb377,0,none⟩=some (.string (⟨#[]⟩ : ByteArray)):=blk_cell BK377.out 0; have hcz72_1:w68.cell? ⟨gb377,1,none⟩=some (.string (⟨#[]⟩ : ByteArray)):=blk_cell BK377.out 1; have hfz72_0:=blk_frozen BK377.out 0; have hfz72_1:=blk_frozen BK377.out 1))
                 (try simp only [Act.put,sA_,s0_,s1_])
                 go_cut [100] (fun v100 wc => ∃ (kq : Nat) (x100_46 : Bool),v100 = .bool x100_46∧Aside0 (lamplighterlaw10_AckForms.j2 kq a1 t376 x100_46 t374 t375=some r)∧Aside0 (kq≤k2)∧Aside0 (wc.heap[gb347]?=some (.cells #[.int .u8 a0_0, .int .u8 a0_1, .int .u8 a0_2, .int .u8 a0_3, .int .u8 a0_4, .string a0_5, .string a0_6, .string a0_7, .string a0_8, .string a0_9, .string a0_10, .string a0_11, .string a0_12, .string a0_13, .string a0_14] 25 (0,0)))∧Aside0 (wc.heap[gb363]?=some (.cells #[.string t360, .string t361] 45 (0,0)))∧Aside0 (wc.heap[gb370]?=some (.cells #[.string t367, .string t368] 45 (0,0)))∧Aside0 (wc.heap[gb377]?=some (.cells #[.string t374, .string t375] 45 (0,0)))∧Aside0 (Below w.heap.size w wc))
                 case first =>
                  have H:=HC47.out
                  clear HC47
                  replace H:=Option.bind_eq_some_iff.mp H
                  obtain ⟨t378,A730,H⟩:=H
                  replace H : (if t378=true then (if t362=10 then (lamplighterlaw10_AckForms.j2 k2 a1 t376 (t369 != 10) t374 t375) else (lamplighterlaw10_AckForms.j2 k2 a1 t376 true t374 t375)) else (lamplighterlaw10_AckForms.j2 k2 a1 t376 true t374 t375))=some r:=H
                  have A73:=Aside0.mk A730
                  clear A730
                  by_cases c74 : t378=true
                  ·subst c74
                   have H1 : (if t362=10 then (lamplighterlaw10_AckForms.j2 k2 a1 t376 (t369 != 10) t374 t375) else (lamplighterlaw10_AckForms.j2 k2 a1 t376 true t374 t375))=some r:=by rw [if_pos rfl] at H; exact H
                   clear H
                   have H:=H1
                   clear H1
                   by_cases c75 : t362=10
                   ·rw [if_pos c75] at H
                    have c75b0 : (t362 == 10)=true:=beq_iff_eq.mpr c75
                    have c75b1 : (t362 != 10)=false:=bne_eq_false_iff_eq.mpr c75
                    clear c75
                    (first | rw [c75b0] | (simp only [i64_w,i32_w]; rw [c75b0]) | skip)
                    have H':=Aside0.mk H
                    clear H
                    go_wp2_with (first | (go_at_call 18; (with_reducible refine (lamplighterlaw10_alive.calls k2  true _ A73.out (globc_below HGLOC.out (by repeat (first | (with_reducible first | exact HB.out | apply bA | apply bN | apply bD | refine below_set ?_ GE347.out | refine below_set ?_ GE363.out | refine below_set ?_ GE370.out | refine below_set ?_ GE377.out) | exact HB.out)))).mono ?_); rintro e w76 ⟨rfl,hb⟩; have n0_:=Aside0.mk (Kd.R_below (by (with_reducible repeat (first | apply Kd.R_alloc | apply Kd.R_drewN | apply Kd.R_drew)); exact (Kd.R_mono (Kd.R_far (p:=⟨gb377,1,none⟩) (Kd.R_far (p:=⟨gb377,0,none⟩) (Kd.R_types HO356.out BK377.out (by decide)) (fun _ hk=>hk.2) (.string t374)) (fun _ hk=>hk.2) (.string t375)) (fun _ h_=>h_.1))) hb); have n1_:=Aside0.mk (Kd.V_below (by (with_reducible repeat (first | apply Kd.V_alloc | apply Kd.V_drewN | apply Kd.V_drew)); exact (Kd.V_mono (Kd.V_far (p:=⟨gb377,1,none⟩) (Kd.V_far (p:=⟨gb377,0,none⟩) (Kd.V_mono HO359.out (fun k_ hk=>(⟨hk,hk.2⟩ : _∧k_ ≠ gb377))) (fun _ hk=>hk.2) (.string t374)) (fun _ hk=>hk.2) (.string t375)) (fun _ h_=>h_.1))) hb); have n2_:=Aside0.mk (Kd.V_below (by (with_reducible repeat (first | apply Kd.V_alloc | apply Kd.V_drewN | apply Kd.V_drew)); exact (Kd.V_mono (Kd.V_far (p:=⟨gb377,1,none⟩) (Kd.V_far (p:=⟨gb377,0,none⟩) (Kd.V_mono HO366.out (fun k_ hk=>(⟨hk,hk.2⟩ : _∧k_ ≠ gb377))) (fun _ hk=>hk.2) (.string t374)) (fun _ hk=>hk.2) (.string t375)) (fun _ h_=>h_.1))) hb); have n3_:=Aside0.mk (Kd.V_below (by (with_reducible repeat (first | apply Kd.V_alloc | apply Kd.V_drewN | apply Kd.V_drew)); exact (Kd.V_mono (Kd.V_far (p:=⟨gb377,1,none⟩) (Kd.V_far (p:=⟨gb377,0,none⟩) (Kd.V_mono HO373.out (fun k_ hk=>(⟨hk,hk.2⟩ : _∧k_ ≠ gb377))) (fun _ hk=>hk.2) (.string t374)) (fun _ hk=>hk.2) (.string t375)) (fun _ h_=>h_.1))) hb); have n4_:=Aside0.mk (blk_below (g:=gb347) (o := .cells #[.int .u8 a0_0, .int .u8 a0_1, .int .u8 a0_2, .int .u8 a0_3, .int .u8 a0_4, .string a0_5, .string a0_6, .string a0_7, .string a0_8, .string a0_9, .string a0_10, .string a0_11, .string a0_12, .string a0_13, .string a0_14] 25 (0,0)) (by (with_reducible repeat (first | refine kN ?_ _ | refine kD ?_ | refine kA ?_ _)); refine blk_far ?_ NB347_377.out _; (with_reducible repeat (first | refine kN ?_ _ | refine kD ?_ | refine kA ?_ _)); refine blk_far ?_ NB347_377.out _; (with_reducible repeat (first | refine kN ?_ _ | refine kD ?_ | refine kA ?_ _)); exact BK347.out) hb); have n5_:=Aside0.mk (blk_below (g:=gb363) (o := .cells #[.string t360, .string t361] 45 (0,0)) (by (with_reducible repeat (first | refine kN ?_ _ | refine kD ?_ | refine kA ?_ _)); refine blk_far ?_ NB363_377.out _; (with_reducible repeat (first | refine kN ?_ _ | refine kD ?_ | refine kA ?_ _)); refine blk_far ?_ NB363_377.out _; (with_reducible repeat (first | refine kN ?_ _ | refine kD ?_ | refine kA ?_ _)); exact BK363.out) hb); have n6_:=Aside0.mk (blk_below (g:=gb370) (o := .cells #[.string t367, .string t368] 45 (0,0)) (by (with_reducible repeat (first | refine kN ?_ _ | refine kD ?_ | refine kA ?_ _)); refine blk_far ?_ NB370_377.out _; (with_reducible repeat (first | refine kN ?_ _ | refine kD ?_ | refine kA ?_ _)); refine blk_far ?_ NB370_377.out _; (with_reducible repeat (first | refine kN ?_ _ | refine kD ?_ | refine kA ?_ _)); exact BK370.out) hb); have n7_:=Aside0.mk (blk_below (g:=gb377) (o := .cells #[.string t374, .string t375] 45 (0,0)) (by (with_reducible repeat (first | refine kN ?_ _ | refine kD ?_ | refine kA ?_ _)); refine blk_put (cs:=#[.string t374, .string (⟨#[]⟩ : ByteArray)]) ?_ 1 _ rfl; (with_reducible repeat (first | refine kN ?_ _ | refine kD ?_ | refine kA ?_ _)); refine blk_put (cs:=#[.string (⟨#[]⟩ : ByteArray), .string (⟨#[]⟩ : ByteArray)]) ?_ 0 _ rfl; (with_reducible repeat (first | refine kN ?_ _ | refine kD ?_ | refine kA ?_ _)); exact BK377.out) hb); have n8_:=Aside0.mk (below_step (by repeat (first | (with_reducible first | exact HB.out | apply bA | apply bN | apply bD | refine below_set ?_ GE347.out | refine below_set ?_ GE363.out | refine below_set ?_ GE370.out | refine below_set ?_ GE377.out) | exact HB.out)) hb); clear HO356; clear HO359; clear HO366; clear HO373; clear BK347; clear BK363; clear BK370; clear BK377; clear HB; have HO356:=n0_; have HO359:=n1_; have HO366:=n2_; have HO373:=n3_; have BK347:=n4_; have BK363:=n5_; have BK370:=n6_; have BK377:=n7_; have HB:=n8_; clear n0_ n1_ n2_ n3_ n4_ n5_ n6_ n7_ n8_; (try clear hb)))
                    go_meet
                    case rel=>exact ⟨_,((t369 != 10)),(by first | rfl | (simp; done) | (simp [*]; done)),H',⟨by have:=HJ3.out; have:=HK2.out; first | omega | exact Nat.le_refl _⟩,⟨by (with_reducible repeat (first | refine kN ?_ _ | refine kD ?_ | refine kA ?_ _)); exact BK347.out⟩,⟨by (with_reducible repeat (first | refine kN ?_ _ | refine kD ?_ | refine kA ?_ _)); exact BK363.out⟩,⟨by (with_reducible repeat (first | refine kN ?_ _ | refine kD ?_ | refine kA ?_ _)); exact BK370.out⟩,⟨by (with_reducible repeat (first | refine kN ?_ _ | refine kD ?_ | refine kA ?_ _)); exact BK377.out⟩,⟨by repeat (first | (with_reducible first | exact HB.out | apply bA | apply bN | apply bD | refine below_set ?_ GE347.out | refine below_set ?_ GE363.out | refine below_set ?_ GE370.out | refine below_set ?_ GE377.out) | exact HB.out)⟩⟩
                   ·rw [if_neg c75] at H
                    have c75b0 : (t362 == 10)=false:=beq_eq_false_iff_ne.mpr c75
                    have c75b1 : (t362 != 10)=true:=bne_iff_ne.mpr c75
                    (first | rw [c75b0] | (simp only [i64_w,i32_w]; rw [c75b0]) | skip)
                    have H':=Aside0.mk H
                    clear H
                    go_wp2_with (first | (go_at_call 18; (with_reducible refine (lamplighterlaw10_alive.calls k2  true _ A73.out (globc_below HGLOC.out (by repeat (first | (with_reducible first | exact HB.out | apply bA | apply bN | apply bD | refine below_set ?_ GE347.out | refine below_set ?_ GE363.out | refine below_set ?_ GE370.out | refine below_set ?_ GE377.out) | exact HB.out)))).mono ?_); rintro e w77 ⟨rfl,hb⟩; have n0_:=Aside0.mk (Kd.R_below (by (with_reducible repeat (first | apply Kd.R_alloc | apply Kd.R_drewN | apply Kd.R_drew)); exact (Kd.R_mono (Kd.R_far (p:=⟨gb377,1,none⟩) (Kd.R_far (p:=⟨gb377,0,none⟩) (Kd.R_types HO356.out BK377.out (by decide)) (fun _ hk=>hk.2) (.string t374)) (fun _ hk=>hk.2) (.string t375)) (fun _ h_=>h_.1))) hb); have n1_:=Aside0.mk (Kd.V_below (by (with_reducible repeat (first | apply Kd.V_alloc | apply Kd.V_drewN | apply Kd.V_drew)); exact (Kd.V_mono (Kd.V_far (p:=⟨gb377,1,none⟩) (Kd.V_far (p:=⟨gb377,0,none⟩) (Kd.V_mono HO359.out (fun k_ hk=>(⟨hk,hk.2⟩ : _∧k_ ≠ gb377))) (fun _ hk=>hk.2) (.string t374)) (fun _ hk=>hk.2) (.string t375)) (fun _ h_=>h_.1))) hb); have n2_:=Aside0.mk (Kd.V_below (by (with_reducible repeat (first | apply Kd.V_alloc | apply Kd.V_drewN | apply Kd.V_drew)); exact (Kd.V_mono (Kd.V_far (p:=⟨gb377,1,none⟩) (Kd.V_far (p:=⟨gb377,0,none⟩) (Kd.V_mono HO366.out (fun k_ hk=>(⟨hk,hk.2⟩ : _∧k_ ≠ gb377))) (fun _ hk=>hk.2) (.string t374)) (fun _ hk=>hk.2) (.string t375)) (fun _ h_=>h_.1))) hb); have n3_:=Aside0.mk (Kd.V_below (by (with_reducible repeat (first | apply Kd.V_alloc | apply Kd.V_drewN | apply Kd.V_drew)); exact (Kd.V_mono (Kd.V_far (p:=⟨gb377,1,none⟩) (Kd.V_far (p:=⟨gb377,0,none⟩) (Kd.V_mono HO373.out (fun k_ hk=>(⟨hk,hk.2⟩ : _∧k_ ≠ gb377))) (fun _ hk=>hk.2) (.string t374)) (fun _ hk=>hk.2) (.string t375)) (fun _ h_=>h_.1))) hb); have n4_:=Aside0.mk (blk_below (g:=gb347) (o := .cells #[.int .u8 a0_0, .int .u8 a0_1, .int .u8 a0_2, .int .u8 a0_3, .int .u8 a0_4, .string a0_5, .string a0_6, .string a0_7, .string a0_8, .string a0_9, .string a0_10, .string a0_11, .string a0_12, .string a0_13, .string a0_14] 25 (0,0)) (by (with_reducible repeat (first | refine kN ?_ _ | refine kD ?_ | refine kA ?_ _)); refine blk_far ?_ NB347_377.out _; (with_reducible repeat (first | refine kN ?_ _ | refine kD ?_ | refine kA ?_ _)); refine blk_far ?_ NB347_377.out _; (with_reducible repeat (first | refine kN ?_ _ | refine kD ?_ | refine kA ?_ _)); exact BK347.out) hb); have n5_:=Aside0.mk (blk_below (g:=gb363) (o := .cells #[.string t360, .string t361] 45 (0,0)) (by (with_reducible repeat (first | refine kN ?_ _ | refine kD ?_ | refine kA ?_ _)); refine blk_far ?_ NB363_377.out _; (with_reducible repeat (first | refine kN ?_ _ | refine kD ?_ | refine kA ?_ _)); refine blk_far ?_ NB363_377.out _; (with_reducible repeat (first | refine kN ?_ _ | refine kD ?_ | refine kA ?_ _)); exact BK363.out) hb); have n6_:=Aside0.mk (blk_below (g:=gb370) (o := .cells #[.string t367, .string t368] 45 (0,0)) (by (with_reducible repeat (first | refine kN ?_ _ | refine kD ?_ | refine kA ?_ _)); refine blk_far ?_ NB370_377.out _; (with_reducible repeat (first | refine kN ?_ _ | refine kD ?_ | refine kA ?_ _)); refine blk_far ?_ NB370_377.out _; (with_reducible repeat (first | refine kN ?_ _ | refine kD ?_ | refine kA ?_ _)); exact BK370.out) hb); have n7_:=Aside0.mk (blk_below (g:=gb377) (o := .cells #[.string t374, .string t375] 45 (0,0)) (by (with_reducible repeat (first | refine kN ?_ _ | refine kD ?_ | refine kA ?_ _)); refine blk_put (cs:=#[.string t374, .string (⟨#[]⟩ : ByteArray)]) ?_ 1 _ rfl; (with_reducible repeat (first | refine kN ?_ _ | refine kD ?_ | refine kA ?_ _)); refine blk_put (cs:=#[.string (⟨#[]⟩ : ByteArray), .string (⟨#[]⟩ : ByteArray)]) ?_ 0 _ rfl; (with_reducible repeat (first | refine kN ?_ _ | refine kD ?_ | refine kA ?_ _)); exact BK377.out) hb); have n8_:=Aside0.mk (below_step (by repeat (first | (with_reducible first | exact HB.out | apply bA | apply bN | apply bD | refine below_set ?_ GE347.out | refine below_set ?_ GE363.out | refine below_set ?_ GE370.out | refine below_set ?_ GE377.out) | exact HB.out)) hb); clear HO356; clear HO359; clear HO366; clear HO373; clear BK347; clear BK363; clear BK370; clear BK377; clear HB; have HO356:=n0_; have HO359:=n1_; have HO366:=n2_; have HO373:=n3_; have BK347:=n4_; have BK363:=n5_; have BK370:=n6_; have BK377:=n7_; have HB:=n8_; clear n0_ n1_ n2_ n3_ n4_ n5_ n6_ n7_ n8_; (try clear hb)))
                    go_meet
                    case rel=>exact ⟨_,(true),(by first | rfl | (simp; done) | (simp [*]; done)),H',⟨by have:=HJ3.out; have:=HK2.out; first | omega | exact Nat.le_refl _⟩,⟨by (with_reducible repeat (first | refine kN ?_ _ | refine kD ?_ | refine kA ?_ _)); exact BK347.out⟩,⟨by (with_reducible repeat (first | refine kN ?_ _ | refine kD ?_ | refine kA ?_ _)); exact BK363.out⟩,⟨by (with_reducible repeat (first | refine kN ?_ _ | refine kD ?_ | refine kA ?_ _)); exact BK370.out⟩,⟨by (with_reducible repeat (first | refine kN ?_ _ | refine kD ?_ | refine kA ?_ _)); exact BK377.out⟩,⟨by repeat (first | (with_reducible first | exact HB.out | apply bA | apply bN | apply bD | refine below_set ?_ GE347.out | refine below_set ?_ GE363.out | refine below_set ?_ GE370.out | refine below_set ?_ GE377.out) | exact HB.out)⟩⟩
                  ·replace c74:=Bool.eq_false_iff.mpr c74
                   subst c74
                   have H1 : (lamplighterlaw10_AckForms.j2 k2 a1 t376 true t374 t375)=some r:=by rw [if_neg (show ¬ (false=true) by decide)] at H; exact H
                   clear H
                   have H:=H1
                   clear H1
                   have H':=Aside0.mk H
                   clear H
                   go_wp2_with (first | (go_at_call 18; (with_reducible refine (lamplighterlaw10_alive.calls k2  false _ A73.out (globc_below HGLOC.out (by repeat (first | (with_reducible first | exact HB.out | apply bA | apply bN | apply bD | refine below_set ?_ GE347.out | refine below_set ?_ GE363.out | refine below_set ?_ GE370.out | refine below_set ?_ GE377.out) | exact HB.out)))).mono ?_); rintro e w78 ⟨rfl,hb⟩; have n0_:=Aside0.mk (Kd.R_below (by (with_reducible repeat (first | apply Kd.R_alloc | apply Kd.R_drewN | apply Kd.R_drew)); exact (Kd.R_mono (Kd.R_far (p:=⟨gb377,1,none⟩) (Kd.R_far (p:=⟨gb377,0,none⟩) (Kd.R_types HO356.out BK377.out (by decide)) (fun _ hk=>hk.2) (.string t374)) (fun _ hk=>hk.2) (.string t375)) (fun _ h_=>h_.1))) hb); have n1_:=Aside0.mk (Kd.V_below (by (with_reducible repeat (first | apply Kd.V_alloc | apply Kd.V_drewN | apply Kd.V_drew)); exact (Kd.V_mono (Kd.V_far (p:=⟨gb377,1,none⟩) (Kd.V_far (p:=⟨gb377,0,none⟩) (Kd.V_mono HO359.out (fun k_ hk=>(⟨hk,hk.2⟩ : _∧k_ ≠ gb377))) (fun _ hk=>hk.2) (.string t374)) (fun _ hk=>hk.2) (.string t375)) (fun _ h_=>h_.1))) hb); have n2_:=Aside0.mk (Kd.V_below (by (with_reducible repeat (first | apply Kd.V_alloc | apply Kd.V_drewN | apply Kd.V_drew)); exact (Kd.V_mono (Kd.V_far (p:=⟨gb377,1,none⟩) (Kd.V_far (p:=⟨gb377,0,none⟩) (Kd.V_mono HO366.out (fun k_ hk=>(⟨hk,hk.2⟩ : _∧k_ ≠ gb377))) (fun _ hk=>hk.2) (.string t374)) (fun _ hk=>hk.2) (.string t375)) (fun _ h_=>h_.1))) hb); have n3_:=Aside0.mk (Kd.V_below (by (with_reducible repeat (first | apply Kd.V_alloc | apply Kd.V_drewN | apply Kd.V_drew)); exact (Kd.V_mono (Kd.V_far (p:=⟨gb377,1,none⟩) (Kd.V_far (p:=⟨gb377,0,none⟩) (Kd.V_mono HO373.out (fun k_ hk=>(⟨hk,hk.2⟩ : _∧k_ ≠ gb377))) (fun _ hk=>hk.2) (.string t374)) (fun _ hk=>hk.2) (.string t375)) (fun _ h_=>h_.1))) hb); have n4_:=Aside0.mk (blk_below (g:=gb347) (o := .cells #[.int .u8 a0_0, .int .u8 a0_1, .int .u8 a0_2, .int .u8 a0_3, .int .u8 a0_4, .string a0_5, .string a0_6, .string a0_7, .string a0_8, .string a0_9, .string a0_10, .string a0_11, .string a0_12, .string a0_13, .string a0_14] 25 (0,0)) (by (with_reducible repeat (first | refine kN ?_ _ | refine kD ?_ | refine kA ?_ _)); refine blk_far ?_ NB347_377.out _; (with_reducible repeat (first | refine kN ?_ _ | refine kD ?_ | refine kA ?_ _)); refine blk_far ?_ NB347_377.out _; (with_reducible repeat (first | refine kN ?_ _ | refine kD ?_ | refine kA ?_ _)); exact BK347.out) hb); have n5_:=Aside0.mk (blk_below (g:=gb363) (o := .cells #[.string t360, .string t361] 45 (0,0)) (by (with_reducible repeat (first | refine kN ?_ _ | refine kD ?_ | refine kA ?_ _)); refine blk_far ?_ NB363_377.out _; (with_reducible repeat (first | refine kN ?_ _ | refine kD ?_ | refine kA ?_ _)); refine blk_far ?_ NB363_377.out _; (with_reducible repeat (first | refine kN ?_ _ | refine kD ?_ | refine kA ?_ _)); exact BK363.out) hb); have n6_:=Aside0.mk (blk_below (g:=gb370) (o := .cells #[.string t367, .string t368] 45 (0,0)) (by (with_reducible repeat (first | refine kN ?_ _ | refine kD ?_ | refine kA ?_ _)); refine blk_far ?_ NB370_377.out _; (with_reducible repeat (first | refine kN ?_ _ | refine kD ?_ | refine kA ?_ _)); refine blk_far ?_ NB370_377.out _; (with_reducible repeat (first | refine kN ?_ _ | refine kD ?_ | refine kA ?_ _)); exact BK370.out) hb); have n7_:=Aside0.mk (blk_below (g:=gb377) (o := .cells #[.string t374, .string t375] 45 (0,0)) (by (with_reducible repeat (first | refine kN ?_ _ | refine kD ?_ | refine kA ?_ _)); refine blk_put (cs:=#[.string t374, .string (⟨#[]⟩ : ByteArray)]) ?_ 1 _ rfl; (with_reducible repeat (first | refine kN ?_ _ | refine kD ?_ | refine kA ?_ _)); refine blk_put (cs:=#[.string (⟨#[]⟩ : ByteArray), .string (⟨#[]⟩ : ByteArray)]) ?_ 0 _ rfl; (with_reducible repeat (first | refine kN ?_ _ | refine kD ?_ | refine kA ?_ _)); exact BK377.out) hb); have n8_:=Aside0.mk (below_step (by repeat (first | (with_reducible first | exact HB.out | apply bA | apply bN | apply bD | refine below_set ?_ GE347.out | refine below_set ?_ GE363.out | refine below_set ?_ GE370.out | refine below_set ?_ GE377.out) | exact HB.out)) hb); clear HO356; clear HO359; clear HO366; clear HO373; clear BK347; clear BK363; clear BK370; clear BK377; clear HB; have HO356:=n0_; have HO359:=n1_; have HO366:=n2_; have HO373:=n3_; have BK347:=n4_; have BK363:=n5_; have BK370:=n6_; have BK377:=n7_; have HB:=n8_; clear n0_ n1_ n2_ n3_ n4_ n5_ n6_ n7_ n8_; (try clear hb)))
                   go_meet
                   case rel=>exact ⟨_,(true),(by first | rfl | (simp; done) | (simp [*]; done)),H',⟨by have:=HJ3.out; have:=HK2.out; first | omega | exact Nat.le_refl _⟩,⟨by (with_reducible repeat (first | refine kN ?_ _ | refine kD ?_ | refine kA ?_ _)); exact BK347.out⟩,⟨by (with_reducible repeat (first | refine kN ?_ _ | refine kD ?_ | refine kA ?_ _)); exact BK363.out⟩,⟨by (with_reducible repeat (first | refine kN ?_ _ | refine kD ?_ | refine kA ?_ _)); exact BK370.out⟩,⟨by (with_reducible repeat (first | refine kN ?_ _ | refine kD ?_ | refine kA ?_ _)); exact BK377.out⟩,⟨by repeat (first | (with_reducible first | exact HB.out | apply bA | apply bN | apply bD | refine below_set ?_ GE347.out | refine below_set ?_ GE363.out | refine below_set ?_ GE370.out | refine below_set ?_ GE377.out) | exact HB.out)⟩⟩
                 case rest =>
                  clear HC47
                  try clear c1
                  try clear c2
                  try clear p2
                  try clear q2
                  try clear hx2
                  try clear c3
                  try clear c4
                  try clear c5
                  try clear hcv5
                  try clear c6
                  try clear p6
                  try clear c7
                  try clear c8
                  try clear c8b0
                  try clear c8b1
                  try clear c10
                  try clear c15
                  try clear c18
                  try clear c18b0
                  try clear c19
                  try clear c19b0
                  try clear c20
                  try clear c20b0
                  try clear p21
                  try clear q21
                  try clear hx21
                  try clear c22
                  try clear c22b0
                  try clear c22b1
                  try clear p25
                  try clear q25
                  try clear hx25
                  try clear c26
                  try clear c26b0
                  try clear c26b1
                  try clear c31
                  try clear c31b0
                  try clear c31b1
                  try clear c31b2
                  try clear c34
                  try clear c34b0
                  try clear c34b1
                  try clear c34b2
                  try clear c35
                  try clear c35b0
                  try clear c35b1
                  try clear c35b2
                  try clear c36
                  try clear c36b0
                  try clear c36b1
                  try clear c36b2
                  try clear c37
                  try clear c37b0
                  try clear c37b1
                  try clear c37b2
                  try clear c38
                  try clear c38b0
                  try clear c38b1
                  try clear c38b2
                  try clear c41
                  try clear c41b0
                  try clear c41b1
                  try clear c41b2
                  try clear c42
                  try clear c42b0
                  try clear c42b1
                  try clear c42b2
                  try clear c43
                  try clear c43b0
                  try clear c43b1
                  try clear c43b2
                  try clear c44
                  try clear c44b0
                  try clear c44b1
                  try clear c44b2
                  try clear hcv51
                  try clear c56
                  try clear c62
                  try clear c63
                  try clear p64
                  try clear c69
                  try clear c70
                  try clear c71
                  try clear c74
                  try clear c75
                  try clear c75b0
                  try clear c75b1
                  try clear hcz11_0
                  try clear hcz11_1
                  try clear hcz11_10
                  try clear hcz11_11
                  try clear hcz11_12
                  try clear hcz11_13
                  try clear hcz11_14
                  try clear hcz11_2
                  try clear hcz11_3
                  try clear hcz11_4
                  try clear hcz11_5
                  try clear hcz11_6
                  try clear hcz11_7
                  try clear hcz11_8
                  try clear hcz11_9
                  try clear hcz13_0
                  try clear hcz13_1
                  try clear hcz13_10
                  try clear hcz13_11
                  try clear hcz13_12
                  try clear hcz13_13
                  try clear hcz13_14
                  try clear hcz13_2
                  try clear hcz13_3
                  try clear hcz13_4
                  try clear hcz13_5
                  try clear hcz13_6
                  try clear hcz13_7
                  try clear hcz13_8
                  try clear hcz13_9
                  try clear hcz28_0
                  try clear hcz28_1
                  try clear hcz28_10
                  try clear hcz28_11
                  try clear hcz28_12
                  try clear hcz28_13
                  try clear hcz28_14
                  try clear hcz28_2
                  try clear hcz28_3
                  try clear hcz28_4
                  try clear hcz28_5
                  try clear hcz28_6
                  try clear hcz28_7
                  try clear hcz28_8
                  try clear hcz28_9
                  try clear hcz30_0
                  try clear hcz30_1
                  try clear hcz30_10
                  try clear hcz30_11
                  try clear hcz30_12
                  try clear hcz30_13
                  try clear hcz30_14
                  try clear hcz30_2
                  try clear hcz30_3
                  try clear hcz30_4
                  try clear hcz30_5
                  try clear hcz30_6
                  try clear hcz30_7
                  try clear hcz30_8
                  try clear hcz30_9
                  try clear hcz48_0
                  try clear hcz48_1
                  try clear hcz48_10
                  try clear hcz48_11
                  try clear hcz48_12
                  try clear hcz48_13
                  try clear hcz48_14
                  try clear hcz48_2
                  try clear hcz48_3
                  try clear hcz48_4
                  try clear hcz48_5
                  try clear hcz48_6
                  try clear hcz48_7
                  try clear hcz48_8
                  try clear hcz48_9
                  try clear hcz57_0
                  try clear hcz57_1
                  try clear hcz64_0
                  try clear hcz64_1
                  try clear hcz6_0
                  try clear hcz6_1
                  try clear hcz6_10
                  try clear hcz6_11
                  try clear hcz6_12
                  try clear hcz6_13
                  try clear hcz6_14
                  try clear hcz6_2
                  try clear hcz6_3
                  try clear hcz6_4
                  try clear hcz6_5
                  try clear hcz6_6
                  try clear hcz6_7
                  try clear hcz6_8
                  try clear hcz6_9
                  try clear hcz72_0
                  try clear hcz72_1
                  try clear hfz11_0
                  try clear hfz11_1
                  try clear hfz11_10
                  try clear hfz11_11
                  try clear hfz11_12
                  try clear hfz11_13
                  try clear hfz11_14
                  try clear hfz11_2
                  try clear hfz11_3
                  try clear hfz11_4
                  try clear hfz11_5
                  try clear hfz11_6
                  try clear hfz11_7
                  try clear hfz11_8
                  try clear hfz11_9
                  try clear hfz13_0
                  try clear hfz13_1
                  try clear hfz13_10
                  try clear hfz13_11
                  try clear hfz13_12
                  try clear hfz13_13
                  try clear hfz13_14
                  try clear hfz13_2
                  try clear hfz13_3
                  try clear hfz13_4
                  try clear hfz13_5
                  try clear hfz13_6
                  try clear hfz13_7
                  try clear hfz13_8
                  try clear hfz13_9
                  try clear hfz28_0
                  try clear hfz28_1
                  try clear hfz28_10
                  try clear hfz28_11
                  try clear hfz28_12
                  try clear hfz28_13
                  try clear hfz28_14
                  try clear hfz28_2
                  try clear hfz28_3
                  try clear hfz28_4
                  try clear hfz28_5
                  try clear hfz28_6
                  try clear hfz28_7
                  try clear hfz28_8
                  try clear hfz28_9
                  try clear hfz30_0
                  try clear hfz30_1
                  try clear hfz30_10
                  try clear hfz30_11
                  try clear hfz30_12
                  try clear hfz30_13
                  try clear hfz30_14
                  try clear hfz30_2
                  try clear hfz30_3
                  try clear hfz30_4
                  try clear hfz30_5
                  try clear hfz30_6
                  try clear hfz30_7
                  try clear hfz30_8
                  try clear hfz30_9
                  try clear hfz48_0
                  try clear hfz48_1
                  try clear hfz48_10
                  try clear hfz48_11
                  try clear hfz48_12
                  try clear hfz48_13
                  try clear hfz48_14
                  try clear hfz48_2
                  try clear hfz48_3
                  try clear hfz48_4
                  try clear hfz48_5
                  try clear hfz48_6
                  try clear hfz48_7
                  try clear hfz48_8
                  try clear hfz48_9
                  try clear hfz57_0
                  try clear hfz57_1
                  try clear hfz64_0
                  try clear hfz64_1
                  try clear hfz6_0
                  try clear hfz6_1
                  try clear hfz6_10
                  try clear hfz6_11
                  try clear hfz6_12
                  try clear hfz6_13
                  try clear hfz6_14
                  try clear hfz6_2
                  try clear hfz6_3
                  try clear hfz6_4
                  try clear hfz6_5
                  try clear hfz6_6
                  try clear hfz6_7
                  try clear hfz6_8
                  try clear hfz6_9
                  try clear hfz72_0
                  try clear hfz72_1
                  try clear p2
                  try clear p21
                  try clear p25
                  try clear q21
                  try clear q25
                  obtain ⟨kq,x100_46,rfl,HA,HJ46,BK347,BK363,BK370,BK377,HB⟩:=hcut
                  cases kq with
                  | zero=>exact absurd HA.out (by simp [lamplighterlaw10_AckForms.j2])
                  | succ kj46 =>
                   have H:=HA.out
                   clear HA
                   simp only [lamplighterlaw10_AckForms.j2] at H
                   by_cases c79 : x100_46=true
                   ·subst c79
                    have H1 : (some false)=some r:=by rw [if_pos rfl] at H; exact H
                    clear H
                    have H:=H1
                    clear H1
                    obtain rfl:=Option.some.inj H
                    cases hrt
                   ·replace c79:=Bool.eq_false_iff.mpr c79
                    subst c79
                    have H1 : ((ack_Known.f kj46 a1).bind fun t379=>(if t379=true then (if t376=0 then (some (t374.toList == a1.toList && (t375.toList == ([49] : List UInt8)))) else (some false)) else (if t376=17 then (some (t374.toList == ([] : List UInt8) && (t375.toList == ([] : List UInt8)))) else (some false))))=some r:=by rw [if_neg (show ¬ (false=true) by decide)] at H; exact H
                    clear H
                    have H:=H1
                    clear H1
                    replace H:=Option.bind_eq_some_iff.mp H
                    obtain ⟨t379,A800,H⟩:=H
                    replace H : (if t379=true then (if t376=0 then (some (t374.toList == a1.toList && (t375.toList == ([49] : List UInt8)))) else (some false)) else (if t376=17 then (some (t374.toList == ([] : List UInt8) && (t375.toList == ([] : List UInt8)))) else (some false)))=some r:=H
                    have A80:=Aside0.mk A800
                    clear A800
                    by_cases c81 : t379=true
                    ·subst c81
                     have H1 : (if t376=0 then (some (t374.toList == a1.toList && (t375.toList == ([49] : List UInt8)))) else (some false))=some r:=by rw [if_pos rfl] at H; exact H
                     clear H
                     have H:=H1
                     clear H1
                     by_cases c82 : t376=0
                     ·rw [if_pos c82] at H
                      have c82b0 : (t376 == 0)=true:=beq_iff_eq.mpr c82
                      have c82b1 : (t376 != 0)=false:=bne_eq_false_iff_eq.mpr c82
                      clear c82
                      obtain rfl:=Option.some.inj H
                      clear hrt
                      go_wp2_with (first | (go_at_call 23; (with_reducible refine (ack_Known.calls kj46 a1 true _ A80.out (globc_below HGLOC.out (by repeat (first | (with_reducible first | exact HB.out | apply bA | apply bN | apply bD | refine below_set ?_ GE347.out | refine below_set ?_ GE363.out | refine below_set ?_ GE370.out | refine below_set ?_ GE377.out) | exact HB.out)))).mono ?_); rintro e w' ⟨rfl,⟨nd,rfl⟩⟩; (try first | exact ⟨rfl,_,World.drewN_drewN _ _ _⟩ | exact ⟨rfl,_,Eq.trans (World.drewN_drewN _ _ _) (congrArg (World.drewN _) (Nat.add_assoc _ _ _))⟩); have hnb83:=NB377_347.out; have hnc83:=NB347_377.out; have hnb84:=NB377_363.out; have hnc84:=NB363_377.out; have hnb85:=NB377_370.out; have hnc85:=NB370_377.out; have hcz86_0:wc.cell? ⟨gb377,0,none⟩=some (.string t374):=blk_cell BK377.out 0; have hcz86_1:wc.cell? ⟨gb377,1,none⟩=some (.string t375):=blk_cell BK377.out 1; have hfz86_0:=blk_frozen BK377.out 0; have hfz86_1:=blk_frozen BK377.out 1))
                      repeat (go_quiet (first | (go_at_call 23; (with_reducible refine (ack_Known.calls kj46 a1 true _ A80.out (globc_below HGLOC.out (by repeat (first | (with_reducible first | exact HB.out | apply bA | apply bN | apply bD | refine below_set ?_ GE347.out | refine below_set ?_ GE363.out | refine below_set ?_ GE370.out | refine below_set ?_ GE377.out) | exact HB.out)))).mono ?_); rintro e w' ⟨rfl,⟨nd,rfl⟩⟩; (try first | exact ⟨rfl,_,World.drewN_drewN _ _ _⟩ | exact ⟨rfl,_,Eq.trans (World.drewN_drewN _ _ _) (congrArg (World.drewN _) (Nat.add_assoc _ _ _))⟩); have hnb83:=NB377_347.out; have hnc83:=NB347_377.out; have hnb84:=NB377_363.out; have hnc84:=NB363_377.out; have hnb85:=NB377_370.out; have hnc85:=NB370_377.out; have hcz86_0:wc.cell? ⟨gb377,0,none⟩=some (.string t374):=blk_cell BK377.out 0; have hcz86_1:wc.cell? ⟨gb377,1,none⟩=some (.string t375):=blk_cell BK377.out 1; have hfz86_0:=blk_frozen BK377.out 0; have hfz86_1:=blk_frozen BK377.out 1)); try go_wp2_with (first | (go_at_call 23; (with_reducible refine (ack_Known.calls kj46 a1 true _ A80.out (globc_below HGLOC.out (by repeat (first | (with_reducible first | exact HB.out | apply bA | apply bN | apply bD | refine below_set ?_ GE347.out | refine below_set ?_ GE363.out | refine below_set ?_ GE370.out | refine below_set ?_ GE377.out) | exact HB.out)))).mono ?_); rintro e w' ⟨rfl,⟨nd,rfl⟩⟩; (try first | exact ⟨rfl,_,World.drewN_drewN _ _ _⟩ | exact ⟨rfl,_,Eq.trans (World.drewN_drewN _ _ _) (congrArg (World.drewN _) (Nat.add_assoc _ _ _))⟩); have hnb83:=NB377_347.out; have hnc83:=NB347_377.out; have hnb84:=NB377_363.out; have hnc84:=NB363_377.out; have hnb85:=NB377_370.out; have hnc85:=NB370_377.out; have hcz86_0:wc.cell? ⟨gb377,0,none⟩=some (.string t374):=blk_cell BK377.out 0; have hcz86_1:wc.cell? ⟨gb377,1,none⟩=some (.string t375):=blk_cell BK377.out 1; have hfz86_0:=blk_frozen BK377.out 0; have hfz86_1:=blk_frozen BK377.out 1)))
                      go_ret
                      exact ⟨by first | rfl | (simp [errW_none,errW_some] <;> rfl) | (simp [*,errW_none,errW_some] <;> rfl),by repeat (first | (with_reducible first | exact HB.out | apply bA | apply bN | apply bD | refine below_set ?_ GE347.out | refine below_set ?_ GE363.out | refine below_set ?_ GE370.out | refine below_set ?_ GE377.out) | exact HB.out)⟩
                     ·rw [if_neg c82] at H
                      have c82b0 : (t376 == 0)=false:=beq_eq_false_iff_ne.mpr c82
                      have c82b1 : (t376 != 0)=true:=bne_iff_ne.mpr c82
                      obtain rfl:=Option.some.inj H
                      cases hrt
                    ·replace c81:=Bool.eq_false_iff.mpr c81
                     subst c81
                     have H1 : (if t376=17 then (some (t374.toList == ([] : List UInt8) && (t375.toList == ([] : List UInt8)))) else (some false))=some r:=by rw [if_neg (show ¬ (false=true) by decide)] at H; exact H
                     clear H
                     have H:=H1
                     clear H1
                     by_cases c87 : t376=17
                     ·rw [if_pos c87] at H
                      have c87b0 : (t376 == 17)=true:=beq_iff_eq.mpr c87
                      have c87b1 : (t376 != 17)=false:=bne_eq_false_iff_eq.mpr c87
                      clear c87
                      obtain rfl:=Option.some.inj H
                      clear hrt
                      go_wp2_with (first | (go_at_call 23; (with_reducible refine (ack_Known.calls kj46 a1 false _ A80.out (globc_below HGLOC.out (by repeat (first | (with_reducible first | exact HB.out | apply bA | apply bN | apply bD | refine below_set ?_ GE347.out | refine below_set ?_ GE363.out | refine below_set ?_ GE370.out | refine below_set ?_ GE377.out) | exact HB.out)))).mono ?_); rintro e w' ⟨rfl,⟨nd,rfl⟩⟩; (try first | exact ⟨rfl,_,World.drewN_drewN _ _ _⟩ | exact ⟨rfl,_,Eq.trans (World.drewN_drewN _ _ _) (congrArg (World.drewN _) (Nat.add_assoc _ _ _))⟩); have hnb88:=NB377_347.out; have hnc88:=NB347_377.out; have hnb89:=NB377_363.out; have hnc89:=NB363_377.out; have hnb90:=NB377_370.out; have hnc90:=NB370_377.out; have hcz91_0:wc.cell? ⟨gb377,0,none⟩=some (.string t374):=blk_cell BK377.out 0; have hcz91_1:wc.cell? ⟨gb377,1,none⟩=some (.string t375):=blk_cell BK377.out 1; have hfz91_0:=blk_frozen BK377.out 0; have hfz91_1:=blk_frozen BK377.out 1))
                      repeat (go_quiet (first | (go_at_call 23; (with_reducible refine (ack_Known.calls kj46 a1 false _ A80.out (globc_below HGLOC.out (by repeat (first | (with_reducible first | exact HB.out | apply bA | apply bN | apply bD | refine below_set ?_ GE347.out | refine below_set ?_ GE363.out | refine below_set ?_ GE370.out | refine below_set ?_ GE377.out) | exact HB.out)))).mono ?_); rintro e w' ⟨rfl,⟨nd,rfl⟩⟩; (try first | exact ⟨rfl,_,World.drewN_drewN _ _ _⟩ | exact ⟨rfl,_,Eq.trans (World.drewN_drewN _ _ _) (congrArg (World.drewN _) (Nat.add_assoc _ _ _))⟩); have hnb88:=NB377_347.out; have hnc88:=NB347_377.out; have hnb89:=NB377_363.out; have hnc89:=NB363_377.out; have hnb90:=NB377_370.out; have hnc90:=NB370_377.out; have hcz91_0:wc.cell? ⟨gb377,0,none⟩=some (.string t374):=blk_cell BK377.out 0; have hcz91_1:wc.cell? ⟨gb377,1,none⟩=some (.string t375):=blk_cell BK377.out 1; have hfz91_0:=blk_frozen BK377.out 0; have hfz91_1:=blk_frozen BK377.out 1)); try go_wp2_with (first | (go_at_call 23; (with_reducible refine (ack_Known.calls kj46 a1 false _ A80.out (globc_below HGLOC.out (by repeat (first | (with_reducible first | exact HB.out | apply bA | apply bN | apply bD | refine below_set ?_ GE347.out | refine below_set ?_ GE363.out | refine below_set ?_ GE370.out | refine below_set ?_ GE377.out) | exact HB.out)))).mono ?_); rintro e w' ⟨rfl,⟨nd,rfl⟩⟩; (try first | exact ⟨rfl,_,World.drewN_drewN _ _ _⟩ | exact ⟨rfl,_,Eq.trans (World.drewN_drewN _ _ _) (congrArg (World.drewN _) (Nat.add_assoc _ _ _))⟩); have hnb88:=NB377_347.out; have hnc88:=NB347_377.out; have hnb89:=NB377_363.out; have hnc89:=NB363_377.out; have hnb90:=NB377_370.out; have hnc90:=NB370_377.out; have hcz91_0:wc.cell? ⟨gb377,0,none⟩=some (.string t374):=blk_cell BK377.out 0; have hcz91_1:wc.cell? ⟨gb377,1,none⟩=some (.string t375):=blk_cell BK377.out 1; have hfz91_0:=blk_frozen BK377.out 0; have hfz91_1:=blk_frozen BK377.out 1)))
                      go_ret
                      exact ⟨by first | rfl | (simp [errW_none,errW_some] <;> rfl) | (simp [*,errW_none,errW_some] <;> rfl),by repeat (first | (with_reducible first | exact HB.out | apply bA | apply bN | apply bD | refine below_set ?_ GE347.out | refine below_set ?_ GE363.out | refine below_set ?_ GE370.out | refine below_set ?_ GE377.out) | exact HB.out)⟩
                     ·rw [if_neg c87] at H
                      have c87b0 : (t376 == 17)=false:=beq_eq_false_iff_ne.mpr c87
                      have c87b1 : (t376 != 17)=true:=bne_iff_ne.mpr c87
                      obtain rfl:=Option.some.inj H
                      cases hrt
                ·rw [if_neg c44] at H
                 exact absurd H (by simp)
               ·rw [if_neg c43] at H
                exact absurd H (by simp)
              ·rw [if_neg c42] at H
               exact absurd H (by simp)
             ·rw [if_neg c41] at H
              exact absurd H (by simp)
            ·rw [if_neg c38] at H
             exact absurd H (by simp)
           ·rw [if_neg c37] at H
            exact absurd H (by simp)
          ·rw [if_neg c36] at H
           exact absurd H (by simp)
         ·rw [if_neg c35] at H
          exact absurd H (by simp)
        ·rw [if_neg c34] at H
         exact absurd H (by simp)
       ·rw [if_neg c31] at H
        exact absurd H (by simp)

end Go.Proofs.YtcjcaojgminjpabDoor.PB
