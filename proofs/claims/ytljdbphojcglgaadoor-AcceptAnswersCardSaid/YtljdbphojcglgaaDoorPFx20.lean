import Derived.Test.YtljdbphojcglgaaDoorPFx0
import Derived.Test.YtljdbphojcglgaaDoorPFx7
import Derived.Test.YtljdbphojcglgaaDoorPFx14
import Derived.Test.YtljdbphojcglgaaDoorPFx15
import Derived.Test.YtljdbphojcglgaaDoorPFx16
import Derived.Test.YtljdbphojcglgaaDoorPFx17
import Derived.Test.YtljdbphojcglgaaDoorPFx18
import Derived.Test.YtljdbphojcglgaaDoorPFx19
namespace Go.Proofs.YtljdbphojcglgaaDoor.PF
open Go.RowKit Go.Proofs.YtljdbphojcglgaaDoorW.PrintWords Go.Proofs.YtljdbphojcglgaaDoorW.PrintLast Go.Proofs.YtljdbphojcglgaaDoorW.PrintMore
set_option maxHeartbeats 8000000
set_option maxRecDepth 100000
attribute [local go_sem] max2_int min2_int max_two min_two max_three min_three max_four min_four
set_option linter.unusedVariables false
set_option linter.unusedSimpArgs false

/-! ### lamplighterlaw11_AcceptAnswers: function 3 -/
def lamplighterlaw11_AcceptAnswers.j0 : Nat→List Int→ByteArray→Int→Bool→ByteArray→ByteArray→Option (Bool)
 | 0,_,_,_,_,_,_=>none
 | k + 1,x0,x6,x7,x80,x336000,x336001=>if x80=true then (some false) else ((lamplighterlaw11_alive.f k).bind fun t337=>(if t337=true then ((accept_Stored.f k x0).bind fun t338=>(if (t338 == (x7 == 0))=true then (if x6.toList=x336000.toList then (some true) else (if x6.toList=([65,65] : List UInt8) then (some (x336000.toList == ([65,69] : List UInt8))) else (some false))) else (some false))) else (some false)))
def lamplighterlaw11_AcceptAnswers.f (k : Nat) (l0 : List Int) (a1 : Bool) : Option (Bool):=if (l0.length : Int) > 3000 then ((lamplighterlaw11_alive.f k).bind fun t303=>(some t303)) else ((accept_Verdict.f k l0).bind fun bt304=>((accept_Reply.f k l0 a1).bind fun bt322=>(if bt322.2=true then ((frame_Unwrap.f bt322.1).bind fun bt328=>((ack_Read.f k bt328.1).bind fun bt332=>(if bt328.2=0 then (if bt332.2.2=0 then (if bt332.2.1.toList=bt304.2.2.2.2.2.2.2.2.2.2.2.2.1.toList then (if a1=true then ((accept_Stored.f k l0).bind fun t336=>(lamplighterlaw11_AcceptAnswers.j0 k l0 bt304.2.2.2.2.2.2.2.2.2.2.2.2.2.2.2.1 bt304.2.2.2.2.2.2.2.2.2.2.2.2.2.2.2.2 ((bt332.1.toList == ([65,65] : List UInt8)) != t336) bt332.1 bt332.2.1)) else (lamplighterlaw11_AcceptAnswers.j0 k l0 bt304.2.2.2.2.2.2.2.2.2.2.2.2.2.2.2.1 bt304.2.2.2.2.2.2.2.2.2.2.2.2.2.2.2.2 ((bt332.1.toList == ([65,65] : List UInt8)) != false) bt332.1 bt332.2.1)) else (lamplighterlaw11_AcceptAnswers.j0 k l0 bt304.2.2.2.2.2.2.2.2.2.2.2.2.2.2.2.1 bt304.2.2.2.2.2.2.2.2.2.2.2.2.2.2.2.2 true bt332.1 bt332.2.1)) else (lamplighterlaw11_AcceptAnswers.j0 k l0 bt304.2.2.2.2.2.2.2.2.2.2.2.2.2.2.2.1 bt304.2.2.2.2.2.2.2.2.2.2.2.2.2.2.2.2 true bt332.1 bt332.2.1)) else (lamplighterlaw11_AcceptAnswers.j0 k l0 bt304.2.2.2.2.2.2.2.2.2.2.2.2.2.2.2.1 bt304.2.2.2.2.2.2.2.2.2.2.2.2.2.2.2.2 true bt332.1 bt332.2.1)))) else ((lamplighterlaw11_alive.f k).bind fun t326=>(if t326=true then (if (bt322.1.length : Int)=0 then (if bt304.2.2.2.2.2.2.2.2.2.2.2.2.2.2.2.1.toList=([] : List UInt8) then (some true) else ((lamplighterref04_Good.f k l0).bind fun t327=>(some (!t327)))) else (some false)) else (some false))))))
theorem lamplighterlaw11_AcceptAnswers.mono_l : ∀ k,(∀ y0 y1 y2 y3 y4 y5,LeO (lamplighterlaw11_AcceptAnswers.j0 k y0 y1 y2 y3 y4 y5) (lamplighterlaw11_AcceptAnswers.j0 (k + 1) y0 y1 y2 y3 y4 y5))
 | 0=>fun _ _ _ _ _ _ r h=>by simp [lamplighterlaw11_AcceptAnswers.j0] at h
 | k + 1=>by
  have ih0:=lamplighterlaw11_AcceptAnswers.mono_l k
  ·intro y0 y1 y2 y3 y4 y5
   unfold lamplighterlaw11_AcceptAnswers.j0
   repeat' first
   | (with_reducible exact ih0 _ _ _ _ _ _)
   | (with_reducible exact accept_Reply.mono _ _ _)
   | (with_reducible exact accept_Stored.mono _ _)
   | (with_reducible exact accept_Verdict.mono _ _)
   | (with_reducible exact ack_Read.mono _ _)
   | (with_reducible exact lamplighterlaw11_alive.mono _)
   | (with_reducible exact lamplighterref04_Good.mono _ _)
   | (with_reducible exact LeO.refl _)
   | (with_reducible exact LeO.none _)
   | (with_reducible refine LeO.ite ?_ ?_)
   | (with_reducible refine LeO.bind ?_ (fun _=>?_))
   | exact ih0 _ _ _ _ _ _
   | exact accept_Reply.mono _ _ _
   | exact accept_Stored.mono _ _
   | exact accept_Verdict.mono _ _
   | exact ack_Read.mono _ _
   | exact lamplighterlaw11_alive.mono _
   | exact lamplighterref04_Good.mono _ _
   | exact LeO.none _
   | refine LeO.ite ?_ ?_
   | refine LeO.bind ?_ (fun _=>?_)
theorem lamplighterlaw11_AcceptAnswers.mono : ∀ a0 a1 k,LeO (lamplighterlaw11_AcceptAnswers.f k a0 a1) (lamplighterlaw11_AcceptAnswers.f (k + 1) a0 a1):=by
 intro a0 a1 k
 have ih0:=lamplighterlaw11_AcceptAnswers.mono_l k
 unfold lamplighterlaw11_AcceptAnswers.f
 repeat' first
   | (with_reducible exact ih0 _ _ _ _ _ _)
   | (with_reducible exact accept_Reply.mono _ _ _)
   | (with_reducible exact accept_Stored.mono _ _)
   | (with_reducible exact accept_Verdict.mono _ _)
   | (with_reducible exact ack_Read.mono _ _)
   | (with_reducible exact lamplighterlaw11_alive.mono _)
   | (with_reducible exact lamplighterref04_Good.mono _ _)
   | (with_reducible exact LeO.refl _)
   | (with_reducible exact LeO.none _)
   | (with_reducible refine LeO.ite ?_ ?_)
   | (with_reducible refine LeO.bind ?_ (fun _=>?_))
   | exact ih0 _ _ _ _ _ _
   | exact accept_Reply.mono _ _ _
   | exact accept_Stored.mono _ _
   | exact accept_Verdict.mono _ _
   | exact ack_Read.mono _ _
   | exact lamplighterlaw11_alive.mono _
   | exact lamplighterref04_Good.mono _ _
   | exact LeO.none _
   | refine LeO.ite ?_ ?_
   | refine LeO.bind ?_ (fun _=>?_)
def lamplighterlaw11_AcceptAnswers.T9 : Bool × List (List Nat × List Nat):=(true,[([],[]),([0],[0]),([1],[1]),([2],[2]),([3,2],[2,3]),([2,4],[2,4]),([5,2],[5]),([6],[6]),([7,6],[6,7]),([6],[6]),([9,6],[6,9]),([8,10,6],[6,8,10]),([6,11],[6,11]),([12,6],[12]),([13],[13]),([14,13],[13,14]),([15,13],[13,15]),([13],[13]),([17,13,13],[13,17]),([18],[18]),([19,18,18],[18,19]),([18,20,13],[13,18,20]),([16,21,13],[13,16,21]),([13,22],[13,22])])
def lamplighterlaw11_AcceptAnswers.B9 : List Nat:=[0,1,3,7,15,31,63,127,255,127,639,2047,4095,8191,16383,32767,65535,16383,147455,409599,933887,1982463,4194303,8388607]
theorem lamplighterlaw11_AcceptAnswers.tab9 : rtab .any (opsOf Tryd.f3 9)=lamplighterlaw11_AcceptAnswers.T9:=by kernel_rfl
theorem lamplighterlaw11_AcceptAnswers.bits9 : waitsOk lamplighterlaw11_AcceptAnswers.T9.2 lamplighterlaw11_AcceptAnswers.B9=true:=by kernel_rfl
theorem lamplighterlaw11_AcceptAnswers.calls (k : Nat) (A0 : Option Addr) (c0 : Nat) (l0 : List Int) (a1 : Bool) (r : Bool) (w : World) (hr0 : Kd.C (Kd.int .u8) w A0 l0.length l0) (hc0 : l0.length≤c0) (h : lamplighterlaw11_AcceptAnswers.f k l0 a1=some r) (hrt : r=true) (hG : GlobOK w) (hGC : GlobC w) (hGE : GlobE w) :
  Calls Tryd.prog 3 #[.slice A0 l0.length c0, .bool a1] w fun e w'=>e = .returned (.bool r)∧Below w.heap.size w w':=by
 have HGLOB:=Lib.hid hG
 clear hG
 have HGLOC:=Lib.hid hGC
 clear hGC
 have HGLOE:=Lib.hid hGE
 clear hGE
 have hu27:=Tryd.underlying27
 have hu37:=Tryd.underlying37
 have HR0:=Aside0.mk hr0
 have HC0:=Aside0.mk hc0
 clear hr0 hc0
 have HB:=Aside0.mk (Below.refl w.heap.size w)
 have H : (if (l0.length : Int) > 3000 then ((lamplighterlaw11_alive.f k).bind fun t303=>(some t303)) else ((accept_Verdict.f k l0).bind fun bt304=>((accept_Reply.f k l0 a1).bind fun bt322=>(if bt322.2=true then ((frame_Unwrap.f bt322.1).bind fun bt328=>((ack_Read.f k bt328.1).bind fun bt332=>(if bt328.2=0 then (if bt332.2.2=0 then (if bt332.2.1.toList=bt304.2.2.2.2.2.2.2.2.2.2.2.2.1.toList then (if a1=true then ((accept_Stored.f k l0).bind fun t336=>(lamplighterlaw11_AcceptAnswers.j0 k l0 bt304.2.2.2.2.2.2.2.2.2.2.2.2.2.2.2.1 bt304.2.2.2.2.2.2.2.2.2.2.2.2.2.2.2.2 ((bt332.1.toList == ([65,65] : List UInt8)) != t336) bt332.1 bt332.2.1)) else (lamplighterlaw11_AcceptAnswers.j0 k l0 bt304.2.2.2.2.2.2.2.2.2.2.2.2.2.2.2.1 bt304.2.2.2.2.2.2.2.2.2.2.2.2.2.2.2.2 ((bt332.1.toList == ([65,65] : List UInt8)) != false) bt332.1 bt332.2.1)) else (lamplighterlaw11_AcceptAnswers.j0 k l0 bt304.2.2.2.2.2.2.2.2.2.2.2.2.2.2.2.1 bt304.2.2.2.2.2.2.2.2.2.2.2.2.2.2.2.2 true bt332.1 bt332.2.1)) else (lamplighterlaw11_AcceptAnswers.j0 k l0 bt304.2.2.2.2.2.2.2.2.2.2.2.2.2.2.2.1 bt304.2.2.2.2.2.2.2.2.2.2.2.2.2.2.2.2 true bt332.1 bt332.2.1)) else (lamplighterlaw11_AcceptAnswers.j0 k l0 bt304.2.2.2.2.2.2.2.2.2.2.2.2.2.2.2.1 bt304.2.2.2.2.2.2.2.2.2.2.2.2.2.2.2.2 true bt332.1 bt332.2.1)))) else ((lamplighterlaw11_alive.f k).bind fun t326=>(if t326=true then (if (bt322.1.length : Int)=0 then (if bt304.2.2.2.2.2.2.2.2.2.2.2.2.2.2.2.1.toList=([] : List UInt8) then (some true) else ((lamplighterref04_Good.f k l0).bind fun t327=>(some (!t327)))) else (some false)) else (some false)))))))=some r:=h
 clear h
 by_cases c3 : (l0.length : Int) > 3000
 ·rw [if_pos c3] at H
  have c3b0:decide (3000 < (l0.length : Int))=true:=decide_eq_true c3
  have c3b1:decide (3000 < l0.length)=true:=decide_eq_true (by omega)
  clear c3
  replace H:=Option.bind_eq_some_iff.mp H
  obtain ⟨t303,A40,H⟩:=H
  replace H : (some t303)=some r:=H
  have A4:=Aside0.mk A40
  clear A40
  obtain rfl:=Option.some.inj H
  clear hrt
  go_enter Tryd.func3,Tryd.ntmps3
  go_wp2_with (first | ((with_reducible refine gate_callee (f:=4) rfl ?_); refine goesL_ (some 17) rfl rfl Tryd.func4 (by kernel_rfl) rfl #[] rfl (by (try simp only [List.map_toArray,List.map_cons,List.map_nil]); first | done | rfl | (simp only [List.length_drop,List.length_take]; rfl)) ?_; (with_reducible refine (lamplighterlaw11_alive.calls k  t303 _ A4.out (glob_below HGLOB.out (by repeat (first | (with_reducible first | exact HB.out | apply bA | apply bN | apply bD) | exact HB.out))) (globc_below HGLOC.out (by repeat (first | (with_reducible first | exact HB.out | apply bA | apply bN | apply bD) | exact HB.out))) (globe_below HGLOE.out (by repeat (first | (with_reducible first | exact HB.out | apply bA | apply bN | apply bD) | exact HB.out)))).mono ?_); rintro e w5 ⟨rfl,hb⟩; refine ⟨_,rfl,?_⟩; have n0_:=Aside0.mk (below_step (by repeat (first | (with_reducible first | exact HB.out | apply bA | apply bN | apply bD) | exact HB.out)) hb); clear HB; have HB:=n0_; clear n0_; (try clear hb)))
  go_ret
  exact ⟨by first | rfl | (simp [errW_none,errW_some] <;> rfl) | (simp [*,errW_none,errW_some] <;> rfl),by repeat (first | (with_reducible first | exact HB.out | apply bA | apply bN | apply bD) | exact HB.out)⟩
 ·rw [if_neg c3] at H
  have c3b0:decide (3000 < (l0.length : Int))=false:=decide_eq_false c3
  have c3b1:decide (3000 < l0.length)=false:=decide_eq_false (by omega)
  clear c3
  replace H:=Option.bind_eq_some_iff.mp H
  obtain ⟨⟨t304,t305,t306,t307,t308,t309,t310,t311,t312,t313,t314,t315,t316,t317,t318,t319,t320⟩,A60,H⟩:=H
  replace H : ((accept_Reply.f k l0 a1).bind fun bt322=>(if bt322.2=true then ((frame_Unwrap.f bt322.1).bind fun bt328=>((ack_Read.f k bt328.1).bind fun bt332=>(if bt328.2=0 then (if bt332.2.2=0 then (if bt332.2.1.toList=t316.toList then (if a1=true then ((accept_Stored.f k l0).bind fun t336=>(lamplighterlaw11_AcceptAnswers.j0 k l0 t319 t320 ((bt332.1.toList == ([65,65] : List UInt8)) != t336) bt332.1 bt332.2.1)) else (lamplighterlaw11_AcceptAnswers.j0 k l0 t319 t320 ((bt332.1.toList == ([65,65] : List UInt8)) != false) bt332.1 bt332.2.1)) else (lamplighterlaw11_AcceptAnswers.j0 k l0 t319 t320 true bt332.1 bt332.2.1)) else (lamplighterlaw11_AcceptAnswers.j0 k l0 t319 t320 true bt332.1 bt332.2.1)) else (lamplighterlaw11_AcceptAnswers.j0 k l0 t319 t320 true bt332.1 bt332.2.1)))) else ((lamplighterlaw11_alive.f k).bind fun t326=>(if t326=true then (if (bt322.1.length : Int)=0 then (if t319.toList=([] : List UInt8) then (some true) else ((lamplighterref04_Good.f k l0).bind fun t327=>(some (!t327)))) else (some false)) else (some false)))))=some r:=H
  have A6:=Aside0.mk A60
  clear A60
  replace H:=Option.bind_eq_some_iff.mp H
  obtain ⟨⟨t322,t323⟩,A70,H⟩:=H
  replace H : (if t323=true then ((frame_Unwrap.f t322).bind fun bt328=>((ack_Read.f k bt328.1).bind fun bt332=>(if bt328.2=0 then (if bt332.2.2=0 then (if bt332.2.1.toList=t316.toList then (if a1=true then ((accept_Stored.f k l0).bind fun t336=>(lamplighterlaw11_AcceptAnswers.j0 k l0 t319 t320 ((bt332.1.toList == ([65,65] : List UInt8)) != t336) bt332.1 bt332.2.1)) else (lamplighterlaw11_AcceptAnswers.j0 k l0 t319 t320 ((bt332.1.toList == ([65,65] : List UInt8)) != false) bt332.1 bt332.2.1)) else (lamplighterlaw11_AcceptAnswers.j0 k l0 t319 t320 true bt332.1 bt332.2.1)) else (lamplighterlaw11_AcceptAnswers.j0 k l0 t319 t320 true bt332.1 bt332.2.1)) else (lamplighterlaw11_AcceptAnswers.j0 k l0 t319 t320 true bt332.1 bt332.2.1)))) else ((lamplighterlaw11_alive.f k).bind fun t326=>(if t326=true then (if (t322.length : Int)=0 then (if t319.toList=([] : List UInt8) then (some true) else ((lamplighterref04_Good.f k l0).bind fun t327=>(some (!t327)))) else (some false)) else (some false))))=some r:=H
  have A7:=Aside0.mk A70
  clear A70
  by_cases c8 : t323=true
  ·subst c8
   have H1 : ((frame_Unwrap.f t322).bind fun bt328=>((ack_Read.f k bt328.1).bind fun bt332=>(if bt328.2=0 then (if bt332.2.2=0 then (if bt332.2.1.toList=t316.toList then (if a1=true then ((accept_Stored.f k l0).bind fun t336=>(lamplighterlaw11_AcceptAnswers.j0 k l0 t319 t320 ((bt332.1.toList == ([65,65] : List UInt8)) != t336) bt332.1 bt332.2.1)) else (lamplighterlaw11_AcceptAnswers.j0 k l0 t319 t320 ((bt332.1.toList == ([65,65] : List UInt8)) != false) bt332.1 bt332.2.1)) else (lamplighterlaw11_AcceptAnswers.j0 k l0 t319 t320 true bt332.1 bt332.2.1)) else (lamplighterlaw11_AcceptAnswers.j0 k l0 t319 t320 true bt332.1 bt332.2.1)) else (lamplighterlaw11_AcceptAnswers.j0 k l0 t319 t320 true bt332.1 bt332.2.1))))=some r:=by rw [if_pos rfl] at H; exact H
   clear H
   have H:=H1
   clear H1
   replace H:=Option.bind_eq_some_iff.mp H
   obtain ⟨⟨t328,t329⟩,A90,H⟩:=H
   replace H : ((ack_Read.f k t328).bind fun bt332=>(if t329=0 then (if bt332.2.2=0 then (if bt332.2.1.toList=t316.toList then (if a1=true then ((accept_Stored.f k l0).bind fun t336=>(lamplighterlaw11_AcceptAnswers.j0 k l0 t319 t320 ((bt332.1.toList == ([65,65] : List UInt8)) != t336) bt332.1 bt332.2.1)) else (lamplighterlaw11_AcceptAnswers.j0 k l0 t319 t320 ((bt332.1.toList == ([65,65] : List UInt8)) != false) bt332.1 bt332.2.1)) else (lamplighterlaw11_AcceptAnswers.j0 k l0 t319 t320 true bt332.1 bt332.2.1)) else (lamplighterlaw11_AcceptAnswers.j0 k l0 t319 t320 true bt332.1 bt332.2.1)) else (lamplighterlaw11_AcceptAnswers.j0 k l0 t319 t320 true bt332.1 bt332.2.1)))=some r:=H
   have A9:=Aside0.mk A90
   clear A90
   replace H:=Option.bind_eq_some_iff.mp H
   obtain ⟨⟨t332,t333,t334⟩,A100,H⟩:=H
   replace H : (if t329=0 then (if t334=0 then (if t333.toList=t316.toList then (if a1=true then ((accept_Stored.f k l0).bind fun t336=>(lamplighterlaw11_AcceptAnswers.j0 k l0 t319 t320 ((t332.toList == ([65,65] : List UInt8)) != t336) t332 t333)) else (lamplighterlaw11_AcceptAnswers.j0 k l0 t319 t320 ((t332.toList == ([65,65] : List UInt8)) != false) t332 t333)) else (lamplighterlaw11_AcceptAnswers.j0 k l0 t319 t320 true t332 t333)) else (lamplighterlaw11_AcceptAnswers.j0 k l0 t319 t320 true t332 t333)) else (lamplighterlaw11_AcceptAnswers.j0 k l0 t319 t320 true t332 t333))=some r:=H
   have A10:=Aside0.mk A100
   clear A100
   have HC11:=Aside0.mk H
   clear H
   go_enter Tryd.func3,Tryd.ntmps3
   go_upto_region 9 with (first | ((with_reducible refine gate_callee (f:=5) rfl ?_); refine goesL_ (some 20) rfl rfl Tryd.func5 (by kernel_rfl) rfl #[.slice A0 l0.length c0] rfl (by (try simp only [List.map_toArray,List.map_cons,List.map_nil]); first | done | rfl | (simp only [List.length_drop,List.length_take]; rfl)) ?_; (with_reducible refine (accept_Verdict.calls k _ _ l0 t304 t305 t306 t307 t308 t309 t310 t311 t312 t313 t314 t315 t316 t317 t318 t319 t320 _ ?side1 ?side2 A6.out (glob_below HGLOB.out (by repeat (first | (with_reducible first | exact HB.out | apply bA | apply bN | apply bD) | exact HB.out)))).mono ?_); (case side1=>repeat (first | exact HR0.out | (with_reducible refine Kd.C_alloc ?_ _) | (with_reducible refine Kd.C_drewN ?_ _) | (with_reducible refine Kd.C_drew ?_))); (case side2=>exact HC0.out); rintro e w12 ⟨rfl,hb⟩; refine ⟨_,rfl,?_⟩; have n0_:=Aside0.mk (below_step (by repeat (first | (with_reducible first | exact HB.out | apply bA | apply bN | apply bD) | exact HB.out)) hb); clear HB; have HB:=n0_; clear n0_; (try clear hb)) | ((with_reducible refine gate_dst (N:=5) rfl ?_); (try (refine gate_guard (by rfl) ?_; dsimp only)); refine box_event ?hg (N:=5) ?hd (cs:=#[.int .u8 0, .int .u8 0, .int .u8 0, .int .u8 0, .int .u8 0, .string (⟨#[]⟩ : ByteArray), .string (⟨#[]⟩ : ByteArray), .string (⟨#[]⟩ : ByteArray), .string (⟨#[]⟩ : ByteArray), .string (⟨#[]⟩ : ByteArray), .string (⟨#[]⟩ : ByteArray), .string (⟨#[]⟩ : ByteArray), .string (⟨#[]⟩ : ByteArray), .string (⟨#[]⟩ : ByteArray), .string (⟨#[]⟩ : ByteArray)]) (t:=27) ?hr ?_; (case hd=>rfl); (case hg=>rfl); (case hr=>first | (go_simp; done) | (go_simp; rfl)); intro gb321 hg w13 hbox hb; have n0_:=Aside0.mk (below_step (by repeat (first | (with_reducible first | exact HB.out | apply bA | apply bN | apply bD) | exact HB.out)) hb); have n1_:=Aside0.mk (hbox); have n2_:=Aside0.mk ((by rw [hg]; exact (below_size (by repeat (first | (with_reducible first | exact HB.out | apply bA | apply bN | apply bD) | exact HB.out))) : w.heap.size≤gb321)); have n3_:=Aside0.mk ((by rw [hg]; exact (below_size (by repeat (first | (with_reducible first | exact HB.out | apply bA | apply bN | apply bD) | exact HB.out))) : w.heap.size≤gb321)); clear HB; have HB:=n0_; have BK321:=n1_; have GW321:=n2_; have GE321:=n3_; clear n0_ n1_ n2_ n3_; clear hb hbox hg; have hcz14_0:w13.cell? ⟨gb321,0,none⟩=some (.int .u8 0):=blk_cell BK321.out 0; have hcz14_1:w13.cell? ⟨gb321,1,none⟩=some (.int .u8 0):=blk_cell BK321.out 1; have hcz14_2:w13.cell? ⟨gb321,2,none⟩=some (.int .u8 0):=blk_cell BK321.out 2; have hcz14_3:w13.cell? ⟨gb321,3,none⟩=some (.int .u8 0):=blk_cell BK321.out 3; have hcz14_4:w13.cell? ⟨gb321,4,none⟩=some (.int .u8 0):=blk_cell BK321.out 4; have hcz14_5:w13.cell? ⟨gb321,5,none⟩=some (.string (⟨#[]⟩ : ByteArray)):=blk_cell BK321.out 5; have hcz14_6:w13.cell? ⟨gb321,6,none⟩=some (.string (⟨#[]⟩ : ByteArray)):=blk_cell BK321.out 6; have hcz14_7:w13.cell? ⟨gb321,7,none⟩=some (.string (⟨#[]⟩ : ByteArray)):=blk_cell BK321.out 7; have hcz14_8:w13.cell? ⟨gb321,8,none⟩=some (.string (⟨#[]⟩ : ByteArray)):=blk_cell BK321.out 8; have hcz14_9:w13.cell? ⟨gb321,9,none⟩=some (.string (⟨#[]⟩ : ByteArray)):=blk_cell BK321.out 9; have hcz14_10:w13.cell? ⟨gb321,10,none⟩=some (.string (⟨#[]⟩ : ByteArray)):=blk_cell BK321.out 10; have hcz14_11:w13.cell? ⟨gb321,11,none⟩=some (.string (⟨#[]⟩ : ByteArray)):=blk_cell BK321.out 11; have hcz14_12:w13.cell? ⟨gb321,12,none⟩=some (.string (⟨#[]⟩ : ByteArray)):=blk_cell BK321.out 12; have hcz14_13:w13.cell? ⟨gb321,13,none⟩=some (.string (⟨#[]⟩ : ByteArray)):=blk_cell BK321.out 13; have hcz14_14:w13.cell? ⟨gb321,14,none⟩=some (.string (⟨#[]⟩ : ByteArray)):=blk_cell BK321.out 14; have hfz14_0:=blk_frozen BK321.out 0; have hfz14_1:=blk_frozen BK321.out 1; have hfz14_2:=blk_frozen BK321.out 2; have hfz14_3:=blk_frozen BK321.out 3; have hfz14_4:=blk_frozen BK321.out 4; have hfz14_5:=blk_frozen BK321.out 5; have hfz14_6:=blk_frozen BK321.out 6; have hfz14_7:=blk_frozen BK321.out 7; have hfz14_8:=blk_frozen BK321.out 8; have hfz14_9:=blk_frozen BK321.out 9; have hfz14_10:=blk_frozen BK321.out 10; have hfz14_11:=blk_frozen BK321.out 11; have hfz14_12:=blk_frozen BK321.out 12; have hfz14_13:=blk_frozen BK321.out 13; have hfz14_14:=blk_frozen BK321.out 14) | ((with_reducible refine gate_callee (f:=6) rfl ?_); refine goesL_ (some 27) rfl rfl Tryd.func6 (by kernel_rfl) rfl #[.slice A0 l0.length c0, .bool a1] rfl (by (try simp only [List.map_toArray,List.map_cons,List.map_nil]); first | done | rfl | (simp only [List.length_drop,List.length_take]; rfl)) ?_; (with_reducible refine (accept_Reply.calls k _ _ l0 a1 t322 true _ ?side1 ?side2 A7.out (glob_below HGLOB.out (by repeat (first | (with_reducible first | exact HB.out | apply bA | apply bN | apply bD | refine below_set ?_ GE321.out) | exact HB.out))) (globc_below HGLOC.out (by repeat (first | (with_reducible first | exact HB.out | apply bA | apply bN | apply bD | refine below_set ?_ GE321.out) | exact HB.out))) (globe_below HGLOE.out (by repeat (first | (with_reducible first | exact HB.out | apply bA | apply bN | apply bD | refine below_set ?_ GE321.out) | exact HB.out)))).mono ?_); (case side1=>exact Kd.C_below HR0.out (by repeat (first | (with_reducible first | exact HB.out | apply bA | apply bN | apply bD | refine below_set ?_ GE321.out) | exact HB.out))); (case side2=>exact HC0.out); rintro e w15 ⟨v324,rfl,ho0,hb⟩; refine ⟨_,rfl,?_⟩; have n0_:=Aside0.mk (Kd.R_lower ho0 (below_size (by repeat (first | (with_reducible first | exact HB.out | apply bA | apply bN | apply bD | refine below_set ?_ GE321.out) | exact HB.out)))); have n1_:=Aside0.mk (blk_below (g:=gb321) (o := .cells #[.int .u8 t304, .int .u8 t305, .int .u8 t306, .int .u8 t307, .int .u8 t308, .string t309, .string t310, .string t311, .string t312, .string t313, .string t314, .string t315, .string t316, .string t317, .string t318] 27 (0,0)) (by (with_reducible repeat (first | refine kN ?_ _ | refine kD ?_ | refine kA ?_ _)); refine blk_put (cs:=#[.int .u8 t304, .int .u8 t305, .int .u8 t306, .int .u8 t307, .int .u8 t308, .string t309, .string t310, .string t311, .string t312, .string t313, .string t314, .string t315, .string t316, .string t317, .string (⟨#[]⟩ : ByteArray)]) ?_ 14 _ rfl; (with_reducible repeat (first | refine kN ?_ _ | refine kD ?_ | refine kA ?_ _)); refine blk_put (cs:=#[.int .u8 t304, .int .u8 t305, .int .u8 t306, .int .u8 t307, .int .u8 t308, .string t309, .string t310, .string t311, .string t312, .string t313, .string t314, .string t315, .string t316, .string (⟨#[]⟩ : ByteArray), .string (⟨#[]⟩ : ByteArray)]) ?_ 13 _ rfl; (with_reducible repeat (first | refine kN ?_ _ | refine kD ?_ | refine kA ?_ _)); refine blk_put (cs:=#[.int .u8 t304, .int .u8 t305, .int .u8 t306, .int .u8 t307, .int .u8 t308, .string t309, .string t310, .string t311, .string t312, .string t313, .string t314, .string t315, .string (⟨#[]⟩ : ByteArray), .string (⟨#[]⟩ : ByteArray), .string (⟨#[]⟩ : ByteArray)]) ?_ 12 _ rfl; (with_reducible repeat (first | refine kN ?_ _ | refine kD ?_ | refine kA ?_ _)); refine blk_put (cs:=#[.int .u8 t304, .int .u8 t305, .int .u8 t306, .int .u8 t307, .int .u8 t308, .string t309, .string t310, .string t311, .string t312, .string t313, .string t314, .string (⟨#[]⟩ : ByteArray), .string (⟨#[]⟩ : ByteArray), .string (⟨#[]⟩ : ByteArray), .string (⟨#[]⟩ : ByteArray)]) ?_ 11 _ rfl; (with_reducible repeat (first | refine kN ?_ _ | refine kD ?_ | refine kA ?_ _)); refine blk_put (cs:=#[.int .u8 t304, .int .u8 t305, .int .u8 t306, .int .u8 t307, .int .u8 t308, .string t309, .string t310, .string t311, .string t312, .string t313, .string (⟨#[]⟩ : ByteArray), .string (⟨#[]⟩ : ByteArray), .string (⟨#[]⟩ : ByteArray), .string (⟨#[]⟩ : ByteArray), .string (⟨#[]⟩ : ByteArray)]) ?_ 10 _ rfl; (with_reducible repeat (first | refine kN ?_ _ | refine kD ?_ | refine kA ?_ _)); refine blk_put (cs:=#[.int .u8 t304, .int .u8 t305, .int .u8 t306, .int .u8 t307, .int .u8 t308, .string t309, .string t310, .string t311, .string t312, .string (⟨#[]⟩ : ByteArray), .string (⟨#[]⟩ : ByteArray), .string (⟨#[]⟩ : ByteArray), .string (⟨#[]⟩ : ByteArray), .string (⟨#[]⟩ : ByteArray), .string (⟨#[]⟩ : ByteArray)]) ?_ 9 _ rfl; (with_reducible repeat (first | refine kN ?_ _ | refine kD ?_ | refine kA ?_ _)); refine blk_put (cs:=#[.int .u8 t304, .int .u8 t305, .int .u8 t306, .int .u8 t307, .int .u8 t308, .string t309, .string t310, .string t311, .string (⟨#[]⟩ : ByteArray), .string (⟨#[]⟩ : ByteArray), .string (⟨#[]⟩ : ByteArray), .string (⟨#[]⟩ : ByteArray), .string (⟨#[]⟩ : ByteArray), .string (⟨#[]⟩ : ByteArray), .string (⟨#[]⟩ : ByteArray)]) ?_ 8 _ rfl; (with_reducible repeat (first | refine kN ?_ _ | refine kD ?_ | refine kA ?_ _)); refine blk_put (cs:=#[.int .u8 t304, .int .u8 t305, .int .u8 t306, .int .u8 t307, .int .u8 t308, .string t309, .string t310, .string (⟨#[]⟩ : ByteArray), .string (⟨#[]⟩ : ByteArray), .string (⟨#[]⟩ : ByteArray), .string (⟨#[]⟩ : ByteArray), .string (⟨#[]⟩ : ByteArray), .string (⟨#[]⟩ : ByteArray), .string (⟨#[]⟩ : ByteArray), .string (⟨#[]⟩ : ByteArray)]) ?_ 7 _ rfl; (with_reducible repeat (first | refine kN ?_ _ | refine kD ?_ | refine kA ?_ _)); refine blk_put (cs:=#[.int .u8 t304, .int .u8 t305, .int .u8 t306, .int .u8 t307, .int .u8 t308, .string t309, .string (⟨#[]⟩ : ByteArray), .string (⟨#[]⟩ : ByteArray), .string (⟨#[]⟩ : ByteArray), .string (⟨#[]⟩ : ByteArray), .string (⟨#[]⟩ : ByteArray), .string (⟨#[]⟩ : ByteArray), .string (⟨#[]⟩ : ByteArray), .string (⟨#[]⟩ : ByteArray), .string (⟨#[]⟩ : ByteArray)]) ?_ 6 _ rfl; (with_reducible repeat (first | refine kN ?_ _ | refine kD ?_ | refine kA ?_ _)); refine blk_put (cs:=#[.int .u8 t304, .int .u8 t305, .int .u8 t306, .int .u8 t307, .int .u8 t308, .string (⟨#[]⟩ : ByteArray), .string (⟨#[]⟩ : ByteArray), .string (⟨#[]⟩ : ByteArray), .string (⟨#[]⟩ : ByteArray), .string (⟨#[]⟩ : ByteArray), .string (⟨#[]⟩ : ByteArray), .string (⟨#[]⟩ : ByteArray), .string (⟨#[]⟩ : ByteArray), .string (⟨#[]⟩ : ByteArray), .string (⟨#[]⟩ : ByteArray)]) ?_ 5 _ rfl; (with_reducible repeat (first | refine kN ?_ _ | refine kD ?_ | refine kA ?_ _)); refine blk_put (cs:=#[.int .u8 t304, .int .u8 t305, .int .u8 t306, .int .u8 t307, .int .u8 0, .string (⟨#[]⟩ : ByteArray), .string (⟨#[]⟩ : ByteArray), .string (⟨#[]⟩ : ByteArray), .string (⟨#[]⟩ : ByteArray), .string (⟨#[]⟩ : ByteArray), .string (⟨#[]⟩ : ByteArray), .string (⟨#[]⟩ : ByteArray), .string (⟨#[]⟩ : ByteArray), .string (⟨#[]⟩ : ByteArray), .string (⟨#[]⟩ : ByteArray)]) ?_ 4 _ rfl; (with_reducible repeat (first | refine kN ?_ _ | refine kD ?_ | refine kA ?_ _)); refine blk_put (cs:=#[.int .u8 t304, .int .u8 t305, .int .u8 t306, .int .u8 0, .int .u8 0, .string (⟨#[]⟩ : ByteArray), .string (⟨#[]⟩ : ByteArray), .string (⟨#[]⟩ : ByteArray), .string (⟨#[]⟩ : ByteArray), .string (⟨#[]⟩ : ByteArray), .string (⟨#[]⟩ : ByteArray), .string (⟨#[]⟩ : ByteArray), .string (⟨#[]⟩ : ByteArray), .string (⟨#[]⟩ : ByteArray), .string (⟨#[]⟩ : ByteArray)]) ?_ 3 _ rfl; (with_reducible repeat (first | refine kN ?_ _ | refine kD ?_ | refine kA ?_ _)); refine blk_put (cs:=#[.int .u8 t304, .int .u8 t305, .int .u8 0, .int .u8 0, .int .u8 0, .string (⟨#[]⟩ : ByteArray), .string (⟨#[]⟩ : ByteArray), .string (⟨#[]⟩ : ByteArray), .string (⟨#[]⟩ : ByteArray), .string (⟨#[]⟩ : ByteArray), .string (⟨#[]⟩ : ByteArray), .string (⟨#[]⟩ : ByteArray), .string (⟨#[]⟩ : ByteArray), .string (⟨#[]⟩ : ByteArray), .string (⟨#[]⟩ : ByteArray)]) ?_ 2 _ rfl; (with_reducible repeat (first | refine kN ?_ _ | refine kD ?_ | refine kA ?_ _)); refine blk_put (cs:=#[.int .u8 t304, .int .u8 0, .int .u8 0, .int .u8 0, .int .u8 0, .string (⟨#[]⟩ : ByteArray), .string (⟨#[]⟩ : ByteArray), .string (⟨#[]⟩ : ByteArray), .string (⟨#[]⟩ : ByteArray), .string (⟨#[]⟩ : ByteArray), .string (⟨#[]⟩ : ByteArray), .string (⟨#[]⟩ : ByteArray), .string (⟨#[]⟩ : ByteArray), .string (⟨#[]⟩ : ByteArray), .string (⟨#[]⟩ : ByteArray)]) ?_ 1 _ rfl; (with_reducible repeat (first | refine kN ?_ _ | refine kD ?_ | refine kA ?_ _)); refine blk_put (cs:=#[.int .u8 0, .int .u8 0, .int .u8 0, .int .u8 0, .int .u8 0, .string (⟨#[]⟩ : ByteArray), .string (⟨#[]⟩ : ByteArray), .string (⟨#[]⟩ : ByteArray), .string (⟨#[]⟩ : ByteArray), .string (⟨#[]⟩ : ByteArray), .string (⟨#[]⟩ : ByteArray), .string (⟨#[]⟩ : ByteArray), .string (⟨#[]⟩ : ByteArray), .string (⟨#[]⟩ : ByteArray), .string (⟨#[]⟩ : ByteArray)]) ?_ 0 _ rfl; (with_reducible repeat (first | refine kN ?_ _ | refine kD ?_ | refine kA ?_ _)); exact BK321.out) hb); have n2_:=Aside0.mk (below_step (by repeat (first | (with_reducible first | exact HB.out | apply bA | apply bN | apply bD | refine below_set ?_ GE321.out) | exact HB.out)) hb); clear BK321; clear HB; have HO325:=n0_; have BK321:=n1_; have HB:=n2_; clear n0_ n1_ n2_; (try clear hb); (try clear ho0); obtain ⟨Ao16,co16,eo16⟩:=Kd.R_slice HO325.out; subst eo16) | ((with_reducible refine gate_callee (f:=8) rfl ?_); refine goesL_ (some 49) rfl rfl Tryd.func8 (by kernel_rfl) rfl #[.slice Ao16 t322.length co16] rfl (by (try simp only [List.map_toArray,List.map_cons,List.map_nil]); first | done | rfl | (simp only [List.length_drop,List.length_take]; rfl)) ?_; (with_reducible refine (frame_Unwrap.calls _ _ t322 t328 t329 _ ?side1 ?side2 A9.out (globe_below HGLOE.out (by repeat (first | (with_reducible first | exact HB.out | apply bA | apply bN | apply bD | refine below_set ?_ GE321.out) | exact HB.out)))).mono ?_); (case side1=>repeat (first | exact (Kd.R_reads' HO325.out).2.2 | (with_reducible refine Kd.C_alloc ?_ _) | (with_reducible refine Kd.C_drewN ?_ _) | (with_reducible refine Kd.C_drew ?_))); (case side2=>exact (Kd.R_reads' HO325.out).2.1); rintro e w17 ⟨v330,rfl,ho0,hb⟩; refine ⟨_,rfl,?_⟩; have n0_:=Aside0.mk (Kd.R_elder' (by (with_reducible repeat (first | apply Kd.R_alloc | apply Kd.R_drewN | apply Kd.R_drew)); exact HO325.out) (Kd.R_base ho0) hb); have n1_:=Aside0.mk (Kd.R_lower (Kd.R_new' ho0 (Kd.R_lt (by (with_reducible repeat (first | apply Kd.R_alloc | apply Kd.R_drewN | apply Kd.R_drew)); exact HO325.out))) (below_size (by repeat (first | (with_reducible first | exact HB.out | apply bA | apply bN | apply bD | refine below_set ?_ GE321.out) | exact HB.out)))); have n2_:=Aside0.mk (blk_below (g:=gb321) (o := .cells #[.int .u8 t304, .int .u8 t305, .int .u8 t306, .int .u8 t307, .int .u8 t308, .string t309, .string t310, .string t311, .string t312, .string t313, .string t314, .string t315, .string t316, .string t317, .string t318] 27 (0,0)) (by (with_reducible repeat (first | refine kN ?_ _ | refine kD ?_ | refine kA ?_ _)); exact BK321.out) hb); have n3_:=Aside0.mk (below_step (by repeat (first | (with_reducible first | exact HB.out | apply bA | apply bN | apply bD | refine below_set ?_ GE321.out) | exact HB.out)) hb); clear HO325; clear BK321; clear HB; have HO325:=n0_; have HO331:=n1_; have BK321:=n2_; have HB:=n3_; clear n0_ n1_ n2_ n3_; (try clear hb); (try clear ho0); obtain ⟨Ao18,co18,eo18⟩:=Kd.R_slice HO331.out; subst eo18) | ((with_reducible refine gate_callee (f:=9) rfl ?_); refine goesL_ (some 54) rfl rfl Tryd.func9 (by kernel_rfl) rfl #[.slice Ao18 t328.length co18] rfl (by (try simp only [List.map_toArray,List.map_cons,List.map_nil]); first | done | rfl | (simp only [List.length_drop,List.length_take]; rfl)) ?_; (with_reducible refine (ack_Read.calls k _ _ t328 t332 t333 t334 _ ?side1 ?side2 A10.out (globc_below HGLOC.out (by repeat (first | (with_reducible first | exact HB.out | apply bA | apply bN | apply bD | refine below_set ?_ GE321.out) | exact HB.out)))).mono ?_); (case side1=>repeat (first | exact (Kd.R_reads' HO331.out).2.2 | (with_reducible refine Kd.C_alloc ?_ _) | (with_reducible refine Kd.C_drewN ?_ _) | (with_reducible refine Kd.C_drew ?_))); (case side2=>exact (Kd.R_reads' HO331.out).2.1); rintro e w19 ⟨rfl,hb⟩; refine ⟨_,rfl,?_⟩; have n0_:=Aside0.mk (Kd.R_below (by (with_reducible repeat (first | apply Kd.R_alloc | apply Kd.R_drewN | apply Kd.R_drew)); exact HO325.out) hb); have n1_:=Aside0.mk (Kd.R_below (by (with_reducible repeat (first | apply Kd.R_alloc | apply Kd.R_drewN | apply Kd.R_drew)); exact HO331.out) hb); have n2_:=Aside0.mk (blk_below (g:=gb321) (o := .cells #[.int .u8 t304, .int .u8 t305, .int .u8 t306, .int .u8 t307, .int .u8 t308, .string t309, .string t310, .string t311, .string t312, .string t313, .string t314, .string t315, .string t316, .string t317, .string t318] 27 (0,0)) (by (with_reducible repeat (first | refine kN ?_ _ | refine kD ?_ | refine kA ?_ _)); exact BK321.out) hb); have n3_:=Aside0.mk (below_step (by repeat (first | (with_reducible first | exact HB.out | apply bA | apply bN | apply bD | refine below_set ?_ GE321.out) | exact HB.out)) hb); clear HO325; clear HO331; clear BK321; clear HB; have HO325:=n0_; have HO331:=n1_; have BK321:=n2_; have HB:=n3_; clear n0_ n1_ n2_ n3_; (try clear hb)) | ((with_reducible refine gate_dst (N:=12) rfl ?_); (try (refine gate_guard (by rfl) ?_; dsimp only)); refine box_event ?hg (N:=12) ?hd (cs:=#[.string (⟨#[]⟩ : ByteArray), .string (⟨#[]⟩ : ByteArray)]) (t:=37) ?hr ?_; (case hd=>rfl); (case hg=>rfl); (case hr=>first | (go_simp; done) | (go_simp; rfl)); intro gb335 hg w20 hbox hb; have n0_:=Aside0.mk (Kd.R_below (by (with_reducible repeat (first | apply Kd.R_alloc | apply Kd.R_drewN | apply Kd.R_drew)); exact HO325.out) hb); have n1_:=Aside0.mk (Kd.R_below (by (with_reducible repeat (first | apply Kd.R_alloc | apply Kd.R_drewN | apply Kd.R_drew)); exact HO331.out) hb); have n2_:=Aside0.mk (blk_below (g:=gb321) (o := .cells #[.int .u8 t304, .int .u8 t305, .int .u8 t306, .int .u8 t307, .int .u8 t308, .string t309, .string t310, .string t311, .string t312, .string t313, .string t314, .string t315, .string t316, .string t317, .string t318] 27 (0,0)) (by (with_reducible repeat (first | refine kN ?_ _ | refine kD ?_ | refine kA ?_ _)); exact BK321.out) hb); have n3_:=Aside0.mk (below_step (by repeat (first | (with_reducible first | exact HB.out | apply bA | apply bN | apply bD | refine below_set ?_ GE321.out) | exact HB.out)) hb); have n4_:=Aside0.mk (hbox); have n5_:=Aside0.mk ((by rw [hg]; exact (below_size (by repeat (first | (with_reducible first | exact HB.out | apply bA | apply bN | apply bD | refine below_set ?_ GE321.out) | exact HB.out))) : w.heap.size≤gb335)); have n6_:=Aside0.mk ((by rw [hg]; exact (below_size (by repeat (first | (with_reducible first | exact HB.out | apply bA | apply bN | apply bD | refine below_set ?_ GE321.out) | exact HB.out))) : w.heap.size≤gb335)); have n7_:=Aside0.mk ((by rw [hg]; exact Nat.ne_of_lt (blk_lt (g:=gb321) (o := .cells #[.int .u8 t304, .int .u8 t305, .int .u8 t306, .int .u8 t307, .int .u8 t308, .string t309, .string t310, .string t311, .string t312, .string t313, .string t314, .string t315, .string t316, .string t317, .string t318] 27 (0,0)) (by (with_reducible repeat (first | refine kN ?_ _ | refine kD ?_ | refine kA ?_ _)); exact BK321.out)) : gb321 ≠ gb335)); have n8_:=Aside0.mk ((by rw [hg]; exact Nat.ne_of_gt (blk_lt (g:=gb321) (o := .cells #[.int .u8 t304, .int .u8 t305, .int .u8 t306, .int .u8 t307, .int .u8 t308, .string t309, .string t310, .string t311, .string t312, .string t313, .string t314, .string t315, .string t316, .string t317, .string t318] 27 (0,0)) (by (with_reducible repeat (first | refine kN ?_ _ | refine kD ?_ | refine kA ?_ _)); exact BK321.out)) : gb335 ≠ gb321)); clear HO325; clear HO331; clear BK321; clear HB; have HO325:=n0_; have HO331:=n1_; have BK321:=n2_; have HB:=n3_; have BK335:=n4_; have GW335:=n5_; have GE335:=n6_; have NB321_335:=n7_; have NB335_321:=n8_; clear n0_ n1_ n2_ n3_ n4_ n5_ n6_ n7_ n8_; clear hb hbox hg; have hnb21:=NB335_321.out; have hnc21:=NB321_335.out; have hcz22_0:w20.cell? ⟨gb335,0,none⟩=some (.string (⟨#[]⟩ : ByteArray)):=blk_cell BK335.out 0; have hcz22_1:w20.cell? ⟨gb335,1,none⟩=some (.string (⟨#[]⟩ : ByteArray)):=blk_cell BK335.out 1; have hfz22_0:=blk_frozen BK335.out 0; have hfz22_1:=blk_frozen BK335.out 1))
   (try simp only [Act.put,sA_,s0_,s1_])
   go_cut [80] (fun v80 wc => ∃ (kq : Nat) (x80_10 : Bool),v80 = .bool x80_10∧Aside0 (lamplighterlaw11_AcceptAnswers.j0 kq l0 t319 t320 x80_10 t332 t333=some r)∧Aside0 (kq≤k)∧Aside0 (wc.heap[gb321]?=some (.cells #[.int .u8 t304, .int .u8 t305, .int .u8 t306, .int .u8 t307, .int .u8 t308, .string t309, .string t310, .string t311, .string t312, .string t313, .string t314, .string t315, .string t316, .string t317, .string t318] 27 (0,0)))∧Aside0 (wc.heap[gb335]?=some (.cells #[.string t332, .string t333] 37 (0,0)))∧Aside0 (Below w.heap.size w wc))
   case first =>
    have H:=HC11.out
    clear HC11
    by_cases c23 : t329=0
    ·rw [if_pos c23] at H
     have c23b0 : (t329 == 0)=true:=beq_iff_eq.mpr c23
     have c23b1 : (t329 != 0)=false:=bne_eq_false_iff_eq.mpr c23
     clear c23
     (first | rw [c23b0] | (simp only [i64_w,i32_w]; rw [c23b0]) | skip)
     by_cases c24 : t334=0
     ·rw [if_pos c24] at H
      have c24b0 : (t334 == 0)=true:=beq_iff_eq.mpr c24
      have c24b1 : (t334 != 0)=false:=bne_eq_false_iff_eq.mpr c24
      clear c24
      by_cases c25 : t333.toList=t316.toList
      ·rw [if_pos c25] at H
       have c25b0 : (t333.toList == t316.toList)=true:=beq_iff_eq.mpr c25
       have c25b1 : (t333.toList != t316.toList)=false:=bne_eq_false_iff_eq.mpr c25
       clear c25
       by_cases c26 : a1=true
       ·subst c26
        have H1 : ((accept_Stored.f k l0).bind fun t336=>(lamplighterlaw11_AcceptAnswers.j0 k l0 t319 t320 ((t332.toList == ([65,65] : List UInt8)) != t336) t332 t333))=some r:=by rw [if_pos rfl] at H; exact H
        clear H
        have H:=H1
        clear H1
        replace H:=Option.bind_eq_some_iff.mp H
        obtain ⟨t336,A270,H⟩:=H
        replace H : (lamplighterlaw11_AcceptAnswers.j0 k l0 t319 t320 ((t332.toList == ([65,65] : List UInt8)) != t336) t332 t333)=some r:=H
        have A27:=Aside0.mk A270
        clear A270
        have H':=Aside0.mk H
        clear H
        try go_wp2
        have n0_:Aside0 (Kd.R (Kd.int .u8) 5 ((w20.setCell ⟨gb335,0,none⟩ (.string t332)).setCell ⟨gb335,1,none⟩ (.string t333)) w.heap.size (fun k_=>some k_ ≠ (.slice Ao18 t328.length co18 : Value).ownBlock) (.slice Ao16 t322.length co16) t322):=⟨by (with_reducible repeat (first | apply Kd.R_alloc | apply Kd.R_drewN | apply Kd.R_drew)); exact Kd.R_mono (Kd.R_far (p:=⟨gb335,1,none⟩) (Kd.R_far (p:=⟨gb335,0,none⟩) (Kd.R_types HO325.out BK335.out (by decide)) (fun _ hk=>hk.2) (.string t332)) (fun _ hk=>hk.2) (.string t333)) (fun _ hk=>hk.1.2)⟩
        have n1_:Aside0 (Kd.R (Kd.int .u8) 5 ((w20.setCell ⟨gb335,0,none⟩ (.string t332)).setCell ⟨gb335,1,none⟩ (.string t333)) w.heap.size (fun k_=>some k_ ≠ (.slice Ao16 t322.length co16 : Value).ownBlock) (.slice Ao18 t328.length co18) t328):=⟨by (with_reducible repeat (first | apply Kd.R_alloc | apply Kd.R_drewN | apply Kd.R_drew)); exact Kd.R_mono (Kd.R_far (p:=⟨gb335,1,none⟩) (Kd.R_far (p:=⟨gb335,0,none⟩) (Kd.R_types HO331.out BK335.out (by decide)) (fun _ hk=>hk.2) (.string t332)) (fun _ hk=>hk.2) (.string t333)) (fun _ hk=>hk.1.2)⟩
        have n2_:Aside0 (((w20.setCell ⟨gb335,0,none⟩ (.string t332)).setCell ⟨gb335,1,none⟩ (.string t333)).heap[gb321]?=some (.cells #[.int .u8 t304, .int .u8 t305, .int .u8 t306, .int .u8 t307, .int .u8 t308, .string t309, .string t310, .string t311, .string t312, .string t313, .string t314, .string t315, .string t316, .string t317, .string t318] 27 (0,0))):=⟨by (with_reducible repeat (first | refine kN ?_ _ | refine kD ?_ | refine kA ?_ _)); refine blk_far ?_ NB321_335.out _; (with_reducible repeat (first | refine kN ?_ _ | refine kD ?_ | refine kA ?_ _)); refine blk_far ?_ NB321_335.out _; (with_reducible repeat (first | refine kN ?_ _ | refine kD ?_ | refine kA ?_ _)); exact BK321.out⟩
        have n3_:Aside0 (((w20.setCell ⟨gb335,0,none⟩ (.string t332)).setCell ⟨gb335,1,none⟩ (.string t333)).heap[gb335]?=some (.cells #[.string t332, .string t333] 37 (0,0))):=⟨by (with_reducible repeat (first | refine kN ?_ _ | refine kD ?_ | refine kA ?_ _)); refine blk_put (cs:=#[.string t332, .string (⟨#[]⟩ : ByteArray)]) ?_ 1 _ rfl; (with_reducible repeat (first | refine kN ?_ _ | refine kD ?_ | refine kA ?_ _)); refine blk_put (cs:=#[.string (⟨#[]⟩ : ByteArray), .string (⟨#[]⟩ : ByteArray)]) ?_ 0 _ rfl; (with_reducible repeat (first | refine kN ?_ _ | refine kD ?_ | refine kA ?_ _)); exact BK335.out⟩
        have n4_:Aside0 (Below w.heap.size w ((w20.setCell ⟨gb335,0,none⟩ (.string t332)).setCell ⟨gb335,1,none⟩ (.string t333))):=⟨by repeat (first | (with_reducible first | exact HB.out | apply bA | apply bN | apply bD | refine below_set ?_ GE321.out | refine below_set ?_ GE335.out) | exact HB.out)⟩
        (try clear HO325)
        (try clear HO331)
        (try clear BK321)
        (try clear BK335)
        (try clear HB)
        generalize ((w20.setCell ⟨gb335,0,none⟩ (.string t332)).setCell ⟨gb335,1,none⟩ (.string t333))=w28 at n0_ n1_ n2_ n3_ n4_ ⊢
        have HO325:=n0_
        have HO331:=n1_
        have BK321:=n2_
        have BK335:=n3_
        have HB:=n4_
        clear n0_ n1_ n2_ n3_ n4_
        have n0_:=Aside0.mk (Kd.R_drew HO325.out)
        have n1_:=Aside0.mk (Kd.R_drew HO331.out)
        have n2_:=Aside0.mk (blk_drew BK321.out)
        have n3_:=Aside0.mk (blk_drew BK335.out)
        have n4_:=Aside0.mk (below_drew1 HB.out)
        clear HO325
        clear HO331
        clear BK321
        clear BK335
        clear HB
        have HO325:=n0_
        have HO331:=n1_
        have BK321:=n2_
        have BK335:=n3_
        have HB:=n4_
        clear n0_ n1_ n2_ n3_ n4_
        refine start_ (n:=24) (S:=fun w'=>w'.cell? ⟨gb335,0,none⟩=some (.string t332)∧w'.cell? ⟨gb335,1,none⟩=some (.string t333)∧w'.cell? ⟨gb321,0,none⟩=some (.int .u8 t304)∧w'.cell? ⟨gb321,1,none⟩=some (.int .u8 t305)∧w'.cell? ⟨gb321,2,none⟩=some (.int .u8 t306)∧w'.cell? ⟨gb321,3,none⟩=some (.int .u8 t307)∧w'.cell? ⟨gb321,4,none⟩=some (.int .u8 t308)∧w'.cell? ⟨gb321,5,none⟩=some (.string t309)∧w'.cell? ⟨gb321,6,none⟩=some (.string t310)∧w'.cell? ⟨gb321,7,none⟩=some (.string t311)∧w'.cell? ⟨gb321,8,none⟩=some (.string t312)∧w'.cell? ⟨gb321,9,none⟩=some (.string t313)∧w'.cell? ⟨gb321,10,none⟩=some (.string t314)∧w'.cell? ⟨gb321,11,none⟩=some (.string t315)∧w'.cell? ⟨gb321,12,none⟩=some (.string t316)∧w'.cell? ⟨gb321,13,none⟩=some (.string t317)∧w'.cell? ⟨gb321,14,none⟩=some (.string t318)) (ds:=[]) #[false,false,false,false,false,false,false,false,false,false,false,false,false,false,false,false,false,false,false,false,false,false,false,false] (by kernel_rfl) rfl rfl ⟨blk_cell BK335.out 0,blk_cell BK335.out 1,blk_cell BK321.out 0,blk_cell BK321.out 1,blk_cell BK321.out 2,blk_cell BK321.out 3,blk_cell BK321.out 4,blk_cell BK321.out 5,blk_cell BK321.out 6,blk_cell BK321.out 7,blk_cell BK321.out 8,blk_cell BK321.out 9,blk_cell BK321.out 10,blk_cell BK321.out 11,blk_cell BK321.out 12,blk_cell BK321.out 13,blk_cell BK321.out 14⟩ (fun hHeld=>?_); refine with_tabW lamplighterlaw11_AcceptAnswers.tab9 lamplighterlaw11_AcceptAnswers.bits9 (fun HT_ HW_=>?_)
        generalize w28.drew=w29 at HO325 HO331 BK321 BK335 HB hHeld ⊢
        refine pure_ (i:=0) (N:=some 57) (v:=?_) (a':=?_) #[true,false,false,false,false,false,false,false,false,false,false,false,false,false,false,false,false,false,false,false,false,false,false,false] rfl rfl (any_of HT_.out (by kernel_rfl)) (fun _ _ _ h=>h) (Or.inl ⟨by rfl,?_⟩) ?_ ?_
        rotate_left
        ·intro w'
         go_simp
         with_reducible rfl
        rotate_left
        ·simp only [Act.put,sA_,s0_,s1_,i64_w,i32_w]
         rfl
        refine pure_ (i:=1) (N:=some 58) (v:=?_) (a':=?_) #[true,true,false,false,false,false,false,false,false,false,false,false,false,false,false,false,false,false,false,false,false,false,false,false] rfl rfl (any_of HT_.out (by kernel_rfl)) (fun _ _ _ h=>h) (Or.inl ⟨by rfl,?_⟩) ?_ ?_
        rotate_left
        ·intro w'
         go_simp
         with_reducible rfl
        rotate_left
        ·simp only [Act.put,sA_,s0_,s1_,i64_w,i32_w]
         rfl
        refine pure_ (i:=2) (N:=some 59) (v:=?_) (a':=?_) #[true,true,true,false,false,false,false,false,false,false,false,false,false,false,false,false,false,false,false,false,false,false,false,false] rfl rfl (any_of HT_.out (by kernel_rfl)) (fun _ _ _ h=>h) (Or.inl ⟨by rfl,?_⟩) ?_ ?_
        rotate_left
        ·intro w'
         go_simp
         with_reducible rfl
        rotate_left
        ·simp only [Act.put,sA_,s0_,s1_,i64_w,i32_w]
         rfl
        refine pure_ (i:=3) (N:=some 60) (v:=?_) (a':=?_) #[true,true,true,true,false,false,false,false,false,false,false,false,false,false,false,false,false,false,false,false,false,false,false,false] rfl rfl (any_of HT_.out (by kernel_rfl)) (fun _ _ _ h=>h) (Or.inl ⟨by rfl,?_⟩) ?_ ?_
        rotate_left
        ·intro w'
         go_simp
         with_reducible rfl
        rotate_left
        ·simp only [Act.put,sA_,s0_,s1_,i64_w,i32_w]
         rfl
        refine pure_ (i:=4) (N:=some 61) (v:=?_) (a':=?_) #[true,true,true,true,true,false,false,false,false,false,false,false,false,false,false,false,false,false,false,false,false,false,false,false] rfl rfl (any_of HT_.out (by kernel_rfl)) (fun _ _ _ h=>h) (Or.inl ⟨by rfl,?_⟩) ?_ ?_
        rotate_left
        ·intro w'
         go_simp
         with_reducible rfl
        rotate_left
        ·simp only [Act.put,sA_,s0_,s1_,i64_w,i32_w]
         rfl
        refine pure_ (i:=5) (N:=some 62) (v:=?_) (a':=?_) #[true,true,true,true,true,true,false,false,false,false,false,false,false,false,false,false,false,false,false,false,false,false,false,false] rfl rfl (any_of HT_.out (by kernel_rfl)) (fun _ _ _ h=>h) (Or.inl ⟨by rfl,?_⟩) ?_ ?_
        rotate_left
        ·intro w'
         go_simp
         with_reducible rfl
        rotate_left
        ·simp only [Act.put,sA_,s0_,s1_,i64_w,i32_w]
         rfl
        refine pure_ (i:=6) (N:=some 63) (v:=?_) (a':=?_) #[true,true,true,true,true,true,true,false,false,false,false,false,false,false,false,false,false,false,false,false,false,false,false,false] rfl rfl (any_of HT_.out (by kernel_rfl)) (fun _ _ _ h=>h) (Or.inl ⟨by rfl,?_⟩) ?_ ?_
        rotate_left
        ·intro w'
         go_simp
         with_reducible rfl
        rotate_left
        ·simp only [Act.put,sA_,s0_,s1_,i64_w,i32_w]
         rfl
        refine pure_ (i:=7) (N:=some 64) (v:=?_) (a':=?_) #[true,true,true,true,true,true,true,true,false,false,false,false,false,false,false,false,false,false,false,false,false,false,false,false] rfl rfl (any_of HT_.out (by kernel_rfl)) (fun _ _ _ h=>h) (Or.inl ⟨by rfl,?_⟩) ?_ ?_
        rotate_left
        ·intro w'
         go_simp
         with_reducible rfl
        rotate_left
        ·simp only [Act.put,sA_,s0_,s1_,i64_w,i32_w]
         rfl
        refine pure_ (i:=9) (N:=some 66) (v:=?_) (a':=?_) #[true,true,true,true,true,true,true,true,false,true,false,false,false,false,false,false,false,false,false,false,false,false,false,false] rfl rfl (any_of HT_.out (by kernel_rfl)) (fun _ _ _ h=>h) (Or.inl ⟨by rfl,?_⟩) ?_ ?_
        rotate_left
        ·intro w'
         go_simp
         with_reducible rfl
        rotate_left
        ·simp only [Act.put,sA_,s0_,s1_,i64_w,i32_w]
         rfl
        refine take_ (i:=8) (N:=some 65) (v:=?_) (a':=?_) #[true,true,true,true,true,true,true,true,true,true,false,false,false,false,false,false,false,false,false,false,false,false,false,false] rfl rfl (take_ofW HT_.out HW_.out (by kernel_rfl)) (fun _ _ _ h=>h) (Or.inl ⟨by rfl,?_⟩) hHeld ?_ ?_
        rotate_left
        ·rintro w' ⟨s0,s1,s2,s3,s4,s5,s6,s7,s8,s9,s10,s11,s12,s13,s14,s15,s16⟩
         go_simp
         with_reducible rfl
        rotate_left
        ·simp only [Act.put,sA_,s0_,s1_,i64_w,i32_w]
         rfl
        refine take_ (i:=10) (N:=some 67) (v:=?_) (a':=?_) #[true,true,true,true,true,true,true,true,true,true,true,false,false,false,false,false,false,false,false,false,false,false,false,false] rfl rfl (take_ofW HT_.out HW_.out (by kernel_rfl)) (fun _ _ _ h=>h) (Or.inl ⟨by rfl,?_⟩) hHeld ?_ ?_
        rotate_left
        ·rintro w' ⟨s0,s1,s2,s3,s4,s5,s6,s7,s8,s9,s10,s11,s12,s13,s14,s15,s16⟩
         go_simp
         with_reducible rfl
        rotate_left
        ·simp only [Act.put,sA_,s0_,s1_,i64_w,i32_w]
         rfl
        refine pure_ (i:=11) (N:=some 68) (v:=?_) (a':=?_) #[true,true,true,true,true,true,true,true,true,true,true,true,false,false,false,false,false,false,false,false,false,false,false,false] rfl rfl (any_of HT_.out (by kernel_rfl)) (fun _ _ _ h=>h) (Or.inl ⟨by rfl,?_⟩) ?_ ?_
        rotate_left
        ·intro w'
         go_simp
         with_reducible rfl
        rotate_left
        ·simp only [Act.put,sA_,s0_,s1_,i64_w,i32_w]
         rfl
        refine pure_ (i:=12) (N:=some 69) (v:=?_) (a':=?_) #[true,true,true,true,true,true,true,true,true,true,true,true,true,false,false,false,false,false,false,false,false,false,false,false] rfl rfl (any_of HT_.out (by kernel_rfl)) (fun _ _ _ h=>h) (Or.inl ⟨by rfl,?_⟩) ?_ ?_
        rotate_left
        ·intro w'
         go_simp
         with_reducible rfl
        rotate_left
        ·simp only [Act.put,sA_,s0_,s1_,i64_w,i32_w]
         rfl
        refine pure_ (i:=13) (N:=some 70) (v:=?_) (a':=?_) #[true,true,true,true,true,true,true,true,true,true,true,true,true,true,false,false,false,false,false,false,false,false,false,false] rfl rfl (any_of HT_.out (by kernel_rfl)) (fun _ _ _ h=>h) (Or.inl ⟨by rfl,?_⟩) ?_ ?_
        rotate_left
        ·intro w'
         go_simp
         with_reducible rfl
        rotate_left
        ·simp only [Act.put,sA_,s0_,s1_,i64_w,i32_w]
         rfl
        refine pure_ (i:=14) (N:=some 71) (v:=?_) (a':=?_) #[true,true,true,true,true,true,true,true,true,true,true,true,true,true,true,false,false,false,false,false,false,false,false,false] rfl rfl (any_of HT_.out (by kernel_rfl)) (fun _ _ _ h=>h) (Or.inl ⟨by rfl,?_⟩) ?_ ?_
        rotate_left
        ·intro w'
         go_simp
         with_reducible rfl
        rotate_left
        ·simp only [Act.put,sA_,s0_,s1_,i64_w,i32_w]
         rfl
        refine pure_ (i:=17) (N:=some 74) (v:=?_) (a':=?_) #[true,true,true,true,true,true,true,true,true,true,true,true,true,true,true,false,false,true,false,false,false,false,false,false] rfl rfl (any_of HT_.out (by kernel_rfl)) (fun _ _ _ h=>h) (Or.inl ⟨by rfl,?_⟩) ?_ ?_
        rotate_left
        ·intro w'
         go_simp
         with_reducible rfl
        rotate_left
        ·simp only [Act.put,sA_,s0_,s1_,i64_w,i32_w]
         rfl
        refine pure_ (i:=18) (N:=some 75) (v:=?_) (a':=?_) #[true,true,true,true,true,true,true,true,true,true,true,true,true,true,true,false,false,true,true,false,false,false,false,false] rfl rfl (any_of HT_.out (by kernel_rfl)) (fun _ _ _ h=>h) (Or.inl ⟨by rfl,?_⟩) ?_ ?_
        rotate_left
        ·intro w'
         go_simp
         with_reducible rfl
        rotate_left
        ·simp only [Act.put,sA_,s0_,s1_,i64_w,i32_w]
         rfl
        refine pure_ (i:=19) (N:=some 76) (v:=?_) (a':=?_) #[true,true,true,true,true,true,true,true,true,true,true,true,true,true,true,false,false,true,true,true,false,false,false,false] rfl rfl (any_of HT_.out (by kernel_rfl)) (fun _ _ _ h=>h) (Or.inl ⟨by rfl,?_⟩) ?_ ?_
        rotate_left
        ·intro w'
         go_simp
         with_reducible rfl
        rotate_left
        ·simp only [Act.put,sA_,s0_,s1_,i64_w,i32_w]
         rfl
        refine take_ (i:=15) (N:=some 72) (v:=?_) (a':=?_) #[true,true,true,true,true,true,true,true,true,true,true,true,true,true,true,true,false,true,true,true,false,false,false,false] rfl rfl (take_ofW HT_.out HW_.out (by kernel_rfl)) (fun _ _ _ h=>h) (Or.inl ⟨by rfl,?_⟩) hHeld ?_ ?_
        rotate_left
        ·rintro w' ⟨s0,s1,s2,s3,s4,s5,s6,s7,s8,s9,s10,s11,s12,s13,s14,s15,s16⟩
         go_simp
         with_reducible rfl
        rotate_left
        ·simp only [Act.put,sA_,s0_,s1_,i64_w,i32_w]
         rfl
        refine pure_ (i:=16) (N:=some 73) (v:=?_) (a':=?_) #[true,true,true,true,true,true,true,true,true,true,true,true,true,true,true,true,true,true,true,true,false,false,false,false] rfl rfl (any_of HT_.out (by kernel_rfl)) (fun _ _ _ h=>h) (Or.inl ⟨by rfl,?_⟩) ?_ ?_
        rotate_left
        ·intro w'
         go_simp
         with_reducible rfl
        rotate_left
        ·simp only [Act.put,sA_,s0_,s1_,i64_w,i32_w]
         rfl
        refine one_ (i:=20) (N:=some 77) #[true,true,true,true,true,true,true,true,true,true,true,true,true,true,true,true,true,true,true,true,true,false,false,false] rfl rfl (one_of HT_.out (by kernel_rfl)) (by decide) (fun K hK=>?_)
        refine goes_ Tryd.func10 (by kernel_rfl) rfl #[.slice A0 l0.length c0] (by rfl) rfl rfl (by (try simp only [List.map_toArray,List.map_cons,List.map_nil]); first | done | rfl | (simp only [List.length_drop,List.length_take]; rfl)) ?_
        with_reducible refine (accept_Stored.calls k _ _ l0 t336 _ ?side1 ?side2 A27.out (glob_below HGLOB.out (by repeat (first | (with_reducible first | exact HB.out | apply bA | apply bN | apply bD | refine below_set ?_ GE321.out | refine below_set ?_ GE335.out) | exact HB.out)))).mono ?_
        (case side1=>repeat (first | exact (Kd.C_below HR0.out HB.out) | (with_reducible refine Kd.C_alloc ?_ _) | (with_reducible refine Kd.C_drewN ?_ _) | (with_reducible refine Kd.C_drew ?_)))
        (case side2=>exact HC0.out)
        rintro e w30 ⟨rfl,hb⟩
        refine ⟨_,rfl,?_⟩
        have n0_:=Aside0.mk (Kd.R_below (by (with_reducible repeat (first | apply Kd.R_alloc | apply Kd.R_drewN | apply Kd.R_drew)); exact HO325.out) hb)
        have n1_:=Aside0.mk (Kd.R_below (by (with_reducible repeat (first | apply Kd.R_alloc | apply Kd.R_drewN | apply Kd.R_drew)); exact HO331.out) hb)
        have n2_:=Aside0.mk (blk_below (g:=gb321) (o := .cells #[.int .u8 t304, .int .u8 t305, .int .u8 t306, .int .u8 t307, .int .u8 t308, .string t309, .string t310, .string t311, .string t312, .string t313, .string t314, .string t315, .string t316, .string t317, .string t318] 27 (0,0)) (by (with_reducible repeat (first | refine kN ?_ _ | refine kD ?_ | refine kA ?_ _)); exact BK321.out) hb)
        have n3_:=Aside0.mk (blk_below (g:=gb335) (o := .cells #[.string t332, .string t333] 37 (0,0)) (by (with_reducible repeat (first | refine kN ?_ _ | refine kD ?_ | refine kA ?_ _)); exact BK335.out) hb)
        have n4_:=Aside0.mk (below_step (by repeat (first | (with_reducible first | exact HB.out | apply bA | apply bN | apply bD | refine below_set ?_ GE321.out | refine below_set ?_ GE335.out) | exact HB.out)) hb)
        clear HO325
        clear HO331
        clear BK321
        clear BK335
        clear HB
        have HO325:=n0_
        have HO331:=n1_
        have BK321:=n2_
        have BK335:=n3_
        have HB:=n4_
        clear n0_ n1_ n2_ n3_ n4_
        (try clear hb)
        (try clear hb2)
        (try clear hk)
        (try clear hi)
        refine hK.out _ _ ⟨blk_cell BK335.out 0,blk_cell BK335.out 1,blk_cell BK321.out 0,blk_cell BK321.out 1,blk_cell BK321.out 2,blk_cell BK321.out 3,blk_cell BK321.out 4,blk_cell BK321.out 5,blk_cell BK321.out 6,blk_cell BK321.out 7,blk_cell BK321.out 8,blk_cell BK321.out 9,blk_cell BK321.out 10,blk_cell BK321.out 11,blk_cell BK321.out 12,blk_cell BK321.out 13,blk_cell BK321.out 14⟩ (fun hHeld=>?_)
        clear hK K
        refine norm_ (a':=?_) ?_ ?_
        rotate_left
        ·show Act.put _ (some 77) _=_
         simp only [Act.put,sA_,s0_,s1_,i64_w,i32_w]
         rfl
        refine pure_ (i:=21) (N:=some 78) (v:=?_) (a':=?_) #[true,true,true,true,true,true,true,true,true,true,true,true,true,true,true,true,true,true,true,true,true,true,false,false] rfl rfl (any_of HT_.out (by kernel_rfl)) (fun _ _ _ h=>h) (Or.inl ⟨by rfl,?_⟩) ?_ ?_
        rotate_left
        ·intro w'
         go_simp
         with_reducible rfl
        rotate_left
        ·simp only [Act.put,sA_,s0_,s1_,i64_w,i32_w]
         rfl
        refine pure_ (i:=22) (N:=some 79) (v:=?_) (a':=?_) #[true,true,true,true,true,true,true,true,true,true,true,true,true,true,true,true,true,true,true,true,true,true,true,false] rfl rfl (any_of HT_.out (by kernel_rfl)) (fun _ _ _ h=>h) (Or.inl ⟨by rfl,?_⟩) ?_ ?_
        rotate_left
        ·intro w'
         go_simp
         with_reducible rfl
        rotate_left
        ·simp only [Act.put,sA_,s0_,s1_,i64_w,i32_w]
         rfl
        refine pure_ (i:=23) (N:=some 80) (v:=?_) (a':=?_) #[true,true,true,true,true,true,true,true,true,true,true,true,true,true,true,true,true,true,true,true,true,true,true,true] rfl rfl (any_of HT_.out (by kernel_rfl)) (fun _ _ _ h=>h) (Or.inl ⟨by rfl,?_⟩) ?_ ?_
        rotate_left
        ·intro w'
         go_simp
         with_reducible rfl
        rotate_left
        ·simp only [Act.put,sA_,s0_,s1_,i64_w,i32_w]
         rfl
        refine done_ (done_of HT_.out (by kernel_rfl)) ?_
        try go_wp2
        go_meet
        case rel=>exact ⟨_,(((t332.toList == ([65,65] : List UInt8)) != t336)),(by first | rfl | (simp; done) | (simp [*]; done)),H',⟨by first | omega | exact Nat.le_refl _⟩,⟨by (with_reducible repeat (first | refine kN ?_ _ | refine kD ?_ | refine kA ?_ _)); exact BK321.out⟩,⟨by (with_reducible repeat (first | refine kN ?_ _ | refine kD ?_ | refine kA ?_ _)); exact BK335.out⟩,⟨by repeat (first | (with_reducible first | exact HB.out | apply bA | apply bN | apply bD | refine below_set ?_ GE321.out | refine below_set ?_ GE335.out) | exact HB.out)⟩⟩
       ·replace c26:=Bool.eq_false_iff.mpr c26
        subst c26
        have H1 : (lamplighterlaw11_AcceptAnswers.j0 k l0 t319 t320 ((t332.toList == ([65,65] : List UInt8)) != false) t332 t333)=some r:=by rw [if_neg (show ¬ (false=true) by decide)] at H; exact H
        clear H
        have H:=H1
        clear H1
        have H':=Aside0.mk H
        clear H
        try go_wp2
        have n0_:Aside0 (Kd.R (Kd.int .u8) 5 ((w20.setCell ⟨gb335,0,none⟩ (.string t332)).setCell ⟨gb335,1,none⟩ (.string t333)) w.heap.size (fun k_=>some k_ ≠ (.slice Ao18 t328.length co18 : Value).ownBlock) (.slice Ao16 t322.length co16) t322):=⟨by (with_reducible repeat (first | apply Kd.R_alloc | apply Kd.R_drewN | apply Kd.R_drew)); exact Kd.R_mono (Kd.R_far (p:=⟨gb335,1,none⟩) (Kd.R_far (p:=⟨gb335,0,none⟩) (Kd.R_types HO325.out BK335.out (by decide)) (fun _ hk=>hk.2) (.string t332)) (fun _ hk=>hk.2) (.string t333)) (fun _ hk=>hk.1.2)⟩
        have n1_:Aside0 (Kd.R (Kd.int .u8) 5 ((w20.setCell ⟨gb335,0,none⟩ (.string t332)).setCell ⟨gb335,1,none⟩ (.string t333)) w.heap.size (fun k_=>some k_ ≠ (.slice Ao16 t322.length co16 : Value).ownBlock) (.slice Ao18 t328.length co18) t328):=⟨by (with_reducible repeat (first | apply Kd.R_alloc | apply Kd.R_drewN | apply Kd.R_drew)); exact Kd.R_mono (Kd.R_far (p:=⟨gb335,1,none⟩) (Kd.R_far (p:=⟨gb335,0,none⟩) (Kd.R_types HO331.out BK335.out (by decide)) (fun _ hk=>hk.2) (.string t332)) (fun _ hk=>hk.2) (.string t333)) (fun _ hk=>hk.1.2)⟩
        have n2_:Aside0 (((w20.setCell ⟨gb335,0,none⟩ (.string t332)).setCell ⟨gb335,1,none⟩ (.string t333)).heap[gb321]?=some (.cells #[.int .u8 t304, .int .u8 t305, .int .u8 t306, .int .u8 t307, .int .u8 t308, .string t309, .string t310, .string t311, .string t312, .string t313, .string t314, .string t315, .string t316, .string t317, .string t318] 27 (0,0))):=⟨by (with_reducible repeat (first | refine kN ?_ _ | refine kD ?_ | refine kA ?_ _)); refine blk_far ?_ NB321_335.out _; (with_reducible repeat (first | refine kN ?_ _ | refine kD ?_ | refine kA ?_ _)); refine blk_far ?_ NB321_335.out _; (with_reducible repeat (first | refine kN ?_ _ | refine kD ?_ | refine kA ?_ _)); exact BK321.out⟩
        have n3_:Aside0 (((w20.setCell ⟨gb335,0,none⟩ (.string t332)).setCell ⟨gb335,1,none⟩ (.string t333)).heap[gb335]?=some (.cells #[.string t332, .string t333] 37 (0,0))):=⟨by (with_reducible repeat (first | refine kN ?_ _ | refine kD ?_ | refine kA ?_ _)); refine blk_put (cs:=#[.string t332, .string (⟨#[]⟩ : ByteArray)]) ?_ 1 _ rfl; (with_reducible repeat (first | refine kN ?_ _ | refine kD ?_ | refine kA ?_ _)); refine blk_put (cs:=#[.string (⟨#[]⟩ : ByteArray), .string (⟨#[]⟩ : ByteArray)]) ?_ 0 _ rfl; (with_reducible repeat (first | refine kN ?_ _ | refine kD ?_ | refine kA ?_ _)); exact BK335.out⟩
        have n4_:Aside0 (Below w.heap.size w ((w20.setCell ⟨gb335,0,none⟩ (.string t332)).setCell ⟨gb335,1,none⟩ (.string t333))):=⟨by repeat (first | (with_reducible first | exact HB.out | apply bA | apply bN | apply bD | refine below_set ?_ GE321.out | refine below_set ?_ GE335.out) | exact HB.out)⟩
        (try clear HO325)
        (try clear HO331)
        (try clear BK321)
        (try clear BK335)
        (try clear HB)
        generalize ((w20.setCell ⟨gb335,0,none⟩ (.string t332)).setCell ⟨gb335,1,none⟩ (.string t333))=w31 at n0_ n1_ n2_ n3_ n4_ ⊢
        have HO325:=n0_
        have HO331:=n1_
        have BK321:=n2_
        have BK335:=n3_
        have HB:=n4_
        clear n0_ n1_ n2_ n3_ n4_
        have n0_:=Aside0.mk (Kd.R_drew HO325.out)
        have n1_:=Aside0.mk (Kd.R_drew HO331.out)
        have n2_:=Aside0.mk (blk_drew BK321.out)
        have n3_:=Aside0.mk (blk_drew BK335.out)
        have n4_:=Aside0.mk (below_drew1 HB.out)
        clear HO325
        clear HO331
        clear BK321
        clear BK335
        clear HB
        have HO325:=n0_
        have HO331:=n1_
        have BK321:=n2_
        have BK335:=n3_
        have HB:=n4_
        clear n0_ n1_ n2_ n3_ n4_
        refine start_ (n:=24) (S:=fun w'=>w'.cell? ⟨gb335,0,none⟩=some (.string t332)∧w'.cell? ⟨gb335,1,none⟩=some (.string t333)∧w'.cell? ⟨gb321,0,none⟩=some (.int .u8 t304)∧w'.cell? ⟨gb321,1,none⟩=some (.int .u8 t305)∧w'.cell? ⟨gb321,2,none⟩=some (.int .u8 t306)∧w'.cell? ⟨gb321,3,none⟩=some (.int .u8 t307)∧w'.cell? ⟨gb321,4,none⟩=some (.int .u8 t308)∧w'.cell? ⟨gb321,5,none⟩=some (.string t309)∧w'.cell? ⟨gb321,6,none⟩=some (.string t310)∧w'.cell? ⟨gb321,7,none⟩=some (.string t311)∧w'.cell? ⟨gb321,8,none⟩=some (.string t312)∧w'.cell? ⟨gb321,9,none⟩=some (.string t313)∧w'.cell? ⟨gb321,10,none⟩=some (.string t314)∧w'.cell? ⟨gb321,11,none⟩=some (.string t315)∧w'.cell? ⟨gb321,12,none⟩=some (.string t316)∧w'.cell? ⟨gb321,13,none⟩=some (.string t317)∧w'.cell? ⟨gb321,14,none⟩=some (.string t318)) (ds:=[]) #[false,false,false,false,false,false,false,false,false,false,false,false,false,false,false,false,false,false,false,false,false,false,false,false] (by kernel_rfl) rfl rfl ⟨blk_cell BK335.out 0,blk_cell BK335.out 1,blk_cell BK321.out 0,blk_cell BK321.out 1,blk_cell BK321.out 2,blk_cell BK321.out 3,blk_cell BK321.out 4,blk_cell BK321.out 5,blk_cell BK321.out 6,blk_cell BK321.out 7,blk_cell BK321.out 8,blk_cell BK321.out 9,blk_cell BK321.out 10,blk_cell BK321.out 11,blk_cell BK321.out 12,blk_cell BK321.out 13,blk_cell BK321.out 14⟩ (fun hHeld=>?_); refine with_tabW lamplighterlaw11_AcceptAnswers.tab9 lamplighterlaw11_AcceptAnswers.bits9 (fun HT_ HW_=>?_)
        generalize w31.drew=w32 at HO325 HO331 BK321 BK335 HB hHeld ⊢
        refine pure_ (i:=0) (N:=some 57) (v:=?_) (a':=?_) #[true,false,false,false,false,false,false,false,false,false,false,false,false,false,false,false,false,false,false,false,false,false,false,false] rfl rfl (any_of HT_.out (by kernel_rfl)) (fun _ _ _ h=>h) (Or.inl ⟨by rfl,?_⟩) ?_ ?_
        rotate_left
        ·intro w'
         go_simp
         with_reducible rfl
        rotate_left
        ·simp only [Act.put,sA_,s0_,s1_,i64_w,i32_w]
         rfl
        refine pure_ (i:=1) (N:=some 58) (v:=?_) (a':=?_) #[true,true,false,false,false,false,false,false,false,false,false,false,false,false,false,false,false,false,false,false,false,false,false,false] rfl rfl (any_of HT_.out (by kernel_rfl)) (fun _ _ _ h=>h) (Or.inl ⟨by rfl,?_⟩) ?_ ?_
        rotate_left
        ·intro w'
         go_simp
         with_reducible rfl
        rotate_left
        ·simp only [Act.put,sA_,s0_,s1_,i64_w,i32_w]
         rfl
        refine pure_ (i:=2) (N:=some 59) (v:=?_) (a':=?_) #[true,true,true,false,false,false,false,false,false,false,false,false,false,false,false,false,false,false,false,false,false,false,false,false] rfl rfl (any_of HT_.out (by kernel_rfl)) (fun _ _ _ h=>h) (Or.inl ⟨by rfl,?_⟩) ?_ ?_
        rotate_left
        ·intro w'
         go_simp
         with_reducible rfl
        rotate_left
        ·simp only [Act.put,sA_,s0_,s1_,i64_w,i32_w]
         rfl
        refine pure_ (i:=3) (N:=some 60) (v:=?_) (a':=?_) #[true,true,true,true,false,false,false,false,false,false,false,false,false,false,false,false,false,false,false,false,false,false,false,false] rfl rfl (any_of HT_.out (by kernel_rfl)) (fun _ _ _ h=>h) (Or.inl ⟨by rfl,?_⟩) ?_ ?_
        rotate_left
        ·intro w'
         go_simp
         with_reducible rfl
        rotate_left
        ·simp only [Act.put,sA_,s0_,s1_,i64_w,i32_w]
         rfl
        refine pure_ (i:=4) (N:=some 61) (v:=?_) (a':=?_) #[true,true,true,true,true,false,false,false,false,false,false,false,false,false,false,false,false,false,false,false,false,false,false,false] rfl rfl (any_of HT_.out (by kernel_rfl)) (fun _ _ _ h=>h) (Or.inl ⟨by rfl,?_⟩) ?_ ?_
        rotate_left
        ·intro w'
         go_simp
         with_reducible rfl
        rotate_left
        ·simp only [Act.put,sA_,s0_,s1_,i64_w,i32_w]
         rfl
        refine pure_ (i:=5) (N:=some 62) (v:=?_) (a':=?_) #[true,true,true,true,true,true,false,false,false,false,false,false,false,false,false,false,false,false,false,false,false,false,false,false] rfl rfl (any_of HT_.out (by kernel_rfl)) (fun _ _ _ h=>h) (Or.inl ⟨by rfl,?_⟩) ?_ ?_
        rotate_left
        ·intro w'
         go_simp
         with_reducible rfl
        rotate_left
        ·simp only [Act.put,sA_,s0_,s1_,i64_w,i32_w]
         rfl
        refine pure_ (i:=6) (N:=some 63) (v:=?_) (a':=?_) #[true,true,true,true,true,true,true,false,false,false,false,false,false,false,false,false,false,false,false,false,false,false,false,false] rfl rfl (any_of HT_.out (by kernel_rfl)) (fun _ _ _ h=>h) (Or.inl ⟨by rfl,?_⟩) ?_ ?_
        rotate_left
        ·intro w'
         go_simp
         with_reducible rfl
        rotate_left
        ·simp only [Act.put,sA_,s0_,s1_,i64_w,i32_w]
         rfl
        refine pure_ (i:=7) (N:=some 64) (v:=?_) (a':=?_) #[true,true,true,true,true,true,true,true,false,false,false,false,false,false,false,false,false,false,false,false,false,false,false,false] rfl rfl (any_of HT_.out (by kernel_rfl)) (fun _ _ _ h=>h) (Or.inl ⟨by rfl,?_⟩) ?_ ?_
        rotate_left
        ·intro w'
         go_simp
         with_reducible rfl
        rotate_left
        ·simp only [Act.put,sA_,s0_,s1_,i64_w,i32_w]
         rfl
        refine pure_ (i:=9) (N:=some 66) (v:=?_) (a':=?_) #[true,true,true,true,true,true,true,true,false,true,false,false,false,false,false,false,false,false,false,false,false,false,false,false] rfl rfl (any_of HT_.out (by kernel_rfl)) (fun _ _ _ h=>h) (Or.inl ⟨by rfl,?_⟩) ?_ ?_
        rotate_left
        ·intro w'
         go_simp
         with_reducible rfl
        rotate_left
        ·simp only [Act.put,sA_,s0_,s1_,i64_w,i32_w]
         rfl
        refine take_ (i:=8) (N:=some 65) (v:=?_) (a':=?_) #[true,true,true,true,true,true,true,true,true,true,false,false,false,false,false,false,false,false,false,false,false,false,false,false] rfl rfl (take_ofW HT_.out HW_.out (by kernel_rfl)) (fun _ _ _ h=>h) (Or.inl ⟨by rfl,?_⟩) hHeld ?_ ?_
        rotate_left
        ·rintro w' ⟨s0,s1,s2,s3,s4,s5,s6,s7,s8,s9,s10,s11,s12,s13,s14,s15,s16⟩
         go_simp
         with_reducible rfl
        rotate_left
        ·simp only [Act.put,sA_,s0_,s1_,i64_w,i32_w]
         rfl
        refine take_ (i:=10) (N:=some 67) (v:=?_) (a':=?_) #[true,true,true,true,true,true,true,true,true,true,true,false,false,false,false,false,false,false,false,false,false,false,false,false] rfl rfl (take_ofW HT_.out HW_.out (by kernel_rfl)) (fun _ _ _ h=>h) (Or.inl ⟨by rfl,?_⟩) hHeld ?_ ?_
        rotate_left
        ·rintro w' ⟨s0,s1,s2,s3,s4,s5,s6,s7,s8,s9,s10,s11,s12,s13,s14,s15,s16⟩
         go_simp
         with_reducible rfl
        rotate_left
        ·simp only [Act.put,sA_,s0_,s1_,i64_w,i32_w]
         rfl
        refine pure_ (i:=11) (N:=some 68) (v:=?_) (a':=?_) #[true,true,true,true,true,true,true,true,true,true,true,true,false,false,false,false,false,false,false,false,false,false,false,false] rfl rfl (any_of HT_.out (by kernel_rfl)) (fun _ _ _ h=>h) (Or.inl ⟨by rfl,?_⟩) ?_ ?_
        rotate_left
        ·intro w'
         go_simp
         with_reducible rfl
        rotate_left
        ·simp only [Act.put,sA_,s0_,s1_,i64_w,i32_w]
         rfl
        refine pure_ (i:=12) (N:=some 69) (v:=?_) (a':=?_) #[true,true,true,true,true,true,true,true,true,true,true,true,true,false,false,false,false,false,false,false,false,false,false,false] rfl rfl (any_of HT_.out (by kernel_rfl)) (fun _ _ _ h=>h) (Or.inl ⟨by rfl,?_⟩) ?_ ?_
        rotate_left
        ·intro w'
         go_simp
         with_reducible rfl
        rotate_left
        ·simp only [Act.put,sA_,s0_,s1_,i64_w,i32_w]
         rfl
        refine pure_ (i:=13) (N:=some 70) (v:=?_) (a':=?_) #[true,true,true,true,true,true,true,true,true,true,true,true,true,true,false,false,false,false,false,false,false,false,false,false] rfl rfl (any_of HT_.out (by kernel_rfl)) (fun _ _ _ h=>h) (Or.inl ⟨by rfl,?_⟩) ?_ ?_
        rotate_left
        ·intro w'
         go_simp
         with_reducible rfl
        rotate_left
        ·simp only [Act.put,sA_,s0_,s1_,i64_w,i32_w]
         rfl
        refine pure_ (i:=14) (N:=some 71) (v:=?_) (a':=?_) #[true,true,true,true,true,true,true,true,true,true,true,true,true,true,true,false,false,false,false,false,false,false,false,false] rfl rfl (any_of HT_.out (by kernel_rfl)) (fun _ _ _ h=>h) (Or.inl ⟨by rfl,?_⟩) ?_ ?_
        rotate_left
        ·intro w'
         go_simp
         with_reducible rfl
        rotate_left
        ·simp only [Act.put,sA_,s0_,s1_,i64_w,i32_w]
         rfl
        refine pure_ (i:=17) (N:=some 74) (v:=?_) (a':=?_) #[true,true,true,true,true,true,true,true,true,true,true,true,true,true,true,false,false,true,false,false,false,false,false,false] rfl rfl (any_of HT_.out (by kernel_rfl)) (fun _ _ _ h=>h) (Or.inl ⟨by rfl,?_⟩) ?_ ?_
        rotate_left
        ·intro w'
         go_simp
         with_reducible rfl
        rotate_left
        ·simp only [Act.put,sA_,s0_,s1_,i64_w,i32_w]
         rfl
        refine pure_ (i:=18) (N:=some 75) (v:=?_) (a':=?_) #[true,true,true,true,true,true,true,true,true,true,true,true,true,true,true,false,false,true,true,false,false,false,false,false] rfl rfl (any_of HT_.out (by kernel_rfl)) (fun _ _ _ h=>h) (Or.inl ⟨by rfl,?_⟩) ?_ ?_
        rotate_left
        ·intro w'
         go_simp
         with_reducible rfl
        rotate_left
        ·simp only [Act.put,sA_,s0_,s1_,i64_w,i32_w]
         rfl
        refine pure_ (i:=19) (N:=some 76) (v:=undef) (a':=?_) #[true,true,true,true,true,true,true,true,true,true,true,true,true,true,true,false,false,true,true,true,false,false,false,false] rfl rfl (any_of HT_.out (by kernel_rfl)) (fun _ _ _ h=>h) (Or.inr ⟨by rfl,rfl⟩) ?_ ?_
        rotate_left
        ·simp only [Act.put,sA_,s0_,s1_,i64_w,i32_w]
         rfl
        refine pure_ (i:=20) (N:=some 77) (v:=undef) (a':=?_) #[true,true,true,true,true,true,true,true,true,true,true,true,true,true,true,false,false,true,true,true,true,false,false,false] rfl rfl (any_of HT_.out (by kernel_rfl)) (fun _ _ _ h=>h) (Or.inr ⟨by rfl,rfl⟩) ?_ ?_
        rotate_left
        ·simp only [Act.put,sA_,s0_,s1_,i64_w,i32_w]
         rfl
        refine pure_ (i:=21) (N:=some 78) (v:=?_) (a':=?_) #[true,true,true,true,true,true,true,true,true,true,true,true,true,true,true,false,false,true,true,true,true,true,false,false] rfl rfl (any_of HT_.out (by kernel_rfl)) (fun _ _ _ h=>h) (Or.inl ⟨by rfl,?_⟩) ?_ ?_
        rotate_left
        ·intro w'
         go_simp
         with_reducible rfl
        rotate_left
        ·simp only [Act.put,sA_,s0_,s1_,i64_w,i32_w]
         rfl
        refine take_ (i:=15) (N:=some 72) (v:=?_) (a':=?_) #[true,true,true,true,true,true,true,true,true,true,true,true,true,true,true,true,false,true,true,true,true,true,false,false] rfl rfl (take_ofW HT_.out HW_.out (by kernel_rfl)) (fun _ _ _ h=>h) (Or.inl ⟨by rfl,?_⟩) hHeld ?_ ?_
        rotate_left
        ·rintro w' ⟨s0,s1,s2,s3,s4,s5,s6,s7,s8,s9,s10,s11,s12,s13,s14,s15,s16⟩
         go_simp
         with_reducible rfl
        rotate_left
        ·simp only [Act.put,sA_,s0_,s1_,i64_w,i32_w]
         rfl
        refine pure_ (i:=16) (N:=some 73) (v:=?_) (a':=?_) #[true,true,true,true,true,true,true,true,true,true,true,true,true,true,true,true,true,true,true,true,true,true,false,false] rfl rfl (any_of HT_.out (by kernel_rfl)) (fun _ _ _ h=>h) (Or.inl ⟨by rfl,?_⟩) ?_ ?_
        rotate_left
        ·intro w'
         go_simp
         with_reducible rfl
        rotate_left
        ·simp only [Act.put,sA_,s0_,s1_,i64_w,i32_w]
         rfl
        refine pure_ (i:=22) (N:=some 79) (v:=?_) (a':=?_) #[true,true,true,true,true,true,true,true,true,true,true,true,true,true,true,true,true,true,true,true,true,true,true,false] rfl rfl (any_of HT_.out (by kernel_rfl)) (fun _ _ _ h=>h) (Or.inl ⟨by rfl,?_⟩) ?_ ?_
        rotate_left
        ·intro w'
         go_simp
         with_reducible rfl
        rotate_left
        ·simp only [Act.put,sA_,s0_,s1_,i64_w,i32_w]
         rfl
        refine pure_ (i:=23) (N:=some 80) (v:=?_) (a':=?_) #[true,true,true,true,true,true,true,true,true,true,true,true,true,true,true,true,true,true,true,true,true,true,true,true] rfl rfl (any_of HT_.out (by kernel_rfl)) (fun _ _ _ h=>h) (Or.inl ⟨by rfl,?_⟩) ?_ ?_
        rotate_left
        ·intro w'
         go_simp
         with_reducible rfl
        rotate_left
        ·simp only [Act.put,sA_,s0_,s1_,i64_w,i32_w]
         rfl
        refine done_ (done_of HT_.out (by kernel_rfl)) ?_
        try go_wp2
        go_meet
        case rel=>exact ⟨_,(((t332.toList == ([65,65] : List UInt8)) != false)),(by first | rfl | (simp; done) | (simp [*]; done)),H',⟨by first | omega | exact Nat.le_refl _⟩,⟨by (with_reducible repeat (first | refine kN ?_ _ | refine kD ?_ | refine kA ?_ _)); exact BK321.out⟩,⟨by (with_reducible repeat (first | refine kN ?_ _ | refine kD ?_ | refine kA ?_ _)); exact BK335.out⟩,⟨by repeat (first | (with_reducible first | exact HB.out | apply bA | apply bN | apply bD | refine below_set ?_ GE321.out | refine below_set ?_ GE335.out) | exact HB.out)⟩⟩
      ·rw [if_neg c25] at H
       have c25b0 : (t333.toList == t316.toList)=false:=beq_eq_false_iff_ne.mpr c25
       have c25b1 : (t333.toList != t316.toList)=true:=bne_iff_ne.mpr c25
       have H':=Aside0.mk H
       clear H
       try go_wp2
       have n0_:Aside0 (Kd.R (Kd.int .u8) 5 ((w20.setCell ⟨gb335,0,none⟩ (.string t332)).setCell ⟨gb335,1,none⟩ (.string t333)) w.heap.size (fun k_=>some k_ ≠ (.slice Ao18 t328.length co18 : Value).ownBlock) (.slice Ao16 t322.length co16) t322):=⟨by (with_reducible repeat (first | apply Kd.R_alloc | apply Kd.R_drewN | apply Kd.R_drew)); exact Kd.R_mono (Kd.R_far (p:=⟨gb335,1,none⟩) (Kd.R_far (p:=⟨gb335,0,none⟩) (Kd.R_types HO325.out BK335.out (by decide)) (fun _ hk=>hk.2) (.string t332)) (fun _ hk=>hk.2) (.string t333)) (fun _ hk=>hk.1.2)⟩
       have n1_:Aside0 (Kd.R (Kd.int .u8) 5 ((w20.setCell ⟨gb335,0,none⟩ (.string t332)).setCell ⟨gb335,1,none⟩ (.string t333)) w.heap.size (fun k_=>some k_ ≠ (.slice Ao16 t322.length co16 : Value).ownBlock) (.slice Ao18 t328.length co18) t328):=⟨by (with_reducible repeat (first | apply Kd.R_alloc | apply Kd.R_drewN | apply Kd.R_drew)); exact Kd.R_mono (Kd.R_far (p:=⟨gb335,1,none⟩) (Kd.R_far (p:=⟨gb335,0,none⟩) (Kd.R_types HO331.out BK335.out (by decide)) (fun _ hk=>hk.2) (.string t332)) (fun _ hk=>hk.2) (.string t333)) (fun _ hk=>hk.1.2)⟩
       have n2_:Aside0 (((w20.setCell ⟨gb335,0,none⟩ (.string t332)).setCell ⟨gb335,1,none⟩ (.string t333)).heap[gb321]?=some (.cells #[.int .u8 t304, .int .u8 t305, .int .u8 t306, .int .u8 t307, .int .u8 t308, .string t309, .string t310, .string t311, .string t312, .string t313, .string t314, .string t315, .string t316, .string t317, .string t318] 27 (0,0))):=⟨by (with_reducible repeat (first | refine kN ?_ _ | refine kD ?_ | refine kA ?_ _)); refine blk_far ?_ NB321_335.out _; (with_reducible repeat (first | refine kN ?_ _ | refine kD ?_ | refine kA ?_ _)); refine blk_far ?_ NB321_335.out _; (with_reducible repeat (first | refine kN ?_ _ | refine kD ?_ | refine kA ?_ _)); exact BK321.out⟩
       have n3_:Aside0 (((w20.setCell ⟨gb335,0,none⟩ (.string t332)).setCell ⟨gb335,1,none⟩ (.string t333)).heap[gb335]?=some (.cells #[.string t332, .string t333] 37 (0,0))):=⟨by (with_reducible repeat (first | refine kN ?_ _ | refine kD ?_ | refine kA ?_ _)); refine blk_put (cs:=#[.string t332, .string (⟨#[]⟩ : ByteArray)]) ?_ 1 _ rfl; (with_reducible repeat (first | refine kN ?_ _ | refine kD ?_ | refine kA ?_ _)); refine blk_put (cs:=#[.string (⟨#[]⟩ : ByteArray), .string (⟨#[]⟩ : ByteArray)]) ?_ 0 _ rfl; (with_reducible repeat (first | refine kN ?_ _ | refine kD ?_ | refine kA ?_ _)); exact BK335.out⟩
       have n4_:Aside0 (Below w.heap.size w ((w20.setCell ⟨gb335,0,none⟩ (.string t332)).setCell ⟨gb335,1,none⟩ (.string t333))):=⟨by repeat (first | (with_reducible first | exact HB.out | apply bA | apply bN | apply bD | refine below_set ?_ GE321.out | refine below_set ?_ GE335.out) | exact HB.out)⟩
       (try clear HO325)
       (try clear HO331)
       (try clear BK321)
       (try clear BK335)
       (try clear HB)
       generalize ((w20.setCell ⟨gb335,0,none⟩ (.string t332)).setCell ⟨gb335,1,none⟩ (.string t333))=w33 at n0_ n1_ n2_ n3_ n4_ ⊢
       have HO325:=n0_
       have HO331:=n1_
       have BK321:=n2_
       have BK335:=n3_
       have HB:=n4_
       clear n0_ n1_ n2_ n3_ n4_
       have n0_:=Aside0.mk (Kd.R_drew HO325.out)
       have n1_:=Aside0.mk (Kd.R_drew HO331.out)
       have n2_:=Aside0.mk (blk_drew BK321.out)
       have n3_:=Aside0.mk (blk_drew BK335.out)
       have n4_:=Aside0.mk (below_drew1 HB.out)
       clear HO325
       clear HO331
       clear BK321
       clear BK335
       clear HB
       have HO325:=n0_
       have HO331:=n1_
       have BK321:=n2_
       have BK335:=n3_
       have HB:=n4_
       clear n0_ n1_ n2_ n3_ n4_
       refine start_ (n:=24) (S:=fun w'=>w'.cell? ⟨gb335,0,none⟩=some (.string t332)∧w'.cell? ⟨gb335,1,none⟩=some (.string t333)∧w'.cell? ⟨gb321,0,none⟩=some (.int .u8 t304)∧w'.cell? ⟨gb321,1,none⟩=some (.int .u8 t305)∧w'.cell? ⟨gb321,2,none⟩=some (.int .u8 t306)∧w'.cell? ⟨gb321,3,none⟩=some (.int .u8 t307)∧w'.cell? ⟨gb321,4,none⟩=some (.int .u8 t308)∧w'.cell? ⟨gb321,5,none⟩=some (.string t309)∧w'.cell? ⟨gb321,6,none⟩=some (.string t310)∧w'.cell? ⟨gb321,7,none⟩=some (.string t311)∧w'.cell? ⟨gb321,8,none⟩=some (.string t312)∧w'.cell? ⟨gb321,9,none⟩=some (.string t313)∧w'.cell? ⟨gb321,10,none⟩=some (.string t314)∧w'.cell? ⟨gb321,11,none⟩=some (.string t315)∧w'.cell? ⟨gb321,12,none⟩=some (.string t316)∧w'.cell? ⟨gb321,13,none⟩=some (.string t317)∧w'.cell? ⟨gb321,14,none⟩=some (.string t318)) (ds:=[]) #[false,false,false,false,false,false,false,false,false,false,false,false,false,false,false,false,false,false,false,false,false,false,false,false] (by kernel_rfl) rfl rfl ⟨blk_cell BK335.out 0,blk_cell BK335.out 1,blk_cell BK321.out 0,blk_cell BK321.out 1,blk_cell BK321.out 2,blk_cell BK321.out 3,blk_cell BK321.out 4,blk_cell BK321.out 5,blk_cell BK321.out 6,blk_cell BK321.out 7,blk_cell BK321.out 8,blk_cell BK321.out 9,blk_cell BK321.out 10,blk_cell BK321.out 11,blk_cell BK321.out 12,blk_cell BK321.out 13,blk_cell BK321.out 14⟩ (fun hHeld=>?_); refine with_tabW lamplighterlaw11_AcceptAnswers.tab9 lamplighterlaw11_AcceptAnswers.bits9 (fun HT_ HW_=>?_)
       generalize w33.drew=w34 at HO325 HO331 BK321 BK335 HB hHeld ⊢
       refine pure_ (i:=0) (N:=some 57) (v:=?_) (a':=?_) #[true,false,false,false,false,false,false,false,false,false,false,false,false,false,false,false,false,false,false,false,false,false,false,false] rfl rfl (any_of HT_.out (by kernel_rfl)) (fun _ _ _ h=>h) (Or.inl ⟨by rfl,?_⟩) ?_ ?_
       rotate_left
       ·intro w'
        go_simp
        with_reducible rfl
       rotate_left
       ·simp only [Act.put,sA_,s0_,s1_,i64_w,i32_w]
        rfl
       refine pure_ (i:=1) (N:=some 58) (v:=?_) (a':=?_) #[true,true,false,false,false,false,false,false,false,false,false,false,false,false,false,false,false,false,false,false,false,false,false,false] rfl rfl (any_of HT_.out (by kernel_rfl)) (fun _ _ _ h=>h) (Or.inl ⟨by rfl,?_⟩) ?_ ?_
       rotate_left
       ·intro w'
        go_simp
        with_reducible rfl
       rotate_left
       ·simp only [Act.put,sA_,s0_,s1_,i64_w,i32_w]
        rfl
       refine pure_ (i:=2) (N:=some 59) (v:=?_) (a':=?_) #[true,true,true,false,false,false,false,false,false,false,false,false,false,false,false,false,false,false,false,false,false,false,false,false] rfl rfl (any_of HT_.out (by kernel_rfl)) (fun _ _ _ h=>h) (Or.inl ⟨by rfl,?_⟩) ?_ ?_
       rotate_left
       ·intro w'
        go_simp
        with_reducible rfl
       rotate_left
       ·simp only [Act.put,sA_,s0_,s1_,i64_w,i32_w]
        rfl
       refine pure_ (i:=3) (N:=some 60) (v:=?_) (a':=?_) #[true,true,true,true,false,false,false,false,false,false,false,false,false,false,false,false,false,false,false,false,false,false,false,false] rfl rfl (any_of HT_.out (by kernel_rfl)) (fun _ _ _ h=>h) (Or.inl ⟨by rfl,?_⟩) ?_ ?_
       rotate_left
       ·intro w'
        go_simp
        with_reducible rfl
       rotate_left
       ·simp only [Act.put,sA_,s0_,s1_,i64_w,i32_w]
        rfl
       refine pure_ (i:=4) (N:=some 61) (v:=?_) (a':=?_) #[true,true,true,true,true,false,false,false,false,false,false,false,false,false,false,false,false,false,false,false,false,false,false,false] rfl rfl (any_of HT_.out (by kernel_rfl)) (fun _ _ _ h=>h) (Or.inl ⟨by rfl,?_⟩) ?_ ?_
       rotate_left
       ·intro w'
        go_simp
        with_reducible rfl
       rotate_left
       ·simp only [Act.put,sA_,s0_,s1_,i64_w,i32_w]
        rfl
       refine pure_ (i:=5) (N:=some 62) (v:=?_) (a':=?_) #[true,true,true,true,true,true,false,false,false,false,false,false,false,false,false,false,false,false,false,false,false,false,false,false] rfl rfl (any_of HT_.out (by kernel_rfl)) (fun _ _ _ h=>h) (Or.inl ⟨by rfl,?_⟩) ?_ ?_
       rotate_left
       ·intro w'
        go_simp
        with_reducible rfl
       rotate_left
       ·simp only [Act.put,sA_,s0_,s1_,i64_w,i32_w]
        rfl
       refine pure_ (i:=6) (N:=some 63) (v:=?_) (a':=?_) #[true,true,true,true,true,true,true,false,false,false,false,false,false,false,false,false,false,false,false,false,false,false,false,false] rfl rfl (any_of HT_.out (by kernel_rfl)) (fun _ _ _ h=>h) (Or.inl ⟨by rfl,?_⟩) ?_ ?_
       rotate_left
       ·intro w'
        go_simp
        with_reducible rfl
       rotate_left
       ·simp only [Act.put,sA_,s0_,s1_,i64_w,i32_w]
        rfl
       refine pure_ (i:=7) (N:=some 64) (v:=?_) (a':=?_) #[true,true,true,true,true,true,true,true,false,false,false,false,false,false,false,false,false,false,false,false,false,false,false,false] rfl rfl (any_of HT_.out (by kernel_rfl)) (fun _ _ _ h=>h) (Or.inl ⟨by rfl,?_⟩) ?_ ?_
       rotate_left
       ·intro w'
        go_simp
        with_reducible rfl
       rotate_left
       ·simp only [Act.put,sA_,s0_,s1_,i64_w,i32_w]
        rfl
       refine pure_ (i:=9) (N:=some 66) (v:=?_) (a':=?_) #[true,true,true,true,true,true,true,true,false,true,false,false,false,false,false,false,false,false,false,false,false,false,false,false] rfl rfl (any_of HT_.out (by kernel_rfl)) (fun _ _ _ h=>h) (Or.inl ⟨by rfl,?_⟩) ?_ ?_
       rotate_left
       ·intro w'
        go_simp
        with_reducible rfl
       rotate_left
       ·simp only [Act.put,sA_,s0_,s1_,i64_w,i32_w]
        rfl
       refine take_ (i:=8) (N:=some 65) (v:=?_) (a':=?_) #[true,true,true,true,true,true,true,true,true,true,false,false,false,false,false,false,false,false,false,false,false,false,false,false] rfl rfl (take_ofW HT_.out HW_.out (by kernel_rfl)) (fun _ _ _ h=>h) (Or.inl ⟨by rfl,?_⟩) hHeld ?_ ?_
       rotate_left
       ·rintro w' ⟨s0,s1,s2,s3,s4,s5,s6,s7,s8,s9,s10,s11,s12,s13,s14,s15,s16⟩
        go_simp
        with_reducible rfl
       rotate_left
       ·simp only [Act.put,sA_,s0_,s1_,i64_w,i32_w]
        rfl
       refine take_ (i:=10) (N:=some 67) (v:=?_) (a':=?_) #[true,true,true,true,true,true,true,true,true,true,true,false,false,false,false,false,false,false,false,false,false,false,false,false] rfl rfl (take_ofW HT_.out HW_.out (by kernel_rfl)) (fun _ _ _ h=>h) (Or.inl ⟨by rfl,?_⟩) hHeld ?_ ?_
       rotate_left
       ·rintro w' ⟨s0,s1,s2,s3,s4,s5,s6,s7,s8,s9,s10,s11,s12,s13,s14,s15,s16⟩
        go_simp
        with_reducible rfl
       rotate_left
       ·simp only [Act.put,sA_,s0_,s1_,i64_w,i32_w]
        rfl
       refine pure_ (i:=11) (N:=some 68) (v:=?_) (a':=?_) #[true,true,true,true,true,true,true,true,true,true,true,true,false,false,false,false,false,false,false,false,false,false,false,false] rfl rfl (any_of HT_.out (by kernel_rfl)) (fun _ _ _ h=>h) (Or.inl ⟨by rfl,?_⟩) ?_ ?_
       rotate_left
       ·intro w'
        go_simp
        with_reducible rfl
       rotate_left
       ·simp only [Act.put,sA_,s0_,s1_,i64_w,i32_w]
        rfl
       refine pure_ (i:=12) (N:=some 69) (v:=?_) (a':=?_) #[true,true,true,true,true,true,true,true,true,true,true,true,true,false,false,false,false,false,false,false,false,false,false,false] rfl rfl (any_of HT_.out (by kernel_rfl)) (fun _ _ _ h=>h) (Or.inl ⟨by rfl,?_⟩) ?_ ?_
       rotate_left
       ·intro w'
        go_simp
        with_reducible rfl
       rotate_left
       ·simp only [Act.put,sA_,s0_,s1_,i64_w,i32_w]
        rfl
       refine pure_ (i:=13) (N:=some 70) (v:=?_) (a':=?_) #[true,true,true,true,true,true,true,true,true,true,true,true,true,true,false,false,false,false,false,false,false,false,false,false] rfl rfl (any_of HT_.out (by kernel_rfl)) (fun _ _ _ h=>h) (Or.inl ⟨by rfl,?_⟩) ?_ ?_
       rotate_left
       ·intro w'
        go_simp
        with_reducible rfl
       rotate_left
       ·simp only [Act.put,sA_,s0_,s1_,i64_w,i32_w]
        rfl
       refine pure_ (i:=14) (N:=some 71) (v:=undef) (a':=?_) #[true,true,true,true,true,true,true,true,true,true,true,true,true,true,true,false,false,false,false,false,false,false,false,false] rfl rfl (any_of HT_.out (by kernel_rfl)) (fun _ _ _ h=>h) (Or.inr ⟨by rfl,rfl⟩) ?_ ?_
       rotate_left
       ·simp only [Act.put,sA_,s0_,s1_,i64_w,i32_w]
        rfl
       refine pure_ (i:=15) (N:=some 72) (v:=undef) (a':=?_) #[true,true,true,true,true,true,true,true,true,true,true,true,true,true,true,true,false,false,false,false,false,false,false,false] rfl rfl (any_of HT_.out (by kernel_rfl)) (fun _ _ _ h=>h) (Or.inr ⟨by rfl,rfl⟩) ?_ ?_
       rotate_left
       ·simp only [Act.put,sA_,s0_,s1_,i64_w,i32_w]
        rfl
       refine pure_ (i:=16) (N:=some 73) (v:=undef) (a':=?_) #[true,true,true,true,true,true,true,true,true,true,true,true,true,true,true,true,true,false,false,false,false,false,false,false] rfl rfl (any_of HT_.out (by kernel_rfl)) (fun _ _ _ h=>h) (Or.inr ⟨by rfl,rfl⟩) ?_ ?_
       rotate_left
       ·simp only [Act.put,sA_,s0_,s1_,i64_w,i32_w]
        rfl
       refine pure_ (i:=17) (N:=some 74) (v:=undef) (a':=?_) #[true,true,true,true,true,true,true,true,true,true,true,true,true,true,true,true,true,true,false,false,false,false,false,false] rfl rfl (any_of HT_.out (by kernel_rfl)) (fun _ _ _ h=>h) (Or.inr ⟨by rfl,rfl⟩) ?_ ?_
       rotate_left
       ·simp only [Act.put,sA_,s0_,s1_,i64_w,i32_w]
        rfl
       refine pure_ (i:=18) (N:=some 75) (v:=undef) (a':=?_) #[true,true,true,true,true,true,true,true,true,true,true,true,true,true,true,true,true,true,true,false,false,false,false,false] rfl rfl (any_of HT_.out (by kernel_rfl)) (fun _ _ _ h=>h) (Or.inr ⟨by rfl,rfl⟩) ?_ ?_
       rotate_left
       ·simp only [Act.put,sA_,s0_,s1_,i64_w,i32_w]
        rfl
       refine pure_ (i:=19) (N:=some 76) (v:=undef) (a':=?_) #[true,true,true,true,true,true,true,true,true,true,true,true,true,true,true,true,true,true,true,true,false,false,false,false] rfl rfl (any_of HT_.out (by kernel_rfl)) (fun _ _ _ h=>h) (Or.inr ⟨by rfl,rfl⟩) ?_ ?_
       rotate_left
       ·simp only [Act.put,sA_,s0_,s1_,i64_w,i32_w]
        rfl
       refine pure_ (i:=20) (N:=some 77) (v:=undef) (a':=?_) #[true,true,true,true,true,true,true,true,true,true,true,true,true,true,true,true,true,true,true,true,true,false,false,false] rfl rfl (any_of HT_.out (by kernel_rfl)) (fun _ _ _ h=>h) (Or.inr ⟨by rfl,rfl⟩) ?_ ?_
       rotate_left
       ·simp only [Act.put,sA_,s0_,s1_,i64_w,i32_w]
        rfl
       refine pure_ (i:=21) (N:=some 78) (v:=undef) (a':=?_) #[true,true,true,true,true,true,true,true,true,true,true,true,true,true,true,true,true,true,true,true,true,true,false,false] rfl rfl (any_of HT_.out (by kernel_rfl)) (fun _ _ _ h=>h) (Or.inr ⟨by rfl,rfl⟩) ?_ ?_
       rotate_left
       ·simp only [Act.put,sA_,s0_,s1_,i64_w,i32_w]
        rfl
       refine pure_ (i:=22) (N:=some 79) (v:=undef) (a':=?_) #[true,true,true,true,true,true,true,true,true,true,true,true,true,true,true,true,true,true,true,true,true,true,true,false] rfl rfl (any_of HT_.out (by kernel_rfl)) (fun _ _ _ h=>h) (Or.inr ⟨by rfl,rfl⟩) ?_ ?_
       rotate_left
       ·simp only [Act.put,sA_,s0_,s1_,i64_w,i32_w]
        rfl
       refine pure_ (i:=23) (N:=some 80) (v:=?_) (a':=?_) #[true,true,true,true,true,true,true,true,true,true,true,true,true,true,true,true,true,true,true,true,true,true,true,true] rfl rfl (any_of HT_.out (by kernel_rfl)) (fun _ _ _ h=>h) (Or.inl ⟨by rfl,?_⟩) ?_ ?_
       rotate_left
       ·intro w'
        go_simp
        with_reducible rfl
       rotate_left
       ·simp only [Act.put,sA_,s0_,s1_,i64_w,i32_w]
        rfl
       refine done_ (done_of HT_.out (by kernel_rfl)) ?_
       try go_wp2
       go_meet
       case rel=>exact ⟨_,(true),(by first | rfl | (simp; done) | (simp [*]; done)),H',⟨by first | omega | exact Nat.le_refl _⟩,⟨by (with_reducible repeat (first | refine kN ?_ _ | refine kD ?_ | refine kA ?_ _)); exact BK321.out⟩,⟨by (with_reducible repeat (first | refine kN ?_ _ | refine kD ?_ | refine kA ?_ _)); exact BK335.out⟩,⟨by repeat (first | (with_reducible first | exact HB.out | apply bA | apply bN | apply bD | refine below_set ?_ GE321.out | refine below_set ?_ GE335.out) | exact HB.out)⟩⟩
     ·rw [if_neg c24] at H
      have c24b0 : (t334 == 0)=false:=beq_eq_false_iff_ne.mpr c24
      have c24b1 : (t334 != 0)=true:=bne_iff_ne.mpr c24
      have H':=Aside0.mk H
      clear H
      try go_wp2
      have n0_:Aside0 (Kd.R (Kd.int .u8) 5 ((w20.setCell ⟨gb335,0,none⟩ (.string t332)).setCell ⟨gb335,1,none⟩ (.string t333)) w.heap.size (fun k_=>some k_ ≠ (.slice Ao18 t328.length co18 : Value).ownBlock) (.slice Ao16 t322.length co16) t322):=⟨by (with_reducible repeat (first | apply Kd.R_alloc | apply Kd.R_drewN | apply Kd.R_drew)); exact Kd.R_mono (Kd.R_far (p:=⟨gb335,1,none⟩) (Kd.R_far (p:=⟨gb335,0,none⟩) (Kd.R_types HO325.out BK335.out (by decide)) (fun _ hk=>hk.2) (.string t332)) (fun _ hk=>hk.2) (.string t333)) (fun _ hk=>hk.1.2)⟩
      have n1_:Aside0 (Kd.R (Kd.int .u8) 5 ((w20.setCell ⟨gb335,0,none⟩ (.string t332)).setCell ⟨gb335,1,none⟩ (.string t333)) w.heap.size (fun k_=>some k_ ≠ (.slice Ao16 t322.length co16 : Value).ownBlock) (.slice Ao18 t328.length co18) t328):=⟨by (with_reducible repeat (first | apply Kd.R_alloc | apply Kd.R_drewN | apply Kd.R_drew)); exact Kd.R_mono (Kd.R_far (p:=⟨gb335,1,none⟩) (Kd.R_far (p:=⟨gb335,0,none⟩) (Kd.R_types HO331.out BK335.out (by decide)) (fun _ hk=>hk.2) (.string t332)) (fun _ hk=>hk.2) (.string t333)) (fun _ hk=>hk.1.2)⟩
      have n2_:Aside0 (((w20.setCell ⟨gb335,0,none⟩ (.string t332)).setCell ⟨gb335,1,none⟩ (.string t333)).heap[gb321]?=some (.cells #[.int .u8 t304, .int .u8 t305, .int .u8 t306, .int .u8 t307, .int .u8 t308, .string t309, .string t310, .string t311, .string t312, .string t313, .string t314, .string t315, .string t316, .string t317, .string t318] 27 (0,0))):=⟨by (with_reducible repeat (first | refine kN ?_ _ | refine kD ?_ | refine kA ?_ _)); refine blk_far ?_ NB321_335.out _; (with_reducible repeat (first | refine kN ?_ _ | refine kD ?_ | refine kA ?_ _)); refine blk_far ?_ NB321_335.out _; (with_reducible repeat (first | refine kN ?_ _ | refine kD ?_ | refine kA ?_ _)); exact BK321.out⟩
      have n3_:Aside0 (((w20.setCell ⟨gb335,0,none⟩ (.string t332)).setCell ⟨gb335,1,none⟩ (.string t333)).heap[gb335]?=some (.cells #[.string t332, .string t333] 37 (0,0))):=⟨by (with_reducible repeat (first | refine kN ?_ _ | refine kD ?_ | refine kA ?_ _)); refine blk_put (cs:=#[.string t332, .string (⟨#[]⟩ : ByteArray)]) ?_ 1 _ rfl; (with_reducible repeat (first | refine kN ?_ _ | refine kD ?_ | refine kA ?_ _)); refine blk_put (cs:=#[.string (⟨#[]⟩ : ByteArray), .string (⟨#[]⟩ : ByteArray)]) ?_ 0 _ rfl; (with_reducible repeat (first | refine kN ?_ _ | refine kD ?_ | refine kA ?_ _)); exact BK335.out⟩
      have n4_:Aside0 (Below w.heap.size w ((w20.setCell ⟨gb335,0,none⟩ (.string t332)).setCell ⟨gb335,1,none⟩ (.string t333))):=⟨by repeat (first | (with_reducible first | exact HB.out | apply bA | apply bN | apply bD | refine below_set ?_ GE321.out | refine below_set ?_ GE335.out) | exact HB.out)⟩
      (try clear HO325)
      (try clear HO331)
      (try clear BK321)
      (try clear BK335)
      (try clear HB)
      generalize ((w20.setCell ⟨gb335,0,none⟩ (.string t332)).setCell ⟨gb335,1,none⟩ (.string t333))=w35 at n0_ n1_ n2_ n3_ n4_ ⊢
      have HO325:=n0_
      have HO331:=n1_
      have BK321:=n2_
      have BK335:=n3_
      have HB:=n4_
      clear n0_ n1_ n2_ n3_ n4_
      have n0_:=Aside0.mk (Kd.R_drew HO325.out)
      have n1_:=Aside0.mk (Kd.R_drew HO331.out)
      have n2_:=Aside0.mk (blk_drew BK321.out)
      have n3_:=Aside0.mk (blk_drew BK335.out)
      have n4_:=Aside0.mk (below_drew1 HB.out)
      clear HO325
      clear HO331
      clear BK321
      clear BK335
      clear HB
      have HO325:=n0_
      have HO331:=n1_
      have BK321:=n2_
      have BK335:=n3_
      have HB:=n4_
      clear n0_ n1_ n2_ n3_ n4_
      refine start_ (n:=24) (S:=fun w'=>True) (ds:=[]) #[false,false,false,false,false,false,false,false,false,false,false,false,false,false,false,false,false,false,false,false,false,false,false,false] (by kernel_rfl) rfl rfl trivial (fun hHeld=>?_); refine with_tabW lamplighterlaw11_AcceptAnswers.tab9 lamplighterlaw11_AcceptAnswers.bits9 (fun HT_ HW_=>?_)
      generalize w35.drew=w36 at HO325 HO331 BK321 BK335 HB hHeld ⊢
      refine pure_ (i:=0) (N:=some 57) (v:=?_) (a':=?_) #[true,false,false,false,false,false,false,false,false,false,false,false,false,false,false,false,false,false,false,false,false,false,false,false] rfl rfl (any_of HT_.out (by kernel_rfl)) (fun _ _ _ h=>h) (Or.inl ⟨by rfl,?_⟩) ?_ ?_
      rotate_left
      ·intro w'
       go_simp
       with_reducible rfl
      rotate_left
      ·simp only [Act.put,sA_,s0_,s1_,i64_w,i32_w]
       rfl
      refine pure_ (i:=1) (N:=some 58) (v:=?_) (a':=?_) #[true,true,false,false,false,false,false,false,false,false,false,false,false,false,false,false,false,false,false,false,false,false,false,false] rfl rfl (any_of HT_.out (by kernel_rfl)) (fun _ _ _ h=>h) (Or.inl ⟨by rfl,?_⟩) ?_ ?_
      rotate_left
      ·intro w'
       go_simp
       with_reducible rfl
      rotate_left
      ·simp only [Act.put,sA_,s0_,s1_,i64_w,i32_w]
       rfl
      refine pure_ (i:=2) (N:=some 59) (v:=?_) (a':=?_) #[true,true,true,false,false,false,false,false,false,false,false,false,false,false,false,false,false,false,false,false,false,false,false,false] rfl rfl (any_of HT_.out (by kernel_rfl)) (fun _ _ _ h=>h) (Or.inl ⟨by rfl,?_⟩) ?_ ?_
      rotate_left
      ·intro w'
       go_simp
       with_reducible rfl
      rotate_left
      ·simp only [Act.put,sA_,s0_,s1_,i64_w,i32_w]
       rfl
      refine pure_ (i:=3) (N:=some 60) (v:=?_) (a':=?_) #[true,true,true,true,false,false,false,false,false,false,false,false,false,false,false,false,false,false,false,false,false,false,false,false] rfl rfl (any_of HT_.out (by kernel_rfl)) (fun _ _ _ h=>h) (Or.inl ⟨by rfl,?_⟩) ?_ ?_
      rotate_left
      ·intro w'
       go_simp
       with_reducible rfl
      rotate_left
      ·simp only [Act.put,sA_,s0_,s1_,i64_w,i32_w]
       rfl
      refine pure_ (i:=4) (N:=some 61) (v:=?_) (a':=?_) #[true,true,true,true,true,false,false,false,false,false,false,false,false,false,false,false,false,false,false,false,false,false,false,false] rfl rfl (any_of HT_.out (by kernel_rfl)) (fun _ _ _ h=>h) (Or.inl ⟨by rfl,?_⟩) ?_ ?_
      rotate_left
      ·intro w'
       go_simp
       with_reducible rfl
      rotate_left
      ·simp only [Act.put,sA_,s0_,s1_,i64_w,i32_w]
       rfl
      refine pure_ (i:=5) (N:=some 62) (v:=?_) (a':=?_) #[true,true,true,true,true,true,false,false,false,false,false,false,false,false,false,false,false,false,false,false,false,false,false,false] rfl rfl (any_of HT_.out (by kernel_rfl)) (fun _ _ _ h=>h) (Or.inl ⟨by rfl,?_⟩) ?_ ?_
      rotate_left
      ·intro w'
       go_simp
       with_reducible rfl
      rotate_left
      ·simp only [Act.put,sA_,s0_,s1_,i64_w,i32_w]
       rfl
      refine pure_ (i:=6) (N:=some 63) (v:=?_) (a':=?_) #[true,true,true,true,true,true,true,false,false,false,false,false,false,false,false,false,false,false,false,false,false,false,false,false] rfl rfl (any_of HT_.out (by kernel_rfl)) (fun _ _ _ h=>h) (Or.inl ⟨by rfl,?_⟩) ?_ ?_
      rotate_left
      ·intro w'
       go_simp
       with_reducible rfl
      rotate_left
      ·simp only [Act.put,sA_,s0_,s1_,i64_w,i32_w]
       rfl
      refine pure_ (i:=7) (N:=some 64) (v:=undef) (a':=?_) #[true,true,true,true,true,true,true,true,false,false,false,false,false,false,false,false,false,false,false,false,false,false,false,false] rfl rfl (any_of HT_.out (by kernel_rfl)) (fun _ _ _ h=>h) (Or.inr ⟨by rfl,rfl⟩) ?_ ?_
      rotate_left
      ·simp only [Act.put,sA_,s0_,s1_,i64_w,i32_w]
       rfl
      refine pure_ (i:=8) (N:=some 65) (v:=undef) (a':=?_) #[true,true,true,true,true,true,true,true,true,false,false,false,false,false,false,false,false,false,false,false,false,false,false,false] rfl rfl (any_of HT_.out (by kernel_rfl)) (fun _ _ _ h=>h) (Or.inr ⟨by rfl,rfl⟩) ?_ ?_
      rotate_left
      ·simp only [Act.put,sA_,s0_,s1_,i64_w,i32_w]
       rfl
      refine pure_ (i:=9) (N:=some 66) (v:=undef) (a':=?_) #[true,true,true,true,true,true,true,true,true,true,false,false,false,false,false,false,false,false,false,false,false,false,false,false] rfl rfl (any_of HT_.out (by kernel_rfl)) (fun _ _ _ h=>h) (Or.inr ⟨by rfl,rfl⟩) ?_ ?_
      rotate_left
      ·simp only [Act.put,sA_,s0_,s1_,i64_w,i32_w]
       rfl
      refine pure_ (i:=10) (N:=some 67) (v:=undef) (a':=?_) #[true,true,true,true,true,true,true,true,true,true,true,false,false,false,false,false,false,false,false,false,false,false,false,false] rfl rfl (any_of HT_.out (by kernel_rfl)) (fun _ _ _ h=>h) (Or.inr ⟨by rfl,rfl⟩) ?_ ?_
      rotate_left
      ·simp only [Act.put,sA_,s0_,s1_,i64_w,i32_w]
       rfl
      refine pure_ (i:=11) (N:=some 68) (v:=undef) (a':=?_) #[true,true,true,true,true,true,true,true,true,true,true,true,false,false,false,false,false,false,false,false,false,false,false,false] rfl rfl (any_of HT_.out (by kernel_rfl)) (fun _ _ _ h=>h) (Or.inr ⟨by rfl,rfl⟩) ?_ ?_
      rotate_left
      ·simp only [Act.put,sA_,s0_,s1_,i64_w,i32_w]
       rfl
      refine pure_ (i:=12) (N:=some 69) (v:=?_) (a':=?_) #[true,true,true,true,true,true,true,true,true,true,true,true,true,false,false,false,false,false,false,false,false,false,false,false] rfl rfl (any_of HT_.out (by kernel_rfl)) (fun _ _ _ h=>h) (Or.inl ⟨by rfl,?_⟩) ?_ ?_
      rotate_left
      ·intro w'
       go_simp
       with_reducible rfl
      rotate_left
      ·simp only [Act.put,sA_,s0_,s1_,i64_w,i32_w]
       rfl
      refine pure_ (i:=13) (N:=some 70) (v:=?_) (a':=?_) #[true,true,true,true,true,true,true,true,true,true,true,true,true,true,false,false,false,false,false,false,false,false,false,false] rfl rfl (any_of HT_.out (by kernel_rfl)) (fun _ _ _ h=>h) (Or.inl ⟨by rfl,?_⟩) ?_ ?_
      rotate_left
      ·intro w'
       go_simp
       with_reducible rfl
      rotate_left
      ·simp only [Act.put,sA_,s0_,s1_,i64_w,i32_w]
       rfl
      refine pure_ (i:=14) (N:=some 71) (v:=undef) (a':=?_) #[true,true,true,true,true,true,true,true,true,true,true,true,true,true,true,false,false,false,false,false,false,false,false,false] rfl rfl (any_of HT_.out (by kernel_rfl)) (fun _ _ _ h=>h) (Or.inr ⟨by rfl,rfl⟩) ?_ ?_
      rotate_left
      ·simp only [Act.put,sA_,s0_,s1_,i64_w,i32_w]
       rfl
      refine pure_ (i:=15) (N:=some 72) (v:=undef) (a':=?_) #[true,true,true,true,true,true,true,true,true,true,true,true,true,true,true,true,false,false,false,false,false,false,false,false] rfl rfl (any_of HT_.out (by kernel_rfl)) (fun _ _ _ h=>h) (Or.inr ⟨by rfl,rfl⟩) ?_ ?_
      rotate_left
      ·simp only [Act.put,sA_,s0_,s1_,i64_w,i32_w]
       rfl
      refine pure_ (i:=16) (N:=some 73) (v:=undef) (a':=?_) #[true,true,true,true,true,true,true,true,true,true,true,true,true,true,true,true,true,false,false,false,false,false,false,false] rfl rfl (any_of HT_.out (by kernel_rfl)) (fun _ _ _ h=>h) (Or.inr ⟨by rfl,rfl⟩) ?_ ?_
      rotate_left
      ·simp only [Act.put,sA_,s0_,s1_,i64_w,i32_w]
       rfl
      refine pure_ (i:=17) (N:=some 74) (v:=undef) (a':=?_) #[true,true,true,true,true,true,true,true,true,true,true,true,true,true,true,true,true,true,false,false,false,false,false,false] rfl rfl (any_of HT_.out (by kernel_rfl)) (fun _ _ _ h=>h) (Or.inr ⟨by rfl,rfl⟩) ?_ ?_
      rotate_left
      ·simp only [Act.put,sA_,s0_,s1_,i64_w,i32_w]
       rfl
      refine pure_ (i:=18) (N:=some 75) (v:=undef) (a':=?_) #[true,true,true,true,true,true,true,true,true,true,true,true,true,true,true,true,true,true,true,false,false,false,false,false] rfl rfl (any_of HT_.out (by kernel_rfl)) (fun _ _ _ h=>h) (Or.inr ⟨by rfl,rfl⟩) ?_ ?_
      rotate_left
      ·simp only [Act.put,sA_,s0_,s1_,i64_w,i32_w]
       rfl
      refine pure_ (i:=19) (N:=some 76) (v:=undef) (a':=?_) #[true,true,true,true,true,true,true,true,true,true,true,true,true,true,true,true,true,true,true,true,false,false,false,false] rfl rfl (any_of HT_.out (by kernel_rfl)) (fun _ _ _ h=>h) (Or.inr ⟨by rfl,rfl⟩) ?_ ?_
      rotate_left
      ·simp only [Act.put,sA_,s0_,s1_,i64_w,i32_w]
       rfl
      refine pure_ (i:=20) (N:=some 77) (v:=undef) (a':=?_) #[true,true,true,true,true,true,true,true,true,true,true,true,true,true,true,true,true,true,true,true,true,false,false,false] rfl rfl (any_of HT_.out (by kernel_rfl)) (fun _ _ _ h=>h) (Or.inr ⟨by rfl,rfl⟩) ?_ ?_
      rotate_left
      ·simp only [Act.put,sA_,s0_,s1_,i64_w,i32_w]
       rfl
      refine pure_ (i:=21) (N:=some 78) (v:=undef) (a':=?_) #[true,true,true,true,true,true,true,true,true,true,true,true,true,true,true,true,true,true,true,true,true,true,false,false] rfl rfl (any_of HT_.out (by kernel_rfl)) (fun _ _ _ h=>h) (Or.inr ⟨by rfl,rfl⟩) ?_ ?_
      rotate_left
      ·simp only [Act.put,sA_,s0_,s1_,i64_w,i32_w]
       rfl
      refine pure_ (i:=22) (N:=some 79) (v:=undef) (a':=?_) #[true,true,true,true,true,true,true,true,true,true,true,true,true,true,true,true,true,true,true,true,true,true,true,false] rfl rfl (any_of HT_.out (by kernel_rfl)) (fun _ _ _ h=>h) (Or.inr ⟨by rfl,rfl⟩) ?_ ?_
      rotate_left
      ·simp only [Act.put,sA_,s0_,s1_,i64_w,i32_w]
       rfl
      refine pure_ (i:=23) (N:=some 80) (v:=?_) (a':=?_) #[true,true,true,true,true,true,true,true,true,true,true,true,true,true,true,true,true,true,true,true,true,true,true,true] rfl rfl (any_of HT_.out (by kernel_rfl)) (fun _ _ _ h=>h) (Or.inl ⟨by rfl,?_⟩) ?_ ?_
      rotate_left
      ·intro w'
       go_simp
       with_reducible rfl
      rotate_left
      ·simp only [Act.put,sA_,s0_,s1_,i64_w,i32_w]
       rfl
      refine done_ (done_of HT_.out (by kernel_rfl)) ?_
      try go_wp2
      go_meet
      case rel=>exact ⟨_,(true),(by first | rfl | (simp; done) | (simp [*]; done)),H',⟨by first | omega | exact Nat.le_refl _⟩,⟨by (with_reducible repeat (first | refine kN ?_ _ | refine kD ?_ | refine kA ?_ _)); exact BK321.out⟩,⟨by (with_reducible repeat (first | refine kN ?_ _ | refine kD ?_ | refine kA ?_ _)); exact BK335.out⟩,⟨by repeat (first | (with_reducible first | exact HB.out | apply bA | apply bN | apply bD | refine below_set ?_ GE321.out | refine below_set ?_ GE335.out) | exact HB.out)⟩⟩
    ·rw [if_neg c23] at H
     have c23b0 : (t329 == 0)=false:=beq_eq_false_iff_ne.mpr c23
     have c23b1 : (t329 != 0)=true:=bne_iff_ne.mpr c23
     (first | rw [c23b0] | (simp only [i64_w,i32_w]; rw [c23b0]) | skip)
     have H':=Aside0.mk H
     clear H
     try go_wp2
     have n0_:Aside0 (Kd.R (Kd.int .u8) 5 ((w20.setCell ⟨gb335,0,none⟩ (.string t332)).setCell ⟨gb335,1,none⟩ (.string t333)) w.heap.size (fun k_=>some k_ ≠ (.slice Ao18 t328.length co18 : Value).ownBlock) (.slice Ao16 t322.length co16) t322):=⟨by (with_reducible repeat (first | apply Kd.R_alloc | apply Kd.R_drewN | apply Kd.R_drew)); exact Kd.R_mono (Kd.R_far (p:=⟨gb335,1,none⟩) (Kd.R_far (p:=⟨gb335,0,none⟩) (Kd.R_types HO325.out BK335.out (by decide)) (fun _ hk=>hk.2) (.string t332)) (fun _ hk=>hk.2) (.string t333)) (fun _ hk=>hk.1.2)⟩
     have n1_:Aside0 (Kd.R (Kd.int .u8) 5 ((w20.setCell ⟨gb335,0,none⟩ (.string t332)).setCell ⟨gb335,1,none⟩ (.string t333)) w.heap.size (fun k_=>some k_ ≠ (.slice Ao16 t322.length co16 : Value).ownBlock) (.slice Ao18 t328.length co18) t328):=⟨by (with_reducible repeat (first | apply Kd.R_alloc | apply Kd.R_drewN | apply Kd.R_drew)); exact Kd.R_mono (Kd.R_far (p:=⟨gb335,1,none⟩) (Kd.R_far (p:=⟨gb335,0,none⟩) (Kd.R_types HO331.out BK335.out (by decide)) (fun _ hk=>hk.2) (.string t332)) (fun _ hk=>hk.2) (.string t333)) (fun _ hk=>hk.1.2)⟩
     have n2_:Aside0 (((w20.setCell ⟨gb335,0,none⟩ (.string t332)).setCell ⟨gb335,1,none⟩ (.string t333)).heap[gb321]?=some (.cells #[.int .u8 t304, .int .u8 t305, .int .u8 t306, .int .u8 t307, .int .u8 t308, .string t309, .string t310, .string t311, .string t312, .string t313, .string t314, .string t315, .string t316, .string t317, .string t318] 27 (0,0))):=⟨by (with_reducible repeat (first | refine kN ?_ _ | refine kD ?_ | refine kA ?_ _)); refine blk_far ?_ NB321_335.out _; (with_reducible repeat (first | refine kN ?_ _ | refine kD ?_ | refine kA ?_ _)); refine blk_far ?_ NB321_335.out _; (with_reducible repeat (first | refine kN ?_ _ | refine kD ?_ | refine kA ?_ _)); exact BK321.out⟩
     have n3_:Aside0 (((w20.setCell ⟨gb335,0,none⟩ (.string t332)).setCell ⟨gb335,1,none⟩ (.string t333)).heap[gb335]?=some (.cells #[.string t332, .string t333] 37 (0,0))):=⟨by (with_reducible repeat (first | refine kN ?_ _ | refine kD ?_ | refine kA ?_ _)); refine blk_put (cs:=#[.string t332, .string (⟨#[]⟩ : ByteArray)]) ?_ 1 _ rfl; (with_reducible repeat (first | refine kN ?_ _ | refine kD ?_ | refine kA ?_ _)); refine blk_put (cs:=#[.string (⟨#[]⟩ : ByteArray), .string (⟨#[]⟩ : ByteArray)]) ?_ 0 _ rfl; (with_reducible repeat (first | refine kN ?_ _ | refine kD ?_ | refine kA ?_ _)); exact BK335.out⟩
     have n4_:Aside0 (Below w.heap.size w ((w20.setCell ⟨gb335,0,none⟩ (.string t332)).setCell ⟨gb335,1,none⟩ (.string t333))):=⟨by repeat (first | (with_reducible first | exact HB.out | apply bA | apply bN | apply bD | refine below_set ?_ GE321.out | refine below_set ?_ GE335.out) | exact HB.out)⟩
     (try clear HO325)
     (try clear HO331)
     (try clear BK321)
     (try clear BK335)
     (try clear HB)
     generalize ((w20.setCell ⟨gb335,0,none⟩ (.string t332)).setCell ⟨gb335,1,none⟩ (.string t333))=w37 at n0_ n1_ n2_ n3_ n4_ ⊢
     have HO325:=n0_
     have HO331:=n1_
     have BK321:=n2_
     have BK335:=n3_
     have HB:=n4_
     clear n0_ n1_ n2_ n3_ n4_
     have n0_:=Aside0.mk (Kd.R_drew HO325.out)
     have n1_:=Aside0.mk (Kd.R_drew HO331.out)
     have n2_:=Aside0.mk (blk_drew BK321.out)
     have n3_:=Aside0.mk (blk_drew BK335.out)
     have n4_:=Aside0.mk (below_drew1 HB.out)
     clear HO325
     clear HO331
     clear BK321
     clear BK335
     clear HB
     have HO325:=n0_
     have HO331:=n1_
     have BK321:=n2_
     have BK335:=n3_
     have HB:=n4_
     clear n0_ n1_ n2_ n3_ n4_
     refine start_ (n:=24) (S:=fun w'=>True) (ds:=[]) #[false,false,false,false,false,false,false,false,false,false,false,false,false,false,false,false,false,false,false,false,false,false,false,false] (by kernel_rfl) rfl rfl trivial (fun hHeld=>?_); refine with_tabW lamplighterlaw11_AcceptAnswers.tab9 lamplighterlaw11_AcceptAnswers.bits9 (fun HT_ HW_=>?_)
     generalize w37.drew=w38 at HO325 HO331 BK321 BK335 HB hHeld ⊢
     refine pure_ (i:=0) (N:=some 57) (v:=?_) (a':=?_) #[true,false,false,false,false,false,false,false,false,false,false,false,false,false,false,false,false,false,false,false,false,false,false,false] rfl rfl (any_of HT_.out (by kernel_rfl)) (fun _ _ _ h=>h) (Or.inl ⟨by rfl,?_⟩) ?_ ?_
     rotate_left
     ·intro w'
      go_simp
      with_reducible rfl
     rotate_left
     ·simp only [Act.put,sA_,s0_,s1_,i64_w,i32_w]
      rfl
     refine pure_ (i:=1) (N:=some 58) (v:=?_) (a':=?_) #[true,true,false,false,false,false,false,false,false,false,false,false,false,false,false,false,false,false,false,false,false,false,false,false] rfl rfl (any_of HT_.out (by kernel_rfl)) (fun _ _ _ h=>h) (Or.inl ⟨by rfl,?_⟩) ?_ ?_
     rotate_left
     ·intro w'
      go_simp
      with_reducible rfl
     rotate_left
     ·simp only [Act.put,sA_,s0_,s1_,i64_w,i32_w]
      rfl
     refine pure_ (i:=2) (N:=some 59) (v:=?_) (a':=?_) #[true,true,true,false,false,false,false,false,false,false,false,false,false,false,false,false,false,false,false,false,false,false,false,false] rfl rfl (any_of HT_.out (by kernel_rfl)) (fun _ _ _ h=>h) (Or.inl ⟨by rfl,?_⟩) ?_ ?_
     rotate_left
     ·intro w'
      go_simp
      with_reducible rfl
     rotate_left
     ·simp only [Act.put,sA_,s0_,s1_,i64_w,i32_w]
      rfl
     refine pure_ (i:=3) (N:=some 60) (v:=undef) (a':=?_) #[true,true,true,true,false,false,false,false,false,false,false,false,false,false,false,false,false,false,false,false,false,false,false,false] rfl rfl (any_of HT_.out (by kernel_rfl)) (fun _ _ _ h=>h) (Or.inr ⟨by rfl,rfl⟩) ?_ ?_
     rotate_left
     ·simp only [Act.put,sA_,s0_,s1_,i64_w,i32_w]
      rfl
     refine pure_ (i:=4) (N:=some 61) (v:=undef) (a':=?_) #[true,true,true,true,true,false,false,false,false,false,false,false,false,false,false,false,false,false,false,false,false,false,false,false] rfl rfl (any_of HT_.out (by kernel_rfl)) (fun _ _ _ h=>h) (Or.inr ⟨by rfl,rfl⟩) ?_ ?_
     rotate_left
     ·simp only [Act.put,sA_,s0_,s1_,i64_w,i32_w]
      rfl
     refine pure_ (i:=5) (N:=some 62) (v:=?_) (a':=?_) #[true,true,true,true,true,true,false,false,false,false,false,false,false,false,false,false,false,false,false,false,false,false,false,false] rfl rfl (any_of HT_.out (by kernel_rfl)) (fun _ _ _ h=>h) (Or.inl ⟨by rfl,?_⟩) ?_ ?_
     rotate_left
     ·intro w'
      go_simp
      with_reducible rfl
     rotate_left
     ·simp only [Act.put,sA_,s0_,s1_,i64_w,i32_w]
      rfl
     refine pure_ (i:=6) (N:=some 63) (v:=?_) (a':=?_) #[true,true,true,true,true,true,true,false,false,false,false,false,false,false,false,false,false,false,false,false,false,false,false,false] rfl rfl (any_of HT_.out (by kernel_rfl)) (fun _ _ _ h=>h) (Or.inl ⟨by rfl,?_⟩) ?_ ?_
     rotate_left
     ·intro w'
      go_simp
      with_reducible rfl
     rotate_left
     ·simp only [Act.put,sA_,s0_,s1_,i64_w,i32_w]
      rfl
     refine pure_ (i:=7) (N:=some 64) (v:=undef) (a':=?_) #[true,true,true,true,true,true,true,true,false,false,false,false,false,false,false,false,false,false,false,false,false,false,false,false] rfl rfl (any_of HT_.out (by kernel_rfl)) (fun _ _ _ h=>h) (Or.inr ⟨by rfl,rfl⟩) ?_ ?_
     rotate_left
     ·simp only [Act.put,sA_,s0_,s1_,i64_w,i32_w]
      rfl
     refine pure_ (i:=8) (N:=some 65) (v:=undef) (a':=?_) #[true,true,true,true,true,true,true,true,true,false,false,false,false,false,false,false,false,false,false,false,false,false,false,false] rfl rfl (any_of HT_.out (by kernel_rfl)) (fun _ _ _ h=>h) (Or.inr ⟨by rfl,rfl⟩) ?_ ?_
     rotate_left
     ·simp only [Act.put,sA_,s0_,s1_,i64_w,i32_w]
      rfl
     refine pure_ (i:=9) (N:=some 66) (v:=undef) (a':=?_) #[true,true,true,true,true,true,true,true,true,true,false,false,false,false,false,false,false,false,false,false,false,false,false,false] rfl rfl (any_of HT_.out (by kernel_rfl)) (fun _ _ _ h=>h) (Or.inr ⟨by rfl,rfl⟩) ?_ ?_
     rotate_left
     ·simp only [Act.put,sA_,s0_,s1_,i64_w,i32_w]
      rfl
     refine pure_ (i:=10) (N:=some 67) (v:=undef) (a':=?_) #[true,true,true,true,true,true,true,true,true,true,true,false,false,false,false,false,false,false,false,false,false,false,false,false] rfl rfl (any_of HT_.out (by kernel_rfl)) (fun _ _ _ h=>h) (Or.inr ⟨by rfl,rfl⟩) ?_ ?_
     rotate_left
     ·simp only [Act.put,sA_,s0_,s1_,i64_w,i32_w]
      rfl
     refine pure_ (i:=11) (N:=some 68) (v:=undef) (a':=?_) #[true,true,true,true,true,true,true,true,true,true,true,true,false,false,false,false,false,false,false,false,false,false,false,false] rfl rfl (any_of HT_.out (by kernel_rfl)) (fun _ _ _ h=>h) (Or.inr ⟨by rfl,rfl⟩) ?_ ?_
     rotate_left
     ·simp only [Act.put,sA_,s0_,s1_,i64_w,i32_w]
      rfl
     refine pure_ (i:=12) (N:=some 69) (v:=?_) (a':=?_) #[true,true,true,true,true,true,true,true,true,true,true,true,true,false,false,false,false,false,false,false,false,false,false,false] rfl rfl (any_of HT_.out (by kernel_rfl)) (fun _ _ _ h=>h) (Or.inl ⟨by rfl,?_⟩) ?_ ?_
     rotate_left
     ·intro w'
      go_simp
      with_reducible rfl
     rotate_left
     ·simp only [Act.put,sA_,s0_,s1_,i64_w,i32_w]
      rfl
     refine pure_ (i:=13) (N:=some 70) (v:=?_) (a':=?_) #[true,true,true,true,true,true,true,true,true,true,true,true,true,true,false,false,false,false,false,false,false,false,false,false] rfl rfl (any_of HT_.out (by kernel_rfl)) (fun _ _ _ h=>h) (Or.inl ⟨by rfl,?_⟩) ?_ ?_
     rotate_left
     ·intro w'
      go_simp
      with_reducible rfl
     rotate_left
     ·simp only [Act.put,sA_,s0_,s1_,i64_w,i32_w]
      rfl
     refine pure_ (i:=14) (N:=some 71) (v:=undef) (a':=?_) #[true,true,true,true,true,true,true,true,true,true,true,true,true,true,true,false,false,false,false,false,false,false,false,false] rfl rfl (any_of HT_.out (by kernel_rfl)) (fun _ _ _ h=>h) (Or.inr ⟨by rfl,rfl⟩) ?_ ?_
     rotate_left
     ·simp only [Act.put,sA_,s0_,s1_,i64_w,i32_w]
      rfl
     refine pure_ (i:=15) (N:=some 72) (v:=undef) (a':=?_) #[true,true,true,true,true,true,true,true,true,true,true,true,true,true,true,true,false,false,false,false,false,false,false,false] rfl rfl (any_of HT_.out (by kernel_rfl)) (fun _ _ _ h=>h) (Or.inr ⟨by rfl,rfl⟩) ?_ ?_
     rotate_left
     ·simp only [Act.put,sA_,s0_,s1_,i64_w,i32_w]
      rfl
     refine pure_ (i:=16) (N:=some 73) (v:=undef) (a':=?_) #[true,true,true,true,true,true,true,true,true,true,true,true,true,true,true,true,true,false,false,false,false,false,false,false] rfl rfl (any_of HT_.out (by kernel_rfl)) (fun _ _ _ h=>h) (Or.inr ⟨by rfl,rfl⟩) ?_ ?_
     rotate_left
     ·simp only [Act.put,sA_,s0_,s1_,i64_w,i32_w]
      rfl
     refine pure_ (i:=17) (N:=some 74) (v:=undef) (a':=?_) #[true,true,true,true,true,true,true,true,true,true,true,true,true,true,true,true,true,true,false,false,false,false,false,false] rfl rfl (any_of HT_.out (by kernel_rfl)) (fun _ _ _ h=>h) (Or.inr ⟨by rfl,rfl⟩) ?_ ?_
     rotate_left
     ·simp only [Act.put,sA_,s0_,s1_,i64_w,i32_w]
      rfl
     refine pure_ (i:=18) (N:=some 75) (v:=undef) (a':=?_) #[true,true,true,true,true,true,true,true,true,true,true,true,true,true,true,true,true,true,true,false,false,false,false,false] rfl rfl (any_of HT_.out (by kernel_rfl)) (fun _ _ _ h=>h) (Or.inr ⟨by rfl,rfl⟩) ?_ ?_
     rotate_left
     ·simp only [Act.put,sA_,s0_,s1_,i64_w,i32_w]
      rfl
     refine pure_ (i:=19) (N:=some 76) (v:=undef) (a':=?_) #[true,true,true,true,true,true,true,true,true,true,true,true,true,true,true,true,true,true,true,true,false,false,false,false] rfl rfl (any_of HT_.out (by kernel_rfl)) (fun _ _ _ h=>h) (Or.inr ⟨by rfl,rfl⟩) ?_ ?_
     rotate_left
     ·simp only [Act.put,sA_,s0_,s1_,i64_w,i32_w]
      rfl
     refine pure_ (i:=20) (N:=some 77) (v:=undef) (a':=?_) #[true,true,true,true,true,true,true,true,true,true,true,true,true,true,true,true,true,true,true,true,true,false,false,false] rfl rfl (any_of HT_.out (by kernel_rfl)) (fun _ _ _ h=>h) (Or.inr ⟨by rfl,rfl⟩) ?_ ?_
     rotate_left
     ·simp only [Act.put,sA_,s0_,s1_,i64_w,i32_w]
      rfl
     refine pure_ (i:=21) (N:=some 78) (v:=undef) (a':=?_) #[true,true,true,true,true,true,true,true,true,true,true,true,true,true,true,true,true,true,true,true,true,true,false,false] rfl rfl (any_of HT_.out (by kernel_rfl)) (fun _ _ _ h=>h) (Or.inr ⟨by rfl,rfl⟩) ?_ ?_
     rotate_left
     ·simp only [Act.put,sA_,s0_,s1_,i64_w,i32_w]
      rfl
     refine pure_ (i:=22) (N:=some 79) (v:=undef) (a':=?_) #[true,true,true,true,true,true,true,true,true,true,true,true,true,true,true,true,true,true,true,true,true,true,true,false] rfl rfl (any_of HT_.out (by kernel_rfl)) (fun _ _ _ h=>h) (Or.inr ⟨by rfl,rfl⟩) ?_ ?_
     rotate_left
     ·simp only [Act.put,sA_,s0_,s1_,i64_w,i32_w]
      rfl
     refine pure_ (i:=23) (N:=some 80) (v:=?_) (a':=?_) #[true,true,true,true,true,true,true,true,true,true,true,true,true,true,true,true,true,true,true,true,true,true,true,true] rfl rfl (any_of HT_.out (by kernel_rfl)) (fun _ _ _ h=>h) (Or.inl ⟨by rfl,?_⟩) ?_ ?_
     rotate_left
     ·intro w'
      go_simp
      with_reducible rfl
     rotate_left
     ·simp only [Act.put,sA_,s0_,s1_,i64_w,i32_w]
      rfl
     refine done_ (done_of HT_.out (by kernel_rfl)) ?_
     try go_wp2
     go_meet
     case rel=>exact ⟨_,(true),(by first | rfl | (simp; done) | (simp [*]; done)),H',⟨by first | omega | exact Nat.le_refl _⟩,⟨by (with_reducible repeat (first | refine kN ?_ _ | refine kD ?_ | refine kA ?_ _)); exact BK321.out⟩,⟨by (with_reducible repeat (first | refine kN ?_ _ | refine kD ?_ | refine kA ?_ _)); exact BK335.out⟩,⟨by repeat (first | (with_reducible first | exact HB.out | apply bA | apply bN | apply bD | refine below_set ?_ GE321.out | refine below_set ?_ GE335.out) | exact HB.out)⟩⟩
   case rest =>
    clear HC11
    try clear c2
    try clear p2
    try clear c23
    try clear c23b0
    try clear c23b1
    try clear c24
    try clear c24b0
    try clear c24b1
    try clear c25
    try clear c25b0
    try clear c25b1
    obtain ⟨kq,x80_10,rfl,HA,HJ10,BK321,BK335,HB⟩:=hcut
    cases kq with
    | zero=>exact absurd HA.out (by simp [lamplighterlaw11_AcceptAnswers.j0])
    | succ kj10 =>
     have H:=HA.out
     clear HA
     simp only [lamplighterlaw11_AcceptAnswers.j0] at H
     by_cases c39 : x80_10=true
     ·subst c39
      have H1 : (some false)=some r:=by rw [if_pos rfl] at H; exact H
      clear H
      have H:=H1
      clear H1
      obtain rfl:=Option.some.inj H
      cases hrt
     ·replace c39:=Bool.eq_false_iff.mpr c39
      subst c39
      have H1 : ((lamplighterlaw11_alive.f kj10).bind fun t337=>(if t337=true then ((accept_Stored.f kj10 l0).bind fun t338=>(if (t338 == (t320 == 0))=true then (if t319.toList=t332.toList then (some true) else (if t319.toList=([65,65] : List UInt8) then (some (t332.toList == ([65,69] : List UInt8))) else (some false))) else (some false))) else (some false)))=some r:=by rw [if_neg (show ¬ (false=true) by decide)] at H; exact H
      clear H
      have H:=H1
      clear H1
      replace H:=Option.bind_eq_some_iff.mp H
      obtain ⟨t337,A400,H⟩:=H
      replace H : (if t337=true then ((accept_Stored.f kj10 l0).bind fun t338=>(if (t338 == (t320 == 0))=true then (if t319.toList=t332.toList then (some true) else (if t319.toList=([65,65] : List UInt8) then (some (t332.toList == ([65,69] : List UInt8))) else (some false))) else (some false))) else (some false))=some r:=H
      have A40:=Aside0.mk A400
      clear A400
      by_cases c41 : t337=true
      ·subst c41
       have H1 : ((accept_Stored.f kj10 l0).bind fun t338=>(if (t338 == (t320 == 0))=true then (if t319.toList=t332.toList then (some true) else (if t319.toList=([65,65] : List UInt8) then (some (t332.toList == ([65,69] : List UInt8))) else (some false))) else (some false)))=some r:=by rw [if_pos rfl] at H; exact H
       clear H
       have H:=H1
       clear H1
       replace H:=Option.bind_eq_some_iff.mp H
       obtain ⟨t338,A420,H⟩:=H
       replace H : (if (t338 == (t320 == 0))=true then (if t319.toList=t332.toList then (some true) else (if t319.toList=([65,65] : List UInt8) then (some (t332.toList == ([65,69] : List UInt8))) else (some false))) else (some false))=some r:=H
       have A42:=Aside0.mk A420
       clear A420
       by_cases c43 : (t338 == (t320 == 0))=true
       ·rw [if_pos c43] at H
        have c43b0 : (t338 == (t320 == 0))=true:=c43
        (try (have c43b1:decide (t338=(t320 == 0))=true:=by simpa using c43))
        (try (have c43b2 : (t338 == (t320 == 0))=true:=by simpa using c43))
        clear c43
        by_cases c44 : t319.toList=t332.toList
        ·rw [if_pos c44] at H
         have c44b0 : (t319.toList == t332.toList)=true:=beq_iff_eq.mpr c44
         have c44b1 : (t319.toList != t332.toList)=false:=bne_eq_false_iff_eq.mpr c44
         clear c44
         obtain rfl:=Option.some.inj H
         clear hrt
         go_wp2_with (first | ((with_reducible refine gate_callee (f:=4) rfl ?_); refine goesL_ (some 81) rfl rfl Tryd.func4 (by kernel_rfl) rfl #[] rfl (by (try simp only [List.map_toArray,List.map_cons,List.map_nil]); first | done | rfl | (simp only [List.length_drop,List.length_take]; rfl)) ?_; (with_reducible refine (lamplighterlaw11_alive.calls kj10  true _ A40.out (glob_below HGLOB.out (by repeat (first | (with_reducible first | exact HB.out | apply bA | apply bN | apply bD | refine below_set ?_ GE321.out | refine below_set ?_ GE335.out) | exact HB.out))) (globc_below HGLOC.out (by repeat (first | (with_reducible first | exact HB.out | apply bA | apply bN | apply bD | refine below_set ?_ GE321.out | refine below_set ?_ GE335.out) | exact HB.out))) (globe_below HGLOE.out (by repeat (first | (with_reducible first | exact HB.out | apply bA | apply bN | apply bD | refine below_set ?_ GE321.out | refine below_set ?_ GE335.out) | exact HB.out)))).mono ?_); rintro e w45 ⟨rfl,hb⟩; refine ⟨_,rfl,?_⟩; have n0_:=Aside0.mk (blk_below (g:=gb321) (o := .cells #[.int .u8 t304, .int .u8 t305, .int .u8 t306, .int .u8 t307, .int .u8 t308, .string t309, .string t310, .string t311, .string t312, .string t313, .string t314, .string t315, .string t316, .string t317, .string t318] 27 (0,0)) (by (with_reducible repeat (first | refine kN ?_ _ | refine kD ?_ | refine kA ?_ _)); exact BK321.out) hb); have n1_:=Aside0.mk (blk_below (g:=gb335) (o := .cells #[.string t332, .string t333] 37 (0,0)) (by (with_reducible repeat (first | refine kN ?_ _ | refine kD ?_ | refine kA ?_ _)); exact BK335.out) hb); have n2_:=Aside0.mk (below_step (by repeat (first | (with_reducible first | exact HB.out | apply bA | apply bN | apply bD | refine below_set ?_ GE321.out | refine below_set ?_ GE335.out) | exact HB.out)) hb); clear BK321; clear BK335; clear HB; have BK321:=n0_; have BK335:=n1_; have HB:=n2_; clear n0_ n1_ n2_; (try clear hb)) | (go_at_call 10; (with_reducible refine (accept_Stored.calls kj10 _ _ l0 t338 _ ?side1 ?side2 A42.out (glob_below HGLOB.out (by repeat (first | (with_reducible first | exact HB.out | apply bA | apply bN | apply bD | refine below_set ?_ GE321.out | refine below_set ?_ GE335.out) | exact HB.out)))).mono ?_); (case side1=>repeat (first | exact (Kd.C_below HR0.out HB.out) | (with_reducible refine Kd.C_alloc ?_ _) | (with_reducible refine Kd.C_drewN ?_ _) | (with_reducible refine Kd.C_drew ?_))); (case side2=>exact HC0.out); rintro e w46 ⟨rfl,hb⟩; have n0_:=Aside0.mk (blk_below (g:=gb321) (o := .cells #[.int .u8 t304, .int .u8 t305, .int .u8 t306, .int .u8 t307, .int .u8 t308, .string t309, .string t310, .string t311, .string t312, .string t313, .string t314, .string t315, .string t316, .string t317, .string t318] 27 (0,0)) (by (with_reducible repeat (first | refine kN ?_ _ | refine kD ?_ | refine kA ?_ _)); exact BK321.out) hb); have n1_:=Aside0.mk (blk_below (g:=gb335) (o := .cells #[.string t332, .string t333] 37 (0,0)) (by (with_reducible repeat (first | refine kN ?_ _ | refine kD ?_ | refine kA ?_ _)); exact BK335.out) hb); have n2_:=Aside0.mk (below_step (by repeat (first | (with_reducible first | exact HB.out | apply bA | apply bN | apply bD | refine below_set ?_ GE321.out | refine below_set ?_ GE335.out) | exact HB.out)) hb); clear BK321; clear BK335; clear HB; have BK321:=n0_; have BK335:=n1_; have HB:=n2_; clear n0_ n1_ n2_; (try clear hb); have hnb47:=NB335_321.out; have hnc47:=NB321_335.out; have hcz48_0:w46.cell? ⟨gb335,0,none⟩=some (.string t332):=blk_cell BK335.out 0; have hcz48_1:w46.cell? ⟨gb335,1,none⟩=some (.string t333):=blk_cell BK335.out 1; have hfz48_0:=blk_frozen BK335.out 0; have hfz48_1:=blk_frozen BK335.out 1))
         go_ret
         exact ⟨by first | rfl | (simp [errW_none,errW_some] <;> rfl) | (simp [*,errW_none,errW_some] <;> rfl),by repeat (first | (with_reducible first | exact HB.out | apply bA | apply bN | apply bD | refine below_set ?_ GE321.out | refine below_set ?_ GE335.out) | exact HB.out)⟩
        ·rw [if_neg c44] at H
         have c44b0 : (t319.toList == t332.toList)=false:=beq_eq_false_iff_ne.mpr c44
         have c44b1 : (t319.toList != t332.toList)=true:=bne_iff_ne.mpr c44
         by_cases c49 : t319.toList=([65,65] : List UInt8)
         ·rw [if_pos c49] at H
          have c49b0 : (t319.toList == ([65,65] : List UInt8))=true:=beq_iff_eq.mpr c49
          have c49b1 : (t319.toList != ([65,65] : List UInt8))=false:=bne_eq_false_iff_eq.mpr c49
          clear c49
          obtain rfl:=Option.some.inj H
          clear hrt
          go_wp2_with (first | ((with_reducible refine gate_callee (f:=4) rfl ?_); refine goesL_ (some 81) rfl rfl Tryd.func4 (by kernel_rfl) rfl #[] rfl (by (try simp only [List.map_toArray,List.map_cons,List.map_nil]); first | done | rfl | (simp only [List.length_drop,List.length_take]; rfl)) ?_; (with_reducible refine (lamplighterlaw11_alive.calls kj10  true _ A40.out (glob_below HGLOB.out (by repeat (first | (with_reducible first | exact HB.out | apply bA | apply bN | apply bD | refine below_set ?_ GE321.out | refine below_set ?_ GE335.out) | exact HB.out))) (globc_below HGLOC.out (by repeat (first | (with_reducible first | exact HB.out | apply bA | apply bN | apply bD | refine below_set ?_ GE321.out | refine below_set ?_ GE335.out) | exact HB.out))) (globe_below HGLOE.out (by repeat (first | (with_reducible first | exact HB.out | apply bA | apply bN | apply bD | refine below_set ?_ GE321.out | refine below_set ?_ GE335.out) | exact HB.out)))).mono ?_); rintro e w50 ⟨rfl,hb⟩; refine ⟨_,rfl,?_⟩; have n0_:=Aside0.mk (blk_below (g:=gb321) (o := .cells #[.int .u8 t304, .int .u8 t305, .int .u8 t306, .int .u8 t307, .int .u8 t308, .string t309, .string t310, .string t311, .string t312, .string t313, .string t314, .string t315, .string t316, .string t317, .string t318] 27 (0,0)) (by (with_reducible repeat (first | refine kN ?_ _ | refine kD ?_ | refine kA ?_ _)); exact BK321.out) hb); have n1_:=Aside0.mk (blk_below (g:=gb335) (o := .cells #[.string t332, .string t333] 37 (0,0)) (by (with_reducible repeat (first | refine kN ?_ _ | refine kD ?_ | refine kA ?_ _)); exact BK335.out) hb); have n2_:=Aside0.mk (below_step (by repeat (first | (with_reducible first | exact HB.out | apply bA | apply bN | apply bD | refine below_set ?_ GE321.out | refine below_set ?_ GE335.out) | exact HB.out)) hb); clear BK321; clear BK335; clear HB; have BK321:=n0_; have BK335:=n1_; have HB:=n2_; clear n0_ n1_ n2_; (try clear hb)) | (go_at_call 10; (with_reducible refine (accept_Stored.calls kj10 _ _ l0 t338 _ ?side1 ?side2 A42.out (glob_below HGLOB.out (by repeat (first | (with_reducible first | exact HB.out | apply bA | apply bN | apply bD | refine below_set ?_ GE321.out | refine below_set ?_ GE335.out) | exact HB.out)))).mono ?_); (case side1=>repeat (first | exact (Kd.C_below HR0.out HB.out) | (with_reducible refine Kd.C_alloc ?_ _) | (with_reducible refine Kd.C_drewN ?_ _) | (with_reducible refine Kd.C_drew ?_))); (case side2=>exact HC0.out); rintro e w51 ⟨rfl,hb⟩; have n0_:=Aside0.mk (blk_below (g:=gb321) (o := .cells #[.int .u8 t304, .int .u8 t305, .int .u8 t306, .int .u8 t307, .int .u8 t308, .string t309, .string t310, .string t311, .string t312, .string t313, .string t314, .string t315, .string t316, .string t317, .string t318] 27 (0,0)) (by (with_reducible repeat (first | refine kN ?_ _ | refine kD ?_ | refine kA ?_ _)); exact BK321.out) hb); have n1_:=Aside0.mk (blk_below (g:=gb335) (o := .cells #[.string t332, .string t333] 37 (0,0)) (by (with_reducible repeat (first | refine kN ?_ _ | refine kD ?_ | refine kA ?_ _)); exact BK335.out) hb); have n2_:=Aside0.mk (below_step (by repeat (first | (with_reducible first | exact HB.out | apply bA | apply bN | apply bD | refine below_set ?_ GE321.out | refine below_set ?_ GE335.out) | exact HB.out)) hb); clear BK321; clear BK335; clear HB; have BK321:=n0_; have BK335:=n1_; have HB:=n2_; clear n0_ n1_ n2_; (try clear hb); have hnb52:=NB335_321.out; have hnc52:=NB321_335.out; have hcz53_0:w51.cell? ⟨gb335,0,none⟩=some (.string t332):=blk_cell BK335.out 0; have hcz53_1:w51.cell? ⟨gb335,1,none⟩=some (.string t333):=blk_cell BK335.out 1; have hfz53_0:=blk_frozen BK335.out 0; have hfz53_1:=blk_frozen BK335.out 1))
          go_ret
          exact ⟨by first | rfl | (simp [errW_none,errW_some] <;> rfl) | (simp [*,errW_none,errW_some] <;> rfl),by repeat (first | (with_reducible first | exact HB.out | apply bA | apply bN | apply bD | refine below_set ?_ GE321.out | refine below_set ?_ GE335.out) | exact HB.out)⟩
         ·rw [if_neg c49] at H
          have c49b0 : (t319.toList == ([65,65] : List UInt8))=false:=beq_eq_false_iff_ne.mpr c49
          have c49b1 : (t319.toList != ([65,65] : List UInt8))=true:=bne_iff_ne.mpr c49
          obtain rfl:=Option.some.inj H
          cases hrt
       ·rw [if_neg c43] at H
        have c43b0 : (t338 == (t320 == 0))=false:=by simpa using c43
        (try (have c43b1:decide (t338=(t320 == 0))=false:=by simpa using c43))
        (try (have c43b2 : (t338 == (t320 == 0))=false:=by simpa using c43))
        (try (have c43b3 : ¬ (t338=(t320 == 0)):=by simpa using c43))
        clear c43
        obtain rfl:=Option.some.inj H
        cases hrt
      ·replace c41:=Bool.eq_false_iff.mpr c41
       subst c41
       have H1 : (some false)=some r:=by rw [if_neg (show ¬ (false=true) by decide)] at H; exact H
       clear H
       have H:=H1
       clear H1
       obtain rfl:=Option.some.inj H
       cases hrt
  ·replace c8:=Bool.eq_false_iff.mpr c8
   subst c8
   have H1 : ((lamplighterlaw11_alive.f k).bind fun t326=>(if t326=true then (if (t322.length : Int)=0 then (if t319.toList=([] : List UInt8) then (some true) else ((lamplighterref04_Good.f k l0).bind fun t327=>(some (!t327)))) else (some false)) else (some false)))=some r:=by rw [if_neg (show ¬ (false=true) by decide)] at H; exact H
   clear H
   have H:=H1
   clear H1
   replace H:=Option.bind_eq_some_iff.mp H
   obtain ⟨t326,A610,H⟩:=H
   replace H : (if t326=true then (if (t322.length : Int)=0 then (if t319.toList=([] : List UInt8) then (some true) else ((lamplighterref04_Good.f k l0).bind fun t327=>(some (!t327)))) else (some false)) else (some false))=some r:=H
   have A61:=Aside0.mk A610
   clear A610
   by_cases c62 : t326=true
   ·subst c62
    have H1 : (if (t322.length : Int)=0 then (if t319.toList=([] : List UInt8) then (some true) else ((lamplighterref04_Good.f k l0).bind fun t327=>(some (!t327)))) else (some false))=some r:=by rw [if_pos rfl] at H; exact H
    clear H
    have H:=H1
    clear H1
    by_cases c63 : (t322.length : Int)=0
    ·rw [if_pos c63] at H
     have c63b0 : ((t322.length : Int) == 0)=true:=beq_iff_eq.mpr c63
     have c63b1 : ((t322.length : Int) != 0)=false:=bne_eq_false_iff_eq.mpr c63
     clear c63
     by_cases c64 : t319.toList=([] : List UInt8)
     ·rw [if_pos c64] at H
      have c64b0 : (t319.toList == ([] : List UInt8))=true:=beq_iff_eq.mpr c64
      have c64b1 : (t319.toList != ([] : List UInt8))=false:=bne_eq_false_iff_eq.mpr c64
      clear c64
      obtain rfl:=Option.some.inj H
      clear hrt
      go_enter Tryd.func3,Tryd.ntmps3
      go_wp2_with (first | ((with_reducible refine gate_callee (f:=5) rfl ?_); refine goesL_ (some 20) rfl rfl Tryd.func5 (by kernel_rfl) rfl #[.slice A0 l0.length c0] rfl (by (try simp only [List.map_toArray,List.map_cons,List.map_nil]); first | done | rfl | (simp only [List.length_drop,List.length_take]; rfl)) ?_; (with_reducible refine (accept_Verdict.calls k _ _ l0 t304 t305 t306 t307 t308 t309 t310 t311 t312 t313 t314 t315 t316 t317 t318 t319 t320 _ ?side1 ?side2 A6.out (glob_below HGLOB.out (by repeat (first | (with_reducible first | exact HB.out | apply bA | apply bN | apply bD) | exact HB.out)))).mono ?_); (case side1=>repeat (first | exact HR0.out | (with_reducible refine Kd.C_alloc ?_ _) | (with_reducible refine Kd.C_drewN ?_ _) | (with_reducible refine Kd.C_drew ?_))); (case side2=>exact HC0.out); rintro e w65 ⟨rfl,hb⟩; refine ⟨_,rfl,?_⟩; have n0_:=Aside0.mk (below_step (by repeat (first | (with_reducible first | exact HB.out | apply bA | apply bN | apply bD) | exact HB.out)) hb); clear HB; have HB:=n0_; clear n0_; (try clear hb)) | ((with_reducible refine gate_dst (N:=5) rfl ?_); (try (refine gate_guard (by rfl) ?_; dsimp only)); refine box_event ?hg (N:=5) ?hd (cs:=#[.int .u8 0, .int .u8 0, .int .u8 0, .int .u8 0, .int .u8 0, .string (⟨#[]⟩ : ByteArray), .string (⟨#[]⟩ : ByteArray), .string (⟨#[]⟩ : ByteArray), .string (⟨#[]⟩ : ByteArray), .string (⟨#[]⟩ : ByteArray), .string (⟨#[]⟩ : ByteArray), .string (⟨#[]⟩ : ByteArray), .string (⟨#[]⟩ : ByteArray), .string (⟨#[]⟩ : ByteArray), .string (⟨#[]⟩ : ByteArray)]) (t:=27) ?hr ?_; (case hd=>rfl); (case hg=>rfl); (case hr=>first | (go_simp; done) | (go_simp; rfl)); intro gb321 hg w66 hbox hb; have n0_:=Aside0.mk (below_step (by repeat (first | (with_reducible first | exact HB.out | apply bA | apply bN | apply bD) | exact HB.out)) hb); have n1_:=Aside0.mk (hbox); have n2_:=Aside0.mk ((by rw [hg]; exact (below_size (by repeat (first | (with_reducible first | exact HB.out | apply bA | apply bN | apply bD) | exact HB.out))) : w.heap.size≤gb321)); have n3_:=Aside0.mk ((by rw [hg]; exact (below_size (by repeat (first | (with_reducible first | exact HB.out | apply bA | apply bN | apply bD) | exact HB.out))) : w.heap.size≤gb321)); clear HB; have HB:=n0_; have BK321:=n1_; have GW321:=n2_; have GE321:=n3_; clear n0_ n1_ n2_ n3_; clear hb hbox hg; have hcz67_0:w66.cell? ⟨gb321,0,none⟩=some (.int .u8 0):=blk_cell BK321.out 0; have hcz67_1:w66.cell? ⟨gb321,1,none⟩=some (.int .u8 0):=blk_cell BK321.out 1; have hcz67_2:w66.cell? ⟨gb321,2,none⟩=some (.int .u8 0):=blk_cell BK321.out 2; have hcz67_3:w66.cell? ⟨gb321,3,none⟩=some (.int .u8 0):=blk_cell BK321.out 3; have hcz67_4:w66.cell? ⟨gb321,4,none⟩=some (.int .u8 0):=blk_cell BK321.out 4; have hcz67_5:w66.cell? ⟨gb321,5,none⟩=some (.string (⟨#[]⟩ : ByteArray)):=blk_cell BK321.out 5; have hcz67_6:w66.cell? ⟨gb321,6,none⟩=some (.string (⟨#[]⟩ : ByteArray)):=blk_cell BK321.out 6; have hcz67_7:w66.cell? ⟨gb321,7,none⟩=some (.string (⟨#[]⟩ : ByteArray)):=blk_cell BK321.out 7; have hcz67_8:w66.cell? ⟨gb321,8,none⟩=some (.string (⟨#[]⟩ : ByteArray)):=blk_cell BK321.out 8; have hcz67_9:w66.cell? ⟨gb321,9,none⟩=some (.string (⟨#[]⟩ : ByteArray)):=blk_cell BK321.out 9; have hcz67_10:w66.cell? ⟨gb321,10,none⟩=some (.string (⟨#[]⟩ : ByteArray)):=blk_cell BK321.out 10; have hcz67_11:w66.cell? ⟨gb321,11,none⟩=some (.string (⟨#[]⟩ : ByteArray)):=blk_cell BK321.out 11; have hcz67_12:w66.cell? ⟨gb321,12,none⟩=some (.string (⟨#[]⟩ : ByteArray)):=blk_cell BK321.out 12; have hcz67_13:w66.cell? ⟨gb321,13,none⟩=some (.string (⟨#[]⟩ : ByteArray)):=blk_cell BK321.out 13; have hcz67_14:w66.cell? ⟨gb321,14,none⟩=some (.string (⟨#[]⟩ : ByteArray)):=blk_cell BK321.out 14; have hfz67_0:=blk_frozen BK321.out 0; have hfz67_1:=blk_frozen BK321.out 1; have hfz67_2:=blk_frozen BK321.out 2; have hfz67_3:=blk_frozen BK321.out 3; have hfz67_4:=blk_frozen BK321.out 4; have hfz67_5:=blk_frozen BK321.out 5; have hfz67_6:=blk_frozen BK321.out 6; have hfz67_7:=blk_frozen BK321.out 7; have hfz67_8:=blk_frozen BK321.out 8; have hfz67_9:=blk_frozen BK321.out 9; have hfz67_10:=blk_frozen BK321.out 10; have hfz67_11:=blk_frozen BK321.out 11; have hfz67_12:=blk_frozen BK321.out 12; have hfz67_13:=blk_frozen BK321.out 13; have hfz67_14:=blk_frozen BK321.out 14) | ((with_reducible refine gate_callee (f:=6) rfl ?_); refine goesL_ (some 27) rfl rfl Tryd.func6 (by kernel_rfl) rfl #[.slice A0 l0.length c0, .bool a1] rfl (by (try simp only [List.map_toArray,List.map_cons,List.map_nil]); first | done | rfl | (simp only [List.length_drop,List.length_take]; rfl)) ?_; (with_reducible refine (accept_Reply.calls k _ _ l0 a1 t322 false _ ?side1 ?side2 A7.out (glob_below HGLOB.out (by repeat (first | (with_reducible first | exact HB.out | apply bA | apply bN | apply bD | refine below_set ?_ GE321.out) | exact HB.out))) (globc_below HGLOC.out (by repeat (first | (with_reducible first | exact HB.out | apply bA | apply bN | apply bD | refine below_set ?_ GE321.out) | exact HB.out))) (globe_below HGLOE.out (by repeat (first | (with_reducible first | exact HB.out | apply bA | apply bN | apply bD | refine below_set ?_ GE321.out) | exact HB.out)))).mono ?_); (case side1=>exact Kd.C_below HR0.out (by repeat (first | (with_reducible first | exact HB.out | apply bA | apply bN | apply bD | refine below_set ?_ GE321.out) | exact HB.out))); (case side2=>exact HC0.out); rintro e w68 ⟨v324,rfl,ho0,hb⟩; refine ⟨_,rfl,?_⟩; have n0_:=Aside0.mk (Kd.R_lower ho0 (below_size (by repeat (first | (with_reducible first | exact HB.out | apply bA | apply bN | apply bD | refine below_set ?_ GE321.out) | exact HB.out)))); have n1_:=Aside0.mk (blk_below (g:=gb321) (o := .cells #[.int .u8 t304, .int .u8 t305, .int .u8 t306, .int .u8 t307, .int .u8 t308, .string t309, .string t310, .string t311, .string t312, .string t313, .string t314, .string t315, .string t316, .string t317, .string t318] 27 (0,0)) (by (with_reducible repeat (first | refine kN ?_ _ | refine kD ?_ | refine kA ?_ _)); refine blk_put (cs:=#[.int .u8 t304, .int .u8 t305, .int .u8 t306, .int .u8 t307, .int .u8 t308, .string t309, .string t310, .string t311, .string t312, .string t313, .string t314, .string t315, .string t316, .string t317, .string (⟨#[]⟩ : ByteArray)]) ?_ 14 _ rfl; (with_reducible repeat (first | refine kN ?_ _ | refine kD ?_ | refine kA ?_ _)); refine blk_put (cs:=#[.int .u8 t304, .int .u8 t305, .int .u8 t306, .int .u8 t307, .int .u8 t308, .string t309, .string t310, .string t311, .string t312, .string t313, .string t314, .string t315, .string t316, .string (⟨#[]⟩ : ByteArray), .string (⟨#[]⟩ : ByteArray)]) ?_ 13 _ rfl; (with_reducible repeat (first | refine kN ?_ _ | refine kD ?_ | refine kA ?_ _)); refine blk_put (cs:=#[.int .u8 t304, .int .u8 t305, .int .u8 t306, .int .u8 t307, .int .u8 t308, .string t309, .string t310, .string t311, .string t312, .string t313, .string t314, .string t315, .string (⟨#[]⟩ : ByteArray), .string (⟨#[]⟩ : ByteArray), .string (⟨#[]⟩ : ByteArray)]) ?_ 12 _ rfl; (with_reducible repeat (first | refine kN ?_ _ | refine kD ?_ | refine kA ?_ _)); refine blk_put (cs:=#[.int .u8 t304, .int .u8 t305, .int .u8 t306, .int .u8 t307, .int .u8 t308, .string t309, .string t310, .string t311, .string t312, .string t313, .string t314, .string (⟨#[]⟩ : ByteArray), .string (⟨#[]⟩ : ByteArray), .string (⟨#[]⟩ : ByteArray), .string (⟨#[]⟩ : ByteArray)]) ?_ 11 _ rfl; (with_reducible repeat (first | refine kN ?_ _ | refine kD ?_ | refine kA ?_ _)); refine blk_put (cs:=#[.int .u8 t304, .int .u8 t305, .int .u8 t306, .int .u8 t307, .int .u8 t308, .string t309, .string t310, .string t311, .string t312, .string t313, .string (⟨#[]⟩ : ByteArray), .string (⟨#[]⟩ : ByteArray), .string (⟨#[]⟩ : ByteArray), .string (⟨#[]⟩ : ByteArray), .string (⟨#[]⟩ : ByteArray)]) ?_ 10 _ rfl; (with_reducible repeat (first | refine kN ?_ _ | refine kD ?_ | refine kA ?_ _)); refine blk_put (cs:=#[.int .u8 t304, .int .u8 t305, .int .u8 t306, .int .u8 t307, .int .u8 t308, .string t309, .string t310, .string t311, .string t312, .string (⟨#[]⟩ : ByteArray), .string (⟨#[]⟩ : ByteArray), .string (⟨#[]⟩ : ByteArray), .string (⟨#[]⟩ : ByteArray), .string (⟨#[]⟩ : ByteArray), .string (⟨#[]⟩ : ByteArray)]) ?_ 9 _ rfl; (with_reducible repeat (first | refine kN ?_ _ | refine kD ?_ | refine kA ?_ _)); refine blk_put (cs:=#[.int .u8 t304, .int .u8 t305, .int .u8 t306, .int .u8 t307, .int .u8 t308, .string t309, .string t310, .string t311, .string (⟨#[]⟩ : ByteArray), .string (⟨#[]⟩ : ByteArray), .string (⟨#[]⟩ : ByteArray), .string (⟨#[]⟩ : ByteArray), .string (⟨#[]⟩ : ByteArray), .string (⟨#[]⟩ : ByteArray), .string (⟨#[]⟩ : ByteArray)]) ?_ 8 _ rfl; (with_reducible repeat (first | refine kN ?_ _ | refine kD ?_ | refine kA ?_ _)); refine blk_put (cs:=#[.int .u8 t304, .int .u8 t305, .int .u8 t306, .int .u8 t307, .int .u8 t308, .string t309, .string t310, .string (⟨#[]⟩ : ByteArray), .string (⟨#[]⟩ : ByteArray), .string (⟨#[]⟩ : ByteArray), .string (⟨#[]⟩ : ByteArray), .string (⟨#[]⟩ : ByteArray), .string (⟨#[]⟩ : ByteArray), .string (⟨#[]⟩ : ByteArray), .string (⟨#[]⟩ : ByteArray)]) ?_ 7 _ rfl; (with_reducible repeat (first | refine kN ?_ _ | refine kD ?_ | refine kA ?_ _)); refine blk_put (cs:=#[.int .u8 t304, .int .u8 t305, .int .u8 t306, .int .u8 t307, .int .u8 t308, .string t309, .string (⟨#[]⟩ : ByteArray), .string (⟨#[]⟩ : ByteArray), .string (⟨#[]⟩ : ByteArray), .string (⟨#[]⟩ : ByteArray), .string (⟨#[]⟩ : ByteArray), .string (⟨#[]⟩ : ByteArray), .string (⟨#[]⟩ : ByteArray), .string (⟨#[]⟩ : ByteArray), .string (⟨#[]⟩ : ByteArray)]) ?_ 6 _ rfl; (with_reducible repeat (first | refine kN ?_ _ | refine kD ?_ | refine kA ?_ _)); refine blk_put (cs:=#[.int .u8 t304, .int .u8 t305, .int .u8 t306, .int .u8 t307, .int .u8 t308, .string (⟨#[]⟩ : ByteArray), .string (⟨#[]⟩ : ByteArray), .string (⟨#[]⟩ : ByteArray), .string (⟨#[]⟩ : ByteArray), .string (⟨#[]⟩ : ByteArray), .string (⟨#[]⟩ : ByteArray), .string (⟨#[]⟩ : ByteArray), .string (⟨#[]⟩ : ByteArray), .string (⟨#[]⟩ : ByteArray), .string (⟨#[]⟩ : ByteArray)]) ?_ 5 _ rfl; (with_reducible repeat (first | refine kN ?_ _ | refine kD ?_ | refine kA ?_ _)); refine blk_put (cs:=#[.int .u8 t304, .int .u8 t305, .int .u8 t306, .int .u8 t307, .int .u8 0, .string (⟨#[]⟩ : ByteArray), .string (⟨#[]⟩ : ByteArray), .string (⟨#[]⟩ : ByteArray), .string (⟨#[]⟩ : ByteArray), .string (⟨#[]⟩ : ByteArray), .string (⟨#[]⟩ : ByteArray), .string (⟨#[]⟩ : ByteArray), .string (⟨#[]⟩ : ByteArray), .string (⟨#[]⟩ : ByteArray), .string (⟨#[]⟩ : ByteArray)]) ?_ 4 _ rfl; (with_reducible repeat (first | refine kN ?_ _ | refine kD ?_ | refine kA ?_ _)); refine blk_put (cs:=#[.int .u8 t304, .int .u8 t305, .int .u8 t306, .int .u8 0, .int .u8 0, .string (⟨#[]⟩ : ByteArray), .string (⟨#[]⟩ : ByteArray), .string (⟨#[]⟩ : ByteArray), .string (⟨#[]⟩ : ByteArray), .string (⟨#[]⟩ : ByteArray), .string (⟨#[]⟩ : ByteArray), .string (⟨#[]⟩ : ByteArray), .string (⟨#[]⟩ : ByteArray), .string (⟨#[]⟩ : ByteArray), .string (⟨#[]⟩ : ByteArray)]) ?_ 3 _ rfl; (with_reducible repeat (first | refine kN ?_ _ | refine kD ?_ | refine kA ?_ _)); refine blk_put (cs:=#[.int .u8 t304, .int .u8 t305, .int .u8 0, .int .u8 0, .int .u8 0, .string (⟨#[]⟩ : ByteArray), .string (⟨#[]⟩ : ByteArray), .string (⟨#[]⟩ : ByteArray), .string (⟨#[]⟩ : ByteArray), .string (⟨#[]⟩ : ByteArray), .string (⟨#[]⟩ : ByteArray), .string (⟨#[]⟩ : ByteArray), .string (⟨#[]⟩ : ByteArray), .string (⟨#[]⟩ : ByteArray), .string (⟨#[]⟩ : ByteArray)]) ?_ 2 _ rfl; (with_reducible repeat (first | refine kN ?_ _ | refine kD ?_ | refine kA ?_ _)); refine blk_put (cs:=#[.int .u8 t304, .int .u8 0, .int .u8 0, .int .u8 0, .int .u8 0, .string (⟨#[]⟩ : ByteArray), .string (⟨#[]⟩ : ByteArray), .string (⟨#[]⟩ : ByteArray), .string (⟨#[]⟩ : ByteArray), .string (⟨#[]⟩ : ByteArray), .string (⟨#[]⟩ : ByteArray), .string (⟨#[]⟩ : ByteArray), .string (⟨#[]⟩ : ByteArray), .string (⟨#[]⟩ : ByteArray), .string (⟨#[]⟩ : ByteArray)]) ?_ 1 _ rfl; (with_reducible repeat (first | refine kN ?_ _ | refine kD ?_ | refine kA ?_ _)); refine blk_put (cs:=#[.int .u8 0, .int .u8 0, .int .u8 0, .int .u8 0, .int .u8 0, .string (⟨#[]⟩ : ByteArray), .string (⟨#[]⟩ : ByteArray), .string (⟨#[]⟩ : ByteArray), .string (⟨#[]⟩ : ByteArray), .string (⟨#[]⟩ : ByteArray), .string (⟨#[]⟩ : ByteArray), .string (⟨#[]⟩ : ByteArray), .string (⟨#[]⟩ : ByteArray), .string (⟨#[]⟩ : ByteArray), .string (⟨#[]⟩ : ByteArray)]) ?_ 0 _ rfl; (with_reducible repeat (first | refine kN ?_ _ | refine kD ?_ | refine kA ?_ _)); exact BK321.out) hb); have n2_:=Aside0.mk (below_step (by repeat (first | (with_reducible first | exact HB.out | apply bA | apply bN | apply bD | refine below_set ?_ GE321.out) | exact HB.out)) hb); clear BK321; clear HB; have HO325:=n0_; have BK321:=n1_; have HB:=n2_; clear n0_ n1_ n2_; (try clear hb); (try clear ho0)) | ((with_reducible refine gate_callee (f:=4) rfl ?_); refine goesL_ (some 32) rfl rfl Tryd.func4 (by kernel_rfl) rfl #[] rfl (by (try simp only [List.map_toArray,List.map_cons,List.map_nil]); first | done | rfl | (simp only [List.length_drop,List.length_take]; rfl)) ?_; (with_reducible refine (lamplighterlaw11_alive.calls k  true _ A61.out (glob_below HGLOB.out (by repeat (first | (with_reducible first | exact HB.out | apply bA | apply bN | apply bD | refine below_set ?_ GE321.out) | exact HB.out))) (globc_below HGLOC.out (by repeat (first | (with_reducible first | exact HB.out | apply bA | apply bN | apply bD | refine below_set ?_ GE321.out) | exact HB.out))) (globe_below HGLOE.out (by repeat (first | (with_reducible first | exact HB.out | apply bA | apply bN | apply bD | refine below_set ?_ GE321.out) | exact HB.out)))).mono ?_); rintro e w69 ⟨rfl,hb⟩; refine ⟨_,rfl,?_⟩; have n0_:=Aside0.mk (Kd.R_below (by (with_reducible repeat (first | apply Kd.R_alloc | apply Kd.R_drewN | apply Kd.R_drew)); exact HO325.out) hb); have n1_:=Aside0.mk (blk_below (g:=gb321) (o := .cells #[.int .u8 t304, .int .u8 t305, .int .u8 t306, .int .u8 t307, .int .u8 t308, .string t309, .string t310, .string t311, .string t312, .string t313, .string t314, .string t315, .string t316, .string t317, .string t318] 27 (0,0)) (by (with_reducible repeat (first | refine kN ?_ _ | refine kD ?_ | refine kA ?_ _)); exact BK321.out) hb); have n2_:=Aside0.mk (below_step (by repeat (first | (with_reducible first | exact HB.out | apply bA | apply bN | apply bD | refine below_set ?_ GE321.out) | exact HB.out)) hb); clear HO325; clear BK321; clear HB; have HO325:=n0_; have BK321:=n1_; have HB:=n2_; clear n0_ n1_ n2_; (try clear hb); obtain ⟨Ao70,co70,eo70⟩:=Kd.R_slice HO325.out; subst eo70))
      go_ret
      exact ⟨by first | rfl | (simp [errW_none,errW_some] <;> rfl) | (simp [*,errW_none,errW_some] <;> rfl),by repeat (first | (with_reducible first | exact HB.out | apply bA | apply bN | apply bD | refine below_set ?_ GE321.out) | exact HB.out)⟩
     ·rw [if_neg c64] at H
      have c64b0 : (t319.toList == ([] : List UInt8))=false:=beq_eq_false_iff_ne.mpr c64
      have c64b1 : (t319.toList != ([] : List UInt8))=true:=bne_iff_ne.mpr c64
      replace H:=Option.bind_eq_some_iff.mp H
      obtain ⟨t327,A710,H⟩:=H
      replace H : (some (!t327))=some r:=H
      have A71:=Aside0.mk A710
      clear A710
      obtain rfl:=Option.some.inj H
      clear hrt
      go_enter Tryd.func3,Tryd.ntmps3
      go_wp2_with (first | ((with_reducible refine gate_callee (f:=5) rfl ?_); refine goesL_ (some 20) rfl rfl Tryd.func5 (by kernel_rfl) rfl #[.slice A0 l0.length c0] rfl (by (try simp only [List.map_toArray,List.map_cons,List.map_nil]); first | done | rfl | (simp only [List.length_drop,List.length_take]; rfl)) ?_; (with_reducible refine (accept_Verdict.calls k _ _ l0 t304 t305 t306 t307 t308 t309 t310 t311 t312 t313 t314 t315 t316 t317 t318 t319 t320 _ ?side1 ?side2 A6.out (glob_below HGLOB.out (by repeat (first | (with_reducible first | exact HB.out | apply bA | apply bN | apply bD) | exact HB.out)))).mono ?_); (case side1=>repeat (first | exact HR0.out | (with_reducible refine Kd.C_alloc ?_ _) | (with_reducible refine Kd.C_drewN ?_ _) | (with_reducible refine Kd.C_drew ?_))); (case side2=>exact HC0.out); rintro e w72 ⟨rfl,hb⟩; refine ⟨_,rfl,?_⟩; have n0_:=Aside0.mk (below_step (by repeat (first | (with_reducible first | exact HB.out | apply bA | apply bN | apply bD) | exact HB.out)) hb); clear HB; have HB:=n0_; clear n0_; (try clear hb)) | ((with_reducible refine gate_dst (N:=5) rfl ?_); (try (refine gate_guard (by rfl) ?_; dsimp only)); refine box_event ?hg (N:=5) ?hd (cs:=#[.int .u8 0, .int .u8 0, .int .u8 0, .int .u8 0, .int .u8 0, .string (⟨#[]⟩ : ByteArray), .string (⟨#[]⟩ : ByteArray), .string (⟨#[]⟩ : ByteArray), .string (⟨#[]⟩ : ByteArray), .string (⟨#[]⟩ : ByteArray), .string (⟨#[]⟩ : ByteArray), .string (⟨#[]⟩ : ByteArray), .string (⟨#[]⟩ : ByteArray), .string (⟨#[]⟩ : ByteArray), .string (⟨#[]⟩ : ByteArray)]) (t:=27) ?hr ?_; (case hd=>rfl); (case hg=>rfl); (case hr=>first | (go_simp; done) | (go_simp; rfl)); intro gb321 hg w73 hbox hb; have n0_:=Aside0.mk (below_step (by repeat (first | (with_reducible first | exact HB.out | apply bA | apply bN | apply bD) | exact HB.out)) hb); have n1_:=Aside0.mk (hbox); have n2_:=Aside0.mk ((by rw [hg]; exact (below_size (by repeat (first | (with_reducible first | exact HB.out | apply bA | apply bN | apply bD) | exact HB.out))) : w.heap.size≤gb321)); have n3_:=Aside0.mk ((by rw [hg]; exact (below_size (by repeat (first | (with_reducible first | exact HB.out | apply bA | apply bN | apply bD) | exact HB.out))) : w.heap.size≤gb321)); clear HB; have HB:=n0_; have BK321:=n1_; have GW321:=n2_; have GE321:=n3_; clear n0_ n1_ n2_ n3_; clear hb hbox hg; have hcz74_0:w73.cell? ⟨gb321,0,none⟩=some (.int .u8 0):=blk_cell BK321.out 0; have hcz74_1:w73.cell? ⟨gb321,1,none⟩=some (.int .u8 0):=blk_cell BK321.out 1; have hcz74_2:w73.cell? ⟨gb321,2,none⟩=some (.int .u8 0):=blk_cell BK321.out 2; have hcz74_3:w73.cell? ⟨gb321,3,none⟩=some (.int .u8 0):=blk_cell BK321.out 3; have hcz74_4:w73.cell? ⟨gb321,4,none⟩=some (.int .u8 0):=blk_cell BK321.out 4; have hcz74_5:w73.cell? ⟨gb321,5,none⟩=some (.string (⟨#[]⟩ : ByteArray)):=blk_cell BK321.out 5; have hcz74_6:w73.cell? ⟨gb321,6,none⟩=some (.string (⟨#[]⟩ : ByteArray)):=blk_cell BK321.out 6; have hcz74_7:w73.cell? ⟨gb321,7,none⟩=some (.string (⟨#[]⟩ : ByteArray)):=blk_cell BK321.out 7; have hcz74_8:w73.cell? ⟨gb321,8,none⟩=some (.string (⟨#[]⟩ : ByteArray)):=blk_cell BK321.out 8; have hcz74_9:w73.cell? ⟨gb321,9,none⟩=some (.string (⟨#[]⟩ : ByteArray)):=blk_cell BK321.out 9; have hcz74_10:w73.cell? ⟨gb321,10,none⟩=some (.string (⟨#[]⟩ : ByteArray)):=blk_cell BK321.out 10; have hcz74_11:w73.cell? ⟨gb321,11,none⟩=some (.string (⟨#[]⟩ : ByteArray)):=blk_cell BK321.out 11; have hcz74_12:w73.cell? ⟨gb321,12,none⟩=some (.string (⟨#[]⟩ : ByteArray)):=blk_cell BK321.out 12; have hcz74_13:w73.cell? ⟨gb321,13,none⟩=some (.string (⟨#[]⟩ : ByteArray)):=blk_cell BK321.out 13; have hcz74_14:w73.cell? ⟨gb321,14,none⟩=some (.string (⟨#[]⟩ : ByteArray)):=blk_cell BK321.out 14; have hfz74_0:=blk_frozen BK321.out 0; have hfz74_1:=blk_frozen BK321.out 1; have hfz74_2:=blk_frozen BK321.out 2; have hfz74_3:=blk_frozen BK321.out 3; have hfz74_4:=blk_frozen BK321.out 4; have hfz74_5:=blk_frozen BK321.out 5; have hfz74_6:=blk_frozen BK321.out 6; have hfz74_7:=blk_frozen BK321.out 7; have hfz74_8:=blk_frozen BK321.out 8; have hfz74_9:=blk_frozen BK321.out 9; have hfz74_10:=blk_frozen BK321.out 10; have hfz74_11:=blk_frozen BK321.out 11; have hfz74_12:=blk_frozen BK321.out 12; have hfz74_13:=blk_frozen BK321.out 13; have hfz74_14:=blk_frozen BK321.out 14) | ((with_reducible refine gate_callee (f:=6) rfl ?_); refine goesL_ (some 27) rfl rfl Tryd.func6 (by kernel_rfl) rfl #[.slice A0 l0.length c0, .bool a1] rfl (by (try simp only [List.map_toArray,List.map_cons,List.map_nil]); first | done | rfl | (simp only [List.length_drop,List.length_take]; rfl)) ?_; (with_reducible refine (accept_Reply.calls k _ _ l0 a1 t322 false _ ?side1 ?side2 A7.out (glob_below HGLOB.out (by repeat (first | (with_reducible first | exact HB.out | apply bA | apply bN | apply bD | refine below_set ?_ GE321.out) | exact HB.out))) (globc_below HGLOC.out (by repeat (first | (with_reducible first | exact HB.out | apply bA | apply bN | apply bD | refine below_set ?_ GE321.out) | exact HB.out))) (globe_below HGLOE.out (by repeat (first | (with_reducible first | exact HB.out | apply bA | apply bN | apply bD | refine below_set ?_ GE321.out) | exact HB.out)))).mono ?_); (case side1=>exact Kd.C_below HR0.out (by repeat (first | (with_reducible first | exact HB.out | apply bA | apply bN | apply bD | refine below_set ?_ GE321.out) | exact HB.out))); (case side2=>exact HC0.out); rintro e w75 ⟨v324,rfl,ho0,hb⟩; refine ⟨_,rfl,?_⟩; have n0_:=Aside0.mk (Kd.R_lower ho0 (below_size (by repeat (first | (with_reducible first | exact HB.out | apply bA | apply bN | apply bD | refine below_set ?_ GE321.out) | exact HB.out)))); have n1_:=Aside0.mk (blk_below (g:=gb321) (o := .cells #[.int .u8 t304, .int .u8 t305, .int .u8 t306, .int .u8 t307, .int .u8 t308, .string t309, .string t310, .string t311, .string t312, .string t313, .string t314, .string t315, .string t316, .string t317, .string t318] 27 (0,0)) (by (with_reducible repeat (first | refine kN ?_ _ | refine kD ?_ | refine kA ?_ _)); refine blk_put (cs:=#[.int .u8 t304, .int .u8 t305, .int .u8 t306, .int .u8 t307, .int .u8 t308, .string t309, .string t310, .string t311, .string t312, .string t313, .string t314, .string t315, .string t316, .string t317, .string (⟨#[]⟩ : ByteArray)]) ?_ 14 _ rfl; (with_reducible repeat (first | refine kN ?_ _ | refine kD ?_ | refine kA ?_ _)); refine blk_put (cs:=#[.int .u8 t304, .int .u8 t305, .int .u8 t306, .int .u8 t307, .int .u8 t308, .string t309, .string t310, .string t311, .string t312, .string t313, .string t314, .string t315, .string t316, .string (⟨#[]⟩ : ByteArray), .string (⟨#[]⟩ : ByteArray)]) ?_ 13 _ rfl; (with_reducible repeat (first | refine kN ?_ _ | refine kD ?_ | refine kA ?_ _)); refine blk_put (cs:=#[.int .u8 t304, .int .u8 t305, .int .u8 t306, .int .u8 t307, .int .u8 t308, .string t309, .string t310, .string t311, .string t312, .string t313, .string t314, .string t315, .string (⟨#[]⟩ : ByteArray), .string (⟨#[]⟩ : ByteArray), .string (⟨#[]⟩ : ByteArray)]) ?_ 12 _ rfl; (with_reducible repeat (first | refine kN ?_ _ | refine kD ?_ | refine kA ?_ _)); refine blk_put (cs:=#[.int .u8 t304, .int .u8 t305, .int .u8 t306, .int .u8 t307, .int .u8 t308, .string t309, .string t310, .string t311, .string t312, .string t313, .string t314, .string (⟨#[]⟩ : ByteArray), .string (⟨#[]⟩ : ByteArray), .string (⟨#[]⟩ : ByteArray), .string (⟨#[]⟩ : ByteArray)]) ?_ 11 _ rfl; (with_reducible repeat (first | refine kN ?_ _ | refine kD ?_ | refine kA ?_ _)); refine blk_put (cs:=#[.int .u8 t304, .int .u8 t305, .int .u8 t306, .int .u8 t307, .int .u8 t308, .string t309, .string t310, .string t311, .string t312, .string t313, .string (⟨#[]⟩ : ByteArray), .string (⟨#[]⟩ : ByteArray), .string (⟨#[]⟩ : ByteArray), .string (⟨#[]⟩ : ByteArray), .string (⟨#[]⟩ : ByteArray)]) ?_ 10 _ rfl; (with_reducible repeat (first | refine kN ?_ _ | refine kD ?_ | refine kA ?_ _)); refine blk_put (cs:=#[.int .u8 t304, .int .u8 t305, .int .u8 t306, .int .u8 t307, .int .u8 t308, .string t309, .string t310, .string t311, .string t312, .string (⟨#[]⟩ : ByteArray), .string (⟨#[]⟩ : ByteArray), .string (⟨#[]⟩ : ByteArray), .string (⟨#[]⟩ : ByteArray), .string (⟨#[]⟩ : ByteArray), .string (⟨#[]⟩ : ByteArray)]) ?_ 9 _ rfl; (with_reducible repeat (first | refine kN ?_ _ | refine kD ?_ | refine kA ?_ _)); refine blk_put (cs:=#[.int .u8 t304, .int .u8 t305, .int .u8 t306, .int .u8 t307, .int .u8 t308, .string t309, .string t310, .string t311, .string (⟨#[]⟩ : ByteArray), .string (⟨#[]⟩ : ByteArray), .string (⟨#[]⟩ : ByteArray), .string (⟨#[]⟩ : ByteArray), .string (⟨#[]⟩ : ByteArray), .string (⟨#[]⟩ : ByteArray), .string (⟨#[]⟩ : ByteArray)]) ?_ 8 _ rfl; (with_reducible repeat (first | refine kN ?_ _ | refine kD ?_ | refine kA ?_ _)); refine blk_put (cs:=#[.int .u8 t304, .int .u8 t305, .int .u8 t306, .int .u8 t307, .int .u8 t308, .string t309, .string t310, .string (⟨#[]⟩ : ByteArray), .string (⟨#[]⟩ : ByteArray), .string (⟨#[]⟩ : ByteArray), .string (⟨#[]⟩ : ByteArray), .string (⟨#[]⟩ : ByteArray), .string (⟨#[]⟩ : ByteArray), .string (⟨#[]⟩ : ByteArray), .string (⟨#[]⟩ : ByteArray)]) ?_ 7 _ rfl; (with_reducible repeat (first | refine kN ?_ _ | refine kD ?_ | refine kA ?_ _)); refine blk_put (cs:=#[.int .u8 t304, .int .u8 t305, .int .u8 t306, .int .u8 t307, .int .u8 t308, .string t309, .string (⟨#[]⟩ : ByteArray), .string (⟨#[]⟩ : ByteArray), .string (⟨#[]⟩ : ByteArray), .string (⟨#[]⟩ : ByteArray), .string (⟨#[]⟩ : ByteArray), .string (⟨#[]⟩ : ByteArray), .string (⟨#[]⟩ : ByteArray), .string (⟨#[]⟩ : ByteArray), .string (⟨#[]⟩ : ByteArray)]) ?_ 6 _ rfl; (with_reducible repeat (first | refine kN ?_ _ | refine kD ?_ | refine kA ?_ _)); refine blk_put (cs:=#[.int .u8 t304, .int .u8 t305, .int .u8 t306, .int .u8 t307, .int .u8 t308, .string (⟨#[]⟩ : ByteArray), .string (⟨#[]⟩ : ByteArray), .string (⟨#[]⟩ : ByteArray), .string (⟨#[]⟩ : ByteArray), .string (⟨#[]⟩ : ByteArray), .string (⟨#[]⟩ : ByteArray), .string (⟨#[]⟩ : ByteArray), .string (⟨#[]⟩ : ByteArray), .string (⟨#[]⟩ : ByteArray), .string (⟨#[]⟩ : ByteArray)]) ?_ 5 _ rfl; (with_reducible repeat (first | refine kN ?_ _ | refine kD ?_ | refine kA ?_ _)); refine blk_put (cs:=#[.int .u8 t304, .int .u8 t305, .int .u8 t306, .int .u8 t307, .int .u8 0, .string (⟨#[]⟩ : ByteArray), .string (⟨#[]⟩ : ByteArray), .string (⟨#[]⟩ : ByteArray), .string (⟨#[]⟩ : ByteArray), .string (⟨#[]⟩ : ByteArray), .string (⟨#[]⟩ : ByteArray), .string (⟨#[]⟩ : ByteArray), .string (⟨#[]⟩ : ByteArray), .string (⟨#[]⟩ : ByteArray), .string (⟨#[]⟩ : ByteArray)]) ?_ 4 _ rfl; (with_reducible repeat (first | refine kN ?_ _ | refine kD ?_ | refine kA ?_ _)); refine blk_put (cs:=#[.int .u8 t304, .int .u8 t305, .int .u8 t306, .int .u8 0, .int .u8 0, .string (⟨#[]⟩ : ByteArray), .string (⟨#[]⟩ : ByteArray), .string (⟨#[]⟩ : ByteArray), .string (⟨#[]⟩ : ByteArray), .string (⟨#[]⟩ : ByteArray), .string (⟨#[]⟩ : ByteArray), .string (⟨#[]⟩ : ByteArray), .string (⟨#[]⟩ : ByteArray), .string (⟨#[]⟩ : ByteArray), .string (⟨#[]⟩ : ByteArray)]) ?_ 3 _ rfl; (with_reducible repeat (first | refine kN ?_ _ | refine kD ?_ | refine kA ?_ _)); refine blk_put (cs:=#[.int .u8 t304, .int .u8 t305, .int .u8 0, .int .u8 0, .int .u8 0, .string (⟨#[]⟩ : ByteArray), .string (⟨#[]⟩ : ByteArray), .string (⟨#[]⟩ : ByteArray), .string (⟨#[]⟩ : ByteArray), .string (⟨#[]⟩ : ByteArray), .string (⟨#[]⟩ : ByteArray), .string (⟨#[]⟩ : ByteArray), .string (⟨#[]⟩ : ByteArray), .string (⟨#[]⟩ : ByteArray), .string (⟨#[]⟩ : ByteArray)]) ?_ 2 _ rfl; (with_reducible repeat (first | refine kN ?_ _ | refine kD ?_ | refine kA ?_ _)); refine blk_put (cs:=#[.int .u8 t304, .int .u8 0, .int .u8 0, .int .u8 0, .int .u8 0, .string (⟨#[]⟩ : ByteArray), .string (⟨#[]⟩ : ByteArray), .string (⟨#[]⟩ : ByteArray), .string (⟨#[]⟩ : ByteArray), .string (⟨#[]⟩ : ByteArray), .string (⟨#[]⟩ : ByteArray), .string (⟨#[]⟩ : ByteArray), .string (⟨#[]⟩ : ByteArray), .string (⟨#[]⟩ : ByteArray), .string (⟨#[]⟩ : ByteArray)]) ?_ 1 _ rfl; (with_reducible repeat (first | refine kN ?_ _ | refine kD ?_ | refine kA ?_ _)); refine blk_put (cs:=#[.int .u8 0, .int .u8 0, .int .u8 0, .int .u8 0, .int .u8 0, .string (⟨#[]⟩ : ByteArray), .string (⟨#[]⟩ : ByteArray), .string (⟨#[]⟩ : ByteArray), .string (⟨#[]⟩ : ByteArray), .string (⟨#[]⟩ : ByteArray), .string (⟨#[]⟩ : ByteArray), .string (⟨#[]⟩ : ByteArray), .string (⟨#[]⟩ : ByteArray), .string (⟨#[]⟩ : ByteArray), .string (⟨#[]⟩ : ByteArray)]) ?_ 0 _ rfl; (with_reducible repeat (first | refine kN ?_ _ | refine kD ?_ | refine kA ?_ _)); exact BK321.out) hb); have n2_:=Aside0.mk (below_step (by repeat (first | (with_reducible first | exact HB.out | apply bA | apply bN | apply bD | refine below_set ?_ GE321.out) | exact HB.out)) hb); clear BK321; clear HB; have HO325:=n0_; have BK321:=n1_; have HB:=n2_; clear n0_ n1_ n2_; (try clear hb); (try clear ho0)) | ((with_reducible refine gate_callee (f:=4) rfl ?_); refine goesL_ (some 32) rfl rfl Tryd.func4 (by kernel_rfl) rfl #[] rfl (by (try simp only [List.map_toArray,List.map_cons,List.map_nil]); first | done | rfl | (simp only [List.length_drop,List.length_take]; rfl)) ?_; (with_reducible refine (lamplighterlaw11_alive.calls k  true _ A61.out (glob_below HGLOB.out (by repeat (first | (with_reducible first | exact HB.out | apply bA | apply bN | apply bD | refine below_set ?_ GE321.out) | exact HB.out))) (globc_below HGLOC.out (by repeat (first | (with_reducible first | exact HB.out | apply bA | apply bN | apply bD | refine below_set ?_ GE321.out) | exact HB.out))) (globe_below HGLOE.out (by repeat (first | (with_reducible first | exact HB.out | apply bA | apply bN | apply bD | refine below_set ?_ GE321.out) | exact HB.out)))).mono ?_); rintro e w76 ⟨rfl,hb⟩; refine ⟨_,rfl,?_⟩; have n0_:=Aside0.mk (Kd.R_below (by (with_reducible repeat (first | apply Kd.R_alloc | apply Kd.R_drewN | apply Kd.R_drew)); exact HO325.out) hb); have n1_:=Aside0.mk (blk_below (g:=gb321) (o := .cells #[.int .u8 t304, .int .u8 t305, .int .u8 t306, .int .u8 t307, .int .u8 t308, .string t309, .string t310, .string t311, .string t312, .string t313, .string t314, .string t315, .string t316, .string t317, .string t318] 27 (0,0)) (by (with_reducible repeat (first | refine kN ?_ _ | refine kD ?_ | refine kA ?_ _)); exact BK321.out) hb); have n2_:=Aside0.mk (below_step (by repeat (first | (with_reducible first | exact HB.out | apply bA | apply bN | apply bD | refine below_set ?_ GE321.out) | exact HB.out)) hb); clear HO325; clear BK321; clear HB; have HO325:=n0_; have BK321:=n1_; have HB:=n2_; clear n0_ n1_ n2_; (try clear hb); obtain ⟨Ao77,co77,eo77⟩:=Kd.R_slice HO325.out; subst eo77) | (go_at_call 7; (with_reducible refine (lamplighterref04_Good.calls k _ _ l0 t327 _ ?side1 ?side2 A71.out).mono ?_); (case side1=>repeat (first | exact (Kd.C_below HR0.out HB.out) | (with_reducible refine Kd.C_alloc ?_ _) | (with_reducible refine Kd.C_drewN ?_ _) | (with_reducible refine Kd.C_drew ?_))); (case side2=>exact HC0.out); rintro e w' ⟨rfl,⟨nd,rfl⟩⟩))
      go_ret
      exact ⟨by first | rfl | (simp [errW_none,errW_some] <;> rfl) | (simp [*,errW_none,errW_some] <;> rfl),by repeat (first | (with_reducible first | exact HB.out | apply bA | apply bN | apply bD | refine below_set ?_ GE321.out) | exact HB.out)⟩
    ·rw [if_neg c63] at H
     have c63b0 : ((t322.length : Int) == 0)=false:=beq_eq_false_iff_ne.mpr c63
     have c63b1 : ((t322.length : Int) != 0)=true:=bne_iff_ne.mpr c63
     have c63b2 : ¬ (t322=[]):=fun h_=>c63 (by rw [h_]; rfl)
     obtain rfl:=Option.some.inj H
     cases hrt
   ·replace c62:=Bool.eq_false_iff.mpr c62
    subst c62
    have H1 : (some false)=some r:=by rw [if_neg (show ¬ (false=true) by decide)] at H; exact H
    clear H
    have H:=H1
    clear H1
    obtain rfl:=Option.some.inj H
    cases hrt

end Go.Proofs.YtljdbphojcglgaaDoor.PF
