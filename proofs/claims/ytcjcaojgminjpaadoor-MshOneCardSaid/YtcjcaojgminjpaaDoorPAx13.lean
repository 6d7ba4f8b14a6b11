import Derived.Test.YtcjcaojgminjpaaDoorPAx0
import Derived.Test.YtcjcaojgminjpaaDoorPAx2
import Derived.Test.YtcjcaojgminjpaaDoorPAx6
import Derived.Test.YtcjcaojgminjpaaDoorPAx7
import Derived.Test.YtcjcaojgminjpaaDoorPAx8
import Derived.Test.YtcjcaojgminjpaaDoorPAx12
namespace Go.Proofs.YtcjcaojgminjpaaDoor.PA
open Go.RowKit Go.Proofs.YtcjcaojgminjpaaDoorW.PrintWords Go.Proofs.YtcjcaojgminjpaaDoorW.PrintLast Go.Proofs.YtcjcaojgminjpaaDoorW.PrintMore
set_option maxHeartbeats 8000000
set_option maxRecDepth 100000
attribute [local go_sem] max2_int min2_int max_two min_two max_three min_three max_four min_four
set_option linter.unusedVariables false
set_option linter.unusedSimpArgs false

attribute [local go_sem high] eqA25
/-! ### lamplighterlaw09_MshOne: function 9 -/
def lamplighterlaw09_MshOne.f (k : Nat) (l0 : List Int) : Option (Bool):=if (l0.length : Int) > 3000 then ((lamplighterlaw09_alive.f k).bind fun t209=>(some t209)) else ((msh_Read.f k l0).bind fun bt210=>(if bt210.2.2.2.2.2.2.2.2.2.2.2.2.2.2.2=0 then ((msh_Write.f k bt210.1 bt210.2.1 bt210.2.2.1 bt210.2.2.2.1 bt210.2.2.2.2.1 bt210.2.2.2.2.2.1 bt210.2.2.2.2.2.2.1 bt210.2.2.2.2.2.2.2.1 bt210.2.2.2.2.2.2.2.2.1 bt210.2.2.2.2.2.2.2.2.2.1 bt210.2.2.2.2.2.2.2.2.2.2.1 bt210.2.2.2.2.2.2.2.2.2.2.2.1 bt210.2.2.2.2.2.2.2.2.2.2.2.2.1 bt210.2.2.2.2.2.2.2.2.2.2.2.2.2.1 bt210.2.2.2.2.2.2.2.2.2.2.2.2.2.2.1).bind fun bt228=>(if bt228.1.size + 1≤9223372036854775807 then ((cv_str.f (bt228.1 ++ (⟨#[13]⟩ : ByteArray))).bind fun t230=>((msh_Read.f k t230).bind fun bt233=>((lamplighterlaw09_alive.f k).bind fun t251=>(if t251=true then (if bt228.2=0 then (if bt233.2.2.2.2.2.2.2.2.2.2.2.2.2.2.2=0 then (if ((bt233.1 == bt210.1 && (bt233.2.1 == bt210.2.1 && (bt233.2.2.1 == bt210.2.2.1 && (bt233.2.2.2.1 == bt210.2.2.2.1 && (bt233.2.2.2.2.1 == bt210.2.2.2.2.1))))) && (bt233.2.2.2.2.2.1.toList == bt210.2.2.2.2.2.1.toList && (bt233.2.2.2.2.2.2.1.toList == bt210.2.2.2.2.2.2.1.toList && (bt233.2.2.2.2.2.2.2.1.toList == bt210.2.2.2.2.2.2.2.1.toList && (bt233.2.2.2.2.2.2.2.2.1.toList == bt210.2.2.2.2.2.2.2.2.1.toList && (bt233.2.2.2.2.2.2.2.2.2.1.toList == bt210.2.2.2.2.2.2.2.2.2.1.toList && (bt233.2.2.2.2.2.2.2.2.2.2.1.toList == bt210.2.2.2.2.2.2.2.2.2.2.1.toList && (bt233.2.2.2.2.2.2.2.2.2.2.2.1.toList == bt210.2.2.2.2.2.2.2.2.2.2.2.1.toList && (bt233.2.2.2.2.2.2.2.2.2.2.2.2.1.toList == bt210.2.2.2.2.2.2.2.2.2.2.2.2.1.toList && (bt233.2.2.2.2.2.2.2.2.2.2.2.2.2.1.toList == bt210.2.2.2.2.2.2.2.2.2.2.2.2.2.1.toList && (bt233.2.2.2.2.2.2.2.2.2.2.2.2.2.2.1.toList == bt210.2.2.2.2.2.2.2.2.2.2.2.2.2.2.1.toList)))))))))))=true then ((msh_Check.f k bt210.1 bt210.2.1 bt210.2.2.1 bt210.2.2.2.1 bt210.2.2.2.2.1 (⟨#[]⟩ : ByteArray) (⟨#[]⟩ : ByteArray) (⟨#[]⟩ : ByteArray) (⟨#[]⟩ : ByteArray) (⟨#[]⟩ : ByteArray) (⟨#[]⟩ : ByteArray) bt210.2.2.2.2.2.2.2.2.2.2.2.1 bt210.2.2.2.2.2.2.2.2.2.2.2.2.1 bt210.2.2.2.2.2.2.2.2.2.2.2.2.2.1 bt210.2.2.2.2.2.2.2.2.2.2.2.2.2.2.1).bind fun t252=>((msh_Check.f k bt210.1 bt210.2.1 bt210.2.2.1 bt210.2.2.2.1 bt210.2.2.2.2.1 bt210.2.2.2.2.2.1 bt210.2.2.2.2.2.2.1 bt210.2.2.2.2.2.2.2.1 bt210.2.2.2.2.2.2.2.2.1 bt210.2.2.2.2.2.2.2.2.2.1 bt210.2.2.2.2.2.2.2.2.2.2.1 bt210.2.2.2.2.2.2.2.2.2.2.2.1 bt210.2.2.2.2.2.2.2.2.2.2.2.2.1 bt210.2.2.2.2.2.2.2.2.2.2.2.2.2.1 bt210.2.2.2.2.2.2.2.2.2.2.2.2.2.2.1).bind fun t253=>(some (t252 == t253)))) else (some false)) else (some false)) else (some false)) else (some false))))) else (none))) else ((lamplighterlaw09_alive.f k).bind fun t227=>(if t227=true then (some ((bt210.1 == 0 && (bt210.2.1 == 0 && (bt210.2.2.1 == 0 && (bt210.2.2.2.1 == 0 && (bt210.2.2.2.2.1 == 0))))) && (bt210.2.2.2.2.2.1.toList == ([] : List UInt8) && (bt210.2.2.2.2.2.2.1.toList == ([] : List UInt8) && (bt210.2.2.2.2.2.2.2.1.toList == ([] : List UInt8) && (bt210.2.2.2.2.2.2.2.2.1.toList == ([] : List UInt8) && (bt210.2.2.2.2.2.2.2.2.2.1.toList == ([] : List UInt8) && (bt210.2.2.2.2.2.2.2.2.2.2.1.toList == ([] : List UInt8) && (bt210.2.2.2.2.2.2.2.2.2.2.2.1.toList == ([] : List UInt8) && (bt210.2.2.2.2.2.2.2.2.2.2.2.2.1.toList == ([] : List UInt8) && (bt210.2.2.2.2.2.2.2.2.2.2.2.2.2.1.toList == ([] : List UInt8) && (bt210.2.2.2.2.2.2.2.2.2.2.2.2.2.2.1.toList == ([] : List UInt8))))))))))))) else (some false)))))
theorem lamplighterlaw09_MshOne.mono : ∀ a0 k,LeO (lamplighterlaw09_MshOne.f k a0) (lamplighterlaw09_MshOne.f (k + 1) a0):=by
 intro a0 k
 unfold lamplighterlaw09_MshOne.f
 repeat' first
   | (with_reducible exact lamplighterlaw09_alive.mono _)
   | (with_reducible exact msh_Check.mono _ _ _ _ _ _ _ _ _ _ _ _ _ _ _ _)
   | (with_reducible exact msh_Read.mono _ _)
   | (with_reducible exact msh_Write.mono _ _ _ _ _ _ _ _ _ _ _ _ _ _ _ _)
   | (with_reducible exact LeO.refl _)
   | (with_reducible exact LeO.none _)
   | (with_reducible refine LeO.ite ?_ ?_)
   | (with_reducible refine LeO.bind ?_ (fun _=>?_))
   | exact lamplighterlaw09_alive.mono _
   | exact msh_Check.mono _ _ _ _ _ _ _ _ _ _ _ _ _ _ _ _
   | exact msh_Read.mono _ _
   | exact msh_Write.mono _ _ _ _ _ _ _ _ _ _ _ _ _ _ _ _
   | exact LeO.none _
   | refine LeO.ite ?_ ?_
   | refine LeO.bind ?_ (fun _=>?_)
def lamplighterlaw09_MshOne.T9 : Bool × List (List Nat × List Nat):=(true,[([],[]),([0,0],[0]),([1],[1]),([2,1],[1,2]),([1,3],[1,3]),([4,1],[4]),([5],[5]),([6,5],[5,6]),([5,7],[5,7]),([8,5],[8]),([9],[9]),([9],[9]),([10,11,9],[9,10,11]),([9,12],[9,12]),([13,9],[13]),([14],[14]),([15,14,14],[14,15]),([14],[14]),([17,16,14],[14,17]),([16,18,14],[14,16,18]),([14,19],[14,19]),([20,18,0,1,2,3,4,5,6,7,8,9,10,11,12,13,14,15,16,17,18,19,20],[20])])
def lamplighterlaw09_MshOne.B9 : List Nat:=[0,1,3,7,15,31,63,127,255,511,1023,1023,4095,8191,16383,32767,65535,32767,262143,524287,1048575,2097151]
theorem lamplighterlaw09_MshOne.tab9 : rtab .any (opsOf Tryd.f9 9)=lamplighterlaw09_MshOne.T9:=by kernel_rfl
theorem lamplighterlaw09_MshOne.bits9 : waitsOk lamplighterlaw09_MshOne.T9.2 lamplighterlaw09_MshOne.B9=true:=by kernel_rfl
theorem lamplighterlaw09_MshOne.calls (k : Nat) (A0 : Option Addr) (c0 : Nat) (l0 : List Int) (r : Bool) (w : World) (hr0 : Kd.C (Kd.int .u8) w A0 l0.length l0) (hc0 : l0.length≤c0) (h : lamplighterlaw09_MshOne.f k l0=some r) (hrt : r=true) (hG : GlobOK w) :
  Calls Tryd.prog 9 #[.slice A0 l0.length c0] w fun e w'=>e = .returned (.bool r)∧Below w.heap.size w w':=by
 have HGLOB:=Lib.hid hG
 clear hG
 have hu25:=Tryd.underlying25
 have hu23:=Tryd.underlying23
 have HR0:=Aside0.mk hr0
 have HC0:=Aside0.mk hc0
 clear hr0 hc0
 have HB:=Aside0.mk (Below.refl w.heap.size w)
 have H : (if (l0.length : Int) > 3000 then ((lamplighterlaw09_alive.f k).bind fun t209=>(some t209)) else ((msh_Read.f k l0).bind fun bt210=>(if bt210.2.2.2.2.2.2.2.2.2.2.2.2.2.2.2=0 then ((msh_Write.f k bt210.1 bt210.2.1 bt210.2.2.1 bt210.2.2.2.1 bt210.2.2.2.2.1 bt210.2.2.2.2.2.1 bt210.2.2.2.2.2.2.1 bt210.2.2.2.2.2.2.2.1 bt210.2.2.2.2.2.2.2.2.1 bt210.2.2.2.2.2.2.2.2.2.1 bt210.2.2.2.2.2.2.2.2.2.2.1 bt210.2.2.2.2.2.2.2.2.2.2.2.1 bt210.2.2.2.2.2.2.2.2.2.2.2.2.1 bt210.2.2.2.2.2.2.2.2.2.2.2.2.2.1 bt210.2.2.2.2.2.2.2.2.2.2.2.2.2.2.1).bind fun bt228=>(if bt228.1.size + 1≤9223372036854775807 then ((cv_str.f (bt228.1 ++ (⟨#[13]⟩ : ByteArray))).bind fun t230=>((msh_Read.f k t230).bind fun bt233=>((lamplighterlaw09_alive.f k).bind fun t251=>(if t251=true then (if bt228.2=0 then (if bt233.2.2.2.2.2.2.2.2.2.2.2.2.2.2.2=0 then (if ((bt233.1 == bt210.1 && (bt233.2.1 == bt210.2.1 && (bt233.2.2.1 == bt210.2.2.1 && (bt233.2.2.2.1 == bt210.2.2.2.1 && (bt233.2.2.2.2.1 == bt210.2.2.2.2.1))))) && (bt233.2.2.2.2.2.1.toList == bt210.2.2.2.2.2.1.toList && (bt233.2.2.2.2.2.2.1.toList == bt210.2.2.2.2.2.2.1.toList && (bt233.2.2.2.2.2.2.2.1.toList == bt210.2.2.2.2.2.2.2.1.toList && (bt233.2.2.2.2.2.2.2.2.1.toList == bt210.2.2.2.2.2.2.2.2.1.toList && (bt233.2.2.2.2.2.2.2.2.2.1.toList == bt210.2.2.2.2.2.2.2.2.2.1.toList && (bt233.2.2.2.2.2.2.2.2.2.2.1.toList == bt210.2.2.2.2.2.2.2.2.2.2.1.toList && (bt233.2.2.2.2.2.2.2.2.2.2.2.1.toList == bt210.2.2.2.2.2.2.2.2.2.2.2.1.toList && (bt233.2.2.2.2.2.2.2.2.2.2.2.2.1.toList == bt210.2.2.2.2.2.2.2.2.2.2.2.2.1.toList && (bt233.2.2.2.2.2.2.2.2.2.2.2.2.2.1.toList == bt210.2.2.2.2.2.2.2.2.2.2.2.2.2.1.toList && (bt233.2.2.2.2.2.2.2.2.2.2.2.2.2.2.1.toList == bt210.2.2.2.2.2.2.2.2.2.2.2.2.2.2.1.toList)))))))))))=true then ((msh_Check.f k bt210.1 bt210.2.1 bt210.2.2.1 bt210.2.2.2.1 bt210.2.2.2.2.1 (⟨#[]⟩ : ByteArray) (⟨#[]⟩ : ByteArray) (⟨#[]⟩ : ByteArray) (⟨#[]⟩ : ByteArray) (⟨#[]⟩ : ByteArray) (⟨#[]⟩ : ByteArray) bt210.2.2.2.2.2.2.2.2.2.2.2.1 bt210.2.2.2.2.2.2.2.2.2.2.2.2.1 bt210.2.2.2.2.2.2.2.2.2.2.2.2.2.1 bt210.2.2.2.2.2.2.2.2.2.2.2.2.2.2.1).bind fun t252=>((msh_Check.f k bt210.1 bt210.2.1 bt210.2.2.1 bt210.2.2.2.1 bt210.2.2.2.2.1 bt210.2.2.2.2.2.1 bt210.2.2.2.2.2.2.1 bt210.2.2.2.2.2.2.2.1 bt210.2.2.2.2.2.2.2.2.1 bt210.2.2.2.2.2.2.2.2.2.1 bt210.2.2.2.2.2.2.2.2.2.2.1 bt210.2.2.2.2.2.2.2.2.2.2.2.1 bt210.2.2.2.2.2.2.2.2.2.2.2.2.1 bt210.2.2.2.2.2.2.2.2.2.2.2.2.2.1 bt210.2.2.2.2.2.2.2.2.2.2.2.2.2.2.1).bind fun t253=>(some (t252 == t253)))) else (some false)) else (some false)) else (some false)) else (some false))))) else (none))) else ((lamplighterlaw09_alive.f k).bind fun t227=>(if t227=true then (some ((bt210.1 == 0 && (bt210.2.1 == 0 && (bt210.2.2.1 == 0 && (bt210.2.2.2.1 == 0 && (bt210.2.2.2.2.1 == 0))))) && (bt210.2.2.2.2.2.1.toList == ([] : List UInt8) && (bt210.2.2.2.2.2.2.1.toList == ([] : List UInt8) && (bt210.2.2.2.2.2.2.2.1.toList == ([] : List UInt8) && (bt210.2.2.2.2.2.2.2.2.1.toList == ([] : List UInt8) && (bt210.2.2.2.2.2.2.2.2.2.1.toList == ([] : List UInt8) && (bt210.2.2.2.2.2.2.2.2.2.2.1.toList == ([] : List UInt8) && (bt210.2.2.2.2.2.2.2.2.2.2.2.1.toList == ([] : List UInt8) && (bt210.2.2.2.2.2.2.2.2.2.2.2.2.1.toList == ([] : List UInt8) && (bt210.2.2.2.2.2.2.2.2.2.2.2.2.2.1.toList == ([] : List UInt8) && (bt210.2.2.2.2.2.2.2.2.2.2.2.2.2.2.1.toList == ([] : List UInt8))))))))))))) else (some false))))))=some r:=h
 clear h
 by_cases c2 : (l0.length : Int) > 3000
 ·rw [if_pos c2] at H
  have c2b0:decide (3000 < (l0.length : Int))=true:=decide_eq_true c2
  have c2b1:decide (3000 < l0.length)=true:=decide_eq_true (by omega)
  clear c2
  replace H:=Option.bind_eq_some_iff.mp H
  obtain ⟨t209,A30,H⟩:=H
  replace H : (some t209)=some r:=H
  have A3:=Aside0.mk A30
  clear A30
  obtain rfl:=Option.some.inj H
  clear hrt
  go_enter Tryd.func9,Tryd.ntmps9
  go_wp2_with (first | ((with_reducible refine gate_callee (f:=17) rfl ?_); refine goesL_ (some 13) rfl rfl Tryd.func17 (by kernel_rfl) rfl #[] rfl (by (try simp only [List.map_toArray,List.map_cons,List.map_nil]); first | done | rfl | (simp only [List.length_drop,List.length_take]; rfl)) ?_; (with_reducible refine (lamplighterlaw09_alive.calls k  t209 _ A3.out (glob_below HGLOB.out (by repeat (first | (with_reducible first | exact HB.out | apply bA | apply bN | apply bD) | exact HB.out)))).mono ?_); rintro e w4 ⟨rfl,hb⟩; refine ⟨_,rfl,?_⟩; have n0_:=Aside0.mk (below_step (by repeat (first | (with_reducible first | exact HB.out | apply bA | apply bN | apply bD) | exact HB.out)) hb); clear HB; have HB:=n0_; clear n0_; (try clear hb)))
  go_ret
  exact ⟨by first | rfl | (simp [errW_none,errW_some] <;> rfl) | (simp [*,errW_none,errW_some] <;> rfl),by repeat (first | (with_reducible first | exact HB.out | apply bA | apply bN | apply bD) | exact HB.out)⟩
 ·rw [if_neg c2] at H
  have c2b0:decide (3000 < (l0.length : Int))=false:=decide_eq_false c2
  have c2b1:decide (3000 < l0.length)=false:=decide_eq_false (by omega)
  clear c2
  replace H:=Option.bind_eq_some_iff.mp H
  obtain ⟨⟨t210,t211,t212,t213,t214,t215,t216,t217,t218,t219,t220,t221,t222,t223,t224,t225⟩,A50,H⟩:=H
  replace H : (if t225=0 then ((msh_Write.f k t210 t211 t212 t213 t214 t215 t216 t217 t218 t219 t220 t221 t222 t223 t224).bind fun bt228=>(if bt228.1.size + 1≤9223372036854775807 then ((cv_str.f (bt228.1 ++ (⟨#[13]⟩ : ByteArray))).bind fun t230=>((msh_Read.f k t230).bind fun bt233=>((lamplighterlaw09_alive.f k).bind fun t251=>(if t251=true then (if bt228.2=0 then (if bt233.2.2.2.2.2.2.2.2.2.2.2.2.2.2.2=0 then (if ((bt233.1 == t210 && (bt233.2.1 == t211 && (bt233.2.2.1 == t212 && (bt233.2.2.2.1 == t213 && (bt233.2.2.2.2.1 == t214))))) && (bt233.2.2.2.2.2.1.toList == t215.toList && (bt233.2.2.2.2.2.2.1.toList == t216.toList && (bt233.2.2.2.2.2.2.2.1.toList == t217.toList && (bt233.2.2.2.2.2.2.2.2.1.toList == t218.toList && (bt233.2.2.2.2.2.2.2.2.2.1.toList == t219.toList && (bt233.2.2.2.2.2.2.2.2.2.2.1.toList == t220.toList && (bt233.2.2.2.2.2.2.2.2.2.2.2.1.toList == t221.toList && (bt233.2.2.2.2.2.2.2.2.2.2.2.2.1.toList == t222.toList && (bt233.2.2.2.2.2.2.2.2.2.2.2.2.2.1.toList == t223.toList && (bt233.2.2.2.2.2.2.2.2.2.2.2.2.2.2.1.toList == t224.toList)))))))))))=true then ((msh_Check.f k t210 t211 t212 t213 t214 (⟨#[]⟩ : ByteArray) (⟨#[]⟩ : ByteArray) (⟨#[]⟩ : ByteArray) (⟨#[]⟩ : ByteArray) (⟨#[]⟩ : ByteArray) (⟨#[]⟩ : ByteArray) t221 t222 t223 t224).bind fun t252=>((msh_Check.f k t210 t211 t212 t213 t214 t215 t216 t217 t218 t219 t220 t221 t222 t223 t224).bind fun t253=>(some (t252 == t253)))) else (some false)) else (some false)) else (some false)) else (some false))))) else (none))) else ((lamplighterlaw09_alive.f k).bind fun t227=>(if t227=true then (some ((t210 == 0 && (t211 == 0 && (t212 == 0 && (t213 == 0 && (t214 == 0))))) && (t215.toList == ([] : List UInt8) && (t216.toList == ([] : List UInt8) && (t217.toList == ([] : List UInt8) && (t218.toList == ([] : List UInt8) && (t219.toList == ([] : List UInt8) && (t220.toList == ([] : List UInt8) && (t221.toList == ([] : List UInt8) && (t222.toList == ([] : List UInt8) && (t223.toList == ([] : List UInt8) && (t224.toList == ([] : List UInt8))))))))))))) else (some false))))=some r:=H
  have A5:=Aside0.mk A50
  clear A50
  by_cases c6 : t225=0
  ·rw [if_pos c6] at H
   have c6b0 : (t225 == 0)=true:=beq_iff_eq.mpr c6
   have c6b1 : (t225 != 0)=false:=bne_eq_false_iff_eq.mpr c6
   clear c6
   replace H:=Option.bind_eq_some_iff.mp H
   obtain ⟨⟨t228,t229⟩,A70,H⟩:=H
   replace H : (if t228.size + 1≤9223372036854775807 then ((cv_str.f (t228 ++ (⟨#[13]⟩ : ByteArray))).bind fun t230=>((msh_Read.f k t230).bind fun bt233=>((lamplighterlaw09_alive.f k).bind fun t251=>(if t251=true then (if t229=0 then (if bt233.2.2.2.2.2.2.2.2.2.2.2.2.2.2.2=0 then (if ((bt233.1 == t210 && (bt233.2.1 == t211 && (bt233.2.2.1 == t212 && (bt233.2.2.2.1 == t213 && (bt233.2.2.2.2.1 == t214))))) && (bt233.2.2.2.2.2.1.toList == t215.toList && (bt233.2.2.2.2.2.2.1.toList == t216.toList && (bt233.2.2.2.2.2.2.2.1.toList == t217.toList && (bt233.2.2.2.2.2.2.2.2.1.toList == t218.toList && (bt233.2.2.2.2.2.2.2.2.2.1.toList == t219.toList && (bt233.2.2.2.2.2.2.2.2.2.2.1.toList == t220.toList && (bt233.2.2.2.2.2.2.2.2.2.2.2.1.toList == t221.toList && (bt233.2.2.2.2.2.2.2.2.2.2.2.2.1.toList == t222.toList && (bt233.2.2.2.2.2.2.2.2.2.2.2.2.2.1.toList == t223.toList && (bt233.2.2.2.2.2.2.2.2.2.2.2.2.2.2.1.toList == t224.toList)))))))))))=true then ((msh_Check.f k t210 t211 t212 t213 t214 (⟨#[]⟩ : ByteArray) (⟨#[]⟩ : ByteArray) (⟨#[]⟩ : ByteArray) (⟨#[]⟩ : ByteArray) (⟨#[]⟩ : ByteArray) (⟨#[]⟩ : ByteArray) t221 t222 t223 t224).bind fun t252=>((msh_Check.f k t210 t211 t212 t213 t214 t215 t216 t217 t218 t219 t220 t221 t222 t223 t224).bind fun t253=>(some (t252 == t253)))) else (some false)) else (some false)) else (some false)) else (some false))))) else (none))=some r:=H
   have A7:=Aside0.mk A70
   clear A70
   by_cases c8 : t228.size + 1≤9223372036854775807
   ·rw [if_pos c8] at H
    have c8b0:=eq_true c8
    have c8b1:decide (t228.size + 1≤9223372036854775807)=true:=decide_eq_true c8
    try have c8b2 : (9223372036854775807 < t228.size + 1)=False:=eq_false (Nat.not_lt.2 c8)
    try (have c8b4:=c8b2; simp only [ByteArray.size_append] at c8b4)
    replace H:=Option.bind_eq_some_iff.mp H
    obtain ⟨t230,A90,H⟩:=H
    replace H : ((msh_Read.f k t230).bind fun bt233=>((lamplighterlaw09_alive.f k).bind fun t251=>(if t251=true then (if t229=0 then (if bt233.2.2.2.2.2.2.2.2.2.2.2.2.2.2.2=0 then (if ((bt233.1 == t210 && (bt233.2.1 == t211 && (bt233.2.2.1 == t212 && (bt233.2.2.2.1 == t213 && (bt233.2.2.2.2.1 == t214))))) && (bt233.2.2.2.2.2.1.toList == t215.toList && (bt233.2.2.2.2.2.2.1.toList == t216.toList && (bt233.2.2.2.2.2.2.2.1.toList == t217.toList && (bt233.2.2.2.2.2.2.2.2.1.toList == t218.toList && (bt233.2.2.2.2.2.2.2.2.2.1.toList == t219.toList && (bt233.2.2.2.2.2.2.2.2.2.2.1.toList == t220.toList && (bt233.2.2.2.2.2.2.2.2.2.2.2.1.toList == t221.toList && (bt233.2.2.2.2.2.2.2.2.2.2.2.2.1.toList == t222.toList && (bt233.2.2.2.2.2.2.2.2.2.2.2.2.2.1.toList == t223.toList && (bt233.2.2.2.2.2.2.2.2.2.2.2.2.2.2.1.toList == t224.toList)))))))))))=true then ((msh_Check.f k t210 t211 t212 t213 t214 (⟨#[]⟩ : ByteArray) (⟨#[]⟩ : ByteArray) (⟨#[]⟩ : ByteArray) (⟨#[]⟩ : ByteArray) (⟨#[]⟩ : ByteArray) (⟨#[]⟩ : ByteArray) t221 t222 t223 t224).bind fun t252=>((msh_Check.f k t210 t211 t212 t213 t214 t215 t216 t217 t218 t219 t220 t221 t222 t223 t224).bind fun t253=>(some (t252 == t253)))) else (some false)) else (some false)) else (some false)) else (some false))))=some r:=H
    have A9:=Aside0.mk A90
    clear A90
    replace H:=Option.bind_eq_some_iff.mp H
    obtain ⟨⟨t233,t234,t235,t236,t237,t238,t239,t240,t241,t242,t243,t244,t245,t246,t247,t248⟩,A100,H⟩:=H
    replace H : ((lamplighterlaw09_alive.f k).bind fun t251=>(if t251=true then (if t229=0 then (if t248=0 then (if ((t233 == t210 && (t234 == t211 && (t235 == t212 && (t236 == t213 && (t237 == t214))))) && (t238.toList == t215.toList && (t239.toList == t216.toList && (t240.toList == t217.toList && (t241.toList == t218.toList && (t242.toList == t219.toList && (t243.toList == t220.toList && (t244.toList == t221.toList && (t245.toList == t222.toList && (t246.toList == t223.toList && (t247.toList == t224.toList)))))))))))=true then ((msh_Check.f k t210 t211 t212 t213 t214 (⟨#[]⟩ : ByteArray) (⟨#[]⟩ : ByteArray) (⟨#[]⟩ : ByteArray) (⟨#[]⟩ : ByteArray) (⟨#[]⟩ : ByteArray) (⟨#[]⟩ : ByteArray) t221 t222 t223 t224).bind fun t252=>((msh_Check.f k t210 t211 t212 t213 t214 t215 t216 t217 t218 t219 t220 t221 t222 t223 t224).bind fun t253=>(some (t252 == t253)))) else (some false)) else (some false)) else (some false)) else (some false)))=some r:=H
    have A10:=Aside0.mk A100
    clear A100
    replace H:=Option.bind_eq_some_iff.mp H
    obtain ⟨t251,A110,H⟩:=H
    replace H : (if t251=true then (if t229=0 then (if t248=0 then (if ((t233 == t210 && (t234 == t211 && (t235 == t212 && (t236 == t213 && (t237 == t214))))) && (t238.toList == t215.toList && (t239.toList == t216.toList && (t240.toList == t217.toList && (t241.toList == t218.toList && (t242.toList == t219.toList && (t243.toList == t220.toList && (t244.toList == t221.toList && (t245.toList == t222.toList && (t246.toList == t223.toList && (t247.toList == t224.toList)))))))))))=true then ((msh_Check.f k t210 t211 t212 t213 t214 (⟨#[]⟩ : ByteArray) (⟨#[]⟩ : ByteArray) (⟨#[]⟩ : ByteArray) (⟨#[]⟩ : ByteArray) (⟨#[]⟩ : ByteArray) (⟨#[]⟩ : ByteArray) t221 t222 t223 t224).bind fun t252=>((msh_Check.f k t210 t211 t212 t213 t214 t215 t216 t217 t218 t219 t220 t221 t222 t223 t224).bind fun t253=>(some (t252 == t253)))) else (some false)) else (some false)) else (some false)) else (some false))=some r:=H
    have A11:=Aside0.mk A110
    clear A110
    by_cases c12 : t251=true
    ·subst c12
     have H1 : (if t229=0 then (if t248=0 then (if ((t233 == t210 && (t234 == t211 && (t235 == t212 && (t236 == t213 && (t237 == t214))))) && (t238.toList == t215.toList && (t239.toList == t216.toList && (t240.toList == t217.toList && (t241.toList == t218.toList && (t242.toList == t219.toList && (t243.toList == t220.toList && (t244.toList == t221.toList && (t245.toList == t222.toList && (t246.toList == t223.toList && (t247.toList == t224.toList)))))))))))=true then ((msh_Check.f k t210 t211 t212 t213 t214 (⟨#[]⟩ : ByteArray) (⟨#[]⟩ : ByteArray) (⟨#[]⟩ : ByteArray) (⟨#[]⟩ : ByteArray) (⟨#[]⟩ : ByteArray) (⟨#[]⟩ : ByteArray) t221 t222 t223 t224).bind fun t252=>((msh_Check.f k t210 t211 t212 t213 t214 t215 t216 t217 t218 t219 t220 t221 t222 t223 t224).bind fun t253=>(some (t252 == t253)))) else (some false)) else (some false)) else (some false))=some r:=by rw [if_pos rfl] at H; exact H
     clear H
     have H:=H1
     clear H1
     by_cases c13 : t229=0
     ·rw [if_pos c13] at H
      have c13b0 : (t229 == 0)=true:=beq_iff_eq.mpr c13
      have c13b1 : (t229 != 0)=false:=bne_eq_false_iff_eq.mpr c13
      clear c13
      by_cases c14 : t248=0
      ·rw [if_pos c14] at H
       have c14b0 : (t248 == 0)=true:=beq_iff_eq.mpr c14
       have c14b1 : (t248 != 0)=false:=bne_eq_false_iff_eq.mpr c14
       clear c14
       by_cases c15 : ((t233 == t210 && (t234 == t211 && (t235 == t212 && (t236 == t213 && (t237 == t214))))) && (t238.toList == t215.toList && (t239.toList == t216.toList && (t240.toList == t217.toList && (t241.toList == t218.toList && (t242.toList == t219.toList && (t243.toList == t220.toList && (t244.toList == t221.toList && (t245.toList == t222.toList && (t246.toList == t223.toList && (t247.toList == t224.toList)))))))))))=true
       ·rw [if_pos c15] at H
        have c15b0 : ((t233 == t210 && (t234 == t211 && (t235 == t212 && (t236 == t213 && (t237 == t214))))) && (t238.toList == t215.toList && (t239.toList == t216.toList && (t240.toList == t217.toList && (t241.toList == t218.toList && (t242.toList == t219.toList && (t243.toList == t220.toList && (t244.toList == t221.toList && (t245.toList == t222.toList && (t246.toList == t223.toList && (t247.toList == t224.toList)))))))))))=true:=c15
        clear c15
        replace H:=Option.bind_eq_some_iff.mp H
        obtain ⟨t252,A160,H⟩:=H
        replace H : ((msh_Check.f k t210 t211 t212 t213 t214 t215 t216 t217 t218 t219 t220 t221 t222 t223 t224).bind fun t253=>(some (t252 == t253)))=some r:=H
        have A16:=Aside0.mk A160
        clear A160
        replace H:=Option.bind_eq_some_iff.mp H
        obtain ⟨t253,A170,H⟩:=H
        replace H : (some (t252 == t253))=some r:=H
        have A17:=Aside0.mk A170
        clear A170
        obtain rfl:=Option.some.inj H
        clear hrt
        go_enter Tryd.func9,Tryd.ntmps9
        go_wp2_with fail
        refine (msh_Read.calls k A0 c0 l0 t210 t211 t212 t213 t214 t215 t216 t217 t218 t219 t220 t221 t222 t223 t224 t225 _ (Kd.C_below HR0.out (by repeat (first | exact HB.out | apply below_alloc | apply pw_below_drewN | apply below_drew1))) HC0.out A5.out).mono ?_
        rintro e wa ⟨rfl,hb⟩
        have HB1:=Aside0.mk (below_step (by repeat (first | exact HB.out | apply below_alloc | apply pw_below_drewN | apply below_drew1)) hb)
        clear HB hb
        have HB:=HB1
        clear HB1
        go_wp2_with fail
        have Z1:=Aside0.mk (heap_new wa (.cells #[.int .u8 t210, .int .u8 t211, .int .u8 t212, .int .u8 t213, .int .u8 t214, .string t215, .string t216, .string t217, .string t218, .string t219, .string t220, .string t221, .string t222, .string t223, .string t224] 25))
        have HB1:=Aside0.mk (HB.out.alloc HB.out.size (.cells #[.int .u8 t210, .int .u8 t211, .int .u8 t212, .int .u8 t213, .int .u8 t214, .string t215, .string t216, .string t217, .string t218, .string t219, .string t220, .string t221, .string t222, .string t223, .string t224] 25))
        clear HB
        have HB:=HB1
        clear HB1
        refine (msh_Write.calls k t210 t211 t212 t213 t214 t215 t216 t217 t218 t219 t220 t221 t222 t223 t224 t228 t229 _ A7.out).mono ?_
        rintro e wb ⟨rfl,hb⟩
        have Z2:=Aside0.mk (blk_below Z1.out hb)
        have HB1:=Aside0.mk (below_step HB.out hb)
        clear HB hb Z1
        have HB:=HB1
        clear HB1
        go_wp2_with (first | ((with_reducible refine gate_dst (N:=35) rfl ?_); refine goesStr_ rfl rfl rfl rfl ?_; (with_reducible refine (cv_str.calls (t228 ++ (⟨#[13]⟩ : ByteArray)) t230 _ A9.out).mono ?_); rintro e wc ⟨v231,rfl,ho0,hb⟩; refine ⟨_,rfl,?_⟩; have HV:=Aside0.mk ho0; have Z3:=Aside0.mk (blk_below Z2.out hb); have HB1:=Aside0.mk (below_step HB.out hb); clear HB hb Z2 ho0; have HB:=HB1; clear HB1; obtain ⟨Ao,co,eo⟩:=Kd.V_slice HV.out; subst eo) | fail)
        refine (msh_Read.calls k Ao co t230 t233 t234 t235 t236 t237 t238 t239 t240 t241 t242 t243 t244 t245 t246 t247 t248 _ (Kd.V_reads' HV.out).2.2 (Kd.V_reads' HV.out).2.1 A10.out).mono ?_
        rintro e wd ⟨rfl,hb⟩
        have HV4:=Aside0.mk (Kd.V_below HV.out hb)
        have Z4:=Aside0.mk (blk_below Z3.out hb)
        have HB1:=Aside0.mk (below_step HB.out hb)
        clear HB hb Z3 HV
        have HB:=HB1
        clear HB1
        have s4:=blk_lt Z4.out
        have e0:=blk_cell Z4.out 0
        have e1:=blk_cell Z4.out 1
        have e2:=blk_cell Z4.out 2
        have e3:=blk_cell Z4.out 3
        have e4:=blk_cell Z4.out 4
        have e5:=blk_cell Z4.out 5
        have e6:=blk_cell Z4.out 6
        have e7:=blk_cell Z4.out 7
        have e8:=blk_cell Z4.out 8
        have e9:=blk_cell Z4.out 9
        have e10:=blk_cell Z4.out 10
        have e11:=blk_cell Z4.out 11
        have e12:=blk_cell Z4.out 12
        have e13:=blk_cell Z4.out 13
        have e14:=blk_cell Z4.out 14
        simp only [List.getElem?_toArray,List.getElem?_cons_zero,List.getElem?_cons_succ] at e0 e1 e2 e3 e4 e5 e6 e7 e8 e9 e10 e11 e12 e13 e14
        go_wp2_with fail
        clear s4 e0 e1 e2 e3 e4 e5 e6 e7 e8 e9 e10 e11 e12 e13 e14
        have BK226:=Aside0.mk (heap_old (.cells #[.int .u8 t210, .int .u8 t211, .int .u8 t212, .int .u8 t213, .int .u8 t214, .string (⟨#[]⟩ : ByteArray), .string (⟨#[]⟩ : ByteArray), .string (⟨#[]⟩ : ByteArray), .string (⟨#[]⟩ : ByteArray), .string (⟨#[]⟩ : ByteArray), .string (⟨#[]⟩ : ByteArray), .string t221, .string t222, .string t223, .string t224] 25) (heap_old (.cells #[.int .u8 t233, .int .u8 t234, .int .u8 t235, .int .u8 t236, .int .u8 t237, .string t238, .string t239, .string t240, .string t241, .string t242, .string t243, .string t244, .string t245, .string t246, .string t247] 25) Z4.out))
        have BK249:=Aside0.mk (heap_old (.cells #[.int .u8 t210, .int .u8 t211, .int .u8 t212, .int .u8 t213, .int .u8 t214, .string (⟨#[]⟩ : ByteArray), .string (⟨#[]⟩ : ByteArray), .string (⟨#[]⟩ : ByteArray), .string (⟨#[]⟩ : ByteArray), .string (⟨#[]⟩ : ByteArray), .string (⟨#[]⟩ : ByteArray), .string t221, .string t222, .string t223, .string t224] 25) (heap_new wd (.cells #[.int .u8 t233, .int .u8 t234, .int .u8 t235, .int .u8 t236, .int .u8 t237, .string t238, .string t239, .string t240, .string t241, .string t242, .string t243, .string t244, .string t245, .string t246, .string t247] 25)))
        have h250:=heap_new (wd.alloc (.cells #[.int .u8 t233, .int .u8 t234, .int .u8 t235, .int .u8 t236, .int .u8 t237, .string t238, .string t239, .string t240, .string t241, .string t242, .string t243, .string t244, .string t245, .string t246, .string t247] 25)) (.cells #[.int .u8 t210, .int .u8 t211, .int .u8 t212, .int .u8 t213, .int .u8 t214, .string (⟨#[]⟩ : ByteArray), .string (⟨#[]⟩ : ByteArray), .string (⟨#[]⟩ : ByteArray), .string (⟨#[]⟩ : ByteArray), .string (⟨#[]⟩ : ByteArray), .string (⟨#[]⟩ : ByteArray), .string t221, .string t222, .string t223, .string t224] 25)
        rw [World.size_alloc] at h250
        have BK250:=Aside0.mk h250
        have HO232:=Aside0.mk (Kd.V_below (Kd.V_below HV4.out ((Below.refl _ wd).alloc (Nat.le_refl _) (.cells #[.int .u8 t233, .int .u8 t234, .int .u8 t235, .int .u8 t236, .int .u8 t237, .string t238, .string t239, .string t240, .string t241, .string t242, .string t243, .string t244, .string t245, .string t246, .string t247] 25))) ((Below.refl _ (wd.alloc (.cells #[.int .u8 t233, .int .u8 t234, .int .u8 t235, .int .u8 t236, .int .u8 t237, .string t238, .string t239, .string t240, .string t241, .string t242, .string t243, .string t244, .string t245, .string t246, .string t247] 25))).alloc (Nat.le_refl _) (.cells #[.int .u8 t210, .int .u8 t211, .int .u8 t212, .int .u8 t213, .int .u8 t214, .string (⟨#[]⟩ : ByteArray), .string (⟨#[]⟩ : ByteArray), .string (⟨#[]⟩ : ByteArray), .string (⟨#[]⟩ : ByteArray), .string (⟨#[]⟩ : ByteArray), .string (⟨#[]⟩ : ByteArray), .string t221, .string t222, .string t223, .string t224] 25)))
        have HB1:=HB.out.alloc HB.out.size (.cells #[.int .u8 t233, .int .u8 t234, .int .u8 t235, .int .u8 t236, .int .u8 t237, .string t238, .string t239, .string t240, .string t241, .string t242, .string t243, .string t244, .string t245, .string t246, .string t247] 25)
        have HB2:=Aside0.mk (HB1.alloc HB1.size (.cells #[.int .u8 t210, .int .u8 t211, .int .u8 t212, .int .u8 t213, .int .u8 t214, .string (⟨#[]⟩ : ByteArray), .string (⟨#[]⟩ : ByteArray), .string (⟨#[]⟩ : ByteArray), .string (⟨#[]⟩ : ByteArray), .string (⟨#[]⟩ : ByteArray), .string (⟨#[]⟩ : ByteArray), .string t221, .string t222, .string t223, .string t224] 25))
        clear h250 HV4 Z4 HB HB1
        have HB:=HB2
        clear HB2
        generalize ((wd.alloc (.cells #[.int .u8 t233, .int .u8 t234, .int .u8 t235, .int .u8 t236, .int .u8 t237, .string t238, .string t239, .string t240, .string t241, .string t242, .string t243, .string t244, .string t245, .string t246, .string t247] 25)).alloc (.cells #[.int .u8 t210, .int .u8 t211, .int .u8 t212, .int .u8 t213, .int .u8 t214, .string (⟨#[]⟩ : ByteArray), .string (⟨#[]⟩ : ByteArray), .string (⟨#[]⟩ : ByteArray), .string (⟨#[]⟩ : ByteArray), .string (⟨#[]⟩ : ByteArray), .string (⟨#[]⟩ : ByteArray), .string t221, .string t222, .string t223, .string t224] 25))=w33 at HO232 BK226 BK249 BK250 HB ⊢
        generalize wd.heap.size + 1=gb250 at BK250 ⊢
        generalize wd.heap.size=gb249 at BK249 ⊢
        generalize wa.heap.size=gb226 at BK226 ⊢
        have n0_:=Aside0.mk (Kd.V_drew HO232.out)
        have n1_:=Aside0.mk (blk_drew BK226.out)
        have n2_:=Aside0.mk (blk_drew BK249.out)
        have n3_:=Aside0.mk (blk_drew BK250.out)
        have n4_:=Aside0.mk (below_drew1 HB.out)
        clear HO232
        clear BK226
        clear BK249
        clear BK250
        clear HB
        have HO232:=n0_
        have BK226:=n1_
        have BK249:=n2_
        have BK250:=n3_
        have HB:=n4_
        clear n0_ n1_ n2_ n3_ n4_
        as_aux_lemma =>
          refine start_ (n:=22) (S:=fun w'=>w'.cell? ⟨gb249,0,none⟩=some (.int .u8 t233)∧w'.cell? ⟨gb249,1,none⟩=some (.int .u8 t234)∧w'.cell? ⟨gb249,2,none⟩=some (.int .u8 t235)∧w'.cell? ⟨gb249,3,none⟩=some (.int .u8 t236)∧w'.cell? ⟨gb249,4,none⟩=some (.int .u8 t237)∧w'.cell? ⟨gb249,5,none⟩=some (.string t238)∧w'.cell? ⟨gb249,6,none⟩=some (.string t239)∧w'.cell? ⟨gb249,7,none⟩=some (.string t240)∧w'.cell? ⟨gb249,8,none⟩=some (.string t241)∧w'.cell? ⟨gb249,9,none⟩=some (.string t242)∧w'.cell? ⟨gb249,10,none⟩=some (.string t243)∧w'.cell? ⟨gb249,11,none⟩=some (.string t244)∧w'.cell? ⟨gb249,12,none⟩=some (.string t245)∧w'.cell? ⟨gb249,13,none⟩=some (.string t246)∧w'.cell? ⟨gb249,14,none⟩=some (.string t247)∧w'.cell? ⟨gb226,0,none⟩=some (.int .u8 t210)∧w'.cell? ⟨gb226,1,none⟩=some (.int .u8 t211)∧w'.cell? ⟨gb226,2,none⟩=some (.int .u8 t212)∧w'.cell? ⟨gb226,3,none⟩=some (.int .u8 t213)∧w'.cell? ⟨gb226,4,none⟩=some (.int .u8 t214)∧w'.cell? ⟨gb226,5,none⟩=some (.string t215)∧w'.cell? ⟨gb226,6,none⟩=some (.string t216)∧w'.cell? ⟨gb226,7,none⟩=some (.string t217)∧w'.cell? ⟨gb226,8,none⟩=some (.string t218)∧w'.cell? ⟨gb226,9,none⟩=some (.string t219)∧w'.cell? ⟨gb226,10,none⟩=some (.string t220)∧w'.cell? ⟨gb226,11,none⟩=some (.string t221)∧w'.cell? ⟨gb226,12,none⟩=some (.string t222)∧w'.cell? ⟨gb226,13,none⟩=some (.string t223)∧w'.cell? ⟨gb226,14,none⟩=some (.string t224)∧w'.cell? ⟨gb250,0,none⟩=some (.int .u8 t210)∧w'.cell? ⟨gb250,1,none⟩=some (.int .u8 t211)∧w'.cell? ⟨gb250,2,none⟩=some (.int .u8 t212)∧w'.cell? ⟨gb250,3,none⟩=some (.int .u8 t213)∧w'.cell? ⟨gb250,4,none⟩=some (.int .u8 t214)∧w'.cell? ⟨gb250,5,none⟩=some (.string (⟨#[]⟩ : ByteArray))∧w'.cell? ⟨gb250,6,none⟩=some (.string (⟨#[]⟩ : ByteArray))∧w'.cell? ⟨gb250,7,none⟩=some (.string (⟨#[]⟩ : ByteArray))∧w'.cell? ⟨gb250,8,none⟩=some (.string (⟨#[]⟩ : ByteArray))∧w'.cell? ⟨gb250,9,none⟩=some (.string (⟨#[]⟩ : ByteArray))∧w'.cell? ⟨gb250,10,none⟩=some (.string (⟨#[]⟩ : ByteArray))∧w'.cell? ⟨gb250,11,none⟩=some (.string t221)∧w'.cell? ⟨gb250,12,none⟩=some (.string t222)∧w'.cell? ⟨gb250,13,none⟩=some (.string t223)∧w'.cell? ⟨gb250,14,none⟩=some (.string t224)) (ds:=[]) #[false,false,false,false,false,false,false,false,false,false,false,false,false,false,false,false,false,false,false,false,false,false] (by kernel_rfl) rfl rfl ⟨blk_cell BK249.out 0,blk_cell BK249.out 1,blk_cell BK249.out 2,blk_cell BK249.out 3,blk_cell BK249.out 4,blk_cell BK249.out 5,blk_cell BK249.out 6,blk_cell BK249.out 7,blk_cell BK249.out 8,blk_cell BK249.out 9,blk_cell BK249.out 10,blk_cell BK249.out 11,blk_cell BK249.out 12,blk_cell BK249.out 13,blk_cell BK249.out 14,blk_cell BK226.out 0,blk_cell BK226.out 1,blk_cell BK226.out 2,blk_cell BK226.out 3,blk_cell BK226.out 4,blk_cell BK226.out 5,blk_cell BK226.out 6,blk_cell BK226.out 7,blk_cell BK226.out 8,blk_cell BK226.out 9,blk_cell BK226.out 10,blk_cell BK226.out 11,blk_cell BK226.out 12,blk_cell BK226.out 13,blk_cell BK226.out 14,blk_cell BK250.out 0,blk_cell BK250.out 1,blk_cell BK250.out 2,blk_cell BK250.out 3,blk_cell BK250.out 4,blk_cell BK250.out 5,blk_cell BK250.out 6,blk_cell BK250.out 7,blk_cell BK250.out 8,blk_cell BK250.out 9,blk_cell BK250.out 10,blk_cell BK250.out 11,blk_cell BK250.out 12,blk_cell BK250.out 13,blk_cell BK250.out 14⟩ (fun hHeld=>?_); refine with_tabW lamplighterlaw09_MshOne.tab9 lamplighterlaw09_MshOne.bits9 (fun HT_ HW_=>?_)
          generalize w33.drew=w34 at HO232 BK226 BK249 BK250 HB hHeld ⊢
          refine one_ (i:=0) (N:=some 50) #[true,false,false,false,false,false,false,false,false,false,false,false,false,false,false,false,false,false,false,false,false,false] rfl rfl (one_of HT_.out (by kernel_rfl)) (by decide) (fun K hK=>?_)
          refine goes_ Tryd.func17 (by kernel_rfl) rfl #[] (by rfl) rfl rfl (by (try simp only [List.map_toArray,List.map_cons,List.map_nil]); first | done | rfl | (simp only [List.length_drop,List.length_take]; rfl)) ?_
          with_reducible refine (lamplighterlaw09_alive.calls k  true _ A11.out (glob_below HGLOB.out (by repeat (first | (with_reducible first | exact HB.out | apply bA | apply bN | apply bD | refine below_set ?_ GE226.out | refine below_set ?_ GE249.out | refine below_set ?_ GE250.out) | exact HB.out)))).mono ?_
          rintro e w35 ⟨rfl,hb⟩
          refine ⟨_,rfl,?_⟩
          have n0_:=Aside0.mk (Kd.V_below (by (with_reducible repeat (first | apply Kd.V_alloc | apply Kd.V_drewN | apply Kd.V_drew)); exact HO232.out) hb)
          have n1_:=Aside0.mk (blk_below (g:=gb226) (o := .cells #[.int .u8 t210, .int .u8 t211, .int .u8 t212, .int .u8 t213, .int .u8 t214, .string t215, .string t216, .string t217, .string t218, .string t219, .string t220, .string t221, .string t222, .string t223, .string t224] 25 (0,0)) (by (with_reducible repeat (first | refine kN ?_ _ | refine kD ?_ | refine kA ?_ _)); exact BK226.out) hb)
          have n2_:=Aside0.mk (blk_below (g:=gb249) (o := .cells #[.int .u8 t233, .int .u8 t234, .int .u8 t235, .int .u8 t236, .int .u8 t237, .string t238, .string t239, .string t240, .string t241, .string t242, .string t243, .string t244, .string t245, .string t246, .string t247] 25 (0,0)) (by (with_reducible repeat (first | refine kN ?_ _ | refine kD ?_ | refine kA ?_ _)); exact BK249.out) hb)
          have n3_:=Aside0.mk (blk_below (g:=gb250) (o := .cells #[.int .u8 t210, .int .u8 t211, .int .u8 t212, .int .u8 t213, .int .u8 t214, .string (⟨#[]⟩ : ByteArray), .string (⟨#[]⟩ : ByteArray), .string (⟨#[]⟩ : ByteArray), .string (⟨#[]⟩ : ByteArray), .string (⟨#[]⟩ : ByteArray), .string (⟨#[]⟩ : ByteArray), .string t221, .string t222, .string t223, .string t224] 25 (0,0)) (by (with_reducible repeat (first | refine kN ?_ _ | refine kD ?_ | refine kA ?_ _)); exact BK250.out) hb)
          have n4_:=Aside0.mk (below_step (by repeat (first | (with_reducible first | exact HB.out | apply bA | apply bN | apply bD | refine below_set ?_ GE226.out | refine below_set ?_ GE249.out | refine below_set ?_ GE250.out) | exact HB.out)) hb)
          clear HO232
          clear BK226
          clear BK249
          clear BK250
          clear HB
          have HO232:=n0_
          have BK226:=n1_
          have BK249:=n2_
          have BK250:=n3_
          have HB:=n4_
          clear n0_ n1_ n2_ n3_ n4_
          (try clear hb)
          (try clear hb2)
          (try clear hk)
          (try clear hi)
          refine hK.out _ _ ⟨blk_cell BK249.out 0,blk_cell BK249.out 1,blk_cell BK249.out 2,blk_cell BK249.out 3,blk_cell BK249.out 4,blk_cell BK249.out 5,blk_cell BK249.out 6,blk_cell BK249.out 7,blk_cell BK249.out 8,blk_cell BK249.out 9,blk_cell BK249.out 10,blk_cell BK249.out 11,blk_cell BK249.out 12,blk_cell BK249.out 13,blk_cell BK249.out 14,blk_cell BK226.out 0,blk_cell BK226.out 1,blk_cell BK226.out 2,blk_cell BK226.out 3,blk_cell BK226.out 4,blk_cell BK226.out 5,blk_cell BK226.out 6,blk_cell BK226.out 7,blk_cell BK226.out 8,blk_cell BK226.out 9,blk_cell BK226.out 10,blk_cell BK226.out 11,blk_cell BK226.out 12,blk_cell BK226.out 13,blk_cell BK226.out 14,blk_cell BK250.out 0,blk_cell BK250.out 1,blk_cell BK250.out 2,blk_cell BK250.out 3,blk_cell BK250.out 4,blk_cell BK250.out 5,blk_cell BK250.out 6,blk_cell BK250.out 7,blk_cell BK250.out 8,blk_cell BK250.out 9,blk_cell BK250.out 10,blk_cell BK250.out 11,blk_cell BK250.out 12,blk_cell BK250.out 13,blk_cell BK250.out 14⟩ (fun hHeld=>?_)
          clear hK K
          refine norm_ (a':=?_) ?_ ?_
          rotate_left
          ·show Act.put _ (some 50) _=_
           simp only [Act.put,sA_,s0_,s1_,i64_w,i32_w]
           rfl
          refine pure_ (i:=1) (N:=some 51) (v:=?_) (a':=?_) #[true,true,false,false,false,false,false,false,false,false,false,false,false,false,false,false,false,false,false,false,false,false] rfl rfl (any_of HT_.out (by kernel_rfl)) (fun _ _ _ h=>h) (Or.inl ⟨by rfl,?_⟩) ?_ ?_
          rotate_left
          ·intro w'
           go_simp
           with_reducible rfl
          rotate_left
          ·simp only [Act.put,sA_,s0_,s1_,i64_w,i32_w]
           rfl
          refine pure_ (i:=2) (N:=some 52) (v:=?_) (a':=?_) #[true,true,true,false,false,false,false,false,false,false,false,false,false,false,false,false,false,false,false,false,false,false] rfl rfl (any_of HT_.out (by kernel_rfl)) (fun _ _ _ h=>h) (Or.inl ⟨by rfl,?_⟩) ?_ ?_
          rotate_left
          ·intro w'
           go_simp
           with_reducible rfl
          rotate_left
          ·simp only [Act.put,sA_,s0_,s1_,i64_w,i32_w]
           rfl
          refine pure_ (i:=3) (N:=some 53) (v:=?_) (a':=?_) #[true,true,true,true,false,false,false,false,false,false,false,false,false,false,false,false,false,false,false,false,false,false] rfl rfl (any_of HT_.out (by kernel_rfl)) (fun _ _ _ h=>h) (Or.inl ⟨by rfl,?_⟩) ?_ ?_
          rotate_left
          ·intro w'
           go_simp
           with_reducible rfl
          rotate_left
          ·simp only [Act.put,sA_,s0_,s1_,i64_w,i32_w]
           rfl
          refine pure_ (i:=4) (N:=some 54) (v:=?_) (a':=?_) #[true,true,true,true,true,false,false,false,false,false,false,false,false,false,false,false,false,false,false,false,false,false] rfl rfl (any_of HT_.out (by kernel_rfl)) (fun _ _ _ h=>h) (Or.inl ⟨by rfl,?_⟩) ?_ ?_
          rotate_left
          ·intro w'
           go_simp
           with_reducible rfl
          rotate_left
          ·simp only [Act.put,sA_,s0_,s1_,i64_w,i32_w]
           rfl
          refine pure_ (i:=5) (N:=some 55) (v:=?_) (a':=?_) #[true,true,true,true,true,true,false,false,false,false,false,false,false,false,false,false,false,false,false,false,false,false] rfl rfl (any_of HT_.out (by kernel_rfl)) (fun _ _ _ h=>h) (Or.inl ⟨by rfl,?_⟩) ?_ ?_
          rotate_left
          ·intro w'
           go_simp
           with_reducible rfl
          rotate_left
          ·simp only [Act.put,sA_,s0_,s1_,i64_w,i32_w]
           rfl
          refine pure_ (i:=6) (N:=some 56) (v:=?_) (a':=?_) #[true,true,true,true,true,true,true,false,false,false,false,false,false,false,false,false,false,false,false,false,false,false] rfl rfl (any_of HT_.out (by kernel_rfl)) (fun _ _ _ h=>h) (Or.inl ⟨by rfl,?_⟩) ?_ ?_
          rotate_left
          ·intro w'
           go_simp
           with_reducible rfl
          rotate_left
          ·simp only [Act.put,sA_,s0_,s1_,i64_w,i32_w]
           rfl
          refine pure_ (i:=7) (N:=some 57) (v:=?_) (a':=?_) #[true,true,true,true,true,true,true,true,false,false,false,false,false,false,false,false,false,false,false,false,false,false] rfl rfl (any_of HT_.out (by kernel_rfl)) (fun _ _ _ h=>h) (Or.inl ⟨by rfl,?_⟩) ?_ ?_
          rotate_left
          ·intro w'
           go_simp
           with_reducible rfl
          rotate_left
          ·simp only [Act.put,sA_,s0_,s1_,i64_w,i32_w]
           rfl
          refine pure_ (i:=8) (N:=some 58) (v:=?_) (a':=?_) #[true,true,true,true,true,true,true,true,true,false,false,false,false,false,false,false,false,false,false,false,false,false] rfl rfl (any_of HT_.out (by kernel_rfl)) (fun _ _ _ h=>h) (Or.inl ⟨by rfl,?_⟩) ?_ ?_
          rotate_left
          ·intro w'
           go_simp
           with_reducible rfl
          rotate_left
          ·simp only [Act.put,sA_,s0_,s1_,i64_w,i32_w]
           rfl
          refine pure_ (i:=9) (N:=some 59) (v:=?_) (a':=?_) #[true,true,true,true,true,true,true,true,true,true,false,false,false,false,false,false,false,false,false,false,false,false] rfl rfl (any_of HT_.out (by kernel_rfl)) (fun _ _ _ h=>h) (Or.inl ⟨by rfl,?_⟩) ?_ ?_
          rotate_left
          ·intro w'
           go_simp
           with_reducible rfl
          rotate_left
          ·simp only [Act.put,sA_,s0_,s1_,i64_w,i32_w]
           rfl
          refine take_ (i:=10) (N:=some 60) (v:=?_) (a':=?_) #[true,true,true,true,true,true,true,true,true,true,true,false,false,false,false,false,false,false,false,false,false,false] rfl rfl (take_ofW HT_.out HW_.out (by kernel_rfl)) (fun _ _ _ h=>h) (Or.inl ⟨by rfl,?_⟩) hHeld ?_ ?_
          rotate_left
          ·rintro w' ⟨s0,s1,s2,s3,s4,s5,s6,s7,s8,s9,s10,s11,s12,s13,s14,s15,s16,s17,s18,s19,s20,s21,s22,s23,s24,s25,s26,s27,s28,s29,s30,s31,s32,s33,s34,s35,s36,s37,s38,s39,s40,s41,s42,s43,s44⟩
           go_simp
           with_reducible rfl
          rotate_left
          ·simp only [Act.put,sA_,s0_,s1_,i64_w,i32_w]
           rfl
          refine take_ (i:=11) (N:=some 61) (v:=?_) (a':=?_) #[true,true,true,true,true,true,true,true,true,true,true,true,false,false,false,false,false,false,false,false,false,false] rfl rfl (take_ofW HT_.out HW_.out (by kernel_rfl)) (fun _ _ _ h=>h) (Or.inl ⟨by rfl,?_⟩) hHeld ?_ ?_
          rotate_left
          ·rintro w' ⟨s0,s1,s2,s3,s4,s5,s6,s7,s8,s9,s10,s11,s12,s13,s14,s15,s16,s17,s18,s19,s20,s21,s22,s23,s24,s25,s26,s27,s28,s29,s30,s31,s32,s33,s34,s35,s36,s37,s38,s39,s40,s41,s42,s43,s44⟩
           go_simp
           with_reducible rfl
          rotate_left
          ·simp only [Act.put,sA_,s0_,s1_,i64_w,i32_w]
           rfl
          refine pure_ (i:=12) (N:=some 62) (v:=?_) (a':=?_) #[true,true,true,true,true,true,true,true,true,true,true,true,true,false,false,false,false,false,false,false,false,false] rfl rfl (any_of HT_.out (by kernel_rfl)) (fun _ _ _ h=>h) (Or.inl ⟨by rfl,?_⟩) ?_ ?_
          rotate_left
          ·intro w'
           go_simp
           with_reducible rfl
          rotate_left
          ·simp only [Act.put,sA_,s0_,s1_,i64_w,i32_w]
           rfl
          refine pure_ (i:=13) (N:=some 63) (v:=?_) (a':=?_) #[true,true,true,true,true,true,true,true,true,true,true,true,true,true,false,false,false,false,false,false,false,false] rfl rfl (any_of HT_.out (by kernel_rfl)) (fun _ _ _ h=>h) (Or.inl ⟨by rfl,?_⟩) ?_ ?_
          rotate_left
          ·intro w'
           go_simp
           with_reducible rfl
          rotate_left
          ·simp only [Act.put,sA_,s0_,s1_,i64_w,i32_w]
           rfl
          refine pure_ (i:=14) (N:=some 64) (v:=?_) (a':=?_) #[true,true,true,true,true,true,true,true,true,true,true,true,true,true,true,false,false,false,false,false,false,false] rfl rfl (any_of HT_.out (by kernel_rfl)) (fun _ _ _ h=>h) (Or.inl ⟨by rfl,?_⟩) ?_ ?_
          rotate_left
          ·intro w'
           go_simp
           with_reducible rfl
          rotate_left
          ·simp only [Act.put,sA_,s0_,s1_,i64_w,i32_w]
           rfl
          refine take_ (i:=15) (N:=some 65) (v:=?_) (a':=?_) #[true,true,true,true,true,true,true,true,true,true,true,true,true,true,true,true,false,false,false,false,false,false] rfl rfl (take_ofW HT_.out HW_.out (by kernel_rfl)) (fun _ _ _ h=>h) (Or.inl ⟨by rfl,?_⟩) hHeld ?_ ?_
          rotate_left
          ·rintro w' ⟨s0,s1,s2,s3,s4,s5,s6,s7,s8,s9,s10,s11,s12,s13,s14,s15,s16,s17,s18,s19,s20,s21,s22,s23,s24,s25,s26,s27,s28,s29,s30,s31,s32,s33,s34,s35,s36,s37,s38,s39,s40,s41,s42,s43,s44⟩
           go_simp
           with_reducible rfl
          rotate_left
          ·simp only [Act.put,sA_,s0_,s1_,i64_w,i32_w]
           rfl
          refine take_ (i:=17) (N:=some 67) (v:=?_) (a':=?_) #[true,true,true,true,true,true,true,true,true,true,true,true,true,true,true,true,false,true,false,false,false,false] rfl rfl (take_ofW HT_.out HW_.out (by kernel_rfl)) (fun _ _ _ h=>h) (Or.inl ⟨by rfl,?_⟩) hHeld ?_ ?_
          rotate_left
          ·rintro w' ⟨s0,s1,s2,s3,s4,s5,s6,s7,s8,s9,s10,s11,s12,s13,s14,s15,s16,s17,s18,s19,s20,s21,s22,s23,s24,s25,s26,s27,s28,s29,s30,s31,s32,s33,s34,s35,s36,s37,s38,s39,s40,s41,s42,s43,s44⟩
           go_simp
           with_reducible rfl
          rotate_left
          ·simp only [Act.put,sA_,s0_,s1_,i64_w,i32_w]
           rfl
          refine one_ (i:=16) (N:=some 66) #[true,true,true,true,true,true,true,true,true,true,true,true,true,true,true,true,true,true,false,false,false,false] rfl rfl (one_of HT_.out (by kernel_rfl)) (by decide) (fun K hK=>?_)
          refine goes_ Tryd.func20 (by kernel_rfl) rfl #[.agg #[.int .u8 t210, .int .u8 t211, .int .u8 t212, .int .u8 t213, .int .u8 t214, .string (⟨#[]⟩ : ByteArray), .string (⟨#[]⟩ : ByteArray), .string (⟨#[]⟩ : ByteArray), .string (⟨#[]⟩ : ByteArray), .string (⟨#[]⟩ : ByteArray), .string (⟨#[]⟩ : ByteArray), .string t221, .string t222, .string t223, .string t224]] (by rfl) rfl rfl (by (try simp only [List.map_toArray,List.map_cons,List.map_nil]); first | done | rfl | (simp only [List.length_drop,List.length_take]; rfl)) ?_
          with_reducible refine (msh_Check.calls k t210 t211 t212 t213 t214 (⟨#[]⟩ : ByteArray) (⟨#[]⟩ : ByteArray) (⟨#[]⟩ : ByteArray) (⟨#[]⟩ : ByteArray) (⟨#[]⟩ : ByteArray) (⟨#[]⟩ : ByteArray) t221 t222 t223 t224 t252 _ A16.out (glob_below HGLOB.out (by repeat (first | (with_reducible first | exact HB.out | apply bA | apply bN | apply bD | refine below_set ?_ GE226.out | refine below_set ?_ GE249.out | refine below_set ?_ GE250.out) | exact HB.out)))).mono ?_
          rintro e w36 ⟨rfl,hb⟩
          refine ⟨_,rfl,?_⟩
          have n0_:=Aside0.mk (Kd.V_below (by (with_reducible repeat (first | apply Kd.V_alloc | apply Kd.V_drewN | apply Kd.V_drew)); exact HO232.out) hb)
          have n1_:=Aside0.mk (blk_below (g:=gb226) (o := .cells #[.int .u8 t210, .int .u8 t211, .int .u8 t212, .int .u8 t213, .int .u8 t214, .string t215, .string t216, .string t217, .string t218, .string t219, .string t220, .string t221, .string t222, .string t223, .string t224] 25 (0,0)) (by (with_reducible repeat (first | refine kN ?_ _ | refine kD ?_ | refine kA ?_ _)); exact BK226.out) hb)
          have n2_:=Aside0.mk (blk_below (g:=gb249) (o := .cells #[.int .u8 t233, .int .u8 t234, .int .u8 t235, .int .u8 t236, .int .u8 t237, .string t238, .string t239, .string t240, .string t241, .string t242, .string t243, .string t244, .string t245, .string t246, .string t247] 25 (0,0)) (by (with_reducible repeat (first | refine kN ?_ _ | refine kD ?_ | refine kA ?_ _)); exact BK249.out) hb)
          have n3_:=Aside0.mk (blk_below (g:=gb250) (o := .cells #[.int .u8 t210, .int .u8 t211, .int .u8 t212, .int .u8 t213, .int .u8 t214, .string (⟨#[]⟩ : ByteArray), .string (⟨#[]⟩ : ByteArray), .string (⟨#[]⟩ : ByteArray), .string (⟨#[]⟩ : ByteArray), .string (⟨#[]⟩ : ByteArray), .string (⟨#[]⟩ : ByteArray), .string t221, .string t222, .string t223, .string t224] 25 (0,0)) (by (with_reducible repeat (first | refine kN ?_ _ | refine kD ?_ | refine kA ?_ _)); exact BK250.out) hb)
          have n4_:=Aside0.mk (below_step (by repeat (first | (with_reducible first | exact HB.out | apply bA | apply bN | apply bD | refine below_set ?_ GE226.out | refine below_set ?_ GE249.out | refine below_set ?_ GE250.out) | exact HB.out)) hb)
          clear HO232
          clear BK226
          clear BK249
          clear BK250
          clear HB
          have HO232:=n0_
          have BK226:=n1_
          have BK249:=n2_
          have BK250:=n3_
          have HB:=n4_
          clear n0_ n1_ n2_ n3_ n4_
          (try clear hb)
          (try clear hb2)
          (try clear hk)
          (try clear hi)
          refine hK.out _ _ ⟨blk_cell BK249.out 0,blk_cell BK249.out 1,blk_cell BK249.out 2,blk_cell BK249.out 3,blk_cell BK249.out 4,blk_cell BK249.out 5,blk_cell BK249.out 6,blk_cell BK249.out 7,blk_cell BK249.out 8,blk_cell BK249.out 9,blk_cell BK249.out 10,blk_cell BK249.out 11,blk_cell BK249.out 12,blk_cell BK249.out 13,blk_cell BK249.out 14,blk_cell BK226.out 0,blk_cell BK226.out 1,blk_cell BK226.out 2,blk_cell BK226.out 3,blk_cell BK226.out 4,blk_cell BK226.out 5,blk_cell BK226.out 6,blk_cell BK226.out 7,blk_cell BK226.out 8,blk_cell BK226.out 9,blk_cell BK226.out 10,blk_cell BK226.out 11,blk_cell BK226.out 12,blk_cell BK226.out 13,blk_cell BK226.out 14,blk_cell BK250.out 0,blk_cell BK250.out 1,blk_cell BK250.out 2,blk_cell BK250.out 3,blk_cell BK250.out 4,blk_cell BK250.out 5,blk_cell BK250.out 6,blk_cell BK250.out 7,blk_cell BK250.out 8,blk_cell BK250.out 9,blk_cell BK250.out 10,blk_cell BK250.out 11,blk_cell BK250.out 12,blk_cell BK250.out 13,blk_cell BK250.out 14⟩ (fun hHeld=>?_)
          clear hK K
          refine norm_ (a':=?_) ?_ ?_
          rotate_left
          ·show Act.put _ (some 66) _=_
           simp only [Act.put,sA_,s0_,s1_,i64_w,i32_w]
           rfl
          refine one_ (i:=18) (N:=some 68) #[true,true,true,true,true,true,true,true,true,true,true,true,true,true,true,true,true,true,true,false,false,false] rfl rfl (one_of HT_.out (by kernel_rfl)) (by decide) (fun K hK=>?_)
          refine goes_ Tryd.func20 (by kernel_rfl) rfl #[.agg #[.int .u8 t210, .int .u8 t211, .int .u8 t212, .int .u8 t213, .int .u8 t214, .string t215, .string t216, .string t217, .string t218, .string t219, .string t220, .string t221, .string t222, .string t223, .string t224]] (by rfl) rfl rfl (by (try simp only [List.map_toArray,List.map_cons,List.map_nil]); first | done | rfl | (simp only [List.length_drop,List.length_take]; rfl)) ?_
          with_reducible refine (msh_Check.calls k t210 t211 t212 t213 t214 t215 t216 t217 t218 t219 t220 t221 t222 t223 t224 t253 _ A17.out (glob_below HGLOB.out (by repeat (first | (with_reducible first | exact HB.out | apply bA | apply bN | apply bD | refine below_set ?_ GE226.out | refine below_set ?_ GE249.out | refine below_set ?_ GE250.out) | exact HB.out)))).mono ?_
          rintro e w37 ⟨rfl,hb⟩
          refine ⟨_,rfl,?_⟩
          have n0_:=Aside0.mk (Kd.V_below (by (with_reducible repeat (first | apply Kd.V_alloc | apply Kd.V_drewN | apply Kd.V_drew)); exact HO232.out) hb)
          have n1_:=Aside0.mk (blk_below (g:=gb226) (o := .cells #[.int .u8 t210, .int .u8 t211, .int .u8 t212, .int .u8 t213, .int .u8 t214, .string t215, .string t216, .string t217, .string t218, .string t219, .string t220, .string t221, .string t222, .string t223, .string t224] 25 (0,0)) (by (with_reducible repeat (first | refine kN ?_ _ | refine kD ?_ | refine kA ?_ _)); exact BK226.out) hb)
          have n2_:=Aside0.mk (blk_below (g:=gb249) (o := .cells #[.int .u8 t233, .int .u8 t234, .int .u8 t235, .int .u8 t236, .int .u8 t237, .string t238, .string t239, .string t240, .string t241, .string t242, .string t243, .string t244, .string t245, .string t246, .string t247] 25 (0,0)) (by (with_reducible repeat (first | refine kN ?_ _ | refine kD ?_ | refine kA ?_ _)); exact BK249.out) hb)
          have n3_:=Aside0.mk (blk_below (g:=gb250) (o := .cells #[.int .u8 t210, .int .u8 t211, .int .u8 t212, .int .u8 t213, .int .u8 t214, .string (⟨#[]⟩ : ByteArray), .string (⟨#[]⟩ : ByteArray), .string (⟨#[]⟩ : ByteArray), .string (⟨#[]⟩ : ByteArray), .string (⟨#[]⟩ : ByteArray), .string (⟨#[]⟩ : ByteArray), .string t221, .string t222, .string t223, .string t224] 25 (0,0)) (by (with_reducible repeat (first | refine kN ?_ _ | refine kD ?_ | refine kA ?_ _)); exact BK250.out) hb)
          have n4_:=Aside0.mk (below_step (by repeat (first | (with_reducible first | exact HB.out | apply bA | apply bN | apply bD | refine below_set ?_ GE226.out | refine below_set ?_ GE249.out | refine below_set ?_ GE250.out) | exact HB.out)) hb)
          clear HO232
          clear BK226
          clear BK249
          clear BK250
          clear HB
          have HO232:=n0_
          have BK226:=n1_
          have BK249:=n2_
          have BK250:=n3_
          have HB:=n4_
          clear n0_ n1_ n2_ n3_ n4_
          (try clear hb)
          (try clear hb2)
          (try clear hk)
          (try clear hi)
          refine hK.out _ _ ⟨blk_cell BK249.out 0,blk_cell BK249.out 1,blk_cell BK249.out 2,blk_cell BK249.out 3,blk_cell BK249.out 4,blk_cell BK249.out 5,blk_cell BK249.out 6,blk_cell BK249.out 7,blk_cell BK249.out 8,blk_cell BK249.out 9,blk_cell BK249.out 10,blk_cell BK249.out 11,blk_cell BK249.out 12,blk_cell BK249.out 13,blk_cell BK249.out 14,blk_cell BK226.out 0,blk_cell BK226.out 1,blk_cell BK226.out 2,blk_cell BK226.out 3,blk_cell BK226.out 4,blk_cell BK226.out 5,blk_cell BK226.out 6,blk_cell BK226.out 7,blk_cell BK226.out 8,blk_cell BK226.out 9,blk_cell BK226.out 10,blk_cell BK226.out 11,blk_cell BK226.out 12,blk_cell BK226.out 13,blk_cell BK226.out 14,blk_cell BK250.out 0,blk_cell BK250.out 1,blk_cell BK250.out 2,blk_cell BK250.out 3,blk_cell BK250.out 4,blk_cell BK250.out 5,blk_cell BK250.out 6,blk_cell BK250.out 7,blk_cell BK250.out 8,blk_cell BK250.out 9,blk_cell BK250.out 10,blk_cell BK250.out 11,blk_cell BK250.out 12,blk_cell BK250.out 13,blk_cell BK250.out 14⟩ (fun hHeld=>?_)
          clear hK K
          refine norm_ (a':=?_) ?_ ?_
          rotate_left
          ·show Act.put _ (some 68) _=_
           simp only [Act.put,sA_,s0_,s1_,i64_w,i32_w]
           rfl
          refine pure_ (i:=19) (N:=some 69) (v:=?_) (a':=?_) #[true,true,true,true,true,true,true,true,true,true,true,true,true,true,true,true,true,true,true,true,false,false] rfl rfl (any_of HT_.out (by kernel_rfl)) (fun _ _ _ h=>h) (Or.inl ⟨by rfl,?_⟩) ?_ ?_
          rotate_left
          ·intro w'
           go_simp
           with_reducible rfl
          rotate_left
          ·simp only [Act.put,sA_,s0_,s1_,i64_w,i32_w]
           rfl
          refine pure_ (i:=20) (N:=some 70) (v:=?_) (a':=?_) #[true,true,true,true,true,true,true,true,true,true,true,true,true,true,true,true,true,true,true,true,true,false] rfl rfl (any_of HT_.out (by kernel_rfl)) (fun _ _ _ h=>h) (Or.inl ⟨by rfl,?_⟩) ?_ ?_
          rotate_left
          ·intro w'
           go_simp
           with_reducible rfl
          rotate_left
          ·simp only [Act.put,sA_,s0_,s1_,i64_w,i32_w]
           rfl
          refine pure_ (i:=21) (N:=some 2) (v:=?_) (a':=?_) #[true,true,true,true,true,true,true,true,true,true,true,true,true,true,true,true,true,true,true,true,true,true] rfl rfl (any_of HT_.out (by kernel_rfl)) (fun _ _ _ h=>h) (Or.inl ⟨by rfl,?_⟩) ?_ ?_
          rotate_left
          ·intro w'
           go_simp
           with_reducible rfl
          rotate_left
          ·simp only [Act.put,sA_,s0_,s1_,i64_w,i32_w]
           rfl
          refine done_ (done_of HT_.out (by kernel_rfl)) ?_
          try go_wp2
          go_ret
          exact ⟨by first | rfl | (simp [errW_none,errW_some] <;> rfl) | (simp [*,errW_none,errW_some] <;> rfl),by repeat (first | (with_reducible first | exact HB.out | apply bA | apply bN | apply bD | refine below_set ?_ GE226.out | refine below_set ?_ GE249.out | refine below_set ?_ GE250.out) | exact HB.out)⟩
       ·rw [if_neg c15] at H
        have c15b0 : ((t233 == t210 && (t234 == t211 && (t235 == t212 && (t236 == t213 && (t237 == t214))))) && (t238.toList == t215.toList && (t239.toList == t216.toList && (t240.toList == t217.toList && (t241.toList == t218.toList && (t242.toList == t219.toList && (t243.toList == t220.toList && (t244.toList == t221.toList && (t245.toList == t222.toList && (t246.toList == t223.toList && (t247.toList == t224.toList)))))))))))=false:=by simpa using c15
        clear c15
        obtain rfl:=Option.some.inj H
        cases hrt
      ·rw [if_neg c14] at H
       have c14b0 : (t248 == 0)=false:=beq_eq_false_iff_ne.mpr c14
       have c14b1 : (t248 != 0)=true:=bne_iff_ne.mpr c14
       obtain rfl:=Option.some.inj H
       cases hrt
     ·rw [if_neg c13] at H
      have c13b0 : (t229 == 0)=false:=beq_eq_false_iff_ne.mpr c13
      have c13b1 : (t229 != 0)=true:=bne_iff_ne.mpr c13
      obtain rfl:=Option.some.inj H
      cases hrt
    ·replace c12:=Bool.eq_false_iff.mpr c12
     subst c12
     have H1 : (some false)=some r:=by rw [if_neg (show ¬ (false=true) by decide)] at H; exact H
     clear H
     have H:=H1
     clear H1
     obtain rfl:=Option.some.inj H
     cases hrt
   ·rw [if_neg c8] at H
    exact absurd H (by simp)
  ·rw [if_neg c6] at H
   have c6b0 : (t225 == 0)=false:=beq_eq_false_iff_ne.mpr c6
   have c6b1 : (t225 != 0)=true:=bne_iff_ne.mpr c6
   replace H:=Option.bind_eq_some_iff.mp H
   obtain ⟨t227,A1100,H⟩:=H
   replace H : (if t227=true then (some ((t210 == 0 && (t211 == 0 && (t212 == 0 && (t213 == 0 && (t214 == 0))))) && (t215.toList == ([] : List UInt8) && (t216.toList == ([] : List UInt8) && (t217.toList == ([] : List UInt8) && (t218.toList == ([] : List UInt8) && (t219.toList == ([] : List UInt8) && (t220.toList == ([] : List UInt8) && (t221.toList == ([] : List UInt8) && (t222.toList == ([] : List UInt8) && (t223.toList == ([] : List UInt8) && (t224.toList == ([] : List UInt8))))))))))))) else (some false))=some r:=H
   have A110:=Aside0.mk A1100
   clear A1100
   by_cases c111 : t227=true
   ·subst c111
    have H1 : (some ((t210 == 0 && (t211 == 0 && (t212 == 0 && (t213 == 0 && (t214 == 0))))) && (t215.toList == ([] : List UInt8) && (t216.toList == ([] : List UInt8) && (t217.toList == ([] : List UInt8) && (t218.toList == ([] : List UInt8) && (t219.toList == ([] : List UInt8) && (t220.toList == ([] : List UInt8) && (t221.toList == ([] : List UInt8) && (t222.toList == ([] : List UInt8) && (t223.toList == ([] : List UInt8) && (t224.toList == ([] : List UInt8)))))))))))))=some r:=by rw [if_pos rfl] at H; exact H
    clear H
    have H:=H1
    clear H1
    obtain rfl:=Option.some.inj H
    clear hrt
    go_enter Tryd.func9,Tryd.ntmps9
    as_aux_lemma =>
      go_wp2_with fail
      refine (msh_Read.calls k A0 c0 l0 t210 t211 t212 t213 t214 t215 t216 t217 t218 t219 t220 t221 t222 t223 t224 t225 _ (Kd.C_below HR0.out (by repeat (first | exact HB.out | apply below_alloc | apply pw_below_drewN | apply below_drew1))) HC0.out A5.out).mono ?_
      rintro e wa ⟨rfl,hb⟩
      have HB1:=Aside0.mk (below_step (by repeat (first | exact HB.out | apply below_alloc | apply pw_below_drewN | apply below_drew1)) hb)
      clear HB hb
      have HB:=HB1
      clear HB1
      go_wp2_with fail
      have Z1:=Aside0.mk (heap_new wa (.cells #[.int .u8 t210, .int .u8 t211, .int .u8 t212, .int .u8 t213, .int .u8 t214, .string t215, .string t216, .string t217, .string t218, .string t219, .string t220, .string t221, .string t222, .string t223, .string t224] 25))
      have HB1:=Aside0.mk (HB.out.alloc HB.out.size (.cells #[.int .u8 t210, .int .u8 t211, .int .u8 t212, .int .u8 t213, .int .u8 t214, .string t215, .string t216, .string t217, .string t218, .string t219, .string t220, .string t221, .string t222, .string t223, .string t224] 25))
      clear HB
      have HB:=HB1
      clear HB1
      refine (lamplighterlaw09_alive.calls k true _ A110.out (glob_below HGLOB.out HB.out)).mono ?_
      rintro e wb ⟨rfl,hb⟩
      have Z4:=Aside0.mk (blk_below Z1.out hb)
      have HB1:=Aside0.mk (below_step HB.out hb)
      clear HB hb Z1
      have HB:=HB1
      clear HB1
      have e0:=blk_cell Z4.out 0
      have e1:=blk_cell Z4.out 1
      have e2:=blk_cell Z4.out 2
      have e3:=blk_cell Z4.out 3
      have e4:=blk_cell Z4.out 4
      have e5:=blk_cell Z4.out 5
      have e6:=blk_cell Z4.out 6
      have e7:=blk_cell Z4.out 7
      have e8:=blk_cell Z4.out 8
      have e9:=blk_cell Z4.out 9
      have e10:=blk_cell Z4.out 10
      have e11:=blk_cell Z4.out 11
      have e12:=blk_cell Z4.out 12
      have e13:=blk_cell Z4.out 13
      have e14:=blk_cell Z4.out 14
      simp only [List.getElem?_toArray,List.getElem?_cons_zero,List.getElem?_cons_succ] at e0 e1 e2 e3 e4 e5 e6 e7 e8 e9 e10 e11 e12 e13 e14
      go_wp2_with fail
      go_ret
      exact ⟨by first | rfl | (simp [errW_none,errW_some] <;> rfl) | (simp [*,errW_none,errW_some] <;> rfl),by repeat (first | (with_reducible first | exact HB.out | apply bA | apply bN | apply bD | refine below_set ?_ GE226.out) | exact HB.out)⟩
   ·replace c111:=Bool.eq_false_iff.mpr c111
    subst c111
    have H1 : (some false)=some r:=by rw [if_neg (show ¬ (false=true) by decide)] at H; exact H
    clear H
    have H:=H1
    clear H1
    obtain rfl:=Option.some.inj H
    cases hrt

end Go.Proofs.YtcjcaojgminjpaaDoor.PA
