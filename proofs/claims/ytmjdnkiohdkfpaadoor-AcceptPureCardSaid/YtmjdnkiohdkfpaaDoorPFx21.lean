import Derived.Test.YtmjdnkiohdkfpaaDoorPFx0
import Derived.Test.YtmjdnkiohdkfpaaDoorPFx15
import Derived.Test.YtmjdnkiohdkfpaaDoorPFx16
namespace Go.Proofs.YtmjdnkiohdkfpaaDoor.PF
open Go.RowKit Go.Proofs.YtmjdnkiohdkfpaaDoorW.PrintWords Go.Proofs.YtmjdnkiohdkfpaaDoorW.PrintLast Go.Proofs.YtmjdnkiohdkfpaaDoorW.PrintMore
set_option maxHeartbeats 8000000
set_option maxRecDepth 100000
attribute [local go_sem] max2_int min2_int max_two min_two max_three min_three max_four min_four
set_option linter.unusedVariables false
set_option linter.unusedSimpArgs false

/-! ### lamplighterlaw11_AcceptPure: function 4 -/
def lamplighterlaw11_AcceptPure.j0 : Nat→List Int→Int→Bool→Option (Bool)
 | 0,_,_,_=>none
 | k + 1,x0,x1,x19=>if x19=true then ((lamplighterlaw11_alive.f k).bind fun t395=>(some t395)) else ((some (([] : List Int) : List Int)).bind fun y396=>(if y396.length + x0.length < 140737488355328 then ((some (y396 ++ x0 : List Int)).bind fun y399=>((accept_Reply.f k y399 true).bind fun bt402=>(if (IntKind.u64.wrap ((y399.length : Int)))=0 then (none) else (if 0≤(wrap64 (Int.tmod (IntKind.u64.wrap (x1)) (IntKind.u64.wrap ((y399.length : Int))))) then (if (wrap64 (Int.tmod (IntKind.u64.wrap (x1)) (IntKind.u64.wrap ((y399.length : Int))))) < (y399.length : Int) then ((some (y399.set ((wrap64 (Int.tmod (IntKind.u64.wrap (x1)) (IntKind.u64.wrap ((y399.length : Int))))) : Int).toNat (Go.bits .xor .u8 (rd y399 (wrap64 (Int.tmod (IntKind.u64.wrap (x1)) (IntKind.u64.wrap ((y399.length : Int)))))) 1) : List Int)).bind fun y407=>((accept_Reply.f k y407 false).bind fun bt408=>((some (y407.set ((wrap64 (Int.tmod (IntKind.u64.wrap (x1)) (IntKind.u64.wrap ((y399.length : Int))))) : Int).toNat (Go.bits .xor .u8 (rd y407 (wrap64 (Int.tmod (IntKind.u64.wrap (x1)) (IntKind.u64.wrap ((y399.length : Int)))))) 1) : List Int)).bind fun y413=>((accept_Reply.f k y413 true).bind fun bt414=>((lamplighterlaw11_alive.f k).bind fun t418=>(if t418=true then (if (bt402.2 == bt414.2)=true then (if (strOfNums bt414.1).toList=(strOfNums bt402.1).toList then (if (strOfNums bt402.1).toList=(strOfNums bt402.1).toList then (some ((strOfNums y413).toList == (strOfNums x0).toList)) else (some false)) else (some false)) else (some false)) else (some false))))))) else (none)) else (none))))) else (none)))
def lamplighterlaw11_AcceptPure.f (k : Nat) (l0 : List Int) (a1 : Int) : Option (Bool):=if (l0.length : Int)=0 then (lamplighterlaw11_AcceptPure.j0 k l0 a1 true) else (lamplighterlaw11_AcceptPure.j0 k l0 a1 (decide ((l0.length : Int) > 2000)))
theorem lamplighterlaw11_AcceptPure.mono_l : ∀ k,(∀ y0 y1 y2,LeO (lamplighterlaw11_AcceptPure.j0 k y0 y1 y2) (lamplighterlaw11_AcceptPure.j0 (k + 1) y0 y1 y2))
 | 0=>fun _ _ _ r h=>by simp [lamplighterlaw11_AcceptPure.j0] at h
 | k + 1=>by
  have ih0:=lamplighterlaw11_AcceptPure.mono_l k
  ·intro y0 y1 y2
   unfold lamplighterlaw11_AcceptPure.j0
   repeat' first
   | (with_reducible exact ih0 _ _ _)
   | (with_reducible exact accept_Reply.mono _ _ _)
   | (with_reducible exact lamplighterlaw11_alive.mono _)
   | (with_reducible exact LeO.refl _)
   | (with_reducible exact LeO.none _)
   | (with_reducible refine LeO.ite ?_ ?_)
   | (with_reducible refine LeO.bind ?_ (fun _=>?_))
   | exact ih0 _ _ _
   | exact accept_Reply.mono _ _ _
   | exact lamplighterlaw11_alive.mono _
   | exact LeO.none _
   | refine LeO.ite ?_ ?_
   | refine LeO.bind ?_ (fun _=>?_)
theorem lamplighterlaw11_AcceptPure.mono : ∀ a0 a1 k,LeO (lamplighterlaw11_AcceptPure.f k a0 a1) (lamplighterlaw11_AcceptPure.f (k + 1) a0 a1):=by
 intro a0 a1 k
 have ih0:=lamplighterlaw11_AcceptPure.mono_l k
 unfold lamplighterlaw11_AcceptPure.f
 repeat' first
   | (with_reducible exact ih0 _ _ _)
   | (with_reducible exact accept_Reply.mono _ _ _)
   | (with_reducible exact lamplighterlaw11_alive.mono _)
   | (with_reducible exact LeO.refl _)
   | (with_reducible exact LeO.none _)
   | (with_reducible refine LeO.ite ?_ ?_)
   | (with_reducible refine LeO.bind ?_ (fun _=>?_))
   | exact ih0 _ _ _
   | exact accept_Reply.mono _ _ _
   | exact lamplighterlaw11_alive.mono _
   | exact LeO.none _
   | refine LeO.ite ?_ ?_
   | refine LeO.bind ?_ (fun _=>?_)
theorem lamplighterlaw11_AcceptPure.calls (k : Nat) (A0 : Option Addr) (c0 : Nat) (l0 : List Int) (a1 : Int) (r : Bool) (w : World) (hr0 : Kd.C (Kd.int .u8) w A0 l0.length l0) (hc0 : l0.length≤c0) (h : lamplighterlaw11_AcceptPure.f k l0 a1=some r) (hrt : r=true) (hG : GlobOK w) (hGC : GlobC w) (hGE : GlobE w) :
  Calls Tryd.prog 4 #[.slice A0 l0.length c0, .int .i64 a1] w fun e w'=>e = .returned (.bool r)∧Below w.heap.size w w':=by
 have HGLOB:=Lib.hid hG
 clear hG
 have HGLOC:=Lib.hid hGC
 clear hGC
 have HGLOE:=Lib.hid hGE
 clear hGE
 have HR0:=Aside0.mk hr0
 have HC0:=Aside0.mk hc0
 clear hr0 hc0
 have HB:=Aside0.mk (Below.refl w.heap.size w)
 have H : (if (l0.length : Int)=0 then (lamplighterlaw11_AcceptPure.j0 k l0 a1 true) else (lamplighterlaw11_AcceptPure.j0 k l0 a1 (decide ((l0.length : Int) > 2000))))=some r:=h
 clear h
 have HC3:=Aside0.mk H
 clear H
 go_enter Tryd.func4,Tryd.ntmps4
 go_upto_region 1 with (fail)
 go_cut [19] (fun v19 wc => ∃ (kq : Nat) (x19_2 : Bool),v19 = .bool x19_2∧Aside0 (lamplighterlaw11_AcceptPure.j0 kq l0 a1 x19_2=some r)∧Aside0 (kq≤k)∧Aside0 (Below w.heap.size w wc))
 case first =>
  have H:=HC3.out
  clear HC3
  by_cases c4 : (l0.length : Int)=0
  ·rw [if_pos c4] at H
   have c4b0 : ((l0.length : Int) == 0)=true:=beq_iff_eq.mpr c4
   have c4b1 : ((l0.length : Int) != 0)=false:=bne_eq_false_iff_eq.mpr c4
   clear c4
   (first | rw [c4b0] | (simp only [i64_w,i32_w]; rw [c4b0]) | skip)
   have H':=Aside0.mk H
   clear H
   go_wp2
   go_meet
   case rel=>exact ⟨_,(true),(by first | rfl | (simp; done) | (simp [*]; done)),H',⟨by first | omega | exact Nat.le_refl _⟩,⟨by repeat (first | (with_reducible first | exact HB.out | apply bA | apply bN | apply bD) | exact HB.out)⟩⟩
  ·rw [if_neg c4] at H
   have c4b0 : ((l0.length : Int) == 0)=false:=beq_eq_false_iff_ne.mpr c4
   have c4b1 : ((l0.length : Int) != 0)=true:=bne_iff_ne.mpr c4
   have c4b2 : ¬ (l0=[]):=fun h_=>c4 (by rw [h_]; rfl)
   (first | rw [c4b0] | (simp only [i64_w,i32_w]; rw [c4b0]) | skip)
   have H':=Aside0.mk H
   clear H
   go_wp2
   go_meet
   case rel=>exact ⟨_,(decide ((l0.length : Int) > 2000)),(by first | rfl | (simp; done) | (simp [*]; done)),H',⟨by first | omega | exact Nat.le_refl _⟩,⟨by repeat (first | (with_reducible first | exact HB.out | apply bA | apply bN | apply bD) | exact HB.out)⟩⟩
 case rest =>
  clear HC3
  try clear p2
  try clear c4
  try clear c4b0
  try clear c4b1
  try clear c4b2
  obtain ⟨kq,x19_2,rfl,HA,HJ2,HB⟩:=hcut
  cases kq with
  | zero=>exact absurd HA.out (by simp [lamplighterlaw11_AcceptPure.j0])
  | succ kj2 =>
   have H:=HA.out
   clear HA
   rw [lamplighterlaw11_AcceptPure.j0] at H
   by_cases c5 : x19_2=true
   ·subst c5
    have H1 : ((lamplighterlaw11_alive.f kj2).bind fun t395=>(some t395))=some r:=by rw [if_pos rfl] at H; exact H
    clear H
    have H:=H1
    clear H1
    replace H:=Option.bind_eq_some_iff.mp H
    obtain ⟨t395,A60,H⟩:=H
    replace H : (some t395)=some r:=H
    have A6:=Aside0.mk A60
    clear A60
    obtain rfl:=Option.some.inj H
    clear hrt
    go_wp2_with (first | ((with_reducible refine gate_callee (f:=9) rfl ?_); refine goesL_ (some 20) rfl rfl Tryd.func9 (by kernel_rfl) rfl #[] rfl (by (try simp only [List.map_toArray,List.map_cons,List.map_nil]); first | done | rfl | (simp only [List.length_drop,List.length_take]; rfl)) ?_; (with_reducible refine (lamplighterlaw11_alive.calls kj2  t395 _ A6.out (glob_below HGLOB.out (by repeat (first | (with_reducible first | exact HB.out | apply bA | apply bN | apply bD) | exact HB.out))) (globc_below HGLOC.out (by repeat (first | (with_reducible first | exact HB.out | apply bA | apply bN | apply bD) | exact HB.out))) (globe_below HGLOE.out (by repeat (first | (with_reducible first | exact HB.out | apply bA | apply bN | apply bD) | exact HB.out)))).mono ?_); rintro e w7 ⟨rfl,hb⟩; refine ⟨_,rfl,?_⟩; have n0_:=Aside0.mk (below_step (by repeat (first | (with_reducible first | exact HB.out | apply bA | apply bN | apply bD) | exact HB.out)) hb); clear HB; have HB:=n0_; clear n0_; (try clear hb)))
    go_ret
    exact ⟨by first | rfl | (simp [errW_none,errW_some] <;> rfl) | (simp [*,errW_none,errW_some] <;> rfl),by repeat (first | (with_reducible first | exact HB.out | apply bA | apply bN | apply bD) | exact HB.out)⟩
   ·replace c5:=Bool.eq_false_iff.mpr c5
    subst c5
    have H1 : ((some (([] : List Int) : List Int)).bind fun y396=>(if y396.length + l0.length < 140737488355328 then ((some (y396 ++ l0 : List Int)).bind fun y399=>((accept_Reply.f kj2 y399 true).bind fun bt402=>(if (IntKind.u64.wrap ((y399.length : Int)))=0 then (none) else (if 0≤(wrap64 (Int.tmod (IntKind.u64.wrap (a1)) (IntKind.u64.wrap ((y399.length : Int))))) then (if (wrap64 (Int.tmod (IntKind.u64.wrap (a1)) (IntKind.u64.wrap ((y399.length : Int))))) < (y399.length : Int) then ((some (y399.set ((wrap64 (Int.tmod (IntKind.u64.wrap (a1)) (IntKind.u64.wrap ((y399.length : Int))))) : Int).toNat (Go.bits .xor .u8 (rd y399 (wrap64 (Int.tmod (IntKind.u64.wrap (a1)) (IntKind.u64.wrap ((y399.length : Int)))))) 1) : List Int)).bind fun y407=>((accept_Reply.f kj2 y407 false).bind fun bt408=>((some (y407.set ((wrap64 (Int.tmod (IntKind.u64.wrap (a1)) (IntKind.u64.wrap ((y399.length : Int))))) : Int).toNat (Go.bits .xor .u8 (rd y407 (wrap64 (Int.tmod (IntKind.u64.wrap (a1)) (IntKind.u64.wrap ((y399.length : Int)))))) 1) : List Int)).bind fun y413=>((accept_Reply.f kj2 y413 true).bind fun bt414=>((lamplighterlaw11_alive.f kj2).bind fun t418=>(if t418=true then (if (bt402.2 == bt414.2)=true then (if (strOfNums bt414.1).toList=(strOfNums bt402.1).toList then (if (strOfNums bt402.1).toList=(strOfNums bt402.1).toList then (some ((strOfNums y413).toList == (strOfNums l0).toList)) else (some false)) else (some false)) else (some false)) else (some false))))))) else (none)) else (none))))) else (none)))=some r:=by rw [if_neg (show ¬ (false=true) by decide)] at H; exact H
    clear H
    have H:=H1
    clear H1
    obtain ⟨y396,hy396⟩ : ∃ y_ : List Int,y_=(([] : List Int)):=⟨_,rfl⟩
    replace H : (if y396.length + l0.length < 140737488355328 then ((some (y396 ++ l0 : List Int)).bind fun y399=>((accept_Reply.f kj2 y399 true).bind fun bt402=>(if (IntKind.u64.wrap ((y399.length : Int)))=0 then (none) else (if 0≤(wrap64 (Int.tmod (IntKind.u64.wrap (a1)) (IntKind.u64.wrap ((y399.length : Int))))) then (if (wrap64 (Int.tmod (IntKind.u64.wrap (a1)) (IntKind.u64.wrap ((y399.length : Int))))) < (y399.length : Int) then ((some (y399.set ((wrap64 (Int.tmod (IntKind.u64.wrap (a1)) (IntKind.u64.wrap ((y399.length : Int))))) : Int).toNat (Go.bits .xor .u8 (rd y399 (wrap64 (Int.tmod (IntKind.u64.wrap (a1)) (IntKind.u64.wrap ((y399.length : Int)))))) 1) : List Int)).bind fun y407=>((accept_Reply.f kj2 y407 false).bind fun bt408=>((some (y407.set ((wrap64 (Int.tmod (IntKind.u64.wrap (a1)) (IntKind.u64.wrap ((y399.length : Int))))) : Int).toNat (Go.bits .xor .u8 (rd y407 (wrap64 (Int.tmod (IntKind.u64.wrap (a1)) (IntKind.u64.wrap ((y399.length : Int)))))) 1) : List Int)).bind fun y413=>((accept_Reply.f kj2 y413 true).bind fun bt414=>((lamplighterlaw11_alive.f kj2).bind fun t418=>(if t418=true then (if (bt402.2 == bt414.2)=true then (if (strOfNums bt414.1).toList=(strOfNums bt402.1).toList then (if (strOfNums bt402.1).toList=(strOfNums bt402.1).toList then (some ((strOfNums y413).toList == (strOfNums l0).toList)) else (some false)) else (some false)) else (some false)) else (some false))))))) else (none)) else (none))))) else (none))=some r:=by first | (rw [hy396]; with_reducible exact H) | (have H2_:=(Option.bind_some _ _).symm.trans H; rw [hy396]; with_reducible exact H2_) | (have H2_:=(Option.bind_some _ _).symm.trans H; with_reducible exact H2_) | with_reducible exact H | (rw [hy396]; exact H) | exact H
    have Ny396:=Aside0.mk hy396
    clear hy396
    by_cases c8 : y396.length + l0.length < 140737488355328
    ·rw [if_pos c8] at H
     have LMc8:=Aside0.mk c8
     clear c8
     obtain ⟨y399,hy399⟩ : ∃ y_ : List Int,y_=(y396 ++ l0):=⟨_,rfl⟩
     replace H : ((accept_Reply.f kj2 y399 true).bind fun bt402=>(if (IntKind.u64.wrap ((y399.length : Int)))=0 then (none) else (if 0≤(wrap64 (Int.tmod (IntKind.u64.wrap (a1)) (IntKind.u64.wrap ((y399.length : Int))))) then (if (wrap64 (Int.tmod (IntKind.u64.wrap (a1)) (IntKind.u64.wrap ((y399.length : Int))))) < (y399.length : Int) then ((some (y399.set ((wrap64 (Int.tmod (IntKind.u64.wrap (a1)) (IntKind.u64.wrap ((y399.length : Int))))) : Int).toNat (Go.bits .xor .u8 (rd y399 (wrap64 (Int.tmod (IntKind.u64.wrap (a1)) (IntKind.u64.wrap ((y399.length : Int)))))) 1) : List Int)).bind fun y407=>((accept_Reply.f kj2 y407 false).bind fun bt408=>((some (y407.set ((wrap64 (Int.tmod (IntKind.u64.wrap (a1)) (IntKind.u64.wrap ((y399.length : Int))))) : Int).toNat (Go.bits .xor .u8 (rd y407 (wrap64 (Int.tmod (IntKind.u64.wrap (a1)) (IntKind.u64.wrap ((y399.length : Int)))))) 1) : List Int)).bind fun y413=>((accept_Reply.f kj2 y413 true).bind fun bt414=>((lamplighterlaw11_alive.f kj2).bind fun t418=>(if t418=true then (if (bt402.2 == bt414.2)=true then (if (strOfNums bt414.1).toList=(strOfNums bt402.1).toList then (if (strOfNums bt402.1).toList=(strOfNums bt402.1).toList then (some ((strOfNums y413).toList == (strOfNums l0).toList)) else (some false)) else (some false)) else (some false)) else (some false))))))) else (none)) else (none))))=some r:=by first | (rw [hy399]; with_reducible exact H) | (have H2_:=(Option.bind_some _ _).symm.trans H; rw [hy399]; with_reducible exact H2_) | (have H2_:=(Option.bind_some _ _).symm.trans H; with_reducible exact H2_) | with_reducible exact H | (rw [hy399]; exact H) | exact H
     have Ny399:=Aside0.mk hy399
     clear hy399
     replace H:=Option.bind_eq_some_iff.mp H
     obtain ⟨⟨t402,t403⟩,A90,H⟩:=H
     replace H : (if (IntKind.u64.wrap ((y399.length : Int)))=0 then (none) else (if 0≤(wrap64 (Int.tmod (IntKind.u64.wrap (a1)) (IntKind.u64.wrap ((y399.length : Int))))) then (if (wrap64 (Int.tmod (IntKind.u64.wrap (a1)) (IntKind.u64.wrap ((y399.length : Int))))) < (y399.length : Int) then ((some (y399.set ((wrap64 (Int.tmod (IntKind.u64.wrap (a1)) (IntKind.u64.wrap ((y399.length : Int))))) : Int).toNat (Go.bits .xor .u8 (rd y399 (wrap64 (Int.tmod (IntKind.u64.wrap (a1)) (IntKind.u64.wrap ((y399.length : Int)))))) 1) : List Int)).bind fun y407=>((accept_Reply.f kj2 y407 false).bind fun bt408=>((some (y407.set ((wrap64 (Int.tmod (IntKind.u64.wrap (a1)) (IntKind.u64.wrap ((y399.length : Int))))) : Int).toNat (Go.bits .xor .u8 (rd y407 (wrap64 (Int.tmod (IntKind.u64.wrap (a1)) (IntKind.u64.wrap ((y399.length : Int)))))) 1) : List Int)).bind fun y413=>((accept_Reply.f kj2 y413 true).bind fun bt414=>((lamplighterlaw11_alive.f kj2).bind fun t418=>(if t418=true then (if (t403 == bt414.2)=true then (if (strOfNums bt414.1).toList=(strOfNums t402).toList then (if (strOfNums t402).toList=(strOfNums t402).toList then (some ((strOfNums y413).toList == (strOfNums l0).toList)) else (some false)) else (some false)) else (some false)) else (some false))))))) else (none)) else (none)))=some r:=H
     have A9:=Aside0.mk A90
     clear A90
     by_cases c10 : (IntKind.u64.wrap ((y399.length : Int)))=0
     ·rw [if_pos c10] at H
      exact absurd H (by simp)
     ·rw [if_neg c10] at H
      have c10b0 : ((IntKind.u64.wrap ((y399.length : Int))) == 0)=false:=beq_eq_false_iff_ne.mpr c10
      have c10b1 : ((IntKind.u64.wrap ((y399.length : Int))) != 0)=true:=bne_iff_ne.mpr c10
      obtain ⟨ji11,hji11⟩ : ∃ j_ : Int,(wrap64 (Int.tmod (IntKind.u64.wrap (a1)) (IntKind.u64.wrap ((y399.length : Int)))))=j_:=⟨_,rfl⟩
      replace H : (if 0≤(ji11) then (if (ji11) < (y399.length : Int) then ((some (y399.set ((ji11) : Int).toNat (Go.bits .xor .u8 (rd y399 (ji11)) 1) : List Int)).bind fun y407=>((accept_Reply.f kj2 y407 false).bind fun bt408=>((some (y407.set ((ji11) : Int).toNat (Go.bits .xor .u8 (rd y407 (ji11)) 1) : List Int)).bind fun y413=>((accept_Reply.f kj2 y413 true).bind fun bt414=>((lamplighterlaw11_alive.f kj2).bind fun t418=>(if t418=true then (if (t403 == bt414.2)=true then (if (strOfNums bt414.1).toList=(strOfNums t402).toList then (if (strOfNums t402).toList=(strOfNums t402).toList then (some ((strOfNums y413).toList == (strOfNums l0).toList)) else (some false)) else (some false)) else (some false)) else (some false))))))) else (none)) else (none))=some r:=by first | (rw [hji11] at H; exact H) | (simp only [hji11] at H ⊢; exact H)
      (try rw [hji11] at A9)
      have hji11w : (IntKind.i64.wrap (Int.tmod (IntKind.u64.wrap (a1)) (IntKind.u64.wrap ((y399.length : Int)))))=ji11:=(i64_w _).trans hji11
      by_cases c12 : 0≤(ji11)
      ·rw [if_pos c12] at H
       have c12b0:decide (0≤(ji11))=true:=decide_eq_true c12
       clear c12
       by_cases c13 : (ji11) < (y399.length : Int)
       ·rw [if_pos c13] at H
        have c13b0:decide ((ji11) < (y399.length : Int))=true:=decide_eq_true c13
        clear c13
        obtain ⟨y407,hy407⟩ : ∃ y_ : List Int,y_=(y399.set ((ji11) : Int).toNat (Go.bits .xor .u8 (rd y399 (ji11)) 1)):=⟨_,rfl⟩
        replace H : ((accept_Reply.f kj2 y407 false).bind fun bt408=>((some (y407.set ((ji11) : Int).toNat (Go.bits .xor .u8 (rd y407 (ji11)) 1) : List Int)).bind fun y413=>((accept_Reply.f kj2 y413 true).bind fun bt414=>((lamplighterlaw11_alive.f kj2).bind fun t418=>(if t418=true then (if (t403 == bt414.2)=true then (if (strOfNums bt414.1).toList=(strOfNums t402).toList then (if (strOfNums t402).toList=(strOfNums t402).toList then (some ((strOfNums y413).toList == (strOfNums l0).toList)) else (some false)) else (some false)) else (some false)) else (some false))))))=some r:=by first | (rw [hy407]; with_reducible exact H) | (have H2_:=(Option.bind_some _ _).symm.trans H; rw [hy407]; with_reducible exact H2_) | (have H2_:=(Option.bind_some _ _).symm.trans H; with_reducible exact H2_) | with_reducible exact H | (rw [hy407]; exact H) | exact H
        have Ny407:=Aside0.mk hy407
        clear hy407
        replace H:=Option.bind_eq_some_iff.mp H
        obtain ⟨⟨t408,t409⟩,A150,H⟩:=H
        replace H : ((some (y407.set ((ji11) : Int).toNat (Go.bits .xor .u8 (rd y407 (ji11)) 1) : List Int)).bind fun y413=>((accept_Reply.f kj2 y413 true).bind fun bt414=>((lamplighterlaw11_alive.f kj2).bind fun t418=>(if t418=true then (if (t403 == bt414.2)=true then (if (strOfNums bt414.1).toList=(strOfNums t402).toList then (if (strOfNums t402).toList=(strOfNums t402).toList then (some ((strOfNums y413).toList == (strOfNums l0).toList)) else (some false)) else (some false)) else (some false)) else (some false)))))=some r:=H
        have A15:=Aside0.mk A150
        clear A150
        obtain ⟨y413,hy413⟩ : ∃ y_ : List Int,y_=(y407.set ((ji11) : Int).toNat (Go.bits .xor .u8 (rd y407 (ji11)) 1)):=⟨_,rfl⟩
        replace H : ((accept_Reply.f kj2 y413 true).bind fun bt414=>((lamplighterlaw11_alive.f kj2).bind fun t418=>(if t418=true then (if (t403 == bt414.2)=true then (if (strOfNums bt414.1).toList=(strOfNums t402).toList then (if (strOfNums t402).toList=(strOfNums t402).toList then (some ((strOfNums y413).toList == (strOfNums l0).toList)) else (some false)) else (some false)) else (some false)) else (some false))))=some r:=by first | (rw [hy413]; with_reducible exact H) | (have H2_:=(Option.bind_some _ _).symm.trans H; rw [hy413]; with_reducible exact H2_) | (have H2_:=(Option.bind_some _ _).symm.trans H; with_reducible exact H2_) | with_reducible exact H | (rw [hy413]; exact H) | exact H
        have Ny413:=Aside0.mk hy413
        clear hy413
        replace H:=Option.bind_eq_some_iff.mp H
        obtain ⟨⟨t414,t415⟩,A170,H⟩:=H
        replace H : ((lamplighterlaw11_alive.f kj2).bind fun t418=>(if t418=true then (if (t403 == t415)=true then (if (strOfNums t414).toList=(strOfNums t402).toList then (if (strOfNums t402).toList=(strOfNums t402).toList then (some ((strOfNums y413).toList == (strOfNums l0).toList)) else (some false)) else (some false)) else (some false)) else (some false)))=some r:=H
        have A17:=Aside0.mk A170
        clear A170
        replace H:=Option.bind_eq_some_iff.mp H
        obtain ⟨t418,A180,H⟩:=H
        replace H : (if t418=true then (if (t403 == t415)=true then (if (strOfNums t414).toList=(strOfNums t402).toList then (if (strOfNums t402).toList=(strOfNums t402).toList then (some ((strOfNums y413).toList == (strOfNums l0).toList)) else (some false)) else (some false)) else (some false)) else (some false))=some r:=H
        have A18:=Aside0.mk A180
        clear A180
        by_cases c19 : t418=true
        ·subst c19
         have H1 : (if (t403 == t415)=true then (if (strOfNums t414).toList=(strOfNums t402).toList then (if (strOfNums t402).toList=(strOfNums t402).toList then (some ((strOfNums y413).toList == (strOfNums l0).toList)) else (some false)) else (some false)) else (some false))=some r:=by rw [if_pos rfl] at H; exact H
         clear H
         have H:=H1
         clear H1
         by_cases c20 : (t403 == t415)=true
         ·rw [if_pos c20] at H
          have c20b0 : (t403 == t415)=true:=c20
          (try (have c20b1:decide (t403=t415)=true:=by simpa using c20))
          (try (have c20b2 : (t403 == t415)=true:=by simpa using c20))
          clear c20
          by_cases c21 : (strOfNums t414).toList=(strOfNums t402).toList
          ·rw [if_pos c21] at H
           have c21b0 : ((strOfNums t414).toList == (strOfNums t402).toList)=true:=beq_iff_eq.mpr c21
           have c21b1 : ((strOfNums t414).toList != (strOfNums t402).toList)=false:=bne_eq_false_iff_eq.mpr c21
           clear c21
           by_cases c22 : (strOfNums t402).toList=(strOfNums t402).toList
           ·rw [if_pos c22] at H
            have c22b0 : ((strOfNums t402).toList == (strOfNums t402).toList)=true:=beq_iff_eq.mpr c22
            have c22b1 : ((strOfNums t402).toList != (strOfNums t402).toList)=false:=bne_eq_false_iff_eq.mpr c22
            clear c22
            obtain rfl:=Option.some.inj H
            clear hrt
            go_wp2_with (first | ((with_reducible refine gate_dst (N:=21) rfl ?_); (try (refine gate_guard (by rfl) ?_; dsimp only)); refine Kd.R_lit (Kd.int .u8) _ 5 ?hg (N:=21) ?hd (xs:=([] : List Int)) (inner:=[]) (ok:=fun _=>True) (okp:=fun _=>True) ?hr ?hp (fun _ hk=>hk) trivial (Below.refl _ _) (Nat.le_refl _) (by simp) ?_; (case hd=>rfl); (case hg=>rfl); (case hr=>first | (go_simp; done) | (go_simp; rfl)); (case hp=>exact (Reps.none _ _)); intro v397 w23 ho24 hb hg_ hnew_; clear hg_ hnew_; (first | rw [← Ny396.out] at ho24 | (simp only [Int.reduceToNat] at ho24; rw [← Ny396.out] at ho24)); have n0_:=Aside0.mk (Kd.R_lower ho24 (below_size (by repeat (first | (with_reducible first | exact HB.out | apply bA | apply bN | apply bD) | exact HB.out)))); have n1_:=Aside0.mk (below_step (by repeat (first | (with_reducible first | exact HB.out | apply bA | apply bN | apply bD) | exact HB.out)) hb); clear HB; have HO398:=n0_; have HB:=n1_; clear n0_ n1_; clear hb ho24) | ((with_reducible refine gate_builtin (b := .append) (xs:=#[.tmp 21, .tmp 22]) rfl ?_); (try (refine gate_guard (by rfl) ?_; dsimp only)); at_builtin; refine Kd.R_append_rows (Kd.int .u8) (w0:=w) w.heap.size rfl (.tmp 21) (.tmp 22) 26 5 (.int .u8 0) 1 rfl Tryd.underlying26 info5 rfl (by decide) (by omega) v397 y396 l0 _ _ _ (fun _=>True) (fun _=>False) rfl rfl ?aO ?aR (fun _ _ h=>h) (fun _ h=>h.elim) ?aF ?aB ?aS ?aL ?_; (case aR=>repeat (first | exact (Kd.C_below HR0.out HB.out) | (with_reducible refine Kd.C_alloc ?_ _) | (with_reducible refine Kd.C_drewN ?_ _) | (with_reducible refine Kd.C_drew ?_))); (case aB=>exact (by repeat (first | (with_reducible first | exact HB.out | apply bA | apply bN | apply bD) | exact HB.out))); (case aF=>exact (fun _ _=>trivial)); (case aO=>exact (by (with_reducible repeat (first | apply Kd.R_alloc | apply Kd.R_drewN | apply Kd.R_drew)); exact HO398.out)); (case aS=>exact (below_size (by repeat (first | (with_reducible first | exact HB.out | apply bA | apply bN | apply bD) | exact HB.out)))); (case aL=>have:=LMc8.out; omega); intro v400 w25 ho hb hg hat; rw [← Ny399.out] at ho; have n0_:=Aside0.mk (hb); have n1_:=Aside0.mk (ho); clear HB; clear HO398; have HB:=n0_; have HO401:=n1_; clear n0_ n1_; clear ho hb hg hat; obtain ⟨Ao26,co26,eo26⟩:=Kd.R_slice HO401.out; subst eo26) | ((with_reducible refine gate_callee (f:=12) rfl ?_); refine goesL_ (some 26) rfl rfl Tryd.func12 (by kernel_rfl) rfl #[.slice Ao26 y399.length co26, .bool true] rfl (by (try simp only [List.map_toArray,List.map_cons,List.map_nil]); first | done | rfl | (simp only [List.length_drop,List.length_take]; rfl)) ?_; (with_reducible refine (accept_Reply.calls kj2 _ _ y399 true t402 t403 _ ?side1 ?side2 A9.out (glob_below HGLOB.out (by repeat (first | (with_reducible first | exact HB.out | apply bA | apply bN | apply bD) | exact HB.out))) (globc_below HGLOC.out (by repeat (first | (with_reducible first | exact HB.out | apply bA | apply bN | apply bD) | exact HB.out))) (globe_below HGLOE.out (by repeat (first | (with_reducible first | exact HB.out | apply bA | apply bN | apply bD) | exact HB.out)))).mono ?_); (case side1=>repeat (first | exact (Kd.R_reads' HO401.out).2.2 | (with_reducible refine Kd.C_alloc ?_ _) | (with_reducible refine Kd.C_drewN ?_ _) | (with_reducible refine Kd.C_drew ?_))); (case side2=>exact (Kd.R_reads' HO401.out).2.1); rintro e w27 ⟨v404,rfl,ho0,hb⟩; refine ⟨_,rfl,?_⟩; have n0_:=Aside0.mk (Kd.R_elder' (by (with_reducible repeat (first | apply Kd.R_alloc | apply Kd.R_drewN | apply Kd.R_drew)); exact HO401.out) (Kd.R_base ho0) hb); have n1_:=Aside0.mk (Kd.R_lower (Kd.R_new' ho0 (Kd.R_lt (by (with_reducible repeat (first | apply Kd.R_alloc | apply Kd.R_drewN | apply Kd.R_drew)); exact HO401.out))) (below_size (by repeat (first | (with_reducible first | exact HB.out | apply bA | apply bN | apply bD) | exact HB.out)))); have n2_:=Aside0.mk (below_step (by repeat (first | (with_reducible first | exact HB.out | apply bA | apply bN | apply bD) | exact HB.out)) hb); clear HO401; clear HB; have HO401:=n0_; have HO405:=n1_; have HB:=n2_; clear n0_ n1_ n2_; (try clear hb); (try clear ho0); have hcv28:=own_string (P:=Tryd.prog) Tryd.underlying26 Tryd.underlying5 Tryd.underlying9 (Kd.own_of_R HO405.out); have p406:0≤((ji11) : Int):=of_decide_eq_true (by first | (with_reducible assumption) | assumption); have q406 : (ji11) < (y399.length : Int):=of_decide_eq_true (by first | (with_reducible assumption) | assumption); obtain ⟨ad406,e406,hx406_0⟩:=Kd.at_int (Kd.R_reads' HO401.out).2.2 (ji11) p406 q406; cases e406; replace p406:=eq_true p406; replace q406:=eq_true q406; have p14:0≤((ji11) : Int):=of_decide_eq_true (by first | (with_reducible assumption) | assumption); have q14 : ((ji11) : Int) < ((y399.length : Int) : Int):=of_decide_eq_true (by first | (with_reducible assumption) | assumption); obtain ⟨go14,co14,eo14,gb14,gl14,cl14,HG14⟩:=Kd.R_form HO401.out (by omega); (first | cases eo14 | (injection eo14 with ea_ en_ ec_; (first | subst ea_ | (injection ea_ with ea_; subst ea_)); subst ec_; clear en_)); have GB14:=Aside0.mk gb14; have GG14:=Aside0.mk HG14; clear gb14 gl14 HG14; (first | simp only [add_plain] at hx406_0 | skip); obtain ⟨hx14_0,hf14_0⟩:=Kd.R_celln 0 HO401.out ((ji11) : Int) p14 q14; replace p14:=eq_true p14; replace q14:=eq_true q14; have n_:=Aside0.mk (Kd.R_mono (ok':=(fun k_=>some k_ ≠ (v404 : Value).ownBlock)) HO401.out (fun k_ hk=>hk.2)); clear HO401; have HO401:=n_; clear n_; obtain ⟨hy29_,hz29_⟩:=Kd.R_celln 0 HO401.out ((ji11) : Int) (of_decide_eq_true (by first | (with_reducible assumption) | assumption)) (of_decide_eq_true (by first | (with_reducible assumption) | assumption)); have HP29:=Kd.R_putg HO401.out ((ji11) : Int) (Go.bits .xor .u8 (rd y399 (ji11)) 1)) | ((with_reducible refine gate_store (t:=5) (p:=43) rfl ?_); refine store_event (t:=5) (p:=43) (v:=?vo_w30) (w1:=(w27.setCell ⟨go14,((ji11) : Int).toNat,none⟩ (.int .u8 (Go.bits .xor .u8 (rd y399 (ji11)) 1)))) ?hg ?ho ?hn ?hr ?_; (case ho=>rfl); (case hg=>rfl); (case hn=>rfl); (case hr=>first | (go_simp; done) | (go_simp; rfl)); intro w30 hw; have hg:w27.grownBy w30 (some go14):=(by rw [hw]; exact HP29.2); have hp_:Kd.R (Kd.int .u8) 5 w30 w.heap.size (fun k_=>some k_ ≠ (v404 : Value).ownBlock) (.slice (some ⟨go14,0,none⟩) y399.length co26) y407:=(by rw [hw,Ny407.out]; exact HP29.1); clear HP29; have n0_:=Aside0.mk (hp_); have n1_:=Aside0.mk (Kd.R_after (v:=(.slice (some ⟨go14,0,none⟩) y399.length co26)) (v1:=(.slice (some ⟨go14,0,none⟩) y399.length co26)) (ok:=(fun _=>True)) (by (with_reducible repeat (first | apply Kd.R_alloc | apply Kd.R_drewN | apply Kd.R_drew)); exact HO405.out) hg (.inl rfl)); have n2_:=Aside0.mk ((by rw [hw]; exact below_set (HB.out) GB14.out : Below w.heap.size w w30)); clear HO401; clear HO405; clear HB; have HO401:=n0_; have HO405:=n1_; have HB:=n2_; clear n0_ n1_ n2_; clear hg hw hp_) | ((with_reducible refine gate_callee (f:=12) rfl ?_); refine goesL_ (some 45) rfl rfl Tryd.func12 (by kernel_rfl) rfl #[.slice (some ⟨go14,0,none⟩) y407.length co26, .bool false] rfl (by (try simp only [List.map_toArray,List.map_cons,List.map_nil]); first | done | (rw [show y407.length=y399.length from (Kd.R_reads' HO401.out).1.symm] <;> rfl) | rfl | (simp only [List.length_drop,List.length_take]; rfl)) ?_; (with_reducible refine (accept_Reply.calls kj2 _ _ y407 false t408 t409 _ ?side1 ?side2 A15.out (glob_below HGLOB.out (by repeat (first | (with_reducible first | exact HB.out | apply bA | apply bN | apply bD) | exact HB.out))) (globc_below HGLOC.out (by repeat (first | (with_reducible first | exact HB.out | apply bA | apply bN | apply bD) | exact HB.out))) (globe_below HGLOE.out (by repeat (first | (with_reducible first | exact HB.out | apply bA | apply bN | apply bD) | exact HB.out)))).mono ?_); (case side1=>repeat (first | exact (Kd.R_reads' HO401.out).2.2 | (with_reducible refine Kd.C_alloc ?_ _) | (with_reducible refine Kd.C_drewN ?_ _) | (with_reducible refine Kd.C_drew ?_))); (case side2=>rw [show y407.length=y399.length from (Kd.R_reads' HO401.out).1.symm]; exact (Kd.R_reads' HO401.out).2.1); rintro e w31 ⟨v410,rfl,ho0,hb⟩; refine ⟨_,rfl,?_⟩; have n0_:=Aside0.mk (Kd.R_elder' (by (with_reducible repeat (first | apply Kd.R_alloc | apply Kd.R_drewN | apply Kd.R_drew)); exact HO401.out) (Kd.R_base ho0) hb); have n1_:=Aside0.mk (Kd.R_elder' (by (with_reducible repeat (first | apply Kd.R_alloc | apply Kd.R_drewN | apply Kd.R_drew)); exact HO405.out) (Kd.R_base ho0) hb); have n2_:=Aside0.mk (Kd.R_lower (Kd.R_new' (Kd.R_new' ho0 (Kd.R_lt (by (with_reducible repeat (first | apply Kd.R_alloc | apply Kd.R_drewN | apply Kd.R_drew)); exact HO401.out))) (Kd.R_lt (by (with_reducible repeat (first | apply Kd.R_alloc | apply Kd.R_drewN | apply Kd.R_drew)); exact HO405.out))) (below_size (by repeat (first | (with_reducible first | exact HB.out | apply bA | apply bN | apply bD) | exact HB.out)))); have n3_:=Aside0.mk (below_step (by repeat (first | (with_reducible first | exact HB.out | apply bA | apply bN | apply bD) | exact HB.out)) hb); clear HO401; clear HO405; clear HB; have HO401:=n0_; have HO405:=n1_; have HO411:=n2_; have HB:=n3_; clear n0_ n1_ n2_ n3_; (try clear hb); (try clear ho0); have p412:0≤((ji11) : Int):=of_decide_eq_true (by first | (with_reducible assumption) | assumption); have q412 : (ji11) < (y407.length : Int):=(by have h_ : ((ji11) : Int) < ((y399.length : Int) : Int):=of_decide_eq_true (by first | (with_reducible assumption) | assumption); first | (have e_:=(Kd.R_reads' HO401.out).1; omega) | simpa only [Ny407.out,List.length_set] using h_); have ql412 : (((ji11) : Int) < ((y399.length : Int) : Int))=True:=eq_true (of_decide_eq_true (by first | (with_reducible assumption) | assumption)); obtain ⟨ad412,e412,hx412_0⟩:=Kd.at_int (Kd.R_reads' HO401.out).2.2 (ji11) p412 q412; obtain rfl : (⟨go14,0,none⟩ : Addr)=ad412:=(by injection e412); (first | simp only [add_plain] at hx412_0 | simp only [add_at] at hx412_0 | simp only [Addr.add,Nat.zero_add] at hx412_0 | skip); replace p412:=eq_true p412; replace q412:=eq_true q412; have p16:0≤((ji11) : Int):=of_decide_eq_true (by first | (with_reducible assumption) | assumption); have q16 : ((ji11) : Int) < ((y399.length : Int) : Int):=of_decide_eq_true (by first | (with_reducible assumption) | assumption); obtain ⟨hx16_0,hf16_0⟩:=Kd.R_celln 0 HO401.out ((ji11) : Int) p16 q16; replace p16:=eq_true p16; replace q16:=eq_true q16; obtain ⟨hy32_,hz32_⟩:=Kd.R_celln 0 HO401.out ((ji11) : Int) (of_decide_eq_true (by first | (with_reducible assumption) | assumption)) (of_decide_eq_true (by first | (with_reducible assumption) | assumption)); have HP32:=Kd.R_putg HO401.out ((ji11) : Int) (Go.bits .xor .u8 (rd y407 (ji11)) 1)) | ((with_reducible refine gate_store (t:=5) (p:=51) rfl ?_); refine store_event (t:=5) (p:=51) (v:=?vo_w33) (w1:=(w31.setCell ⟨go14,((ji11) : Int).toNat,none⟩ (.int .u8 (Go.bits .xor .u8 (rd y407 (ji11)) 1)))) ?hg ?ho ?hn ?hr ?_; (case ho=>rfl); (case hg=>rfl); (case hn=>rfl); (case hr=>first | (go_simp; done) | (go_simp; rfl)); intro w33 hw; have hg:w31.grownBy w33 (some go14):=(by rw [hw]; exact HP32.2); have hp_:Kd.R (Kd.int .u8) 5 w33 w.heap.size (fun k_=>some k_ ≠ (v404 : Value).ownBlock∧some k_ ≠ (v410 : Value).ownBlock) (.slice (some ⟨go14,0,none⟩) y399.length co26) y413:=(by rw [hw,Ny413.out]; exact HP32.1); clear HP32; have n0_:=Aside0.mk (hp_); have n1_:=Aside0.mk (Kd.R_after (v:=(.slice (some ⟨go14,0,none⟩) y399.length co26)) (v1:=(.slice (some ⟨go14,0,none⟩) y399.length co26)) (ok:=(fun k_=>some k_ ≠ (v410 : Value).ownBlock)) (by (with_reducible repeat (first | apply Kd.R_alloc | apply Kd.R_drewN | apply Kd.R_drew)); exact Kd.R_mono HO405.out (fun _ hk=>⟨hk.2,hk.1.2⟩)) hg (.inl rfl)); have n2_:=Aside0.mk (Kd.R_after (v:=(.slice (some ⟨go14,0,none⟩) y399.length co26)) (v1:=(.slice (some ⟨go14,0,none⟩) y399.length co26)) (ok:=(fun k_=>some k_ ≠ (v404 : Value).ownBlock)) (by (with_reducible repeat (first | apply Kd.R_alloc | apply Kd.R_drewN | apply Kd.R_drew)); exact Kd.R_mono HO411.out (fun _ hk=>⟨hk.2,hk.1.2⟩)) hg (.inl rfl)); have n3_:=Aside0.mk ((by rw [hw]; exact below_set (HB.out) GB14.out : Below w.heap.size w w33)); clear HO401; clear HO405; clear HO411; clear HB; have HO401:=n0_; have HO405:=n1_; have HO411:=n2_; have HB:=n3_; clear n0_ n1_ n2_ n3_; clear hg hw hp_) | ((with_reducible refine gate_callee (f:=12) rfl ?_); refine goesL_ (some 54) rfl rfl Tryd.func12 (by kernel_rfl) rfl #[.slice (some ⟨go14,0,none⟩) y413.length co26, .bool true] rfl (by (try simp only [List.map_toArray,List.map_cons,List.map_nil]); first | done | (rw [show y413.length=y399.length from (Kd.R_reads' HO401.out).1.symm] <;> rfl) | rfl | (simp only [List.length_drop,List.length_take]; rfl)) ?_; (with_reducible refine (accept_Reply.calls kj2 _ _ y413 true t414 t415 _ ?side1 ?side2 A17.out (glob_below HGLOB.out (by repeat (first | (with_reducible first | exact HB.out | apply bA | apply bN | apply bD) | exact HB.out))) (globc_below HGLOC.out (by repeat (first | (with_reducible first | exact HB.out | apply bA | apply bN | apply bD) | exact HB.out))) (globe_below HGLOE.out (by repeat (first | (with_reducible first | exact HB.out | apply bA | apply bN | apply bD) | exact HB.out)))).mono ?_); (case side1=>repeat (first | exact (Kd.R_reads' HO401.out).2.2 | (with_reducible refine Kd.C_alloc ?_ _) | (with_reducible refine Kd.C_drewN ?_ _) | (with_reducible refine Kd.C_drew ?_))); (case side2=>rw [show y413.length=y399.length from (Kd.R_reads' HO401.out).1.symm]; exact (Kd.R_reads' HO401.out).2.1); rintro e w34 ⟨v416,rfl,ho0,hb⟩; refine ⟨_,rfl,?_⟩; have n0_:=Aside0.mk (Kd.R_elder' (by (with_reducible repeat (first | apply Kd.R_alloc | apply Kd.R_drewN | apply Kd.R_drew)); exact HO401.out) (Kd.R_base ho0) hb); have n1_:=Aside0.mk (Kd.R_elder' (by (with_reducible repeat (first | apply Kd.R_alloc | apply Kd.R_drewN | apply Kd.R_drew)); exact HO405.out) (Kd.R_base ho0) hb); have n2_:=Aside0.mk (Kd.R_elder' (by (with_reducible repeat (first | apply Kd.R_alloc | apply Kd.R_drewN | apply Kd.R_drew)); exact HO411.out) (Kd.R_base ho0) hb); have n3_:=Aside0.mk (Kd.R_lower (Kd.R_new' (Kd.R_new' (Kd.R_new' ho0 (Kd.R_lt (by (with_reducible repeat (first | apply Kd.R_alloc | apply Kd.R_drewN | apply Kd.R_drew)); exact HO401.out))) (Kd.R_lt (by (with_reducible repeat (first | apply Kd.R_alloc | apply Kd.R_drewN | apply Kd.R_drew)); exact HO405.out))) (Kd.R_lt (by (with_reducible repeat (first | apply Kd.R_alloc | apply Kd.R_drewN | apply Kd.R_drew)); exact HO411.out))) (below_size (by repeat (first | (with_reducible first | exact HB.out | apply bA | apply bN | apply bD) | exact HB.out)))); have n4_:=Aside0.mk (below_step (by repeat (first | (with_reducible first | exact HB.out | apply bA | apply bN | apply bD) | exact HB.out)) hb); clear HO401; clear HO405; clear HO411; clear HB; have HO401:=n0_; have HO405:=n1_; have HO411:=n2_; have HO417:=n3_; have HB:=n4_; clear n0_ n1_ n2_ n3_ n4_; (try clear hb); (try clear ho0)) | ((with_reducible refine gate_callee (f:=9) rfl ?_); refine goesL_ (some 57) rfl rfl Tryd.func9 (by kernel_rfl) rfl #[] rfl (by (try simp only [List.map_toArray,List.map_cons,List.map_nil]); first | done | rfl | (simp only [List.length_drop,List.length_take]; rfl)) ?_; (with_reducible refine (lamplighterlaw11_alive.calls kj2  true _ A18.out (glob_below HGLOB.out (by repeat (first | (with_reducible first | exact HB.out | apply bA | apply bN | apply bD) | exact HB.out))) (globc_below HGLOC.out (by repeat (first | (with_reducible first | exact HB.out | apply bA | apply bN | apply bD) | exact HB.out))) (globe_below HGLOE.out (by repeat (first | (with_reducible first | exact HB.out | apply bA | apply bN | apply bD) | exact HB.out)))).mono ?_); rintro e w35 ⟨rfl,hb⟩; refine ⟨_,rfl,?_⟩; have n0_:=Aside0.mk (Kd.R_below (by (with_reducible repeat (first | apply Kd.R_alloc | apply Kd.R_drewN | apply Kd.R_drew)); exact HO401.out) hb); have n1_:=Aside0.mk (Kd.R_below (by (with_reducible repeat (first | apply Kd.R_alloc | apply Kd.R_drewN | apply Kd.R_drew)); exact HO405.out) hb); have n2_:=Aside0.mk (Kd.R_below (by (with_reducible repeat (first | apply Kd.R_alloc | apply Kd.R_drewN | apply Kd.R_drew)); exact HO411.out) hb); have n3_:=Aside0.mk (Kd.R_below (by (with_reducible repeat (first | apply Kd.R_alloc | apply Kd.R_drewN | apply Kd.R_drew)); exact HO417.out) hb); have n4_:=Aside0.mk (below_step (by repeat (first | (with_reducible first | exact HB.out | apply bA | apply bN | apply bD) | exact HB.out)) hb); clear HO401; clear HO405; clear HO411; clear HO417; clear HB; have HO401:=n0_; have HO405:=n1_; have HO411:=n2_; have HO417:=n3_; have HB:=n4_; clear n0_ n1_ n2_ n3_ n4_; (try clear hb); have hcv36:=own_string (P:=Tryd.prog) Tryd.underlying26 Tryd.underlying5 Tryd.underlying9 (Kd.own_of_R HO417.out); have hcv37:=own_string (P:=Tryd.prog) Tryd.underlying26 Tryd.underlying5 Tryd.underlying9 (Kd.own_of_R HO405.out); have hcv38:=own_string (P:=Tryd.prog) Tryd.underlying26 Tryd.underlying5 Tryd.underlying9 (Kd.own_of_R HO401.out); have hcv39:=Kd.C_string (P:=Tryd.prog) (A:=A0) (c:=c0) Tryd.underlying26 Tryd.underlying5 Tryd.underlying9 (Kd.C_below HR0.out HB.out)))
            go_ret
            exact ⟨by first | rfl | (simp [errW_none,errW_some] <;> rfl) | (simp only [← hji11]; first | rfl | (simp [errW_none,errW_some] <;> rfl)) | (simp [*,errW_none,errW_some] <;> rfl),by repeat (first | (with_reducible first | exact HB.out | apply bA | apply bN | apply bD) | exact HB.out)⟩
           ·rw [if_neg c22] at H
            have c22b0 : ((strOfNums t402).toList == (strOfNums t402).toList)=false:=beq_eq_false_iff_ne.mpr c22
            have c22b1 : ((strOfNums t402).toList != (strOfNums t402).toList)=true:=bne_iff_ne.mpr c22
            obtain rfl:=Option.some.inj H
            cases hrt
          ·rw [if_neg c21] at H
           have c21b0 : ((strOfNums t414).toList == (strOfNums t402).toList)=false:=beq_eq_false_iff_ne.mpr c21
           have c21b1 : ((strOfNums t414).toList != (strOfNums t402).toList)=true:=bne_iff_ne.mpr c21
           obtain rfl:=Option.some.inj H
           cases hrt
         ·rw [if_neg c20] at H
          have c20b0 : (t403 == t415)=false:=by simpa using c20
          (try (have c20b1:decide (t403=t415)=false:=by simpa using c20))
          (try (have c20b2 : (t403 == t415)=false:=by simpa using c20))
          (try (have c20b3 : ¬ (t403=t415):=by simpa using c20))
          clear c20
          obtain rfl:=Option.some.inj H
          cases hrt
        ·replace c19:=Bool.eq_false_iff.mpr c19
         subst c19
         have H1 : (some false)=some r:=by rw [if_neg (show ¬ (false=true) by decide)] at H; exact H
         clear H
         have H:=H1
         clear H1
         obtain rfl:=Option.some.inj H
         cases hrt
       ·rw [if_neg c13] at H
        exact absurd H (by simp)
      ·rw [if_neg c12] at H
       exact absurd H (by simp)
    ·rw [if_neg c8] at H
     exact absurd H (by simp)

end Go.Proofs.YtmjdnkiohdkfpaaDoor.PF
