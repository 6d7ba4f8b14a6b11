import Derived.Test.YtljdbphojcglgaaDoorPFx0
import Derived.Test.YtljdbphojcglgaaDoorPFx1
import Derived.Test.YtljdbphojcglgaaDoorPFx2
namespace Go.Proofs.YtljdbphojcglgaaDoor.PF
open Go.RowKit Go.Proofs.YtljdbphojcglgaaDoorW.PrintWords Go.Proofs.YtljdbphojcglgaaDoorW.PrintLast Go.Proofs.YtljdbphojcglgaaDoorW.PrintMore
set_option maxHeartbeats 8000000
set_option maxRecDepth 100000
attribute [local go_sem] max2_int min2_int max_two min_two max_three min_three max_four min_four
set_option linter.unusedVariables false
set_option linter.unusedSimpArgs false

attribute [local go_sem high] eqA25
/-! ### segment_Field: function 23 -/
def segment_Field.f (a0 : ByteArray) (a1 : Int) (a2_0 : Int) (a2_1 : Int) (a2_2 : Int) (a2_3 : Int) (a2_4 : Int) : Option (ByteArray × Bool):=if a1 < 1 then (some ((⟨#[]⟩ : ByteArray),false)) else ((segment_field.f a0 a1 a2_0 a2_1 a2_2 a2_3 a2_4).bind fun bt129=>(some (bt129.1,decide (a1≤bt129.2))))
theorem segment_Field.calls (a0 : ByteArray) (a1 : Int) (a2_0 : Int) (a2_1 : Int) (a2_2 : Int) (a2_3 : Int) (a2_4 : Int) (r1 : ByteArray) (r2 : Bool) (w : World) (h : segment_Field.f a0 a1 a2_0 a2_1 a2_2 a2_3 a2_4=some (r1,r2)) :
  Calls Tryd.prog 23 #[.string a0, .int .i64 a1, .agg #[.int .u8 a2_0, .int .u8 a2_1, .int .u8 a2_2, .int .u8 a2_3, .int .u8 a2_4]] w fun e w'=>e = .returned (.tuple #[.string r1, .bool r2])∧Below w.heap.size w w':=by
 have hu25:=Tryd.underlying25
 have HB:=Aside0.mk (Below.refl w.heap.size w)
 have H : (if a1 < 1 then (some ((⟨#[]⟩ : ByteArray),false)) else ((segment_field.f a0 a1 a2_0 a2_1 a2_2 a2_3 a2_4).bind fun bt129=>(some (bt129.1,decide (a1≤bt129.2)))))=some (r1,r2):=h
 clear h
 by_cases c4 : a1 < 1
 ·rw [if_pos c4] at H
  have c4b0:decide (a1 < 1)=true:=decide_eq_true c4
  clear c4
  simp only [Option.some.injEq,Prod.mk.injEq] at H
  obtain ⟨rfl,rfl⟩:=H
  go_enter Tryd.func23,Tryd.ntmps23
  go_wp2_with (first | ((with_reducible refine gate_dst (N:=5) rfl ?_); refine box_event ?hg (N:=5) ?hd (cs:=#[.int .u8 a2_0, .int .u8 a2_1, .int .u8 a2_2, .int .u8 a2_3, .int .u8 a2_4]) (t:=25) ?hr ?_; (case hd=>rfl); (case hg=>rfl); (case hr=>first | (go_simp; done) | (go_simp; rfl)); intro gb128 hg w5 hbox hb; have n0_:=Aside0.mk (below_step (by repeat (first | (with_reducible first | exact HB.out | apply bA | apply bN | apply bD) | exact HB.out)) hb); have n1_:=Aside0.mk (hbox); have n2_:=Aside0.mk ((by rw [hg]; exact (below_size (by repeat (first | (with_reducible first | exact HB.out | apply bA | apply bN | apply bD) | exact HB.out))) : w.heap.size≤gb128)); have n3_:=Aside0.mk ((by rw [hg]; exact (below_size (by repeat (first | (with_reducible first | exact HB.out | apply bA | apply bN | apply bD) | exact HB.out))) : w.heap.size≤gb128)); clear HB; have HB:=n0_; have BK128:=n1_; have GW128:=n2_; have GE128:=n3_; clear n0_ n1_ n2_ n3_; clear hb hbox hg))
  go_ret2
  exact ⟨by first | rfl | (simp [errW_none,errW_some] <;> rfl) | (simp [*,errW_none,errW_some] <;> rfl),by repeat (first | (with_reducible first | exact HB.out | apply bA | apply bN | apply bD | refine below_set ?_ GE128.out) | exact HB.out)⟩
 ·rw [if_neg c4] at H
  have c4b0:decide (a1 < 1)=false:=decide_eq_false c4
  clear c4
  replace H:=Option.bind_eq_some_iff.mp H
  obtain ⟨⟨t129,t130⟩,A60,H⟩:=H
  replace H : (some (t129,decide (a1≤t130)))=some (r1,r2):=H
  have A6:=Aside0.mk A60
  clear A60
  simp only [Option.some.injEq,Prod.mk.injEq] at H
  obtain ⟨rfl,rfl⟩:=H
  go_enter Tryd.func23,Tryd.ntmps23
  go_wp2_with (first | ((with_reducible refine gate_dst (N:=5) rfl ?_); refine box_event ?hg (N:=5) ?hd (cs:=#[.int .u8 a2_0, .int .u8 a2_1, .int .u8 a2_2, .int .u8 a2_3, .int .u8 a2_4]) (t:=25) ?hr ?_; (case hd=>rfl); (case hg=>rfl); (case hr=>first | (go_simp; done) | (go_simp; rfl)); intro gb128 hg w7 hbox hb; have n0_:=Aside0.mk (below_step (by repeat (first | (with_reducible first | exact HB.out | apply bA | apply bN | apply bD) | exact HB.out)) hb); have n1_:=Aside0.mk (hbox); have n2_:=Aside0.mk ((by rw [hg]; exact (below_size (by repeat (first | (with_reducible first | exact HB.out | apply bA | apply bN | apply bD) | exact HB.out))) : w.heap.size≤gb128)); have n3_:=Aside0.mk ((by rw [hg]; exact (below_size (by repeat (first | (with_reducible first | exact HB.out | apply bA | apply bN | apply bD) | exact HB.out))) : w.heap.size≤gb128)); clear HB; have HB:=n0_; have BK128:=n1_; have GW128:=n2_; have GE128:=n3_; clear n0_ n1_ n2_ n3_; clear hb hbox hg; have hcz8_0:w7.cell? ⟨gb128,0,none⟩=some (.int .u8 a2_0):=blk_cell BK128.out 0; have hcz8_1:w7.cell? ⟨gb128,1,none⟩=some (.int .u8 a2_1):=blk_cell BK128.out 1; have hcz8_2:w7.cell? ⟨gb128,2,none⟩=some (.int .u8 a2_2):=blk_cell BK128.out 2; have hcz8_3:w7.cell? ⟨gb128,3,none⟩=some (.int .u8 a2_3):=blk_cell BK128.out 3; have hcz8_4:w7.cell? ⟨gb128,4,none⟩=some (.int .u8 a2_4):=blk_cell BK128.out 4; have hfz8_0:=blk_frozen BK128.out 0; have hfz8_1:=blk_frozen BK128.out 1; have hfz8_2:=blk_frozen BK128.out 2; have hfz8_3:=blk_frozen BK128.out 3; have hfz8_4:=blk_frozen BK128.out 4) | ((with_reducible refine gate_callee (f:=39) rfl ?_); refine goesL_ (some 16) rfl rfl Tryd.func39 (by kernel_rfl) rfl #[.string a0, .int .i64 a1, .agg #[.int .u8 a2_0, .int .u8 a2_1, .int .u8 a2_2, .int .u8 a2_3, .int .u8 a2_4]] rfl (by (try simp only [List.map_toArray,List.map_cons,List.map_nil]); first | done | rfl | (simp only [List.length_drop,List.length_take]; rfl)) ?_; (with_reducible refine (segment_field.calls a0 a1 a2_0 a2_1 a2_2 a2_3 a2_4 t129 t130 _ A6.out).mono ?_); rintro e w9 ⟨rfl,hb⟩; refine ⟨_,rfl,?_⟩; have n0_:=Aside0.mk (blk_below (g:=gb128) (o := .cells #[.int .u8 a2_0, .int .u8 a2_1, .int .u8 a2_2, .int .u8 a2_3, .int .u8 a2_4] 25 (0,0)) (by (with_reducible repeat (first | refine kN ?_ _ | refine kD ?_ | refine kA ?_ _)); exact BK128.out) hb); have n1_:=Aside0.mk (below_step (by repeat (first | (with_reducible first | exact HB.out | apply bA | apply bN | apply bD | refine below_set ?_ GE128.out) | exact HB.out)) hb); clear BK128; clear HB; have BK128:=n0_; have HB:=n1_; clear n0_ n1_; (try clear hb)))
  go_ret2
  exact ⟨by first | rfl | (simp [errW_none,errW_some] <;> rfl) | (simp [*,errW_none,errW_some] <;> rfl),by repeat (first | (with_reducible first | exact HB.out | apply bA | apply bN | apply bD | refine below_set ?_ GE128.out) | exact HB.out)⟩

/-! ### bytes_Equal: function 52 -/
def bytes_Equal.f (l0 : List Int) (l1 : List Int) : Option (Bool):=some ((strOfNums l0).toList == (strOfNums l1).toList)
theorem bytes_Equal.calls (A0 : Option Addr) (c0 : Nat) (l0 : List Int) (A1 : Option Addr) (c1 : Nat) (l1 : List Int) (r : Bool) (w : World) (hr0 : Kd.C (Kd.int .u8) w A0 l0.length l0) (hc0 : l0.length≤c0) (hr1 : Kd.C (Kd.int .u8) w A1 l1.length l1) (hc1 : l1.length≤c1) (h : bytes_Equal.f l0 l1=some r) :
  Calls Tryd.prog 52 #[.slice A0 l0.length c0, .slice A1 l1.length c1] w fun e w'=>e = .returned (.bool r)∧Drawn0 w w':=by
 have HR0:=Aside0.mk hr0
 have HC0:=Aside0.mk hc0
 clear hr0 hc0
 have HR1:=Aside0.mk hr1
 have HC1:=Aside0.mk hc1
 clear hr1 hc1
 have H : (some ((strOfNums l0).toList == (strOfNums l1).toList))=some r:=h
 clear h
 obtain rfl:=Option.some.inj H
 have hcv3:=Kd.C_string (P:=Tryd.prog) (A:=A0) (c:=c0) Tryd.underlying22 Tryd.underlying5 Tryd.underlying9 HR0.out
 have hcv4:=Kd.C_string (P:=Tryd.prog) (A:=A1) (c:=c1) Tryd.underlying22 Tryd.underlying5 Tryd.underlying9 HR1.out
 go_enter Tryd.func52,Tryd.ntmps52
 go_wp2
 go_ret
 exact ⟨by first | rfl | (simp; done) | (simp [*]; done),by repeat (first | exact Drawn0.refl _ | apply Drawn0.step)⟩

/-! ### bytes_HasPrefix: function 65 -/
def bytes_HasPrefix.f (l0 : List Int) (l1 : List Int) : Option (Bool):=some (if l1.length≤l0.length then (strOfNums (l0.take l1.length)).toList == (strOfNums l1).toList else false)
theorem bytes_HasPrefix.calls (A0 : Option Addr) (c0 : Nat) (l0 : List Int) (A1 : Option Addr) (c1 : Nat) (l1 : List Int) (r : Bool) (w : World) (hr0 : Kd.C (Kd.int .u8) w A0 l0.length l0) (hc0 : l0.length≤c0) (hr1 : Kd.C (Kd.int .u8) w A1 l1.length l1) (hc1 : l1.length≤c1) (h : bytes_HasPrefix.f l0 l1=some r) :
  Calls Tryd.prog 65 #[.slice A0 l0.length c0, .slice A1 l1.length c1] w fun e w'=>e = .returned (.bool r)∧Drawn0 w w':=by
 obtain rfl:=Option.some.inj h
 clear h
 by_cases hl : l1.length≤l0.length
 ·have h1:decide ((l1.length : Int)≤(l0.length : Int))=true:=by simp; omega
  have hlen : (l0.take l1.length).length=l1.length:=by rw [List.length_take]; omega
  obtain ⟨i0,hi0,_,hsz,_⟩:=info_parts info5
  obtain ⟨_,hA,_⟩:=print_take_of (P:=Tryd.prog) (Value.int .u8) 0 22 5 .i64 Tryd.underlying22 hi0 hsz A0 c0 l0 (l1.length : Int) (by omega) (by omega) hc0
  have hq:=Kd.C_of_reads (h1:=fun _=>rfl) (hA _ (Kd.reads_of_C hr0))
  rw [Int.toNat_natCast] at hq
  have hcall:=bytes_Equal.calls A0 c0 (l0.take l1.length) A1 c1 l1 _ w hq (by omega) hr1 hc1 rfl
  rw [hlen] at hcall
  have HC:=Lib.hid hcall
  clear hcall hq hA hr0 hr1 hi0 hsz hlen
  rw [if_pos hl]
  go_enter Tryd.func65,Tryd.ntmps65
  go_wp2_with fail
  refine HC.out.mono ?_
  rintro e w' ⟨rfl,⟨nd,rfl⟩⟩
  go_wp2
  go_ret
  exact ⟨rfl,by repeat (first | exact Drawn0.refl _ | apply Drawn0.step)⟩
 ·have h1:decide ((l1.length : Int)≤(l0.length : Int))=false:=by simp; omega
  have h2:decide (l1.length≤l0.length)=false:=by simp; omega
  rw [if_neg hl]
  have HR:=Lib.hid hr0
  clear hl hr0 hr1
  go_enter Tryd.func65,Tryd.ntmps65
  go_wp2_with fail
  go_ret
  exact ⟨rfl,by repeat (first | exact Drawn0.refl _ | apply Drawn0.step)⟩




/-! ### bytes_IndexByte: function 13 -/
def bytes_IndexByte.f (l0 : List Int) (a1 : Int) : Option (Int):=some (Lib.indexByte (Lib.bytesOf l0) a1.toNat.toUInt8)
theorem bytes_IndexByte.calls (A0 : Option Addr) (c0 : Nat) (l0 : List Int) (a1 : Int) (r : Int) (w : World) (hr0 : Kd.C (Kd.int .u8) w A0 l0.length l0) (hc0 : l0.length≤c0) (h : bytes_IndexByte.f l0 a1=some r) :
  Calls Tryd.prog 13 #[.slice A0 l0.length c0, .int .u8 a1] w fun e w'=>e = .returned (.int .i64 r)∧Drawn0 w w':=by
 obtain rfl:=Option.some.inj h
 clear h
 have hrun : (Extern.BytealgIndexByte.indexByte #[.slice A0 l0.length c0, .int .u8 a1]).run Tryd.prog w = .ok (.int .i64 (Lib.indexByte (Lib.bytesOf l0) a1.toNat.toUInt8)) w:=by
  cases A0 with
  | none =>
   have hz:l0.length=0:=by
    rcases Nat.eq_zero_or_pos l0.length with h0 | h0
    ·exact h0
    ·obtain ⟨ad,e,_⟩:=Kd.at_int hr0 0 (by omega) (by omega)
     cases e
   have hl:l0=[]:=List.eq_nil_of_length_eq_zero hz
   subst hl
   exact Lib.run_indexByteNil w 0 c0 a1
  | some a =>
   refine Lib.run_indexByteAt w a l0.length c0 l0 rfl (fun i hi=>?_) a1
   obtain ⟨ad,e,hc⟩:=Kd.at_int hr0 (i : Int) (by omega) (by omega)
   cases e
   simpa [rd] using hc
 have HR:=Lib.hid hrun
 clear hrun hr0 hc0
 go_enter Tryd.func13,Tryd.ntmps13
 go_wp2
 rw [run_callFunc_extern Tryd.func29 (by kernel_rfl) (by kernel_rfl) (by kernel_rfl) (e:=Extern.BytealgIndexByte.indexByte) (by kernel_rfl),HR.out]
 simp only [Result.andThen]
 rw [Oper.upon_value]
 go_wp2
 go_ret
 exact ⟨rfl,Drawn0.refl _⟩


/-! ### delim_Plain: function 66 -/
def delim_Plain.f  : Option (Int × Int × Int × Int × Int):=some (124,94,126,92,38)
theorem delim_Plain.calls  (r1 : Int) (r2 : Int) (r3 : Int) (r4 : Int) (r5 : Int) (w : World) (h : delim_Plain.f  = some (r1,r2,r3,r4,r5)) :
  Calls Tryd.prog 66 #[] w fun e w'=>e = .returned (.agg #[.int .u8 r1, .int .u8 r2, .int .u8 r3, .int .u8 r4, .int .u8 r5])∧Below w.heap.size w w':=by
 have hu25:=Tryd.underlying25
 have HB:=Aside0.mk (Below.refl w.heap.size w)
 have H : (some (124,94,126,92,38))=some (r1,r2,r3,r4,r5):=h
 clear h
 simp only [Option.some.injEq,Prod.mk.injEq] at H
 obtain ⟨rfl,rfl,rfl,rfl,rfl⟩:=H
 go_enter Tryd.func66,Tryd.ntmps66
 go_wp2_with (first | ((with_reducible refine gate_dst (N:=0) rfl ?_); refine box_event ?hg (N:=0) ?hd (cs:=#[.int .u8 0, .int .u8 0, .int .u8 0, .int .u8 0, .int .u8 0]) (t:=25) ?hr ?_; (case hd=>rfl); (case hg=>rfl); (case hr=>first | (go_simp; done) | (go_simp; rfl)); intro gb131 hg w1 hbox hb; have n0_:=Aside0.mk (below_step (by repeat (first | (with_reducible first | exact HB.out | apply bA | apply bN | apply bD) | exact HB.out)) hb); have n1_:=Aside0.mk (hbox); have n2_:=Aside0.mk ((by rw [hg]; exact (below_size (by repeat (first | (with_reducible first | exact HB.out | apply bA | apply bN | apply bD) | exact HB.out))) : w.heap.size≤gb131)); have n3_:=Aside0.mk ((by rw [hg]; exact (below_size (by repeat (first | (with_reducible first | exact HB.out | apply bA | apply bN | apply bD) | exact HB.out))) : w.heap.size≤gb131)); clear HB; have HB:=n0_; have BK131:=n1_; have GW131:=n2_; have GE131:=n3_; clear n0_ n1_ n2_ n3_; clear hb hbox hg; have hcz2_0:w1.cell? ⟨gb131,0,none⟩=some (.int .u8 0):=blk_cell BK131.out 0; have hcz2_1:w1.cell? ⟨gb131,1,none⟩=some (.int .u8 0):=blk_cell BK131.out 1; have hcz2_2:w1.cell? ⟨gb131,2,none⟩=some (.int .u8 0):=blk_cell BK131.out 2; have hcz2_3:w1.cell? ⟨gb131,3,none⟩=some (.int .u8 0):=blk_cell BK131.out 3; have hcz2_4:w1.cell? ⟨gb131,4,none⟩=some (.int .u8 0):=blk_cell BK131.out 4; have hfz2_0:=blk_frozen BK131.out 0; have hfz2_1:=blk_frozen BK131.out 1; have hfz2_2:=blk_frozen BK131.out 2; have hfz2_3:=blk_frozen BK131.out 3; have hfz2_4:=blk_frozen BK131.out 4))
 refine bodyPost_ret (results_cell_row rfl _ _ gb131 25 #[.int .u8 124, .int .u8 94, .int .u8 126, .int .u8 92, .int .u8 38] (0,0) _ rfl (by (with_reducible repeat (first | refine kN ?_ _ | refine kD ?_ | refine kA ?_ _)); refine blk_put (cs:=#[.int .u8 124, .int .u8 94, .int .u8 126, .int .u8 92, .int .u8 0]) ?_ 4 _ rfl; (with_reducible repeat (first | refine kN ?_ _ | refine kD ?_ | refine kA ?_ _)); refine blk_put (cs:=#[.int .u8 124, .int .u8 94, .int .u8 126, .int .u8 0, .int .u8 0]) ?_ 3 _ rfl; (with_reducible repeat (first | refine kN ?_ _ | refine kD ?_ | refine kA ?_ _)); refine blk_put (cs:=#[.int .u8 124, .int .u8 94, .int .u8 0, .int .u8 0, .int .u8 0]) ?_ 2 _ rfl; (with_reducible repeat (first | refine kN ?_ _ | refine kD ?_ | refine kA ?_ _)); refine blk_put (cs:=#[.int .u8 124, .int .u8 0, .int .u8 0, .int .u8 0, .int .u8 0]) ?_ 1 _ rfl; (with_reducible repeat (first | refine kN ?_ _ | refine kD ?_ | refine kA ?_ _)); refine blk_put (cs:=#[.int .u8 0, .int .u8 0, .int .u8 0, .int .u8 0, .int .u8 0]) ?_ 0 _ rfl; (with_reducible repeat (first | refine kN ?_ _ | refine kD ?_ | refine kA ?_ _)); exact BK131.out) Tryd.underlying25 rfl (by kernel_rfl)) rfl ?_
 exact ⟨by first | rfl | (simp [errW_none,errW_some] <;> rfl) | (simp [*,errW_none,errW_some] <;> rfl),by repeat (first | (with_reducible first | exact HB.out | apply bA | apply bN | apply bD | refine below_set ?_ GE131.out) | exact HB.out)⟩

/-! ### delim_five: function 67 -/
def delim_five.f (a0_0 : Int) (a0_1 : Int) (a0_2 : Int) (a0_3 : Int) (a0_4 : Int) : Option (List Int):=some (([a0_0,a0_1,a0_2,a0_3,a0_4] : List Int))
theorem delim_five.calls (a0_0 : Int) (a0_1 : Int) (a0_2 : Int) (a0_3 : Int) (a0_4 : Int) (r : List Int) (w : World) (h : delim_five.f a0_0 a0_1 a0_2 a0_3 a0_4=some r) :
  Calls Tryd.prog 67 #[.agg #[.int .u8 a0_0, .int .u8 a0_1, .int .u8 a0_2, .int .u8 a0_3, .int .u8 a0_4]] w fun e w' => ∃ v0_ : Value,e = .returned (v0_)∧Kd.R (Kd.int .u8) 5 w' w.heap.size (fun _=>True) v0_ r∧Below w.heap.size w w':=by
 have hu25:=Tryd.underlying25
 have HB:=Aside0.mk (Below.refl w.heap.size w)
 have H : (some (([a0_0,a0_1,a0_2,a0_3,a0_4] : List Int)))=some r:=h
 clear h
 obtain ⟨y133,hy133⟩ : ∃ y_ : List Int,y_=(([a0_0,a0_1,a0_2,a0_3,a0_4] : List Int)):=⟨_,rfl⟩
 replace H : (some y133)=some r:=by first | (rw [hy133]; with_reducible exact H) | (have H2_:=(Option.bind_some _ _).symm.trans H; rw [hy133]; with_reducible exact H2_) | (have H2_:=(Option.bind_some _ _).symm.trans H; with_reducible exact H2_) | with_reducible exact H | (rw [hy133]; exact H) | exact H
 have Ny133:=Aside0.mk hy133
 clear hy133
 obtain rfl:=Option.some.inj H
 go_enter Tryd.func67,Tryd.ntmps67
 go_wp2_with (first | ((with_reducible refine gate_dst (N:=1) rfl ?_); refine box_event ?hg (N:=1) ?hd (cs:=#[.int .u8 a0_0, .int .u8 a0_1, .int .u8 a0_2, .int .u8 a0_3, .int .u8 a0_4]) (t:=25) ?hr ?_; (case hd=>rfl); (case hg=>rfl); (case hr=>first | (go_simp; done) | (go_simp; rfl)); intro gb132 hg w2 hbox hb; have n0_:=Aside0.mk (below_step (by repeat (first | (with_reducible first | exact HB.out | apply bA | apply bN | apply bD) | exact HB.out)) hb); have n1_:=Aside0.mk (hbox); have n2_:=Aside0.mk ((by rw [hg]; exact (below_size (by repeat (first | (with_reducible first | exact HB.out | apply bA | apply bN | apply bD) | exact HB.out))) : w.heap.size≤gb132)); have n3_:=Aside0.mk ((by rw [hg]; exact (below_size (by repeat (first | (with_reducible first | exact HB.out | apply bA | apply bN | apply bD) | exact HB.out))) : w.heap.size≤gb132)); clear HB; have HB:=n0_; have BK132:=n1_; have GW132:=n2_; have GE132:=n3_; clear n0_ n1_ n2_ n3_; clear hb hbox hg; have hcz3_0:w2.cell? ⟨gb132,0,none⟩=some (.int .u8 a0_0):=blk_cell BK132.out 0; have hcz3_1:w2.cell? ⟨gb132,1,none⟩=some (.int .u8 a0_1):=blk_cell BK132.out 1; have hcz3_2:w2.cell? ⟨gb132,2,none⟩=some (.int .u8 a0_2):=blk_cell BK132.out 2; have hcz3_3:w2.cell? ⟨gb132,3,none⟩=some (.int .u8 a0_3):=blk_cell BK132.out 3; have hcz3_4:w2.cell? ⟨gb132,4,none⟩=some (.int .u8 a0_4):=blk_cell BK132.out 4; have hfz3_0:=blk_frozen BK132.out 0; have hfz3_1:=blk_frozen BK132.out 1; have hfz3_2:=blk_frozen BK132.out 2; have hfz3_3:=blk_frozen BK132.out 3; have hfz3_4:=blk_frozen BK132.out 4) | ((with_reducible refine gate_dst (N:=13) rfl ?_); refine Kd.R_lit (Kd.int .u8) _ 5 ?hg (N:=13) ?hd (xs:=([a0_0,a0_1,a0_2,a0_3,a0_4] : List Int)) (inner:=[.int .u8 a0_0, .int .u8 a0_1, .int .u8 a0_2, .int .u8 a0_3, .int .u8 a0_4]) (ok:=fun _=>True) (okp:=fun _=>True) ?hr ?hp (fun _ hk=>hk) trivial (Below.refl _ _) (Nat.le_refl _) (by simp) ?_; (case hd=>rfl); (case hg=>rfl); (case hr=>first | (go_simp; done) | (go_simp; rfl)); (case hp=>exact (Reps.one (show Kd.M (Kd.int .u8) _ _ _ a0_0 [.int .u8 a0_0] from rfl) (Reps.one (show Kd.M (Kd.int .u8) _ _ _ a0_1 [.int .u8 a0_1] from rfl) (Reps.one (show Kd.M (Kd.int .u8) _ _ _ a0_2 [.int .u8 a0_2] from rfl) (Reps.one (show Kd.M (Kd.int .u8) _ _ _ a0_3 [.int .u8 a0_3] from rfl) (Reps.one (show Kd.M (Kd.int .u8) _ _ _ a0_4 [.int .u8 a0_4] from rfl) (Reps.none _ _))))))); intro v134 w4 ho5 hb hg_ hnew_; clear hg_ hnew_; (first | rw [← Ny133.out] at ho5 | (simp only [Int.reduceToNat] at ho5; rw [← Ny133.out] at ho5)); have n0_:=Aside0.mk (Kd.R_lower ho5 (below_size (by repeat (first | (with_reducible first | exact HB.out | apply bA | apply bN | apply bD | refine below_set ?_ GE132.out) | exact HB.out)))); have n1_:=Aside0.mk (blk_below (g:=gb132) (o := .cells #[.int .u8 a0_0, .int .u8 a0_1, .int .u8 a0_2, .int .u8 a0_3, .int .u8 a0_4] 25 (0,0)) (by (with_reducible repeat (first | refine kN ?_ _ | refine kD ?_ | refine kA ?_ _)); exact BK132.out) hb); have n2_:=Aside0.mk (below_step (by repeat (first | (with_reducible first | exact HB.out | apply bA | apply bN | apply bD | refine below_set ?_ GE132.out) | exact HB.out)) hb); clear BK132; clear HB; have HO135:=n0_; have BK132:=n1_; have HB:=n2_; clear n0_ n1_ n2_; clear hb ho5))
 go_ret
 exact ⟨_,by first | rfl | (simp [errW_none,errW_some] <;> rfl) | (simp [*,errW_none,errW_some] <;> rfl),by (with_reducible repeat (first | apply Kd.R_alloc | apply Kd.R_drewN | apply Kd.R_drew)); exact HO135.out,by repeat (first | (with_reducible first | exact HB.out | apply bA | apply bN | apply bD | refine below_set ?_ GE132.out) | exact HB.out)⟩

/-! ### delim_Right: function 41 -/
def delim_Right.l0 : Nat→List Int→List Int→Int→Int→Option (Bool)
 | 0,_,_,_,_=>none
 | k + 1,x3,x12,x13,x14=>if x14 < x13 then (if 0≤x14 then (if x14 < (x12.length : Int) then (if (Go.bits .or .u8 (rd x12 x14) 32) ≥ 97 then (if (rd x12 x14)≤32 then (some false) else (if (rd x12 x14) > 126 then (some false) else (if (Go.bits .or .u8 (rd x12 x14) 32)≤122 then (some false) else (if (rd x12 x14) ≥ 48 then (if (rd x12 x14)≤57 then (some false) else ((bytes_IndexByte.f x3 (rd x12 x14)).bind fun t146=>(if t146 < x14 then (some false) else (delim_Right.l0 k x3 x12 x13 (wrap64 (x14 + 1)))))) else ((bytes_IndexByte.f x3 (rd x12 x14)).bind fun t147=>(if t147 < x14 then (some false) else (delim_Right.l0 k x3 x12 x13 (wrap64 (x14 + 1))))))))) else (if (rd x12 x14)≤32 then (some false) else (if (rd x12 x14) > 126 then (some false) else (if (rd x12 x14) ≥ 48 then (if (rd x12 x14)≤57 then (some false) else ((bytes_IndexByte.f x3 (rd x12 x14)).bind fun t148=>(if t148 < x14 then (some false) else (delim_Right.l0 k x3 x12 x13 (wrap64 (x14 + 1)))))) else ((bytes_IndexByte.f x3 (rd x12 x14)).bind fun t149=>(if t149 < x14 then (some false) else (delim_Right.l0 k x3 x12 x13 (wrap64 (x14 + 1))))))))) else (none)) else (none)) else (some true)
def delim_Right.f (k : Nat) (a0_0 : Int) (a0_1 : Int) (a0_2 : Int) (a0_3 : Int) (a0_4 : Int) : Option (Bool):=(delim_Plain.f).bind fun bt137=>(if (a0_0 == bt137.1 && (a0_1 == bt137.2.1 && (a0_2 == bt137.2.2.1 && (a0_3 == bt137.2.2.2.1 && (a0_4 == bt137.2.2.2.2)))))=true then (some true) else ((delim_five.f a0_0 a0_1 a0_2 a0_3 a0_4).bind fun t142=>(delim_Right.l0 k t142 t142 (t142.length : Int) 0)))
theorem delim_Right.mono_l : ∀ k,(∀ y0 y1 y2 y3,LeO (delim_Right.l0 k y0 y1 y2 y3) (delim_Right.l0 (k + 1) y0 y1 y2 y3))
 | 0=>fun _ _ _ _ r h=>by simp [delim_Right.l0] at h
 | k + 1=>by
  have ih0:=delim_Right.mono_l k
  ·intro y0 y1 y2 y3
   unfold delim_Right.l0
   repeat' first
   | (with_reducible exact ih0 _ _ _ _)
   | (with_reducible exact LeO.refl _)
   | (with_reducible exact LeO.none _)
   | (with_reducible refine LeO.ite ?_ ?_)
   | (with_reducible refine LeO.bind ?_ (fun _=>?_))
   | exact ih0 _ _ _ _
   | exact LeO.none _
   | refine LeO.ite ?_ ?_
   | refine LeO.bind ?_ (fun _=>?_)
theorem delim_Right.mono : ∀ a0 a1 a2 a3 a4 k,LeO (delim_Right.f k a0 a1 a2 a3 a4) (delim_Right.f (k + 1) a0 a1 a2 a3 a4):=by
 intro a0 a1 a2 a3 a4 k
 have ih0:=delim_Right.mono_l k
 unfold delim_Right.f
 repeat' first
   | (with_reducible exact ih0 _ _ _ _)
   | (with_reducible exact LeO.refl _)
   | (with_reducible exact LeO.none _)
   | (with_reducible refine LeO.ite ?_ ?_)
   | (with_reducible refine LeO.bind ?_ (fun _=>?_))
   | exact ih0 _ _ _ _
   | exact LeO.none _
   | refine LeO.ite ?_ ?_
   | refine LeO.bind ?_ (fun _=>?_)
theorem delim_Right.calls (k : Nat) (a0_0 : Int) (a0_1 : Int) (a0_2 : Int) (a0_3 : Int) (a0_4 : Int) (r : Bool) (w : World) (h : delim_Right.f k a0_0 a0_1 a0_2 a0_3 a0_4=some r) :
  Calls Tryd.prog 41 #[.agg #[.int .u8 a0_0, .int .u8 a0_1, .int .u8 a0_2, .int .u8 a0_3, .int .u8 a0_4]] w fun e w'=>e = .returned (.bool r)∧Below w.heap.size w w':=by
 have hu25:=Tryd.underlying25
 have HB:=Aside0.mk (Below.refl w.heap.size w)
 have H : ((delim_Plain.f).bind fun bt137=>(if (a0_0 == bt137.1 && (a0_1 == bt137.2.1 && (a0_2 == bt137.2.2.1 && (a0_3 == bt137.2.2.2.1 && (a0_4 == bt137.2.2.2.2)))))=true then (some true) else ((delim_five.f a0_0 a0_1 a0_2 a0_3 a0_4).bind fun t142=>(delim_Right.l0 k t142 t142 (t142.length : Int) 0))))=some r:=h
 clear h
 replace H:=Option.bind_eq_some_iff.mp H
 obtain ⟨⟨t137,t138,t139,t140,t141⟩,A20,H⟩:=H
 replace H : (if (a0_0 == t137 && (a0_1 == t138 && (a0_2 == t139 && (a0_3 == t140 && (a0_4 == t141)))))=true then (some true) else ((delim_five.f a0_0 a0_1 a0_2 a0_3 a0_4).bind fun t142=>(delim_Right.l0 k t142 t142 (t142.length : Int) 0)))=some r:=H
 have A2:=Aside0.mk A20
 clear A20
 by_cases c3 : (a0_0 == t137 && (a0_1 == t138 && (a0_2 == t139 && (a0_3 == t140 && (a0_4 == t141)))))=true
 ·rw [if_pos c3] at H
  have c3b0 : (a0_0 == t137 && (a0_1 == t138 && (a0_2 == t139 && (a0_3 == t140 && (a0_4 == t141)))))=true:=c3
  (try (have c3b1:decide (a0_0=t137 && (a0_1 == t138 && (a0_2 == t139 && (a0_3 == t140 && (a0_4 == t141)))))=true:=by simpa using c3))
  (try (have c3b2 : (a0_0 == t137 && (a0_1 == t138 && (a0_2 == t139 && (a0_3 == t140 && (a0_4 == t141)))))=true:=by simpa using c3))
  clear c3
  obtain rfl:=Option.some.inj H
  go_enter Tryd.func41,Tryd.ntmps41
  try go_wp2_with (first | ((with_reducible refine gate_dst (N:=1) rfl ?_); refine box_event ?hg (N:=1) ?hd (cs:=#[.int .u8 a0_0, .int .u8 a0_1, .int .u8 a0_2, .int .u8 a0_3, .int .u8 a0_4]) (t:=25) ?hr ?_; (case hd=>rfl); (case hg=>rfl); (case hr=>first | (go_simp; done) | (go_simp; rfl)); intro gb136 hg w4 hbox hb; have n0_:=Aside0.mk (below_step (by repeat (first | (with_reducible first | exact HB.out | apply bA | apply bN | apply bD) | exact HB.out)) hb); have n1_:=Aside0.mk (hbox); have n2_:=Aside0.mk ((by rw [hg]; exact (below_size (by repeat (first | (with_reducible first | exact HB.out | apply bA | apply bN | apply bD) | exact HB.out))) : w.heap.size≤gb136)); have n3_:=Aside0.mk ((by rw [hg]; exact (below_size (by repeat (first | (with_reducible first | exact HB.out | apply bA | apply bN | apply bD) | exact HB.out))) : w.heap.size≤gb136)); clear HB; have HB:=n0_; have BK136:=n1_; have GW136:=n2_; have GE136:=n3_; clear n0_ n1_ n2_ n3_; clear hb hbox hg))
  have n0_:=Aside0.mk (blk_drew BK136.out)
  have n1_:=Aside0.mk (below_drew1 HB.out)
  clear BK136
  clear HB
  have BK136:=n0_
  have HB:=n1_
  clear n0_ n1_
  refine start_ (n:=3) (S:=fun w'=>w'.cell? ⟨gb136,0,none⟩=some (.int .u8 a0_0)∧w'.cell? ⟨gb136,1,none⟩=some (.int .u8 a0_1)∧w'.cell? ⟨gb136,2,none⟩=some (.int .u8 a0_2)∧w'.cell? ⟨gb136,3,none⟩=some (.int .u8 a0_3)∧w'.cell? ⟨gb136,4,none⟩=some (.int .u8 a0_4)) (ds:=[]) #[false,false,false] (by kernel_rfl) rfl rfl ⟨blk_cell BK136.out 0,blk_cell BK136.out 1,blk_cell BK136.out 2,blk_cell BK136.out 3,blk_cell BK136.out 4⟩ (fun hHeld=>?_)
  generalize w4.drew=w5 at BK136 HB hHeld ⊢
  refine take_ (i:=0) (N:=some 7) (v:=?_) (a':=?_) #[true,false,false] rfl rfl (by kernel_rfl) (fun _ _ _ h=>h) (Or.inl ⟨by rfl,?_⟩) hHeld ?_ ?_
  rotate_left
  ·rintro w' ⟨s0,s1,s2,s3,s4⟩
   go_simp
   with_reducible rfl
  rotate_left
  ·simp only [Act.put,sA_,s0_,s1_,i64_w,i32_w]
   rfl
  refine one_ (i:=1) (N:=some 8) #[true,true,false] rfl rfl (by kernel_rfl) (by decide) (fun K hK=>?_)
  refine goes_ Tryd.func66 (by kernel_rfl) rfl #[] (by rfl) rfl rfl (by (try simp only [List.map_toArray,List.map_cons,List.map_nil]); first | done | rfl | (simp only [List.length_drop,List.length_take]; rfl)) ?_
  with_reducible refine (delim_Plain.calls  t137 t138 t139 t140 t141 _ A2.out).mono ?_
  rintro e w6 ⟨rfl,hb⟩
  refine ⟨_,rfl,?_⟩
  have n0_:=Aside0.mk (blk_below (g:=gb136) (o := .cells #[.int .u8 a0_0, .int .u8 a0_1, .int .u8 a0_2, .int .u8 a0_3, .int .u8 a0_4] 25 (0,0)) (by (with_reducible repeat (first | refine kN ?_ _ | refine kD ?_ | refine kA ?_ _)); exact BK136.out) hb)
  have n1_:=Aside0.mk (below_step (by repeat (first | (with_reducible first | exact HB.out | apply bA | apply bN | apply bD | refine below_set ?_ GE136.out) | exact HB.out)) hb)
  clear BK136
  clear HB
  have BK136:=n0_
  have HB:=n1_
  clear n0_ n1_
  (try clear hb)
  (try clear hb2)
  (try clear hk)
  (try clear hi)
  refine hK.out _ _ ⟨blk_cell BK136.out 0,blk_cell BK136.out 1,blk_cell BK136.out 2,blk_cell BK136.out 3,blk_cell BK136.out 4⟩ (fun hHeld=>?_)
  clear hK K
  refine norm_ (a':=?_) ?_ ?_
  rotate_left
  ·show Act.put _ (some 8) _=_
   simp only [Act.put,sA_,s0_,s1_,i64_w,i32_w]
   rfl
  refine pure_ (i:=2) (N:=some 9) (v:=?_) (a':=?_) #[true,true,true] rfl rfl (by kernel_rfl) (fun _ _ _ h=>h) (Or.inl ⟨by rfl,?_⟩) ?_ ?_
  rotate_left
  ·intro w'
   go_simp
   with_reducible rfl
  rotate_left
  ·simp only [Act.put,sA_,s0_,s1_,i64_w,i32_w]
   rfl
  refine done_ (by kernel_rfl) ?_
  try go_wp2
  go_ret
  exact ⟨by first | rfl | (simp [errW_none,errW_some] <;> rfl) | (simp [*,errW_none,errW_some] <;> rfl),by repeat (first | (with_reducible first | exact HB.out | apply bA | apply bN | apply bD | refine below_set ?_ GE136.out) | exact HB.out)⟩
 ·rw [if_neg c3] at H
  have c3b0 : (a0_0 == t137 && (a0_1 == t138 && (a0_2 == t139 && (a0_3 == t140 && (a0_4 == t141)))))=false:=by simpa using c3
  (try (have c3b1:decide (a0_0=t137 && (a0_1 == t138 && (a0_2 == t139 && (a0_3 == t140 && (a0_4 == t141)))))=false:=by simpa using c3))
  (try (have c3b2 : (a0_0 == t137 && (a0_1 == t138 && (a0_2 == t139 && (a0_3 == t140 && (a0_4 == t141)))))=false:=by simpa using c3))
  (try (have c3b3 : ¬ (a0_0=t137 && (a0_1 == t138 && (a0_2 == t139 && (a0_3 == t140 && (a0_4 == t141))))):=by simpa using c3))
  clear c3
  replace H:=Option.bind_eq_some_iff.mp H
  obtain ⟨t142,A70,H⟩:=H
  replace H : (delim_Right.l0 k t142 t142 (t142.length : Int) 0)=some r:=H
  have A7:=Aside0.mk A70
  clear A70
  have H':=Aside0.mk H
  clear H
  go_enter Tryd.func41,Tryd.ntmps41
  try go_wp2_with (first | ((with_reducible refine gate_dst (N:=1) rfl ?_); refine box_event ?hg (N:=1) ?hd (cs:=#[.int .u8 a0_0, .int .u8 a0_1, .int .u8 a0_2, .int .u8 a0_3, .int .u8 a0_4]) (t:=25) ?hr ?_; (case hd=>rfl); (case hg=>rfl); (case hr=>first | (go_simp; done) | (go_simp; rfl)); intro gb136 hg w8 hbox hb; have n0_:=Aside0.mk (below_step (by repeat (first | (with_reducible first | exact HB.out | apply bA | apply bN | apply bD) | exact HB.out)) hb); have n1_:=Aside0.mk (hbox); have n2_:=Aside0.mk ((by rw [hg]; exact (below_size (by repeat (first | (with_reducible first | exact HB.out | apply bA | apply bN | apply bD) | exact HB.out))) : w.heap.size≤gb136)); have n3_:=Aside0.mk ((by rw [hg]; exact (below_size (by repeat (first | (with_reducible first | exact HB.out | apply bA | apply bN | apply bD) | exact HB.out))) : w.heap.size≤gb136)); clear HB; have HB:=n0_; have BK136:=n1_; have GW136:=n2_; have GE136:=n3_; clear n0_ n1_ n2_ n3_; clear hb hbox hg))
  have n0_:=Aside0.mk (blk_drew BK136.out)
  have n1_:=Aside0.mk (below_drew1 HB.out)
  clear BK136
  clear HB
  have BK136:=n0_
  have HB:=n1_
  clear n0_ n1_
  refine start_ (n:=3) (S:=fun w'=>w'.cell? ⟨gb136,0,none⟩=some (.int .u8 a0_0)∧w'.cell? ⟨gb136,1,none⟩=some (.int .u8 a0_1)∧w'.cell? ⟨gb136,2,none⟩=some (.int .u8 a0_2)∧w'.cell? ⟨gb136,3,none⟩=some (.int .u8 a0_3)∧w'.cell? ⟨gb136,4,none⟩=some (.int .u8 a0_4)) (ds:=[]) #[false,false,false] (by kernel_rfl) rfl rfl ⟨blk_cell BK136.out 0,blk_cell BK136.out 1,blk_cell BK136.out 2,blk_cell BK136.out 3,blk_cell BK136.out 4⟩ (fun hHeld=>?_)
  generalize w8.drew=w9 at BK136 HB hHeld ⊢
  refine take_ (i:=0) (N:=some 7) (v:=?_) (a':=?_) #[true,false,false] rfl rfl (by kernel_rfl) (fun _ _ _ h=>h) (Or.inl ⟨by rfl,?_⟩) hHeld ?_ ?_
  rotate_left
  ·rintro w' ⟨s0,s1,s2,s3,s4⟩
   go_simp
   with_reducible rfl
  rotate_left
  ·simp only [Act.put,sA_,s0_,s1_,i64_w,i32_w]
   rfl
  refine one_ (i:=1) (N:=some 8) #[true,true,false] rfl rfl (by kernel_rfl) (by decide) (fun K hK=>?_)
  refine goes_ Tryd.func66 (by kernel_rfl) rfl #[] (by rfl) rfl rfl (by (try simp only [List.map_toArray,List.map_cons,List.map_nil]); first | done | rfl | (simp only [List.length_drop,List.length_take]; rfl)) ?_
  with_reducible refine (delim_Plain.calls  t137 t138 t139 t140 t141 _ A2.out).mono ?_
  rintro e w10 ⟨rfl,hb⟩
  refine ⟨_,rfl,?_⟩
  have n0_:=Aside0.mk (blk_below (g:=gb136) (o := .cells #[.int .u8 a0_0, .int .u8 a0_1, .int .u8 a0_2, .int .u8 a0_3, .int .u8 a0_4] 25 (0,0)) (by (with_reducible repeat (first | refine kN ?_ _ | refine kD ?_ | refine kA ?_ _)); exact BK136.out) hb)
  have n1_:=Aside0.mk (below_step (by repeat (first | (with_reducible first | exact HB.out | apply bA | apply bN | apply bD | refine below_set ?_ GE136.out) | exact HB.out)) hb)
  clear BK136
  clear HB
  have BK136:=n0_
  have HB:=n1_
  clear n0_ n1_
  (try clear hb)
  (try clear hb2)
  (try clear hk)
  (try clear hi)
  refine hK.out _ _ ⟨blk_cell BK136.out 0,blk_cell BK136.out 1,blk_cell BK136.out 2,blk_cell BK136.out 3,blk_cell BK136.out 4⟩ (fun hHeld=>?_)
  clear hK K
  refine norm_ (a':=?_) ?_ ?_
  rotate_left
  ·show Act.put _ (some 8) _=_
   simp only [Act.put,sA_,s0_,s1_,i64_w,i32_w]
   rfl
  refine pure_ (i:=2) (N:=some 9) (v:=?_) (a':=?_) #[true,true,true] rfl rfl (by kernel_rfl) (fun _ _ _ h=>h) (Or.inl ⟨by rfl,?_⟩) ?_ ?_
  rotate_left
  ·intro w'
   go_simp
   with_reducible rfl
  rotate_left
  ·simp only [Act.put,sA_,s0_,s1_,i64_w,i32_w]
   rfl
  refine done_ (by kernel_rfl) ?_
  have hcz11_0:w10.cell? ⟨gb136,0,none⟩=some (.int .u8 a0_0):=blk_cell BK136.out 0
  have hcz11_1:w10.cell? ⟨gb136,1,none⟩=some (.int .u8 a0_1):=blk_cell BK136.out 1
  have hcz11_2:w10.cell? ⟨gb136,2,none⟩=some (.int .u8 a0_2):=blk_cell BK136.out 2
  have hcz11_3:w10.cell? ⟨gb136,3,none⟩=some (.int .u8 a0_3):=blk_cell BK136.out 3
  have hcz11_4:w10.cell? ⟨gb136,4,none⟩=some (.int .u8 a0_4):=blk_cell BK136.out 4
  have hfz11_0:=blk_frozen BK136.out 0
  have hfz11_1:=blk_frozen BK136.out 1
  have hfz11_2:=blk_frozen BK136.out 2
  have hfz11_3:=blk_frozen BK136.out 3
  have hfz11_4:=blk_frozen BK136.out 4
  try go_wp2_with (first | ((with_reducible refine gate_callee (f:=67) rfl ?_); refine goesL_ (some 11) rfl rfl Tryd.func67 (by kernel_rfl) rfl #[.agg #[.int .u8 a0_0, .int .u8 a0_1, .int .u8 a0_2, .int .u8 a0_3, .int .u8 a0_4]] rfl (by (try simp only [List.map_toArray,List.map_cons,List.map_nil]); first | done | rfl | (simp only [List.length_drop,List.length_take]; rfl)) ?_; (with_reducible refine (delim_five.calls a0_0 a0_1 a0_2 a0_3 a0_4 t142 _ A7.out).mono ?_); rintro e w12 ⟨v143,rfl,ho0,hb⟩; refine ⟨_,rfl,?_⟩; have n0_:=Aside0.mk (Kd.R_lower ho0 (below_size (by repeat (first | (with_reducible first | exact HB.out | apply bA | apply bN | apply bD | refine below_set ?_ GE136.out) | exact HB.out)))); have n1_:=Aside0.mk (blk_below (g:=gb136) (o := .cells #[.int .u8 a0_0, .int .u8 a0_1, .int .u8 a0_2, .int .u8 a0_3, .int .u8 a0_4] 25 (0,0)) (by (with_reducible repeat (first | refine kN ?_ _ | refine kD ?_ | refine kA ?_ _)); exact BK136.out) hb); have n2_:=Aside0.mk (below_step (by repeat (first | (with_reducible first | exact HB.out | apply bA | apply bN | apply bD | refine below_set ?_ GE136.out) | exact HB.out)) hb); clear BK136; clear HB; have HO144:=n0_; have BK136:=n1_; have HB:=n2_; clear n0_ n1_ n2_; (try clear hb); (try clear ho0); obtain ⟨Ao13,co13,eo13⟩:=Kd.R_slice HO144.out; subst eo13))
  go_loopg [14] k (fun kq v14 w' => ∃ (x14_1 : Int),v14 = .int .i64 x14_1∧Aside0 (delim_Right.l0 kq t142 t142 (t142.length : Int) x14_1=some r)∧Aside0 (kq≤k)∧Aside0 (Kd.R (Kd.int .u8) 5 w' w.heap.size (fun _=>True) (.slice Ao13 t142.length co13) t142)∧Aside0 (Kd.R (Kd.int .u8) 5 w' w.heap.size (fun _=>True) (.slice Ao13 t142.length co13) t142)∧Aside0 (w'.heap[gb136]?=some (.cells #[.int .u8 a0_0, .int .u8 a0_1, .int .u8 a0_2, .int .u8 a0_3, .int .u8 a0_4] 25 (0,0)))∧Aside0 (Below w.heap.size w w'))
  case atStart=>exact ⟨(0),(by first | rfl | (simp; done) | (simp [*]; done)),H',⟨Nat.le_refl _⟩,⟨by (with_reducible repeat (first | apply Kd.R_alloc | apply Kd.R_drewN | apply Kd.R_drew)); exact HO144.out⟩,⟨by (with_reducible repeat (first | apply Kd.R_alloc | apply Kd.R_drewN | apply Kd.R_drew)); exact HO144.out⟩,⟨by (with_reducible repeat (first | refine kN ?_ _ | refine kD ?_ | refine kA ?_ _)); exact BK136.out⟩,⟨by repeat (first | (with_reducible first | exact HB.out | apply bA | apply bN | apply bD | refine below_set ?_ GE136.out) | exact HB.out)⟩⟩
  case round =>
   clear H'
   try clear p2
   try clear c3
   try clear c3b0
   try clear c3b1
   try clear c3b2
   try clear c4
   try clear c6
   try clear hcz11_0
   try clear hcz11_1
   try clear hcz11_2
   try clear hcz11_3
   try clear hcz11_4
   try clear hfz11_0
   try clear hfz11_1
   try clear hfz11_2
   try clear hfz11_3
   try clear hfz11_4
   obtain ⟨x14_1,rfl,HA,HK1,HO_3,HO_12,BK136,HB⟩:=hrel
   cases gk with
   | zero=>exact absurd HA.out (by simp [delim_Right.l0])
   | succ k1 =>
    have H:=HA.out
    clear HA
    simp only [delim_Right.l0] at H
    by_cases c14 : x14_1 < (t142.length : Int)
    ·rw [if_pos c14] at H
     have c14b0:decide (x14_1 < (t142.length : Int))=true:=decide_eq_true c14
     clear c14
     by_cases c15 : 0≤x14_1
     ·rw [if_pos c15] at H
      have c15b0:decide (0≤x14_1)=true:=decide_eq_true c15
      clear c15
      by_cases c16 : x14_1 < (t142.length : Int)
      ·rw [if_pos c16] at H
       have c16b0:decide (x14_1 < (t142.length : Int))=true:=decide_eq_true c16
       clear c16
       by_cases c17 : (Go.bits .or .u8 (rd t142 x14_1) 32) ≥ 97
       ·rw [if_pos c17] at H
        have c17b0:decide (97≤(Go.bits .or .u8 (rd t142 x14_1) 32))=true:=decide_eq_true c17
        clear c17
        by_cases c18 : (rd t142 x14_1)≤32
        ·rw [if_pos c18] at H
         have c18b0:decide ((rd t142 x14_1)≤32)=true:=decide_eq_true c18
         clear c18
         obtain rfl:=Option.some.inj H
         have p145:0≤(x14_1 : Int):=of_decide_eq_true (by first | (with_reducible assumption) | assumption)
         have q145:x14_1 < (t142.length : Int):=of_decide_eq_true (by first | (with_reducible assumption) | assumption)
         obtain ⟨ad145,e145,hx145_0⟩:=Kd.at_int (Kd.R_reads' HO_12.out).2.2 x14_1 p145 q145
         cases e145
         replace p145:=eq_true p145
         replace q145:=eq_true q145
         go_wp2
         go_ret
         exact ⟨by first | rfl | (simp [errW_none,errW_some] <;> rfl) | (simp [*,errW_none,errW_some] <;> rfl),by repeat (first | (with_reducible first | exact HB.out | apply bA | apply bN | apply bD | refine below_set ?_ GE136.out) | exact HB.out)⟩
        ·rw [if_neg c18] at H
         have c18b0:decide ((rd t142 x14_1)≤32)=false:=decide_eq_false c18
         clear c18
         by_cases c19 : (rd t142 x14_1) > 126
         ·rw [if_pos c19] at H
          have c19b0:decide (126 < (rd t142 x14_1))=true:=decide_eq_true c19
          clear c19
          obtain rfl:=Option.some.inj H
          have p145:0≤(x14_1 : Int):=of_decide_eq_true (by first | (with_reducible assumption) | assumption)
          have q145:x14_1 < (t142.length : Int):=of_decide_eq_true (by first | (with_reducible assumption) | assumption)
          obtain ⟨ad145,e145,hx145_0⟩:=Kd.at_int (Kd.R_reads' HO_12.out).2.2 x14_1 p145 q145
          cases e145
          replace p145:=eq_true p145
          replace q145:=eq_true q145
          go_wp2
          go_ret
          exact ⟨by first | rfl | (simp [errW_none,errW_some] <;> rfl) | (simp [*,errW_none,errW_some] <;> rfl),by repeat (first | (with_reducible first | exact HB.out | apply bA | apply bN | apply bD | refine below_set ?_ GE136.out) | exact HB.out)⟩
         ·rw [if_neg c19] at H
          have c19b0:decide (126 < (rd t142 x14_1))=false:=decide_eq_false c19
          clear c19
          by_cases c20 : (Go.bits .or .u8 (rd t142 x14_1) 32)≤122
          ·rw [if_pos c20] at H
           have c20b0:decide ((Go.bits .or .u8 (rd t142 x14_1) 32)≤122)=true:=decide_eq_true c20
           clear c20
           obtain rfl:=Option.some.inj H
           have p145:0≤(x14_1 : Int):=of_decide_eq_true (by first | (with_reducible assumption) | assumption)
           have q145:x14_1 < (t142.length : Int):=of_decide_eq_true (by first | (with_reducible assumption) | assumption)
           obtain ⟨ad145,e145,hx145_0⟩:=Kd.at_int (Kd.R_reads' HO_12.out).2.2 x14_1 p145 q145
           cases e145
           replace p145:=eq_true p145
           replace q145:=eq_true q145
           go_wp2
           go_ret
           exact ⟨by first | rfl | (simp [errW_none,errW_some] <;> rfl) | (simp [*,errW_none,errW_some] <;> rfl),by repeat (first | (with_reducible first | exact HB.out | apply bA | apply bN | apply bD | refine below_set ?_ GE136.out) | exact HB.out)⟩
          ·rw [if_neg c20] at H
           have c20b0:decide ((Go.bits .or .u8 (rd t142 x14_1) 32)≤122)=false:=decide_eq_false c20
           clear c20
           by_cases c21 : (rd t142 x14_1) ≥ 48
           ·rw [if_pos c21] at H
            have c21b0:decide (48≤(rd t142 x14_1))=true:=decide_eq_true c21
            clear c21
            by_cases c22 : (rd t142 x14_1)≤57
            ·rw [if_pos c22] at H
             have c22b0:decide ((rd t142 x14_1)≤57)=true:=decide_eq_true c22
             clear c22
             obtain rfl:=Option.some.inj H
             have p145:0≤(x14_1 : Int):=of_decide_eq_true (by first | (with_reducible assumption) | assumption)
             have q145:x14_1 < (t142.length : Int):=of_decide_eq_true (by first | (with_reducible assumption) | assumption)
             obtain ⟨ad145,e145,hx145_0⟩:=Kd.at_int (Kd.R_reads' HO_12.out).2.2 x14_1 p145 q145
             cases e145
             replace p145:=eq_true p145
             replace q145:=eq_true q145
             go_wp2
             go_ret
             exact ⟨by first | rfl | (simp [errW_none,errW_some] <;> rfl) | (simp [*,errW_none,errW_some] <;> rfl),by repeat (first | (with_reducible first | exact HB.out | apply bA | apply bN | apply bD | refine below_set ?_ GE136.out) | exact HB.out)⟩
            ·rw [if_neg c22] at H
             have c22b0:decide ((rd t142 x14_1)≤57)=false:=decide_eq_false c22
             clear c22
             replace H:=Option.bind_eq_some_iff.mp H
             obtain ⟨t146,A230,H⟩:=H
             replace H : (if t146 < x14_1 then (some false) else (delim_Right.l0 k1 t142 t142 (t142.length : Int) (wrap64 (x14_1 + 1))))=some r:=H
             have A23:=Aside0.mk A230
             clear A230
             by_cases c24 : t146 < x14_1
             ·rw [if_pos c24] at H
              have c24b0:decide (t146 < x14_1)=true:=decide_eq_true c24
              clear c24
              obtain rfl:=Option.some.inj H
              have p145:0≤(x14_1 : Int):=of_decide_eq_true (by first | (with_reducible assumption) | assumption)
              have q145:x14_1 < (t142.length : Int):=of_decide_eq_true (by first | (with_reducible assumption) | assumption)
              obtain ⟨ad145,e145,hx145_0⟩:=Kd.at_int (Kd.R_reads' HO_12.out).2.2 x14_1 p145 q145
              cases e145
              replace p145:=eq_true p145
              replace q145:=eq_true q145
              go_wp2_with (first | (go_at_call 13; (with_reducible refine (bytes_IndexByte.calls _ _ t142 (rd t142 x14_1) t146 _ ?side1 ?side2 A23.out).mono ?_); (case side1=>repeat (first | exact (Kd.R_reads' HO_3.out).2.2 | (with_reducible refine Kd.C_alloc ?_ _) | (with_reducible refine Kd.C_drewN ?_ _) | (with_reducible refine Kd.C_drew ?_))); (case side2=>exact (Kd.R_reads' HO_3.out).2.1); rintro e w' ⟨rfl,⟨nd,rfl⟩⟩))
              go_ret
              exact ⟨by first | rfl | (simp [errW_none,errW_some] <;> rfl) | (simp [*,errW_none,errW_some] <;> rfl),by repeat (first | (with_reducible first | exact HB.out | apply bA | apply bN | apply bD | refine below_set ?_ GE136.out) | exact HB.out)⟩
             ·rw [if_neg c24] at H
              have c24b0:decide (t146 < x14_1)=false:=decide_eq_false c24
              clear c24
              have H':=Aside0.mk H
              clear H
              have p145:0≤(x14_1 : Int):=of_decide_eq_true (by first | (with_reducible assumption) | assumption)
              have q145:x14_1 < (t142.length : Int):=of_decide_eq_true (by first | (with_reducible assumption) | assumption)
              obtain ⟨ad145,e145,hx145_0⟩:=Kd.at_int (Kd.R_reads' HO_12.out).2.2 x14_1 p145 q145
              cases e145
              replace p145:=eq_true p145
              replace q145:=eq_true q145
              go_wp2_with (first | (go_at_call 13; (with_reducible refine (bytes_IndexByte.calls _ _ t142 (rd t142 x14_1) t146 _ ?side1 ?side2 A23.out).mono ?_); (case side1=>repeat (first | exact (Kd.R_reads' HO_3.out).2.2 | (with_reducible refine Kd.C_alloc ?_ _) | (with_reducible refine Kd.C_drewN ?_ _) | (with_reducible refine Kd.C_drew ?_))); (case side2=>exact (Kd.R_reads' HO_3.out).2.1); rintro e w' ⟨rfl,⟨nd,rfl⟩⟩))
              go_roundg k1
              case measure=>have:=HK1.out; omega
              case rel=>exact ⟨(wrap64 (x14_1 + 1)),(by first | rfl | (simp; done) | (simp [*]; done)),H',⟨by have:=HK1.out; omega⟩,⟨by (with_reducible repeat (first | apply Kd.R_alloc | apply Kd.R_drewN | apply Kd.R_drew)); exact HO_3.out⟩,⟨by (with_reducible repeat (first | apply Kd.R_alloc | apply Kd.R_drewN | apply Kd.R_drew)); exact HO_12.out⟩,⟨by (with_reducible repeat (first | refine kN ?_ _ | refine kD ?_ | refine kA ?_ _)); exact BK136.out⟩,⟨by repeat (first | (with_reducible first | exact HB.out | apply bA | apply bN | apply bD | refine below_set ?_ GE136.out) | exact HB.out)⟩⟩
           ·rw [if_neg c21] at H
            have c21b0:decide (48≤(rd t142 x14_1))=false:=decide_eq_false c21
            clear c21
            replace H:=Option.bind_eq_some_iff.mp H
            obtain ⟨t147,A250,H⟩:=H
            replace H : (if t147 < x14_1 then (some false) else (delim_Right.l0 k1 t142 t142 (t142.length : Int) (wrap64 (x14_1 + 1))))=some r:=H
            have A25:=Aside0.mk A250
            clear A250
            by_cases c26 : t147 < x14_1
            ·rw [if_pos c26] at H
             have c26b0:decide (t147 < x14_1)=true:=decide_eq_true c26
             clear c26
             obtain rfl:=Option.some.inj H
             have p145:0≤(x14_1 : Int):=of_decide_eq_true (by first | (with_reducible assumption) | assumption)
             have q145:x14_1 < (t142.length : Int):=of_decide_eq_true (by first | (with_reducible assumption) | assumption)
             obtain ⟨ad145,e145,hx145_0⟩:=Kd.at_int (Kd.R_reads' HO_12.out).2.2 x14_1 p145 q145
             cases e145
             replace p145:=eq_true p145
             replace q145:=eq_true q145
             go_wp2_with (first | (go_at_call 13; (with_reducible refine (bytes_IndexByte.calls _ _ t142 (rd t142 x14_1) t147 _ ?side1 ?side2 A25.out).mono ?_); (case side1=>repeat (first | exact (Kd.R_reads' HO_3.out).2.2 | (with_reducible refine Kd.C_alloc ?_ _) | (with_reducible refine Kd.C_drewN ?_ _) | (with_reducible refine Kd.C_drew ?_))); (case side2=>exact (Kd.R_reads' HO_3.out).2.1); rintro e w' ⟨rfl,⟨nd,rfl⟩⟩))
             go_ret
             exact ⟨by first | rfl | (simp [errW_none,errW_some] <;> rfl) | (simp [*,errW_none,errW_some] <;> rfl),by repeat (first | (with_reducible first | exact HB.out | apply bA | apply bN | apply bD | refine below_set ?_ GE136.out) | exact HB.out)⟩
            ·rw [if_neg c26] at H
             have c26b0:decide (t147 < x14_1)=false:=decide_eq_false c26
             clear c26
             have H':=Aside0.mk H
             clear H
             have p145:0≤(x14_1 : Int):=of_decide_eq_true (by first | (with_reducible assumption) | assumption)
             have q145:x14_1 < (t142.length : Int):=of_decide_eq_true (by first | (with_reducible assumption) | assumption)
             obtain ⟨ad145,e145,hx145_0⟩:=Kd.at_int (Kd.R_reads' HO_12.out).2.2 x14_1 p145 q145
             cases e145
             replace p145:=eq_true p145
             replace q145:=eq_true q145
             go_wp2_with (first | (go_at_call 13; (with_reducible refine (bytes_IndexByte.calls _ _ t142 (rd t142 x14_1) t147 _ ?side1 ?side2 A25.out).mono ?_); (case side1=>repeat (first | exact (Kd.R_reads' HO_3.out).2.2 | (with_reducible refine Kd.C_alloc ?_ _) | (with_reducible refine Kd.C_drewN ?_ _) | (with_reducible refine Kd.C_drew ?_))); (case side2=>exact (Kd.R_reads' HO_3.out).2.1); rintro e w' ⟨rfl,⟨nd,rfl⟩⟩))
             go_roundg k1
             case measure=>have:=HK1.out; omega
             case rel=>exact ⟨(wrap64 (x14_1 + 1)),(by first | rfl | (simp; done) | (simp [*]; done)),H',⟨by have:=HK1.out; omega⟩,⟨by (with_reducible repeat (first | apply Kd.R_alloc | apply Kd.R_drewN | apply Kd.R_drew)); exact HO_3.out⟩,⟨by (with_reducible repeat (first | apply Kd.R_alloc | apply Kd.R_drewN | apply Kd.R_drew)); exact HO_12.out⟩,⟨by (with_reducible repeat (first | refine kN ?_ _ | refine kD ?_ | refine kA ?_ _)); exact BK136.out⟩,⟨by repeat (first | (with_reducible first | exact HB.out | apply bA | apply bN | apply bD | refine below_set ?_ GE136.out) | exact HB.out)⟩⟩
       ·rw [if_neg c17] at H
        have c17b0:decide (97≤(Go.bits .or .u8 (rd t142 x14_1) 32))=false:=decide_eq_false c17
        clear c17
        by_cases c27 : (rd t142 x14_1)≤32
        ·rw [if_pos c27] at H
         have c27b0:decide ((rd t142 x14_1)≤32)=true:=decide_eq_true c27
         clear c27
         obtain rfl:=Option.some.inj H
         have p145:0≤(x14_1 : Int):=of_decide_eq_true (by first | (with_reducible assumption) | assumption)
         have q145:x14_1 < (t142.length : Int):=of_decide_eq_true (by first | (with_reducible assumption) | assumption)
         obtain ⟨ad145,e145,hx145_0⟩:=Kd.at_int (Kd.R_reads' HO_12.out).2.2 x14_1 p145 q145
         cases e145
         replace p145:=eq_true p145
         replace q145:=eq_true q145
         go_wp2
         go_ret
         exact ⟨by first | rfl | (simp [errW_none,errW_some] <;> rfl) | (simp [*,errW_none,errW_some] <;> rfl),by repeat (first | (with_reducible first | exact HB.out | apply bA | apply bN | apply bD | refine below_set ?_ GE136.out) | exact HB.out)⟩
        ·rw [if_neg c27] at H
         have c27b0:decide ((rd t142 x14_1)≤32)=false:=decide_eq_false c27
         clear c27
         by_cases c28 : (rd t142 x14_1) > 126
         ·rw [if_pos c28] at H
          have c28b0:decide (126 < (rd t142 x14_1))=true:=decide_eq_true c28
          clear c28
          obtain rfl:=Option.some.inj H
          have p145:0≤(x14_1 : Int):=of_decide_eq_true (by first | (with_reducible assumption) | assumption)
          have q145:x14_1 < (t142.length : Int):=of_decide_eq_true (by first | (with_reducible assumption) | assumption)
          obtain ⟨ad145,e145,hx145_0⟩:=Kd.at_int (Kd.R_reads' HO_12.out).2.2 x14_1 p145 q145
          cases e145
          replace p145:=eq_true p145
          replace q145:=eq_true q145
          go_wp2
          go_ret
          exact ⟨by first | rfl | (simp [errW_none,errW_some] <;> rfl) | (simp [*,errW_none,errW_some] <;> rfl),by repeat (first | (with_reducible first | exact HB.out | apply bA | apply bN | apply bD | refine below_set ?_ GE136.out) | exact HB.out)⟩
         ·rw [if_neg c28] at H
          have c28b0:decide (126 < (rd t142 x14_1))=false:=decide_eq_false c28
          clear c28
          by_cases c29 : (rd t142 x14_1) ≥ 48
          ·rw [if_pos c29] at H
           have c29b0:decide (48≤(rd t142 x14_1))=true:=decide_eq_true c29
           clear c29
           by_cases c30 : (rd t142 x14_1)≤57
           ·rw [if_pos c30] at H
            have c30b0:decide ((rd t142 x14_1)≤57)=true:=decide_eq_true c30
            clear c30
            obtain rfl:=Option.some.inj H
            have p145:0≤(x14_1 : Int):=of_decide_eq_true (by first | (with_reducible assumption) | assumption)
            have q145:x14_1 < (t142.length : Int):=of_decide_eq_true (by first | (with_reducible assumption) | assumption)
            obtain ⟨ad145,e145,hx145_0⟩:=Kd.at_int (Kd.R_reads' HO_12.out).2.2 x14_1 p145 q145
            cases e145
            replace p145:=eq_true p145
            replace q145:=eq_true q145
            go_wp2
            go_ret
            exact ⟨by first | rfl | (simp [errW_none,errW_some] <;> rfl) | (simp [*,errW_none,errW_some] <;> rfl),by repeat (first | (with_reducible first | exact HB.out | apply bA | apply bN | apply bD | refine below_set ?_ GE136.out) | exact HB.out)⟩
           ·rw [if_neg c30] at H
            have c30b0:decide ((rd t142 x14_1)≤57)=false:=decide_eq_false c30
            clear c30
            replace H:=Option.bind_eq_some_iff.mp H
            obtain ⟨t148,A310,H⟩:=H
            replace H : (if t148 < x14_1 then (some false) else (delim_Right.l0 k1 t142 t142 (t142.length : Int) (wrap64 (x14_1 + 1))))=some r:=H
            have A31:=Aside0.mk A310
            clear A310
            by_cases c32 : t148 < x14_1
            ·rw [if_pos c32] at H
             have c32b0:decide (t148 < x14_1)=true:=decide_eq_true c32
             clear c32
             obtain rfl:=Option.some.inj H
             have p145:0≤(x14_1 : Int):=of_decide_eq_true (by first | (with_reducible assumption) | assumption)
             have q145:x14_1 < (t142.length : Int):=of_decide_eq_true (by first | (with_reducible assumption) | assumption)
             obtain ⟨ad145,e145,hx145_0⟩:=Kd.at_int (Kd.R_reads' HO_12.out).2.2 x14_1 p145 q145
             cases e145
             replace p145:=eq_true p145
             replace q145:=eq_true q145
             go_wp2_with (first | (go_at_call 13; (with_reducible refine (bytes_IndexByte.calls _ _ t142 (rd t142 x14_1) t148 _ ?side1 ?side2 A31.out).mono ?_); (case side1=>repeat (first | exact (Kd.R_reads' HO_3.out).2.2 | (with_reducible refine Kd.C_alloc ?_ _) | (with_reducible refine Kd.C_drewN ?_ _) | (with_reducible refine Kd.C_drew ?_))); (case side2=>exact (Kd.R_reads' HO_3.out).2.1); rintro e w' ⟨rfl,⟨nd,rfl⟩⟩))
             go_ret
             exact ⟨by first | rfl | (simp [errW_none,errW_some] <;> rfl) | (simp [*,errW_none,errW_some] <;> rfl),by repeat (first | (with_reducible first | exact HB.out | apply bA | apply bN | apply bD | refine below_set ?_ GE136.out) | exact HB.out)⟩
            ·rw [if_neg c32] at H
             have c32b0:decide (t148 < x14_1)=false:=decide_eq_false c32
             clear c32
             have H':=Aside0.mk H
             clear H
             have p145:0≤(x14_1 : Int):=of_decide_eq_true (by first | (with_reducible assumption) | assumption)
             have q145:x14_1 < (t142.length : Int):=of_decide_eq_true (by first | (with_reducible assumption) | assumption)
             obtain ⟨ad145,e145,hx145_0⟩:=Kd.at_int (Kd.R_reads' HO_12.out).2.2 x14_1 p145 q145
             cases e145
             replace p145:=eq_true p145
             replace q145:=eq_true q145
             go_wp2_with (first | (go_at_call 13; (with_reducible refine (bytes_IndexByte.calls _ _ t142 (rd t142 x14_1) t148 _ ?side1 ?side2 A31.out).mono ?_); (case side1=>repeat (first | exact (Kd.R_reads' HO_3.out).2.2 | (with_reducible refine Kd.C_alloc ?_ _) | (with_reducible refine Kd.C_drewN ?_ _) | (with_reducible refine Kd.C_drew ?_))); (case side2=>exact (Kd.R_reads' HO_3.out).2.1); rintro e w' ⟨rfl,⟨nd,rfl⟩⟩))
             go_roundg k1
             case measure=>have:=HK1.out; omega
             case rel=>exact ⟨(wrap64 (x14_1 + 1)),(by first | rfl | (simp; done) | (simp [*]; done)),H',⟨by have:=HK1.out; omega⟩,⟨by (with_reducible repeat (first | apply Kd.R_alloc | apply Kd.R_drewN | apply Kd.R_drew)); exact HO_3.out⟩,⟨by (with_reducible repeat (first | apply Kd.R_alloc | apply Kd.R_drewN | apply Kd.R_drew)); exact HO_12.out⟩,⟨by (with_reducible repeat (first | refine kN ?_ _ | refine kD ?_ | refine kA ?_ _)); exact BK136.out⟩,⟨by repeat (first | (with_reducible first | exact HB.out | apply bA | apply bN | apply bD | refine below_set ?_ GE136.out) | exact HB.out)⟩⟩
          ·rw [if_neg c29] at H
           have c29b0:decide (48≤(rd t142 x14_1))=false:=decide_eq_false c29
           clear c29
           replace H:=Option.bind_eq_some_iff.mp H
           obtain ⟨t149,A330,H⟩:=H
           replace H : (if t149 < x14_1 then (some false) else (delim_Right.l0 k1 t142 t142 (t142.length : Int) (wrap64 (x14_1 + 1))))=some r:=H
           have A33:=Aside0.mk A330
           clear A330
           by_cases c34 : t149 < x14_1
           ·rw [if_pos c34] at H
            have c34b0:decide (t149 < x14_1)=true:=decide_eq_true c34
            clear c34
            obtain rfl:=Option.some.inj H
            have p145:0≤(x14_1 : Int):=of_decide_eq_true (by first | (with_reducible assumption) | assumption)
            have q145:x14_1 < (t142.length : Int):=of_decide_eq_true (by first | (with_reducible assumption) | assumption)
            obtain ⟨ad145,e145,hx145_0⟩:=Kd.at_int (Kd.R_reads' HO_12.out).2.2 x14_1 p145 q145
            cases e145
            replace p145:=eq_true p145
            replace q145:=eq_true q145
            go_wp2_with (first | (go_at_call 13; (with_reducible refine (bytes_IndexByte.calls _ _ t142 (rd t142 x14_1) t149 _ ?side1 ?side2 A33.out).mono ?_); (case side1=>repeat (first | exact (Kd.R_reads' HO_3.out).2.2 | (with_reducible refine Kd.C_alloc ?_ _) | (with_reducible refine Kd.C_drewN ?_ _) | (with_reducible refine Kd.C_drew ?_))); (case side2=>exact (Kd.R_reads' HO_3.out).2.1); rintro e w' ⟨rfl,⟨nd,rfl⟩⟩))
            go_ret
            exact ⟨by first | rfl | (simp [errW_none,errW_some] <;> rfl) | (simp [*,errW_none,errW_some] <;> rfl),by repeat (first | (with_reducible first | exact HB.out | apply bA | apply bN | apply bD | refine below_set ?_ GE136.out) | exact HB.out)⟩
           ·rw [if_neg c34] at H
            have c34b0:decide (t149 < x14_1)=false:=decide_eq_false c34
            clear c34
            have H':=Aside0.mk H
            clear H
            have p145:0≤(x14_1 : Int):=of_decide_eq_true (by first | (with_reducible assumption) | assumption)
            have q145:x14_1 < (t142.length : Int):=of_decide_eq_true (by first | (with_reducible assumption) | assumption)
            obtain ⟨ad145,e145,hx145_0⟩:=Kd.at_int (Kd.R_reads' HO_12.out).2.2 x14_1 p145 q145
            cases e145
            replace p145:=eq_true p145
            replace q145:=eq_true q145
            go_wp2_with (first | (go_at_call 13; (with_reducible refine (bytes_IndexByte.calls _ _ t142 (rd t142 x14_1) t149 _ ?side1 ?side2 A33.out).mono ?_); (case side1=>repeat (first | exact (Kd.R_reads' HO_3.out).2.2 | (with_reducible refine Kd.C_alloc ?_ _) | (with_reducible refine Kd.C_drewN ?_ _) | (with_reducible refine Kd.C_drew ?_))); (case side2=>exact (Kd.R_reads' HO_3.out).2.1); rintro e w' ⟨rfl,⟨nd,rfl⟩⟩))
            go_roundg k1
            case measure=>have:=HK1.out; omega
            case rel=>exact ⟨(wrap64 (x14_1 + 1)),(by first | rfl | (simp; done) | (simp [*]; done)),H',⟨by have:=HK1.out; omega⟩,⟨by (with_reducible repeat (first | apply Kd.R_alloc | apply Kd.R_drewN | apply Kd.R_drew)); exact HO_3.out⟩,⟨by (with_reducible repeat (first | apply Kd.R_alloc | apply Kd.R_drewN | apply Kd.R_drew)); exact HO_12.out⟩,⟨by (with_reducible repeat (first | refine kN ?_ _ | refine kD ?_ | refine kA ?_ _)); exact BK136.out⟩,⟨by repeat (first | (with_reducible first | exact HB.out | apply bA | apply bN | apply bD | refine below_set ?_ GE136.out) | exact HB.out)⟩⟩
      ·rw [if_neg c16] at H
       exact absurd H (by simp)
     ·rw [if_neg c15] at H
      exact absurd H (by simp)
    ·rw [if_neg c14] at H
     have c14b0:decide (x14_1 < (t142.length : Int))=false:=decide_eq_false c14
     clear c14
     obtain rfl:=Option.some.inj H
     go_wp2
     go_ret
     exact ⟨by first | rfl | (simp [errW_none,errW_some] <;> rfl) | (simp [*,errW_none,errW_some] <;> rfl),by repeat (first | (with_reducible first | exact HB.out | apply bA | apply bN | apply bD | refine below_set ?_ GE136.out) | exact HB.out)⟩

end Go.Proofs.YtljdbphojcglgaaDoor.PF
