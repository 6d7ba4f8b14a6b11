import Derived.Test.YtljdbphojcglgaaDoorPFx0
import Derived.Test.YtljdbphojcglgaaDoorPFx2
namespace Go.Proofs.YtljdbphojcglgaaDoor.PF
open Go.RowKit Go.Proofs.YtljdbphojcglgaaDoorW.PrintWords Go.Proofs.YtljdbphojcglgaaDoorW.PrintLast Go.Proofs.YtljdbphojcglgaaDoorW.PrintMore
set_option maxHeartbeats 8000000
set_option maxRecDepth 100000
attribute [local go_sem] max2_int min2_int max_two min_two max_three min_three max_four min_four
set_option linter.unusedVariables false
set_option linter.unusedSimpArgs false






/-! ### slices_Index_string_string: function 56 -/
def slices_Index_string_string.l0 : Nat→List ByteArray→ByteArray→Int→Int→Option (Int)
 | 0,_,_,_,_=>none
 | k + 1,x0,x1,x7,x8=>if x8 < x7 then (if 0≤x8 then (if x8 < (x0.length : Int) then (if x1.toList=(rdOf ByteArray.empty x0 x8).toList then (some x8) else (slices_Index_string_string.l0 k x0 x1 x7 (wrap64 (x8 + 1)))) else (none)) else (none)) else (some (-1))
def slices_Index_string_string.f (k : Nat) (l0 : List ByteArray) (a1 : ByteArray) : Option (Int):=slices_Index_string_string.l0 k l0 a1 (l0.length : Int) 0
theorem slices_Index_string_string.mono_l : ∀ k,(∀ y0 y1 y2 y3,LeO (slices_Index_string_string.l0 k y0 y1 y2 y3) (slices_Index_string_string.l0 (k + 1) y0 y1 y2 y3))
 | 0=>fun _ _ _ _ r h=>by simp [slices_Index_string_string.l0] at h
 | k + 1=>by
  have ih0:=slices_Index_string_string.mono_l k
  ·intro y0 y1 y2 y3
   unfold slices_Index_string_string.l0
   repeat' first
   | (with_reducible exact ih0 _ _ _ _)
   | (with_reducible exact LeO.refl _)
   | (with_reducible exact LeO.none _)
   | (with_reducible refine LeO.ite ?_ ?_)
   | (with_reducible refine LeO.bind ?_ (fun _=>?_))
   | exact ih0 _ _ _ _
   | exact LeO.none _
   | refine LeO.ite ?_ ?_
   | refine LeO.bind ?_ (fun _=>?_)
theorem slices_Index_string_string.mono : ∀ a0 a1 k,LeO (slices_Index_string_string.f k a0 a1) (slices_Index_string_string.f (k + 1) a0 a1):=by
 intro a0 a1 k
 have ih0:=slices_Index_string_string.mono_l k
 unfold slices_Index_string_string.f
 repeat' first
   | (with_reducible exact ih0 _ _ _ _)
   | (with_reducible exact LeO.refl _)
   | (with_reducible exact LeO.none _)
   | (with_reducible refine LeO.ite ?_ ?_)
   | (with_reducible refine LeO.bind ?_ (fun _=>?_))
   | exact ih0 _ _ _ _
   | exact LeO.none _
   | refine LeO.ite ?_ ?_
   | refine LeO.bind ?_ (fun _=>?_)
theorem slices_Index_string_string.calls (k : Nat) (A0 : Option Addr) (c0 : Nat) (l0 : List ByteArray) (a1 : ByteArray) (r : Int) (w : World) (hr0 : Kd.C Kd.string w A0 l0.length l0) (hc0 : l0.length≤c0) (h : slices_Index_string_string.f k l0 a1=some r) :
  Calls Tryd.prog 56 #[.slice A0 l0.length c0, .string a1] w fun e w'=>e = .returned (.int .i64 r)∧Drawn0 w w':=by
 have HR0:=Aside0.mk hr0
 have HC0:=Aside0.mk hc0
 clear hr0 hc0
 have H : (slices_Index_string_string.l0 k l0 a1 (l0.length : Int) 0)=some r:=h
 clear h
 have H':=Aside0.mk H
 clear H
 go_enter Tryd.func56,Tryd.ntmps56
 go_wp2
 go_loopg [8] k (fun kq v8 w' => ∃ (x8_1 : Int),v8 = .int .i64 x8_1∧Aside0 (slices_Index_string_string.l0 kq l0 a1 (l0.length : Int) x8_1=some r)∧Aside0 (kq≤k)∧Drawn0 w w')
 case atStart=>exact ⟨(0),(by first | rfl | (simp; done) | (simp [*]; done)),H',⟨Nat.le_refl _⟩,by repeat (first | exact Drawn0.refl _ | apply Drawn0.step)⟩
 case round =>
  clear H'
  try clear p2
  obtain ⟨x8_1,rfl,HA,HK1,⟨m1,rfl⟩⟩:=hrel
  cases gk with
  | zero=>exact absurd HA.out (by simp [slices_Index_string_string.l0])
  | succ k1 =>
   have H:=HA.out
   clear HA
   simp only [slices_Index_string_string.l0] at H
   by_cases c3 : x8_1 < (l0.length : Int)
   ·rw [if_pos c3] at H
    have c3b0:decide (x8_1 < (l0.length : Int))=true:=decide_eq_true c3
    clear c3
    by_cases c4 : 0≤x8_1
    ·rw [if_pos c4] at H
     have c4b0:decide (0≤x8_1)=true:=decide_eq_true c4
     clear c4
     by_cases c5 : x8_1 < (l0.length : Int)
     ·rw [if_pos c5] at H
      have c5b0:decide (x8_1 < (l0.length : Int))=true:=decide_eq_true c5
      clear c5
      by_cases c6 : a1.toList=(rdOf ByteArray.empty l0 x8_1).toList
      ·rw [if_pos c6] at H
       have c6b0 : (a1.toList == (rdOf ByteArray.empty l0 x8_1).toList)=true:=beq_iff_eq.mpr c6
       have c6b1 : (a1.toList != (rdOf ByteArray.empty l0 x8_1).toList)=false:=bne_eq_false_iff_eq.mpr c6
       clear c6
       obtain rfl:=Option.some.inj H
       have p157:0≤(x8_1 : Int):=of_decide_eq_true (by first | (with_reducible assumption) | assumption)
       have q157:x8_1 < (l0.length : Int):=of_decide_eq_true (by first | (with_reducible assumption) | assumption)
       obtain ⟨ad157,e157,hx157_0⟩:=Kd.at_string HR0.out x8_1 p157 q157
       cases e157
       replace p157:=eq_true p157
       replace q157:=eq_true q157
       go_wp2
       go_ret
       exact ⟨by first | rfl | (simp; done) | (simp [*]; done),by repeat (first | exact Drawn0.refl _ | apply Drawn0.step)⟩
      ·rw [if_neg c6] at H
       have c6b0 : (a1.toList == (rdOf ByteArray.empty l0 x8_1).toList)=false:=beq_eq_false_iff_ne.mpr c6
       have c6b1 : (a1.toList != (rdOf ByteArray.empty l0 x8_1).toList)=true:=bne_iff_ne.mpr c6
       have H':=Aside0.mk H
       clear H
       have p157:0≤(x8_1 : Int):=of_decide_eq_true (by first | (with_reducible assumption) | assumption)
       have q157:x8_1 < (l0.length : Int):=of_decide_eq_true (by first | (with_reducible assumption) | assumption)
       obtain ⟨ad157,e157,hx157_0⟩:=Kd.at_string HR0.out x8_1 p157 q157
       cases e157
       replace p157:=eq_true p157
       replace q157:=eq_true q157
       go_wp2
       go_roundg k1
       case measure=>have:=HK1.out; omega
       case rel=>exact ⟨(wrap64 (x8_1 + 1)),(by first | rfl | (simp; done) | (simp [*]; done)),H',⟨by have:=HK1.out; omega⟩,by repeat (first | exact Drawn0.refl _ | apply Drawn0.step)⟩
     ·rw [if_neg c5] at H
      exact absurd H (by simp)
    ·rw [if_neg c4] at H
     exact absurd H (by simp)
   ·rw [if_neg c3] at H
    have c3b0:decide (x8_1 < (l0.length : Int))=false:=decide_eq_false c3
    clear c3
    obtain rfl:=Option.some.inj H
    go_wp2
    go_ret
    exact ⟨by first | rfl | (simp; done) | (simp [*]; done),by repeat (first | exact Drawn0.refl _ | apply Drawn0.step)⟩

/-! ### slices_Contains_string_string: function 30 -/
def slices_Contains_string_string.f (k : Nat) (l0 : List ByteArray) (a1 : ByteArray) : Option (Bool):=(slices_Index_string_string.f k l0 a1).bind fun t158=>(some (decide (t158 ≥ 0)))
theorem slices_Contains_string_string.mono : ∀ a0 a1 k,LeO (slices_Contains_string_string.f k a0 a1) (slices_Contains_string_string.f (k + 1) a0 a1):=by
 intro a0 a1 k
 unfold slices_Contains_string_string.f
 repeat' first
   | (with_reducible exact slices_Index_string_string.mono _ _ _)
   | (with_reducible exact LeO.refl _)
   | (with_reducible exact LeO.none _)
   | (with_reducible refine LeO.ite ?_ ?_)
   | (with_reducible refine LeO.bind ?_ (fun _=>?_))
   | exact slices_Index_string_string.mono _ _ _
   | exact LeO.none _
   | refine LeO.ite ?_ ?_
   | refine LeO.bind ?_ (fun _=>?_)
theorem slices_Contains_string_string.calls (k : Nat) (A0 : Option Addr) (c0 : Nat) (l0 : List ByteArray) (a1 : ByteArray) (r : Bool) (w : World) (hr0 : Kd.C Kd.string w A0 l0.length l0) (hc0 : l0.length≤c0) (h : slices_Contains_string_string.f k l0 a1=some r) :
  Calls Tryd.prog 30 #[.slice A0 l0.length c0, .string a1] w fun e w'=>e = .returned (.bool r)∧Drawn0 w w':=by
 have HR0:=Aside0.mk hr0
 have HC0:=Aside0.mk hc0
 clear hr0 hc0
 have H : ((slices_Index_string_string.f k l0 a1).bind fun t158=>(some (decide (t158 ≥ 0))))=some r:=h
 clear h
 replace H:=Option.bind_eq_some_iff.mp H
 obtain ⟨t158,A30,H⟩:=H
 replace H : (some (decide (t158 ≥ 0)))=some r:=H
 have A3:=Aside0.mk A30
 clear A30
 obtain rfl:=Option.some.inj H
 go_enter Tryd.func30,Tryd.ntmps30
 go_wp2_with (first | ((with_reducible refine gate_callee (f:=56) rfl ?_); refine goesL_ (some 7) rfl rfl Tryd.func56 (by kernel_rfl) rfl #[.slice A0 l0.length c0, .string a1] rfl (by (try simp only [List.map_toArray,List.map_cons,List.map_nil]); first | done | rfl | (simp only [List.length_drop,List.length_take]; rfl)) ?_; (with_reducible refine (slices_Index_string_string.calls k _ _ l0 a1 t158 _ ?side1 ?side2 A3.out).mono ?_); (case side1=>repeat (first | exact HR0.out | (with_reducible refine Kd.C_alloc ?_ _) | (with_reducible refine Kd.C_drewN ?_ _) | (with_reducible refine Kd.C_drew ?_))); (case side2=>exact HC0.out); rintro e w' ⟨rfl,⟨nd,rfl⟩⟩; refine ⟨_,rfl,?_⟩))
 go_ret
 exact ⟨by first | rfl | (simp; done) | (simp [*]; done),by repeat (first | exact Drawn0.refl _ | apply Drawn0.step)⟩

/-! ### segment_again: function 69 -/
def segment_again.f (a0 : ByteArray) (a1 : Int) (a2_0 : Int) (a2_1 : Int) (a2_2 : Int) (a2_3 : Int) (a2_4 : Int) : Option (ByteArray × Bool):=(segment_nth.f a0 a2_2 a1).bind fun bt160=>(if a1 ≥ 1 then (some (bt160.1,decide (a1≤bt160.2))) else (some (bt160.1,false)))
theorem segment_again.calls (a0 : ByteArray) (a1 : Int) (a2_0 : Int) (a2_1 : Int) (a2_2 : Int) (a2_3 : Int) (a2_4 : Int) (r1 : ByteArray) (r2 : Bool) (w : World) (h : segment_again.f a0 a1 a2_0 a2_1 a2_2 a2_3 a2_4=some (r1,r2)) :
  Calls Tryd.prog 69 #[.string a0, .int .i64 a1, .agg #[.int .u8 a2_0, .int .u8 a2_1, .int .u8 a2_2, .int .u8 a2_3, .int .u8 a2_4]] w fun e w'=>e = .returned (.tuple #[.string r1, .bool r2])∧Below w.heap.size w w':=by
 have hu25:=Tryd.underlying25
 have HB:=Aside0.mk (Below.refl w.heap.size w)
 have H : ((segment_nth.f a0 a2_2 a1).bind fun bt160=>(if a1 ≥ 1 then (some (bt160.1,decide (a1≤bt160.2))) else (some (bt160.1,false))))=some (r1,r2):=h
 clear h
 replace H:=Option.bind_eq_some_iff.mp H
 obtain ⟨⟨t160,t161⟩,A40,H⟩:=H
 replace H : (if a1 ≥ 1 then (some (t160,decide (a1≤t161))) else (some (t160,false)))=some (r1,r2):=H
 have A4:=Aside0.mk A40
 clear A40
 by_cases c5 : a1 ≥ 1
 ·rw [if_pos c5] at H
  have c5b0:decide (1≤a1)=true:=decide_eq_true c5
  clear c5
  simp only [Option.some.injEq,Prod.mk.injEq] at H
  obtain ⟨rfl,rfl⟩:=H
  go_enter Tryd.func69,Tryd.ntmps69
  go_wp2_with (first | ((with_reducible refine gate_dst (N:=5) rfl ?_); refine box_event ?hg (N:=5) ?hd (cs:=#[.int .u8 a2_0, .int .u8 a2_1, .int .u8 a2_2, .int .u8 a2_3, .int .u8 a2_4]) (t:=25) ?hr ?_; (case hd=>rfl); (case hg=>rfl); (case hr=>first | (go_simp; done) | (go_simp; rfl)); intro gb159 hg w6 hbox hb; have n0_:=Aside0.mk (below_step (by repeat (first | (with_reducible first | exact HB.out | apply bA | apply bN | apply bD) | exact HB.out)) hb); have n1_:=Aside0.mk (hbox); have n2_:=Aside0.mk ((by rw [hg]; exact (below_size (by repeat (first | (with_reducible first | exact HB.out | apply bA | apply bN | apply bD) | exact HB.out))) : w.heap.size≤gb159)); have n3_:=Aside0.mk ((by rw [hg]; exact (below_size (by repeat (first | (with_reducible first | exact HB.out | apply bA | apply bN | apply bD) | exact HB.out))) : w.heap.size≤gb159)); clear HB; have HB:=n0_; have BK159:=n1_; have GW159:=n2_; have GE159:=n3_; clear n0_ n1_ n2_ n3_; clear hb hbox hg; have hcz7_0:w6.cell? ⟨gb159,0,none⟩=some (.int .u8 a2_0):=blk_cell BK159.out 0; have hcz7_1:w6.cell? ⟨gb159,1,none⟩=some (.int .u8 a2_1):=blk_cell BK159.out 1; have hcz7_2:w6.cell? ⟨gb159,2,none⟩=some (.int .u8 a2_2):=blk_cell BK159.out 2; have hcz7_3:w6.cell? ⟨gb159,3,none⟩=some (.int .u8 a2_3):=blk_cell BK159.out 3; have hcz7_4:w6.cell? ⟨gb159,4,none⟩=some (.int .u8 a2_4):=blk_cell BK159.out 4; have hfz7_0:=blk_frozen BK159.out 0; have hfz7_1:=blk_frozen BK159.out 1; have hfz7_2:=blk_frozen BK159.out 2; have hfz7_3:=blk_frozen BK159.out 3; have hfz7_4:=blk_frozen BK159.out 4) | ((with_reducible refine gate_callee (f:=63) rfl ?_); refine goesL_ (some 15) rfl rfl Tryd.func63 (by kernel_rfl) rfl #[.string a0, .int .u8 a2_2, .int .i64 a1] rfl (by (try simp only [List.map_toArray,List.map_cons,List.map_nil]); first | done | rfl | (simp only [List.length_drop,List.length_take]; rfl)) ?_; (with_reducible refine (segment_nth.calls a0 a2_2 a1 t160 t161 _ A4.out).mono ?_); rintro e w8 ⟨rfl,hb⟩; refine ⟨_,rfl,?_⟩; have n0_:=Aside0.mk (blk_below (g:=gb159) (o := .cells #[.int .u8 a2_0, .int .u8 a2_1, .int .u8 a2_2, .int .u8 a2_3, .int .u8 a2_4] 25 (0,0)) (by (with_reducible repeat (first | refine kN ?_ _ | refine kD ?_ | refine kA ?_ _)); exact BK159.out) hb); have n1_:=Aside0.mk (below_step (by repeat (first | (with_reducible first | exact HB.out | apply bA | apply bN | apply bD | refine below_set ?_ GE159.out) | exact HB.out)) hb); clear BK159; clear HB; have BK159:=n0_; have HB:=n1_; clear n0_ n1_; (try clear hb)))
  go_ret2
  exact ⟨by first | rfl | (simp [errW_none,errW_some] <;> rfl) | (simp [*,errW_none,errW_some] <;> rfl),by repeat (first | (with_reducible first | exact HB.out | apply bA | apply bN | apply bD | refine below_set ?_ GE159.out) | exact HB.out)⟩
 ·rw [if_neg c5] at H
  have c5b0:decide (1≤a1)=false:=decide_eq_false c5
  clear c5
  simp only [Option.some.injEq,Prod.mk.injEq] at H
  obtain ⟨rfl,rfl⟩:=H
  go_enter Tryd.func69,Tryd.ntmps69
  go_wp2_with (first | ((with_reducible refine gate_dst (N:=5) rfl ?_); refine box_event ?hg (N:=5) ?hd (cs:=#[.int .u8 a2_0, .int .u8 a2_1, .int .u8 a2_2, .int .u8 a2_3, .int .u8 a2_4]) (t:=25) ?hr ?_; (case hd=>rfl); (case hg=>rfl); (case hr=>first | (go_simp; done) | (go_simp; rfl)); intro gb159 hg w9 hbox hb; have n0_:=Aside0.mk (below_step (by repeat (first | (with_reducible first | exact HB.out | apply bA | apply bN | apply bD) | exact HB.out)) hb); have n1_:=Aside0.mk (hbox); have n2_:=Aside0.mk ((by rw [hg]; exact (below_size (by repeat (first | (with_reducible first | exact HB.out | apply bA | apply bN | apply bD) | exact HB.out))) : w.heap.size≤gb159)); have n3_:=Aside0.mk ((by rw [hg]; exact (below_size (by repeat (first | (with_reducible first | exact HB.out | apply bA | apply bN | apply bD) | exact HB.out))) : w.heap.size≤gb159)); clear HB; have HB:=n0_; have BK159:=n1_; have GW159:=n2_; have GE159:=n3_; clear n0_ n1_ n2_ n3_; clear hb hbox hg; have hcz10_0:w9.cell? ⟨gb159,0,none⟩=some (.int .u8 a2_0):=blk_cell BK159.out 0; have hcz10_1:w9.cell? ⟨gb159,1,none⟩=some (.int .u8 a2_1):=blk_cell BK159.out 1; have hcz10_2:w9.cell? ⟨gb159,2,none⟩=some (.int .u8 a2_2):=blk_cell BK159.out 2; have hcz10_3:w9.cell? ⟨gb159,3,none⟩=some (.int .u8 a2_3):=blk_cell BK159.out 3; have hcz10_4:w9.cell? ⟨gb159,4,none⟩=some (.int .u8 a2_4):=blk_cell BK159.out 4; have hfz10_0:=blk_frozen BK159.out 0; have hfz10_1:=blk_frozen BK159.out 1; have hfz10_2:=blk_frozen BK159.out 2; have hfz10_3:=blk_frozen BK159.out 3; have hfz10_4:=blk_frozen BK159.out 4) | ((with_reducible refine gate_callee (f:=63) rfl ?_); refine goesL_ (some 15) rfl rfl Tryd.func63 (by kernel_rfl) rfl #[.string a0, .int .u8 a2_2, .int .i64 a1] rfl (by (try simp only [List.map_toArray,List.map_cons,List.map_nil]); first | done | rfl | (simp only [List.length_drop,List.length_take]; rfl)) ?_; (with_reducible refine (segment_nth.calls a0 a2_2 a1 t160 t161 _ A4.out).mono ?_); rintro e w11 ⟨rfl,hb⟩; refine ⟨_,rfl,?_⟩; have n0_:=Aside0.mk (blk_below (g:=gb159) (o := .cells #[.int .u8 a2_0, .int .u8 a2_1, .int .u8 a2_2, .int .u8 a2_3, .int .u8 a2_4] 25 (0,0)) (by (with_reducible repeat (first | refine kN ?_ _ | refine kD ?_ | refine kA ?_ _)); exact BK159.out) hb); have n1_:=Aside0.mk (below_step (by repeat (first | (with_reducible first | exact HB.out | apply bA | apply bN | apply bD | refine below_set ?_ GE159.out) | exact HB.out)) hb); clear BK159; clear HB; have BK159:=n0_; have HB:=n1_; clear n0_ n1_; (try clear hb)))
  go_ret2
  exact ⟨by first | rfl | (simp [errW_none,errW_some] <;> rfl) | (simp [*,errW_none,errW_some] <;> rfl),by repeat (first | (with_reducible first | exact HB.out | apply bA | apply bN | apply bD | refine below_set ?_ GE159.out) | exact HB.out)⟩

/-! ### segment_Part: function 57 -/
def segment_Part.f (a0 : ByteArray) (a1 : Int) (a2 : Int) (a3_0 : Int) (a3_1 : Int) (a3_2 : Int) (a3_3 : Int) (a3_4 : Int) : Option (ByteArray × Bool):=(segment_again.f a0 a1 a3_0 a3_1 a3_2 a3_3 a3_4).bind fun bt163=>(if bt163.2=true then ((segment_nth.f bt163.1 a3_1 a2).bind fun bt165=>(if a2 ≥ 1 then (some (bt165.1,decide (a2≤bt165.2))) else (some (bt165.1,false)))) else (some ((⟨#[]⟩ : ByteArray),false)))
theorem segment_Part.calls (a0 : ByteArray) (a1 : Int) (a2 : Int) (a3_0 : Int) (a3_1 : Int) (a3_2 : Int) (a3_3 : Int) (a3_4 : Int) (r1 : ByteArray) (r2 : Bool) (w : World) (h : segment_Part.f a0 a1 a2 a3_0 a3_1 a3_2 a3_3 a3_4=some (r1,r2)) :
  Calls Tryd.prog 57 #[.string a0, .int .i64 a1, .int .i64 a2, .agg #[.int .u8 a3_0, .int .u8 a3_1, .int .u8 a3_2, .int .u8 a3_3, .int .u8 a3_4]] w fun e w'=>e = .returned (.tuple #[.string r1, .bool r2])∧Below w.heap.size w w':=by
 have hu25:=Tryd.underlying25
 have HB:=Aside0.mk (Below.refl w.heap.size w)
 have H : ((segment_again.f a0 a1 a3_0 a3_1 a3_2 a3_3 a3_4).bind fun bt163=>(if bt163.2=true then ((segment_nth.f bt163.1 a3_1 a2).bind fun bt165=>(if a2 ≥ 1 then (some (bt165.1,decide (a2≤bt165.2))) else (some (bt165.1,false)))) else (some ((⟨#[]⟩ : ByteArray),false))))=some (r1,r2):=h
 clear h
 replace H:=Option.bind_eq_some_iff.mp H
 obtain ⟨⟨t163,t164⟩,A50,H⟩:=H
 replace H : (if t164=true then ((segment_nth.f t163 a3_1 a2).bind fun bt165=>(if a2 ≥ 1 then (some (bt165.1,decide (a2≤bt165.2))) else (some (bt165.1,false)))) else (some ((⟨#[]⟩ : ByteArray),false)))=some (r1,r2):=H
 have A5:=Aside0.mk A50
 clear A50
 by_cases c6 : t164=true
 ·subst c6
  have H1 : ((segment_nth.f t163 a3_1 a2).bind fun bt165=>(if a2 ≥ 1 then (some (bt165.1,decide (a2≤bt165.2))) else (some (bt165.1,false))))=some (r1,r2):=by rw [if_pos rfl] at H; exact H
  clear H
  have H:=H1
  clear H1
  replace H:=Option.bind_eq_some_iff.mp H
  obtain ⟨⟨t165,t166⟩,A70,H⟩:=H
  replace H : (if a2 ≥ 1 then (some (t165,decide (a2≤t166))) else (some (t165,false)))=some (r1,r2):=H
  have A7:=Aside0.mk A70
  clear A70
  by_cases c8 : a2 ≥ 1
  ·rw [if_pos c8] at H
   have c8b0:decide (1≤a2)=true:=decide_eq_true c8
   clear c8
   simp only [Option.some.injEq,Prod.mk.injEq] at H
   obtain ⟨rfl,rfl⟩:=H
   go_enter Tryd.func57,Tryd.ntmps57
   go_wp2_with (first | ((with_reducible refine gate_dst (N:=7) rfl ?_); refine box_event ?hg (N:=7) ?hd (cs:=#[.int .u8 a3_0, .int .u8 a3_1, .int .u8 a3_2, .int .u8 a3_3, .int .u8 a3_4]) (t:=25) ?hr ?_; (case hd=>rfl); (case hg=>rfl); (case hr=>first | (go_simp; done) | (go_simp; rfl)); intro gb162 hg w9 hbox hb; have n0_:=Aside0.mk (below_step (by repeat (first | (with_reducible first | exact HB.out | apply bA | apply bN | apply bD) | exact HB.out)) hb); have n1_:=Aside0.mk (hbox); have n2_:=Aside0.mk ((by rw [hg]; exact (below_size (by repeat (first | (with_reducible first | exact HB.out | apply bA | apply bN | apply bD) | exact HB.out))) : w.heap.size≤gb162)); have n3_:=Aside0.mk ((by rw [hg]; exact (below_size (by repeat (first | (with_reducible first | exact HB.out | apply bA | apply bN | apply bD) | exact HB.out))) : w.heap.size≤gb162)); clear HB; have HB:=n0_; have BK162:=n1_; have GW162:=n2_; have GE162:=n3_; clear n0_ n1_ n2_ n3_; clear hb hbox hg; have hcz10_0:w9.cell? ⟨gb162,0,none⟩=some (.int .u8 a3_0):=blk_cell BK162.out 0; have hcz10_1:w9.cell? ⟨gb162,1,none⟩=some (.int .u8 a3_1):=blk_cell BK162.out 1; have hcz10_2:w9.cell? ⟨gb162,2,none⟩=some (.int .u8 a3_2):=blk_cell BK162.out 2; have hcz10_3:w9.cell? ⟨gb162,3,none⟩=some (.int .u8 a3_3):=blk_cell BK162.out 3; have hcz10_4:w9.cell? ⟨gb162,4,none⟩=some (.int .u8 a3_4):=blk_cell BK162.out 4; have hfz10_0:=blk_frozen BK162.out 0; have hfz10_1:=blk_frozen BK162.out 1; have hfz10_2:=blk_frozen BK162.out 2; have hfz10_3:=blk_frozen BK162.out 3; have hfz10_4:=blk_frozen BK162.out 4) | ((with_reducible refine gate_callee (f:=69) rfl ?_); refine goesL_ (some 18) rfl rfl Tryd.func69 (by kernel_rfl) rfl #[.string a0, .int .i64 a1, .agg #[.int .u8 a3_0, .int .u8 a3_1, .int .u8 a3_2, .int .u8 a3_3, .int .u8 a3_4]] rfl (by (try simp only [List.map_toArray,List.map_cons,List.map_nil]); first | done | rfl | (simp only [List.length_drop,List.length_take]; rfl)) ?_; (with_reducible refine (segment_again.calls a0 a1 a3_0 a3_1 a3_2 a3_3 a3_4 t163 true _ A5.out).mono ?_); rintro e w11 ⟨rfl,hb⟩; refine ⟨_,rfl,?_⟩; have n0_:=Aside0.mk (blk_below (g:=gb162) (o := .cells #[.int .u8 a3_0, .int .u8 a3_1, .int .u8 a3_2, .int .u8 a3_3, .int .u8 a3_4] 25 (0,0)) (by (with_reducible repeat (first | refine kN ?_ _ | refine kD ?_ | refine kA ?_ _)); exact BK162.out) hb); have n1_:=Aside0.mk (below_step (by repeat (first | (with_reducible first | exact HB.out | apply bA | apply bN | apply bD | refine below_set ?_ GE162.out) | exact HB.out)) hb); clear BK162; clear HB; have BK162:=n0_; have HB:=n1_; clear n0_ n1_; (try clear hb); have hcz12_0:w11.cell? ⟨gb162,0,none⟩=some (.int .u8 a3_0):=blk_cell BK162.out 0; have hcz12_1:w11.cell? ⟨gb162,1,none⟩=some (.int .u8 a3_1):=blk_cell BK162.out 1; have hcz12_2:w11.cell? ⟨gb162,2,none⟩=some (.int .u8 a3_2):=blk_cell BK162.out 2; have hcz12_3:w11.cell? ⟨gb162,3,none⟩=some (.int .u8 a3_3):=blk_cell BK162.out 3; have hcz12_4:w11.cell? ⟨gb162,4,none⟩=some (.int .u8 a3_4):=blk_cell BK162.out 4; have hfz12_0:=blk_frozen BK162.out 0; have hfz12_1:=blk_frozen BK162.out 1; have hfz12_2:=blk_frozen BK162.out 2; have hfz12_3:=blk_frozen BK162.out 3; have hfz12_4:=blk_frozen BK162.out 4) | ((with_reducible refine gate_callee (f:=63) rfl ?_); refine goesL_ (some 28) rfl rfl Tryd.func63 (by kernel_rfl) rfl #[.string t163, .int .u8 a3_1, .int .i64 a2] rfl (by (try simp only [List.map_toArray,List.map_cons,List.map_nil]); first | done | rfl | (simp only [List.length_drop,List.length_take]; rfl)) ?_; (with_reducible refine (segment_nth.calls t163 a3_1 a2 t165 t166 _ A7.out).mono ?_); rintro e w13 ⟨rfl,hb⟩; refine ⟨_,rfl,?_⟩; have n0_:=Aside0.mk (blk_below (g:=gb162) (o := .cells #[.int .u8 a3_0, .int .u8 a3_1, .int .u8 a3_2, .int .u8 a3_3, .int .u8 a3_4] 25 (0,0)) (by (with_reducible repeat (first | refine kN ?_ _ | refine kD ?_ | refine kA ?_ _)); exact BK162.out) hb); have n1_:=Aside0.mk (below_step (by repeat (first | (with_reducible first | exact HB.out | apply bA | apply bN | apply bD | refine below_set ?_ GE162.out) | exact HB.out)) hb); clear BK162; clear HB; have BK162:=n0_; have HB:=n1_; clear n0_ n1_; (try clear hb)))
   go_ret2
   exact ⟨by first | rfl | (simp [errW_none,errW_some] <;> rfl) | (simp [*,errW_none,errW_some] <;> rfl),by repeat (first | (with_reducible first | exact HB.out | apply bA | apply bN | apply bD | refine below_set ?_ GE162.out) | exact HB.out)⟩
  ·rw [if_neg c8] at H
   have c8b0:decide (1≤a2)=false:=decide_eq_false c8
   clear c8
   simp only [Option.some.injEq,Prod.mk.injEq] at H
   obtain ⟨rfl,rfl⟩:=H
   go_enter Tryd.func57,Tryd.ntmps57
   go_wp2_with (first | ((with_reducible refine gate_dst (N:=7) rfl ?_); refine box_event ?hg (N:=7) ?hd (cs:=#[.int .u8 a3_0, .int .u8 a3_1, .int .u8 a3_2, .int .u8 a3_3, .int .u8 a3_4]) (t:=25) ?hr ?_; (case hd=>rfl); (case hg=>rfl); (case hr=>first | (go_simp; done) | (go_simp; rfl)); intro gb162 hg w14 hbox hb; have n0_:=Aside0.mk (below_step (by repeat (first | (with_reducible first | exact HB.out | apply bA | apply bN | apply bD) | exact HB.out)) hb); have n1_:=Aside0.mk (hbox); have n2_:=Aside0.mk ((by rw [hg]; exact (below_size (by repeat (first | (with_reducible first | exact HB.out | apply bA | apply bN | apply bD) | exact HB.out))) : w.heap.size≤gb162)); have n3_:=Aside0.mk ((by rw [hg]; exact (below_size (by repeat (first | (with_reducible first | exact HB.out | apply bA | apply bN | apply bD) | exact HB.out))) : w.heap.size≤gb162)); clear HB; have HB:=n0_; have BK162:=n1_; have GW162:=n2_; have GE162:=n3_; clear n0_ n1_ n2_ n3_; clear hb hbox hg; have hcz15_0:w14.cell? ⟨gb162,0,none⟩=some (.int .u8 a3_0):=blk_cell BK162.out 0; have hcz15_1:w14.cell? ⟨gb162,1,none⟩=some (.int .u8 a3_1):=blk_cell BK162.out 1; have hcz15_2:w14.cell? ⟨gb162,2,none⟩=some (.int .u8 a3_2):=blk_cell BK162.out 2; have hcz15_3:w14.cell? ⟨gb162,3,none⟩=some (.int .u8 a3_3):=blk_cell BK162.out 3; have hcz15_4:w14.cell? ⟨gb162,4,none⟩=some (.int .u8 a3_4):=blk_cell BK162.out 4; have hfz15_0:=blk_frozen BK162.out 0; have hfz15_1:=blk_frozen BK162.out 1; have hfz15_2:=blk_frozen BK162.out 2; have hfz15_3:=blk_frozen BK162.out 3; have hfz15_4:=blk_frozen BK162.out 4) | ((with_reducible refine gate_callee (f:=69) rfl ?_); refine goesL_ (some 18) rfl rfl Tryd.func69 (by kernel_rfl) rfl #[.string a0, .int .i64 a1, .agg #[.int .u8 a3_0, .int .u8 a3_1, .int .u8 a3_2, .int .u8 a3_3, .int .u8 a3_4]] rfl (by (try simp only [List.map_toArray,List.map_cons,List.map_nil]); first | done | rfl | (simp only [List.length_drop,List.length_take]; rfl)) ?_; (with_reducible refine (segment_again.calls a0 a1 a3_0 a3_1 a3_2 a3_3 a3_4 t163 true _ A5.out).mono ?_); rintro e w16 ⟨rfl,hb⟩; refine ⟨_,rfl,?_⟩; have n0_:=Aside0.mk (blk_below (g:=gb162) (o := .cells #[.int .u8 a3_0, .int .u8 a3_1, .int .u8 a3_2, .int .u8 a3_3, .int .u8 a3_4] 25 (0,0)) (by (with_reducible repeat (first | refine kN ?_ _ | refine kD ?_ | refine kA ?_ _)); exact BK162.out) hb); have n1_:=Aside0.mk (below_step (by repeat (first | (with_reducible first | exact HB.out | apply bA | apply bN | apply bD | refine below_set ?_ GE162.out) | exact HB.out)) hb); clear BK162; clear HB; have BK162:=n0_; have HB:=n1_; clear n0_ n1_; (try clear hb); have hcz17_0:w16.cell? ⟨gb162,0,none⟩=some (.int .u8 a3_0):=blk_cell BK162.out 0; have hcz17_1:w16.cell? ⟨gb162,1,none⟩=some (.int .u8 a3_1):=blk_cell BK162.out 1; have hcz17_2:w16.cell? ⟨gb162,2,none⟩=some (.int .u8 a3_2):=blk_cell BK162.out 2; have hcz17_3:w16.cell? ⟨gb162,3,none⟩=some (.int .u8 a3_3):=blk_cell BK162.out 3; have hcz17_4:w16.cell? ⟨gb162,4,none⟩=some (.int .u8 a3_4):=blk_cell BK162.out 4; have hfz17_0:=blk_frozen BK162.out 0; have hfz17_1:=blk_frozen BK162.out 1; have hfz17_2:=blk_frozen BK162.out 2; have hfz17_3:=blk_frozen BK162.out 3; have hfz17_4:=blk_frozen BK162.out 4) | ((with_reducible refine gate_callee (f:=63) rfl ?_); refine goesL_ (some 28) rfl rfl Tryd.func63 (by kernel_rfl) rfl #[.string t163, .int .u8 a3_1, .int .i64 a2] rfl (by (try simp only [List.map_toArray,List.map_cons,List.map_nil]); first | done | rfl | (simp only [List.length_drop,List.length_take]; rfl)) ?_; (with_reducible refine (segment_nth.calls t163 a3_1 a2 t165 t166 _ A7.out).mono ?_); rintro e w18 ⟨rfl,hb⟩; refine ⟨_,rfl,?_⟩; have n0_:=Aside0.mk (blk_below (g:=gb162) (o := .cells #[.int .u8 a3_0, .int .u8 a3_1, .int .u8 a3_2, .int .u8 a3_3, .int .u8 a3_4] 25 (0,0)) (by (with_reducible repeat (first | refine kN ?_ _ | refine kD ?_ | refine kA ?_ _)); exact BK162.out) hb); have n1_:=Aside0.mk (below_step (by repeat (first | (with_reducible first | exact HB.out | apply bA | apply bN | apply bD | refine below_set ?_ GE162.out) | exact HB.out)) hb); clear BK162; clear HB; have BK162:=n0_; have HB:=n1_; clear n0_ n1_; (try clear hb)))
   go_ret2
   exact ⟨by first | rfl | (simp [errW_none,errW_some] <;> rfl) | (simp [*,errW_none,errW_some] <;> rfl),by repeat (first | (with_reducible first | exact HB.out | apply bA | apply bN | apply bD | refine below_set ?_ GE162.out) | exact HB.out)⟩
 ·replace c6:=Bool.eq_false_iff.mpr c6
  subst c6
  have H1 : (some ((⟨#[]⟩ : ByteArray),false))=some (r1,r2):=by rw [if_neg (show ¬ (false=true) by decide)] at H; exact H
  clear H
  have H:=H1
  clear H1
  simp only [Option.some.injEq,Prod.mk.injEq] at H
  obtain ⟨rfl,rfl⟩:=H
  go_enter Tryd.func57,Tryd.ntmps57
  go_wp2_with (first | ((with_reducible refine gate_dst (N:=7) rfl ?_); refine box_event ?hg (N:=7) ?hd (cs:=#[.int .u8 a3_0, .int .u8 a3_1, .int .u8 a3_2, .int .u8 a3_3, .int .u8 a3_4]) (t:=25) ?hr ?_; (case hd=>rfl); (case hg=>rfl); (case hr=>first | (go_simp; done) | (go_simp; rfl)); intro gb162 hg w19 hbox hb; have n0_:=Aside0.mk (below_step (by repeat (first | (with_reducible first | exact HB.out | apply bA | apply bN | apply bD) | exact HB.out)) hb); have n1_:=Aside0.mk (hbox); have n2_:=Aside0.mk ((by rw [hg]; exact (below_size (by repeat (first | (with_reducible first | exact HB.out | apply bA | apply bN | apply bD) | exact HB.out))) : w.heap.size≤gb162)); have n3_:=Aside0.mk ((by rw [hg]; exact (below_size (by repeat (first | (with_reducible first | exact HB.out | apply bA | apply bN | apply bD) | exact HB.out))) : w.heap.size≤gb162)); clear HB; have HB:=n0_; have BK162:=n1_; have GW162:=n2_; have GE162:=n3_; clear n0_ n1_ n2_ n3_; clear hb hbox hg; have hcz20_0:w19.cell? ⟨gb162,0,none⟩=some (.int .u8 a3_0):=blk_cell BK162.out 0; have hcz20_1:w19.cell? ⟨gb162,1,none⟩=some (.int .u8 a3_1):=blk_cell BK162.out 1; have hcz20_2:w19.cell? ⟨gb162,2,none⟩=some (.int .u8 a3_2):=blk_cell BK162.out 2; have hcz20_3:w19.cell? ⟨gb162,3,none⟩=some (.int .u8 a3_3):=blk_cell BK162.out 3; have hcz20_4:w19.cell? ⟨gb162,4,none⟩=some (.int .u8 a3_4):=blk_cell BK162.out 4; have hfz20_0:=blk_frozen BK162.out 0; have hfz20_1:=blk_frozen BK162.out 1; have hfz20_2:=blk_frozen BK162.out 2; have hfz20_3:=blk_frozen BK162.out 3; have hfz20_4:=blk_frozen BK162.out 4) | ((with_reducible refine gate_callee (f:=69) rfl ?_); refine goesL_ (some 18) rfl rfl Tryd.func69 (by kernel_rfl) rfl #[.string a0, .int .i64 a1, .agg #[.int .u8 a3_0, .int .u8 a3_1, .int .u8 a3_2, .int .u8 a3_3, .int .u8 a3_4]] rfl (by (try simp only [List.map_toArray,List.map_cons,List.map_nil]); first | done | rfl | (simp only [List.length_drop,List.length_take]; rfl)) ?_; (with_reducible refine (segment_again.calls a0 a1 a3_0 a3_1 a3_2 a3_3 a3_4 t163 false _ A5.out).mono ?_); rintro e w21 ⟨rfl,hb⟩; refine ⟨_,rfl,?_⟩; have n0_:=Aside0.mk (blk_below (g:=gb162) (o := .cells #[.int .u8 a3_0, .int .u8 a3_1, .int .u8 a3_2, .int .u8 a3_3, .int .u8 a3_4] 25 (0,0)) (by (with_reducible repeat (first | refine kN ?_ _ | refine kD ?_ | refine kA ?_ _)); exact BK162.out) hb); have n1_:=Aside0.mk (below_step (by repeat (first | (with_reducible first | exact HB.out | apply bA | apply bN | apply bD | refine below_set ?_ GE162.out) | exact HB.out)) hb); clear BK162; clear HB; have BK162:=n0_; have HB:=n1_; clear n0_ n1_; (try clear hb)))
  go_ret2
  exact ⟨by first | rfl | (simp [errW_none,errW_some] <;> rfl) | (simp [*,errW_none,errW_some] <;> rfl),by repeat (first | (with_reducible first | exact HB.out | apply bA | apply bN | apply bD | refine below_set ?_ GE162.out) | exact HB.out)⟩

/-! ### msh_first: function 31 -/
def msh_first.f (a0 : ByteArray) (a1_0 : Int) (a1_1 : Int) (a1_2 : Int) (a1_3 : Int) (a1_4 : Int) : Option (ByteArray):=(segment_Part.f a0 1 1 a1_0 a1_1 a1_2 a1_3 a1_4).bind fun bt168=>(some bt168.1)
theorem msh_first.calls (a0 : ByteArray) (a1_0 : Int) (a1_1 : Int) (a1_2 : Int) (a1_3 : Int) (a1_4 : Int) (r : ByteArray) (w : World) (h : msh_first.f a0 a1_0 a1_1 a1_2 a1_3 a1_4=some r) :
  Calls Tryd.prog 31 #[.string a0, .agg #[.int .u8 a1_0, .int .u8 a1_1, .int .u8 a1_2, .int .u8 a1_3, .int .u8 a1_4]] w fun e w'=>e = .returned (.string r)∧Below w.heap.size w w':=by
 have hu25:=Tryd.underlying25
 have HB:=Aside0.mk (Below.refl w.heap.size w)
 have H : ((segment_Part.f a0 1 1 a1_0 a1_1 a1_2 a1_3 a1_4).bind fun bt168=>(some bt168.1))=some r:=h
 clear h
 replace H:=Option.bind_eq_some_iff.mp H
 obtain ⟨⟨t168,t169⟩,A30,H⟩:=H
 replace H : (some t168)=some r:=H
 have A3:=Aside0.mk A30
 clear A30
 obtain rfl:=Option.some.inj H
 go_enter Tryd.func31,Tryd.ntmps31
 go_wp2_with (first | ((with_reducible refine gate_dst (N:=3) rfl ?_); refine box_event ?hg (N:=3) ?hd (cs:=#[.int .u8 a1_0, .int .u8 a1_1, .int .u8 a1_2, .int .u8 a1_3, .int .u8 a1_4]) (t:=25) ?hr ?_; (case hd=>rfl); (case hg=>rfl); (case hr=>first | (go_simp; done) | (go_simp; rfl)); intro gb167 hg w4 hbox hb; have n0_:=Aside0.mk (below_step (by repeat (first | (with_reducible first | exact HB.out | apply bA | apply bN | apply bD) | exact HB.out)) hb); have n1_:=Aside0.mk (hbox); have n2_:=Aside0.mk ((by rw [hg]; exact (below_size (by repeat (first | (with_reducible first | exact HB.out | apply bA | apply bN | apply bD) | exact HB.out))) : w.heap.size≤gb167)); have n3_:=Aside0.mk ((by rw [hg]; exact (below_size (by repeat (first | (with_reducible first | exact HB.out | apply bA | apply bN | apply bD) | exact HB.out))) : w.heap.size≤gb167)); clear HB; have HB:=n0_; have BK167:=n1_; have GW167:=n2_; have GE167:=n3_; clear n0_ n1_ n2_ n3_; clear hb hbox hg; have hcz5_0:w4.cell? ⟨gb167,0,none⟩=some (.int .u8 a1_0):=blk_cell BK167.out 0; have hcz5_1:w4.cell? ⟨gb167,1,none⟩=some (.int .u8 a1_1):=blk_cell BK167.out 1; have hcz5_2:w4.cell? ⟨gb167,2,none⟩=some (.int .u8 a1_2):=blk_cell BK167.out 2; have hcz5_3:w4.cell? ⟨gb167,3,none⟩=some (.int .u8 a1_3):=blk_cell BK167.out 3; have hcz5_4:w4.cell? ⟨gb167,4,none⟩=some (.int .u8 a1_4):=blk_cell BK167.out 4; have hfz5_0:=blk_frozen BK167.out 0; have hfz5_1:=blk_frozen BK167.out 1; have hfz5_2:=blk_frozen BK167.out 2; have hfz5_3:=blk_frozen BK167.out 3; have hfz5_4:=blk_frozen BK167.out 4) | ((with_reducible refine gate_callee (f:=57) rfl ?_); refine goesL_ (some 10) rfl rfl Tryd.func57 (by kernel_rfl) rfl #[.string a0, .int .i64 1, .int .i64 1, .agg #[.int .u8 a1_0, .int .u8 a1_1, .int .u8 a1_2, .int .u8 a1_3, .int .u8 a1_4]] rfl (by (try simp only [List.map_toArray,List.map_cons,List.map_nil]); first | done | rfl | (simp only [List.length_drop,List.length_take]; rfl)) ?_; (with_reducible refine (segment_Part.calls a0 1 1 a1_0 a1_1 a1_2 a1_3 a1_4 t168 t169 _ A3.out).mono ?_); rintro e w6 ⟨rfl,hb⟩; refine ⟨_,rfl,?_⟩; have n0_:=Aside0.mk (blk_below (g:=gb167) (o := .cells #[.int .u8 a1_0, .int .u8 a1_1, .int .u8 a1_2, .int .u8 a1_3, .int .u8 a1_4] 25 (0,0)) (by (with_reducible repeat (first | refine kN ?_ _ | refine kD ?_ | refine kA ?_ _)); exact BK167.out) hb); have n1_:=Aside0.mk (below_step (by repeat (first | (with_reducible first | exact HB.out | apply bA | apply bN | apply bD | refine below_set ?_ GE167.out) | exact HB.out)) hb); clear BK167; clear HB; have BK167:=n0_; have HB:=n1_; clear n0_ n1_; (try clear hb)))
 go_ret
 exact ⟨by first | rfl | (simp [errW_none,errW_some] <;> rfl) | (simp [*,errW_none,errW_some] <;> rfl),by repeat (first | (with_reducible first | exact HB.out | apply bA | apply bN | apply bD | refine below_set ?_ GE167.out) | exact HB.out)⟩

/-! ### msh_Check: function 14 -/
def msh_Check.f (k : Nat) (a0_0 : Int) (a0_1 : Int) (a0_2 : Int) (a0_3 : Int) (a0_4 : Int) (a0_5 : ByteArray) (a0_6 : ByteArray) (a0_7 : ByteArray) (a0_8 : ByteArray) (a0_9 : ByteArray) (a0_10 : ByteArray) (a0_11 : ByteArray) (a0_12 : ByteArray) (a0_13 : ByteArray) (a0_14 : ByteArray) : Option (Int) :=
 if a0_11.toList.isEmpty=true then some 14 else if a0_12.toList.isEmpty=true then some 14 else if (50 : Int) < (a0_12.size : Int) then some 14 else
  (msh_first.f a0_14 a0_0 a0_1 a0_2 a0_3 a0_4).bind fun v=>(slices_Contains_string_string.f k versL v).bind fun t=>if t=true then
   (msh_first.f a0_13 a0_0 a0_1 a0_2 a0_3 a0_4).bind fun p=>(slices_Contains_string_string.f k [⟨#[80]⟩,⟨#[68]⟩,⟨#[84]⟩] p).bind fun u=>if u=true then some 0 else some 13
  else some 12
theorem row3 {W : World} {g : Nat} {t : TypeId} {a b c : ByteArray} (h : W.heap[g]?=some (.cells #[.string a, .string b, .string c] t (0,0))) : Kd.C Kd.string W (some ⟨g,0,none⟩) [a,b,c].length [a,b,c] :=
 Kd.C_of_reads (d:=ByteArray.empty) (h1:=fun _=>rfl) ⟨rfl,by simp,fun _=>⟨_,rfl,fun j hj=>by
  rw [Go.Proofs.YtljdbphojcglgaaDoorW.PrintWords.add_plain,blk_cell h]
  have hj3:j < 3:=hj
  have : j=0∨j=1∨j=2:=by omega
  rcases this with rfl | rfl | rfl <;> rfl⟩⟩
theorem msh_Check.calls (k : Nat) (a0_0 : Int) (a0_1 : Int) (a0_2 : Int) (a0_3 : Int) (a0_4 : Int) (a0_5 : ByteArray) (a0_6 : ByteArray) (a0_7 : ByteArray) (a0_8 : ByteArray) (a0_9 : ByteArray) (a0_10 : ByteArray) (a0_11 : ByteArray) (a0_12 : ByteArray) (a0_13 : ByteArray) (a0_14 : ByteArray) (r : Int) (w : World) (h : msh_Check.f k a0_0 a0_1 a0_2 a0_3 a0_4 a0_5 a0_6 a0_7 a0_8 a0_9 a0_10 a0_11 a0_12 a0_13 a0_14=some r) (hG : GlobOK w) :
  Calls Tryd.prog 14 #[.agg #[.int .u8 a0_0, .int .u8 a0_1, .int .u8 a0_2, .int .u8 a0_3, .int .u8 a0_4, .string a0_5, .string a0_6, .string a0_7, .string a0_8, .string a0_9, .string a0_10, .string a0_11, .string a0_12, .string a0_13, .string a0_14]] w fun e w'=>e = .returned (.int .i64 r)∧Below w.heap.size w w':=by
 have HG:=Lib.hid hG
 clear hG
 unfold msh_Check.f at h
 by_cases q1 : a0_11.toList.isEmpty=true
 ·rw [if_pos q1] at h
  obtain rfl:=Option.some.inj h
  clear h
  go_enter Tryd.func14,Tryd.ntmps14
  have hz1:=Lib.hid (heap_new w (.cells #[.int .u8 a0_0, .int .u8 a0_1, .int .u8 a0_2, .int .u8 a0_3, .int .u8 a0_4, .string a0_5, .string a0_6, .string a0_7, .string a0_8, .string a0_9, .string a0_10, .string a0_11, .string a0_12, .string a0_13, .string a0_14] 27))
  have hB1:=Lib.hid ((Below.refl w.heap.size w).alloc (Nat.le_refl _) (.cells #[.int .u8 a0_0, .int .u8 a0_1, .int .u8 a0_2, .int .u8 a0_3, .int .u8 a0_4, .string a0_5, .string a0_6, .string a0_7, .string a0_8, .string a0_9, .string a0_10, .string a0_11, .string a0_12, .string a0_13, .string a0_14] 27))
  have e0:=blk_cell hz1.out 0
  have e1:=blk_cell hz1.out 1
  have e2:=blk_cell hz1.out 2
  have e3:=blk_cell hz1.out 3
  have e4:=blk_cell hz1.out 4
  have e11:=blk_cell hz1.out 11
  have e12:=blk_cell hz1.out 12
  have e13:=blk_cell hz1.out 13
  have e14:=blk_cell hz1.out 14
  simp only [List.getElem?_toArray,List.getElem?_cons_zero,List.getElem?_cons_succ] at e0 e1 e2 e3 e4 e11 e12 e13 e14
  go_wp2_with fail
  exact bodyPost_ret (v := .int .i64 14) (by simp [results,Tryd.results14,go_sem]) rfl ⟨rfl,hB1.out⟩
 have q1' : a0_11.toList.isEmpty=false:=by simpa using q1
 rw [if_neg q1] at h
 clear q1
 by_cases q2 : a0_12.toList.isEmpty=true
 ·rw [if_pos q2] at h
  obtain rfl:=Option.some.inj h
  clear h
  go_enter Tryd.func14,Tryd.ntmps14
  have hz1:=Lib.hid (heap_new w (.cells #[.int .u8 a0_0, .int .u8 a0_1, .int .u8 a0_2, .int .u8 a0_3, .int .u8 a0_4, .string a0_5, .string a0_6, .string a0_7, .string a0_8, .string a0_9, .string a0_10, .string a0_11, .string a0_12, .string a0_13, .string a0_14] 27))
  have hB1:=Lib.hid ((Below.refl w.heap.size w).alloc (Nat.le_refl _) (.cells #[.int .u8 a0_0, .int .u8 a0_1, .int .u8 a0_2, .int .u8 a0_3, .int .u8 a0_4, .string a0_5, .string a0_6, .string a0_7, .string a0_8, .string a0_9, .string a0_10, .string a0_11, .string a0_12, .string a0_13, .string a0_14] 27))
  have e0:=blk_cell hz1.out 0
  have e1:=blk_cell hz1.out 1
  have e2:=blk_cell hz1.out 2
  have e3:=blk_cell hz1.out 3
  have e4:=blk_cell hz1.out 4
  have e11:=blk_cell hz1.out 11
  have e12:=blk_cell hz1.out 12
  have e13:=blk_cell hz1.out 13
  have e14:=blk_cell hz1.out 14
  simp only [List.getElem?_toArray,List.getElem?_cons_zero,List.getElem?_cons_succ] at e0 e1 e2 e3 e4 e11 e12 e13 e14
  go_wp2_with fail
  exact bodyPost_ret (v := .int .i64 14) (by simp [results,Tryd.results14,go_sem]) rfl ⟨rfl,hB1.out⟩
 have q2' : a0_12.toList.isEmpty=false:=by simpa using q2
 rw [if_neg q2] at h
 clear q2
 by_cases q3 : (50 : Int) < (a0_12.size : Int)
 ·rw [if_pos q3] at h
  obtain rfl:=Option.some.inj h
  clear h
  have q3' : decide ((a0_12.size : Int) > 50)=true:=decide_eq_true q3
  go_enter Tryd.func14,Tryd.ntmps14
  have hz1:=Lib.hid (heap_new w (.cells #[.int .u8 a0_0, .int .u8 a0_1, .int .u8 a0_2, .int .u8 a0_3, .int .u8 a0_4, .string a0_5, .string a0_6, .string a0_7, .string a0_8, .string a0_9, .string a0_10, .string a0_11, .string a0_12, .string a0_13, .string a0_14] 27))
  have hB1:=Lib.hid ((Below.refl w.heap.size w).alloc (Nat.le_refl _) (.cells #[.int .u8 a0_0, .int .u8 a0_1, .int .u8 a0_2, .int .u8 a0_3, .int .u8 a0_4, .string a0_5, .string a0_6, .string a0_7, .string a0_8, .string a0_9, .string a0_10, .string a0_11, .string a0_12, .string a0_13, .string a0_14] 27))
  have e0:=blk_cell hz1.out 0
  have e1:=blk_cell hz1.out 1
  have e2:=blk_cell hz1.out 2
  have e3:=blk_cell hz1.out 3
  have e4:=blk_cell hz1.out 4
  have e11:=blk_cell hz1.out 11
  have e12:=blk_cell hz1.out 12
  have e13:=blk_cell hz1.out 13
  have e14:=blk_cell hz1.out 14
  simp only [List.getElem?_toArray,List.getElem?_cons_zero,List.getElem?_cons_succ] at e0 e1 e2 e3 e4 e11 e12 e13 e14
  go_wp2_with fail
  exact bodyPost_ret (v := .int .i64 14) (by simp [results,Tryd.results14,go_sem]) rfl ⟨rfl,hB1.out⟩
 rw [if_neg q3] at h
 have q3' : decide ((a0_12.size : Int) > 50)=false:=decide_eq_false q3
 clear q3
 obtain ⟨v,hv,h2⟩:=Option.bind_eq_some_iff.1 h
 obtain ⟨t,ht,h3⟩:=Option.bind_eq_some_iff.1 h2
 clear h h2
 have HV:=Lib.hid hv
 have HT:=Lib.hid ht
 clear hv ht
 by_cases q4 : t=true
 ·rw [if_pos q4] at h3
  subst q4
  obtain ⟨p,hp,h4⟩:=Option.bind_eq_some_iff.1 h3
  obtain ⟨u,hu,h5⟩:=Option.bind_eq_some_iff.1 h4
  clear h3 h4
  have HP:=Lib.hid hp
  have HU:=Lib.hid hu
  clear hp hu
  go_enter Tryd.func14,Tryd.ntmps14
  have hz1:=Lib.hid (heap_new w (.cells #[.int .u8 a0_0, .int .u8 a0_1, .int .u8 a0_2, .int .u8 a0_3, .int .u8 a0_4, .string a0_5, .string a0_6, .string a0_7, .string a0_8, .string a0_9, .string a0_10, .string a0_11, .string a0_12, .string a0_13, .string a0_14] 27))
  have hB1:=Lib.hid ((Below.refl w.heap.size w).alloc (Nat.le_refl _) (.cells #[.int .u8 a0_0, .int .u8 a0_1, .int .u8 a0_2, .int .u8 a0_3, .int .u8 a0_4, .string a0_5, .string a0_6, .string a0_7, .string a0_8, .string a0_9, .string a0_10, .string a0_11, .string a0_12, .string a0_13, .string a0_14] 27))
  have e0:=blk_cell hz1.out 0
  have e1:=blk_cell hz1.out 1
  have e2:=blk_cell hz1.out 2
  have e3:=blk_cell hz1.out 3
  have e4:=blk_cell hz1.out 4
  have e11:=blk_cell hz1.out 11
  have e12:=blk_cell hz1.out 12
  have e13:=blk_cell hz1.out 13
  have e14:=blk_cell hz1.out 14
  simp only [List.getElem?_toArray,List.getElem?_cons_zero,List.getElem?_cons_succ] at e0 e1 e2 e3 e4 e11 e12 e13 e14
  go_wp2_with fail
  refine start_ (n:=9) (S:=fun w'=>w'.cell? ⟨w.heap.size,0,none⟩=some (.int .u8 a0_0)∧w'.cell? ⟨w.heap.size,1,none⟩=some (.int .u8 a0_1)∧w'.cell? ⟨w.heap.size,2,none⟩=some (.int .u8 a0_2)∧w'.cell? ⟨w.heap.size,3,none⟩=some (.int .u8 a0_3)∧w'.cell? ⟨w.heap.size,4,none⟩=some (.int .u8 a0_4)∧w'.cell? ⟨w.heap.size,14,none⟩=some (.string a0_14)) (ds:=[]) #[false,false,false,false,false,false,false,false,false] (by kernel_rfl) rfl rfl ⟨e0,e1,e2,e3,e4,e14⟩ (fun hHeld=>?_)
  refine pure_ (i:=0) (N:=some 19) (v:=?_) (a':=?_) #[true,false,false,false,false,false,false,false,false] rfl rfl (by kernel_rfl) (fun _ _ _ h=>h) (Or.inl ⟨by rfl,?_⟩) ?_ ?_
  rotate_left
  ·intro w'
   go_simp
   with_reducible rfl
  rotate_left
  ·simp only [Act.put,sA_,s0_,s1_]
   rfl
  refine pure_ (i:=1) (N:=some 20) (v:=?_) (a':=?_) #[true,true,false,false,false,false,false,false,false] rfl rfl (by kernel_rfl) (fun _ _ _ h=>h) (Or.inl ⟨by rfl,?_⟩) ?_ ?_
  rotate_left
  ·intro w'
   go_simp
   with_reducible rfl
  rotate_left
  ·simp only [Act.put,sA_,s0_,s1_]
   rfl
  refine take_ (i:=2) (N:=some 21) (v:=?_) (a':=?_) #[true,true,true,false,false,false,false,false,false] rfl rfl (by kernel_rfl) (fun _ _ _ h=>h) (Or.inl ⟨by rfl,?_⟩) hHeld ?_ ?_
  rotate_left
  ·rintro w' ⟨s0,s1,s2,s3,s4,s5⟩
   go_simp
   with_reducible rfl
  rotate_left
  ·simp only [Act.put,sA_,s0_,s1_]
   rfl
  refine pure_ (i:=3) (N:=some 22) (v:=?_) (a':=?_) #[true,true,true,true,false,false,false,false,false] rfl rfl (by kernel_rfl) (fun _ _ _ h=>h) (Or.inl ⟨by rfl,?_⟩) ?_ ?_
  rotate_left
  ·intro w'
   go_simp
   with_reducible rfl
  rotate_left
  ·simp only [Act.put,sA_,s0_,s1_]
   rfl
  refine take_ (i:=4) (N:=some 23) (v:=?_) (a':=?_) #[true,true,true,true,true,false,false,false,false] rfl rfl (by kernel_rfl) (fun _ _ _ h=>h) (Or.inl ⟨by rfl,?_⟩) hHeld ?_ ?_
  rotate_left
  ·rintro w' ⟨s0,s1,s2,s3,s4,s5⟩
   go_simp
   with_reducible rfl
  rotate_left
  ·simp only [Act.put,sA_,s0_,s1_]
   rfl
  refine one_ (i:=5) (N:=some 24) #[true,true,true,true,true,true,false,false,false] rfl rfl (by kernel_rfl) (by decide) (fun K hK=>?_)
  refine goes_ Tryd.func31 (by kernel_rfl) rfl #[.string a0_14, .agg #[.int .u8 a0_0, .int .u8 a0_1, .int .u8 a0_2, .int .u8 a0_3, .int .u8 a0_4]] (by rfl) rfl rfl (by (try simp only [List.map_toArray,List.map_cons,List.map_nil]); first | done | rfl) ?_
  with_reducible refine (msh_first.calls a0_14 a0_0 a0_1 a0_2 a0_3 a0_4 v _ HV.out).mono ?_
  rintro e w2 ⟨rfl,hb2⟩
  obtain ⟨hc,hf⟩:=below_reads hb2
  have gS:w.heap.size < ((w.alloc (.cells #[.int .u8 a0_0, .int .u8 a0_1, .int .u8 a0_2, .int .u8 a0_3, .int .u8 a0_4, .string a0_5, .string a0_6, .string a0_7, .string a0_8, .string a0_9, .string a0_10, .string a0_11, .string a0_12, .string a0_13, .string a0_14] 27)).drew).heap.size:=by simp
  refine ⟨_,rfl,?_⟩
  refine hK.out _ _ ⟨(hc _ _ gS).trans e0,(hc _ _ gS).trans e1,(hc _ _ gS).trans e2,(hc _ _ gS).trans e3,(hc _ _ gS).trans e4,(hc _ _ gS).trans e14⟩ (fun hHeld=>?_)
  clear hK K
  refine norm_ (a':=?_) ?_ ?_
  rotate_left
  ·show Act.put _ (some 24) _=_
   simp only [Act.put,sA_,s0_,s1_]
   rfl
  have hB2:=Lib.hid (below_step (below_drew1 hB1.out) hb2)
  have hz2:=Lib.hid (blk_below (blk_drew hz1.out) hb2)
  clear hc hf hb2 gS
  refine one_ (i:=6) (N:=some 25) #[true,true,true,true,true,true,true,false,false] rfl rfl (by kernel_rfl) (by decide) (fun K hK=>?_)
  refine goes_ Tryd.func30 (by kernel_rfl) rfl #[.slice (some ⟨1,0,none⟩) versL.length 10, .string v] (by rfl) rfl rfl (by (try simp only [List.map_toArray,List.map_cons,List.map_nil]); first | done | rfl) ?_
  with_reducible refine (slices_Contains_string_string.calls k _ _ versL v true _ (glob_row (glob_below HG.out hB2.out)) (by decide) HT.out).mono ?_
  rintro e w3 ⟨rfl,nd,rfl⟩
  refine ⟨_,rfl,?_⟩
  refine hK.out _ _ hHeld (fun hHeld=>?_)
  clear hK K
  refine norm_ (a':=?_) ?_ ?_
  rotate_left
  ·show Act.put _ (some 25) _=_
   simp only [Act.put,sA_,s0_,s1_]
   rfl
  refine pure_ (i:=7) (N:=some 26) (v:=?_) (a':=?_) #[true,true,true,true,true,true,true,true,false] rfl rfl (by kernel_rfl) (fun _ _ _ h=>h) (Or.inl ⟨by rfl,?_⟩) ?_ ?_
  rotate_left
  ·intro w'
   go_simp
   with_reducible rfl
  rotate_left
  ·simp only [Act.put,sA_,s0_,s1_]
   rfl
  refine pure_ (i:=8) (N:=some 18) (v:=?_) (a':=?_) #[true,true,true,true,true,true,true,true,true] rfl rfl (by kernel_rfl) (fun _ _ _ h=>h) (Or.inl ⟨by rfl,?_⟩) ?_ ?_
  rotate_left
  ·intro w'
   go_simp
   with_reducible rfl
  rotate_left
  ·simp only [Act.put,sA_,s0_,s1_]
   rfl
  refine done_ (by kernel_rfl) ?_
  clear hHeld e0 e1 e2 e3 e4 e11 e12 e13 e14
  obtain ⟨W,hW⟩ : ∃ W,W=w2.drewN nd:=⟨_,rfl⟩
  rw [← hW]
  have hzW:=Lib.hid (show W.heap[w.heap.size]?=some (.cells #[.int .u8 a0_0, .int .u8 a0_1, .int .u8 a0_2, .int .u8 a0_3, .int .u8 a0_4, .string a0_5, .string a0_6, .string a0_7, .string a0_8, .string a0_9, .string a0_10, .string a0_11, .string a0_12, .string a0_13, .string a0_14] 27 (0,0)) by rw [hW]; exact hz2.out)
  have hBW:=Lib.hid (show Below w.heap.size w W by rw [hW]; exact pw_below_drewN hB2.out nd)
  have sW:=blk_lt hzW.out
  clear hW hz2 hB2 hB1 hz1
  have e0:=blk_cell hzW.out 0
  have e1:=blk_cell hzW.out 1
  have e2:=blk_cell hzW.out 2
  have e3:=blk_cell hzW.out 3
  have e4:=blk_cell hzW.out 4
  have e13:=blk_cell hzW.out 13
  simp only [List.getElem?_toArray,List.getElem?_cons_zero,List.getElem?_cons_succ] at e0 e1 e2 e3 e4 e13
  go_wp2_with fail
  with_reducible refine (msh_first.calls a0_13 a0_0 a0_1 a0_2 a0_3 a0_4 p _ HP.out).mono ?_
  rintro e w4 ⟨rfl,hb4⟩
  have hr4:=blk_below (heap_new W (.cells #[.string ⟨#[80]⟩, .string ⟨#[68]⟩, .string ⟨#[84]⟩] 9)) hb4
  have hB4:=Lib.hid (below_step (hBW.out.alloc hBW.out.size (.cells #[.string ⟨#[80]⟩, .string ⟨#[68]⟩, .string ⟨#[84]⟩] 9)) hb4)
  have hr5:=Lib.hid (row3 hr4)
  clear hr4 hb4
  go_wp2_with fail
  refine (slices_Contains_string_string.calls k (some ⟨W.heap.size,0,none⟩) 3 [⟨#[80]⟩,⟨#[68]⟩,⟨#[84]⟩] p u _ hr5.out (by decide) HU.out).mono ?_
  rintro e w5 ⟨rfl,nd2,rfl⟩
  cases u with
  | true =>
   obtain rfl:=Option.some.inj (show some (0 : Int)=some r from h5)
   go_wp2_with fail
   exact bodyPost_ret (v := .int .i64 0) (by simp [results,Tryd.results14,go_sem]) rfl ⟨rfl,pw_below_drewN hB4.out _⟩
  | false =>
   obtain rfl:=Option.some.inj (show some (13 : Int)=some r from h5)
   go_wp2_with fail
   exact bodyPost_ret (v := .int .i64 13) (by simp [results,Tryd.results14,go_sem]) rfl ⟨rfl,pw_below_drewN hB4.out _⟩
 ·rw [if_neg q4] at h3
  obtain rfl:=Option.some.inj h3
  obtain rfl : t=false:=by simpa using q4
  clear h3 q4
  go_enter Tryd.func14,Tryd.ntmps14
  have hz1:=Lib.hid (heap_new w (.cells #[.int .u8 a0_0, .int .u8 a0_1, .int .u8 a0_2, .int .u8 a0_3, .int .u8 a0_4, .string a0_5, .string a0_6, .string a0_7, .string a0_8, .string a0_9, .string a0_10, .string a0_11, .string a0_12, .string a0_13, .string a0_14] 27))
  have hB1:=Lib.hid ((Below.refl w.heap.size w).alloc (Nat.le_refl _) (.cells #[.int .u8 a0_0, .int .u8 a0_1, .int .u8 a0_2, .int .u8 a0_3, .int .u8 a0_4, .string a0_5, .string a0_6, .string a0_7, .string a0_8, .string a0_9, .string a0_10, .string a0_11, .string a0_12, .string a0_13, .string a0_14] 27))
  have e0:=blk_cell hz1.out 0
  have e1:=blk_cell hz1.out 1
  have e2:=blk_cell hz1.out 2
  have e3:=blk_cell hz1.out 3
  have e4:=blk_cell hz1.out 4
  have e11:=blk_cell hz1.out 11
  have e12:=blk_cell hz1.out 12
  have e13:=blk_cell hz1.out 13
  have e14:=blk_cell hz1.out 14
  simp only [List.getElem?_toArray,List.getElem?_cons_zero,List.getElem?_cons_succ] at e0 e1 e2 e3 e4 e11 e12 e13 e14
  go_wp2_with fail
  refine start_ (n:=9) (S:=fun w'=>w'.cell? ⟨w.heap.size,0,none⟩=some (.int .u8 a0_0)∧w'.cell? ⟨w.heap.size,1,none⟩=some (.int .u8 a0_1)∧w'.cell? ⟨w.heap.size,2,none⟩=some (.int .u8 a0_2)∧w'.cell? ⟨w.heap.size,3,none⟩=some (.int .u8 a0_3)∧w'.cell? ⟨w.heap.size,4,none⟩=some (.int .u8 a0_4)∧w'.cell? ⟨w.heap.size,14,none⟩=some (.string a0_14)) (ds:=[]) #[false,false,false,false,false,false,false,false,false] (by kernel_rfl) rfl rfl ⟨e0,e1,e2,e3,e4,e14⟩ (fun hHeld=>?_)
  refine pure_ (i:=0) (N:=some 19) (v:=?_) (a':=?_) #[true,false,false,false,false,false,false,false,false] rfl rfl (by kernel_rfl) (fun _ _ _ h=>h) (Or.inl ⟨by rfl,?_⟩) ?_ ?_
  rotate_left
  ·intro w'
   go_simp
   with_reducible rfl
  rotate_left
  ·simp only [Act.put,sA_,s0_,s1_]
   rfl
  refine pure_ (i:=1) (N:=some 20) (v:=?_) (a':=?_) #[true,true,false,false,false,false,false,false,false] rfl rfl (by kernel_rfl) (fun _ _ _ h=>h) (Or.inl ⟨by rfl,?_⟩) ?_ ?_
  rotate_left
  ·intro w'
   go_simp
   with_reducible rfl
  rotate_left
  ·simp only [Act.put,sA_,s0_,s1_]
   rfl
  refine take_ (i:=2) (N:=some 21) (v:=?_) (a':=?_) #[true,true,true,false,false,false,false,false,false] rfl rfl (by kernel_rfl) (fun _ _ _ h=>h) (Or.inl ⟨by rfl,?_⟩) hHeld ?_ ?_
  rotate_left
  ·rintro w' ⟨s0,s1,s2,s3,s4,s5⟩
   go_simp
   with_reducible rfl
  rotate_left
  ·simp only [Act.put,sA_,s0_,s1_]
   rfl
  refine pure_ (i:=3) (N:=some 22) (v:=?_) (a':=?_) #[true,true,true,true,false,false,false,false,false] rfl rfl (by kernel_rfl) (fun _ _ _ h=>h) (Or.inl ⟨by rfl,?_⟩) ?_ ?_
  rotate_left
  ·intro w'
   go_simp
   with_reducible rfl
  rotate_left
  ·simp only [Act.put,sA_,s0_,s1_]
   rfl
  refine take_ (i:=4) (N:=some 23) (v:=?_) (a':=?_) #[true,true,true,true,true,false,false,false,false] rfl rfl (by kernel_rfl) (fun _ _ _ h=>h) (Or.inl ⟨by rfl,?_⟩) hHeld ?_ ?_
  rotate_left
  ·rintro w' ⟨s0,s1,s2,s3,s4,s5⟩
   go_simp
   with_reducible rfl
  rotate_left
  ·simp only [Act.put,sA_,s0_,s1_]
   rfl
  refine one_ (i:=5) (N:=some 24) #[true,true,true,true,true,true,false,false,false] rfl rfl (by kernel_rfl) (by decide) (fun K hK=>?_)
  refine goes_ Tryd.func31 (by kernel_rfl) rfl #[.string a0_14, .agg #[.int .u8 a0_0, .int .u8 a0_1, .int .u8 a0_2, .int .u8 a0_3, .int .u8 a0_4]] (by rfl) rfl rfl (by (try simp only [List.map_toArray,List.map_cons,List.map_nil]); first | done | rfl) ?_
  with_reducible refine (msh_first.calls a0_14 a0_0 a0_1 a0_2 a0_3 a0_4 v _ HV.out).mono ?_
  rintro e w2 ⟨rfl,hb2⟩
  obtain ⟨hc,hf⟩:=below_reads hb2
  have gS:w.heap.size < ((w.alloc (.cells #[.int .u8 a0_0, .int .u8 a0_1, .int .u8 a0_2, .int .u8 a0_3, .int .u8 a0_4, .string a0_5, .string a0_6, .string a0_7, .string a0_8, .string a0_9, .string a0_10, .string a0_11, .string a0_12, .string a0_13, .string a0_14] 27)).drew).heap.size:=by simp
  refine ⟨_,rfl,?_⟩
  refine hK.out _ _ ⟨(hc _ _ gS).trans e0,(hc _ _ gS).trans e1,(hc _ _ gS).trans e2,(hc _ _ gS).trans e3,(hc _ _ gS).trans e4,(hc _ _ gS).trans e14⟩ (fun hHeld=>?_)
  clear hK K
  refine norm_ (a':=?_) ?_ ?_
  rotate_left
  ·show Act.put _ (some 24) _=_
   simp only [Act.put,sA_,s0_,s1_]
   rfl
  have hB2:=Lib.hid (below_step (below_drew1 hB1.out) hb2)
  have hz2:=Lib.hid (blk_below (blk_drew hz1.out) hb2)
  clear hc hf hb2 gS
  refine one_ (i:=6) (N:=some 25) #[true,true,true,true,true,true,true,false,false] rfl rfl (by kernel_rfl) (by decide) (fun K hK=>?_)
  refine goes_ Tryd.func30 (by kernel_rfl) rfl #[.slice (some ⟨1,0,none⟩) versL.length 10, .string v] (by rfl) rfl rfl (by (try simp only [List.map_toArray,List.map_cons,List.map_nil]); first | done | rfl) ?_
  with_reducible refine (slices_Contains_string_string.calls k _ _ versL v false _ (glob_row (glob_below HG.out hB2.out)) (by decide) HT.out).mono ?_
  rintro e w3 ⟨rfl,nd,rfl⟩
  refine ⟨_,rfl,?_⟩
  refine hK.out _ _ hHeld (fun hHeld=>?_)
  clear hK K
  refine norm_ (a':=?_) ?_ ?_
  rotate_left
  ·show Act.put _ (some 25) _=_
   simp only [Act.put,sA_,s0_,s1_]
   rfl
  refine pure_ (i:=7) (N:=some 26) (v:=?_) (a':=?_) #[true,true,true,true,true,true,true,true,false] rfl rfl (by kernel_rfl) (fun _ _ _ h=>h) (Or.inl ⟨by rfl,?_⟩) ?_ ?_
  rotate_left
  ·intro w'
   go_simp
   with_reducible rfl
  rotate_left
  ·simp only [Act.put,sA_,s0_,s1_]
   rfl
  refine pure_ (i:=8) (N:=some 18) (v:=?_) (a':=?_) #[true,true,true,true,true,true,true,true,true] rfl rfl (by kernel_rfl) (fun _ _ _ h=>h) (Or.inl ⟨by rfl,?_⟩) ?_ ?_
  rotate_left
  ·intro w'
   go_simp
   with_reducible rfl
  rotate_left
  ·simp only [Act.put,sA_,s0_,s1_]
   rfl
  refine done_ (by kernel_rfl) ?_
  clear hHeld e0 e1 e2 e3 e4 e11 e12 e13 e14
  obtain ⟨W,hW⟩ : ∃ W,W=w2.drewN nd:=⟨_,rfl⟩
  rw [← hW]
  have hzW:=Lib.hid (show W.heap[w.heap.size]?=some (.cells #[.int .u8 a0_0, .int .u8 a0_1, .int .u8 a0_2, .int .u8 a0_3, .int .u8 a0_4, .string a0_5, .string a0_6, .string a0_7, .string a0_8, .string a0_9, .string a0_10, .string a0_11, .string a0_12, .string a0_13, .string a0_14] 27 (0,0)) by rw [hW]; exact hz2.out)
  have hBW:=Lib.hid (show Below w.heap.size w W by rw [hW]; exact pw_below_drewN hB2.out nd)
  have sW:=blk_lt hzW.out
  clear hW hz2 hB2 hB1 hz1
  have e0:=blk_cell hzW.out 0
  have e1:=blk_cell hzW.out 1
  have e2:=blk_cell hzW.out 2
  have e3:=blk_cell hzW.out 3
  have e4:=blk_cell hzW.out 4
  have e13:=blk_cell hzW.out 13
  simp only [List.getElem?_toArray,List.getElem?_cons_zero,List.getElem?_cons_succ] at e0 e1 e2 e3 e4 e13
  go_wp2_with fail
  exact bodyPost_ret (v := .int .i64 12) (by simp [results,Tryd.results14,go_sem]) rfl ⟨rfl,hBW.out⟩
theorem msh_Check.mono : ∀ a0_0 a0_1 a0_2 a0_3 a0_4 a0_5 a0_6 a0_7 a0_8 a0_9 a0_10 a0_11 a0_12 a0_13 a0_14 k,LeO (msh_Check.f k a0_0 a0_1 a0_2 a0_3 a0_4 a0_5 a0_6 a0_7 a0_8 a0_9 a0_10 a0_11 a0_12 a0_13 a0_14) (msh_Check.f (k + 1) a0_0 a0_1 a0_2 a0_3 a0_4 a0_5 a0_6 a0_7 a0_8 a0_9 a0_10 a0_11 a0_12 a0_13 a0_14):=by
 intro a0_0 a0_1 a0_2 a0_3 a0_4 a0_5 a0_6 a0_7 a0_8 a0_9 a0_10 a0_11 a0_12 a0_13 a0_14 k
 unfold msh_Check.f
 repeat' first
   | (with_reducible exact slices_Contains_string_string.mono _ _ _)
   | (with_reducible exact LeO.refl _)
   | (with_reducible refine LeO.ite ?_ ?_)
   | (with_reducible refine LeO.bind ?_ (fun _=>?_))



end Go.Proofs.YtljdbphojcglgaaDoor.PF
