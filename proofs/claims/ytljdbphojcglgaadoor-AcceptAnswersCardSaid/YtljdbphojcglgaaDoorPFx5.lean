import Derived.Test.YtljdbphojcglgaaDoorPFx0
import Derived.Test.YtljdbphojcglgaaDoorPFx2
import Derived.Test.YtljdbphojcglgaaDoorPFx3
import Derived.Test.YtljdbphojcglgaaDoorPFx4
namespace Go.Proofs.YtljdbphojcglgaaDoor.PF
open Go.RowKit Go.Proofs.YtljdbphojcglgaaDoorW.PrintWords Go.Proofs.YtljdbphojcglgaaDoorW.PrintLast Go.Proofs.YtljdbphojcglgaaDoorW.PrintMore
set_option maxHeartbeats 8000000
set_option maxRecDepth 100000
attribute [local go_sem] max2_int min2_int max_two min_two max_three min_three max_four min_four
set_option linter.unusedVariables false
set_option linter.unusedSimpArgs false

/-! ### msh_Read: function 11 -/
/-- The functions that tell a head's texts. -/
def textFns : Array Value:=#[.func (.func 42) #[] #[], .func (.func 43) #[] #[], .func (.func 44) #[] #[], .func (.func 45) #[] #[], .func (.func 46) #[] #[], .func (.func 47) #[] #[], .func (.func 48) #[] #[], .func (.func 49) #[] #[], .func (.func 50) #[] #[], .func (.func 51) #[] #[]]
theorem texts_calls (w : World) : Calls Tryd.prog 27 #[] w fun e w'=>e = .returned (.agg #[.func (.func 42) #[] #[], .func (.func 43) #[] #[], .func (.func 44) #[] #[], .func (.func 45) #[] #[], .func (.func 46) #[] #[], .func (.func 47) #[] #[], .func (.func 48) #[] #[], .func (.func 49) #[] #[], .func (.func 50) #[] #[], .func (.func 51) #[] #[]])∧Below w.heap.size w w':=by
 have HZ : ∀ cs : Array Value,(w.alloc (.cells cs 65)).heap[w.heap.size]?=some (.cells cs 65 (0,0)):=fun cs=>heap_new w _
 have HB : ∀ cs : Array Value,Below w.heap.size w (w.alloc (.cells cs 65)):=fun cs=>(Below.refl w.heap.size w).alloc (Nat.le_refl _) _
 go_enter Tryd.func27,Tryd.ntmps27
 go_wp2_with (first | (refine gate_store (t:=65) rfl ?_; refine store_whole rfl rfl 65 _ _ rfl (g:=w.heap.size) (e:=65) (cs':=textFns) rfl rfl rfl (HZ _) (by kernel_rfl) rfl (by decide) ?_; intro W' q1 q2 q3 q4))
 exact bodyPost_ret (results_cell_row rfl _ _ w.heap.size 65 textFns (0,0) _ rfl q1 Tryd.underlying65 rfl (by kernel_rfl)) rfl ⟨rfl,q4 _ _ (Nat.le_refl _) (HB _)⟩
theorem texts_at0 (W : World) : (Instr.index 65 (.agg #[.func (.func 42) #[] #[], .func (.func 43) #[] #[], .func (.func 44) #[] #[], .func (.func 45) #[] #[], .func (.func 46) #[] #[], .func (.func 47) #[] #[], .func (.func 48) #[] #[], .func (.func 49) #[] #[], .func (.func 50) #[] #[], .func (.func 51) #[] #[]]) (.int .i64 0)).run Tryd.prog W = .ok (.agg #[.func (.func 42) #[] #[]]) W:=by kernel_rfl
theorem texts_at1 (W : World) : (Instr.index 65 (.agg #[.func (.func 42) #[] #[], .func (.func 43) #[] #[], .func (.func 44) #[] #[], .func (.func 45) #[] #[], .func (.func 46) #[] #[], .func (.func 47) #[] #[], .func (.func 48) #[] #[], .func (.func 49) #[] #[], .func (.func 50) #[] #[], .func (.func 51) #[] #[]]) (.int .i64 1)).run Tryd.prog W = .ok (.agg #[.func (.func 43) #[] #[]]) W:=by kernel_rfl
theorem texts_at2 (W : World) : (Instr.index 65 (.agg #[.func (.func 42) #[] #[], .func (.func 43) #[] #[], .func (.func 44) #[] #[], .func (.func 45) #[] #[], .func (.func 46) #[] #[], .func (.func 47) #[] #[], .func (.func 48) #[] #[], .func (.func 49) #[] #[], .func (.func 50) #[] #[], .func (.func 51) #[] #[]]) (.int .i64 2)).run Tryd.prog W = .ok (.agg #[.func (.func 44) #[] #[]]) W:=by kernel_rfl
theorem texts_at3 (W : World) : (Instr.index 65 (.agg #[.func (.func 42) #[] #[], .func (.func 43) #[] #[], .func (.func 44) #[] #[], .func (.func 45) #[] #[], .func (.func 46) #[] #[], .func (.func 47) #[] #[], .func (.func 48) #[] #[], .func (.func 49) #[] #[], .func (.func 50) #[] #[], .func (.func 51) #[] #[]]) (.int .i64 3)).run Tryd.prog W = .ok (.agg #[.func (.func 45) #[] #[]]) W:=by kernel_rfl
theorem texts_at4 (W : World) : (Instr.index 65 (.agg #[.func (.func 42) #[] #[], .func (.func 43) #[] #[], .func (.func 44) #[] #[], .func (.func 45) #[] #[], .func (.func 46) #[] #[], .func (.func 47) #[] #[], .func (.func 48) #[] #[], .func (.func 49) #[] #[], .func (.func 50) #[] #[], .func (.func 51) #[] #[]]) (.int .i64 4)).run Tryd.prog W = .ok (.agg #[.func (.func 46) #[] #[]]) W:=by kernel_rfl
theorem texts_at5 (W : World) : (Instr.index 65 (.agg #[.func (.func 42) #[] #[], .func (.func 43) #[] #[], .func (.func 44) #[] #[], .func (.func 45) #[] #[], .func (.func 46) #[] #[], .func (.func 47) #[] #[], .func (.func 48) #[] #[], .func (.func 49) #[] #[], .func (.func 50) #[] #[], .func (.func 51) #[] #[]]) (.int .i64 5)).run Tryd.prog W = .ok (.agg #[.func (.func 47) #[] #[]]) W:=by kernel_rfl
theorem texts_at6 (W : World) : (Instr.index 65 (.agg #[.func (.func 42) #[] #[], .func (.func 43) #[] #[], .func (.func 44) #[] #[], .func (.func 45) #[] #[], .func (.func 46) #[] #[], .func (.func 47) #[] #[], .func (.func 48) #[] #[], .func (.func 49) #[] #[], .func (.func 50) #[] #[], .func (.func 51) #[] #[]]) (.int .i64 6)).run Tryd.prog W = .ok (.agg #[.func (.func 48) #[] #[]]) W:=by kernel_rfl
theorem texts_at7 (W : World) : (Instr.index 65 (.agg #[.func (.func 42) #[] #[], .func (.func 43) #[] #[], .func (.func 44) #[] #[], .func (.func 45) #[] #[], .func (.func 46) #[] #[], .func (.func 47) #[] #[], .func (.func 48) #[] #[], .func (.func 49) #[] #[], .func (.func 50) #[] #[], .func (.func 51) #[] #[]]) (.int .i64 7)).run Tryd.prog W = .ok (.agg #[.func (.func 49) #[] #[]]) W:=by kernel_rfl
theorem texts_at8 (W : World) : (Instr.index 65 (.agg #[.func (.func 42) #[] #[], .func (.func 43) #[] #[], .func (.func 44) #[] #[], .func (.func 45) #[] #[], .func (.func 46) #[] #[], .func (.func 47) #[] #[], .func (.func 48) #[] #[], .func (.func 49) #[] #[], .func (.func 50) #[] #[], .func (.func 51) #[] #[]]) (.int .i64 8)).run Tryd.prog W = .ok (.agg #[.func (.func 50) #[] #[]]) W:=by kernel_rfl
theorem texts_at9 (W : World) : (Instr.index 65 (.agg #[.func (.func 42) #[] #[], .func (.func 43) #[] #[], .func (.func 44) #[] #[], .func (.func 45) #[] #[], .func (.func 46) #[] #[], .func (.func 47) #[] #[], .func (.func 48) #[] #[], .func (.func 49) #[] #[], .func (.func 50) #[] #[], .func (.func 51) #[] #[]]) (.int .i64 9)).run Tryd.prog W = .ok (.agg #[.func (.func 51) #[] #[]]) W:=by kernel_rfl
theorem text_1 (g : Nat) (w : World) : Calls Tryd.prog 42 #[.pointer (some ⟨g,0,none⟩)] w fun e w'=>e = .returned (.pointer (some ⟨g,5,none⟩))∧w'=w:=by
 go_enter Tryd.func42,Tryd.ntmps42
 go_wp2
 go_ret
 exact ⟨rfl,rfl⟩
theorem text_2 (g : Nat) (w : World) : Calls Tryd.prog 43 #[.pointer (some ⟨g,0,none⟩)] w fun e w'=>e = .returned (.pointer (some ⟨g,6,none⟩))∧w'=w:=by
 go_enter Tryd.func43,Tryd.ntmps43
 go_wp2
 go_ret
 exact ⟨rfl,rfl⟩
theorem text_3 (g : Nat) (w : World) : Calls Tryd.prog 44 #[.pointer (some ⟨g,0,none⟩)] w fun e w'=>e = .returned (.pointer (some ⟨g,7,none⟩))∧w'=w:=by
 go_enter Tryd.func44,Tryd.ntmps44
 go_wp2
 go_ret
 exact ⟨rfl,rfl⟩
theorem text_4 (g : Nat) (w : World) : Calls Tryd.prog 45 #[.pointer (some ⟨g,0,none⟩)] w fun e w'=>e = .returned (.pointer (some ⟨g,8,none⟩))∧w'=w:=by
 go_enter Tryd.func45,Tryd.ntmps45
 go_wp2
 go_ret
 exact ⟨rfl,rfl⟩
theorem text_5 (g : Nat) (w : World) : Calls Tryd.prog 46 #[.pointer (some ⟨g,0,none⟩)] w fun e w'=>e = .returned (.pointer (some ⟨g,9,none⟩))∧w'=w:=by
 go_enter Tryd.func46,Tryd.ntmps46
 go_wp2
 go_ret
 exact ⟨rfl,rfl⟩
theorem text_6 (g : Nat) (w : World) : Calls Tryd.prog 47 #[.pointer (some ⟨g,0,none⟩)] w fun e w'=>e = .returned (.pointer (some ⟨g,10,none⟩))∧w'=w:=by
 go_enter Tryd.func47,Tryd.ntmps47
 go_wp2
 go_ret
 exact ⟨rfl,rfl⟩
theorem text_7 (g : Nat) (w : World) : Calls Tryd.prog 48 #[.pointer (some ⟨g,0,none⟩)] w fun e w'=>e = .returned (.pointer (some ⟨g,11,none⟩))∧w'=w:=by
 go_enter Tryd.func48,Tryd.ntmps48
 go_wp2
 go_ret
 exact ⟨rfl,rfl⟩
theorem text_8 (g : Nat) (w : World) : Calls Tryd.prog 49 #[.pointer (some ⟨g,0,none⟩)] w fun e w'=>e = .returned (.pointer (some ⟨g,12,none⟩))∧w'=w:=by
 go_enter Tryd.func49,Tryd.ntmps49
 go_wp2
 go_ret
 exact ⟨rfl,rfl⟩
theorem text_9 (g : Nat) (w : World) : Calls Tryd.prog 50 #[.pointer (some ⟨g,0,none⟩)] w fun e w'=>e = .returned (.pointer (some ⟨g,13,none⟩))∧w'=w:=by
 go_enter Tryd.func50,Tryd.ntmps50
 go_wp2
 go_ret
 exact ⟨rfl,rfl⟩
theorem text_10 (g : Nat) (w : World) : Calls Tryd.prog 51 #[.pointer (some ⟨g,0,none⟩)] w fun e w'=>e = .returned (.pointer (some ⟨g,14,none⟩))∧w'=w:=by
 go_enter Tryd.func51,Tryd.ntmps51
 go_wp2
 go_ret
 exact ⟨rfl,rfl⟩
def msh_Read.f (k : Nat) (l0 : List Int) : Option (Int × Int × Int × Int × Int × ByteArray × ByteArray × ByteArray × ByteArray × ByteArray × ByteArray × ByteArray × ByteArray × ByteArray × ByteArray × Int) :=
 (delim_Read.f k l0).bind fun d=>if d.2.2.2.2.2=0 then
  (segment_Split.f l0).bind fun t=>if 0 < t.length then
   (segment_Field.f (rdOf ByteArray.empty t 0) 2 d.1 d.2.1 d.2.2.1 d.2.2.2.1 d.2.2.2.2.1).bind fun y=>(msh_others.f d.1 d.2.1 d.2.2.1 d.2.2.2.1 d.2.2.2.2.1).bind fun z =>
   if y.1.toList=z.toList then
    (segment_Field.f (rdOf ByteArray.empty t 0) 3 d.1 d.2.1 d.2.2.1 d.2.2.2.1 d.2.2.2.2.1).bind fun y3=>(segment_Field.f (rdOf ByteArray.empty t 0) 4 d.1 d.2.1 d.2.2.1 d.2.2.2.1 d.2.2.2.2.1).bind fun y4 =>
    (segment_Field.f (rdOf ByteArray.empty t 0) 5 d.1 d.2.1 d.2.2.1 d.2.2.2.1 d.2.2.2.2.1).bind fun y5=>(segment_Field.f (rdOf ByteArray.empty t 0) 6 d.1 d.2.1 d.2.2.1 d.2.2.2.1 d.2.2.2.2.1).bind fun y6 =>
    (segment_Field.f (rdOf ByteArray.empty t 0) 7 d.1 d.2.1 d.2.2.1 d.2.2.2.1 d.2.2.2.2.1).bind fun y7=>(segment_Field.f (rdOf ByteArray.empty t 0) 8 d.1 d.2.1 d.2.2.1 d.2.2.2.1 d.2.2.2.2.1).bind fun y8 =>
    (segment_Field.f (rdOf ByteArray.empty t 0) 9 d.1 d.2.1 d.2.2.1 d.2.2.2.1 d.2.2.2.2.1).bind fun y9=>(segment_Field.f (rdOf ByteArray.empty t 0) 10 d.1 d.2.1 d.2.2.1 d.2.2.2.1 d.2.2.2.2.1).bind fun y10 =>
    (segment_Field.f (rdOf ByteArray.empty t 0) 11 d.1 d.2.1 d.2.2.1 d.2.2.2.1 d.2.2.2.2.1).bind fun y11=>(segment_Field.f (rdOf ByteArray.empty t 0) 12 d.1 d.2.1 d.2.2.1 d.2.2.2.1 d.2.2.2.2.1).bind fun y12 =>
    some (d.1,d.2.1,d.2.2.1,d.2.2.2.1,d.2.2.2.2.1,y3.1,y4.1,y5.1,y6.1,y7.1,y8.1,y9.1,y10.1,y11.1,y12.1,0)
   else some (0,0,0,0,0,⟨#[]⟩,⟨#[]⟩,⟨#[]⟩,⟨#[]⟩,⟨#[]⟩,⟨#[]⟩,⟨#[]⟩,⟨#[]⟩,⟨#[]⟩,⟨#[]⟩,11)
  else none
 else some (0,0,0,0,0,⟨#[]⟩,⟨#[]⟩,⟨#[]⟩,⟨#[]⟩,⟨#[]⟩,⟨#[]⟩,⟨#[]⟩,⟨#[]⟩,⟨#[]⟩,⟨#[]⟩,d.2.2.2.2.2)
/-- A head's cells. -/
def headCells (r1 r2 r3 r4 r5 : Int) (r6 r7 r8 r9 r10 r11 r12 r13 r14 r15 : ByteArray) : Array Value:=#[.int .u8 r1, .int .u8 r2, .int .u8 r3, .int .u8 r4, .int .u8 r5, .string r6, .string r7, .string r8, .string r9, .string r10, .string r11, .string r12, .string r13, .string r14, .string r15]
theorem head_one {r1 r2 r3 r4 r5 : Int} {r6 r7 r8 r9 r10 r11 r12 r13 r14 r15 : ByteArray} : ∀ q ∈ (headCells r1 r2 r3 r4 r5 r6 r7 r8 r9 r10 r11 r12 r13 r14 r15).toList,q.oneCell'=true:=by
 intro q hq
 simp only [headCells,List.mem_cons,List.not_mem_nil,or_false] at hq
 rcases hq with rfl | rfl | rfl | rfl | rfl | rfl | rfl | rfl | rfl | rfl | rfl | rfl | rfl | rfl | rfl <;> rfl
theorem head_loads {W : World} {g : Nat} {cs : Array Value} (tmps : Array Value) (p u : Tmp) (hp : tmps.getD p undef = .pointer (some ⟨g,0,none⟩)) (hg : W.heap[g]?=some (.cells cs 27 (0,0))) (hsz : cs.size=15) {fn : Func} (h : fn.results=#[.cell p 27, .tmp u]) :
  (results fn tmps).run Tryd.prog W = .ok (.tuple #[.agg cs,tmps.getD u undef]) W:=by
 rw [results_cell_tmp h,hp]
 have h1:=run_loadVar_row (P:=Tryd.prog) W g 27 27 cs (0,0) _ hg Tryd.underlying27 rfl (by rw [hsz]; kernel_rfl)
 simp only [asAddr,Sem.run_pure,Result.andThen_ok,h1]
theorem msh_Read.calls (k : Nat) (A0 : Option Addr) (c0 : Nat) (l0 : List Int) (r1 r2 r3 r4 r5 : Int) (r6 r7 r8 r9 r10 r11 r12 r13 r14 r15 : ByteArray) (r16 : Int) (w : World) (hr0 : Kd.C (Kd.int .u8) w A0 l0.length l0) (hc0 : l0.length≤c0)
  (h : msh_Read.f k l0=some (r1,r2,r3,r4,r5,r6,r7,r8,r9,r10,r11,r12,r13,r14,r15,r16)) :
  Calls Tryd.prog 11 #[.slice A0 l0.length c0] w fun e w'=>e = .returned (.tuple #[.agg #[.int .u8 r1, .int .u8 r2, .int .u8 r3, .int .u8 r4, .int .u8 r5, .string r6, .string r7, .string r8, .string r9, .string r10, .string r11, .string r12, .string r13, .string r14, .string r15], .int .i64 r16])∧Below w.heap.size w w':=by
 have key:=h
 unfold msh_Read.f at key
 obtain ⟨⟨d0,d1,d2,d3,d4,er⟩,hd,hk⟩:=Option.bind_eq_some_iff.1 key
 dsimp only at hk
 clear h key
 have HD:=Lib.hid hd
 have HC:=Lib.hid hc0
 have HR:=Lib.hid hr0
 clear hd hc0 hr0
 by_cases her : er=0
 ·subst her
  rw [if_pos rfl] at hk
  obtain ⟨t,ht,hk2⟩:=Option.bind_eq_some_iff.1 hk
  clear hk
  have hk:=hk2
  clear hk2
  by_cases htl : 0 < t.length
  case neg=>rw [if_neg htl] at hk; cases hk
  rw [if_pos htl] at hk
  obtain ⟨⟨y,yb⟩,hy,hk2⟩:=Option.bind_eq_some_iff.1 hk
  clear hk
  obtain ⟨z,hz,hk⟩:=Option.bind_eq_some_iff.1 hk2
  clear hk2
  dsimp only at hk
  obtain ⟨x,ts,rfl⟩ : ∃ x ts,t=x :: ts:=by
   cases t with
   | nil=>simp at htl
   | cons x ts=>exact ⟨x,ts,rfl⟩
  have hx0:rdOf ByteArray.empty (x :: ts) 0=x:=rfl
  rw [hx0] at hy hk
  have HT:=Lib.hid ht
  have HY:=Lib.hid hy
  have HZ:=Lib.hid hz
  have HK:=Lib.hid hk
  clear ht hy hz hk hx0 htl
  go_enter Tryd.func11,Tryd.ntmps11
  go_wp2_with (first
   | (go_at_call 25; with_reducible refine (delim_Read.calls k A0 c0 l0 d0 d1 d2 d3 d4 0 _ (Kd.C_below HR.out ((Below.refl _ w).alloc (Nat.le_refl _) _)) HC.out HD.out).mono ?_; rintro e w1 ⟨rfl,hb1⟩; have z0:=Lib.hid (blk_below (heap_new w _) hb1); have hB1:=Lib.hid (below_step ((Below.refl _ w).alloc (Nat.le_refl _) _) hb1); clear hb1))
  have B1:=Lib.hid (hB1.out.alloc hB1.out.size (.cells #[.int .u8 d0, .int .u8 d1, .int .u8 d2, .int .u8 d3, .int .u8 d4] 25))
  refine (segment_Split.calls A0 c0 l0 (x :: ts) _ (Kd.C_below HR.out B1.out) HC.out HT.out).mono ?_
  rintro e w2 ⟨v,rfl,hR,hb2⟩
  have hown:=Kd.own_of_R hR
  rw [List.length_cons] at hown
  obtain ⟨g,cap,rfl⟩:=ownsRow_succ hown
  have c2:w2.cell? ⟨g,0,none⟩=some (.string x):=hown.cellAt 0 (by omega)
  have Z2:=Lib.hid (blk_below (heap_old _ z0.out) hb2)
  have D2:=Lib.hid (blk_below (heap_new w1 (.cells #[.int .u8 d0, .int .u8 d1, .int .u8 d2, .int .u8 d3, .int .u8 d4] 25)) hb2)
  have B2:=Lib.hid (below_step B1.out hb2)
  have e0:=blk_cell D2.out 0
  have e1:=blk_cell D2.out 1
  have e2:=blk_cell D2.out 2
  have e3:=blk_cell D2.out 3
  have e4:=blk_cell D2.out 4
  simp only [List.getElem?_toArray,List.getElem?_cons_zero,List.getElem?_cons_succ] at e0 e1 e2 e3 e4
  clear z0 hB1 B1 hR hb2 hown
  go_wp2_with (first
   | (go_at_call 23; with_reducible refine (segment_Field.calls x 2 d0 d1 d2 d3 d4 y yb _ HY.out).mono ?_; rintro e w3 ⟨rfl,hb3⟩; obtain ⟨hc3,hf3⟩:=below_reads hb3; have Z3:=Lib.hid (blk_below Z2.out hb3); have D3:=Lib.hid (blk_below D2.out hb3); have B3:=Lib.hid (below_step B2.out hb3); have s3:=blk_lt D2.out; clear hb3))
  with_reducible refine (msh_others.calls d0 d1 d2 d3 d4 z _ HZ.out).mono ?_
  rintro e w4 ⟨rfl,hb4⟩
  have Z4:=Lib.hid (blk_below Z3.out hb4)
  have D4:=Lib.hid (blk_below D3.out hb4)
  have B4:=Lib.hid (below_step B3.out hb4)
  clear hb4 hc3 hf3 Z2 D2 B2 Z3 D3 B3 s3 e0 e1 e2 e3 e4 c2 HZ HY HT HD HR HC
  have e0:=blk_cell D4.out 0
  have e1:=blk_cell D4.out 1
  have e2:=blk_cell D4.out 2
  have e3:=blk_cell D4.out 3
  have e4:=blk_cell D4.out 4
  simp only [List.getElem?_toArray,List.getElem?_cons_zero,List.getElem?_cons_succ] at e0 e1 e2 e3 e4
  by_cases hyz : y.toList=z.toList
  ·have hk:=HK.out
   rw [if_pos hyz] at hk
   obtain ⟨⟨y3,b3⟩,h3,hk3⟩:=Option.bind_eq_some_iff.1 hk
   obtain ⟨⟨y4,b4⟩,h4,hk4⟩:=Option.bind_eq_some_iff.1 hk3
   obtain ⟨⟨y5,b5⟩,h5,hk5⟩:=Option.bind_eq_some_iff.1 hk4
   obtain ⟨⟨y6,b6⟩,h6,hk6⟩:=Option.bind_eq_some_iff.1 hk5
   obtain ⟨⟨y7,b7⟩,h7,hk7⟩:=Option.bind_eq_some_iff.1 hk6
   obtain ⟨⟨y8,b8⟩,h8,hk8⟩:=Option.bind_eq_some_iff.1 hk7
   obtain ⟨⟨y9,b9⟩,h9,hk9⟩:=Option.bind_eq_some_iff.1 hk8
   obtain ⟨⟨y10,b10⟩,h10,hk10⟩:=Option.bind_eq_some_iff.1 hk9
   obtain ⟨⟨y11,b11⟩,h11,hk11⟩:=Option.bind_eq_some_iff.1 hk10
   obtain ⟨⟨y12,b12⟩,h12,hk12⟩:=Option.bind_eq_some_iff.1 hk11
   simp only [Option.some.injEq,Prod.mk.injEq] at hk12
   obtain ⟨rfl,rfl,rfl,rfl,rfl,rfl,rfl,rfl,rfl,rfl,rfl,rfl,rfl,rfl,rfl,rfl⟩:=hk12
   clear hk hk3 hk4 hk5 hk6 hk7 hk8 hk9 hk10 hk11 HK
   have F3:=Lib.hid h3
   have F4:=Lib.hid h4
   have F5:=Lib.hid h5
   have F6:=Lib.hid h6
   have F7:=Lib.hid h7
   have F8:=Lib.hid h8
   have F9:=Lib.hid h9
   have F10:=Lib.hid h10
   have F11:=Lib.hid h11
   have F12:=Lib.hid h12
   clear h3 h4 h5 h6 h7 h8 h9 h10 h11 h12
   have hyb : (y.toList == z.toList)=true:=by simpa using hyz
   go_wp2_with fail
   refine (texts_calls _).mono ?_
   rintro e w5 ⟨rfl,hb5⟩
   have Z5:=Lib.hid (blk_below (heap_old _ Z4.out) hb5)
   have D5:=Lib.hid (blk_below (heap_old _ D4.out) hb5)
   have H5:=Lib.hid (blk_below (heap_new w4 (.cells #[.int .u8 d0, .int .u8 d1, .int .u8 d2, .int .u8 d3, .int .u8 d4, .string (⟨#[]⟩ : ByteArray), .string (⟨#[]⟩ : ByteArray), .string (⟨#[]⟩ : ByteArray), .string (⟨#[]⟩ : ByteArray), .string (⟨#[]⟩ : ByteArray), .string (⟨#[]⟩ : ByteArray), .string (⟨#[]⟩ : ByteArray), .string (⟨#[]⟩ : ByteArray), .string (⟨#[]⟩ : ByteArray), .string (⟨#[]⟩ : ByteArray)] 27)) hb5)
   have B5:=Lib.hid (below_step (B4.out.alloc B4.out.size (.cells #[.int .u8 d0, .int .u8 d1, .int .u8 d2, .int .u8 d3, .int .u8 d4, .string (⟨#[]⟩ : ByteArray), .string (⟨#[]⟩ : ByteArray), .string (⟨#[]⟩ : ByteArray), .string (⟨#[]⟩ : ByteArray), .string (⟨#[]⟩ : ByteArray), .string (⟨#[]⟩ : ByteArray), .string (⟨#[]⟩ : ByteArray), .string (⟨#[]⟩ : ByteArray), .string (⟨#[]⟩ : ByteArray), .string (⟨#[]⟩ : ByteArray)] 27)) hb5)
   have n1:w.heap.size < w4.heap.size:=blk_lt Z4.out
   have n2:w1.heap.size < w4.heap.size:=blk_lt D4.out
   clear hb5 e0 e1 e2 e3 e4 Z4 D4 B4
   go_wp2
   go_loopw [39] (fun i wr => ∃ n : Nat,n≤10∧i = .int .i64 n∧wr.heap[w4.heap.size]?=some (.cells (headCells d0 d1 d2 d3 d4 (if 0 < n then y3 else ⟨#[]⟩) (if 1 < n then y4 else ⟨#[]⟩) (if 2 < n then y5 else ⟨#[]⟩) (if 3 < n then y6 else ⟨#[]⟩) (if 4 < n then y7 else ⟨#[]⟩) (if 5 < n then y8 else ⟨#[]⟩) (if 6 < n then y9 else ⟨#[]⟩) (if 7 < n then y10 else ⟨#[]⟩) (if 8 < n then y11 else ⟨#[]⟩) (if 9 < n then y12 else ⟨#[]⟩)) 27 (0,0))∧wr.heap[w1.heap.size]?=some (.cells #[.int .u8 d0, .int .u8 d1, .int .u8 d2, .int .u8 d3, .int .u8 d4] 25 (0,0)) ∧
    wr.heap[w.heap.size]?=some (.cells #[.int .u8 0, .int .u8 0, .int .u8 0, .int .u8 0, .int .u8 0, .string ⟨#[]⟩, .string ⟨#[]⟩, .string ⟨#[]⟩, .string ⟨#[]⟩, .string ⟨#[]⟩, .string ⟨#[]⟩, .string ⟨#[]⟩, .string ⟨#[]⟩, .string ⟨#[]⟩, .string ⟨#[]⟩] 27 (0,0))∧Below w.heap.size w wr) (fun i _=>10 - (Go.RowKit.intOf i).toNat)
   case atStart =>
    exact ⟨0,by omega,rfl,H5.out,D5.out,Z5.out,B5.out⟩
   case round =>
    obtain ⟨n,hn,rfl,hh,hd,hz,hB⟩:=hrel
    have hcs:n=0∨n=1∨n=2∨n=3∨n=4∨n=5∨n=6∨n=7∨n=8∨n=9∨n=10:=by omega
    clear hn
    have GD:=Lib.hid hd
    have GZ:=Lib.hid hz
    have GB:=Lib.hid hB
    clear hd hz hB Z5 D5 H5 B5
    have s1:=blk_lt GD.out
    have s4:=blk_lt hh
    have e0:=blk_cell GD.out 0
    have e1:=blk_cell GD.out 1
    have e2:=blk_cell GD.out 2
    have e3:=blk_cell GD.out 3
    have e4:=blk_cell GD.out 4
    simp only [List.getElem?_toArray,List.getElem?_cons_zero,List.getElem?_cons_succ] at e0 e1 e2 e3 e4
    rcases hcs with rfl | rfl | rfl | rfl | rfl | rfl | rfl | rfl | rfl | rfl | rfl
    ·have GH:Go.RowKit.Hid (wr.heap[w4.heap.size]?=some (.cells #[.int .u8 d0, .int .u8 d1, .int .u8 d2, .int .u8 d3, .int .u8 d4, .string (⟨#[]⟩ : ByteArray), .string (⟨#[]⟩ : ByteArray), .string (⟨#[]⟩ : ByteArray), .string (⟨#[]⟩ : ByteArray), .string (⟨#[]⟩ : ByteArray), .string (⟨#[]⟩ : ByteArray), .string (⟨#[]⟩ : ByteArray), .string (⟨#[]⟩ : ByteArray), .string (⟨#[]⟩ : ByteArray), .string (⟨#[]⟩ : ByteArray)] 27 (0,0))):=Lib.hid hh
     clear hh
     have ix:=texts_at0
     go_wp2_with fail
     have k0 : (wr.alloc (.cells #[.func (.func 42) #[] #[]] 64)).cell? ⟨wr.heap.size,0,none⟩=some (.func (.func 42) #[] #[]):=blk_cell (heap_new wr _) 0
     have g0:=cell_alloc_old (.cells #[.func (.func 42) #[] #[]] 64) e0
     have g1:=cell_alloc_old (.cells #[.func (.func 42) #[] #[]] 64) e1
     have g2:=cell_alloc_old (.cells #[.func (.func 42) #[] #[]] 64) e2
     have g3:=cell_alloc_old (.cells #[.func (.func 42) #[] #[]] 64) e3
     have g4:=cell_alloc_old (.cells #[.func (.func 42) #[] #[]] 64) e4
     clear e0 e1 e2 e3 e4 ix
     refine start_ (n:=13) (S:=fun w'=>w'.cell? ⟨wr.heap.size,0,none⟩=some (.func (.func 42) #[] #[])∧w'.cell? ⟨w1.heap.size,0,none⟩=some (.int .u8 d0)∧w'.cell? ⟨w1.heap.size,1,none⟩=some (.int .u8 d1)∧w'.cell? ⟨w1.heap.size,2,none⟩=some (.int .u8 d2)∧w'.cell? ⟨w1.heap.size,3,none⟩=some (.int .u8 d3)∧w'.cell? ⟨w1.heap.size,4,none⟩=some (.int .u8 d4)) (ds:=[]) #[false,false,false,false,false,false,false,false,false,false,false,false,false] (by kernel_rfl) rfl rfl ⟨k0,g0,g1,g2,g3,g4⟩ (fun hHeld=>?_)
     refine pure_ (i:=0) (N:=some 44) (v:=?_) (a':=?_) #[true,false,false,false,false,false,false,false,false,false,false,false,false] rfl rfl (by kernel_rfl) (fun _ _ _ h=>h) (Or.inl ⟨by rfl,?_⟩) ?_ ?_
     rotate_left
     ·intro w'
      go_simp
      with_reducible rfl
     rotate_left
     ·simp only [Act.put,sA_,s0_,s1_]
      rfl
     refine take_ (i:=1) (N:=some 45) (v:=?_) (a':=?_) #[true,true,false,false,false,false,false,false,false,false,false,false,false] rfl rfl (by kernel_rfl) (fun _ _ _ h=>h) (Or.inl ⟨by rfl,?_⟩) hHeld ?_ ?_
     rotate_left
     ·rintro w' ⟨s0,s1,s2,s3,s4,s5⟩
      go_simp
      with_reducible rfl
     rotate_left
     ·simp only [Act.put,sA_,s0_,s1_]
      rfl
     refine pure_ (i:=3) (N:=some 47) (v:=?_) (a':=?_) #[true,true,false,true,false,false,false,false,false,false,false,false,false] rfl rfl (by kernel_rfl) (fun _ _ _ h=>h) (Or.inl ⟨by rfl,?_⟩) ?_ ?_
     rotate_left
     ·intro w'
      go_simp
      with_reducible rfl
     rotate_left
     ·simp only [Act.put,sA_,s0_,s1_]
      rfl
     refine pure_ (i:=4) (N:=some 48) (v:=?_) (a':=?_) #[true,true,false,true,true,false,false,false,false,false,false,false,false] rfl rfl (by kernel_rfl) (fun _ _ _ h=>h) (Or.inl ⟨by rfl,?_⟩) ?_ ?_
     rotate_left
     ·intro w'
      go_simp
      with_reducible rfl
     rotate_left
     ·simp only [Act.put,sA_,s0_,s1_]
      rfl
     refine pure_ (i:=5) (N:=some 49) (v:=?_) (a':=?_) #[true,true,false,true,true,true,false,false,false,false,false,false,false] rfl rfl (by kernel_rfl) (fun _ _ _ h=>h) (Or.inl ⟨by rfl,?_⟩) ?_ ?_
     rotate_left
     ·intro w'
      go_simp
      with_reducible rfl
     rotate_left
     ·simp only [Act.put,sA_,s0_,s1_]
      rfl
     refine take_ (i:=6) (N:=some 50) (v:=?_) (a':=?_) #[true,true,false,true,true,true,true,false,false,false,false,false,false] rfl rfl (by kernel_rfl) (fun _ _ _ h=>h) (Or.inl ⟨by rfl,?_⟩) hHeld ?_ ?_
     rotate_left
     ·rintro w' ⟨s0,s1,s2,s3,s4,s5⟩
      go_simp
      with_reducible rfl
     rotate_left
     ·simp only [Act.put,sA_,s0_,s1_]
      rfl
     refine one_ (i:=2) (N:=some 46) #[true,true,true,true,true,true,true,false,false,false,false,false,false] rfl rfl (by kernel_rfl) (by decide) (fun K hK=>?_)
     have ee:=enters_of Tryd.func42 (by kernel_rfl) rfl
     refine call_ 42 #[.pointer (some ⟨w4.heap.size,0,none⟩)] (by rfl) rfl (by go_simp) ?_
     clear ee
     with_reducible refine (text_1 _ _).mono ?_
     rintro e w' ⟨rfl,rfl⟩
     refine ⟨_,rfl,?_⟩
     refine hK.out _ _ hHeld (fun hHeld=>?_)
     clear hK K
     refine norm_ (a':=?_) ?_ ?_
     rotate_left
     ·show Act.put _ (some 46) _=_
      simp only [Act.put,sA_,s0_,s1_]
      rfl
     refine one_ (i:=7) (N:=some 51) #[true,true,true,true,true,true,true,true,false,false,false,false,false] rfl rfl (by kernel_rfl) (by decide) (fun K hK=>?_)
     refine goes_ Tryd.func23 (by kernel_rfl) rfl #[.string x, .int .i64 3, .agg #[.int .u8 d0, .int .u8 d1, .int .u8 d2, .int .u8 d3, .int .u8 d4]] (by rfl) rfl rfl (by (try simp only [List.map_toArray,List.map_cons,List.map_nil]); first | done | rfl) ?_
     with_reducible refine (segment_Field.calls x 3 d0 d1 d2 d3 d4 y3 b3 _ F3.out).mono ?_
     rintro e w7 ⟨rfl,hb7⟩
     obtain ⟨hc,hf⟩:=below_reads hb7
     have gS:wr.heap.size < ((wr.alloc (.cells #[.func (.func 42) #[] #[]] 64)).drew).heap.size:=by simp
     have gD:w1.heap.size < ((wr.alloc (.cells #[.func (.func 42) #[] #[]] 64)).drew).heap.size:=by simp; omega
     refine ⟨_,rfl,?_⟩
     refine hK.out _ _ ⟨(hc _ _ gS).trans k0,(hc _ _ gD).trans g0,(hc _ _ gD).trans g1,(hc _ _ gD).trans g2,(hc _ _ gD).trans g3,(hc _ _ gD).trans g4⟩ (fun hHeld=>?_)
     clear hK K
     refine norm_ (a':=?_) ?_ ?_
     rotate_left
     ·show Act.put _ (some 51) _=_
      simp only [Act.put,sA_,s0_,s1_]
      rfl
     have GH7:=blk_below (blk_drew (heap_old (.cells #[.func (.func 42) #[] #[]] 64) GH.out)) hb7
     have GD7:=blk_below (blk_drew (heap_old (.cells #[.func (.func 42) #[] #[]] 64) GD.out)) hb7
     have GZ7:=blk_below (blk_drew (heap_old (.cells #[.func (.func 42) #[] #[]] 64) GZ.out)) hb7
     have GB7:=below_step (below_drew1 (GB.out.alloc GB.out.size (.cells #[.func (.func 42) #[] #[]] 64))) hb7
     refine pure_ (i:=8) (N:=some 43) (v:=?_) (a':=?_) #[true,true,true,true,true,true,true,true,true,false,false,false,false] rfl rfl (by kernel_rfl) (fun _ _ _ h=>h) (Or.inl ⟨by rfl,?_⟩) ?_ ?_
     rotate_left
     ·intro w'
      go_simp
      with_reducible rfl
     rotate_left
     ·simp only [Act.put,sA_,s0_,s1_]
      rfl
     refine pure_ (i:=9) (N:=some 52) (v:=?_) (a':=?_) #[true,true,true,true,true,true,true,true,true,true,false,false,false] rfl rfl (by kernel_rfl) (fun _ _ _ h=>h) (Or.inl ⟨by rfl,?_⟩) ?_ ?_
     rotate_left
     ·intro w'
      go_simp
      with_reducible rfl
     rotate_left
     ·simp only [Act.put,sA_,s0_,s1_]
      rfl
     refine pure_ (i:=10) (N:=some 53) (v:=?_) (a':=?_) #[true,true,true,true,true,true,true,true,true,true,true,false,false] rfl rfl (by kernel_rfl) (fun _ _ _ h=>h) (Or.inl ⟨by rfl,?_⟩) ?_ ?_
     rotate_left
     ·intro w'
      go_simp
      with_reducible rfl
     rotate_left
     ·simp only [Act.put,sA_,s0_,s1_]
      rfl
     refine pure_ (i:=11) (N:=some 54) (v:=?_) (a':=?_) #[true,true,true,true,true,true,true,true,true,true,true,true,false] rfl rfl (by kernel_rfl) (fun _ _ _ h=>h) (Or.inl ⟨by rfl,?_⟩) ?_ ?_
     rotate_left
     ·intro w'
      go_simp
      with_reducible rfl
     rotate_left
     ·simp only [Act.put,sA_,s0_,s1_]
      rfl
     refine one_ (i:=12) (N:=none) #[true,true,true,true,true,true,true,true,true,true,true,true,true] rfl rfl (by kernel_rfl) (by decide) (fun K hK=>?_)
     have c7:=blk_cell GH.out 5
     have f7:=blk_frozen GH.out 5
     simp only [List.getElem?_toArray,List.getElem?_cons_zero,List.getElem?_cons_succ] at c7
     go_simp
     clear c7 f7
     have nS:w4.heap.size ≠ wr.heap.size:=by omega
     have nD:w4.heap.size ≠ w1.heap.size:=by omega
     refine hK.out _ _ ⟨cell_far (p:=⟨w4.heap.size,5,none⟩) (a:=⟨wr.heap.size,0,none⟩) nS _ ((hc _ _ gS).trans k0),cell_far (p:=⟨w4.heap.size,5,none⟩) (a:=⟨w1.heap.size,0,none⟩) nD _ ((hc _ _ gD).trans g0),cell_far (p:=⟨w4.heap.size,5,none⟩) (a:=⟨w1.heap.size,1,none⟩) nD _ ((hc _ _ gD).trans g1),cell_far (p:=⟨w4.heap.size,5,none⟩) (a:=⟨w1.heap.size,2,none⟩) nD _ ((hc _ _ gD).trans g2),cell_far (p:=⟨w4.heap.size,5,none⟩) (a:=⟨w1.heap.size,3,none⟩) nD _ ((hc _ _ gD).trans g3),cell_far (p:=⟨w4.heap.size,5,none⟩) (a:=⟨w1.heap.size,4,none⟩) nD _ ((hc _ _ gD).trans g4)⟩ (fun hHeld=>?_)
     clear hK K
     refine done_ (by kernel_rfl) ?_
     have r1:=blk_put (cs':=#[.int .u8 d0, .int .u8 d1, .int .u8 d2, .int .u8 d3, .int .u8 d4, .string y3, .string (⟨#[]⟩ : ByteArray), .string (⟨#[]⟩ : ByteArray), .string (⟨#[]⟩ : ByteArray), .string (⟨#[]⟩ : ByteArray), .string (⟨#[]⟩ : ByteArray), .string (⟨#[]⟩ : ByteArray), .string (⟨#[]⟩ : ByteArray), .string (⟨#[]⟩ : ByteArray), .string (⟨#[]⟩ : ByteArray)]) GH7 5 (.string y3) rfl
     have r2:=blk_far GD7 (p:=⟨w4.heap.size,5,none⟩) (Ne.symm nD) (.string y3)
     have r3:=blk_far GZ7 (p:=⟨w4.heap.size,5,none⟩) (by show w.heap.size ≠ w4.heap.size; omega) (.string y3)
     have r4:=below_set (g:=w4.heap.size) (j:=5) (v := .string y3) GB7 (by omega)
     have R1:=Lib.hid r1
     have R2:=Lib.hid r2
     have R3:=Lib.hid r3
     have R4:=Lib.hid r4
     clear r1 r2 r3 r4 GH7 GD7 GZ7 GB7 k0 g0 g1 g2 g3 g4 hc hf hb7 hHeld gS gD nS nD
     go_wp2
     go_roundw
     case rel=>exact ⟨1,by omega,by first | rfl | go_num,R1.out,R2.out,R3.out,R4.out⟩
     case measure=>simp [Go.RowKit.intOf]
    ·have GH:Go.RowKit.Hid (wr.heap[w4.heap.size]?=some (.cells #[.int .u8 d0, .int .u8 d1, .int .u8 d2, .int .u8 d3, .int .u8 d4, .string y3, .string (⟨#[]⟩ : ByteArray), .string (⟨#[]⟩ : ByteArray), .string (⟨#[]⟩ : ByteArray), .string (⟨#[]⟩ : ByteArray), .string (⟨#[]⟩ : ByteArray), .string (⟨#[]⟩ : ByteArray), .string (⟨#[]⟩ : ByteArray), .string (⟨#[]⟩ : ByteArray), .string (⟨#[]⟩ : ByteArray)] 27 (0,0))):=Lib.hid hh
     clear hh
     have ix:=texts_at1
     go_wp2_with fail
     have k0 : (wr.alloc (.cells #[.func (.func 43) #[] #[]] 64)).cell? ⟨wr.heap.size,0,none⟩=some (.func (.func 43) #[] #[]):=blk_cell (heap_new wr _) 0
     have g0:=cell_alloc_old (.cells #[.func (.func 43) #[] #[]] 64) e0
     have g1:=cell_alloc_old (.cells #[.func (.func 43) #[] #[]] 64) e1
     have g2:=cell_alloc_old (.cells #[.func (.func 43) #[] #[]] 64) e2
     have g3:=cell_alloc_old (.cells #[.func (.func 43) #[] #[]] 64) e3
     have g4:=cell_alloc_old (.cells #[.func (.func 43) #[] #[]] 64) e4
     clear e0 e1 e2 e3 e4 ix
     refine start_ (n:=13) (S:=fun w'=>w'.cell? ⟨wr.heap.size,0,none⟩=some (.func (.func 43) #[] #[])∧w'.cell? ⟨w1.heap.size,0,none⟩=some (.int .u8 d0)∧w'.cell? ⟨w1.heap.size,1,none⟩=some (.int .u8 d1)∧w'.cell? ⟨w1.heap.size,2,none⟩=some (.int .u8 d2)∧w'.cell? ⟨w1.heap.size,3,none⟩=some (.int .u8 d3)∧w'.cell? ⟨w1.heap.size,4,none⟩=some (.int .u8 d4)) (ds:=[]) #[false,false,false,false,false,false,false,false,false,false,false,false,false] (by kernel_rfl) rfl rfl ⟨k0,g0,g1,g2,g3,g4⟩ (fun hHeld=>?_)
     refine pure_ (i:=0) (N:=some 44) (v:=?_) (a':=?_) #[true,false,false,false,false,false,false,false,false,false,false,false,false] rfl rfl (by kernel_rfl) (fun _ _ _ h=>h) (Or.inl ⟨by rfl,?_⟩) ?_ ?_
     rotate_left
     ·intro w'
      go_simp
      with_reducible rfl
     rotate_left
     ·simp only [Act.put,sA_,s0_,s1_]
      rfl
     refine take_ (i:=1) (N:=some 45) (v:=?_) (a':=?_) #[true,true,false,false,false,false,false,false,false,false,false,false,false] rfl rfl (by kernel_rfl) (fun _ _ _ h=>h) (Or.inl ⟨by rfl,?_⟩) hHeld ?_ ?_
     rotate_left
     ·rintro w' ⟨s0,s1,s2,s3,s4,s5⟩
      go_simp
      with_reducible rfl
     rotate_left
     ·simp only [Act.put,sA_,s0_,s1_]
      rfl
     refine pure_ (i:=3) (N:=some 47) (v:=?_) (a':=?_) #[true,true,false,true,false,false,false,false,false,false,false,false,false] rfl rfl (by kernel_rfl) (fun _ _ _ h=>h) (Or.inl ⟨by rfl,?_⟩) ?_ ?_
     rotate_left
     ·intro w'
      go_simp
      with_reducible rfl
     rotate_left
     ·simp only [Act.put,sA_,s0_,s1_]
      rfl
     refine pure_ (i:=4) (N:=some 48) (v:=?_) (a':=?_) #[true,true,false,true,true,false,false,false,false,false,false,false,false] rfl rfl (by kernel_rfl) (fun _ _ _ h=>h) (Or.inl ⟨by rfl,?_⟩) ?_ ?_
     rotate_left
     ·intro w'
      go_simp
      with_reducible rfl
     rotate_left
     ·simp only [Act.put,sA_,s0_,s1_]
      rfl
     refine pure_ (i:=5) (N:=some 49) (v:=?_) (a':=?_) #[true,true,false,true,true,true,false,false,false,false,false,false,false] rfl rfl (by kernel_rfl) (fun _ _ _ h=>h) (Or.inl ⟨by rfl,?_⟩) ?_ ?_
     rotate_left
     ·intro w'
      go_simp
      with_reducible rfl
     rotate_left
     ·simp only [Act.put,sA_,s0_,s1_]
      rfl
     refine take_ (i:=6) (N:=some 50) (v:=?_) (a':=?_) #[true,true,false,true,true,true,true,false,false,false,false,false,false] rfl rfl (by kernel_rfl) (fun _ _ _ h=>h) (Or.inl ⟨by rfl,?_⟩) hHeld ?_ ?_
     rotate_left
     ·rintro w' ⟨s0,s1,s2,s3,s4,s5⟩
      go_simp
      with_reducible rfl
     rotate_left
     ·simp only [Act.put,sA_,s0_,s1_]
      rfl
     refine one_ (i:=2) (N:=some 46) #[true,true,true,true,true,true,true,false,false,false,false,false,false] rfl rfl (by kernel_rfl) (by decide) (fun K hK=>?_)
     have ee:=enters_of Tryd.func43 (by kernel_rfl) rfl
     refine call_ 43 #[.pointer (some ⟨w4.heap.size,0,none⟩)] (by rfl) rfl (by go_simp) ?_
     clear ee
     with_reducible refine (text_2 _ _).mono ?_
     rintro e w' ⟨rfl,rfl⟩
     refine ⟨_,rfl,?_⟩
     refine hK.out _ _ hHeld (fun hHeld=>?_)
     clear hK K
     refine norm_ (a':=?_) ?_ ?_
     rotate_left
     ·show Act.put _ (some 46) _=_
      simp only [Act.put,sA_,s0_,s1_]
      rfl
     refine one_ (i:=7) (N:=some 51) #[true,true,true,true,true,true,true,true,false,false,false,false,false] rfl rfl (by kernel_rfl) (by decide) (fun K hK=>?_)
     refine goes_ Tryd.func23 (by kernel_rfl) rfl #[.string x, .int .i64 4, .agg #[.int .u8 d0, .int .u8 d1, .int .u8 d2, .int .u8 d3, .int .u8 d4]] (by rfl) rfl rfl (by (try simp only [List.map_toArray,List.map_cons,List.map_nil]); first | done | rfl) ?_
     with_reducible refine (segment_Field.calls x 4 d0 d1 d2 d3 d4 y4 b4 _ F4.out).mono ?_
     rintro e w7 ⟨rfl,hb7⟩
     obtain ⟨hc,hf⟩:=below_reads hb7
     have gS:wr.heap.size < ((wr.alloc (.cells #[.func (.func 43) #[] #[]] 64)).drew).heap.size:=by simp
     have gD:w1.heap.size < ((wr.alloc (.cells #[.func (.func 43) #[] #[]] 64)).drew).heap.size:=by simp; omega
     refine ⟨_,rfl,?_⟩
     refine hK.out _ _ ⟨(hc _ _ gS).trans k0,(hc _ _ gD).trans g0,(hc _ _ gD).trans g1,(hc _ _ gD).trans g2,(hc _ _ gD).trans g3,(hc _ _ gD).trans g4⟩ (fun hHeld=>?_)
     clear hK K
     refine norm_ (a':=?_) ?_ ?_
     rotate_left
     ·show Act.put _ (some 51) _=_
      simp only [Act.put,sA_,s0_,s1_]
      rfl
     have GH7:=blk_below (blk_drew (heap_old (.cells #[.func (.func 43) #[] #[]] 64) GH.out)) hb7
     have GD7:=blk_below (blk_drew (heap_old (.cells #[.func (.func 43) #[] #[]] 64) GD.out)) hb7
     have GZ7:=blk_below (blk_drew (heap_old (.cells #[.func (.func 43) #[] #[]] 64) GZ.out)) hb7
     have GB7:=below_step (below_drew1 (GB.out.alloc GB.out.size (.cells #[.func (.func 43) #[] #[]] 64))) hb7
     refine pure_ (i:=8) (N:=some 43) (v:=?_) (a':=?_) #[true,true,true,true,true,true,true,true,true,false,false,false,false] rfl rfl (by kernel_rfl) (fun _ _ _ h=>h) (Or.inl ⟨by rfl,?_⟩) ?_ ?_
     rotate_left
     ·intro w'
      go_simp
      with_reducible rfl
     rotate_left
     ·simp only [Act.put,sA_,s0_,s1_]
      rfl
     refine pure_ (i:=9) (N:=some 52) (v:=?_) (a':=?_) #[true,true,true,true,true,true,true,true,true,true,false,false,false] rfl rfl (by kernel_rfl) (fun _ _ _ h=>h) (Or.inl ⟨by rfl,?_⟩) ?_ ?_
     rotate_left
     ·intro w'
      go_simp
      with_reducible rfl
     rotate_left
     ·simp only [Act.put,sA_,s0_,s1_]
      rfl
     refine pure_ (i:=10) (N:=some 53) (v:=?_) (a':=?_) #[true,true,true,true,true,true,true,true,true,true,true,false,false] rfl rfl (by kernel_rfl) (fun _ _ _ h=>h) (Or.inl ⟨by rfl,?_⟩) ?_ ?_
     rotate_left
     ·intro w'
      go_simp
      with_reducible rfl
     rotate_left
     ·simp only [Act.put,sA_,s0_,s1_]
      rfl
     refine pure_ (i:=11) (N:=some 54) (v:=?_) (a':=?_) #[true,true,true,true,true,true,true,true,true,true,true,true,false] rfl rfl (by kernel_rfl) (fun _ _ _ h=>h) (Or.inl ⟨by rfl,?_⟩) ?_ ?_
     rotate_left
     ·intro w'
      go_simp
      with_reducible rfl
     rotate_left
     ·simp only [Act.put,sA_,s0_,s1_]
      rfl
     refine one_ (i:=12) (N:=none) #[true,true,true,true,true,true,true,true,true,true,true,true,true] rfl rfl (by kernel_rfl) (by decide) (fun K hK=>?_)
     have c7:=blk_cell GH.out 6
     have f7:=blk_frozen GH.out 6
     simp only [List.getElem?_toArray,List.getElem?_cons_zero,List.getElem?_cons_succ] at c7
     go_simp
     clear c7 f7
     have nS:w4.heap.size ≠ wr.heap.size:=by omega
     have nD:w4.heap.size ≠ w1.heap.size:=by omega
     refine hK.out _ _ ⟨cell_far (p:=⟨w4.heap.size,6,none⟩) (a:=⟨wr.heap.size,0,none⟩) nS _ ((hc _ _ gS).trans k0),cell_far (p:=⟨w4.heap.size,6,none⟩) (a:=⟨w1.heap.size,0,none⟩) nD _ ((hc _ _ gD).trans g0),cell_far (p:=⟨w4.heap.size,6,none⟩) (a:=⟨w1.heap.size,1,none⟩) nD _ ((hc _ _ gD).trans g1),cell_far (p:=⟨w4.heap.size,6,none⟩) (a:=⟨w1.heap.size,2,none⟩) nD _ ((hc _ _ gD).trans g2),cell_far (p:=⟨w4.heap.size,6,none⟩) (a:=⟨w1.heap.size,3,none⟩) nD _ ((hc _ _ gD).trans g3),cell_far (p:=⟨w4.heap.size,6,none⟩) (a:=⟨w1.heap.size,4,none⟩) nD _ ((hc _ _ gD).trans g4)⟩ (fun hHeld=>?_)
     clear hK K
     refine done_ (by kernel_rfl) ?_
     have r1:=blk_put (cs':=#[.int .u8 d0, .int .u8 d1, .int .u8 d2, .int .u8 d3, .int .u8 d4, .string y3, .string y4, .string (⟨#[]⟩ : ByteArray), .string (⟨#[]⟩ : ByteArray), .string (⟨#[]⟩ : ByteArray), .string (⟨#[]⟩ : ByteArray), .string (⟨#[]⟩ : ByteArray), .string (⟨#[]⟩ : ByteArray), .string (⟨#[]⟩ : ByteArray), .string (⟨#[]⟩ : ByteArray)]) GH7 6 (.string y4) rfl
     have r2:=blk_far GD7 (p:=⟨w4.heap.size,6,none⟩) (Ne.symm nD) (.string y4)
     have r3:=blk_far GZ7 (p:=⟨w4.heap.size,6,none⟩) (by show w.heap.size ≠ w4.heap.size; omega) (.string y4)
     have r4:=below_set (g:=w4.heap.size) (j:=6) (v := .string y4) GB7 (by omega)
     have R1:=Lib.hid r1
     have R2:=Lib.hid r2
     have R3:=Lib.hid r3
     have R4:=Lib.hid r4
     clear r1 r2 r3 r4 GH7 GD7 GZ7 GB7 k0 g0 g1 g2 g3 g4 hc hf hb7 hHeld gS gD nS nD
     go_wp2
     go_roundw
     case rel=>exact ⟨2,by omega,by first | rfl | go_num,R1.out,R2.out,R3.out,R4.out⟩
     case measure=>simp [Go.RowKit.intOf]
    ·have GH:Go.RowKit.Hid (wr.heap[w4.heap.size]?=some (.cells #[.int .u8 d0, .int .u8 d1, .int .u8 d2, .int .u8 d3, .int .u8 d4, .string y3, .string y4, .string (⟨#[]⟩ : ByteArray), .string (⟨#[]⟩ : ByteArray), .string (⟨#[]⟩ : ByteArray), .string (⟨#[]⟩ : ByteArray), .string (⟨#[]⟩ : ByteArray), .string (⟨#[]⟩ : ByteArray), .string (⟨#[]⟩ : ByteArray), .string (⟨#[]⟩ : ByteArray)] 27 (0,0))):=Lib.hid hh
     clear hh
     have ix:=texts_at2
     go_wp2_with fail
     have k0 : (wr.alloc (.cells #[.func (.func 44) #[] #[]] 64)).cell? ⟨wr.heap.size,0,none⟩=some (.func (.func 44) #[] #[]):=blk_cell (heap_new wr _) 0
     have g0:=cell_alloc_old (.cells #[.func (.func 44) #[] #[]] 64) e0
     have g1:=cell_alloc_old (.cells #[.func (.func 44) #[] #[]] 64) e1
     have g2:=cell_alloc_old (.cells #[.func (.func 44) #[] #[]] 64) e2
     have g3:=cell_alloc_old (.cells #[.func (.func 44) #[] #[]] 64) e3
     have g4:=cell_alloc_old (.cells #[.func (.func 44) #[] #[]] 64) e4
     clear e0 e1 e2 e3 e4 ix
     refine start_ (n:=13) (S:=fun w'=>w'.cell? ⟨wr.heap.size,0,none⟩=some (.func (.func 44) #[] #[])∧w'.cell? ⟨w1.heap.size,0,none⟩=some (.int .u8 d0)∧w'.cell? ⟨w1.heap.size,1,none⟩=some (.int .u8 d1)∧w'.cell? ⟨w1.heap.size,2,none⟩=some (.int .u8 d2)∧w'.cell? ⟨w1.heap.size,3,none⟩=some (.int .u8 d3)∧w'.cell? ⟨w1.heap.size,4,none⟩=some (.int .u8 d4)) (ds:=[]) #[false,false,false,false,false,false,false,false,false,false,false,false,false] (by kernel_rfl) rfl rfl ⟨k0,g0,g1,g2,g3,g4⟩ (fun hHeld=>?_)
     refine pure_ (i:=0) (N:=some 44) (v:=?_) (a':=?_) #[true,false,false,false,false,false,false,false,false,false,false,false,false] rfl rfl (by kernel_rfl) (fun _ _ _ h=>h) (Or.inl ⟨by rfl,?_⟩) ?_ ?_
     rotate_left
     ·intro w'
      go_simp
      with_reducible rfl
     rotate_left
     ·simp only [Act.put,sA_,s0_,s1_]
      rfl
     refine take_ (i:=1) (N:=some 45) (v:=?_) (a':=?_) #[true,true,false,false,false,false,false,false,false,false,false,false,false] rfl rfl (by kernel_rfl) (fun _ _ _ h=>h) (Or.inl ⟨by rfl,?_⟩) hHeld ?_ ?_
     rotate_left
     ·rintro w' ⟨s0,s1,s2,s3,s4,s5⟩
      go_simp
      with_reducible rfl
     rotate_left
     ·simp only [Act.put,sA_,s0_,s1_]
      rfl
     refine pure_ (i:=3) (N:=some 47) (v:=?_) (a':=?_) #[true,true,false,true,false,false,false,false,false,false,false,false,false] rfl rfl (by kernel_rfl) (fun _ _ _ h=>h) (Or.inl ⟨by rfl,?_⟩) ?_ ?_
     rotate_left
     ·intro w'
      go_simp
      with_reducible rfl
     rotate_left
     ·simp only [Act.put,sA_,s0_,s1_]
      rfl
     refine pure_ (i:=4) (N:=some 48) (v:=?_) (a':=?_) #[true,true,false,true,true,false,false,false,false,false,false,false,false] rfl rfl (by kernel_rfl) (fun _ _ _ h=>h) (Or.inl ⟨by rfl,?_⟩) ?_ ?_
     rotate_left
     ·intro w'
      go_simp
      with_reducible rfl
     rotate_left
     ·simp only [Act.put,sA_,s0_,s1_]
      rfl
     refine pure_ (i:=5) (N:=some 49) (v:=?_) (a':=?_) #[true,true,false,true,true,true,false,false,false,false,false,false,false] rfl rfl (by kernel_rfl) (fun _ _ _ h=>h) (Or.inl ⟨by rfl,?_⟩) ?_ ?_
     rotate_left
     ·intro w'
      go_simp
      with_reducible rfl
     rotate_left
     ·simp only [Act.put,sA_,s0_,s1_]
      rfl
     refine take_ (i:=6) (N:=some 50) (v:=?_) (a':=?_) #[true,true,false,true,true,true,true,false,false,false,false,false,false] rfl rfl (by kernel_rfl) (fun _ _ _ h=>h) (Or.inl ⟨by rfl,?_⟩) hHeld ?_ ?_
     rotate_left
     ·rintro w' ⟨s0,s1,s2,s3,s4,s5⟩
      go_simp
      with_reducible rfl
     rotate_left
     ·simp only [Act.put,sA_,s0_,s1_]
      rfl
     refine one_ (i:=2) (N:=some 46) #[true,true,true,true,true,true,true,false,false,false,false,false,false] rfl rfl (by kernel_rfl) (by decide) (fun K hK=>?_)
     have ee:=enters_of Tryd.func44 (by kernel_rfl) rfl
     refine call_ 44 #[.pointer (some ⟨w4.heap.size,0,none⟩)] (by rfl) rfl (by go_simp) ?_
     clear ee
     with_reducible refine (text_3 _ _).mono ?_
     rintro e w' ⟨rfl,rfl⟩
     refine ⟨_,rfl,?_⟩
     refine hK.out _ _ hHeld (fun hHeld=>?_)
     clear hK K
     refine norm_ (a':=?_) ?_ ?_
     rotate_left
     ·show Act.put _ (some 46) _=_
      simp only [Act.put,sA_,s0_,s1_]
      rfl
     refine one_ (i:=7) (N:=some 51) #[true,true,true,true,true,true,true,true,false,false,false,false,false] rfl rfl (by kernel_rfl) (by decide) (fun K hK=>?_)
     refine goes_ Tryd.func23 (by kernel_rfl) rfl #[.string x, .int .i64 5, .agg #[.int .u8 d0, .int .u8 d1, .int .u8 d2, .int .u8 d3, .int .u8 d4]] (by rfl) rfl rfl (by (try simp only [List.map_toArray,List.map_cons,List.map_nil]); first | done | rfl) ?_
     with_reducible refine (segment_Field.calls x 5 d0 d1 d2 d3 d4 y5 b5 _ F5.out).mono ?_
     rintro e w7 ⟨rfl,hb7⟩
     obtain ⟨hc,hf⟩:=below_reads hb7
     have gS:wr.heap.size < ((wr.alloc (.cells #[.func (.func 44) #[] #[]] 64)).drew).heap.size:=by simp
     have gD:w1.heap.size < ((wr.alloc (.cells #[.func (.func 44) #[] #[]] 64)).drew).heap.size:=by simp; omega
     refine ⟨_,rfl,?_⟩
     refine hK.out _ _ ⟨(hc _ _ gS).trans k0,(hc _ _ gD).trans g0,(hc _ _ gD).trans g1,(hc _ _ gD).trans g2,(hc _ _ gD).trans g3,(hc _ _ gD).trans g4⟩ (fun hHeld=>?_)
     clear hK K
     refine norm_ (a':=?_) ?_ ?_
     rotate_left
     ·show Act.put _ (some 51) _=_
      simp only [Act.put,sA_,s0_,s1_]
      rfl
     have GH7:=blk_below (blk_drew (heap_old (.cells #[.func (.func 44) #[] #[]] 64) GH.out)) hb7
     have GD7:=blk_below (blk_drew (heap_old (.cells #[.func (.func 44) #[] #[]] 64) GD.out)) hb7
     have GZ7:=blk_below (blk_drew (heap_old (.cells #[.func (.func 44) #[] #[]] 64) GZ.out)) hb7
     have GB7:=below_step (below_drew1 (GB.out.alloc GB.out.size (.cells #[.func (.func 44) #[] #[]] 64))) hb7
     refine pure_ (i:=8) (N:=some 43) (v:=?_) (a':=?_) #[true,true,true,true,true,true,true,true,true,false,false,false,false] rfl rfl (by kernel_rfl) (fun _ _ _ h=>h) (Or.inl ⟨by rfl,?_⟩) ?_ ?_
     rotate_left
     ·intro w'
      go_simp
      with_reducible rfl
     rotate_left
     ·simp only [Act.put,sA_,s0_,s1_]
      rfl
     refine pure_ (i:=9) (N:=some 52) (v:=?_) (a':=?_) #[true,true,true,true,true,true,true,true,true,true,false,false,false] rfl rfl (by kernel_rfl) (fun _ _ _ h=>h) (Or.inl ⟨by rfl,?_⟩) ?_ ?_
     rotate_left
     ·intro w'
      go_simp
      with_reducible rfl
     rotate_left
     ·simp only [Act.put,sA_,s0_,s1_]
      rfl
     refine pure_ (i:=10) (N:=some 53) (v:=?_) (a':=?_) #[true,true,true,true,true,true,true,true,true,true,true,false,false] rfl rfl (by kernel_rfl) (fun _ _ _ h=>h) (Or.inl ⟨by rfl,?_⟩) ?_ ?_
     rotate_left
     ·intro w'
      go_simp
      with_reducible rfl
     rotate_left
     ·simp only [Act.put,sA_,s0_,s1_]
      rfl
     refine pure_ (i:=11) (N:=some 54) (v:=?_) (a':=?_) #[true,true,true,true,true,true,true,true,true,true,true,true,false] rfl rfl (by kernel_rfl) (fun _ _ _ h=>h) (Or.inl ⟨by rfl,?_⟩) ?_ ?_
     rotate_left
     ·intro w'
      go_simp
      with_reducible rfl
     rotate_left
     ·simp only [Act.put,sA_,s0_,s1_]
      rfl
     refine one_ (i:=12) (N:=none) #[true,true,true,true,true,true,true,true,true,true,true,true,true] rfl rfl (by kernel_rfl) (by decide) (fun K hK=>?_)
     have c7:=blk_cell GH.out 7
     have f7:=blk_frozen GH.out 7
     simp only [List.getElem?_toArray,List.getElem?_cons_zero,List.getElem?_cons_succ] at c7
     go_simp
     clear c7 f7
     have nS:w4.heap.size ≠ wr.heap.size:=by omega
     have nD:w4.heap.size ≠ w1.heap.size:=by omega
     refine hK.out _ _ ⟨cell_far (p:=⟨w4.heap.size,7,none⟩) (a:=⟨wr.heap.size,0,none⟩) nS _ ((hc _ _ gS).trans k0),cell_far (p:=⟨w4.heap.size,7,none⟩) (a:=⟨w1.heap.size,0,none⟩) nD _ ((hc _ _ gD).trans g0),cell_far (p:=⟨w4.heap.size,7,none⟩) (a:=⟨w1.heap.size,1,none⟩) nD _ ((hc _ _ gD).trans g1),cell_far (p:=⟨w4.heap.size,7,none⟩) (a:=⟨w1.heap.size,2,none⟩) nD _ ((hc _ _ gD).trans g2),cell_far (p:=⟨w4.heap.size,7,none⟩) (a:=⟨w1.heap.size,3,none⟩) nD _ ((hc _ _ gD).trans g3),cell_far (p:=⟨w4.heap.size,7,none⟩) (a:=⟨w1.heap.size,4,none⟩) nD _ ((hc _ _ gD).trans g4)⟩ (fun hHeld=>?_)
     clear hK K
     refine done_ (by kernel_rfl) ?_
     have r1:=blk_put (cs':=#[.int .u8 d0, .int .u8 d1, .int .u8 d2, .int .u8 d3, .int .u8 d4, .string y3, .string y4, .string y5, .string (⟨#[]⟩ : ByteArray), .string (⟨#[]⟩ : ByteArray), .string (⟨#[]⟩ : ByteArray), .string (⟨#[]⟩ : ByteArray), .string (⟨#[]⟩ : ByteArray), .string (⟨#[]⟩ : ByteArray), .string (⟨#[]⟩ : ByteArray)]) GH7 7 (.string y5) rfl
     have r2:=blk_far GD7 (p:=⟨w4.heap.size,7,none⟩) (Ne.symm nD) (.string y5)
     have r3:=blk_far GZ7 (p:=⟨w4.heap.size,7,none⟩) (by show w.heap.size ≠ w4.heap.size; omega) (.string y5)
     have r4:=below_set (g:=w4.heap.size) (j:=7) (v := .string y5) GB7 (by omega)
     have R1:=Lib.hid r1
     have R2:=Lib.hid r2
     have R3:=Lib.hid r3
     have R4:=Lib.hid r4
     clear r1 r2 r3 r4 GH7 GD7 GZ7 GB7 k0 g0 g1 g2 g3 g4 hc hf hb7 hHeld gS gD nS nD
     go_wp2
     go_roundw
     case rel=>exact ⟨3,by omega,by first | rfl | go_num,R1.out,R2.out,R3.out,R4.out⟩
     case measure=>simp [Go.RowKit.intOf]
    ·have GH:Go.RowKit.Hid (wr.heap[w4.heap.size]?=some (.cells #[.int .u8 d0, .int .u8 d1, .int .u8 d2, .int .u8 d3, .int .u8 d4, .string y3, .string y4, .string y5, .string (⟨#[]⟩ : ByteArray), .string (⟨#[]⟩ : ByteArray), .string (⟨#[]⟩ : ByteArray), .string (⟨#[]⟩ : ByteArray), .string (⟨#[]⟩ : ByteArray), .string (⟨#[]⟩ : ByteArray), .string (⟨#[]⟩ : ByteArray)] 27 (0,0))):=Lib.hid hh
     clear hh
     have ix:=texts_at3
     go_wp2_with fail
     have k0 : (wr.alloc (.cells #[.func (.func 45) #[] #[]] 64)).cell? ⟨wr.heap.size,0,none⟩=some (.func (.func 45) #[] #[]):=blk_cell (heap_new wr _) 0
     have g0:=cell_alloc_old (.cells #[.func (.func 45) #[] #[]] 64) e0
     have g1:=cell_alloc_old (.cells #[.func (.func 45) #[] #[]] 64) e1
     have g2:=cell_alloc_old (.cells #[.func (.func 45) #[] #[]] 64) e2
     have g3:=cell_alloc_old (.cells #[.func (.func 45) #[] #[]] 64) e3
     have g4:=cell_alloc_old (.cells #[.func (.func 45) #[] #[]] 64) e4
     clear e0 e1 e2 e3 e4 ix
     refine start_ (n:=13) (S:=fun w'=>w'.cell? ⟨wr.heap.size,0,none⟩=some (.func (.func 45) #[] #[])∧w'.cell? ⟨w1.heap.size,0,none⟩=some (.int .u8 d0)∧w'.cell? ⟨w1.heap.size,1,none⟩=some (.int .u8 d1)∧w'.cell? ⟨w1.heap.size,2,none⟩=some (.int .u8 d2)∧w'.cell? ⟨w1.heap.size,3,none⟩=some (.int .u8 d3)∧w'.cell? ⟨w1.heap.size,4,none⟩=some (.int .u8 d4)) (ds:=[]) #[false,false,false,false,false,false,false,false,false,false,false,false,false] (by kernel_rfl) rfl rfl ⟨k0,g0,g1,g2,g3,g4⟩ (fun hHeld=>?_)
     refine pure_ (i:=0) (N:=some 44) (v:=?_) (a':=?_) #[true,false,false,false,false,false,false,false,false,false,false,false,false] rfl rfl (by kernel_rfl) (fun _ _ _ h=>h) (Or.inl ⟨by rfl,?_⟩) ?_ ?_
     rotate_left
     ·intro w'
      go_simp
      with_reducible rfl
     rotate_left
     ·simp only [Act.put,sA_,s0_,s1_]
      rfl
     refine take_ (i:=1) (N:=some 45) (v:=?_) (a':=?_) #[true,true,false,false,false,false,false,false,false,false,false,false,false] rfl rfl (by kernel_rfl) (fun _ _ _ h=>h) (Or.inl ⟨by rfl,?_⟩) hHeld ?_ ?_
     rotate_left
     ·rintro w' ⟨s0,s1,s2,s3,s4,s5⟩
      go_simp
      with_reducible rfl
     rotate_left
     ·simp only [Act.put,sA_,s0_,s1_]
      rfl
     refine pure_ (i:=3) (N:=some 47) (v:=?_) (a':=?_) #[true,true,false,true,false,false,false,false,false,false,false,false,false] rfl rfl (by kernel_rfl) (fun _ _ _ h=>h) (Or.inl ⟨by rfl,?_⟩) ?_ ?_
     rotate_left
     ·intro w'
      go_simp
      with_reducible rfl
     rotate_left
     ·simp only [Act.put,sA_,s0_,s1_]
      rfl
     refine pure_ (i:=4) (N:=some 48) (v:=?_) (a':=?_) #[true,true,false,true,true,false,false,false,false,false,false,false,false] rfl rfl (by kernel_rfl) (fun _ _ _ h=>h) (Or.inl ⟨by rfl,?_⟩) ?_ ?_
     rotate_left
     ·intro w'
      go_simp
      with_reducible rfl
     rotate_left
     ·simp only [Act.put,sA_,s0_,s1_]
      rfl
     refine pure_ (i:=5) (N:=some 49) (v:=?_) (a':=?_) #[true,true,false,true,true,true,false,false,false,false,false,false,false] rfl rfl (by kernel_rfl) (fun _ _ _ h=>h) (Or.inl ⟨by rfl,?_⟩) ?_ ?_
     rotate_left
     ·intro w'
      go_simp
      with_reducible rfl
     rotate_left
     ·simp only [Act.put,sA_,s0_,s1_]
      rfl
     refine take_ (i:=6) (N:=some 50) (v:=?_) (a':=?_) #[true,true,false,true,true,true,true,false,false,false,false,false,false] rfl rfl (by kernel_rfl) (fun _ _ _ h=>h) (Or.inl ⟨by rfl,?_⟩) hHeld ?_ ?_
     rotate_left
     ·rintro w' ⟨s0,s1,s2,s3,s4,s5⟩
      go_simp
      with_reducible rfl
     rotate_left
     ·simp only [Act.put,sA_,s0_,s1_]
      rfl
     refine one_ (i:=2) (N:=some 46) #[true,true,true,true,true,true,true,false,false,false,false,false,false] rfl rfl (by kernel_rfl) (by decide) (fun K hK=>?_)
     have ee:=enters_of Tryd.func45 (by kernel_rfl) rfl
     refine call_ 45 #[.pointer (some ⟨w4.heap.size,0,none⟩)] (by rfl) rfl (by go_simp) ?_
     clear ee
     with_reducible refine (text_4 _ _).mono ?_
     rintro e w' ⟨rfl,rfl⟩
     refine ⟨_,rfl,?_⟩
     refine hK.out _ _ hHeld (fun hHeld=>?_)
     clear hK K
     refine norm_ (a':=?_) ?_ ?_
     rotate_left
     ·show Act.put _ (some 46) _=_
      simp only [Act.put,sA_,s0_,s1_]
      rfl
     refine one_ (i:=7) (N:=some 51) #[true,true,true,true,true,true,true,true,false,false,false,false,false] rfl rfl (by kernel_rfl) (by decide) (fun K hK=>?_)
     refine goes_ Tryd.func23 (by kernel_rfl) rfl #[.string x, .int .i64 6, .agg #[.int .u8 d0, .int .u8 d1, .int .u8 d2, .int .u8 d3, .int .u8 d4]] (by rfl) rfl rfl (by (try simp only [List.map_toArray,List.map_cons,List.map_nil]); first | done | rfl) ?_
     with_reducible refine (segment_Field.calls x 6 d0 d1 d2 d3 d4 y6 b6 _ F6.out).mono ?_
     rintro e w7 ⟨rfl,hb7⟩
     obtain ⟨hc,hf⟩:=below_reads hb7
     have gS:wr.heap.size < ((wr.alloc (.cells #[.func (.func 45) #[] #[]] 64)).drew).heap.size:=by simp
     have gD:w1.heap.size < ((wr.alloc (.cells #[.func (.func 45) #[] #[]] 64)).drew).heap.size:=by simp; omega
     refine ⟨_,rfl,?_⟩
     refine hK.out _ _ ⟨(hc _ _ gS).trans k0,(hc _ _ gD).trans g0,(hc _ _ gD).trans g1,(hc _ _ gD).trans g2,(hc _ _ gD).trans g3,(hc _ _ gD).trans g4⟩ (fun hHeld=>?_)
     clear hK K
     refine norm_ (a':=?_) ?_ ?_
     rotate_left
     ·show Act.put _ (some 51) _=_
      simp only [Act.put,sA_,s0_,s1_]
      rfl
     have GH7:=blk_below (blk_drew (heap_old (.cells #[.func (.func 45) #[] #[]] 64) GH.out)) hb7
     have GD7:=blk_below (blk_drew (heap_old (.cells #[.func (.func 45) #[] #[]] 64) GD.out)) hb7
     have GZ7:=blk_below (blk_drew (heap_old (.cells #[.func (.func 45) #[] #[]] 64) GZ.out)) hb7
     have GB7:=below_step (below_drew1 (GB.out.alloc GB.out.size (.cells #[.func (.func 45) #[] #[]] 64))) hb7
     refine pure_ (i:=8) (N:=some 43) (v:=?_) (a':=?_) #[true,true,true,true,true,true,true,true,true,false,false,false,false] rfl rfl (by kernel_rfl) (fun _ _ _ h=>h) (Or.inl ⟨by rfl,?_⟩) ?_ ?_
     rotate_left
     ·intro w'
      go_simp
      with_reducible rfl
     rotate_left
     ·simp only [Act.put,sA_,s0_,s1_]
      rfl
     refine pure_ (i:=9) (N:=some 52) (v:=?_) (a':=?_) #[true,true,true,true,true,true,true,true,true,true,false,false,false] rfl rfl (by kernel_rfl) (fun _ _ _ h=>h) (Or.inl ⟨by rfl,?_⟩) ?_ ?_
     rotate_left
     ·intro w'
      go_simp
      with_reducible rfl
     rotate_left
     ·simp only [Act.put,sA_,s0_,s1_]
      rfl
     refine pure_ (i:=10) (N:=some 53) (v:=?_) (a':=?_) #[true,true,true,true,true,true,true,true,true,true,true,false,false] rfl rfl (by kernel_rfl) (fun _ _ _ h=>h) (Or.inl ⟨by rfl,?_⟩) ?_ ?_
     rotate_left
     ·intro w'
      go_simp
      with_reducible rfl
     rotate_left
     ·simp only [Act.put,sA_,s0_,s1_]
      rfl
     refine pure_ (i:=11) (N:=some 54) (v:=?_) (a':=?_) #[true,true,true,true,true,true,true,true,true,true,true,true,false] rfl rfl (by kernel_rfl) (fun _ _ _ h=>h) (Or.inl ⟨by rfl,?_⟩) ?_ ?_
     rotate_left
     ·intro w'
      go_simp
      with_reducible rfl
     rotate_left
     ·simp only [Act.put,sA_,s0_,s1_]
      rfl
     refine one_ (i:=12) (N:=none) #[true,true,true,true,true,true,true,true,true,true,true,true,true] rfl rfl (by kernel_rfl) (by decide) (fun K hK=>?_)
     have c7:=blk_cell GH.out 8
     have f7:=blk_frozen GH.out 8
     simp only [List.getElem?_toArray,List.getElem?_cons_zero,List.getElem?_cons_succ] at c7
     go_simp
     clear c7 f7
     have nS:w4.heap.size ≠ wr.heap.size:=by omega
     have nD:w4.heap.size ≠ w1.heap.size:=by omega
     refine hK.out _ _ ⟨cell_far (p:=⟨w4.heap.size,8,none⟩) (a:=⟨wr.heap.size,0,none⟩) nS _ ((hc _ _ gS).trans k0),cell_far (p:=⟨w4.heap.size,8,none⟩) (a:=⟨w1.heap.size,0,none⟩) nD _ ((hc _ _ gD).trans g0),cell_far (p:=⟨w4.heap.size,8,none⟩) (a:=⟨w1.heap.size,1,none⟩) nD _ ((hc _ _ gD).trans g1),cell_far (p:=⟨w4.heap.size,8,none⟩) (a:=⟨w1.heap.size,2,none⟩) nD _ ((hc _ _ gD).trans g2),cell_far (p:=⟨w4.heap.size,8,none⟩) (a:=⟨w1.heap.size,3,none⟩) nD _ ((hc _ _ gD).trans g3),cell_far (p:=⟨w4.heap.size,8,none⟩) (a:=⟨w1.heap.size,4,none⟩) nD _ ((hc _ _ gD).trans g4)⟩ (fun hHeld=>?_)
     clear hK K
     refine done_ (by kernel_rfl) ?_
     have r1:=blk_put (cs':=#[.int .u8 d0, .int .u8 d1, .int .u8 d2, .int .u8 d3, .int .u8 d4, .string y3, .string y4, .string y5, .string y6, .string (⟨#[]⟩ : ByteArray), .string (⟨#[]⟩ : ByteArray), .string (⟨#[]⟩ : ByteArray), .string (⟨#[]⟩ : ByteArray), .string (⟨#[]⟩ : ByteArray), .string (⟨#[]⟩ : ByteArray)]) GH7 8 (.string y6) rfl
     have r2:=blk_far GD7 (p:=⟨w4.heap.size,8,none⟩) (Ne.symm nD) (.string y6)
     have r3:=blk_far GZ7 (p:=⟨w4.heap.size,8,none⟩) (by show w.heap.size ≠ w4.heap.size; omega) (.string y6)
     have r4:=below_set (g:=w4.heap.size) (j:=8) (v := .string y6) GB7 (by omega)
     have R1:=Lib.hid r1
     have R2:=Lib.hid r2
     have R3:=Lib.hid r3
     have R4:=Lib.hid r4
     clear r1 r2 r3 r4 GH7 GD7 GZ7 GB7 k0 g0 g1 g2 g3 g4 hc hf hb7 hHeld gS gD nS nD
     go_wp2
     go_roundw
     case rel=>exact ⟨4,by omega,by first | rfl | go_num,R1.out,R2.out,R3.out,R4.out⟩
     case measure=>simp [Go.RowKit.intOf]
    ·have GH:Go.RowKit.Hid (wr.heap[w4.heap.size]?=some (.cells #[.int .u8 d0, .int .u8 d1, .int .u8 d2, .int .u8 d3, .int .u8 d4, .string y3, .string y4, .string y5, .string y6, .string (⟨#[]⟩ : ByteArray), .string (⟨#[]⟩ : ByteArray), .string (⟨#[]⟩ : ByteArray), .string (⟨#[]⟩ : ByteArray), .string (⟨#[]⟩ : ByteArray), .string (⟨#[]⟩ : ByteArray)] 27 (0,0))):=Lib.hid hh
     clear hh
     have ix:=texts_at4
     go_wp2_with fail
     have k0 : (wr.alloc (.cells #[.func (.func 46) #[] #[]] 64)).cell? ⟨wr.heap.size,0,none⟩=some (.func (.func 46) #[] #[]):=blk_cell (heap_new wr _) 0
     have g0:=cell_alloc_old (.cells #[.func (.func 46) #[] #[]] 64) e0
     have g1:=cell_alloc_old (.cells #[.func (.func 46) #[] #[]] 64) e1
     have g2:=cell_alloc_old (.cells #[.func (.func 46) #[] #[]] 64) e2
     have g3:=cell_alloc_old (.cells #[.func (.func 46) #[] #[]] 64) e3
     have g4:=cell_alloc_old (.cells #[.func (.func 46) #[] #[]] 64) e4
     clear e0 e1 e2 e3 e4 ix
     refine start_ (n:=13) (S:=fun w'=>w'.cell? ⟨wr.heap.size,0,none⟩=some (.func (.func 46) #[] #[])∧w'.cell? ⟨w1.heap.size,0,none⟩=some (.int .u8 d0)∧w'.cell? ⟨w1.heap.size,1,none⟩=some (.int .u8 d1)∧w'.cell? ⟨w1.heap.size,2,none⟩=some (.int .u8 d2)∧w'.cell? ⟨w1.heap.size,3,none⟩=some (.int .u8 d3)∧w'.cell? ⟨w1.heap.size,4,none⟩=some (.int .u8 d4)) (ds:=[]) #[false,false,false,false,false,false,false,false,false,false,false,false,false] (by kernel_rfl) rfl rfl ⟨k0,g0,g1,g2,g3,g4⟩ (fun hHeld=>?_)
     refine pure_ (i:=0) (N:=some 44) (v:=?_) (a':=?_) #[true,false,false,false,false,false,false,false,false,false,false,false,false] rfl rfl (by kernel_rfl) (fun _ _ _ h=>h) (Or.inl ⟨by rfl,?_⟩) ?_ ?_
     rotate_left
     ·intro w'
      go_simp
      with_reducible rfl
     rotate_left
     ·simp only [Act.put,sA_,s0_,s1_]
      rfl
     refine take_ (i:=1) (N:=some 45) (v:=?_) (a':=?_) #[true,true,false,false,false,false,false,false,false,false,false,false,false] rfl rfl (by kernel_rfl) (fun _ _ _ h=>h) (Or.inl ⟨by rfl,?_⟩) hHeld ?_ ?_
     rotate_left
     ·rintro w' ⟨s0,s1,s2,s3,s4,s5⟩
      go_simp
      with_reducible rfl
     rotate_left
     ·simp only [Act.put,sA_,s0_,s1_]
      rfl
     refine pure_ (i:=3) (N:=some 47) (v:=?_) (a':=?_) #[true,true,false,true,false,false,false,false,false,false,false,false,false] rfl rfl (by kernel_rfl) (fun _ _ _ h=>h) (Or.inl ⟨by rfl,?_⟩) ?_ ?_
     rotate_left
     ·intro w'
      go_simp
      with_reducible rfl
     rotate_left
     ·simp only [Act.put,sA_,s0_,s1_]
      rfl
     refine pure_ (i:=4) (N:=some 48) (v:=?_) (a':=?_) #[true,true,false,true,true,false,false,false,false,false,false,false,false] rfl rfl (by kernel_rfl) (fun _ _ _ h=>h) (Or.inl ⟨by rfl,?_⟩) ?_ ?_
     rotate_left
     ·intro w'
      go_simp
      with_reducible rfl
     rotate_left
     ·simp only [Act.put,sA_,s0_,s1_]
      rfl
     refine pure_ (i:=5) (N:=some 49) (v:=?_) (a':=?_) #[true,true,false,true,true,true,false,false,false,false,false,false,false] rfl rfl (by kernel_rfl) (fun _ _ _ h=>h) (Or.inl ⟨by rfl,?_⟩) ?_ ?_
     rotate_left
     ·intro w'
      go_simp
      with_reducible rfl
     rotate_left
     ·simp only [Act.put,sA_,s0_,s1_]
      rfl
     refine take_ (i:=6) (N:=some 50) (v:=?_) (a':=?_) #[true,true,false,true,true,true,true,false,false,false,false,false,false] rfl rfl (by kernel_rfl) (fun _ _ _ h=>h) (Or.inl ⟨by rfl,?_⟩) hHeld ?_ ?_
     rotate_left
     ·rintro w' ⟨s0,s1,s2,s3,s4,s5⟩
      go_simp
      with_reducible rfl
     rotate_left
     ·simp only [Act.put,sA_,s0_,s1_]
      rfl
     refine one_ (i:=2) (N:=some 46) #[true,true,true,true,true,true,true,false,false,false,false,false,false] rfl rfl (by kernel_rfl) (by decide) (fun K hK=>?_)
     have ee:=enters_of Tryd.func46 (by kernel_rfl) rfl
     refine call_ 46 #[.pointer (some ⟨w4.heap.size,0,none⟩)] (by rfl) rfl (by go_simp) ?_
     clear ee
     with_reducible refine (text_5 _ _).mono ?_
     rintro e w' ⟨rfl,rfl⟩
     refine ⟨_,rfl,?_⟩
     refine hK.out _ _ hHeld (fun hHeld=>?_)
     clear hK K
     refine norm_ (a':=?_) ?_ ?_
     rotate_left
     ·show Act.put _ (some 46) _=_
      simp only [Act.put,sA_,s0_,s1_]
      rfl
     refine one_ (i:=7) (N:=some 51) #[true,true,true,true,true,true,true,true,false,false,false,false,false] rfl rfl (by kernel_rfl) (by decide) (fun K hK=>?_)
     refine goes_ Tryd.func23 (by kernel_rfl) rfl #[.string x, .int .i64 7, .agg #[.int .u8 d0, .int .u8 d1, .int .u8 d2, .int .u8 d3, .int .u8 d4]] (by rfl) rfl rfl (by (try simp only [List.map_toArray,List.map_cons,List.map_nil]); first | done | rfl) ?_
     with_reducible refine (segment_Field.calls x 7 d0 d1 d2 d3 d4 y7 b7 _ F7.out).mono ?_
     rintro e w7 ⟨rfl,hb7⟩
     obtain ⟨hc,hf⟩:=below_reads hb7
     have gS:wr.heap.size < ((wr.alloc (.cells #[.func (.func 46) #[] #[]] 64)).drew).heap.size:=by simp
     have gD:w1.heap.size < ((wr.alloc (.cells #[.func (.func 46) #[] #[]] 64)).drew).heap.size:=by simp; omega
     refine ⟨_,rfl,?_⟩
     refine hK.out _ _ ⟨(hc _ _ gS).trans k0,(hc _ _ gD).trans g0,(hc _ _ gD).trans g1,(hc _ _ gD).trans g2,(hc _ _ gD).trans g3,(hc _ _ gD).trans g4⟩ (fun hHeld=>?_)
     clear hK K
     refine norm_ (a':=?_) ?_ ?_
     rotate_left
     ·show Act.put _ (some 51) _=_
      simp only [Act.put,sA_,s0_,s1_]
      rfl
     have GH7:=blk_below (blk_drew (heap_old (.cells #[.func (.func 46) #[] #[]] 64) GH.out)) hb7
     have GD7:=blk_below (blk_drew (heap_old (.cells #[.func (.func 46) #[] #[]] 64) GD.out)) hb7
     have GZ7:=blk_below (blk_drew (heap_old (.cells #[.func (.func 46) #[] #[]] 64) GZ.out)) hb7
     have GB7:=below_step (below_drew1 (GB.out.alloc GB.out.size (.cells #[.func (.func 46) #[] #[]] 64))) hb7
     refine pure_ (i:=8) (N:=some 43) (v:=?_) (a':=?_) #[true,true,true,true,true,true,true,true,true,false,false,false,false] rfl rfl (by kernel_rfl) (fun _ _ _ h=>h) (Or.inl ⟨by rfl,?_⟩) ?_ ?_
     rotate_left
     ·intro w'
      go_simp
      with_reducible rfl
     rotate_left
     ·simp only [Act.put,sA_,s0_,s1_]
      rfl
     refine pure_ (i:=9) (N:=some 52) (v:=?_) (a':=?_) #[true,true,true,true,true,true,true,true,true,true,false,false,false] rfl rfl (by kernel_rfl) (fun _ _ _ h=>h) (Or.inl ⟨by rfl,?_⟩) ?_ ?_
     rotate_left
     ·intro w'
      go_simp
      with_reducible rfl
     rotate_left
     ·simp only [Act.put,sA_,s0_,s1_]
      rfl
     refine pure_ (i:=10) (N:=some 53) (v:=?_) (a':=?_) #[true,true,true,true,true,true,true,true,true,true,true,false,false] rfl rfl (by kernel_rfl) (fun _ _ _ h=>h) (Or.inl ⟨by rfl,?_⟩) ?_ ?_
     rotate_left
     ·intro w'
      go_simp
      with_reducible rfl
     rotate_left
     ·simp only [Act.put,sA_,s0_,s1_]
      rfl
     refine pure_ (i:=11) (N:=some 54) (v:=?_) (a':=?_) #[true,true,true,true,true,true,true,true,true,true,true,true,false] rfl rfl (by kernel_rfl) (fun _ _ _ h=>h) (Or.inl ⟨by rfl,?_⟩) ?_ ?_
     rotate_left
     ·intro w'
      go_simp
      with_reducible rfl
     rotate_left
     ·simp only [Act.put,sA_,s0_,s1_]
      rfl
     refine one_ (i:=12) (N:=none) #[true,true,true,true,true,true,true,true,true,true,true,true,true] rfl rfl (by kernel_rfl) (by decide) (fun K hK=>?_)
     have c7:=blk_cell GH.out 9
     have f7:=blk_frozen GH.out 9
     simp only [List.getElem?_toArray,List.getElem?_cons_zero,List.getElem?_cons_succ] at c7
     go_simp
     clear c7 f7
     have nS:w4.heap.size ≠ wr.heap.size:=by omega
     have nD:w4.heap.size ≠ w1.heap.size:=by omega
     refine hK.out _ _ ⟨cell_far (p:=⟨w4.heap.size,9,none⟩) (a:=⟨wr.heap.size,0,none⟩) nS _ ((hc _ _ gS).trans k0),cell_far (p:=⟨w4.heap.size,9,none⟩) (a:=⟨w1.heap.size,0,none⟩) nD _ ((hc _ _ gD).trans g0),cell_far (p:=⟨w4.heap.size,9,none⟩) (a:=⟨w1.heap.size,1,none⟩) nD _ ((hc _ _ gD).trans g1),cell_far (p:=⟨w4.heap.size,9,none⟩) (a:=⟨w1.heap.size,2,none⟩) nD _ ((hc _ _ gD).trans g2),cell_far (p:=⟨w4.heap.size,9,none⟩) (a:=⟨w1.heap.size,3,none⟩) nD _ ((hc _ _ gD).trans g3),cell_far (p:=⟨w4.heap.size,9,none⟩) (a:=⟨w1.heap.size,4,none⟩) nD _ ((hc _ _ gD).trans g4)⟩ (fun hHeld=>?_)
     clear hK K
     refine done_ (by kernel_rfl) ?_
     have r1:=blk_put (cs':=#[.int .u8 d0, .int .u8 d1, .int .u8 d2, .int .u8 d3, .int .u8 d4, .string y3, .string y4, .string y5, .string y6, .string y7, .string (⟨#[]⟩ : ByteArray), .string (⟨#[]⟩ : ByteArray), .string (⟨#[]⟩ : ByteArray), .string (⟨#[]⟩ : ByteArray), .string (⟨#[]⟩ : ByteArray)]) GH7 9 (.string y7) rfl
     have r2:=blk_far GD7 (p:=⟨w4.heap.size,9,none⟩) (Ne.symm nD) (.string y7)
     have r3:=blk_far GZ7 (p:=⟨w4.heap.size,9,none⟩) (by show w.heap.size ≠ w4.heap.size; omega) (.string y7)
     have r4:=below_set (g:=w4.heap.size) (j:=9) (v := .string y7) GB7 (by omega)
     have R1:=Lib.hid r1
     have R2:=Lib.hid r2
     have R3:=Lib.hid r3
     have R4:=Lib.hid r4
     clear r1 r2 r3 r4 GH7 GD7 GZ7 GB7 k0 g0 g1 g2 g3 g4 hc hf hb7 hHeld gS gD nS nD
     go_wp2
     go_roundw
     case rel=>exact ⟨5,by omega,by first | rfl | go_num,R1.out,R2.out,R3.out,R4.out⟩
     case measure=>simp [Go.RowKit.intOf]
    ·have GH:Go.RowKit.Hid (wr.heap[w4.heap.size]?=some (.cells #[.int .u8 d0, .int .u8 d1, .int .u8 d2, .int .u8 d3, .int .u8 d4, .string y3, .string y4, .string y5, .string y6, .string y7, .string (⟨#[]⟩ : ByteArray), .string (⟨#[]⟩ : ByteArray), .string (⟨#[]⟩ : ByteArray), .string (⟨#[]⟩ : ByteArray), .string (⟨#[]⟩ : ByteArray)] 27 (0,0))):=Lib.hid hh
     clear hh
     have ix:=texts_at5
     go_wp2_with fail
     have k0 : (wr.alloc (.cells #[.func (.func 47) #[] #[]] 64)).cell? ⟨wr.heap.size,0,none⟩=some (.func (.func 47) #[] #[]):=blk_cell (heap_new wr _) 0
     have g0:=cell_alloc_old (.cells #[.func (.func 47) #[] #[]] 64) e0
     have g1:=cell_alloc_old (.cells #[.func (.func 47) #[] #[]] 64) e1
     have g2:=cell_alloc_old (.cells #[.func (.func 47) #[] #[]] 64) e2
     have g3:=cell_alloc_old (.cells #[.func (.func 47) #[] #[]] 64) e3
     have g4:=cell_alloc_old (.cells #[.func (.func 47) #[] #[]] 64) e4
     clear e0 e1 e2 e3 e4 ix
     refine start_ (n:=13) (S:=fun w'=>w'.cell? ⟨wr.heap.size,0,none⟩=some (.func (.func 47) #[] #[])∧w'.cell? ⟨w1.heap.size,0,none⟩=some (.int .u8 d0)∧w'.cell? ⟨w1.heap.size,1,none⟩=some (.int .u8 d1)∧w'.cell? ⟨w1.heap.size,2,none⟩=some (.int .u8 d2)∧w'.cell? ⟨w1.heap.size,3,none⟩=some (.int .u8 d3)∧w'.cell? ⟨w1.heap.size,4,none⟩=some (.int .u8 d4)) (ds:=[]) #[false,false,false,false,false,false,false,false,false,false,false,false,false] (by kernel_rfl) rfl rfl ⟨k0,g0,g1,g2,g3,g4⟩ (fun hHeld=>?_)
     refine pure_ (i:=0) (N:=some 44) (v:=?_) (a':=?_) #[true,false,false,false,false,false,false,false,false,false,false,false,false] rfl rfl (by kernel_rfl) (fun _ _ _ h=>h) (Or.inl ⟨by rfl,?_⟩) ?_ ?_
     rotate_left
     ·intro w'
      go_simp
      with_reducible rfl
     rotate_left
     ·simp only [Act.put,sA_,s0_,s1_]
      rfl
     refine take_ (i:=1) (N:=some 45) (v:=?_) (a':=?_) #[true,true,false,false,false,false,false,false,false,false,false,false,false] rfl rfl (by kernel_rfl) (fun _ _ _ h=>h) (Or.inl ⟨by rfl,?_⟩) hHeld ?_ ?_
     rotate_left
     ·rintro w' ⟨s0,s1,s2,s3,s4,s5⟩
      go_simp
      with_reducible rfl
     rotate_left
     ·simp only [Act.put,sA_,s0_,s1_]
      rfl
     refine pure_ (i:=3) (N:=some 47) (v:=?_) (a':=?_) #[true,true,false,true,false,false,false,false,false,false,false,false,false] rfl rfl (by kernel_rfl) (fun _ _ _ h=>h) (Or.inl ⟨by rfl,?_⟩) ?_ ?_
     rotate_left
     ·intro w'
      go_simp
      with_reducible rfl
     rotate_left
     ·simp only [Act.put,sA_,s0_,s1_]
      rfl
     refine pure_ (i:=4) (N:=some 48) (v:=?_) (a':=?_) #[true,true,false,true,true,false,false,false,false,false,false,false,false] rfl rfl (by kernel_rfl) (fun _ _ _ h=>h) (Or.inl ⟨by rfl,?_⟩) ?_ ?_
     rotate_left
     ·intro w'
      go_simp
      with_reducible rfl
     rotate_left
     ·simp only [Act.put,sA_,s0_,s1_]
      rfl
     refine pure_ (i:=5) (N:=some 49) (v:=?_) (a':=?_) #[true,true,false,true,true,true,false,false,false,false,false,false,false] rfl rfl (by kernel_rfl) (fun _ _ _ h=>h) (Or.inl ⟨by rfl,?_⟩) ?_ ?_
     rotate_left
     ·intro w'
      go_simp
      with_reducible rfl
     rotate_left
     ·simp only [Act.put,sA_,s0_,s1_]
      rfl
     refine take_ (i:=6) (N:=some 50) (v:=?_) (a':=?_) #[true,true,false,true,true,true,true,false,false,false,false,false,false] rfl rfl (by kernel_rfl) (fun _ _ _ h=>h) (Or.inl ⟨by rfl,?_⟩) hHeld ?_ ?_
     rotate_left
     ·rintro w' ⟨s0,s1,s2,s3,s4,s5⟩
      go_simp
      with_reducible rfl
     rotate_left
     ·simp only [Act.put,sA_,s0_,s1_]
      rfl
     refine one_ (i:=2) (N:=some 46) #[true,true,true,true,true,true,true,false,false,false,false,false,false] rfl rfl (by kernel_rfl) (by decide) (fun K hK=>?_)
     have ee:=enters_of Tryd.func47 (by kernel_rfl) rfl
     refine call_ 47 #[.pointer (some ⟨w4.heap.size,0,none⟩)] (by rfl) rfl (by go_simp) ?_
     clear ee
     with_reducible refine (text_6 _ _).mono ?_
     rintro e w' ⟨rfl,rfl⟩
     refine ⟨_,rfl,?_⟩
     refine hK.out _ _ hHeld (fun hHeld=>?_)
     clear hK K
     refine norm_ (a':=?_) ?_ ?_
     rotate_left
     ·show Act.put _ (some 46) _=_
      simp only [Act.put,sA_,s0_,s1_]
      rfl
     refine one_ (i:=7) (N:=some 51) #[true,true,true,true,true,true,true,true,false,false,false,false,false] rfl rfl (by kernel_rfl) (by decide) (fun K hK=>?_)
     refine goes_ Tryd.func23 (by kernel_rfl) rfl #[.string x, .int .i64 8, .agg #[.int .u8 d0, .int .u8 d1, .int .u8 d2, .int .u8 d3, .int .u8 d4]] (by rfl) rfl rfl (by (try simp only [List.map_toArray,List.map_cons,List.map_nil]); first | done | rfl) ?_
     with_reducible refine (segment_Field.calls x 8 d0 d1 d2 d3 d4 y8 b8 _ F8.out).mono ?_
     rintro e w7 ⟨rfl,hb7⟩
     obtain ⟨hc,hf⟩:=below_reads hb7
     have gS:wr.heap.size < ((wr.alloc (.cells #[.func (.func 47) #[] #[]] 64)).drew).heap.size:=by simp
     have gD:w1.heap.size < ((wr.alloc (.cells #[.func (.func 47) #[] #[]] 64)).drew).heap.size:=by simp; omega
     refine ⟨_,rfl,?_⟩
     refine hK.out _ _ ⟨(hc _ _ gS).trans k0,(hc _ _ gD).trans g0,(hc _ _ gD).trans g1,(hc _ _ gD).trans g2,(hc _ _ gD).trans g3,(hc _ _ gD).trans g4⟩ (fun hHeld=>?_)
     clear hK K
     refine norm_ (a':=?_) ?_ ?_
     rotate_left
     ·show Act.put _ (some 51) _=_
      simp only [Act.put,sA_,s0_,s1_]
      rfl
     have GH7:=blk_below (blk_drew (heap_old (.cells #[.func (.func 47) #[] #[]] 64) GH.out)) hb7
     have GD7:=blk_below (blk_drew (heap_old (.cells #[.func (.func 47) #[] #[]] 64) GD.out)) hb7
     have GZ7:=blk_below (blk_drew (heap_old (.cells #[.func (.func 47) #[] #[]] 64) GZ.out)) hb7
     have GB7:=below_step (below_drew1 (GB.out.alloc GB.out.size (.cells #[.func (.func 47) #[] #[]] 64))) hb7
     refine pure_ (i:=8) (N:=some 43) (v:=?_) (a':=?_) #[true,true,true,true,true,true,true,true,true,false,false,false,false] rfl rfl (by kernel_rfl) (fun _ _ _ h=>h) (Or.inl ⟨by rfl,?_⟩) ?_ ?_
     rotate_left
     ·intro w'
      go_simp
      with_reducible rfl
     rotate_left
     ·simp only [Act.put,sA_,s0_,s1_]
      rfl
     refine pure_ (i:=9) (N:=some 52) (v:=?_) (a':=?_) #[true,true,true,true,true,true,true,true,true,true,false,false,false] rfl rfl (by kernel_rfl) (fun _ _ _ h=>h) (Or.inl ⟨by rfl,?_⟩) ?_ ?_
     rotate_left
     ·intro w'
      go_simp
      with_reducible rfl
     rotate_left
     ·simp only [Act.put,sA_,s0_,s1_]
      rfl
     refine pure_ (i:=10) (N:=some 53) (v:=?_) (a':=?_) #[true,true,true,true,true,true,true,true,true,true,true,false,false] rfl rfl (by kernel_rfl) (fun _ _ _ h=>h) (Or.inl ⟨by rfl,?_⟩) ?_ ?_
     rotate_left
     ·intro w'
      go_simp
      with_reducible rfl
     rotate_left
     ·simp only [Act.put,sA_,s0_,s1_]
      rfl
     refine pure_ (i:=11) (N:=some 54) (v:=?_) (a':=?_) #[true,true,true,true,true,true,true,true,true,true,true,true,false] rfl rfl (by kernel_rfl) (fun _ _ _ h=>h) (Or.inl ⟨by rfl,?_⟩) ?_ ?_
     rotate_left
     ·intro w'
      go_simp
      with_reducible rfl
     rotate_left
     ·simp only [Act.put,sA_,s0_,s1_]
      rfl
     refine one_ (i:=12) (N:=none) #[true,true,true,true,true,true,true,true,true,true,true,true,true] rfl rfl (by kernel_rfl) (by decide) (fun K hK=>?_)
     have c7:=blk_cell GH.out 10
     have f7:=blk_frozen GH.out 10
     simp only [List.getElem?_toArray,List.getElem?_cons_zero,List.getElem?_cons_succ] at c7
     go_simp
     clear c7 f7
     have nS:w4.heap.size ≠ wr.heap.size:=by omega
     have nD:w4.heap.size ≠ w1.heap.size:=by omega
     refine hK.out _ _ ⟨cell_far (p:=⟨w4.heap.size,10,none⟩) (a:=⟨wr.heap.size,0,none⟩) nS _ ((hc _ _ gS).trans k0),cell_far (p:=⟨w4.heap.size,10,none⟩) (a:=⟨w1.heap.size,0,none⟩) nD _ ((hc _ _ gD).trans g0),cell_far (p:=⟨w4.heap.size,10,none⟩) (a:=⟨w1.heap.size,1,none⟩) nD _ ((hc _ _ gD).trans g1),cell_far (p:=⟨w4.heap.size,10,none⟩) (a:=⟨w1.heap.size,2,none⟩) nD _ ((hc _ _ gD).trans g2),cell_far (p:=⟨w4.heap.size,10,none⟩) (a:=⟨w1.heap.size,3,none⟩) nD _ ((hc _ _ gD).trans g3),cell_far (p:=⟨w4.heap.size,10,none⟩) (a:=⟨w1.heap.size,4,none⟩) nD _ ((hc _ _ gD).trans g4)⟩ (fun hHeld=>?_)
     clear hK K
     refine done_ (by kernel_rfl) ?_
     have r1:=blk_put (cs':=#[.int .u8 d0, .int .u8 d1, .int .u8 d2, .int .u8 d3, .int .u8 d4, .string y3, .string y4, .string y5, .string y6, .string y7, .string y8, .string (⟨#[]⟩ : ByteArray), .string (⟨#[]⟩ : ByteArray), .string (⟨#[]⟩ : ByteArray), .string (⟨#[]⟩ : ByteArray)]) GH7 10 (.string y8) rfl
     have r2:=blk_far GD7 (p:=⟨w4.heap.size,10,none⟩) (Ne.symm nD) (.string y8)
     have r3:=blk_far GZ7 (p:=⟨w4.heap.size,10,none⟩) (by show w.heap.size ≠ w4.heap.size; omega) (.string y8)
     have r4:=below_set (g:=w4.heap.size) (j:=10) (v := .string y8) GB7 (by omega)
     have R1:=Lib.hid r1
     have R2:=Lib.hid r2
     have R3:=Lib.hid r3
     have R4:=Lib.hid r4
     clear r1 r2 r3 r4 GH7 GD7 GZ7 GB7 k0 g0 g1 g2 g3 g4 hc hf hb7 hHeld gS gD nS nD
     go_wp2
     go_roundw
     case rel=>exact ⟨6,by omega,by first | rfl | go_num,R1.out,R2.out,R3.out,R4.out⟩
     case measure=>simp [Go.RowKit.intOf]
    ·have GH:Go.RowKit.Hid (wr.heap[w4.heap.size]?=some (.cells #[.int .u8 d0, .int .u8 d1, .int .u8 d2, .int .u8 d3, .int .u8 d4, .string y3, .string y4, .string y5, .string y6, .string y7, .string y8, .string (⟨#[]⟩ : ByteArray), .string (⟨#[]⟩ : ByteArray), .string (⟨#[]⟩ : ByteArray), .string (⟨#[]⟩ : ByteArray)] 27 (0,0))):=Lib.hid hh
     clear hh
     have ix:=texts_at6
     go_wp2_with fail
     have k0 : (wr.alloc (.cells #[.func (.func 48) #[] #[]] 64)).cell? ⟨wr.heap.size,0,none⟩=some (.func (.func 48) #[] #[]):=blk_cell (heap_new wr _) 0
     have g0:=cell_alloc_old (.cells #[.func (.func 48) #[] #[]] 64) e0
     have g1:=cell_alloc_old (.cells #[.func (.func 48) #[] #[]] 64) e1
     have g2:=cell_alloc_old (.cells #[.func (.func 48) #[] #[]] 64) e2
     have g3:=cell_alloc_old (.cells #[.func (.func 48) #[] #[]] 64) e3
     have g4:=cell_alloc_old (.cells #[.func (.func 48) #[] #[]] 64) e4
     clear e0 e1 e2 e3 e4 ix
     refine start_ (n:=13) (S:=fun w'=>w'.cell? ⟨wr.heap.size,0,none⟩=some (.func (.func 48) #[] #[])∧w'.cell? ⟨w1.heap.size,0,none⟩=some (.int .u8 d0)∧w'.cell? ⟨w1.heap.size,1,none⟩=some (.int .u8 d1)∧w'.cell? ⟨w1.heap.size,2,none⟩=some (.int .u8 d2)∧w'.cell? ⟨w1.heap.size,3,none⟩=some (.int .u8 d3)∧w'.cell? ⟨w1.heap.size,4,none⟩=some (.int .u8 d4)) (ds:=[]) #[false,false,false,false,false,false,false,false,false,false,false,false,false] (by kernel_rfl) rfl rfl ⟨k0,g0,g1,g2,g3,g4⟩ (fun hHeld=>?_)
     refine pure_ (i:=0) (N:=some 44) (v:=?_) (a':=?_) #[true,false,false,false,false,false,false,false,false,false,false,false,false] rfl rfl (by kernel_rfl) (fun _ _ _ h=>h) (Or.inl ⟨by rfl,?_⟩) ?_ ?_
     rotate_left
     ·intro w'
      go_simp
      with_reducible rfl
     rotate_left
     ·simp only [Act.put,sA_,s0_,s1_]
      rfl
     refine take_ (i:=1) (N:=some 45) (v:=?_) (a':=?_) #[true,true,false,false,false,false,false,false,false,false,false,false,false] rfl rfl (by kernel_rfl) (fun _ _ _ h=>h) (Or.inl ⟨by rfl,?_⟩) hHeld ?_ ?_
     rotate_left
     ·rintro w' ⟨s0,s1,s2,s3,s4,s5⟩
      go_simp
      with_reducible rfl
     rotate_left
     ·simp only [Act.put,sA_,s0_,s1_]
      rfl
     refine pure_ (i:=3) (N:=some 47) (v:=?_) (a':=?_) #[true,true,false,true,false,false,false,false,false,false,false,false,false] rfl rfl (by kernel_rfl) (fun _ _ _ h=>h) (Or.inl ⟨by rfl,?_⟩) ?_ ?_
     rotate_left
     ·intro w'
      go_simp
      with_reducible rfl
     rotate_left
     ·simp only [Act.put,sA_,s0_,s1_]
      rfl
     refine pure_ (i:=4) (N:=some 48) (v:=?_) (a':=?_) #[true,true,false,true,true,false,false,false,false,false,false,false,false] rfl rfl (by kernel_rfl) (fun _ _ _ h=>h) (Or.inl ⟨by rfl,?_⟩) ?_ ?_
     rotate_left
     ·intro w'
      go_simp
      with_reducible rfl
     rotate_left
     ·simp only [Act.put,sA_,s0_,s1_]
      rfl
     refine pure_ (i:=5) (N:=some 49) (v:=?_) (a':=?_) #[true,true,false,true,true,true,false,false,false,false,false,false,false] rfl rfl (by kernel_rfl) (fun _ _ _ h=>h) (Or.inl ⟨by rfl,?_⟩) ?_ ?_
     rotate_left
     ·intro w'
      go_simp
      with_reducible rfl
     rotate_left
     ·simp only [Act.put,sA_,s0_,s1_]
      rfl
     refine take_ (i:=6) (N:=some 50) (v:=?_) (a':=?_) #[true,true,false,true,true,true,true,false,false,false,false,false,false] rfl rfl (by kernel_rfl) (fun _ _ _ h=>h) (Or.inl ⟨by rfl,?_⟩) hHeld ?_ ?_
     rotate_left
     ·rintro w' ⟨s0,s1,s2,s3,s4,s5⟩
      go_simp
      with_reducible rfl
     rotate_left
     ·simp only [Act.put,sA_,s0_,s1_]
      rfl
     refine one_ (i:=2) (N:=some 46) #[true,true,true,true,true,true,true,false,false,false,false,false,false] rfl rfl (by kernel_rfl) (by decide) (fun K hK=>?_)
     have ee:=enters_of Tryd.func48 (by kernel_rfl) rfl
     refine call_ 48 #[.pointer (some ⟨w4.heap.size,0,none⟩)] (by rfl) rfl (by go_simp) ?_
     clear ee
     with_reducible refine (text_7 _ _).mono ?_
     rintro e w' ⟨rfl,rfl⟩
     refine ⟨_,rfl,?_⟩
     refine hK.out _ _ hHeld (fun hHeld=>?_)
     clear hK K
     refine norm_ (a':=?_) ?_ ?_
     rotate_left
     ·show Act.put _ (some 46) _=_
      simp only [Act.put,sA_,s0_,s1_]
      rfl
     refine one_ (i:=7) (N:=some 51) #[true,true,true,true,true,true,true,true,false,false,false,false,false] rfl rfl (by kernel_rfl) (by decide) (fun K hK=>?_)
     refine goes_ Tryd.func23 (by kernel_rfl) rfl #[.string x, .int .i64 9, .agg #[.int .u8 d0, .int .u8 d1, .int .u8 d2, .int .u8 d3, .int .u8 d4]] (by rfl) rfl rfl (by (try simp only [List.map_toArray,List.map_cons,List.map_nil]); first | done | rfl) ?_
     with_reducible refine (segment_Field.calls x 9 d0 d1 d2 d3 d4 y9 b9 _ F9.out).mono ?_
     rintro e w7 ⟨rfl,hb7⟩
     obtain ⟨hc,hf⟩:=below_reads hb7
     have gS:wr.heap.size < ((wr.alloc (.cells #[.func (.func 48) #[] #[]] 64)).drew).heap.size:=by simp
     have gD:w1.heap.size < ((wr.alloc (.cells #[.func (.func 48) #[] #[]] 64)).drew).heap.size:=by simp; omega
     refine ⟨_,rfl,?_⟩
     refine hK.out _ _ ⟨(hc _ _ gS).trans k0,(hc _ _ gD).trans g0,(hc _ _ gD).trans g1,(hc _ _ gD).trans g2,(hc _ _ gD).trans g3,(hc _ _ gD).trans g4⟩ (fun hHeld=>?_)
     clear hK K
     refine norm_ (a':=?_) ?_ ?_
     rotate_left
     ·show Act.put _ (some 51) _=_
      simp only [Act.put,sA_,s0_,s1_]
      rfl
     have GH7:=blk_below (blk_drew (heap_old (.cells #[.func (.func 48) #[] #[]] 64) GH.out)) hb7
     have GD7:=blk_below (blk_drew (heap_old (.cells #[.func (.func 48) #[] #[]] 64) GD.out)) hb7
     have GZ7:=blk_below (blk_drew (heap_old (.cells #[.func (.func 48) #[] #[]] 64) GZ.out)) hb7
     have GB7:=below_step (below_drew1 (GB.out.alloc GB.out.size (.cells #[.func (.func 48) #[] #[]] 64))) hb7
     refine pure_ (i:=8) (N:=some 43) (v:=?_) (a':=?_) #[true,true,true,true,true,true,true,true,true,false,false,false,false] rfl rfl (by kernel_rfl) (fun _ _ _ h=>h) (Or.inl ⟨by rfl,?_⟩) ?_ ?_
     rotate_left
     ·intro w'
      go_simp
      with_reducible rfl
     rotate_left
     ·simp only [Act.put,sA_,s0_,s1_]
      rfl
     refine pure_ (i:=9) (N:=some 52) (v:=?_) (a':=?_) #[true,true,true,true,true,true,true,true,true,true,false,false,false] rfl rfl (by kernel_rfl) (fun _ _ _ h=>h) (Or.inl ⟨by rfl,?_⟩) ?_ ?_
     rotate_left
     ·intro w'
      go_simp
      with_reducible rfl
     rotate_left
     ·simp only [Act.put,sA_,s0_,s1_]
      rfl
     refine pure_ (i:=10) (N:=some 53) (v:=?_) (a':=?_) #[true,true,true,true,true,true,true,true,true,true,true,false,false] rfl rfl (by kernel_rfl) (fun _ _ _ h=>h) (Or.inl ⟨by rfl,?_⟩) ?_ ?_
     rotate_left
     ·intro w'
      go_simp
      with_reducible rfl
     rotate_left
     ·simp only [Act.put,sA_,s0_,s1_]
      rfl
     refine pure_ (i:=11) (N:=some 54) (v:=?_) (a':=?_) #[true,true,true,true,true,true,true,true,true,true,true,true,false] rfl rfl (by kernel_rfl) (fun _ _ _ h=>h) (Or.inl ⟨by rfl,?_⟩) ?_ ?_
     rotate_left
     ·intro w'
      go_simp
      with_reducible rfl
     rotate_left
     ·simp only [Act.put,sA_,s0_,s1_]
      rfl
     refine one_ (i:=12) (N:=none) #[true,true,true,true,true,true,true,true,true,true,true,true,true] rfl rfl (by kernel_rfl) (by decide) (fun K hK=>?_)
     have c7:=blk_cell GH.out 11
     have f7:=blk_frozen GH.out 11
     simp only [List.getElem?_toArray,List.getElem?_cons_zero,List.getElem?_cons_succ] at c7
     go_simp
     clear c7 f7
     have nS:w4.heap.size ≠ wr.heap.size:=by omega
     have nD:w4.heap.size ≠ w1.heap.size:=by omega
     refine hK.out _ _ ⟨cell_far (p:=⟨w4.heap.size,11,none⟩) (a:=⟨wr.heap.size,0,none⟩) nS _ ((hc _ _ gS).trans k0),cell_far (p:=⟨w4.heap.size,11,none⟩) (a:=⟨w1.heap.size,0,none⟩) nD _ ((hc _ _ gD).trans g0),cell_far (p:=⟨w4.heap.size,11,none⟩) (a:=⟨w1.heap.size,1,none⟩) nD _ ((hc _ _ gD).trans g1),cell_far (p:=⟨w4.heap.size,11,none⟩) (a:=⟨w1.heap.size,2,none⟩) nD _ ((hc _ _ gD).trans g2),cell_far (p:=⟨w4.heap.size,11,none⟩) (a:=⟨w1.heap.size,3,none⟩) nD _ ((hc _ _ gD).trans g3),cell_far (p:=⟨w4.heap.size,11,none⟩) (a:=⟨w1.heap.size,4,none⟩) nD _ ((hc _ _ gD).trans g4)⟩ (fun hHeld=>?_)
     clear hK K
     refine done_ (by kernel_rfl) ?_
     have r1:=blk_put (cs':=#[.int .u8 d0, .int .u8 d1, .int .u8 d2, .int .u8 d3, .int .u8 d4, .string y3, .string y4, .string y5, .string y6, .string y7, .string y8, .string y9, .string (⟨#[]⟩ : ByteArray), .string (⟨#[]⟩ : ByteArray), .string (⟨#[]⟩ : ByteArray)]) GH7 11 (.string y9) rfl
     have r2:=blk_far GD7 (p:=⟨w4.heap.size,11,none⟩) (Ne.symm nD) (.string y9)
     have r3:=blk_far GZ7 (p:=⟨w4.heap.size,11,none⟩) (by show w.heap.size ≠ w4.heap.size; omega) (.string y9)
     have r4:=below_set (g:=w4.heap.size) (j:=11) (v := .string y9) GB7 (by omega)
     have R1:=Lib.hid r1
     have R2:=Lib.hid r2
     have R3:=Lib.hid r3
     have R4:=Lib.hid r4
     clear r1 r2 r3 r4 GH7 GD7 GZ7 GB7 k0 g0 g1 g2 g3 g4 hc hf hb7 hHeld gS gD nS nD
     go_wp2
     go_roundw
     case rel=>exact ⟨7,by omega,by first | rfl | go_num,R1.out,R2.out,R3.out,R4.out⟩
     case measure=>simp [Go.RowKit.intOf]
    ·have GH:Go.RowKit.Hid (wr.heap[w4.heap.size]?=some (.cells #[.int .u8 d0, .int .u8 d1, .int .u8 d2, .int .u8 d3, .int .u8 d4, .string y3, .string y4, .string y5, .string y6, .string y7, .string y8, .string y9, .string (⟨#[]⟩ : ByteArray), .string (⟨#[]⟩ : ByteArray), .string (⟨#[]⟩ : ByteArray)] 27 (0,0))):=Lib.hid hh
     clear hh
     have ix:=texts_at7
     go_wp2_with fail
     have k0 : (wr.alloc (.cells #[.func (.func 49) #[] #[]] 64)).cell? ⟨wr.heap.size,0,none⟩=some (.func (.func 49) #[] #[]):=blk_cell (heap_new wr _) 0
     have g0:=cell_alloc_old (.cells #[.func (.func 49) #[] #[]] 64) e0
     have g1:=cell_alloc_old (.cells #[.func (.func 49) #[] #[]] 64) e1
     have g2:=cell_alloc_old (.cells #[.func (.func 49) #[] #[]] 64) e2
     have g3:=cell_alloc_old (.cells #[.func (.func 49) #[] #[]] 64) e3
     have g4:=cell_alloc_old (.cells #[.func (.func 49) #[] #[]] 64) e4
     clear e0 e1 e2 e3 e4 ix
     refine start_ (n:=13) (S:=fun w'=>w'.cell? ⟨wr.heap.size,0,none⟩=some (.func (.func 49) #[] #[])∧w'.cell? ⟨w1.heap.size,0,none⟩=some (.int .u8 d0)∧w'.cell? ⟨w1.heap.size,1,none⟩=some (.int .u8 d1)∧w'.cell? ⟨w1.heap.size,2,none⟩=some (.int .u8 d2)∧w'.cell? ⟨w1.heap.size,3,none⟩=some (.int .u8 d3)∧w'.cell? ⟨w1.heap.size,4,none⟩=some (.int .u8 d4)) (ds:=[]) #[false,false,false,false,false,false,false,false,false,false,false,false,false] (by kernel_rfl) rfl rfl ⟨k0,g0,g1,g2,g3,g4⟩ (fun hHeld=>?_)
     refine pure_ (i:=0) (N:=some 44) (v:=?_) (a':=?_) #[true,false,false,false,false,false,false,false,false,false,false,false,false] rfl rfl (by kernel_rfl) (fun _ _ _ h=>h) (Or.inl ⟨by rfl,?_⟩) ?_ ?_
     rotate_left
     ·intro w'
      go_simp
      with_reducible rfl
     rotate_left
     ·simp only [Act.put,sA_,s0_,s1_]
      rfl
     refine take_ (i:=1) (N:=some 45) (v:=?_) (a':=?_) #[true,true,false,false,false,false,false,false,false,false,false,false,false] rfl rfl (by kernel_rfl) (fun _ _ _ h=>h) (Or.inl ⟨by rfl,?_⟩) hHeld ?_ ?_
     rotate_left
     ·rintro w' ⟨s0,s1,s2,s3,s4,s5⟩
      go_simp
      with_reducible rfl
     rotate_left
     ·simp only [Act.put,sA_,s0_,s1_]
      rfl
     refine pure_ (i:=3) (N:=some 47) (v:=?_) (a':=?_) #[true,true,false,true,false,false,false,false,false,false,false,false,false] rfl rfl (by kernel_rfl) (fun _ _ _ h=>h) (Or.inl ⟨by rfl,?_⟩) ?_ ?_
     rotate_left
     ·intro w'
      go_simp
      with_reducible rfl
     rotate_left
     ·simp only [Act.put,sA_,s0_,s1_]
      rfl
     refine pure_ (i:=4) (N:=some 48) (v:=?_) (a':=?_) #[true,true,false,true,true,false,false,false,false,false,false,false,false] rfl rfl (by kernel_rfl) (fun _ _ _ h=>h) (Or.inl ⟨by rfl,?_⟩) ?_ ?_
     rotate_left
     ·intro w'
      go_simp
      with_reducible rfl
     rotate_left
     ·simp only [Act.put,sA_,s0_,s1_]
      rfl
     refine pure_ (i:=5) (N:=some 49) (v:=?_) (a':=?_) #[true,true,false,true,true,true,false,false,false,false,false,false,false] rfl rfl (by kernel_rfl) (fun _ _ _ h=>h) (Or.inl ⟨by rfl,?_⟩) ?_ ?_
     rotate_left
     ·intro w'
      go_simp
      with_reducible rfl
     rotate_left
     ·simp only [Act.put,sA_,s0_,s1_]
      rfl
     refine take_ (i:=6) (N:=some 50) (v:=?_) (a':=?_) #[true,true,false,true,true,true,true,false,false,false,false,false,false] rfl rfl (by kernel_rfl) (fun _ _ _ h=>h) (Or.inl ⟨by rfl,?_⟩) hHeld ?_ ?_
     rotate_left
     ·rintro w' ⟨s0,s1,s2,s3,s4,s5⟩
      go_simp
      with_reducible rfl
     rotate_left
     ·simp only [Act.put,sA_,s0_,s1_]
      rfl
     refine one_ (i:=2) (N:=some 46) #[true,true,true,true,true,true,true,false,false,false,false,false,false] rfl rfl (by kernel_rfl) (by decide) (fun K hK=>?_)
     have ee:=enters_of Tryd.func49 (by kernel_rfl) rfl
     refine call_ 49 #[.pointer (some ⟨w4.heap.size,0,none⟩)] (by rfl) rfl (by go_simp) ?_
     clear ee
     with_reducible refine (text_8 _ _).mono ?_
     rintro e w' ⟨rfl,rfl⟩
     refine ⟨_,rfl,?_⟩
     refine hK.out _ _ hHeld (fun hHeld=>?_)
     clear hK K
     refine norm_ (a':=?_) ?_ ?_
     rotate_left
     ·show Act.put _ (some 46) _=_
      simp only [Act.put,sA_,s0_,s1_]
      rfl
     refine one_ (i:=7) (N:=some 51) #[true,true,true,true,true,true,true,true,false,false,false,false,false] rfl rfl (by kernel_rfl) (by decide) (fun K hK=>?_)
     refine goes_ Tryd.func23 (by kernel_rfl) rfl #[.string x, .int .i64 10, .agg #[.int .u8 d0, .int .u8 d1, .int .u8 d2, .int .u8 d3, .int .u8 d4]] (by rfl) rfl rfl (by (try simp only [List.map_toArray,List.map_cons,List.map_nil]); first | done | rfl) ?_
     with_reducible refine (segment_Field.calls x 10 d0 d1 d2 d3 d4 y10 b10 _ F10.out).mono ?_
     rintro e w7 ⟨rfl,hb7⟩
     obtain ⟨hc,hf⟩:=below_reads hb7
     have gS:wr.heap.size < ((wr.alloc (.cells #[.func (.func 49) #[] #[]] 64)).drew).heap.size:=by simp
     have gD:w1.heap.size < ((wr.alloc (.cells #[.func (.func 49) #[] #[]] 64)).drew).heap.size:=by simp; omega
     refine ⟨_,rfl,?_⟩
     refine hK.out _ _ ⟨(hc _ _ gS).trans k0,(hc _ _ gD).trans g0,(hc _ _ gD).trans g1,(hc _ _ gD).trans g2,(hc _ _ gD).trans g3,(hc _ _ gD).trans g4⟩ (fun hHeld=>?_)
     clear hK K
     refine norm_ (a':=?_) ?_ ?_
     rotate_left
     ·show Act.put _ (some 51) _=_
      simp only [Act.put,sA_,s0_,s1_]
      rfl
     have GH7:=blk_below (blk_drew (heap_old (.cells #[.func (.func 49) #[] #[]] 64) GH.out)) hb7
     have GD7:=blk_below (blk_drew (heap_old (.cells #[.func (.func 49) #[] #[]] 64) GD.out)) hb7
     have GZ7:=blk_below (blk_drew (heap_old (.cells #[.func (.func 49) #[] #[]] 64) GZ.out)) hb7
     have GB7:=below_step (below_drew1 (GB.out.alloc GB.out.size (.cells #[.func (.func 49) #[] #[]] 64))) hb7
     refine pure_ (i:=8) (N:=some 43) (v:=?_) (a':=?_) #[true,true,true,true,true,true,true,true,true,false,false,false,false] rfl rfl (by kernel_rfl) (fun _ _ _ h=>h) (Or.inl ⟨by rfl,?_⟩) ?_ ?_
     rotate_left
     ·intro w'
      go_simp
      with_reducible rfl
     rotate_left
     ·simp only [Act.put,sA_,s0_,s1_]
      rfl
     refine pure_ (i:=9) (N:=some 52) (v:=?_) (a':=?_) #[true,true,true,true,true,true,true,true,true,true,false,false,false] rfl rfl (by kernel_rfl) (fun _ _ _ h=>h) (Or.inl ⟨by rfl,?_⟩) ?_ ?_
     rotate_left
     ·intro w'
      go_simp
      with_reducible rfl
     rotate_left
     ·simp only [Act.put,sA_,s0_,s1_]
      rfl
     refine pure_ (i:=10) (N:=some 53) (v:=?_) (a':=?_) #[true,true,true,true,true,true,true,true,true,true,true,false,false] rfl rfl (by kernel_rfl) (fun _ _ _ h=>h) (Or.inl ⟨by rfl,?_⟩) ?_ ?_
     rotate_left
     ·intro w'
      go_simp
      with_reducible rfl
     rotate_left
     ·simp only [Act.put,sA_,s0_,s1_]
      rfl
     refine pure_ (i:=11) (N:=some 54) (v:=?_) (a':=?_) #[true,true,true,true,true,true,true,true,true,true,true,true,false] rfl rfl (by kernel_rfl) (fun _ _ _ h=>h) (Or.inl ⟨by rfl,?_⟩) ?_ ?_
     rotate_left
     ·intro w'
      go_simp
      with_reducible rfl
     rotate_left
     ·simp only [Act.put,sA_,s0_,s1_]
      rfl
     refine one_ (i:=12) (N:=none) #[true,true,true,true,true,true,true,true,true,true,true,true,true] rfl rfl (by kernel_rfl) (by decide) (fun K hK=>?_)
     have c7:=blk_cell GH.out 12
     have f7:=blk_frozen GH.out 12
     simp only [List.getElem?_toArray,List.getElem?_cons_zero,List.getElem?_cons_succ] at c7
     go_simp
     clear c7 f7
     have nS:w4.heap.size ≠ wr.heap.size:=by omega
     have nD:w4.heap.size ≠ w1.heap.size:=by omega
     refine hK.out _ _ ⟨cell_far (p:=⟨w4.heap.size,12,none⟩) (a:=⟨wr.heap.size,0,none⟩) nS _ ((hc _ _ gS).trans k0),cell_far (p:=⟨w4.heap.size,12,none⟩) (a:=⟨w1.heap.size,0,none⟩) nD _ ((hc _ _ gD).trans g0),cell_far (p:=⟨w4.heap.size,12,none⟩) (a:=⟨w1.heap.size,1,none⟩) nD _ ((hc _ _ gD).trans g1),cell_far (p:=⟨w4.heap.size,12,none⟩) (a:=⟨w1.heap.size,2,none⟩) nD _ ((hc _ _ gD).trans g2),cell_far (p:=⟨w4.heap.size,12,none⟩) (a:=⟨w1.heap.size,3,none⟩) nD _ ((hc _ _ gD).trans g3),cell_far (p:=⟨w4.heap.size,12,none⟩) (a:=⟨w1.heap.size,4,none⟩) nD _ ((hc _ _ gD).trans g4)⟩ (fun hHeld=>?_)
     clear hK K
     refine done_ (by kernel_rfl) ?_
     have r1:=blk_put (cs':=#[.int .u8 d0, .int .u8 d1, .int .u8 d2, .int .u8 d3, .int .u8 d4, .string y3, .string y4, .string y5, .string y6, .string y7, .string y8, .string y9, .string y10, .string (⟨#[]⟩ : ByteArray), .string (⟨#[]⟩ : ByteArray)]) GH7 12 (.string y10) rfl
     have r2:=blk_far GD7 (p:=⟨w4.heap.size,12,none⟩) (Ne.symm nD) (.string y10)
     have r3:=blk_far GZ7 (p:=⟨w4.heap.size,12,none⟩) (by show w.heap.size ≠ w4.heap.size; omega) (.string y10)
     have r4:=below_set (g:=w4.heap.size) (j:=12) (v := .string y10) GB7 (by omega)
     have R1:=Lib.hid r1
     have R2:=Lib.hid r2
     have R3:=Lib.hid r3
     have R4:=Lib.hid r4
     clear r1 r2 r3 r4 GH7 GD7 GZ7 GB7 k0 g0 g1 g2 g3 g4 hc hf hb7 hHeld gS gD nS nD
     go_wp2
     go_roundw
     case rel=>exact ⟨8,by omega,by first | rfl | go_num,R1.out,R2.out,R3.out,R4.out⟩
     case measure=>simp [Go.RowKit.intOf]
    ·have GH:Go.RowKit.Hid (wr.heap[w4.heap.size]?=some (.cells #[.int .u8 d0, .int .u8 d1, .int .u8 d2, .int .u8 d3, .int .u8 d4, .string y3, .string y4, .string y5, .string y6, .string y7, .string y8, .string y9, .string y10, .string (⟨#[]⟩ : ByteArray), .string (⟨#[]⟩ : ByteArray)] 27 (0,0))):=Lib.hid hh
     clear hh
     have ix:=texts_at8
     go_wp2_with fail
     have k0 : (wr.alloc (.cells #[.func (.func 50) #[] #[]] 64)).cell? ⟨wr.heap.size,0,none⟩=some (.func (.func 50) #[] #[]):=blk_cell (heap_new wr _) 0
     have g0:=cell_alloc_old (.cells #[.func (.func 50) #[] #[]] 64) e0
     have g1:=cell_alloc_old (.cells #[.func (.func 50) #[] #[]] 64) e1
     have g2:=cell_alloc_old (.cells #[.func (.func 50) #[] #[]] 64) e2
     have g3:=cell_alloc_old (.cells #[.func (.func 50) #[] #[]] 64) e3
     have g4:=cell_alloc_old (.cells #[.func (.func 50) #[] #[]] 64) e4
     clear e0 e1 e2 e3 e4 ix
     refine start_ (n:=13) (S:=fun w'=>w'.cell? ⟨wr.heap.size,0,none⟩=some (.func (.func 50) #[] #[])∧w'.cell? ⟨w1.heap.size,0,none⟩=some (.int .u8 d0)∧w'.cell? ⟨w1.heap.size,1,none⟩=some (.int .u8 d1)∧w'.cell? ⟨w1.heap.size,2,none⟩=some (.int .u8 d2)∧w'.cell? ⟨w1.heap.size,3,none⟩=some (.int .u8 d3)∧w'.cell? ⟨w1.heap.size,4,none⟩=some (.int .u8 d4)) (ds:=[]) #[false,false,false,false,false,false,false,false,false,false,false,false,false] (by kernel_rfl) rfl rfl ⟨k0,g0,g1,g2,g3,g4⟩ (fun hHeld=>?_)
     refine pure_ (i:=0) (N:=some 44) (v:=?_) (a':=?_) #[true,false,false,false,false,false,false,false,false,false,false,false,false] rfl rfl (by kernel_rfl) (fun _ _ _ h=>h) (Or.inl ⟨by rfl,?_⟩) ?_ ?_
     rotate_left
     ·intro w'
      go_simp
      with_reducible rfl
     rotate_left
     ·simp only [Act.put,sA_,s0_,s1_]
      rfl
     refine take_ (i:=1) (N:=some 45) (v:=?_) (a':=?_) #[true,true,false,false,false,false,false,false,false,false,false,false,false] rfl rfl (by kernel_rfl) (fun _ _ _ h=>h) (Or.inl ⟨by rfl,?_⟩) hHeld ?_ ?_
     rotate_left
     ·rintro w' ⟨s0,s1,s2,s3,s4,s5⟩
      go_simp
      with_reducible rfl
     rotate_left
     ·simp only [Act.put,sA_,s0_,s1_]
      rfl
     refine pure_ (i:=3) (N:=some 47) (v:=?_) (a':=?_) #[true,true,false,true,false,false,false,false,false,false,false,false,false] rfl rfl (by kernel_rfl) (fun _ _ _ h=>h) (Or.inl ⟨by rfl,?_⟩) ?_ ?_
     rotate_left
     ·intro w'
      go_simp
      with_reducible rfl
     rotate_left
     ·simp only [Act.put,sA_,s0_,s1_]
      rfl
     refine pure_ (i:=4) (N:=some 48) (v:=?_) (a':=?_) #[true,true,false,true,true,false,false,false,false,false,false,false,false] rfl rfl (by kernel_rfl) (fun _ _ _ h=>h) (Or.inl ⟨by rfl,?_⟩) ?_ ?_
     rotate_left
     ·intro w'
      go_simp
      with_reducible rfl
     rotate_left
     ·simp only [Act.put,sA_,s0_,s1_]
      rfl
     refine pure_ (i:=5) (N:=some 49) (v:=?_) (a':=?_) #[true,true,false,true,true,true,false,false,false,false,false,false,false] rfl rfl (by kernel_rfl) (fun _ _ _ h=>h) (Or.inl ⟨by rfl,?_⟩) ?_ ?_
     rotate_left
     ·intro w'
      go_simp
      with_reducible rfl
     rotate_left
     ·simp only [Act.put,sA_,s0_,s1_]
      rfl
     refine take_ (i:=6) (N:=some 50) (v:=?_) (a':=?_) #[true,true,false,true,true,true,true,false,false,false,false,false,false] rfl rfl (by kernel_rfl) (fun _ _ _ h=>h) (Or.inl ⟨by rfl,?_⟩) hHeld ?_ ?_
     rotate_left
     ·rintro w' ⟨s0,s1,s2,s3,s4,s5⟩
      go_simp
      with_reducible rfl
     rotate_left
     ·simp only [Act.put,sA_,s0_,s1_]
      rfl
     refine one_ (i:=2) (N:=some 46) #[true,true,true,true,true,true,true,false,false,false,false,false,false] rfl rfl (by kernel_rfl) (by decide) (fun K hK=>?_)
     have ee:=enters_of Tryd.func50 (by kernel_rfl) rfl
     refine call_ 50 #[.pointer (some ⟨w4.heap.size,0,none⟩)] (by rfl) rfl (by go_simp) ?_
     clear ee
     with_reducible refine (text_9 _ _).mono ?_
     rintro e w' ⟨rfl,rfl⟩
     refine ⟨_,rfl,?_⟩
     refine hK.out _ _ hHeld (fun hHeld=>?_)
     clear hK K
     refine norm_ (a':=?_) ?_ ?_
     rotate_left
     ·show Act.put _ (some 46) _=_
      simp only [Act.put,sA_,s0_,s1_]
      rfl
     refine one_ (i:=7) (N:=some 51) #[true,true,true,true,true,true,true,true,false,false,false,false,false] rfl rfl (by kernel_rfl) (by decide) (fun K hK=>?_)
     refine goes_ Tryd.func23 (by kernel_rfl) rfl #[.string x, .int .i64 11, .agg #[.int .u8 d0, .int .u8 d1, .int .u8 d2, .int .u8 d3, .int .u8 d4]] (by rfl) rfl rfl (by (try simp only [List.map_toArray,List.map_cons,List.map_nil]); first | done | rfl) ?_
     with_reducible refine (segment_Field.calls x 11 d0 d1 d2 d3 d4 y11 b11 _ F11.out).mono ?_
     rintro e w7 ⟨rfl,hb7⟩
     obtain ⟨hc,hf⟩:=below_reads hb7
     have gS:wr.heap.size < ((wr.alloc (.cells #[.func (.func 50) #[] #[]] 64)).drew).heap.size:=by simp
     have gD:w1.heap.size < ((wr.alloc (.cells #[.func (.func 50) #[] #[]] 64)).drew).heap.size:=by simp; omega
     refine ⟨_,rfl,?_⟩
     refine hK.out _ _ ⟨(hc _ _ gS).trans k0,(hc _ _ gD).trans g0,(hc _ _ gD).trans g1,(hc _ _ gD).trans g2,(hc _ _ gD).trans g3,(hc _ _ gD).trans g4⟩ (fun hHeld=>?_)
     clear hK K
     refine norm_ (a':=?_) ?_ ?_
     rotate_left
     ·show Act.put _ (some 51) _=_
      simp only [Act.put,sA_,s0_,s1_]
      rfl
     have GH7:=blk_below (blk_drew (heap_old (.cells #[.func (.func 50) #[] #[]] 64) GH.out)) hb7
     have GD7:=blk_below (blk_drew (heap_old (.cells #[.func (.func 50) #[] #[]] 64) GD.out)) hb7
     have GZ7:=blk_below (blk_drew (heap_old (.cells #[.func (.func 50) #[] #[]] 64) GZ.out)) hb7
     have GB7:=below_step (below_drew1 (GB.out.alloc GB.out.size (.cells #[.func (.func 50) #[] #[]] 64))) hb7
     refine pure_ (i:=8) (N:=some 43) (v:=?_) (a':=?_) #[true,true,true,true,true,true,true,true,true,false,false,false,false] rfl rfl (by kernel_rfl) (fun _ _ _ h=>h) (Or.inl ⟨by rfl,?_⟩) ?_ ?_
     rotate_left
     ·intro w'
      go_simp
      with_reducible rfl
     rotate_left
     ·simp only [Act.put,sA_,s0_,s1_]
      rfl
     refine pure_ (i:=9) (N:=some 52) (v:=?_) (a':=?_) #[true,true,true,true,true,true,true,true,true,true,false,false,false] rfl rfl (by kernel_rfl) (fun _ _ _ h=>h) (Or.inl ⟨by rfl,?_⟩) ?_ ?_
     rotate_left
     ·intro w'
      go_simp
      with_reducible rfl
     rotate_left
     ·simp only [Act.put,sA_,s0_,s1_]
      rfl
     refine pure_ (i:=10) (N:=some 53) (v:=?_) (a':=?_) #[true,true,true,true,true,true,true,true,true,true,true,false,false] rfl rfl (by kernel_rfl) (fun _ _ _ h=>h) (Or.inl ⟨by rfl,?_⟩) ?_ ?_
     rotate_left
     ·intro w'
      go_simp
      with_reducible rfl
     rotate_left
     ·simp only [Act.put,sA_,s0_,s1_]
      rfl
     refine pure_ (i:=11) (N:=some 54) (v:=?_) (a':=?_) #[true,true,true,true,true,true,true,true,true,true,true,true,false] rfl rfl (by kernel_rfl) (fun _ _ _ h=>h) (Or.inl ⟨by rfl,?_⟩) ?_ ?_
     rotate_left
     ·intro w'
      go_simp
      with_reducible rfl
     rotate_left
     ·simp only [Act.put,sA_,s0_,s1_]
      rfl
     refine one_ (i:=12) (N:=none) #[true,true,true,true,true,true,true,true,true,true,true,true,true] rfl rfl (by kernel_rfl) (by decide) (fun K hK=>?_)
     have c7:=blk_cell GH.out 13
     have f7:=blk_frozen GH.out 13
     simp only [List.getElem?_toArray,List.getElem?_cons_zero,List.getElem?_cons_succ] at c7
     go_simp
     clear c7 f7
     have nS:w4.heap.size ≠ wr.heap.size:=by omega
     have nD:w4.heap.size ≠ w1.heap.size:=by omega
     refine hK.out _ _ ⟨cell_far (p:=⟨w4.heap.size,13,none⟩) (a:=⟨wr.heap.size,0,none⟩) nS _ ((hc _ _ gS).trans k0),cell_far (p:=⟨w4.heap.size,13,none⟩) (a:=⟨w1.heap.size,0,none⟩) nD _ ((hc _ _ gD).trans g0),cell_far (p:=⟨w4.heap.size,13,none⟩) (a:=⟨w1.heap.size,1,none⟩) nD _ ((hc _ _ gD).trans g1),cell_far (p:=⟨w4.heap.size,13,none⟩) (a:=⟨w1.heap.size,2,none⟩) nD _ ((hc _ _ gD).trans g2),cell_far (p:=⟨w4.heap.size,13,none⟩) (a:=⟨w1.heap.size,3,none⟩) nD _ ((hc _ _ gD).trans g3),cell_far (p:=⟨w4.heap.size,13,none⟩) (a:=⟨w1.heap.size,4,none⟩) nD _ ((hc _ _ gD).trans g4)⟩ (fun hHeld=>?_)
     clear hK K
     refine done_ (by kernel_rfl) ?_
     have r1:=blk_put (cs':=#[.int .u8 d0, .int .u8 d1, .int .u8 d2, .int .u8 d3, .int .u8 d4, .string y3, .string y4, .string y5, .string y6, .string y7, .string y8, .string y9, .string y10, .string y11, .string (⟨#[]⟩ : ByteArray)]) GH7 13 (.string y11) rfl
     have r2:=blk_far GD7 (p:=⟨w4.heap.size,13,none⟩) (Ne.symm nD) (.string y11)
     have r3:=blk_far GZ7 (p:=⟨w4.heap.size,13,none⟩) (by show w.heap.size ≠ w4.heap.size; omega) (.string y11)
     have r4:=below_set (g:=w4.heap.size) (j:=13) (v := .string y11) GB7 (by omega)
     have R1:=Lib.hid r1
     have R2:=Lib.hid r2
     have R3:=Lib.hid r3
     have R4:=Lib.hid r4
     clear r1 r2 r3 r4 GH7 GD7 GZ7 GB7 k0 g0 g1 g2 g3 g4 hc hf hb7 hHeld gS gD nS nD
     go_wp2
     go_roundw
     case rel=>exact ⟨9,by omega,by first | rfl | go_num,R1.out,R2.out,R3.out,R4.out⟩
     case measure=>simp [Go.RowKit.intOf]
    ·have GH:Go.RowKit.Hid (wr.heap[w4.heap.size]?=some (.cells #[.int .u8 d0, .int .u8 d1, .int .u8 d2, .int .u8 d3, .int .u8 d4, .string y3, .string y4, .string y5, .string y6, .string y7, .string y8, .string y9, .string y10, .string y11, .string (⟨#[]⟩ : ByteArray)] 27 (0,0))):=Lib.hid hh
     clear hh
     have ix:=texts_at9
     go_wp2_with fail
     have k0 : (wr.alloc (.cells #[.func (.func 51) #[] #[]] 64)).cell? ⟨wr.heap.size,0,none⟩=some (.func (.func 51) #[] #[]):=blk_cell (heap_new wr _) 0
     have g0:=cell_alloc_old (.cells #[.func (.func 51) #[] #[]] 64) e0
     have g1:=cell_alloc_old (.cells #[.func (.func 51) #[] #[]] 64) e1
     have g2:=cell_alloc_old (.cells #[.func (.func 51) #[] #[]] 64) e2
     have g3:=cell_alloc_old (.cells #[.func (.func 51) #[] #[]] 64) e3
     have g4:=cell_alloc_old (.cells #[.func (.func 51) #[] #[]] 64) e4
     clear e0 e1 e2 e3 e4 ix
     refine start_ (n:=13) (S:=fun w'=>w'.cell? ⟨wr.heap.size,0,none⟩=some (.func (.func 51) #[] #[])∧w'.cell? ⟨w1.heap.size,0,none⟩=some (.int .u8 d0)∧w'.cell? ⟨w1.heap.size,1,none⟩=some (.int .u8 d1)∧w'.cell? ⟨w1.heap.size,2,none⟩=some (.int .u8 d2)∧w'.cell? ⟨w1.heap.size,3,none⟩=some (.int .u8 d3)∧w'.cell? ⟨w1.heap.size,4,none⟩=some (.int .u8 d4)) (ds:=[]) #[false,false,false,false,false,false,false,false,false,false,false,false,false] (by kernel_rfl) rfl rfl ⟨k0,g0,g1,g2,g3,g4⟩ (fun hHeld=>?_)
     refine pure_ (i:=0) (N:=some 44) (v:=?_) (a':=?_) #[true,false,false,false,false,false,false,false,false,false,false,false,false] rfl rfl (by kernel_rfl) (fun _ _ _ h=>h) (Or.inl ⟨by rfl,?_⟩) ?_ ?_
     rotate_left
     ·intro w'
      go_simp
      with_reducible rfl
     rotate_left
     ·simp only [Act.put,sA_,s0_,s1_]
      rfl
     refine take_ (i:=1) (N:=some 45) (v:=?_) (a':=?_) #[true,true,false,false,false,false,false,false,false,false,false,false,false] rfl rfl (by kernel_rfl) (fun _ _ _ h=>h) (Or.inl ⟨by rfl,?_⟩) hHeld ?_ ?_
     rotate_left
     ·rintro w' ⟨s0,s1,s2,s3,s4,s5⟩
      go_simp
      with_reducible rfl
     rotate_left
     ·simp only [Act.put,sA_,s0_,s1_]
      rfl
     refine pure_ (i:=3) (N:=some 47) (v:=?_) (a':=?_) #[true,true,false,true,false,false,false,false,false,false,false,false,false] rfl rfl (by kernel_rfl) (fun _ _ _ h=>h) (Or.inl ⟨by rfl,?_⟩) ?_ ?_
     rotate_left
     ·intro w'
      go_simp
      with_reducible rfl
     rotate_left
     ·simp only [Act.put,sA_,s0_,s1_]
      rfl
     refine pure_ (i:=4) (N:=some 48) (v:=?_) (a':=?_) #[true,true,false,true,true,false,false,false,false,false,false,false,false] rfl rfl (by kernel_rfl) (fun _ _ _ h=>h) (Or.inl ⟨by rfl,?_⟩) ?_ ?_
     rotate_left
     ·intro w'
      go_simp
      with_reducible rfl
     rotate_left
     ·simp only [Act.put,sA_,s0_,s1_]
      rfl
     refine pure_ (i:=5) (N:=some 49) (v:=?_) (a':=?_) #[true,true,false,true,true,true,false,false,false,false,false,false,false] rfl rfl (by kernel_rfl) (fun _ _ _ h=>h) (Or.inl ⟨by rfl,?_⟩) ?_ ?_
     rotate_left
     ·intro w'
      go_simp
      with_reducible rfl
     rotate_left
     ·simp only [Act.put,sA_,s0_,s1_]
      rfl
     refine take_ (i:=6) (N:=some 50) (v:=?_) (a':=?_) #[true,true,false,true,true,true,true,false,false,false,false,false,false] rfl rfl (by kernel_rfl) (fun _ _ _ h=>h) (Or.inl ⟨by rfl,?_⟩) hHeld ?_ ?_
     rotate_left
     ·rintro w' ⟨s0,s1,s2,s3,s4,s5⟩
      go_simp
      with_reducible rfl
     rotate_left
     ·simp only [Act.put,sA_,s0_,s1_]
      rfl
     refine one_ (i:=2) (N:=some 46) #[true,true,true,true,true,true,true,false,false,false,false,false,false] rfl rfl (by kernel_rfl) (by decide) (fun K hK=>?_)
     have ee:=enters_of Tryd.func51 (by kernel_rfl) rfl
     refine call_ 51 #[.pointer (some ⟨w4.heap.size,0,none⟩)] (by rfl) rfl (by go_simp) ?_
     clear ee
     with_reducible refine (text_10 _ _).mono ?_
     rintro e w' ⟨rfl,rfl⟩
     refine ⟨_,rfl,?_⟩
     refine hK.out _ _ hHeld (fun hHeld=>?_)
     clear hK K
     refine norm_ (a':=?_) ?_ ?_
     rotate_left
     ·show Act.put _ (some 46) _=_
      simp only [Act.put,sA_,s0_,s1_]
      rfl
     refine one_ (i:=7) (N:=some 51) #[true,true,true,true,true,true,true,true,false,false,false,false,false] rfl rfl (by kernel_rfl) (by decide) (fun K hK=>?_)
     refine goes_ Tryd.func23 (by kernel_rfl) rfl #[.string x, .int .i64 12, .agg #[.int .u8 d0, .int .u8 d1, .int .u8 d2, .int .u8 d3, .int .u8 d4]] (by rfl) rfl rfl (by (try simp only [List.map_toArray,List.map_cons,List.map_nil]); first | done | rfl) ?_
     with_reducible refine (segment_Field.calls x 12 d0 d1 d2 d3 d4 y12 b12 _ F12.out).mono ?_
     rintro e w7 ⟨rfl,hb7⟩
     obtain ⟨hc,hf⟩:=below_reads hb7
     have gS:wr.heap.size < ((wr.alloc (.cells #[.func (.func 51) #[] #[]] 64)).drew).heap.size:=by simp
     have gD:w1.heap.size < ((wr.alloc (.cells #[.func (.func 51) #[] #[]] 64)).drew).heap.size:=by simp; omega
     refine ⟨_,rfl,?_⟩
     refine hK.out _ _ ⟨(hc _ _ gS).trans k0,(hc _ _ gD).trans g0,(hc _ _ gD).trans g1,(hc _ _ gD).trans g2,(hc _ _ gD).trans g3,(hc _ _ gD).trans g4⟩ (fun hHeld=>?_)
     clear hK K
     refine norm_ (a':=?_) ?_ ?_
     rotate_left
     ·show Act.put _ (some 51) _=_
      simp only [Act.put,sA_,s0_,s1_]
      rfl
     have GH7:=blk_below (blk_drew (heap_old (.cells #[.func (.func 51) #[] #[]] 64) GH.out)) hb7
     have GD7:=blk_below (blk_drew (heap_old (.cells #[.func (.func 51) #[] #[]] 64) GD.out)) hb7
     have GZ7:=blk_below (blk_drew (heap_old (.cells #[.func (.func 51) #[] #[]] 64) GZ.out)) hb7
     have GB7:=below_step (below_drew1 (GB.out.alloc GB.out.size (.cells #[.func (.func 51) #[] #[]] 64))) hb7
     refine pure_ (i:=8) (N:=some 43) (v:=?_) (a':=?_) #[true,true,true,true,true,true,true,true,true,false,false,false,false] rfl rfl (by kernel_rfl) (fun _ _ _ h=>h) (Or.inl ⟨by rfl,?_⟩) ?_ ?_
     rotate_left
     ·intro w'
      go_simp
      with_reducible rfl
     rotate_left
     ·simp only [Act.put,sA_,s0_,s1_]
      rfl
     refine pure_ (i:=9) (N:=some 52) (v:=?_) (a':=?_) #[true,true,true,true,true,true,true,true,true,true,false,false,false] rfl rfl (by kernel_rfl) (fun _ _ _ h=>h) (Or.inl ⟨by rfl,?_⟩) ?_ ?_
     rotate_left
     ·intro w'
      go_simp
      with_reducible rfl
     rotate_left
     ·simp only [Act.put,sA_,s0_,s1_]
      rfl
     refine pure_ (i:=10) (N:=some 53) (v:=?_) (a':=?_) #[true,true,true,true,true,true,true,true,true,true,true,false,false] rfl rfl (by kernel_rfl) (fun _ _ _ h=>h) (Or.inl ⟨by rfl,?_⟩) ?_ ?_
     rotate_left
     ·intro w'
      go_simp
      with_reducible rfl
     rotate_left
     ·simp only [Act.put,sA_,s0_,s1_]
      rfl
     refine pure_ (i:=11) (N:=some 54) (v:=?_) (a':=?_) #[true,true,true,true,true,true,true,true,true,true,true,true,false] rfl rfl (by kernel_rfl) (fun _ _ _ h=>h) (Or.inl ⟨by rfl,?_⟩) ?_ ?_
     rotate_left
     ·intro w'
      go_simp
      with_reducible rfl
     rotate_left
     ·simp only [Act.put,sA_,s0_,s1_]
      rfl
     refine one_ (i:=12) (N:=none) #[true,true,true,true,true,true,true,true,true,true,true,true,true] rfl rfl (by kernel_rfl) (by decide) (fun K hK=>?_)
     have c7:=blk_cell GH.out 14
     have f7:=blk_frozen GH.out 14
     simp only [List.getElem?_toArray,List.getElem?_cons_zero,List.getElem?_cons_succ] at c7
     go_simp
     clear c7 f7
     have nS:w4.heap.size ≠ wr.heap.size:=by omega
     have nD:w4.heap.size ≠ w1.heap.size:=by omega
     refine hK.out _ _ ⟨cell_far (p:=⟨w4.heap.size,14,none⟩) (a:=⟨wr.heap.size,0,none⟩) nS _ ((hc _ _ gS).trans k0),cell_far (p:=⟨w4.heap.size,14,none⟩) (a:=⟨w1.heap.size,0,none⟩) nD _ ((hc _ _ gD).trans g0),cell_far (p:=⟨w4.heap.size,14,none⟩) (a:=⟨w1.heap.size,1,none⟩) nD _ ((hc _ _ gD).trans g1),cell_far (p:=⟨w4.heap.size,14,none⟩) (a:=⟨w1.heap.size,2,none⟩) nD _ ((hc _ _ gD).trans g2),cell_far (p:=⟨w4.heap.size,14,none⟩) (a:=⟨w1.heap.size,3,none⟩) nD _ ((hc _ _ gD).trans g3),cell_far (p:=⟨w4.heap.size,14,none⟩) (a:=⟨w1.heap.size,4,none⟩) nD _ ((hc _ _ gD).trans g4)⟩ (fun hHeld=>?_)
     clear hK K
     refine done_ (by kernel_rfl) ?_
     have r1:=blk_put (cs':=#[.int .u8 d0, .int .u8 d1, .int .u8 d2, .int .u8 d3, .int .u8 d4, .string y3, .string y4, .string y5, .string y6, .string y7, .string y8, .string y9, .string y10, .string y11, .string y12]) GH7 14 (.string y12) rfl
     have r2:=blk_far GD7 (p:=⟨w4.heap.size,14,none⟩) (Ne.symm nD) (.string y12)
     have r3:=blk_far GZ7 (p:=⟨w4.heap.size,14,none⟩) (by show w.heap.size ≠ w4.heap.size; omega) (.string y12)
     have r4:=below_set (g:=w4.heap.size) (j:=14) (v := .string y12) GB7 (by omega)
     have R1:=Lib.hid r1
     have R2:=Lib.hid r2
     have R3:=Lib.hid r3
     have R4:=Lib.hid r4
     clear r1 r2 r3 r4 GH7 GD7 GZ7 GB7 k0 g0 g1 g2 g3 g4 hc hf hb7 hHeld gS gD nS nD
     go_wp2
     go_roundw
     case rel=>exact ⟨10,by omega,by first | rfl | go_num,R1.out,R2.out,R3.out,R4.out⟩
     case measure=>simp [Go.RowKit.intOf]
    ·have GH:Go.RowKit.Hid (wr.heap[w4.heap.size]?=some (.cells #[.int .u8 d0, .int .u8 d1, .int .u8 d2, .int .u8 d3, .int .u8 d4, .string y3, .string y4, .string y5, .string y6, .string y7, .string y8, .string y9, .string y10, .string y11, .string y12] 27 (0,0))):=Lib.hid hh
     clear hh
     have c0:=blk_cell GH.out 0
     have c1:=blk_cell GH.out 1
     have c2:=blk_cell GH.out 2
     have c3:=blk_cell GH.out 3
     have c4:=blk_cell GH.out 4
     have c5:=blk_cell GH.out 5
     have c6:=blk_cell GH.out 6
     have c7:=blk_cell GH.out 7
     have c8:=blk_cell GH.out 8
     have c9:=blk_cell GH.out 9
     have c10:=blk_cell GH.out 10
     have c11:=blk_cell GH.out 11
     have c12:=blk_cell GH.out 12
     have c13:=blk_cell GH.out 13
     have c14:=blk_cell GH.out 14
     simp only [List.getElem?_toArray,List.getElem?_cons_zero,List.getElem?_cons_succ] at c0 c1 c2 c3 c4 c5 c6 c7 c8 c9 c10 c11 c12 c13 c14
     go_wp2_with (first
      | (refine gate_store (t:=27) rfl ?_; refine store_whole rfl rfl 27 _ _ rfl (g:=w.heap.size) (e:=27) (cs':=headCells d0 d1 d2 d3 d4 y3 y4 y5 y6 y7 y8 y9 y10 y11 y12) rfl rfl rfl GZ.out (by kernel_rfl) rfl head_one ?_; intro W' q1 q2 q3 q4))
     exact bodyPost_ret (head_loads _ 2 3 rfl q1 rfl rfl) rfl ⟨rfl,q4 _ _ (Nat.le_refl _) GB.out⟩
  ·have hk:=HK.out
   rw [if_neg hyz] at hk
   simp only [Option.some.injEq,Prod.mk.injEq] at hk
   obtain ⟨rfl,rfl,rfl,rfl,rfl,rfl,rfl,rfl,rfl,rfl,rfl,rfl,rfl,rfl,rfl,rfl⟩:=hk
   clear HK
   have hyb : (y.toList == z.toList)=false:=by simpa using hyz
   go_wp2_with (first
    | (refine gate_store (t:=27) rfl ?_; refine store_whole rfl rfl 27 _ _ rfl (g:=w.heap.size) (e:=27) (cs':=headCells 0 0 0 0 0 ⟨#[]⟩ ⟨#[]⟩ ⟨#[]⟩ ⟨#[]⟩ ⟨#[]⟩ ⟨#[]⟩ ⟨#[]⟩ ⟨#[]⟩ ⟨#[]⟩ ⟨#[]⟩) rfl rfl rfl Z4.out (by kernel_rfl) rfl head_one ?_; intro W' q1 q2 q3 q4))
   exact bodyPost_ret (head_loads _ 2 3 rfl q1 rfl rfl) rfl ⟨rfl,q4 _ _ (Nat.le_refl _) B4.out⟩
 ·rw [if_neg her] at hk
  have hne : (er == 0)=false:=beq_eq_false_iff_ne.2 her
  simp only [Option.some.injEq,Prod.mk.injEq] at hk
  obtain ⟨rfl,rfl,rfl,rfl,rfl,rfl,rfl,rfl,rfl,rfl,rfl,rfl,rfl,rfl,rfl,rfl⟩:=hk
  go_enter Tryd.func11,Tryd.ntmps11
  go_wp2_with (first
   | (go_at_call 25; with_reducible refine (delim_Read.calls k A0 c0 l0 d0 d1 d2 d3 d4 er _ (Kd.C_below HR.out ((Below.refl _ w).alloc (Nat.le_refl _) _)) HC.out HD.out).mono ?_; rintro e w1 ⟨rfl,hb1⟩; have z0:=Lib.hid (blk_below (heap_new w _) hb1); have hB1:=Lib.hid (below_step ((Below.refl _ w).alloc (Nat.le_refl _) _) hb1); clear hb1)
   | (refine gate_store (t:=27) rfl ?_; refine store_whole rfl rfl 27 _ _ rfl (g:=w.heap.size) (e:=27) (cs':=headCells 0 0 0 0 0 ⟨#[]⟩ ⟨#[]⟩ ⟨#[]⟩ ⟨#[]⟩ ⟨#[]⟩ ⟨#[]⟩ ⟨#[]⟩ ⟨#[]⟩ ⟨#[]⟩ ⟨#[]⟩) rfl rfl rfl (heap_old _ z0.out) (by kernel_rfl) rfl head_one ?_; intro W' q1 q2 q3 q4))
  exact bodyPost_ret (head_loads _ 2 3 rfl q1 rfl rfl) rfl ⟨rfl,q4 _ _ (Nat.le_refl _) (hB1.out.alloc hB1.out.size _)⟩
theorem msh_Read.mono : ∀ a0 k,LeO (msh_Read.f k a0) (msh_Read.f (k + 1) a0):=by
 intro a0 k
 unfold msh_Read.f
 repeat' first
   | (with_reducible exact delim_Read.mono _ _)
   | (with_reducible exact LeO.refl _)
   | (with_reducible refine LeO.ite ?_ ?_)
   | (with_reducible refine LeO.bind ?_ (fun _=>?_))


end Go.Proofs.YtljdbphojcglgaaDoor.PF
