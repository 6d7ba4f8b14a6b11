import Derived.Test.YtcjcaojgminjpaaDoorPDx0
import Derived.Test.YtcjcaojgminjpaaDoorPDx9
import Derived.Test.YtcjcaojgminjpaaDoorPDx14
namespace Go.Proofs.YtcjcaojgminjpaaDoor.PD
open Go.RowKit Go.Proofs.YtcjcaojgminjpaaDoorW.PrintWords Go.Proofs.YtcjcaojgminjpaaDoorW.PrintLast Go.Proofs.YtcjcaojgminjpaaDoorW.PrintMore
set_option maxHeartbeats 8000000
set_option maxRecDepth 100000
attribute [local go_sem] max2_int min2_int max_two min_two max_three min_three max_four min_four
set_option linter.unusedVariables false
set_option linter.unusedSimpArgs false

/-! ### lamplighterref09_Write: function 26 -/
mutual
def lamplighterref09_Write.l0 : Nat→List ByteArray→Int→Int→Int→Int→Int→Int→Option (ByteArray × Int)
 | 0,_,_,_,_,_,_,_=>none
 | k + 1,x5,x6,x287000,x287001,x287002,x287003,x287004=>if x6 < (x5.length : Int) then (lamplighterref09_Write.l1 k x5 x6 0 x287000 x287001 x287002 x287003 x287004) else (lamplighterref09_Write.l2 k x5 x287000 x287001 x287002 x287003 x287004)
def lamplighterref09_Write.l1 : Nat→List ByteArray→Int→Int→Int→Int→Int→Int→Int→Option (ByteArray × Int)
 | 0,_,_,_,_,_,_,_,_=>none
 | k + 1,x5,x6,x7,x287000,x287001,x287002,x287003,x287004=>if 0≤x6 then (if x6 < (x5.length : Int) then (if x7 < ((rdOf ByteArray.empty x5 x6).size : Int) then (if 0≤x7 then (if (bt (rdOf ByteArray.empty x5 x6) x7)=x287000 then (some ((⟨#[]⟩ : ByteArray),10)) else (if (bt (rdOf ByteArray.empty x5 x6) x7)=13 then (some ((⟨#[]⟩ : ByteArray),10)) else (lamplighterref09_Write.l1 k x5 x6 (wrap64 (x7 + 1)) x287000 x287001 x287002 x287003 x287004))) else (none)) else (lamplighterref09_Write.l0 k x5 (wrap64 (x6 + 1)) x287000 x287001 x287002 x287003 x287004)) else (none)) else (none)
def lamplighterref09_Write.l2 : Nat→List ByteArray→Int→Int→Int→Int→Int→Option (ByteArray × Int)
 | 0,_,_,_,_,_,_=>none
 | k + 1,x5,x287000,x287001,x287002,x287003,x287004=>if (x5.length : Int) > 0 then (if 0≤(wrap64 ((x5.length : Int) - 1)) then (if (wrap64 ((x5.length : Int) - 1)) < (x5.length : Int) then (if (rdOf ByteArray.empty x5 (wrap64 ((x5.length : Int) - 1))).toList=([] : List UInt8) then (if (wrap64 ((x5.length : Int) - 1))≤(x5.length : Int) then (lamplighterref09_Write.l2 k (x5.take ((wrap64 ((x5.length : Int) - 1)) : Int).toNat) x287000 x287001 x287002 x287003 x287004) else (none)) else ((some (([strOfNums (([x287000] : List Int)),strOfNums (([x287001,x287002,x287003,x287004] : List Int))] : List ByteArray) : List ByteArray)).bind fun y304=>(if y304.length + x5.length < 8796093022208 then ((lamplighterref08_Make.f k x287000 x287001 x287002 x287003 x287004 (⟨#[77,83,72]⟩ : ByteArray) (y304 ++ x5)).bind fun t310=>(some (t310,0))) else (none)))) else (none)) else (none)) else ((some (([strOfNums (([x287000] : List Int)),strOfNums (([x287001,x287002,x287003,x287004] : List Int))] : List ByteArray) : List ByteArray)).bind fun y317=>(if y317.length + x5.length < 8796093022208 then ((lamplighterref08_Make.f k x287000 x287001 x287002 x287003 x287004 (⟨#[77,83,72]⟩ : ByteArray) (y317 ++ x5)).bind fun t323=>(some (t323,0))) else (none)))
end
def lamplighterref09_Write.f (k : Nat) (a0_0 : Int) (a0_1 : Int) (a0_2 : Int) (a0_3 : Int) (a0_4 : Int) (a0_5 : ByteArray) (a0_6 : ByteArray) (a0_7 : ByteArray) (a0_8 : ByteArray) (a0_9 : ByteArray) (a0_10 : ByteArray) (a0_11 : ByteArray) (a0_12 : ByteArray) (a0_13 : ByteArray) (a0_14 : ByteArray) : Option (ByteArray × Int):=(lamplighterref06_Right.f k a0_0 a0_1 a0_2 a0_3 a0_4).bind fun t287=>(if t287=true then ((lamplighterref09_texts.f a0_0 a0_1 a0_2 a0_3 a0_4 a0_5 a0_6 a0_7 a0_8 a0_9 a0_10 a0_11 a0_12 a0_13 a0_14).bind fun t288=>(lamplighterref09_Write.l0 k t288 0 a0_0 a0_1 a0_2 a0_3 a0_4)) else (some ((⟨#[]⟩ : ByteArray),11)))
theorem lamplighterref09_Write.mono_l : ∀ k,(∀ y0 y1 y2 y3 y4 y5 y6,LeO (lamplighterref09_Write.l0 k y0 y1 y2 y3 y4 y5 y6) (lamplighterref09_Write.l0 (k + 1) y0 y1 y2 y3 y4 y5 y6))∧(∀ y0 y1 y2 y3 y4 y5 y6 y7,LeO (lamplighterref09_Write.l1 k y0 y1 y2 y3 y4 y5 y6 y7) (lamplighterref09_Write.l1 (k + 1) y0 y1 y2 y3 y4 y5 y6 y7))∧(∀ y0 y1 y2 y3 y4 y5,LeO (lamplighterref09_Write.l2 k y0 y1 y2 y3 y4 y5) (lamplighterref09_Write.l2 (k + 1) y0 y1 y2 y3 y4 y5))
 | 0=>⟨fun _ _ _ _ _ _ _ r h=>by simp [lamplighterref09_Write.l0] at h,fun _ _ _ _ _ _ _ _ r h=>by simp [lamplighterref09_Write.l1] at h,fun _ _ _ _ _ _ r h=>by simp [lamplighterref09_Write.l2] at h⟩
 | k + 1=>by
  obtain ⟨ih0,ih1,ih2⟩:=lamplighterref09_Write.mono_l k
  refine ⟨?_,?_,?_⟩
  ·intro y0 y1 y2 y3 y4 y5 y6
   unfold lamplighterref09_Write.l0
   repeat' first
   | (with_reducible exact ih0 _ _ _ _ _ _ _)
   | (with_reducible exact ih1 _ _ _ _ _ _ _ _)
   | (with_reducible exact ih2 _ _ _ _ _ _)
   | (with_reducible exact lamplighterref06_Right.mono _ _ _ _ _ _)
   | (with_reducible exact lamplighterref08_Make.mono _ _ _ _ _ _ _ _)
   | (with_reducible exact LeO.refl _)
   | (with_reducible exact LeO.none _)
   | (with_reducible refine LeO.ite ?_ ?_)
   | (with_reducible refine LeO.bind ?_ (fun _=>?_))
   | exact ih0 _ _ _ _ _ _ _
   | exact ih1 _ _ _ _ _ _ _ _
   | exact ih2 _ _ _ _ _ _
   | exact lamplighterref06_Right.mono _ _ _ _ _ _
   | exact lamplighterref08_Make.mono _ _ _ _ _ _ _ _
   | exact LeO.none _
   | refine LeO.ite ?_ ?_
   | refine LeO.bind ?_ (fun _=>?_)
  ·intro y0 y1 y2 y3 y4 y5 y6 y7
   unfold lamplighterref09_Write.l1
   repeat' first
   | (with_reducible exact ih0 _ _ _ _ _ _ _)
   | (with_reducible exact ih1 _ _ _ _ _ _ _ _)
   | (with_reducible exact ih2 _ _ _ _ _ _)
   | (with_reducible exact lamplighterref06_Right.mono _ _ _ _ _ _)
   | (with_reducible exact lamplighterref08_Make.mono _ _ _ _ _ _ _ _)
   | (with_reducible exact LeO.refl _)
   | (with_reducible exact LeO.none _)
   | (with_reducible refine LeO.ite ?_ ?_)
   | (with_reducible refine LeO.bind ?_ (fun _=>?_))
   | exact ih0 _ _ _ _ _ _ _
   | exact ih1 _ _ _ _ _ _ _ _
   | exact ih2 _ _ _ _ _ _
   | exact lamplighterref06_Right.mono _ _ _ _ _ _
   | exact lamplighterref08_Make.mono _ _ _ _ _ _ _ _
   | exact LeO.none _
   | refine LeO.ite ?_ ?_
   | refine LeO.bind ?_ (fun _=>?_)
  ·intro y0 y1 y2 y3 y4 y5
   unfold lamplighterref09_Write.l2
   repeat' first
   | (with_reducible exact ih0 _ _ _ _ _ _ _)
   | (with_reducible exact ih1 _ _ _ _ _ _ _ _)
   | (with_reducible exact ih2 _ _ _ _ _ _)
   | (with_reducible exact lamplighterref06_Right.mono _ _ _ _ _ _)
   | (with_reducible exact lamplighterref08_Make.mono _ _ _ _ _ _ _ _)
   | (with_reducible exact LeO.refl _)
   | (with_reducible exact LeO.none _)
   | (with_reducible refine LeO.ite ?_ ?_)
   | (with_reducible refine LeO.bind ?_ (fun _=>?_))
   | exact ih0 _ _ _ _ _ _ _
   | exact ih1 _ _ _ _ _ _ _ _
   | exact ih2 _ _ _ _ _ _
   | exact lamplighterref06_Right.mono _ _ _ _ _ _
   | exact lamplighterref08_Make.mono _ _ _ _ _ _ _ _
   | exact LeO.none _
   | refine LeO.ite ?_ ?_
   | refine LeO.bind ?_ (fun _=>?_)
theorem lamplighterref09_Write.mono : ∀ a0 a1 a2 a3 a4 a5 a6 a7 a8 a9 a10 a11 a12 a13 a14 k,LeO (lamplighterref09_Write.f k a0 a1 a2 a3 a4 a5 a6 a7 a8 a9 a10 a11 a12 a13 a14) (lamplighterref09_Write.f (k + 1) a0 a1 a2 a3 a4 a5 a6 a7 a8 a9 a10 a11 a12 a13 a14):=by
 intro a0 a1 a2 a3 a4 a5 a6 a7 a8 a9 a10 a11 a12 a13 a14 k
 obtain ⟨ih0,ih1,ih2⟩:=lamplighterref09_Write.mono_l k
 unfold lamplighterref09_Write.f
 repeat' first
   | (with_reducible exact ih0 _ _ _ _ _ _ _)
   | (with_reducible exact ih1 _ _ _ _ _ _ _ _)
   | (with_reducible exact ih2 _ _ _ _ _ _)
   | (with_reducible exact lamplighterref06_Right.mono _ _ _ _ _ _)
   | (with_reducible exact lamplighterref08_Make.mono _ _ _ _ _ _ _ _)
   | (with_reducible exact LeO.refl _)
   | (with_reducible exact LeO.none _)
   | (with_reducible refine LeO.ite ?_ ?_)
   | (with_reducible refine LeO.bind ?_ (fun _=>?_))
   | exact ih0 _ _ _ _ _ _ _
   | exact ih1 _ _ _ _ _ _ _ _
   | exact ih2 _ _ _ _ _ _
   | exact lamplighterref06_Right.mono _ _ _ _ _ _
   | exact lamplighterref08_Make.mono _ _ _ _ _ _ _ _
   | exact LeO.none _
   | refine LeO.ite ?_ ?_
   | refine LeO.bind ?_ (fun _=>?_)
theorem lamplighterref09_Write.calls (k : Nat) (a0_0 : Int) (a0_1 : Int) (a0_2 : Int) (a0_3 : Int) (a0_4 : Int) (a0_5 : ByteArray) (a0_6 : ByteArray) (a0_7 : ByteArray) (a0_8 : ByteArray) (a0_9 : ByteArray) (a0_10 : ByteArray) (a0_11 : ByteArray) (a0_12 : ByteArray) (a0_13 : ByteArray) (a0_14 : ByteArray) (r1 : ByteArray) (r2 : Int) (w : World) (h : lamplighterref09_Write.f k a0_0 a0_1 a0_2 a0_3 a0_4 a0_5 a0_6 a0_7 a0_8 a0_9 a0_10 a0_11 a0_12 a0_13 a0_14=some (r1,r2)) :
  Calls Tryd.prog 26 #[.agg #[.int .u8 a0_0, .int .u8 a0_1, .int .u8 a0_2, .int .u8 a0_3, .int .u8 a0_4, .string a0_5, .string a0_6, .string a0_7, .string a0_8, .string a0_9, .string a0_10, .string a0_11, .string a0_12, .string a0_13, .string a0_14]] w fun e w'=>e = .returned (.tuple #[.string r1, .int .i64 r2])∧Below w.heap.size w w':=by
 have hu25:=Tryd.underlying25
 have hu23:=Tryd.underlying23
 have HB:=Aside0.mk (Below.refl w.heap.size w)
 have H : ((lamplighterref06_Right.f k a0_0 a0_1 a0_2 a0_3 a0_4).bind fun t287=>(if t287=true then ((lamplighterref09_texts.f a0_0 a0_1 a0_2 a0_3 a0_4 a0_5 a0_6 a0_7 a0_8 a0_9 a0_10 a0_11 a0_12 a0_13 a0_14).bind fun t288=>(lamplighterref09_Write.l0 k t288 0 a0_0 a0_1 a0_2 a0_3 a0_4)) else (some ((⟨#[]⟩ : ByteArray),11))))=some (r1,r2):=h
 clear h
 replace H:=Option.bind_eq_some_iff.mp H
 obtain ⟨t287,A20,H⟩:=H
 replace H : (if t287=true then ((lamplighterref09_texts.f a0_0 a0_1 a0_2 a0_3 a0_4 a0_5 a0_6 a0_7 a0_8 a0_9 a0_10 a0_11 a0_12 a0_13 a0_14).bind fun t288=>(lamplighterref09_Write.l0 k t288 0 a0_0 a0_1 a0_2 a0_3 a0_4)) else (some ((⟨#[]⟩ : ByteArray),11)))=some (r1,r2):=H
 have A2:=Aside0.mk A20
 clear A20
 by_cases c3 : t287=true
 ·subst c3
  have H1 : ((lamplighterref09_texts.f a0_0 a0_1 a0_2 a0_3 a0_4 a0_5 a0_6 a0_7 a0_8 a0_9 a0_10 a0_11 a0_12 a0_13 a0_14).bind fun t288=>(lamplighterref09_Write.l0 k t288 0 a0_0 a0_1 a0_2 a0_3 a0_4))=some (r1,r2):=by rw [if_pos rfl] at H; exact H
  clear H
  have H:=H1
  clear H1
  replace H:=Option.bind_eq_some_iff.mp H
  obtain ⟨t288,A40,H⟩:=H
  replace H : (lamplighterref09_Write.l0 k t288 0 a0_0 a0_1 a0_2 a0_3 a0_4)=some (r1,r2):=H
  have A4:=Aside0.mk A40
  clear A40
  have H':=Aside0.mk H
  clear H
  go_enter Tryd.func26,Tryd.ntmps26
  go_wp2_with (first | ((with_reducible refine gate_dst (N:=1) rfl ?_); (try (refine gate_guard (by rfl) ?_; dsimp only)); refine box_event ?hg (N:=1) ?hd (cs:=#[.int .u8 a0_0, .int .u8 a0_1, .int .u8 a0_2, .int .u8 a0_3, .int .u8 a0_4, .string a0_5, .string a0_6, .string a0_7, .string a0_8, .string a0_9, .string a0_10, .string a0_11, .string a0_12, .string a0_13, .string a0_14]) (t:=25) ?hr ?_; (case hd=>rfl); (case hg=>rfl); (case hr=>first | (go_simp; done) | (go_simp; rfl)); intro gb285 hg w5 hbox hb; have n0_:=Aside0.mk (below_step (by repeat (first | (with_reducible first | exact HB.out | apply bA | apply bN | apply bD) | exact HB.out)) hb); have n1_:=Aside0.mk (hbox); have n2_:=Aside0.mk ((by rw [hg]; exact (below_size (by repeat (first | (with_reducible first | exact HB.out | apply bA | apply bN | apply bD) | exact HB.out))) : w.heap.size≤gb285)); have n3_:=Aside0.mk ((by rw [hg]; exact (below_size (by repeat (first | (with_reducible first | exact HB.out | apply bA | apply bN | apply bD) | exact HB.out))) : w.heap.size≤gb285)); clear HB; have HB:=n0_; have BK285:=n1_; have GW285:=n2_; have GE285:=n3_; clear n0_ n1_ n2_ n3_; clear hb hbox hg; have hcz6_0:w5.cell? ⟨gb285,0,none⟩=some (.int .u8 a0_0):=blk_cell BK285.out 0; have hcz6_1:w5.cell? ⟨gb285,1,none⟩=some (.int .u8 a0_1):=blk_cell BK285.out 1; have hcz6_2:w5.cell? ⟨gb285,2,none⟩=some (.int .u8 a0_2):=blk_cell BK285.out 2; have hcz6_3:w5.cell? ⟨gb285,3,none⟩=some (.int .u8 a0_3):=blk_cell BK285.out 3; have hcz6_4:w5.cell? ⟨gb285,4,none⟩=some (.int .u8 a0_4):=blk_cell BK285.out 4; have hcz6_5:w5.cell? ⟨gb285,5,none⟩=some (.string a0_5):=blk_cell BK285.out 5; have hcz6_6:w5.cell? ⟨gb285,6,none⟩=some (.string a0_6):=blk_cell BK285.out 6; have hcz6_7:w5.cell? ⟨gb285,7,none⟩=some (.string a0_7):=blk_cell BK285.out 7; have hcz6_8:w5.cell? ⟨gb285,8,none⟩=some (.string a0_8):=blk_cell BK285.out 8; have hcz6_9:w5.cell? ⟨gb285,9,none⟩=some (.string a0_9):=blk_cell BK285.out 9; have hcz6_10:w5.cell? ⟨gb285,10,none⟩=some (.string a0_10):=blk_cell BK285.out 10; have hcz6_11:w5.cell? ⟨gb285,11,none⟩=some (.string a0_11):=blk_cell BK285.out 11; have hcz6_12:w5.cell? ⟨gb285,12,none⟩=some (.string a0_12):=blk_cell BK285.out 12; have hcz6_13:w5.cell? ⟨gb285,13,none⟩=some (.string a0_13):=blk_cell BK285.out 13; have hcz6_14:w5.cell? ⟨gb285,14,none⟩=some (.string a0_14):=blk_cell BK285.out 14; have hfz6_0:=blk_frozen BK285.out 0; have hfz6_1:=blk_frozen BK285.out 1; have hfz6_2:=blk_frozen BK285.out 2; have hfz6_3:=blk_frozen BK285.out 3; have hfz6_4:=blk_frozen BK285.out 4; have hfz6_5:=blk_frozen BK285.out 5; have hfz6_6:=blk_frozen BK285.out 6; have hfz6_7:=blk_frozen BK285.out 7; have hfz6_8:=blk_frozen BK285.out 8; have hfz6_9:=blk_frozen BK285.out 9; have hfz6_10:=blk_frozen BK285.out 10; have hfz6_11:=blk_frozen BK285.out 11; have hfz6_12:=blk_frozen BK285.out 12; have hfz6_13:=blk_frozen BK285.out 13; have hfz6_14:=blk_frozen BK285.out 14) | ((with_reducible refine gate_dst (N:=4) rfl ?_); (try (refine gate_guard (by rfl) ?_; dsimp only)); refine box_event ?hg (N:=4) ?hd (cs:=#[.int .u8 0, .int .u8 0, .int .u8 0, .int .u8 0, .int .u8 0]) (t:=23) ?hr ?_; (case hd=>rfl); (case hg=>rfl); (case hr=>first | (go_simp; done) | (go_simp; rfl)); intro gb286 hg w7 hbox hb; have n0_:=Aside0.mk (blk_below (g:=gb285) (o := .cells #[.int .u8 a0_0, .int .u8 a0_1, .int .u8 a0_2, .int .u8 a0_3, .int .u8 a0_4, .string a0_5, .string a0_6, .string a0_7, .string a0_8, .string a0_9, .string a0_10, .string a0_11, .string a0_12, .string a0_13, .string a0_14] 25 (0,0)) (by (with_reducible repeat (first | refine kN ?_ _ | refine kD ?_ | refine kA ?_ _)); exact BK285.out) hb); have n1_:=Aside0.mk (below_step (by repeat (first | (with_reducible first | exact HB.out | apply bA | apply bN | apply bD | refine below_set ?_ GE285.out) | exact HB.out)) hb); have n2_:=Aside0.mk (hbox); have n3_:=Aside0.mk ((by rw [hg]; exact (below_size (by repeat (first | (with_reducible first | exact HB.out | apply bA | apply bN | apply bD | refine below_set ?_ GE285.out) | exact HB.out))) : w.heap.size≤gb286)); have n4_:=Aside0.mk ((by rw [hg]; exact (below_size (by repeat (first | (with_reducible first | exact HB.out | apply bA | apply bN | apply bD | refine below_set ?_ GE285.out) | exact HB.out))) : w.heap.size≤gb286)); have n5_:=Aside0.mk ((by rw [hg]; exact Nat.ne_of_lt (blk_lt (g:=gb285) (o := .cells #[.int .u8 a0_0, .int .u8 a0_1, .int .u8 a0_2, .int .u8 a0_3, .int .u8 a0_4, .string a0_5, .string a0_6, .string a0_7, .string a0_8, .string a0_9, .string a0_10, .string a0_11, .string a0_12, .string a0_13, .string a0_14] 25 (0,0)) (by (with_reducible repeat (first | refine kN ?_ _ | refine kD ?_ | refine kA ?_ _)); exact BK285.out)) : gb285 ≠ gb286)); have n6_:=Aside0.mk ((by rw [hg]; exact Nat.ne_of_gt (blk_lt (g:=gb285) (o := .cells #[.int .u8 a0_0, .int .u8 a0_1, .int .u8 a0_2, .int .u8 a0_3, .int .u8 a0_4, .string a0_5, .string a0_6, .string a0_7, .string a0_8, .string a0_9, .string a0_10, .string a0_11, .string a0_12, .string a0_13, .string a0_14] 25 (0,0)) (by (with_reducible repeat (first | refine kN ?_ _ | refine kD ?_ | refine kA ?_ _)); exact BK285.out)) : gb286 ≠ gb285)); clear BK285; clear HB; have BK285:=n0_; have HB:=n1_; have BK286:=n2_; have GW286:=n3_; have GE286:=n4_; have NB285_286:=n5_; have NB286_285:=n6_; clear n0_ n1_ n2_ n3_ n4_ n5_ n6_; clear hb hbox hg; have hnb8:=NB286_285.out; have hnc8:=NB285_286.out; have hcz9_0:w7.cell? ⟨gb286,0,none⟩=some (.int .u8 0):=blk_cell BK286.out 0; have hcz9_1:w7.cell? ⟨gb286,1,none⟩=some (.int .u8 0):=blk_cell BK286.out 1; have hcz9_2:w7.cell? ⟨gb286,2,none⟩=some (.int .u8 0):=blk_cell BK286.out 2; have hcz9_3:w7.cell? ⟨gb286,3,none⟩=some (.int .u8 0):=blk_cell BK286.out 3; have hcz9_4:w7.cell? ⟨gb286,4,none⟩=some (.int .u8 0):=blk_cell BK286.out 4; have hfz9_0:=blk_frozen BK286.out 0; have hfz9_1:=blk_frozen BK286.out 1; have hfz9_2:=blk_frozen BK286.out 2; have hfz9_3:=blk_frozen BK286.out 3; have hfz9_4:=blk_frozen BK286.out 4) | (go_at_call 44; (with_reducible refine (lamplighterref06_Right.calls k a0_0 a0_1 a0_2 a0_3 a0_4 true _ A2.out).mono ?_); rintro e w10 ⟨rfl,hb⟩; have n0_:=Aside0.mk (blk_below (g:=gb285) (o := .cells #[.int .u8 a0_0, .int .u8 a0_1, .int .u8 a0_2, .int .u8 a0_3, .int .u8 a0_4, .string a0_5, .string a0_6, .string a0_7, .string a0_8, .string a0_9, .string a0_10, .string a0_11, .string a0_12, .string a0_13, .string a0_14] 25 (0,0)) (by (with_reducible repeat (first | refine kN ?_ _ | refine kD ?_ | refine kA ?_ _)); refine blk_far ?_ NB285_286.out _; (with_reducible repeat (first | refine kN ?_ _ | refine kD ?_ | refine kA ?_ _)); refine blk_far ?_ NB285_286.out _; (with_reducible repeat (first | refine kN ?_ _ | refine kD ?_ | refine kA ?_ _)); refine blk_far ?_ NB285_286.out _; (with_reducible repeat (first | refine kN ?_ _ | refine kD ?_ | refine kA ?_ _)); refine blk_far ?_ NB285_286.out _; (with_reducible repeat (first | refine kN ?_ _ | refine kD ?_ | refine kA ?_ _)); refine blk_far ?_ NB285_286.out _; (with_reducible repeat (first | refine kN ?_ _ | refine kD ?_ | refine kA ?_ _)); exact BK285.out) hb); have n1_:=Aside0.mk (blk_below (g:=gb286) (o := .cells #[.int .u8 a0_0, .int .u8 a0_1, .int .u8 a0_2, .int .u8 a0_3, .int .u8 a0_4] 23 (0,0)) (by (with_reducible repeat (first | refine kN ?_ _ | refine kD ?_ | refine kA ?_ _)); refine blk_put (cs:=#[.int .u8 a0_0, .int .u8 a0_1, .int .u8 a0_2, .int .u8 a0_3, .int .u8 0]) ?_ 4 _ rfl; (with_reducible repeat (first | refine kN ?_ _ | refine kD ?_ | refine kA ?_ _)); refine blk_put (cs:=#[.int .u8 a0_0, .int .u8 a0_1, .int .u8 a0_2, .int .u8 0, .int .u8 0]) ?_ 3 _ rfl; (with_reducible repeat (first | refine kN ?_ _ | refine kD ?_ | refine kA ?_ _)); refine blk_put (cs:=#[.int .u8 a0_0, .int .u8 a0_1, .int .u8 0, .int .u8 0, .int .u8 0]) ?_ 2 _ rfl; (with_reducible repeat (first | refine kN ?_ _ | refine kD ?_ | refine kA ?_ _)); refine blk_put (cs:=#[.int .u8 a0_0, .int .u8 0, .int .u8 0, .int .u8 0, .int .u8 0]) ?_ 1 _ rfl; (with_reducible repeat (first | refine kN ?_ _ | refine kD ?_ | refine kA ?_ _)); refine blk_put (cs:=#[.int .u8 0, .int .u8 0, .int .u8 0, .int .u8 0, .int .u8 0]) ?_ 0 _ rfl; (with_reducible repeat (first | refine kN ?_ _ | refine kD ?_ | refine kA ?_ _)); exact BK286.out) hb); have n2_:=Aside0.mk (below_step (by repeat (first | (with_reducible first | exact HB.out | apply bA | apply bN | apply bD | refine below_set ?_ GE285.out | refine below_set ?_ GE286.out) | exact HB.out)) hb); clear BK285; clear BK286; clear HB; have BK285:=n0_; have BK286:=n1_; have HB:=n2_; clear n0_ n1_ n2_; (try clear hb); have hcz11_0:w10.cell? ⟨gb285,0,none⟩=some (.int .u8 a0_0):=blk_cell BK285.out 0; have hcz11_1:w10.cell? ⟨gb285,1,none⟩=some (.int .u8 a0_1):=blk_cell BK285.out 1; have hcz11_2:w10.cell? ⟨gb285,2,none⟩=some (.int .u8 a0_2):=blk_cell BK285.out 2; have hcz11_3:w10.cell? ⟨gb285,3,none⟩=some (.int .u8 a0_3):=blk_cell BK285.out 3; have hcz11_4:w10.cell? ⟨gb285,4,none⟩=some (.int .u8 a0_4):=blk_cell BK285.out 4; have hcz11_5:w10.cell? ⟨gb285,5,none⟩=some (.string a0_5):=blk_cell BK285.out 5; have hcz11_6:w10.cell? ⟨gb285,6,none⟩=some (.string a0_6):=blk_cell BK285.out 6; have hcz11_7:w10.cell? ⟨gb285,7,none⟩=some (.string a0_7):=blk_cell BK285.out 7; have hcz11_8:w10.cell? ⟨gb285,8,none⟩=some (.string a0_8):=blk_cell BK285.out 8; have hcz11_9:w10.cell? ⟨gb285,9,none⟩=some (.string a0_9):=blk_cell BK285.out 9; have hcz11_10:w10.cell? ⟨gb285,10,none⟩=some (.string a0_10):=blk_cell BK285.out 10; have hcz11_11:w10.cell? ⟨gb285,11,none⟩=some (.string a0_11):=blk_cell BK285.out 11; have hcz11_12:w10.cell? ⟨gb285,12,none⟩=some (.string a0_12):=blk_cell BK285.out 12; have hcz11_13:w10.cell? ⟨gb285,13,none⟩=some (.string a0_13):=blk_cell BK285.out 13; have hcz11_14:w10.cell? ⟨gb285,14,none⟩=some (.string a0_14):=blk_cell BK285.out 14; have hfz11_0:=blk_frozen BK285.out 0; have hfz11_1:=blk_frozen BK285.out 1; have hfz11_2:=blk_frozen BK285.out 2; have hfz11_3:=blk_frozen BK285.out 3; have hfz11_4:=blk_frozen BK285.out 4; have hfz11_5:=blk_frozen BK285.out 5; have hfz11_6:=blk_frozen BK285.out 6; have hfz11_7:=blk_frozen BK285.out 7; have hfz11_8:=blk_frozen BK285.out 8; have hfz11_9:=blk_frozen BK285.out 9; have hfz11_10:=blk_frozen BK285.out 10; have hfz11_11:=blk_frozen BK285.out 11; have hfz11_12:=blk_frozen BK285.out 12; have hfz11_13:=blk_frozen BK285.out 13; have hfz11_14:=blk_frozen BK285.out 14) | (go_at_call 45; (with_reducible refine (lamplighterref09_texts.calls a0_0 a0_1 a0_2 a0_3 a0_4 a0_5 a0_6 a0_7 a0_8 a0_9 a0_10 a0_11 a0_12 a0_13 a0_14 t288 _ A4.out).mono ?_); rintro e w12 ⟨v289,rfl,ho0,hb⟩; have n0_:=Aside0.mk (Kd.R_lower ho0 (below_size (by repeat (first | (with_reducible first | exact HB.out | apply bA | apply bN | apply bD | refine below_set ?_ GE285.out | refine below_set ?_ GE286.out) | exact HB.out)))); have n1_:=Aside0.mk (blk_below (g:=gb285) (o := .cells #[.int .u8 a0_0, .int .u8 a0_1, .int .u8 a0_2, .int .u8 a0_3, .int .u8 a0_4, .string a0_5, .string a0_6, .string a0_7, .string a0_8, .string a0_9, .string a0_10, .string a0_11, .string a0_12, .string a0_13, .string a0_14] 25 (0,0)) (by (with_reducible repeat (first | refine kN ?_ _ | refine kD ?_ | refine kA ?_ _)); exact BK285.out) hb); have n2_:=Aside0.mk (blk_below (g:=gb286) (o := .cells #[.int .u8 a0_0, .int .u8 a0_1, .int .u8 a0_2, .int .u8 a0_3, .int .u8 a0_4] 23 (0,0)) (by (with_reducible repeat (first | refine kN ?_ _ | refine kD ?_ | refine kA ?_ _)); exact BK286.out) hb); have n3_:=Aside0.mk (below_step (by repeat (first | (with_reducible first | exact HB.out | apply bA | apply bN | apply bD | refine below_set ?_ GE285.out | refine below_set ?_ GE286.out) | exact HB.out)) hb); clear BK285; clear BK286; clear HB; have HO290:=n0_; have BK285:=n1_; have BK286:=n2_; have HB:=n3_; clear n0_ n1_ n2_ n3_; (try clear hb); (try clear ho0)))
  go_loopg [6] k (fun kq v6 w' => ∃ (x6_1 : Int),v6 = .int .i64 x6_1∧Aside0 (lamplighterref09_Write.l0 kq t288 x6_1 a0_0 a0_1 a0_2 a0_3 a0_4=some (r1,r2))∧Aside0 (kq≤k)∧Aside0 (Kd.R Kd.string 9 w' w.heap.size (fun _=>True) v289 t288)∧Aside0 (w'.heap[gb285]?=some (.cells #[.int .u8 a0_0, .int .u8 a0_1, .int .u8 a0_2, .int .u8 a0_3, .int .u8 a0_4, .string a0_5, .string a0_6, .string a0_7, .string a0_8, .string a0_9, .string a0_10, .string a0_11, .string a0_12, .string a0_13, .string a0_14] 25 (0,0)))∧Aside0 (w'.heap[gb286]?=some (.cells #[.int .u8 a0_0, .int .u8 a0_1, .int .u8 a0_2, .int .u8 a0_3, .int .u8 a0_4] 23 (0,0)))∧Aside0 (Below w.heap.size w w'))
  case atStart=>exact ⟨(0),(by first | rfl | (simp; done) | (simp [*]; done)),H',⟨Nat.le_refl _⟩,⟨by (with_reducible repeat (first | apply Kd.R_alloc | apply Kd.R_drewN | apply Kd.R_drew)); exact HO290.out⟩,⟨by (with_reducible repeat (first | refine kN ?_ _ | refine kD ?_ | refine kA ?_ _)); exact BK285.out⟩,⟨by (with_reducible repeat (first | refine kN ?_ _ | refine kD ?_ | refine kA ?_ _)); exact BK286.out⟩,⟨by repeat (first | (with_reducible first | exact HB.out | apply bA | apply bN | apply bD | refine below_set ?_ GE285.out | refine below_set ?_ GE286.out) | exact HB.out)⟩⟩
  case round =>
   clear H'
   try clear c2
   try clear p2
   try clear c3
   try clear c8
   try clear hcz11_0
   try clear hcz11_1
   try clear hcz11_10
   try clear hcz11_11
   try clear hcz11_12
   try clear hcz11_13
   try clear hcz11_14
   try clear hcz11_2
   try clear hcz11_3
   try clear hcz11_4
   try clear hcz11_5
   try clear hcz11_6
   try clear hcz11_7
   try clear hcz11_8
   try clear hcz11_9
   try clear hcz6_0
   try clear hcz6_1
   try clear hcz6_10
   try clear hcz6_11
   try clear hcz6_12
   try clear hcz6_13
   try clear hcz6_14
   try clear hcz6_2
   try clear hcz6_3
   try clear hcz6_4
   try clear hcz6_5
   try clear hcz6_6
   try clear hcz6_7
   try clear hcz6_8
   try clear hcz6_9
   try clear hcz9_0
   try clear hcz9_1
   try clear hcz9_2
   try clear hcz9_3
   try clear hcz9_4
   try clear hfz11_0
   try clear hfz11_1
   try clear hfz11_10
   try clear hfz11_11
   try clear hfz11_12
   try clear hfz11_13
   try clear hfz11_14
   try clear hfz11_2
   try clear hfz11_3
   try clear hfz11_4
   try clear hfz11_5
   try clear hfz11_6
   try clear hfz11_7
   try clear hfz11_8
   try clear hfz11_9
   try clear hfz6_0
   try clear hfz6_1
   try clear hfz6_10
   try clear hfz6_11
   try clear hfz6_12
   try clear hfz6_13
   try clear hfz6_14
   try clear hfz6_2
   try clear hfz6_3
   try clear hfz6_4
   try clear hfz6_5
   try clear hfz6_6
   try clear hfz6_7
   try clear hfz6_8
   try clear hfz6_9
   try clear hfz9_0
   try clear hfz9_1
   try clear hfz9_2
   try clear hfz9_3
   try clear hfz9_4
   obtain ⟨x6_1,rfl,HA,HK1,HO_5,BK285,BK286,HB⟩:=hrel
   cases gk with
   | zero=>exact absurd HA.out (by simp [lamplighterref09_Write.l0])
   | succ k1 =>
    have H:=HA.out
    clear HA
    simp only [lamplighterref09_Write.l0] at H
    by_cases c13 : x6_1 < (t288.length : Int)
    ·rw [if_pos c13] at H
     have c13b0:decide (x6_1 < (t288.length : Int))=true:=decide_eq_true c13
     clear c13
     have H':=Aside0.mk H
     clear H
     obtain ⟨Ao14,co14,eo14⟩:=Kd.R_slice HO_5.out
     subst eo14
     go_wp2
     repeat (go_quiet (fail); try go_wp2)
     go_loopg [7] k1 (fun kq v7 w' => ∃ (x7_2 : Int),v7 = .int .i64 x7_2∧Aside0 (lamplighterref09_Write.l1 kq t288 x6_1 x7_2 a0_0 a0_1 a0_2 a0_3 a0_4=some (r1,r2))∧Aside0 (kq≤k1)∧Aside0 (Kd.R Kd.string 9 w' w.heap.size (fun _=>True) (.slice Ao14 t288.length co14) t288)∧Aside0 (w'.heap[gb285]?=some (.cells #[.int .u8 a0_0, .int .u8 a0_1, .int .u8 a0_2, .int .u8 a0_3, .int .u8 a0_4, .string a0_5, .string a0_6, .string a0_7, .string a0_8, .string a0_9, .string a0_10, .string a0_11, .string a0_12, .string a0_13, .string a0_14] 25 (0,0)))∧Aside0 (w'.heap[gb286]?=some (.cells #[.int .u8 a0_0, .int .u8 a0_1, .int .u8 a0_2, .int .u8 a0_3, .int .u8 a0_4] 23 (0,0)))∧Aside0 (Below w.heap.size w w'))
     case atStart=>exact ⟨(0),(by first | rfl | (simp; done) | (simp [*]; done)),H',⟨Nat.le_refl _⟩,⟨by (with_reducible repeat (first | apply Kd.R_alloc | apply Kd.R_drewN | apply Kd.R_drew)); exact HO_5.out⟩,⟨by (with_reducible repeat (first | refine kN ?_ _ | refine kD ?_ | refine kA ?_ _)); exact BK285.out⟩,⟨by (with_reducible repeat (first | refine kN ?_ _ | refine kD ?_ | refine kA ?_ _)); exact BK286.out⟩,⟨by repeat (first | (with_reducible first | exact HB.out | apply bA | apply bN | apply bD | refine below_set ?_ GE285.out | refine below_set ?_ GE286.out) | exact HB.out)⟩⟩
     case round =>
      clear H'
      try clear c1
      try clear c2
      try clear p2
      try clear c3
      try clear c8
      try clear c13
      try clear c13b0
      try clear hcz11_0
      try clear hcz11_1
      try clear hcz11_10
      try clear hcz11_11
      try clear hcz11_12
      try clear hcz11_13
      try clear hcz11_14
      try clear hcz11_2
      try clear hcz11_3
      try clear hcz11_4
      try clear hcz11_5
      try clear hcz11_6
      try clear hcz11_7
      try clear hcz11_8
      try clear hcz11_9
      try clear hcz6_0
      try clear hcz6_1
      try clear hcz6_10
      try clear hcz6_11
      try clear hcz6_12
      try clear hcz6_13
      try clear hcz6_14
      try clear hcz6_2
      try clear hcz6_3
      try clear hcz6_4
      try clear hcz6_5
      try clear hcz6_6
      try clear hcz6_7
      try clear hcz6_8
      try clear hcz6_9
      try clear hcz9_0
      try clear hcz9_1
      try clear hcz9_2
      try clear hcz9_3
      try clear hcz9_4
      try clear hfz11_0
      try clear hfz11_1
      try clear hfz11_10
      try clear hfz11_11
      try clear hfz11_12
      try clear hfz11_13
      try clear hfz11_14
      try clear hfz11_2
      try clear hfz11_3
      try clear hfz11_4
      try clear hfz11_5
      try clear hfz11_6
      try clear hfz11_7
      try clear hfz11_8
      try clear hfz11_9
      try clear hfz6_0
      try clear hfz6_1
      try clear hfz6_10
      try clear hfz6_11
      try clear hfz6_12
      try clear hfz6_13
      try clear hfz6_14
      try clear hfz6_2
      try clear hfz6_3
      try clear hfz6_4
      try clear hfz6_5
      try clear hfz6_6
      try clear hfz6_7
      try clear hfz6_8
      try clear hfz6_9
      try clear hfz9_0
      try clear hfz9_1
      try clear hfz9_2
      try clear hfz9_3
      try clear hfz9_4
      try clear p2
      obtain ⟨x7_2,rfl,HA,HK2,HO_5,BK285,BK286,HB⟩:=hrel
      cases gk with
      | zero=>exact absurd HA.out (by simp [lamplighterref09_Write.l1])
      | succ k2 =>
       have H:=HA.out
       clear HA
       simp only [lamplighterref09_Write.l1] at H
       by_cases c15 : 0≤x6_1
       ·rw [if_pos c15] at H
        have c15b0:decide (0≤x6_1)=true:=decide_eq_true c15
        clear c15
        by_cases c16 : x6_1 < (t288.length : Int)
        ·rw [if_pos c16] at H
         have c16b0:decide (x6_1 < (t288.length : Int))=true:=decide_eq_true c16
         clear c16
         by_cases c17 : x7_2 < ((rdOf ByteArray.empty t288 x6_1).size : Int)
         ·rw [if_pos c17] at H
          have c17b0:decide (x7_2 < ((rdOf ByteArray.empty t288 x6_1).size : Int))=true:=decide_eq_true c17
          clear c17
          by_cases c18 : 0≤x7_2
          ·rw [if_pos c18] at H
           have c18b0:decide (0≤x7_2)=true:=decide_eq_true c18
           clear c18
           by_cases c20 : (bt (rdOf ByteArray.empty t288 x6_1) x7_2)=a0_0
           ·rw [if_pos c20] at H
            have c20b0 : ((bt (rdOf ByteArray.empty t288 x6_1) x7_2) == a0_0)=true:=beq_iff_eq.mpr c20
            have c20b1 : ((bt (rdOf ByteArray.empty t288 x6_1) x7_2) != a0_0)=false:=bne_eq_false_iff_eq.mpr c20
            clear c20
            simp only [Option.some.injEq,Prod.mk.injEq] at H
            obtain ⟨rfl,rfl⟩:=H
            have p291:0≤(x6_1 : Int):=of_decide_eq_true (by first | (with_reducible assumption) | assumption)
            have q291:x6_1 < (t288.length : Int):=of_decide_eq_true (by first | (with_reducible assumption) | assumption)
            obtain ⟨ad291,e291,hx291_0⟩:=Kd.at_string (Kd.R_reads' HO_5.out).2.2 x6_1 p291 q291
            cases e291
            replace p291:=eq_true p291
            replace q291:=eq_true q291
            have p292:0≤(x6_1 : Int):=of_decide_eq_true (by first | (with_reducible assumption) | assumption)
            have q292:x6_1 < (t288.length : Int):=of_decide_eq_true (by first | (with_reducible assumption) | assumption)
            obtain ⟨ad292,e292,hx292_0⟩:=Kd.at_string (Kd.R_reads' HO_5.out).2.2 x6_1 p292 q292
            obtain rfl : ad291=ad292:=(by injection e292)
            replace p292:=eq_true p292
            replace q292:=eq_true q292
            have p19:0≤(x7_2 : Int):=of_decide_eq_true (by first | (with_reducible assumption) | assumption)
            have q19:x7_2 < ((rdOf ByteArray.empty t288 x6_1).size : Int):=of_decide_eq_true (by first | (with_reducible assumption) | assumption)
            have hx19:=bt_at (rdOf ByteArray.empty t288 x6_1) x7_2
            replace p19:=eq_true p19
            replace q19:=eq_true q19
            have hnb21:=NB286_285.out
            have hnc21:=NB285_286.out
            have hcz22_0:wr.cell? ⟨gb286,0,none⟩=some (.int .u8 a0_0):=blk_cell BK286.out 0
            have hcz22_1:wr.cell? ⟨gb286,1,none⟩=some (.int .u8 a0_1):=blk_cell BK286.out 1
            have hcz22_2:wr.cell? ⟨gb286,2,none⟩=some (.int .u8 a0_2):=blk_cell BK286.out 2
            have hcz22_3:wr.cell? ⟨gb286,3,none⟩=some (.int .u8 a0_3):=blk_cell BK286.out 3
            have hcz22_4:wr.cell? ⟨gb286,4,none⟩=some (.int .u8 a0_4):=blk_cell BK286.out 4
            have hfz22_0:=blk_frozen BK286.out 0
            have hfz22_1:=blk_frozen BK286.out 1
            have hfz22_2:=blk_frozen BK286.out 2
            have hfz22_3:=blk_frozen BK286.out 3
            have hfz22_4:=blk_frozen BK286.out 4
            go_wp2
            repeat (go_quiet (fail); try go_wp2)
            go_ret2
            exact ⟨by first | rfl | (simp [errW_none,errW_some] <;> rfl) | (simp [*,errW_none,errW_some] <;> rfl),by repeat (first | (with_reducible first | exact HB.out | apply bA | apply bN | apply bD | refine below_set ?_ GE285.out | refine below_set ?_ GE286.out) | exact HB.out)⟩
           ·rw [if_neg c20] at H
            have c20b0 : ((bt (rdOf ByteArray.empty t288 x6_1) x7_2) == a0_0)=false:=beq_eq_false_iff_ne.mpr c20
            have c20b1 : ((bt (rdOf ByteArray.empty t288 x6_1) x7_2) != a0_0)=true:=bne_iff_ne.mpr c20
            by_cases c24 : (bt (rdOf ByteArray.empty t288 x6_1) x7_2)=13
            ·rw [if_pos c24] at H
             have c24b0 : ((bt (rdOf ByteArray.empty t288 x6_1) x7_2) == 13)=true:=beq_iff_eq.mpr c24
             have c24b1 : ((bt (rdOf ByteArray.empty t288 x6_1) x7_2) != 13)=false:=bne_eq_false_iff_eq.mpr c24
             clear c24
             simp only [Option.some.injEq,Prod.mk.injEq] at H
             obtain ⟨rfl,rfl⟩:=H
             have p291:0≤(x6_1 : Int):=of_decide_eq_true (by first | (with_reducible assumption) | assumption)
             have q291:x6_1 < (t288.length : Int):=of_decide_eq_true (by first | (with_reducible assumption) | assumption)
             obtain ⟨ad291,e291,hx291_0⟩:=Kd.at_string (Kd.R_reads' HO_5.out).2.2 x6_1 p291 q291
             cases e291
             replace p291:=eq_true p291
             replace q291:=eq_true q291
             have p292:0≤(x6_1 : Int):=of_decide_eq_true (by first | (with_reducible assumption) | assumption)
             have q292:x6_1 < (t288.length : Int):=of_decide_eq_true (by first | (with_reducible assumption) | assumption)
             obtain ⟨ad292,e292,hx292_0⟩:=Kd.at_string (Kd.R_reads' HO_5.out).2.2 x6_1 p292 q292
             obtain rfl : ad291=ad292:=(by injection e292)
             replace p292:=eq_true p292
             replace q292:=eq_true q292
             have p19:0≤(x7_2 : Int):=of_decide_eq_true (by first | (with_reducible assumption) | assumption)
             have q19:x7_2 < ((rdOf ByteArray.empty t288 x6_1).size : Int):=of_decide_eq_true (by first | (with_reducible assumption) | assumption)
             have hx19:=bt_at (rdOf ByteArray.empty t288 x6_1) x7_2
             replace p19:=eq_true p19
             replace q19:=eq_true q19
             have hnb25:=NB286_285.out
             have hnc25:=NB285_286.out
             have hcz26_0:wr.cell? ⟨gb286,0,none⟩=some (.int .u8 a0_0):=blk_cell BK286.out 0
             have hcz26_1:wr.cell? ⟨gb286,1,none⟩=some (.int .u8 a0_1):=blk_cell BK286.out 1
             have hcz26_2:wr.cell? ⟨gb286,2,none⟩=some (.int .u8 a0_2):=blk_cell BK286.out 2
             have hcz26_3:wr.cell? ⟨gb286,3,none⟩=some (.int .u8 a0_3):=blk_cell BK286.out 3
             have hcz26_4:wr.cell? ⟨gb286,4,none⟩=some (.int .u8 a0_4):=blk_cell BK286.out 4
             have hfz26_0:=blk_frozen BK286.out 0
             have hfz26_1:=blk_frozen BK286.out 1
             have hfz26_2:=blk_frozen BK286.out 2
             have hfz26_3:=blk_frozen BK286.out 3
             have hfz26_4:=blk_frozen BK286.out 4
             have p293:0≤(x6_1 : Int):=of_decide_eq_true (by first | (with_reducible assumption) | assumption)
             have q293:x6_1 < (t288.length : Int):=of_decide_eq_true (by first | (with_reducible assumption) | assumption)
             obtain ⟨ad293,e293,hx293_0⟩:=Kd.at_string (Kd.R_reads' HO_5.out).2.2 x6_1 p293 q293
             obtain rfl : ad291=ad293:=(by injection e293)
             replace p293:=eq_true p293
             replace q293:=eq_true q293
             have p23:0≤(x7_2 : Int):=of_decide_eq_true (by first | (with_reducible assumption) | assumption)
             have q23:x7_2 < ((rdOf ByteArray.empty t288 x6_1).size : Int):=of_decide_eq_true (by first | (with_reducible assumption) | assumption)
             have hx23:=bt_at (rdOf ByteArray.empty t288 x6_1) x7_2
             replace p23:=eq_true p23
             replace q23:=eq_true q23
             go_wp2
             repeat (go_quiet (fail); try go_wp2)
             go_ret2
             exact ⟨by first | rfl | (simp [errW_none,errW_some] <;> rfl) | (simp [*,errW_none,errW_some] <;> rfl),by repeat (first | (with_reducible first | exact HB.out | apply bA | apply bN | apply bD | refine below_set ?_ GE285.out | refine below_set ?_ GE286.out) | exact HB.out)⟩
            ·rw [if_neg c24] at H
             have c24b0 : ((bt (rdOf ByteArray.empty t288 x6_1) x7_2) == 13)=false:=beq_eq_false_iff_ne.mpr c24
             have c24b1 : ((bt (rdOf ByteArray.empty t288 x6_1) x7_2) != 13)=true:=bne_iff_ne.mpr c24
             have H':=Aside0.mk H
             clear H
             have p291:0≤(x6_1 : Int):=of_decide_eq_true (by first | (with_reducible assumption) | assumption)
             have q291:x6_1 < (t288.length : Int):=of_decide_eq_true (by first | (with_reducible assumption) | assumption)
             obtain ⟨ad291,e291,hx291_0⟩:=Kd.at_string (Kd.R_reads' HO_5.out).2.2 x6_1 p291 q291
             cases e291
             replace p291:=eq_true p291
             replace q291:=eq_true q291
             have p292:0≤(x6_1 : Int):=of_decide_eq_true (by first | (with_reducible assumption) | assumption)
             have q292:x6_1 < (t288.length : Int):=of_decide_eq_true (by first | (with_reducible assumption) | assumption)
             obtain ⟨ad292,e292,hx292_0⟩:=Kd.at_string (Kd.R_reads' HO_5.out).2.2 x6_1 p292 q292
             obtain rfl : ad291=ad292:=(by injection e292)
             replace p292:=eq_true p292
             replace q292:=eq_true q292
             have p19:0≤(x7_2 : Int):=of_decide_eq_true (by first | (with_reducible assumption) | assumption)
             have q19:x7_2 < ((rdOf ByteArray.empty t288 x6_1).size : Int):=of_decide_eq_true (by first | (with_reducible assumption) | assumption)
             have hx19:=bt_at (rdOf ByteArray.empty t288 x6_1) x7_2
             replace p19:=eq_true p19
             replace q19:=eq_true q19
             have hnb27:=NB286_285.out
             have hnc27:=NB285_286.out
             have hcz28_0:wr.cell? ⟨gb286,0,none⟩=some (.int .u8 a0_0):=blk_cell BK286.out 0
             have hcz28_1:wr.cell? ⟨gb286,1,none⟩=some (.int .u8 a0_1):=blk_cell BK286.out 1
             have hcz28_2:wr.cell? ⟨gb286,2,none⟩=some (.int .u8 a0_2):=blk_cell BK286.out 2
             have hcz28_3:wr.cell? ⟨gb286,3,none⟩=some (.int .u8 a0_3):=blk_cell BK286.out 3
             have hcz28_4:wr.cell? ⟨gb286,4,none⟩=some (.int .u8 a0_4):=blk_cell BK286.out 4
             have hfz28_0:=blk_frozen BK286.out 0
             have hfz28_1:=blk_frozen BK286.out 1
             have hfz28_2:=blk_frozen BK286.out 2
             have hfz28_3:=blk_frozen BK286.out 3
             have hfz28_4:=blk_frozen BK286.out 4
             have p293:0≤(x6_1 : Int):=of_decide_eq_true (by first | (with_reducible assumption) | assumption)
             have q293:x6_1 < (t288.length : Int):=of_decide_eq_true (by first | (with_reducible assumption) | assumption)
             obtain ⟨ad293,e293,hx293_0⟩:=Kd.at_string (Kd.R_reads' HO_5.out).2.2 x6_1 p293 q293
             obtain rfl : ad291=ad293:=(by injection e293)
             replace p293:=eq_true p293
             replace q293:=eq_true q293
             have p23:0≤(x7_2 : Int):=of_decide_eq_true (by first | (with_reducible assumption) | assumption)
             have q23:x7_2 < ((rdOf ByteArray.empty t288 x6_1).size : Int):=of_decide_eq_true (by first | (with_reducible assumption) | assumption)
             have hx23:=bt_at (rdOf ByteArray.empty t288 x6_1) x7_2
             replace p23:=eq_true p23
             replace q23:=eq_true q23
             go_wp2
             repeat (go_quiet (fail); try go_wp2)
             go_roundg k2
             case measure=>have:=HK1.out; have:=HK2.out; omega
             case rel=>exact ⟨(wrap64 (x7_2 + 1)),(by first | rfl | (simp; done) | (simp [*]; done)),H',⟨by have:=HK1.out; have:=HK2.out; omega⟩,⟨by (with_reducible repeat (first | apply Kd.R_alloc | apply Kd.R_drewN | apply Kd.R_drew)); exact HO_5.out⟩,⟨by (with_reducible repeat (first | refine kN ?_ _ | refine kD ?_ | refine kA ?_ _)); exact BK285.out⟩,⟨by (with_reducible repeat (first | refine kN ?_ _ | refine kD ?_ | refine kA ?_ _)); exact BK286.out⟩,⟨by repeat (first | (with_reducible first | exact HB.out | apply bA | apply bN | apply bD | refine below_set ?_ GE285.out | refine below_set ?_ GE286.out) | exact HB.out)⟩⟩
          ·rw [if_neg c18] at H
           exact absurd H (by simp)
         ·rw [if_neg c17] at H
          have c17b0:decide (x7_2 < ((rdOf ByteArray.empty t288 x6_1).size : Int))=false:=decide_eq_false c17
          clear c17
          have H':=Aside0.mk H
          clear H
          have p291:0≤(x6_1 : Int):=of_decide_eq_true (by first | (with_reducible assumption) | assumption)
          have q291:x6_1 < (t288.length : Int):=of_decide_eq_true (by first | (with_reducible assumption) | assumption)
          obtain ⟨ad291,e291,hx291_0⟩:=Kd.at_string (Kd.R_reads' HO_5.out).2.2 x6_1 p291 q291
          cases e291
          replace p291:=eq_true p291
          replace q291:=eq_true q291
          go_wp2
          repeat (go_quiet (fail); try go_wp2)
          go_roundg k2
          case measure=>have:=HK1.out; have:=HK2.out; omega
          case rel=>exact ⟨(wrap64 (x6_1 + 1)),(by first | rfl | (simp; done) | (simp [*]; done)),H',⟨by have:=HK1.out; have:=HK2.out; omega⟩,⟨by (with_reducible repeat (first | apply Kd.R_alloc | apply Kd.R_drewN | apply Kd.R_drew)); exact HO_5.out⟩,⟨by (with_reducible repeat (first | refine kN ?_ _ | refine kD ?_ | refine kA ?_ _)); exact BK285.out⟩,⟨by (with_reducible repeat (first | refine kN ?_ _ | refine kD ?_ | refine kA ?_ _)); exact BK286.out⟩,⟨by repeat (first | (with_reducible first | exact HB.out | apply bA | apply bN | apply bD | refine below_set ?_ GE285.out | refine below_set ?_ GE286.out) | exact HB.out)⟩⟩
        ·rw [if_neg c16] at H
         exact absurd H (by simp)
       ·rw [if_neg c15] at H
        exact absurd H (by simp)
    ·rw [if_neg c13] at H
     have c13b0:decide (x6_1 < (t288.length : Int))=false:=decide_eq_false c13
     clear c13
     have H':=Aside0.mk H
     clear H
     obtain ⟨Ao29,co29,eo29⟩:=Kd.R_slice HO_5.out
     subst eo29
     go_wp2
     repeat (go_quiet (fail); try go_wp2)
     go_loopg [5] k1 (fun kq v5 w' => ∃ (x5_2 : List ByteArray),Aside0 (lamplighterref09_Write.l2 kq x5_2 a0_0 a0_1 a0_2 a0_3 a0_4=some (r1,r2))∧Aside0 (kq≤k1)∧Aside0 (Kd.R Kd.string 9 w' w.heap.size (fun _=>True) v5 x5_2)∧Aside0 (w'.heap[gb285]?=some (.cells #[.int .u8 a0_0, .int .u8 a0_1, .int .u8 a0_2, .int .u8 a0_3, .int .u8 a0_4, .string a0_5, .string a0_6, .string a0_7, .string a0_8, .string a0_9, .string a0_10, .string a0_11, .string a0_12, .string a0_13, .string a0_14] 25 (0,0)))∧Aside0 (w'.heap[gb286]?=some (.cells #[.int .u8 a0_0, .int .u8 a0_1, .int .u8 a0_2, .int .u8 a0_3, .int .u8 a0_4] 23 (0,0)))∧Aside0 (Below w.heap.size w w'))
     case atStart=>exact ⟨(t288),H',⟨Nat.le_refl _⟩,⟨by (with_reducible repeat (first | apply Kd.R_alloc | apply Kd.R_drewN | apply Kd.R_drew)); exact HO_5.out⟩,⟨by (with_reducible repeat (first | refine kN ?_ _ | refine kD ?_ | refine kA ?_ _)); exact BK285.out⟩,⟨by (with_reducible repeat (first | refine kN ?_ _ | refine kD ?_ | refine kA ?_ _)); exact BK286.out⟩,⟨by repeat (first | (with_reducible first | exact HB.out | apply bA | apply bN | apply bD | refine below_set ?_ GE285.out | refine below_set ?_ GE286.out) | exact HB.out)⟩⟩
     case round =>
      clear H'
      try clear c1
      try clear p1
      try clear q1
      try clear hx1
      try clear c2
      try clear p2
      try clear q2
      try clear hx2
      try clear c3
      try clear p6
      try clear c8
      try clear c13
      try clear c13b0
      try clear c15
      try clear c15b0
      try clear c16
      try clear c16b0
      try clear c17
      try clear c17b0
      try clear c18
      try clear c18b0
      try clear p19
      try clear q19
      try clear hx19
      try clear c20
      try clear c20b0
      try clear c20b1
      try clear c21
      try clear p23
      try clear q23
      try clear hx23
      try clear c24
      try clear c24b0
      try clear c24b1
      try clear c25
      try clear c26
      try clear c27
      try clear p29
      try clear q29
      try clear hx29
      try clear hcz11_0
      try clear hcz11_1
      try clear hcz11_10
      try clear hcz11_11
      try clear hcz11_12
      try clear hcz11_13
      try clear hcz11_14
      try clear hcz11_2
      try clear hcz11_3
      try clear hcz11_4
      try clear hcz11_5
      try clear hcz11_6
      try clear hcz11_7
      try clear hcz11_8
      try clear hcz11_9
      try clear hcz22_0
      try clear hcz22_1
      try clear hcz22_2
      try clear hcz22_3
      try clear hcz22_4
      try clear hcz26_0
      try clear hcz26_1
      try clear hcz26_2
      try clear hcz26_3
      try clear hcz26_4
      try clear hcz28_0
      try clear hcz28_1
      try clear hcz28_2
      try clear hcz28_3
      try clear hcz28_4
      try clear hcz6_0
      try clear hcz6_1
      try clear hcz6_10
      try clear hcz6_11
      try clear hcz6_12
      try clear hcz6_13
      try clear hcz6_14
      try clear hcz6_2
      try clear hcz6_3
      try clear hcz6_4
      try clear hcz6_5
      try clear hcz6_6
      try clear hcz6_7
      try clear hcz6_8
      try clear hcz6_9
      try clear hcz9_0
      try clear hcz9_1
      try clear hcz9_2
      try clear hcz9_3
      try clear hcz9_4
      try clear hfz11_0
      try clear hfz11_1
      try clear hfz11_10
      try clear hfz11_11
      try clear hfz11_12
      try clear hfz11_13
      try clear hfz11_14
      try clear hfz11_2
      try clear hfz11_3
      try clear hfz11_4
      try clear hfz11_5
      try clear hfz11_6
      try clear hfz11_7
      try clear hfz11_8
      try clear hfz11_9
      try clear hfz22_0
      try clear hfz22_1
      try clear hfz22_2
      try clear hfz22_3
      try clear hfz22_4
      try clear hfz26_0
      try clear hfz26_1
      try clear hfz26_2
      try clear hfz26_3
      try clear hfz26_4
      try clear hfz28_0
      try clear hfz28_1
      try clear hfz28_2
      try clear hfz28_3
      try clear hfz28_4
      try clear hfz6_0
      try clear hfz6_1
      try clear hfz6_10
      try clear hfz6_11
      try clear hfz6_12
      try clear hfz6_13
      try clear hfz6_14
      try clear hfz6_2
      try clear hfz6_3
      try clear hfz6_4
      try clear hfz6_5
      try clear hfz6_6
      try clear hfz6_7
      try clear hfz6_8
      try clear hfz6_9
      try clear hfz9_0
      try clear hfz9_1
      try clear hfz9_2
      try clear hfz9_3
      try clear hfz9_4
      try clear hx291_0
      try clear hx292_0
      try clear hx293_0
      try clear p19
      try clear p2
      try clear p23
      try clear p291
      try clear p292
      try clear p293
      try clear q19
      try clear q23
      try clear q291
      try clear q292
      try clear q293
      obtain ⟨x5_2,HA,HK2,HO_5,BK285,BK286,HB⟩:=hrel
      cases gk with
      | zero=>exact absurd HA.out (by simp [lamplighterref09_Write.l2])
      | succ k2 =>
       have H:=HA.out
       clear HA
       simp only [lamplighterref09_Write.l2] at H
       by_cases c30 : (x5_2.length : Int) > 0
       ·rw [if_pos c30] at H
        have c30b0:decide (0 < (x5_2.length : Int))=true:=decide_eq_true c30
        have c30b1:decide (0 < x5_2.length)=true:=decide_eq_true (by omega)
        clear c30
        obtain ⟨ji31,hji31⟩ : ∃ j_ : Int,(wrap64 ((x5_2.length : Int) - 1))=j_:=⟨_,rfl⟩
        replace H : (if 0≤(ji31) then (if (ji31) < (x5_2.length : Int) then (if (rdOf ByteArray.empty x5_2 (ji31)).toList=([] : List UInt8) then (if (ji31)≤(x5_2.length : Int) then (lamplighterref09_Write.l2 k2 (x5_2.take ((ji31) : Int).toNat) a0_0 a0_1 a0_2 a0_3 a0_4) else (none)) else ((some (([strOfNums (([a0_0] : List Int)),strOfNums (([a0_1,a0_2,a0_3,a0_4] : List Int))] : List ByteArray) : List ByteArray)).bind fun y304=>(if y304.length + x5_2.length < 8796093022208 then ((lamplighterref08_Make.f k2 a0_0 a0_1 a0_2 a0_3 a0_4 (⟨#[77,83,72]⟩ : ByteArray) (y304 ++ x5_2)).bind fun t310=>(some (t310,0))) else (none)))) else (none)) else (none))=some (r1,r2):=by first | (rw [hji31] at H; exact H) | (simp only [hji31] at H ⊢; exact H)
        have hji31w : (IntKind.i64.wrap ((x5_2.length : Int) - 1))=ji31:=(i64_w _).trans hji31
        by_cases c32 : 0≤(ji31)
        ·rw [if_pos c32] at H
         have c32b0:decide (0≤(ji31))=true:=decide_eq_true c32
         clear c32
         by_cases c33 : (ji31) < (x5_2.length : Int)
         ·rw [if_pos c33] at H
          have c33b0:decide ((ji31) < (x5_2.length : Int))=true:=decide_eq_true c33
          clear c33
          by_cases c34 : (rdOf ByteArray.empty x5_2 (ji31)).toList=([] : List UInt8)
          ·rw [if_pos c34] at H
           have c34b0 : ((rdOf ByteArray.empty x5_2 (ji31)).toList == ([] : List UInt8))=true:=beq_iff_eq.mpr c34
           have c34b1 : ((rdOf ByteArray.empty x5_2 (ji31)).toList != ([] : List UInt8))=false:=bne_eq_false_iff_eq.mpr c34
           clear c34
           by_cases c35 : (ji31)≤(x5_2.length : Int)
           ·rw [if_pos c35] at H
            have c35b0:=eq_true c35
            have c35b1:decide ((ji31)≤(x5_2.length : Int))=true:=decide_eq_true c35
            clear c35
            obtain ⟨y295,hy295⟩ : ∃ y_ : List ByteArray,y_=(x5_2.take ((ji31) : Int).toNat):=⟨_,rfl⟩
            replace H : (lamplighterref09_Write.l2 k2 y295 a0_0 a0_1 a0_2 a0_3 a0_4)=some (r1,r2):=by first | (rw [hy295]; with_reducible exact H) | (have H2_:=(Option.bind_some _ _).symm.trans H; rw [hy295]; with_reducible exact H2_) | (have H2_:=(Option.bind_some _ _).symm.trans H; with_reducible exact H2_) | with_reducible exact H | (rw [hy295]; exact H) | exact H
            have Ny295:=Aside0.mk hy295
            clear hy295
            have H':=Aside0.mk H
            clear H
            obtain ⟨Ao36,co36,eo36⟩:=Kd.R_slice HO_5.out
            subst eo36
            have p294:0≤((ji31) : Int):=of_decide_eq_true (by first | (with_reducible assumption) | assumption)
            have q294 : (ji31) < (x5_2.length : Int):=of_decide_eq_true (by first | (with_reducible assumption) | assumption)
            obtain ⟨ad294,e294,hx294_0⟩:=Kd.at_string (Kd.R_reads' HO_5.out).2.2 (ji31) p294 q294
            cases e294
            replace p294:=eq_true p294
            replace q294:=eq_true q294
            have q37 : ((ji31) : Int)≤((x5_2.length : Int) : Int):=of_decide_eq_true (by first | (with_reducible assumption) | assumption)
            obtain ⟨i037,hi037,_,hsz37,_⟩:=info_parts info9
            have hcut37:=cut_to (P:=Tryd.prog) 34 9 .i64 Tryd.underlying34 hi037 (some ad294) x5_2.length co36 (ji31) (of_decide_eq_true (by first | (with_reducible assumption) | assumption)) q37 (Kd.R_reads' HO_5.out).2.1
            have hr37:=Kd.R_take (m:=((ji31) : Int).toNat) HO_5.out (by omega)
            have hy37:y295.length=((ji31) : Int).toNat:=(by rw [Ny295.out,List.length_take]; omega)
            rw [← Ny295.out] at hr37
            rw [← hy37] at hr37 hcut37
            clear hy37 hi037 hsz37 HO_5
            have HO297:=Aside0.mk hr37
            clear hr37
            replace q37:=eq_true q37
            go_wp2
            repeat (go_quiet (fail); try go_wp2)
            go_roundg k2
            case measure=>have:=HK1.out; have:=HK2.out; omega
            case rel=>exact ⟨(y295),H',⟨by have:=HK1.out; have:=HK2.out; omega⟩,⟨by (with_reducible repeat (first | apply Kd.R_alloc | apply Kd.R_drewN | apply Kd.R_drew)); exact HO297.out⟩,⟨by (with_reducible repeat (first | refine kN ?_ _ | refine kD ?_ | refine kA ?_ _)); exact BK285.out⟩,⟨by (with_reducible repeat (first | refine kN ?_ _ | refine kD ?_ | refine kA ?_ _)); exact BK286.out⟩,⟨by repeat (first | (with_reducible first | exact HB.out | apply bA | apply bN | apply bD | refine below_set ?_ GE285.out | refine below_set ?_ GE286.out) | exact HB.out)⟩⟩
           ·rw [if_neg c35] at H
            exact absurd H (by simp)
          ·rw [if_neg c34] at H
           have c34b0 : ((rdOf ByteArray.empty x5_2 (ji31)).toList == ([] : List UInt8))=false:=beq_eq_false_iff_ne.mpr c34
           have c34b1 : ((rdOf ByteArray.empty x5_2 (ji31)).toList != ([] : List UInt8))=true:=bne_iff_ne.mpr c34
           obtain ⟨y298,hy298⟩ : ∃ y_ : List Int,y_=(([a0_0] : List Int)):=⟨_,rfl⟩
           replace H : ((some (([strOfNums y298,strOfNums (([a0_1,a0_2,a0_3,a0_4] : List Int))] : List ByteArray) : List ByteArray)).bind fun y304=>(if y304.length + x5_2.length < 8796093022208 then ((lamplighterref08_Make.f k2 a0_0 a0_1 a0_2 a0_3 a0_4 (⟨#[77,83,72]⟩ : ByteArray) (y304 ++ x5_2)).bind fun t310=>(some (t310,0))) else (none)))=some (r1,r2):=by first | (rw [hy298]; with_reducible exact H) | (have H2_:=(Option.bind_some _ _).symm.trans H; rw [hy298]; with_reducible exact H2_) | (have H2_:=(Option.bind_some _ _).symm.trans H; with_reducible exact H2_) | with_reducible exact H | (rw [hy298]; exact H) | exact H
           have Ny298:=Aside0.mk hy298
           clear hy298
           obtain ⟨y301,hy301⟩ : ∃ y_ : List Int,y_=(([a0_1,a0_2,a0_3,a0_4] : List Int)):=⟨_,rfl⟩
           replace H : ((some (([strOfNums y298,strOfNums y301] : List ByteArray) : List ByteArray)).bind fun y304=>(if y304.length + x5_2.length < 8796093022208 then ((lamplighterref08_Make.f k2 a0_0 a0_1 a0_2 a0_3 a0_4 (⟨#[77,83,72]⟩ : ByteArray) (y304 ++ x5_2)).bind fun t310=>(some (t310,0))) else (none)))=some (r1,r2):=by first | (rw [hy301]; with_reducible exact H) | (have H2_:=(Option.bind_some _ _).symm.trans H; rw [hy301]; with_reducible exact H2_) | (have H2_:=(Option.bind_some _ _).symm.trans H; with_reducible exact H2_) | with_reducible exact H | (rw [hy301]; exact H) | exact H
           have Ny301:=Aside0.mk hy301
           clear hy301
           obtain ⟨y304,hy304⟩ : ∃ y_ : List ByteArray,y_=(([strOfNums y298,strOfNums y301] : List ByteArray)):=⟨_,rfl⟩
           replace H : (if y304.length + x5_2.length < 8796093022208 then ((lamplighterref08_Make.f k2 a0_0 a0_1 a0_2 a0_3 a0_4 (⟨#[77,83,72]⟩ : ByteArray) (y304 ++ x5_2)).bind fun t310=>(some (t310,0))) else (none))=some (r1,r2):=by first | (rw [hy304]; with_reducible exact H) | (have H2_:=(Option.bind_some _ _).symm.trans H; rw [hy304]; with_reducible exact H2_) | (have H2_:=(Option.bind_some _ _).symm.trans H; with_reducible exact H2_) | with_reducible exact H | (rw [hy304]; exact H) | exact H
           have Ny304:=Aside0.mk hy304
           clear hy304
           by_cases c38 : y304.length + x5_2.length < 8796093022208
           ·rw [if_pos c38] at H
            have LMc38:=Aside0.mk c38
            clear c38
            obtain ⟨y307,hy307⟩ : ∃ y_ : List ByteArray,y_=(y304 ++ x5_2):=⟨_,rfl⟩
            replace H : ((lamplighterref08_Make.f k2 a0_0 a0_1 a0_2 a0_3 a0_4 (⟨#[77,83,72]⟩ : ByteArray) y307).bind fun t310=>(some (t310,0)))=some (r1,r2):=by first | (rw [hy307]; with_reducible exact H) | (have H2_:=(Option.bind_some _ _).symm.trans H; rw [hy307]; with_reducible exact H2_) | (have H2_:=(Option.bind_some _ _).symm.trans H; with_reducible exact H2_) | with_reducible exact H | (rw [hy307]; exact H) | exact H
            have Ny307:=Aside0.mk hy307
            clear hy307
            replace H:=Option.bind_eq_some_iff.mp H
            obtain ⟨t310,A390,H⟩:=H
            replace H : (some (t310,0))=some (r1,r2):=H
            have A39:=Aside0.mk A390
            clear A390
            simp only [Option.some.injEq,Prod.mk.injEq] at H
            obtain ⟨rfl,rfl⟩:=H
            obtain ⟨Ao40,co40,eo40⟩:=Kd.R_slice HO_5.out
            subst eo40
            have p294:0≤((ji31) : Int):=of_decide_eq_true (by first | (with_reducible assumption) | assumption)
            have q294 : (ji31) < (x5_2.length : Int):=of_decide_eq_true (by first | (with_reducible assumption) | assumption)
            obtain ⟨ad294,e294,hx294_0⟩:=Kd.at_string (Kd.R_reads' HO_5.out).2.2 (ji31) p294 q294
            cases e294
            replace p294:=eq_true p294
            replace q294:=eq_true q294
            have hnb41:=NB286_285.out
            have hnc41:=NB285_286.out
            have hcz42_0:wr.cell? ⟨gb286,0,none⟩=some (.int .u8 a0_0):=blk_cell BK286.out 0
            have hcz42_1:wr.cell? ⟨gb286,1,none⟩=some (.int .u8 a0_1):=blk_cell BK286.out 1
            have hcz42_2:wr.cell? ⟨gb286,2,none⟩=some (.int .u8 a0_2):=blk_cell BK286.out 2
            have hcz42_3:wr.cell? ⟨gb286,3,none⟩=some (.int .u8 a0_3):=blk_cell BK286.out 3
            have hcz42_4:wr.cell? ⟨gb286,4,none⟩=some (.int .u8 a0_4):=blk_cell BK286.out 4
            have hfz42_0:=blk_frozen BK286.out 0
            have hfz42_1:=blk_frozen BK286.out 1
            have hfz42_2:=blk_frozen BK286.out 2
            have hfz42_3:=blk_frozen BK286.out 3
            have hfz42_4:=blk_frozen BK286.out 4
            go_wp2_with (first | ((with_reducible refine gate_dst (N:=68) rfl ?_); (try (refine gate_guard (by rfl) ?_; dsimp only)); refine Kd.R_lit (Kd.int .u8) _ 5 ?hg (N:=68) ?hd (xs:=([a0_0] : List Int)) (inner:=[.int .u8 a0_0]) (ok:=fun _=>True) (okp:=fun _=>True) ?hr ?hp (fun _ hk=>hk) trivial (Below.refl _ _) (Nat.le_refl _) (by simp) ?_; (case hd=>rfl); (case hg=>rfl); (case hr=>first | (go_simp; done) | (go_simp; rfl)); (case hp=>exact (Reps.one (show Kd.M (Kd.int .u8) _ _ _ a0_0 [.int .u8 a0_0] from rfl) (Reps.none _ _))); intro v299 w43 ho44 hb hg_ hnew_; clear hg_ hnew_; (first | rw [← Ny298.out] at ho44 | (simp only [Int.reduceToNat] at ho44; rw [← Ny298.out] at ho44)); have n0_:=Aside0.mk (Kd.R_below (by (with_reducible repeat (first | apply Kd.R_alloc | apply Kd.R_drewN | apply Kd.R_drew)); exact HO_5.out) hb); have n1_:=Aside0.mk (Kd.R_lower ho44 (below_size (by repeat (first | (with_reducible first | exact HB.out | apply bA | apply bN | apply bD | refine below_set ?_ GE285.out | refine below_set ?_ GE286.out) | exact HB.out)))); have n2_:=Aside0.mk (blk_below (g:=gb285) (o := .cells #[.int .u8 a0_0, .int .u8 a0_1, .int .u8 a0_2, .int .u8 a0_3, .int .u8 a0_4, .string a0_5, .string a0_6, .string a0_7, .string a0_8, .string a0_9, .string a0_10, .string a0_11, .string a0_12, .string a0_13, .string a0_14] 25 (0,0)) (by (with_reducible repeat (first | refine kN ?_ _ | refine kD ?_ | refine kA ?_ _)); exact BK285.out) hb); have n3_:=Aside0.mk (blk_below (g:=gb286) (o := .cells #[.int .u8 a0_0, .int .u8 a0_1, .int .u8 a0_2, .int .u8 a0_3, .int .u8 a0_4] 23 (0,0)) (by (with_reducible repeat (first | refine kN ?_ _ | refine kD ?_ | refine kA ?_ _)); exact BK286.out) hb); have n4_:=Aside0.mk (below_step (by repeat (first | (with_reducible first | exact HB.out | apply bA | apply bN | apply bD | refine below_set ?_ GE285.out | refine below_set ?_ GE286.out) | exact HB.out)) hb); clear HO_5; clear BK285; clear BK286; clear HB; have HO_5:=n0_; have HO300:=n1_; have BK285:=n2_; have BK286:=n3_; have HB:=n4_; clear n0_ n1_ n2_ n3_ n4_; clear hb ho44; have hcv45:=own_string (P:=Tryd.prog) Tryd.underlying28 Tryd.underlying5 Tryd.underlying9 (Kd.own_of_R HO300.out); have hcz46_0:w43.cell? ⟨gb286,0,none⟩=some (.int .u8 a0_0):=blk_cell BK286.out 0; have hcz46_1:w43.cell? ⟨gb286,1,none⟩=some (.int .u8 a0_1):=blk_cell BK286.out 1; have hcz46_2:w43.cell? ⟨gb286,2,none⟩=some (.int .u8 a0_2):=blk_cell BK286.out 2; have hcz46_3:w43.cell? ⟨gb286,3,none⟩=some (.int .u8 a0_3):=blk_cell BK286.out 3; have hcz46_4:w43.cell? ⟨gb286,4,none⟩=some (.int .u8 a0_4):=blk_cell BK286.out 4; have hfz46_0:=blk_frozen BK286.out 0; have hfz46_1:=blk_frozen BK286.out 1; have hfz46_2:=blk_frozen BK286.out 2; have hfz46_3:=blk_frozen BK286.out 3; have hfz46_4:=blk_frozen BK286.out 4) | ((with_reducible refine gate_dst (N:=78) rfl ?_); (try (refine gate_guard (by rfl) ?_; dsimp only)); refine Kd.R_lit (Kd.int .u8) _ 5 ?hg (N:=78) ?hd (xs:=([a0_1,a0_2,a0_3,a0_4] : List Int)) (inner:=[.int .u8 a0_1, .int .u8 a0_2, .int .u8 a0_3, .int .u8 a0_4]) (ok:=fun _=>True) (okp:=fun _=>True) ?hr ?hp (fun _ hk=>hk) trivial (Below.refl _ _) (Nat.le_refl _) (by simp) ?_; (case hd=>rfl); (case hg=>rfl); (case hr=>first | (go_simp; done) | (go_simp; rfl)); (case hp=>exact (Reps.one (show Kd.M (Kd.int .u8) _ _ _ a0_1 [.int .u8 a0_1] from rfl) (Reps.one (show Kd.M (Kd.int .u8) _ _ _ a0_2 [.int .u8 a0_2] from rfl) (Reps.one (show Kd.M (Kd.int .u8) _ _ _ a0_3 [.int .u8 a0_3] from rfl) (Reps.one (show Kd.M (Kd.int .u8) _ _ _ a0_4 [.int .u8 a0_4] from rfl) (Reps.none _ _)))))); intro v302 w47 ho48 hb hg_ hnew_; clear hg_ hnew_; (first | rw [← Ny301.out] at ho48 | (simp only [Int.reduceToNat] at ho48; rw [← Ny301.out] at ho48)); have n0_:=Aside0.mk (Kd.R_below (by (with_reducible repeat (first | apply Kd.R_alloc | apply Kd.R_drewN | apply Kd.R_drew)); exact HO_5.out) hb); have n1_:=Aside0.mk (Kd.R_elder' (by (with_reducible repeat (first | apply Kd.R_alloc | apply Kd.R_drewN | apply Kd.R_drew)); exact HO300.out) (Kd.R_base ho48) hb); have n2_:=Aside0.mk (Kd.R_lower (Kd.R_new' ho48 (Kd.R_lt (by (with_reducible repeat (first | apply Kd.R_alloc | apply Kd.R_drewN | apply Kd.R_drew)); exact HO300.out))) (below_size (by repeat (first | (with_reducible first | exact HB.out | apply bA | apply bN | apply bD | refine below_set ?_ GE285.out | refine below_set ?_ GE286.out) | exact HB.out)))); have n3_:=Aside0.mk (blk_below (g:=gb285) (o := .cells #[.int .u8 a0_0, .int .u8 a0_1, .int .u8 a0_2, .int .u8 a0_3, .int .u8 a0_4, .string a0_5, .string a0_6, .string a0_7, .string a0_8, .string a0_9, .string a0_10, .string a0_11, .string a0_12, .string a0_13, .string a0_14] 25 (0,0)) (by (with_reducible repeat (first | refine kN ?_ _ | refine kD ?_ | refine kA ?_ _)); exact BK285.out) hb); have n4_:=Aside0.mk (blk_below (g:=gb286) (o := .cells #[.int .u8 a0_0, .int .u8 a0_1, .int .u8 a0_2, .int .u8 a0_3, .int .u8 a0_4] 23 (0,0)) (by (with_reducible repeat (first | refine kN ?_ _ | refine kD ?_ | refine kA ?_ _)); exact BK286.out) hb); have n5_:=Aside0.mk (below_step (by repeat (first | (with_reducible first | exact HB.out | apply bA | apply bN | apply bD | refine below_set ?_ GE285.out | refine below_set ?_ GE286.out) | exact HB.out)) hb); clear HO_5; clear HO300; clear BK285; clear BK286; clear HB; have HO_5:=n0_; have HO300:=n1_; have HO303:=n2_; have BK285:=n3_; have BK286:=n4_; have HB:=n5_; clear n0_ n1_ n2_ n3_ n4_ n5_; clear hb ho48; have hcv49:=own_string (P:=Tryd.prog) Tryd.underlying28 Tryd.underlying5 Tryd.underlying9 (Kd.own_of_R HO303.out)) | ((with_reducible refine gate_dst (N:=80) rfl ?_); (try (refine gate_guard (by rfl) ?_; dsimp only)); refine Kd.R_lit Kd.string _ 9 ?hg (N:=80) ?hd (xs:=([strOfNums y298,strOfNums y301] : List ByteArray)) (inner:=[.string (strOfNums y298), .string (strOfNums y301)]) (ok:=fun _=>True) (okp:=fun _=>True) ?hr ?hp (fun _ hk=>hk) trivial (Below.refl _ _) (Nat.le_refl _) (by simp) ?_; (case hd=>rfl); (case hg=>rfl); (case hr=>first | (go_simp; done) | (go_simp; rfl)); (case hp=>exact (Reps.one (show Kd.M Kd.string _ _ _ (strOfNums y298) [.string (strOfNums y298)] from rfl) (Reps.one (show Kd.M Kd.string _ _ _ (strOfNums y301) [.string (strOfNums y301)] from rfl) (Reps.none _ _)))); intro v305 w50 ho51 hb hg_ hnew_; clear hg_ hnew_; (first | rw [← Ny304.out] at ho51 | (simp only [Int.reduceToNat] at ho51; rw [← Ny304.out] at ho51)); have n0_:=Aside0.mk (Kd.R_elder' (by (with_reducible repeat (first | apply Kd.R_alloc | apply Kd.R_drewN | apply Kd.R_drew)); exact HO_5.out) (Kd.R_base ho51) hb); have n1_:=Aside0.mk (Kd.R_below (by (with_reducible repeat (first | apply Kd.R_alloc | apply Kd.R_drewN | apply Kd.R_drew)); exact HO300.out) hb); have n2_:=Aside0.mk (Kd.R_below (by (with_reducible repeat (first | apply Kd.R_alloc | apply Kd.R_drewN | apply Kd.R_drew)); exact HO303.out) hb); have n3_:=Aside0.mk (Kd.R_lower (Kd.R_new' ho51 (Kd.R_lt (by (with_reducible repeat (first | apply Kd.R_alloc | apply Kd.R_drewN | apply Kd.R_drew)); exact HO_5.out))) (below_size (by repeat (first | (with_reducible first | exact HB.out | apply bA | apply bN | apply bD | refine below_set ?_ GE285.out | refine below_set ?_ GE286.out) | exact HB.out)))); have n4_:=Aside0.mk (blk_below (g:=gb285) (o := .cells #[.int .u8 a0_0, .int .u8 a0_1, .int .u8 a0_2, .int .u8 a0_3, .int .u8 a0_4, .string a0_5, .string a0_6, .string a0_7, .string a0_8, .string a0_9, .string a0_10, .string a0_11, .string a0_12, .string a0_13, .string a0_14] 25 (0,0)) (by (with_reducible repeat (first | refine kN ?_ _ | refine kD ?_ | refine kA ?_ _)); exact BK285.out) hb); have n5_:=Aside0.mk (blk_below (g:=gb286) (o := .cells #[.int .u8 a0_0, .int .u8 a0_1, .int .u8 a0_2, .int .u8 a0_3, .int .u8 a0_4] 23 (0,0)) (by (with_reducible repeat (first | refine kN ?_ _ | refine kD ?_ | refine kA ?_ _)); exact BK286.out) hb); have n6_:=Aside0.mk (below_step (by repeat (first | (with_reducible first | exact HB.out | apply bA | apply bN | apply bD | refine below_set ?_ GE285.out | refine below_set ?_ GE286.out) | exact HB.out)) hb); clear HO_5; clear HO300; clear HO303; clear BK285; clear BK286; clear HB; have HO_5:=n0_; have HO300:=n1_; have HO303:=n2_; have HO306:=n3_; have BK285:=n4_; have BK286:=n5_; have HB:=n6_; clear n0_ n1_ n2_ n3_ n4_ n5_ n6_; clear hb ho51) | ((with_reducible refine gate_builtin (b := .append) (xs:=#[.tmp 80, .tmp 81]) rfl ?_); (try (refine gate_guard (by rfl) ?_; dsimp only)); at_builtin; refine Kd.R_append_rows Kd.string (w0:=w) w.heap.size rfl (.tmp 80) (.tmp 81) 34 9 (.string ⟨#[]⟩) 16 rfl Tryd.underlying34 info9 rfl (by decide) (by omega) v305 y304 x5_2 _ _ _ (fun k_=>some k_ ≠ (.slice (some ad294) x5_2.length co40 : Value).ownBlock) (fun _=>False) rfl rfl ?aO ?aR (fun _ _ h=>h) (fun _ h=>h.elim) ?aF ?aB ?aS ?aL ?_; (case aR=>repeat (first | exact (Kd.R_reads' HO_5.out).2.2 | (with_reducible refine Kd.C_alloc ?_ _) | (with_reducible refine Kd.C_drewN ?_ _) | (with_reducible refine Kd.C_drew ?_))); (case aB=>exact (by repeat (first | (with_reducible first | exact HB.out | apply bA | apply bN | apply bD | refine below_set ?_ GE285.out | refine below_set ?_ GE286.out) | exact HB.out))); (case aF=>exact (fun k_ hk=>Kd.fresh' (Kd.R_lt (by (with_reducible repeat (first | apply Kd.R_alloc | apply Kd.R_drewN | apply Kd.R_drew)); exact HO_5.out)) k_ hk)); (case aO=>exact (by (with_reducible repeat (first | apply Kd.R_alloc | apply Kd.R_drewN | apply Kd.R_drew)); exact Kd.R_mono HO306.out (fun _ hk=>hk.2))); (case aS=>exact (below_size (by repeat (first | (with_reducible first | exact HB.out | apply bA | apply bN | apply bD | refine below_set ?_ GE285.out | refine below_set ?_ GE286.out) | exact HB.out)))); (case aL=>have:=LMc38.out; omega); intro v308 w52 ho hb hg hat; rw [← Ny307.out] at ho; have n0_:=Aside0.mk (Kd.R_after (ok:=(fun _=>True)) (by (with_reducible repeat (first | apply Kd.R_alloc | apply Kd.R_drewN | apply Kd.R_drew)); exact HO_5.out) hg hat); have n1_:=Aside0.mk (blk_grown (g:=gb285) (o := .cells #[.int .u8 a0_0, .int .u8 a0_1, .int .u8 a0_2, .int .u8 a0_3, .int .u8 a0_4, .string a0_5, .string a0_6, .string a0_7, .string a0_8, .string a0_9, .string a0_10, .string a0_11, .string a0_12, .string a0_13, .string a0_14] 25 (0,0)) (by (with_reducible repeat (first | refine kN ?_ _ | refine kD ?_ | refine kA ?_ _)); exact BK285.out) hg (Kd.R_ne HO306.out BK285.out (by decide))); have n2_:=Aside0.mk (blk_grown (g:=gb286) (o := .cells #[.int .u8 a0_0, .int .u8 a0_1, .int .u8 a0_2, .int .u8 a0_3, .int .u8 a0_4] 23 (0,0)) (by (with_reducible repeat (first | refine kN ?_ _ | refine kD ?_ | refine kA ?_ _)); exact BK286.out) hg (Kd.R_ne HO306.out BK286.out (by decide))); have n3_:=Aside0.mk (Kd.R_over' (by (with_reducible repeat (first | apply Kd.R_alloc | apply Kd.R_drewN | apply Kd.R_drew)); exact HO300.out) (Kd.R_typed (by (with_reducible repeat (first | apply Kd.R_alloc | apply Kd.R_drewN | apply Kd.R_drew)); exact HO306.out)) (by decide) hg); have n4_:=Aside0.mk (Kd.R_over' (by (with_reducible repeat (first | apply Kd.R_alloc | apply Kd.R_drewN | apply Kd.R_drew)); exact HO303.out) (Kd.R_typed (by (with_reducible repeat (first | apply Kd.R_alloc | apply Kd.R_drewN | apply Kd.R_drew)); exact HO306.out)) (by decide) hg); have n5_:=Aside0.mk (hb); have n6_:=Aside0.mk (ho); clear HO_5; clear BK285; clear BK286; clear HO300; clear HO303; clear HB; clear HO306; have HO_5:=n0_; have BK285:=n1_; have BK286:=n2_; have HO300:=n3_; have HO303:=n4_; have HB:=n5_; have HO309:=n6_; clear n0_ n1_ n2_ n3_ n4_ n5_ n6_; clear ho hb hg hat; have hcz53_0:w52.cell? ⟨gb286,0,none⟩=some (.int .u8 a0_0):=blk_cell BK286.out 0; have hcz53_1:w52.cell? ⟨gb286,1,none⟩=some (.int .u8 a0_1):=blk_cell BK286.out 1; have hcz53_2:w52.cell? ⟨gb286,2,none⟩=some (.int .u8 a0_2):=blk_cell BK286.out 2; have hcz53_3:w52.cell? ⟨gb286,3,none⟩=some (.int .u8 a0_3):=blk_cell BK286.out 3; have hcz53_4:w52.cell? ⟨gb286,4,none⟩=some (.int .u8 a0_4):=blk_cell BK286.out 4; have hfz53_0:=blk_frozen BK286.out 0; have hfz53_1:=blk_frozen BK286.out 1; have hfz53_2:=blk_frozen BK286.out 2; have hfz53_3:=blk_frozen BK286.out 3; have hfz53_4:=blk_frozen BK286.out 4; obtain ⟨Ao54,co54,eo54⟩:=Kd.R_slice HO309.out; subst eo54) | (go_at_call 28; (with_reducible refine (lamplighterref08_Make.calls k2 a0_0 a0_1 a0_2 a0_3 a0_4 (⟨#[77,83,72]⟩ : ByteArray) _ _ y307 t310 _ ?side1 ?side2 A39.out).mono ?_); (case side1=>repeat (first | exact (Kd.R_reads' HO309.out).2.2 | (with_reducible refine Kd.C_alloc ?_ _) | (with_reducible refine Kd.C_drewN ?_ _) | (with_reducible refine Kd.C_drew ?_))); (case side2=>exact (Kd.R_reads' HO309.out).2.1); rintro e w55 ⟨rfl,hb⟩; have n0_:=Aside0.mk (Kd.R_below (by (with_reducible repeat (first | apply Kd.R_alloc | apply Kd.R_drewN | apply Kd.R_drew)); exact HO_5.out) hb); have n1_:=Aside0.mk (Kd.R_below (by (with_reducible repeat (first | apply Kd.R_alloc | apply Kd.R_drewN | apply Kd.R_drew)); exact HO300.out) hb); have n2_:=Aside0.mk (Kd.R_below (by (with_reducible repeat (first | apply Kd.R_alloc | apply Kd.R_drewN | apply Kd.R_drew)); exact HO303.out) hb); have n3_:=Aside0.mk (Kd.R_below (by (with_reducible repeat (first | apply Kd.R_alloc | apply Kd.R_drewN | apply Kd.R_drew)); exact HO309.out) hb); have n4_:=Aside0.mk (blk_below (g:=gb285) (o := .cells #[.int .u8 a0_0, .int .u8 a0_1, .int .u8 a0_2, .int .u8 a0_3, .int .u8 a0_4, .string a0_5, .string a0_6, .string a0_7, .string a0_8, .string a0_9, .string a0_10, .string a0_11, .string a0_12, .string a0_13, .string a0_14] 25 (0,0)) (by (with_reducible repeat (first | refine kN ?_ _ | refine kD ?_ | refine kA ?_ _)); exact BK285.out) hb); have n5_:=Aside0.mk (blk_below (g:=gb286) (o := .cells #[.int .u8 a0_0, .int .u8 a0_1, .int .u8 a0_2, .int .u8 a0_3, .int .u8 a0_4] 23 (0,0)) (by (with_reducible repeat (first | refine kN ?_ _ | refine kD ?_ | refine kA ?_ _)); exact BK286.out) hb); have n6_:=Aside0.mk (below_step (by repeat (first | (with_reducible first | exact HB.out | apply bA | apply bN | apply bD | refine below_set ?_ GE285.out | refine below_set ?_ GE286.out) | exact HB.out)) hb); clear HO_5; clear HO300; clear HO303; clear HO309; clear BK285; clear BK286; clear HB; have HO_5:=n0_; have HO300:=n1_; have HO303:=n2_; have HO309:=n3_; have BK285:=n4_; have BK286:=n5_; have HB:=n6_; clear n0_ n1_ n2_ n3_ n4_ n5_ n6_; (try clear hb)))
            go_ret2
            exact ⟨by first | rfl | (simp [errW_none,errW_some] <;> rfl) | (simp only [← hji31]; first | rfl | (simp [errW_none,errW_some] <;> rfl)) | (simp [*,errW_none,errW_some] <;> rfl),by repeat (first | (with_reducible first | exact HB.out | apply bA | apply bN | apply bD | refine below_set ?_ GE285.out | refine below_set ?_ GE286.out) | exact HB.out)⟩
           ·rw [if_neg c38] at H
            exact absurd H (by simp)
         ·rw [if_neg c33] at H
          exact absurd H (by simp)
        ·rw [if_neg c32] at H
         exact absurd H (by simp)
       ·rw [if_neg c30] at H
        have c30b0:decide (0 < (x5_2.length : Int))=false:=decide_eq_false c30
        have c30b1:decide (0 < x5_2.length)=false:=decide_eq_false (by omega)
        clear c30
        obtain ⟨y311,hy311⟩ : ∃ y_ : List Int,y_=(([a0_0] : List Int)):=⟨_,rfl⟩
        replace H : ((some (([strOfNums y311,strOfNums (([a0_1,a0_2,a0_3,a0_4] : List Int))] : List ByteArray) : List ByteArray)).bind fun y317=>(if y317.length + x5_2.length < 8796093022208 then ((lamplighterref08_Make.f k2 a0_0 a0_1 a0_2 a0_3 a0_4 (⟨#[77,83,72]⟩ : ByteArray) (y317 ++ x5_2)).bind fun t323=>(some (t323,0))) else (none)))=some (r1,r2):=by first | (rw [hy311]; with_reducible exact H) | (have H2_:=(Option.bind_some _ _).symm.trans H; rw [hy311]; with_reducible exact H2_) | (have H2_:=(Option.bind_some _ _).symm.trans H; with_reducible exact H2_) | with_reducible exact H | (rw [hy311]; exact H) | exact H
        have Ny311:=Aside0.mk hy311
        clear hy311
        obtain ⟨y314,hy314⟩ : ∃ y_ : List Int,y_=(([a0_1,a0_2,a0_3,a0_4] : List Int)):=⟨_,rfl⟩
        replace H : ((some (([strOfNums y311,strOfNums y314] : List ByteArray) : List ByteArray)).bind fun y317=>(if y317.length + x5_2.length < 8796093022208 then ((lamplighterref08_Make.f k2 a0_0 a0_1 a0_2 a0_3 a0_4 (⟨#[77,83,72]⟩ : ByteArray) (y317 ++ x5_2)).bind fun t323=>(some (t323,0))) else (none)))=some (r1,r2):=by first | (rw [hy314]; with_reducible exact H) | (have H2_:=(Option.bind_some _ _).symm.trans H; rw [hy314]; with_reducible exact H2_) | (have H2_:=(Option.bind_some _ _).symm.trans H; with_reducible exact H2_) | with_reducible exact H | (rw [hy314]; exact H) | exact H
        have Ny314:=Aside0.mk hy314
        clear hy314
        obtain ⟨y317,hy317⟩ : ∃ y_ : List ByteArray,y_=(([strOfNums y311,strOfNums y314] : List ByteArray)):=⟨_,rfl⟩
        replace H : (if y317.length + x5_2.length < 8796093022208 then ((lamplighterref08_Make.f k2 a0_0 a0_1 a0_2 a0_3 a0_4 (⟨#[77,83,72]⟩ : ByteArray) (y317 ++ x5_2)).bind fun t323=>(some (t323,0))) else (none))=some (r1,r2):=by first | (rw [hy317]; with_reducible exact H) | (have H2_:=(Option.bind_some _ _).symm.trans H; rw [hy317]; with_reducible exact H2_) | (have H2_:=(Option.bind_some _ _).symm.trans H; with_reducible exact H2_) | with_reducible exact H | (rw [hy317]; exact H) | exact H
        have Ny317:=Aside0.mk hy317
        clear hy317
        by_cases c56 : y317.length + x5_2.length < 8796093022208
        ·rw [if_pos c56] at H
         have LMc56:=Aside0.mk c56
         clear c56
         obtain ⟨y320,hy320⟩ : ∃ y_ : List ByteArray,y_=(y317 ++ x5_2):=⟨_,rfl⟩
         replace H : ((lamplighterref08_Make.f k2 a0_0 a0_1 a0_2 a0_3 a0_4 (⟨#[77,83,72]⟩ : ByteArray) y320).bind fun t323=>(some (t323,0)))=some (r1,r2):=by first | (rw [hy320]; with_reducible exact H) | (have H2_:=(Option.bind_some _ _).symm.trans H; rw [hy320]; with_reducible exact H2_) | (have H2_:=(Option.bind_some _ _).symm.trans H; with_reducible exact H2_) | with_reducible exact H | (rw [hy320]; exact H) | exact H
         have Ny320:=Aside0.mk hy320
         clear hy320
         replace H:=Option.bind_eq_some_iff.mp H
         obtain ⟨t323,A570,H⟩:=H
         replace H : (some (t323,0))=some (r1,r2):=H
         have A57:=Aside0.mk A570
         clear A570
         simp only [Option.some.injEq,Prod.mk.injEq] at H
         obtain ⟨rfl,rfl⟩:=H
         obtain ⟨Ao58,co58,eo58⟩:=Kd.R_slice HO_5.out
         subst eo58
         have hnb59:=NB286_285.out
         have hnc59:=NB285_286.out
         have hcz60_0:wr.cell? ⟨gb286,0,none⟩=some (.int .u8 a0_0):=blk_cell BK286.out 0
         have hcz60_1:wr.cell? ⟨gb286,1,none⟩=some (.int .u8 a0_1):=blk_cell BK286.out 1
         have hcz60_2:wr.cell? ⟨gb286,2,none⟩=some (.int .u8 a0_2):=blk_cell BK286.out 2
         have hcz60_3:wr.cell? ⟨gb286,3,none⟩=some (.int .u8 a0_3):=blk_cell BK286.out 3
         have hcz60_4:wr.cell? ⟨gb286,4,none⟩=some (.int .u8 a0_4):=blk_cell BK286.out 4
         have hfz60_0:=blk_frozen BK286.out 0
         have hfz60_1:=blk_frozen BK286.out 1
         have hfz60_2:=blk_frozen BK286.out 2
         have hfz60_3:=blk_frozen BK286.out 3
         have hfz60_4:=blk_frozen BK286.out 4
         go_wp2_with (first | ((with_reducible refine gate_dst (N:=68) rfl ?_); (try (refine gate_guard (by rfl) ?_; dsimp only)); refine Kd.R_lit (Kd.int .u8) _ 5 ?hg (N:=68) ?hd (xs:=([a0_0] : List Int)) (inner:=[.int .u8 a0_0]) (ok:=fun _=>True) (okp:=fun _=>True) ?hr ?hp (fun _ hk=>hk) trivial (Below.refl _ _) (Nat.le_refl _) (by simp) ?_; (case hd=>rfl); (case hg=>rfl); (case hr=>first | (go_simp; done) | (go_simp; rfl)); (case hp=>exact (Reps.one (show Kd.M (Kd.int .u8) _ _ _ a0_0 [.int .u8 a0_0] from rfl) (Reps.none _ _))); intro v312 w61 ho62 hb hg_ hnew_; clear hg_ hnew_; (first | rw [← Ny311.out] at ho62 | (simp only [Int.reduceToNat] at ho62; rw [← Ny311.out] at ho62)); have n0_:=Aside0.mk (Kd.R_below (by (with_reducible repeat (first | apply Kd.R_alloc | apply Kd.R_drewN | apply Kd.R_drew)); exact HO_5.out) hb); have n1_:=Aside0.mk (Kd.R_lower ho62 (below_size (by repeat (first | (with_reducible first | exact HB.out | apply bA | apply bN | apply bD | refine below_set ?_ GE285.out | refine below_set ?_ GE286.out) | exact HB.out)))); have n2_:=Aside0.mk (blk_below (g:=gb285) (o := .cells #[.int .u8 a0_0, .int .u8 a0_1, .int .u8 a0_2, .int .u8 a0_3, .int .u8 a0_4, .string a0_5, .string a0_6, .string a0_7, .string a0_8, .string a0_9, .string a0_10, .string a0_11, .string a0_12, .string a0_13, .string a0_14] 25 (0,0)) (by (with_reducible repeat (first | refine kN ?_ _ | refine kD ?_ | refine kA ?_ _)); exact BK285.out) hb); have n3_:=Aside0.mk (blk_below (g:=gb286) (o := .cells #[.int .u8 a0_0, .int .u8 a0_1, .int .u8 a0_2, .int .u8 a0_3, .int .u8 a0_4] 23 (0,0)) (by (with_reducible repeat (first | refine kN ?_ _ | refine kD ?_ | refine kA ?_ _)); exact BK286.out) hb); have n4_:=Aside0.mk (below_step (by repeat (first | (with_reducible first | exact HB.out | apply bA | apply bN | apply bD | refine below_set ?_ GE285.out | refine below_set ?_ GE286.out) | exact HB.out)) hb); clear HO_5; clear BK285; clear BK286; clear HB; have HO_5:=n0_; have HO313:=n1_; have BK285:=n2_; have BK286:=n3_; have HB:=n4_; clear n0_ n1_ n2_ n3_ n4_; clear hb ho62; have hcv63:=own_string (P:=Tryd.prog) Tryd.underlying28 Tryd.underlying5 Tryd.underlying9 (Kd.own_of_R HO313.out); have hcz64_0:w61.cell? ⟨gb286,0,none⟩=some (.int .u8 a0_0):=blk_cell BK286.out 0; have hcz64_1:w61.cell? ⟨gb286,1,none⟩=some (.int .u8 a0_1):=blk_cell BK286.out 1; have hcz64_2:w61.cell? ⟨gb286,2,none⟩=some (.int .u8 a0_2):=blk_cell BK286.out 2; have hcz64_3:w61.cell? ⟨gb286,3,none⟩=some (.int .u8 a0_3):=blk_cell BK286.out 3; have hcz64_4:w61.cell? ⟨gb286,4,none⟩=some (.int .u8 a0_4):=blk_cell BK286.out 4; have hfz64_0:=blk_frozen BK286.out 0; have hfz64_1:=blk_frozen BK286.out 1; have hfz64_2:=blk_frozen BK286.out 2; have hfz64_3:=blk_frozen BK286.out 3; have hfz64_4:=blk_frozen BK286.out 4) | ((with_reducible refine gate_dst (N:=78) rfl ?_); (try (refine gate_guard (by rfl) ?_; dsimp only)); refine Kd.R_lit (Kd.int .u8) _ 5 ?hg (N:=78) ?hd (xs:=([a0_1,a0_2,a0_3,a0_4] : List Int)) (inner:=[.int .u8 a0_1, .int .u8 a0_2, .int .u8 a0_3, .int .u8 a0_4]) (ok:=fun _=>True) (okp:=fun _=>True) ?hr ?hp (fun _ hk=>hk) trivial (Below.refl _ _) (Nat.le_refl _) (by simp) ?_; (case hd=>rfl); (case hg=>rfl); (case hr=>first | (go_simp; done) | (go_simp; rfl)); (case hp=>exact (Reps.one (show Kd.M (Kd.int .u8) _ _ _ a0_1 [.int .u8 a0_1] from rfl) (Reps.one (show Kd.M (Kd.int .u8) _ _ _ a0_2 [.int .u8 a0_2] from rfl) (Reps.one (show Kd.M (Kd.int .u8) _ _ _ a0_3 [.int .u8 a0_3] from rfl) (Reps.one (show Kd.M (Kd.int .u8) _ _ _ a0_4 [.int .u8 a0_4] from rfl) (Reps.none _ _)))))); intro v315 w65 ho66 hb hg_ hnew_; clear hg_ hnew_; (first | rw [← Ny314.out] at ho66 | (simp only [Int.reduceToNat] at ho66; rw [← Ny314.out] at ho66)); have n0_:=Aside0.mk (Kd.R_below (by (with_reducible repeat (first | apply Kd.R_alloc | apply Kd.R_drewN | apply Kd.R_drew)); exact HO_5.out) hb); have n1_:=Aside0.mk (Kd.R_elder' (by (with_reducible repeat (first | apply Kd.R_alloc | apply Kd.R_drewN | apply Kd.R_drew)); exact HO313.out) (Kd.R_base ho66) hb); have n2_:=Aside0.mk (Kd.R_lower (Kd.R_new' ho66 (Kd.R_lt (by (with_reducible repeat (first | apply Kd.R_alloc | apply Kd.R_drewN | apply Kd.R_drew)); exact HO313.out))) (below_size (by repeat (first | (with_reducible first | exact HB.out | apply bA | apply bN | apply bD | refine below_set ?_ GE285.out | refine below_set ?_ GE286.out) | exact HB.out)))); have n3_:=Aside0.mk (blk_below (g:=gb285) (o := .cells #[.int .u8 a0_0, .int .u8 a0_1, .int .u8 a0_2, .int .u8 a0_3, .int .u8 a0_4, .string a0_5, .string a0_6, .string a0_7, .string a0_8, .string a0_9, .string a0_10, .string a0_11, .string a0_12, .string a0_13, .string a0_14] 25 (0,0)) (by (with_reducible repeat (first | refine kN ?_ _ | refine kD ?_ | refine kA ?_ _)); exact BK285.out) hb); have n4_:=Aside0.mk (blk_below (g:=gb286) (o := .cells #[.int .u8 a0_0, .int .u8 a0_1, .int .u8 a0_2, .int .u8 a0_3, .int .u8 a0_4] 23 (0,0)) (by (with_reducible repeat (first | refine kN ?_ _ | refine kD ?_ | refine kA ?_ _)); exact BK286.out) hb); have n5_:=Aside0.mk (below_step (by repeat (first | (with_reducible first | exact HB.out | apply bA | apply bN | apply bD | refine below_set ?_ GE285.out | refine below_set ?_ GE286.out) | exact HB.out)) hb); clear HO_5; clear HO313; clear BK285; clear BK286; clear HB; have HO_5:=n0_; have HO313:=n1_; have HO316:=n2_; have BK285:=n3_; have BK286:=n4_; have HB:=n5_; clear n0_ n1_ n2_ n3_ n4_ n5_; clear hb ho66; have hcv67:=own_string (P:=Tryd.prog) Tryd.underlying28 Tryd.underlying5 Tryd.underlying9 (Kd.own_of_R HO316.out)) | ((with_reducible refine gate_dst (N:=80) rfl ?_); (try (refine gate_guard (by rfl) ?_; dsimp only)); refine Kd.R_lit Kd.string _ 9 ?hg (N:=80) ?hd (xs:=([strOfNums y311,strOfNums y314] : List ByteArray)) (inner:=[.string (strOfNums y311), .string (strOfNums y314)]) (ok:=fun _=>True) (okp:=fun _=>True) ?hr ?hp (fun _ hk=>hk) trivial (Below.refl _ _) (Nat.le_refl _) (by simp) ?_; (case hd=>rfl); (case hg=>rfl); (case hr=>first | (go_simp; done) | (go_simp; rfl)); (case hp=>exact (Reps.one (show Kd.M Kd.string _ _ _ (strOfNums y311) [.string (strOfNums y311)] from rfl) (Reps.one (show Kd.M Kd.string _ _ _ (strOfNums y314) [.string (strOfNums y314)] from rfl) (Reps.none _ _)))); intro v318 w68 ho69 hb hg_ hnew_; clear hg_ hnew_; (first | rw [← Ny317.out] at ho69 | (simp only [Int.reduceToNat] at ho69; rw [← Ny317.out] at ho69)); have n0_:=Aside0.mk (Kd.R_elder' (by (with_reducible repeat (first | apply Kd.R_alloc | apply Kd.R_drewN | apply Kd.R_drew)); exact HO_5.out) (Kd.R_base ho69) hb); have n1_:=Aside0.mk (Kd.R_below (by (with_reducible repeat (first | apply Kd.R_alloc | apply Kd.R_drewN | apply Kd.R_drew)); exact HO313.out) hb); have n2_:=Aside0.mk (Kd.R_below (by (with_reducible repeat (first | apply Kd.R_alloc | apply Kd.R_drewN | apply Kd.R_drew)); exact HO316.out) hb); have n3_:=Aside0.mk (Kd.R_lower (Kd.R_new' ho69 (Kd.R_lt (by (with_reducible repeat (first | apply Kd.R_alloc | apply Kd.R_drewN | apply Kd.R_drew)); exact HO_5.out))) (below_size (by repeat (first | (with_reducible first | exact HB.out | apply bA | apply bN | apply bD | refine below_set ?_ GE285.out | refine below_set ?_ GE286.out) | exact HB.out)))); have n4_:=Aside0.mk (blk_below (g:=gb285) (o := .cells #[.int .u8 a0_0, .int .u8 a0_1, .int .u8 a0_2, .int .u8 a0_3, .int .u8 a0_4, .string a0_5, .string a0_6, .string a0_7, .string a0_8, .string a0_9, .string a0_10, .string a0_11, .string a0_12, .string a0_13, .string a0_14] 25 (0,0)) (by (with_reducible repeat (first | refine kN ?_ _ | refine kD ?_ | refine kA ?_ _)); exact BK285.out) hb); have n5_:=Aside0.mk (blk_below (g:=gb286) (o := .cells #[.int .u8 a0_0, .int .u8 a0_1, .int .u8 a0_2, .int .u8 a0_3, .int .u8 a0_4] 23 (0,0)) (by (with_reducible repeat (first | refine kN ?_ _ | refine kD ?_ | refine kA ?_ _)); exact BK286.out) hb); have n6_:=Aside0.mk (below_step (by repeat (first | (with_reducible first | exact HB.out | apply bA | apply bN | apply bD | refine below_set ?_ GE285.out | refine below_set ?_ GE286.out) | exact HB.out)) hb); clear HO_5; clear HO313; clear HO316; clear BK285; clear BK286; clear HB; have HO_5:=n0_; have HO313:=n1_; have HO316:=n2_; have HO319:=n3_; have BK285:=n4_; have BK286:=n5_; have HB:=n6_; clear n0_ n1_ n2_ n3_ n4_ n5_ n6_; clear hb ho69) | ((with_reducible refine gate_builtin (b := .append) (xs:=#[.tmp 80, .tmp 81]) rfl ?_); (try (refine gate_guard (by rfl) ?_; dsimp only)); at_builtin; refine Kd.R_append_rows Kd.string (w0:=w) w.heap.size rfl (.tmp 80) (.tmp 81) 34 9 (.string ⟨#[]⟩) 16 rfl Tryd.underlying34 info9 rfl (by decide) (by omega) v318 y317 x5_2 _ _ _ (fun k_=>some k_ ≠ (.slice Ao58 x5_2.length co58 : Value).ownBlock) (fun _=>False) rfl rfl ?aO ?aR (fun _ _ h=>h) (fun _ h=>h.elim) ?aF ?aB ?aS ?aL ?_; (case aR=>repeat (first | exact (Kd.R_reads' HO_5.out).2.2 | (with_reducible refine Kd.C_alloc ?_ _) | (with_reducible refine Kd.C_drewN ?_ _) | (with_reducible refine Kd.C_drew ?_))); (case aB=>exact (by repeat (first | (with_reducible first | exact HB.out | apply bA | apply bN | apply bD | refine below_set ?_ GE285.out | refine below_set ?_ GE286.out) | exact HB.out))); (case aF=>exact (fun k_ hk=>Kd.fresh' (Kd.R_lt (by (with_reducible repeat (first | apply Kd.R_alloc | apply Kd.R_drewN | apply Kd.R_drew)); exact HO_5.out)) k_ hk)); (case aO=>exact (by (with_reducible repeat (first | apply Kd.R_alloc | apply Kd.R_drewN | apply Kd.R_drew)); exact Kd.R_mono HO319.out (fun _ hk=>hk.2))); (case aS=>exact (below_size (by repeat (first | (with_reducible first | exact HB.out | apply bA | apply bN | apply bD | refine below_set ?_ GE285.out | refine below_set ?_ GE286.out) | exact HB.out)))); (case aL=>have:=LMc56.out; omega); intro v321 w70 ho hb hg hat; rw [← Ny320.out] at ho; have n0_:=Aside0.mk (Kd.R_after (ok:=(fun _=>True)) (by (with_reducible repeat (first | apply Kd.R_alloc | apply Kd.R_drewN | apply Kd.R_drew)); exact HO_5.out) hg hat); have n1_:=Aside0.mk (blk_grown (g:=gb285) (o := .cells #[.int .u8 a0_0, .int .u8 a0_1, .int .u8 a0_2, .int .u8 a0_3, .int .u8 a0_4, .string a0_5, .string a0_6, .string a0_7, .string a0_8, .string a0_9, .string a0_10, .string a0_11, .string a0_12, .string a0_13, .string a0_14] 25 (0,0)) (by (with_reducible repeat (first | refine kN ?_ _ | refine kD ?_ | refine kA ?_ _)); exact BK285.out) hg (Kd.R_ne HO319.out BK285.out (by decide))); have n2_:=Aside0.mk (blk_grown (g:=gb286) (o := .cells #[.int .u8 a0_0, .int .u8 a0_1, .int .u8 a0_2, .int .u8 a0_3, .int .u8 a0_4] 23 (0,0)) (by (with_reducible repeat (first | refine kN ?_ _ | refine kD ?_ | refine kA ?_ _)); exact BK286.out) hg (Kd.R_ne HO319.out BK286.out (by decide))); have n3_:=Aside0.mk (Kd.R_over' (by (with_reducible repeat (first | apply Kd.R_alloc | apply Kd.R_drewN | apply Kd.R_drew)); exact HO313.out) (Kd.R_typed (by (with_reducible repeat (first | apply Kd.R_alloc | apply Kd.R_drewN | apply Kd.R_drew)); exact HO319.out)) (by decide) hg); have n4_:=Aside0.mk (Kd.R_over' (by (with_reducible repeat (first | apply Kd.R_alloc | apply Kd.R_drewN | apply Kd.R_drew)); exact HO316.out) (Kd.R_typed (by (with_reducible repeat (first | apply Kd.R_alloc | apply Kd.R_drewN | apply Kd.R_drew)); exact HO319.out)) (by decide) hg); have n5_:=Aside0.mk (hb); have n6_:=Aside0.mk (ho); clear HO_5; clear BK285; clear BK286; clear HO313; clear HO316; clear HB; clear HO319; have HO_5:=n0_; have BK285:=n1_; have BK286:=n2_; have HO313:=n3_; have HO316:=n4_; have HB:=n5_; have HO322:=n6_; clear n0_ n1_ n2_ n3_ n4_ n5_ n6_; clear ho hb hg hat; have hcz71_0:w70.cell? ⟨gb286,0,none⟩=some (.int .u8 a0_0):=blk_cell BK286.out 0; have hcz71_1:w70.cell? ⟨gb286,1,none⟩=some (.int .u8 a0_1):=blk_cell BK286.out 1; have hcz71_2:w70.cell? ⟨gb286,2,none⟩=some (.int .u8 a0_2):=blk_cell BK286.out 2; have hcz71_3:w70.cell? ⟨gb286,3,none⟩=some (.int .u8 a0_3):=blk_cell BK286.out 3; have hcz71_4:w70.cell? ⟨gb286,4,none⟩=some (.int .u8 a0_4):=blk_cell BK286.out 4; have hfz71_0:=blk_frozen BK286.out 0; have hfz71_1:=blk_frozen BK286.out 1; have hfz71_2:=blk_frozen BK286.out 2; have hfz71_3:=blk_frozen BK286.out 3; have hfz71_4:=blk_frozen BK286.out 4; obtain ⟨Ao72,co72,eo72⟩:=Kd.R_slice HO322.out; subst eo72) | (go_at_call 28; (with_reducible refine (lamplighterref08_Make.calls k2 a0_0 a0_1 a0_2 a0_3 a0_4 (⟨#[77,83,72]⟩ : ByteArray) _ _ y320 t323 _ ?side1 ?side2 A57.out).mono ?_); (case side1=>repeat (first | exact (Kd.R_reads' HO322.out).2.2 | (with_reducible refine Kd.C_alloc ?_ _) | (with_reducible refine Kd.C_drewN ?_ _) | (with_reducible refine Kd.C_drew ?_))); (case side2=>exact (Kd.R_reads' HO322.out).2.1); rintro e w73 ⟨rfl,hb⟩; have n0_:=Aside0.mk (Kd.R_below (by (with_reducible repeat (first | apply Kd.R_alloc | apply Kd.R_drewN | apply Kd.R_drew)); exact HO_5.out) hb); have n1_:=Aside0.mk (Kd.R_below (by (with_reducible repeat (first | apply Kd.R_alloc | apply Kd.R_drewN | apply Kd.R_drew)); exact HO313.out) hb); have n2_:=Aside0.mk (Kd.R_below (by (with_reducible repeat (first | apply Kd.R_alloc | apply Kd.R_drewN | apply Kd.R_drew)); exact HO316.out) hb); have n3_:=Aside0.mk (Kd.R_below (by (with_reducible repeat (first | apply Kd.R_alloc | apply Kd.R_drewN | apply Kd.R_drew)); exact HO322.out) hb); have n4_:=Aside0.mk (blk_below (g:=gb285) (o := .cells #[.int .u8 a0_0, .int .u8 a0_1, .int .u8 a0_2, .int .u8 a0_3, .int .u8 a0_4, .string a0_5, .string a0_6, .string a0_7, .string a0_8, .string a0_9, .string a0_10, .string a0_11, .string a0_12, .string a0_13, .string a0_14] 25 (0,0)) (by (with_reducible repeat (first | refine kN ?_ _ | refine kD ?_ | refine kA ?_ _)); exact BK285.out) hb); have n5_:=Aside0.mk (blk_below (g:=gb286) (o := .cells #[.int .u8 a0_0, .int .u8 a0_1, .int .u8 a0_2, .int .u8 a0_3, .int .u8 a0_4] 23 (0,0)) (by (with_reducible repeat (first | refine kN ?_ _ | refine kD ?_ | refine kA ?_ _)); exact BK286.out) hb); have n6_:=Aside0.mk (below_step (by repeat (first | (with_reducible first | exact HB.out | apply bA | apply bN | apply bD | refine below_set ?_ GE285.out | refine below_set ?_ GE286.out) | exact HB.out)) hb); clear HO_5; clear HO313; clear HO316; clear HO322; clear BK285; clear BK286; clear HB; have HO_5:=n0_; have HO313:=n1_; have HO316:=n2_; have HO322:=n3_; have BK285:=n4_; have BK286:=n5_; have HB:=n6_; clear n0_ n1_ n2_ n3_ n4_ n5_ n6_; (try clear hb)))
         go_ret2
         exact ⟨by first | rfl | (simp [errW_none,errW_some] <;> rfl) | (simp [*,errW_none,errW_some] <;> rfl),by repeat (first | (with_reducible first | exact HB.out | apply bA | apply bN | apply bD | refine below_set ?_ GE285.out | refine below_set ?_ GE286.out) | exact HB.out)⟩
        ·rw [if_neg c56] at H
         exact absurd H (by simp)
 ·replace c3:=Bool.eq_false_iff.mpr c3
  subst c3
  have H1 : (some ((⟨#[]⟩ : ByteArray),11))=some (r1,r2):=by rw [if_neg (show ¬ (false=true) by decide)] at H; exact H
  clear H
  have H:=H1
  clear H1
  simp only [Option.some.injEq,Prod.mk.injEq] at H
  obtain ⟨rfl,rfl⟩:=H
  go_enter Tryd.func26,Tryd.ntmps26
  go_wp2_with (first | ((with_reducible refine gate_dst (N:=1) rfl ?_); (try (refine gate_guard (by rfl) ?_; dsimp only)); refine box_event ?hg (N:=1) ?hd (cs:=#[.int .u8 a0_0, .int .u8 a0_1, .int .u8 a0_2, .int .u8 a0_3, .int .u8 a0_4, .string a0_5, .string a0_6, .string a0_7, .string a0_8, .string a0_9, .string a0_10, .string a0_11, .string a0_12, .string a0_13, .string a0_14]) (t:=25) ?hr ?_; (case hd=>rfl); (case hg=>rfl); (case hr=>first | (go_simp; done) | (go_simp; rfl)); intro gb285 hg w74 hbox hb; have n0_:=Aside0.mk (below_step (by repeat (first | (with_reducible first | exact HB.out | apply bA | apply bN | apply bD) | exact HB.out)) hb); have n1_:=Aside0.mk (hbox); have n2_:=Aside0.mk ((by rw [hg]; exact (below_size (by repeat (first | (with_reducible first | exact HB.out | apply bA | apply bN | apply bD) | exact HB.out))) : w.heap.size≤gb285)); have n3_:=Aside0.mk ((by rw [hg]; exact (below_size (by repeat (first | (with_reducible first | exact HB.out | apply bA | apply bN | apply bD) | exact HB.out))) : w.heap.size≤gb285)); clear HB; have HB:=n0_; have BK285:=n1_; have GW285:=n2_; have GE285:=n3_; clear n0_ n1_ n2_ n3_; clear hb hbox hg; have hcz75_0:w74.cell? ⟨gb285,0,none⟩=some (.int .u8 a0_0):=blk_cell BK285.out 0; have hcz75_1:w74.cell? ⟨gb285,1,none⟩=some (.int .u8 a0_1):=blk_cell BK285.out 1; have hcz75_2:w74.cell? ⟨gb285,2,none⟩=some (.int .u8 a0_2):=blk_cell BK285.out 2; have hcz75_3:w74.cell? ⟨gb285,3,none⟩=some (.int .u8 a0_3):=blk_cell BK285.out 3; have hcz75_4:w74.cell? ⟨gb285,4,none⟩=some (.int .u8 a0_4):=blk_cell BK285.out 4; have hcz75_5:w74.cell? ⟨gb285,5,none⟩=some (.string a0_5):=blk_cell BK285.out 5; have hcz75_6:w74.cell? ⟨gb285,6,none⟩=some (.string a0_6):=blk_cell BK285.out 6; have hcz75_7:w74.cell? ⟨gb285,7,none⟩=some (.string a0_7):=blk_cell BK285.out 7; have hcz75_8:w74.cell? ⟨gb285,8,none⟩=some (.string a0_8):=blk_cell BK285.out 8; have hcz75_9:w74.cell? ⟨gb285,9,none⟩=some (.string a0_9):=blk_cell BK285.out 9; have hcz75_10:w74.cell? ⟨gb285,10,none⟩=some (.string a0_10):=blk_cell BK285.out 10; have hcz75_11:w74.cell? ⟨gb285,11,none⟩=some (.string a0_11):=blk_cell BK285.out 11; have hcz75_12:w74.cell? ⟨gb285,12,none⟩=some (.string a0_12):=blk_cell BK285.out 12; have hcz75_13:w74.cell? ⟨gb285,13,none⟩=some (.string a0_13):=blk_cell BK285.out 13; have hcz75_14:w74.cell? ⟨gb285,14,none⟩=some (.string a0_14):=blk_cell BK285.out 14; have hfz75_0:=blk_frozen BK285.out 0; have hfz75_1:=blk_frozen BK285.out 1; have hfz75_2:=blk_frozen BK285.out 2; have hfz75_3:=blk_frozen BK285.out 3; have hfz75_4:=blk_frozen BK285.out 4; have hfz75_5:=blk_frozen BK285.out 5; have hfz75_6:=blk_frozen BK285.out 6; have hfz75_7:=blk_frozen BK285.out 7; have hfz75_8:=blk_frozen BK285.out 8; have hfz75_9:=blk_frozen BK285.out 9; have hfz75_10:=blk_frozen BK285.out 10; have hfz75_11:=blk_frozen BK285.out 11; have hfz75_12:=blk_frozen BK285.out 12; have hfz75_13:=blk_frozen BK285.out 13; have hfz75_14:=blk_frozen BK285.out 14) | ((with_reducible refine gate_dst (N:=4) rfl ?_); (try (refine gate_guard (by rfl) ?_; dsimp only)); refine box_event ?hg (N:=4) ?hd (cs:=#[.int .u8 0, .int .u8 0, .int .u8 0, .int .u8 0, .int .u8 0]) (t:=23) ?hr ?_; (case hd=>rfl); (case hg=>rfl); (case hr=>first | (go_simp; done) | (go_simp; rfl)); intro gb286 hg w76 hbox hb; have n0_:=Aside0.mk (blk_below (g:=gb285) (o := .cells #[.int .u8 a0_0, .int .u8 a0_1, .int .u8 a0_2, .int .u8 a0_3, .int .u8 a0_4, .string a0_5, .string a0_6, .string a0_7, .string a0_8, .string a0_9, .string a0_10, .string a0_11, .string a0_12, .string a0_13, .string a0_14] 25 (0,0)) (by (with_reducible repeat (first | refine kN ?_ _ | refine kD ?_ | refine kA ?_ _)); exact BK285.out) hb); have n1_:=Aside0.mk (below_step (by repeat (first | (with_reducible first | exact HB.out | apply bA | apply bN | apply bD | refine below_set ?_ GE285.out) | exact HB.out)) hb); have n2_:=Aside0.mk (hbox); have n3_:=Aside0.mk ((by rw [hg]; exact (below_size (by repeat (first | (with_reducible first | exact HB.out | apply bA | apply bN | apply bD | refine below_set ?_ GE285.out) | exact HB.out))) : w.heap.size≤gb286)); have n4_:=Aside0.mk ((by rw [hg]; exact (below_size (by repeat (first | (with_reducible first | exact HB.out | apply bA | apply bN | apply bD | refine below_set ?_ GE285.out) | exact HB.out))) : w.heap.size≤gb286)); have n5_:=Aside0.mk ((by rw [hg]; exact Nat.ne_of_lt (blk_lt (g:=gb285) (o := .cells #[.int .u8 a0_0, .int .u8 a0_1, .int .u8 a0_2, .int .u8 a0_3, .int .u8 a0_4, .string a0_5, .string a0_6, .string a0_7, .string a0_8, .string a0_9, .string a0_10, .string a0_11, .string a0_12, .string a0_13, .string a0_14] 25 (0,0)) (by (with_reducible repeat (first | refine kN ?_ _ | refine kD ?_ | refine kA ?_ _)); exact BK285.out)) : gb285 ≠ gb286)); have n6_:=Aside0.mk ((by rw [hg]; exact Nat.ne_of_gt (blk_lt (g:=gb285) (o := .cells #[.int .u8 a0_0, .int .u8 a0_1, .int .u8 a0_2, .int .u8 a0_3, .int .u8 a0_4, .string a0_5, .string a0_6, .string a0_7, .string a0_8, .string a0_9, .string a0_10, .string a0_11, .string a0_12, .string a0_13, .string a0_14] 25 (0,0)) (by (with_reducible repeat (first | refine kN ?_ _ | refine kD ?_ | refine kA ?_ _)); exact BK285.out)) : gb286 ≠ gb285)); clear BK285; clear HB; have BK285:=n0_; have HB:=n1_; have BK286:=n2_; have GW286:=n3_; have GE286:=n4_; have NB285_286:=n5_; have NB286_285:=n6_; clear n0_ n1_ n2_ n3_ n4_ n5_ n6_; clear hb hbox hg; have hnb77:=NB286_285.out; have hnc77:=NB285_286.out; have hcz78_0:w76.cell? ⟨gb286,0,none⟩=some (.int .u8 0):=blk_cell BK286.out 0; have hcz78_1:w76.cell? ⟨gb286,1,none⟩=some (.int .u8 0):=blk_cell BK286.out 1; have hcz78_2:w76.cell? ⟨gb286,2,none⟩=some (.int .u8 0):=blk_cell BK286.out 2; have hcz78_3:w76.cell? ⟨gb286,3,none⟩=some (.int .u8 0):=blk_cell BK286.out 3; have hcz78_4:w76.cell? ⟨gb286,4,none⟩=some (.int .u8 0):=blk_cell BK286.out 4; have hfz78_0:=blk_frozen BK286.out 0; have hfz78_1:=blk_frozen BK286.out 1; have hfz78_2:=blk_frozen BK286.out 2; have hfz78_3:=blk_frozen BK286.out 3; have hfz78_4:=blk_frozen BK286.out 4) | (go_at_call 44; (with_reducible refine (lamplighterref06_Right.calls k a0_0 a0_1 a0_2 a0_3 a0_4 false _ A2.out).mono ?_); rintro e w79 ⟨rfl,hb⟩; have n0_:=Aside0.mk (blk_below (g:=gb285) (o := .cells #[.int .u8 a0_0, .int .u8 a0_1, .int .u8 a0_2, .int .u8 a0_3, .int .u8 a0_4, .string a0_5, .string a0_6, .string a0_7, .string a0_8, .string a0_9, .string a0_10, .string a0_11, .string a0_12, .string a0_13, .string a0_14] 25 (0,0)) (by (with_reducible repeat (first | refine kN ?_ _ | refine kD ?_ | refine kA ?_ _)); refine blk_far ?_ NB285_286.out _; (with_reducible repeat (first | refine kN ?_ _ | refine kD ?_ | refine kA ?_ _)); refine blk_far ?_ NB285_286.out _; (with_reducible repeat (first | refine kN ?_ _ | refine kD ?_ | refine kA ?_ _)); refine blk_far ?_ NB285_286.out _; (with_reducible repeat (first | refine kN ?_ _ | refine kD ?_ | refine kA ?_ _)); refine blk_far ?_ NB285_286.out _; (with_reducible repeat (first | refine kN ?_ _ | refine kD ?_ | refine kA ?_ _)); refine blk_far ?_ NB285_286.out _; (with_reducible repeat (first | refine kN ?_ _ | refine kD ?_ | refine kA ?_ _)); exact BK285.out) hb); have n1_:=Aside0.mk (blk_below (g:=gb286) (o := .cells #[.int .u8 a0_0, .int .u8 a0_1, .int .u8 a0_2, .int .u8 a0_3, .int .u8 a0_4] 23 (0,0)) (by (with_reducible repeat (first | refine kN ?_ _ | refine kD ?_ | refine kA ?_ _)); refine blk_put (cs:=#[.int .u8 a0_0, .int .u8 a0_1, .int .u8 a0_2, .int .u8 a0_3, .int .u8 0]) ?_ 4 _ rfl; (with_reducible repeat (first | refine kN ?_ _ | refine kD ?_ | refine kA ?_ _)); refine blk_put (cs:=#[.int .u8 a0_0, .int .u8 a0_1, .int .u8 a0_2, .int .u8 0, .int .u8 0]) ?_ 3 _ rfl; (with_reducible repeat (first | refine kN ?_ _ | refine kD ?_ | refine kA ?_ _)); refine blk_put (cs:=#[.int .u8 a0_0, .int .u8 a0_1, .int .u8 0, .int .u8 0, .int .u8 0]) ?_ 2 _ rfl; (with_reducible repeat (first | refine kN ?_ _ | refine kD ?_ | refine kA ?_ _)); refine blk_put (cs:=#[.int .u8 a0_0, .int .u8 0, .int .u8 0, .int .u8 0, .int .u8 0]) ?_ 1 _ rfl; (with_reducible repeat (first | refine kN ?_ _ | refine kD ?_ | refine kA ?_ _)); refine blk_put (cs:=#[.int .u8 0, .int .u8 0, .int .u8 0, .int .u8 0, .int .u8 0]) ?_ 0 _ rfl; (with_reducible repeat (first | refine kN ?_ _ | refine kD ?_ | refine kA ?_ _)); exact BK286.out) hb); have n2_:=Aside0.mk (below_step (by repeat (first | (with_reducible first | exact HB.out | apply bA | apply bN | apply bD | refine below_set ?_ GE285.out | refine below_set ?_ GE286.out) | exact HB.out)) hb); clear BK285; clear BK286; clear HB; have BK285:=n0_; have BK286:=n1_; have HB:=n2_; clear n0_ n1_ n2_; (try clear hb)))
  go_ret2
  exact ⟨by first | rfl | (simp [errW_none,errW_some] <;> rfl) | (simp [*,errW_none,errW_some] <;> rfl),by repeat (first | (with_reducible first | exact HB.out | apply bA | apply bN | apply bD | refine below_set ?_ GE285.out | refine below_set ?_ GE286.out) | exact HB.out)⟩

end Go.Proofs.YtcjcaojgminjpaaDoor.PD
