import Derived.Test.YtcjcaojgminjpaaDoorPDx0
import Derived.Test.YtcjcaojgminjpaaDoorPDx2
import Derived.Test.YtcjcaojgminjpaaDoorPDx8
import Derived.Test.YtcjcaojgminjpaaDoorPDx14
import Derived.Test.YtcjcaojgminjpaaDoorPDx15
namespace Go.Proofs.YtcjcaojgminjpaaDoor.PD
open Go.RowKit Go.Proofs.YtcjcaojgminjpaaDoorW.PrintWords Go.Proofs.YtcjcaojgminjpaaDoorW.PrintLast Go.Proofs.YtcjcaojgminjpaaDoorW.PrintMore
set_option maxHeartbeats 8000000
set_option maxRecDepth 100000
attribute [local go_sem] max2_int min2_int max_two min_two max_three min_three max_four min_four
set_option linter.unusedVariables false
set_option linter.unusedSimpArgs false

/-! ### lamplighterref08_Join: function 27 -/
def lamplighterref08_Join.l0 : Nat→List ByteArray→ByteArray→Int→Option (ByteArray)
 | 0,_,_,_=>none
 | k + 1,x0,x3,x4=>if x4 < (x0.length : Int) then (if 0≤x4 then (if x3.size + (rdOf ByteArray.empty x0 x4).size≤9223372036854775807 then (if (x3 ++ (rdOf ByteArray.empty x0 x4)).size + 1≤9223372036854775807 then (lamplighterref08_Join.l0 k x0 ((x3 ++ (rdOf ByteArray.empty x0 x4)) ++ (⟨#[13]⟩ : ByteArray)) (wrap64 (x4 + 1))) else (none)) else (none)) else (none)) else (some x3)
def lamplighterref08_Join.f (k : Nat) (l0 : List ByteArray) : Option (ByteArray):=lamplighterref08_Join.l0 k l0 (⟨#[]⟩ : ByteArray) 0
theorem lamplighterref08_Join.mono_l : ∀ k,(∀ y0 y1 y2,LeO (lamplighterref08_Join.l0 k y0 y1 y2) (lamplighterref08_Join.l0 (k + 1) y0 y1 y2))
 | 0=>fun _ _ _ r h=>by simp [lamplighterref08_Join.l0] at h
 | k + 1=>by
  have ih0:=lamplighterref08_Join.mono_l k
  ·intro y0 y1 y2
   unfold lamplighterref08_Join.l0
   repeat' first
   | (with_reducible exact ih0 _ _ _)
   | (with_reducible exact LeO.refl _)
   | (with_reducible exact LeO.none _)
   | (with_reducible refine LeO.ite ?_ ?_)
   | (with_reducible refine LeO.bind ?_ (fun _=>?_))
   | exact ih0 _ _ _
   | exact LeO.none _
   | refine LeO.ite ?_ ?_
   | refine LeO.bind ?_ (fun _=>?_)
theorem lamplighterref08_Join.mono : ∀ a0 k,LeO (lamplighterref08_Join.f k a0) (lamplighterref08_Join.f (k + 1) a0):=by
 intro a0 k
 have ih0:=lamplighterref08_Join.mono_l k
 unfold lamplighterref08_Join.f
 repeat' first
   | (with_reducible exact ih0 _ _ _)
   | (with_reducible exact LeO.refl _)
   | (with_reducible exact LeO.none _)
   | (with_reducible refine LeO.ite ?_ ?_)
   | (with_reducible refine LeO.bind ?_ (fun _=>?_))
   | exact ih0 _ _ _
   | exact LeO.none _
   | refine LeO.ite ?_ ?_
   | refine LeO.bind ?_ (fun _=>?_)
theorem lamplighterref08_Join.calls (k : Nat) (A0 : Option Addr) (c0 : Nat) (l0 : List ByteArray) (r : ByteArray) (w : World) (hr0 : Kd.C Kd.string w A0 l0.length l0) (hc0 : l0.length≤c0) (h : lamplighterref08_Join.f k l0=some r) :
  Calls Tryd.prog 27 #[.slice A0 l0.length c0] w fun e w'=>e = .returned (.string r)∧Drawn0 w w':=by
 have HR0:=Aside0.mk hr0
 have HC0:=Aside0.mk hc0
 clear hr0 hc0
 have H : (lamplighterref08_Join.l0 k l0 (⟨#[]⟩ : ByteArray) 0)=some r:=h
 clear h
 have H':=Aside0.mk H
 clear H
 go_enter Tryd.func27,Tryd.ntmps27
 go_wp2
 go_loopg [3,4] k (fun kq v3 v4 w' => ∃ (x3_1 : ByteArray) (x4_1 : Int),v3 = .string x3_1∧v4 = .int .i64 x4_1∧Aside0 (lamplighterref08_Join.l0 kq l0 x3_1 x4_1=some r)∧Aside0 (kq≤k)∧Drawn0 w w')
 case atStart=>exact ⟨((⟨#[]⟩ : ByteArray)),(0),(by first | rfl | (simp; done) | (simp [*]; done)),(by first | rfl | (simp; done) | (simp [*]; done)),H',⟨Nat.le_refl _⟩,by repeat (first | exact Drawn0.refl _ | apply Drawn0.step)⟩
 case round =>
  clear H'
  obtain ⟨x3_1,x4_1,rfl,rfl,HA,HK1,⟨m1,rfl⟩⟩:=hrel
  cases gk with
  | zero=>exact absurd HA.out (by simp [lamplighterref08_Join.l0])
  | succ k1 =>
   have H:=HA.out
   clear HA
   simp only [lamplighterref08_Join.l0] at H
   by_cases c2 : x4_1 < (l0.length : Int)
   ·rw [if_pos c2] at H
    have c2b0:decide (x4_1 < (l0.length : Int))=true:=decide_eq_true c2
    clear c2
    by_cases c3 : 0≤x4_1
    ·rw [if_pos c3] at H
     have c3b0:decide (0≤x4_1)=true:=decide_eq_true c3
     clear c3
     by_cases c4 : x3_1.size + (rdOf ByteArray.empty l0 x4_1).size≤9223372036854775807
     ·rw [if_pos c4] at H
      have c4b0:=eq_true c4
      have c4b1:decide (x3_1.size + (rdOf ByteArray.empty l0 x4_1).size≤9223372036854775807)=true:=decide_eq_true c4
      try have c4b2 : (9223372036854775807 < x3_1.size + (rdOf ByteArray.empty l0 x4_1).size)=False:=eq_false (Nat.not_lt.2 c4)
      try (have c4b4:=c4b2; simp only [ByteArray.size_append] at c4b4)
      by_cases c5 : (x3_1 ++ (rdOf ByteArray.empty l0 x4_1)).size + 1≤9223372036854775807
      ·rw [if_pos c5] at H
       have c5b0:=eq_true c5
       have c5b1:decide ((x3_1 ++ (rdOf ByteArray.empty l0 x4_1)).size + 1≤9223372036854775807)=true:=decide_eq_true c5
       try have c5b2 : (9223372036854775807 < (x3_1 ++ (rdOf ByteArray.empty l0 x4_1)).size + 1)=False:=eq_false (Nat.not_lt.2 c5)
       try (have c5b4:=c5b2; simp only [ByteArray.size_append] at c5b4)
       have H':=Aside0.mk H
       clear H
       have p324:0≤(x4_1 : Int):=of_decide_eq_true (by first | (with_reducible assumption) | assumption)
       have q324:x4_1 < (l0.length : Int):=of_decide_eq_true (by first | (with_reducible assumption) | assumption)
       obtain ⟨ad324,e324,hx324_0⟩:=Kd.at_string HR0.out x4_1 p324 q324
       cases e324
       replace p324:=eq_true p324
       replace q324:=eq_true q324
       go_wp2
       go_roundg k1
       case measure=>have:=HK1.out; omega
       case rel=>exact ⟨((x3_1 ++ (rdOf ByteArray.empty l0 x4_1)) ++ (⟨#[13]⟩ : ByteArray)),(wrap64 (x4_1 + 1)),(by first | rfl | (simp; done) | (simp [*]; done)),(by first | rfl | (simp; done) | (simp [*]; done)),H',⟨by have:=HK1.out; omega⟩,by repeat (first | exact Drawn0.refl _ | apply Drawn0.step)⟩
      ·rw [if_neg c5] at H
       exact absurd H (by simp)
     ·rw [if_neg c4] at H
      exact absurd H (by simp)
    ·rw [if_neg c3] at H
     exact absurd H (by simp)
   ·rw [if_neg c2] at H
    have c2b0:decide (x4_1 < (l0.length : Int))=false:=decide_eq_false c2
    clear c2
    obtain rfl:=Option.some.inj H
    go_wp2
    go_ret
    exact ⟨by first | rfl | (simp; done) | (simp [*]; done),by repeat (first | exact Drawn0.refl _ | apply Drawn0.step)⟩

/-! ### lamplighterref10_Build: function 13 -/
def lamplighterref10_Build.f (k : Nat) (a0_0 : Int) (a0_1 : Int) (a0_2 : Int) (a0_3 : Int) (a0_4 : Int) (a0_5 : ByteArray) (a0_6 : ByteArray) (a0_7 : ByteArray) (a0_8 : ByteArray) (a0_9 : ByteArray) (a0_10 : ByteArray) (a0_11 : ByteArray) (a0_12 : ByteArray) (a0_13 : ByteArray) (a0_14 : ByteArray) (a1 : ByteArray) : Option (ByteArray × Int):=(lamplighterref10_Known.f a1).bind fun t326=>(if t326=true then ((lamplighterref09_Write.f k a0_0 a0_1 a0_2 a0_3 a0_4 a0_7 a0_8 a0_5 a0_6 a0_9 (⟨#[]⟩ : ByteArray) (⟨#[65,67,75]⟩ : ByteArray) a0_12 a0_13 a0_14).bind fun bt328=>(if bt328.2=0 then ((lamplighterref08_Make.f k a0_0 a0_1 a0_2 a0_3 a0_4 (⟨#[77,83,65]⟩ : ByteArray) (([a1,a0_12] : List ByteArray))).bind fun t333=>((lamplighterref08_Join.f k (([bt328.1,t333] : List ByteArray))).bind fun t337=>(some (t337,0)))) else (some ((⟨#[]⟩ : ByteArray),bt328.2)))) else (some ((⟨#[]⟩ : ByteArray),17)))
theorem lamplighterref10_Build.mono : ∀ a0 a1 a2 a3 a4 a5 a6 a7 a8 a9 a10 a11 a12 a13 a14 a15 k,LeO (lamplighterref10_Build.f k a0 a1 a2 a3 a4 a5 a6 a7 a8 a9 a10 a11 a12 a13 a14 a15) (lamplighterref10_Build.f (k + 1) a0 a1 a2 a3 a4 a5 a6 a7 a8 a9 a10 a11 a12 a13 a14 a15):=by
 intro a0 a1 a2 a3 a4 a5 a6 a7 a8 a9 a10 a11 a12 a13 a14 a15 k
 unfold lamplighterref10_Build.f
 repeat' first
   | (with_reducible exact lamplighterref08_Join.mono _ _)
   | (with_reducible exact lamplighterref08_Make.mono _ _ _ _ _ _ _ _)
   | (with_reducible exact lamplighterref09_Write.mono _ _ _ _ _ _ _ _ _ _ _ _ _ _ _ _)
   | (with_reducible exact LeO.refl _)
   | (with_reducible exact LeO.none _)
   | (with_reducible refine LeO.ite ?_ ?_)
   | (with_reducible refine LeO.bind ?_ (fun _=>?_))
   | exact lamplighterref08_Join.mono _ _
   | exact lamplighterref08_Make.mono _ _ _ _ _ _ _ _
   | exact lamplighterref09_Write.mono _ _ _ _ _ _ _ _ _ _ _ _ _ _ _ _
   | exact LeO.none _
   | refine LeO.ite ?_ ?_
   | refine LeO.bind ?_ (fun _=>?_)
theorem lamplighterref10_Build.calls (k : Nat) (a0_0 : Int) (a0_1 : Int) (a0_2 : Int) (a0_3 : Int) (a0_4 : Int) (a0_5 : ByteArray) (a0_6 : ByteArray) (a0_7 : ByteArray) (a0_8 : ByteArray) (a0_9 : ByteArray) (a0_10 : ByteArray) (a0_11 : ByteArray) (a0_12 : ByteArray) (a0_13 : ByteArray) (a0_14 : ByteArray) (a1 : ByteArray) (r1 : ByteArray) (r2 : Int) (w : World) (h : lamplighterref10_Build.f k a0_0 a0_1 a0_2 a0_3 a0_4 a0_5 a0_6 a0_7 a0_8 a0_9 a0_10 a0_11 a0_12 a0_13 a0_14 a1=some (r1,r2)) :
  Calls Tryd.prog 13 #[.agg #[.int .u8 a0_0, .int .u8 a0_1, .int .u8 a0_2, .int .u8 a0_3, .int .u8 a0_4, .string a0_5, .string a0_6, .string a0_7, .string a0_8, .string a0_9, .string a0_10, .string a0_11, .string a0_12, .string a0_13, .string a0_14], .string a1] w fun e w'=>e = .returned (.tuple #[.string r1, .int .i64 r2])∧Below w.heap.size w w':=by
 have hu25:=Tryd.underlying25
 have hu23:=Tryd.underlying23
 have HB:=Aside0.mk (Below.refl w.heap.size w)
 have H : ((lamplighterref10_Known.f a1).bind fun t326=>(if t326=true then ((lamplighterref09_Write.f k a0_0 a0_1 a0_2 a0_3 a0_4 a0_7 a0_8 a0_5 a0_6 a0_9 (⟨#[]⟩ : ByteArray) (⟨#[65,67,75]⟩ : ByteArray) a0_12 a0_13 a0_14).bind fun bt328=>(if bt328.2=0 then ((lamplighterref08_Make.f k a0_0 a0_1 a0_2 a0_3 a0_4 (⟨#[77,83,65]⟩ : ByteArray) (([a1,a0_12] : List ByteArray))).bind fun t333=>((lamplighterref08_Join.f k (([bt328.1,t333] : List ByteArray))).bind fun t337=>(some (t337,0)))) else (some ((⟨#[]⟩ : ByteArray),bt328.2)))) else (some ((⟨#[]⟩ : ByteArray),17))))=some (r1,r2):=h
 clear h
 replace H:=Option.bind_eq_some_iff.mp H
 obtain ⟨t326,A30,H⟩:=H
 replace H : (if t326=true then ((lamplighterref09_Write.f k a0_0 a0_1 a0_2 a0_3 a0_4 a0_7 a0_8 a0_5 a0_6 a0_9 (⟨#[]⟩ : ByteArray) (⟨#[65,67,75]⟩ : ByteArray) a0_12 a0_13 a0_14).bind fun bt328=>(if bt328.2=0 then ((lamplighterref08_Make.f k a0_0 a0_1 a0_2 a0_3 a0_4 (⟨#[77,83,65]⟩ : ByteArray) (([a1,a0_12] : List ByteArray))).bind fun t333=>((lamplighterref08_Join.f k (([bt328.1,t333] : List ByteArray))).bind fun t337=>(some (t337,0)))) else (some ((⟨#[]⟩ : ByteArray),bt328.2)))) else (some ((⟨#[]⟩ : ByteArray),17)))=some (r1,r2):=H
 have A3:=Aside0.mk A30
 clear A30
 by_cases c4 : t326=true
 ·subst c4
  have H1 : ((lamplighterref09_Write.f k a0_0 a0_1 a0_2 a0_3 a0_4 a0_7 a0_8 a0_5 a0_6 a0_9 (⟨#[]⟩ : ByteArray) (⟨#[65,67,75]⟩ : ByteArray) a0_12 a0_13 a0_14).bind fun bt328=>(if bt328.2=0 then ((lamplighterref08_Make.f k a0_0 a0_1 a0_2 a0_3 a0_4 (⟨#[77,83,65]⟩ : ByteArray) (([a1,a0_12] : List ByteArray))).bind fun t333=>((lamplighterref08_Join.f k (([bt328.1,t333] : List ByteArray))).bind fun t337=>(some (t337,0)))) else (some ((⟨#[]⟩ : ByteArray),bt328.2))))=some (r1,r2):=by rw [if_pos rfl] at H; exact H
  clear H
  have H:=H1
  clear H1
  replace H:=Option.bind_eq_some_iff.mp H
  obtain ⟨⟨t328,t329⟩,A50,H⟩:=H
  replace H : (if t329=0 then ((lamplighterref08_Make.f k a0_0 a0_1 a0_2 a0_3 a0_4 (⟨#[77,83,65]⟩ : ByteArray) (([a1,a0_12] : List ByteArray))).bind fun t333=>((lamplighterref08_Join.f k (([t328,t333] : List ByteArray))).bind fun t337=>(some (t337,0)))) else (some ((⟨#[]⟩ : ByteArray),t329)))=some (r1,r2):=H
  have A5:=Aside0.mk A50
  clear A50
  by_cases c6 : t329=0
  ·rw [if_pos c6] at H
   have c6b0 : (t329 == 0)=true:=beq_iff_eq.mpr c6
   have c6b1 : (t329 != 0)=false:=bne_eq_false_iff_eq.mpr c6
   clear c6
   obtain ⟨y330,hy330⟩ : ∃ y_ : List ByteArray,y_=(([a1,a0_12] : List ByteArray)):=⟨_,rfl⟩
   replace H : ((lamplighterref08_Make.f k a0_0 a0_1 a0_2 a0_3 a0_4 (⟨#[77,83,65]⟩ : ByteArray) y330).bind fun t333=>((lamplighterref08_Join.f k (([t328,t333] : List ByteArray))).bind fun t337=>(some (t337,0))))=some (r1,r2):=by first | (rw [hy330]; with_reducible exact H) | (have H2_:=(Option.bind_some _ _).symm.trans H; rw [hy330]; with_reducible exact H2_) | (have H2_:=(Option.bind_some _ _).symm.trans H; with_reducible exact H2_) | with_reducible exact H | (rw [hy330]; exact H) | exact H
   have Ny330:=Aside0.mk hy330
   clear hy330
   replace H:=Option.bind_eq_some_iff.mp H
   obtain ⟨t333,A70,H⟩:=H
   replace H : ((lamplighterref08_Join.f k (([t328,t333] : List ByteArray))).bind fun t337=>(some (t337,0)))=some (r1,r2):=H
   have A7:=Aside0.mk A70
   clear A70
   obtain ⟨y334,hy334⟩ : ∃ y_ : List ByteArray,y_=(([t328,t333] : List ByteArray)):=⟨_,rfl⟩
   replace H : ((lamplighterref08_Join.f k y334).bind fun t337=>(some (t337,0)))=some (r1,r2):=by first | (rw [hy334]; with_reducible exact H) | (have H2_:=(Option.bind_some _ _).symm.trans H; rw [hy334]; with_reducible exact H2_) | (have H2_:=(Option.bind_some _ _).symm.trans H; with_reducible exact H2_) | with_reducible exact H | (rw [hy334]; exact H) | exact H
   have Ny334:=Aside0.mk hy334
   clear hy334
   replace H:=Option.bind_eq_some_iff.mp H
   obtain ⟨t337,A80,H⟩:=H
   replace H : (some (t337,0))=some (r1,r2):=H
   have A8:=Aside0.mk A80
   clear A80
   simp only [Option.some.injEq,Prod.mk.injEq] at H
   obtain ⟨rfl,rfl⟩:=H
   go_enter Tryd.func13,Tryd.ntmps13
   go_wp2_with (first | ((with_reducible refine gate_dst (N:=2) rfl ?_); refine box_event ?hg (N:=2) ?hd (cs:=#[.int .u8 a0_0, .int .u8 a0_1, .int .u8 a0_2, .int .u8 a0_3, .int .u8 a0_4, .string a0_5, .string a0_6, .string a0_7, .string a0_8, .string a0_9, .string a0_10, .string a0_11, .string a0_12, .string a0_13, .string a0_14]) (t:=25) ?hr ?_; (case hd=>rfl); (case hg=>rfl); (case hr=>first | (go_simp; done) | (go_simp; rfl)); intro gb325 hg w9 hbox hb; have n0_:=Aside0.mk (below_step (by repeat (first | (with_reducible first | exact HB.out | apply bA | apply bN | apply bD) | exact HB.out)) hb); have n1_:=Aside0.mk (hbox); have n2_:=Aside0.mk ((by rw [hg]; exact (below_size (by repeat (first | (with_reducible first | exact HB.out | apply bA | apply bN | apply bD) | exact HB.out))) : w.heap.size≤gb325)); have n3_:=Aside0.mk ((by rw [hg]; exact (below_size (by repeat (first | (with_reducible first | exact HB.out | apply bA | apply bN | apply bD) | exact HB.out))) : w.heap.size≤gb325)); clear HB; have HB:=n0_; have BK325:=n1_; have GW325:=n2_; have GE325:=n3_; clear n0_ n1_ n2_ n3_; clear hb hbox hg) | ((with_reducible refine gate_callee (f:=16) rfl ?_); refine goesL_ (some 10) rfl rfl Tryd.func16 (by kernel_rfl) rfl #[.string a1] rfl (by (try simp only [List.map_toArray,List.map_cons,List.map_nil]); first | done | rfl | (simp only [List.length_drop,List.length_take]; rfl)) ?_; (with_reducible refine (lamplighterref10_Known.calls a1 true _ A3.out).mono ?_); rintro e w' ⟨rfl,⟨nd,rfl⟩⟩; refine ⟨_,rfl,?_⟩; (try (rw [drewN_self w9]; generalize hq_ : World.drewN w9 _=w9; have n0_:Aside0 (w9.heap[gb325]?=some (.cells #[.int .u8 a0_0, .int .u8 a0_1, .int .u8 a0_2, .int .u8 a0_3, .int .u8 a0_4, .string a0_5, .string a0_6, .string a0_7, .string a0_8, .string a0_9, .string a0_10, .string a0_11, .string a0_12, .string a0_13, .string a0_14] 25 (0,0))):=⟨by rw [← hq_]; exact (by (with_reducible repeat (first | refine kN ?_ _ | refine kD ?_ | refine kA ?_ _)); exact BK325.out)⟩; have n1_:Aside0 (Below w.heap.size w w9):=⟨by rw [← hq_]; exact (by repeat (first | (with_reducible first | exact HB.out | apply bA | apply bN | apply bD | refine below_set ?_ GE325.out) | exact HB.out))⟩; clear BK325 HB hq_; have BK325:=n0_; have HB:=n1_; clear n0_ n1_)); have hcz10_0:w9.cell? ⟨gb325,0,none⟩=some (.int .u8 a0_0):=blk_cell BK325.out 0; have hcz10_1:w9.cell? ⟨gb325,1,none⟩=some (.int .u8 a0_1):=blk_cell BK325.out 1; have hcz10_2:w9.cell? ⟨gb325,2,none⟩=some (.int .u8 a0_2):=blk_cell BK325.out 2; have hcz10_3:w9.cell? ⟨gb325,3,none⟩=some (.int .u8 a0_3):=blk_cell BK325.out 3; have hcz10_4:w9.cell? ⟨gb325,4,none⟩=some (.int .u8 a0_4):=blk_cell BK325.out 4; have hcz10_5:w9.cell? ⟨gb325,5,none⟩=some (.string a0_5):=blk_cell BK325.out 5; have hcz10_6:w9.cell? ⟨gb325,6,none⟩=some (.string a0_6):=blk_cell BK325.out 6; have hcz10_7:w9.cell? ⟨gb325,7,none⟩=some (.string a0_7):=blk_cell BK325.out 7; have hcz10_8:w9.cell? ⟨gb325,8,none⟩=some (.string a0_8):=blk_cell BK325.out 8; have hcz10_9:w9.cell? ⟨gb325,9,none⟩=some (.string a0_9):=blk_cell BK325.out 9; have hcz10_10:w9.cell? ⟨gb325,10,none⟩=some (.string a0_10):=blk_cell BK325.out 10; have hcz10_11:w9.cell? ⟨gb325,11,none⟩=some (.string a0_11):=blk_cell BK325.out 11; have hcz10_12:w9.cell? ⟨gb325,12,none⟩=some (.string a0_12):=blk_cell BK325.out 12; have hcz10_13:w9.cell? ⟨gb325,13,none⟩=some (.string a0_13):=blk_cell BK325.out 13; have hcz10_14:w9.cell? ⟨gb325,14,none⟩=some (.string a0_14):=blk_cell BK325.out 14; have hfz10_0:=blk_frozen BK325.out 0; have hfz10_1:=blk_frozen BK325.out 1; have hfz10_2:=blk_frozen BK325.out 2; have hfz10_3:=blk_frozen BK325.out 3; have hfz10_4:=blk_frozen BK325.out 4; have hfz10_5:=blk_frozen BK325.out 5; have hfz10_6:=blk_frozen BK325.out 6; have hfz10_7:=blk_frozen BK325.out 7; have hfz10_8:=blk_frozen BK325.out 8; have hfz10_9:=blk_frozen BK325.out 9; have hfz10_10:=blk_frozen BK325.out 10; have hfz10_11:=blk_frozen BK325.out 11; have hfz10_12:=blk_frozen BK325.out 12; have hfz10_13:=blk_frozen BK325.out 13; have hfz10_14:=blk_frozen BK325.out 14) | ((with_reducible refine gate_dst (N:=6) rfl ?_); refine box_event ?hg (N:=6) ?hd (cs:=#[.int .u8 0, .int .u8 0, .int .u8 0, .int .u8 0, .int .u8 0, .string (⟨#[]⟩ : ByteArray), .string (⟨#[]⟩ : ByteArray), .string (⟨#[]⟩ : ByteArray), .string (⟨#[]⟩ : ByteArray), .string (⟨#[]⟩ : ByteArray), .string (⟨#[]⟩ : ByteArray), .string (⟨#[]⟩ : ByteArray), .string (⟨#[]⟩ : ByteArray), .string (⟨#[]⟩ : ByteArray), .string (⟨#[]⟩ : ByteArray)]) (t:=25) ?hr ?_; (case hd=>rfl); (case hg=>rfl); (case hr=>first | (go_simp; done) | (go_simp; rfl)); intro gb327 hg w11 hbox hb; have n0_:=Aside0.mk (blk_below (g:=gb325) (o := .cells #[.int .u8 a0_0, .int .u8 a0_1, .int .u8 a0_2, .int .u8 a0_3, .int .u8 a0_4, .string a0_5, .string a0_6, .string a0_7, .string a0_8, .string a0_9, .string a0_10, .string a0_11, .string a0_12, .string a0_13, .string a0_14] 25 (0,0)) (by (with_reducible repeat (first | refine kN ?_ _ | refine kD ?_ | refine kA ?_ _)); exact BK325.out) hb); have n1_:=Aside0.mk (below_step (by repeat (first | (with_reducible first | exact HB.out | apply bA | apply bN | apply bD | refine below_set ?_ GE325.out) | exact HB.out)) hb); have n2_:=Aside0.mk (hbox); have n3_:=Aside0.mk ((by rw [hg]; exact (below_size (by repeat (first | (with_reducible first | exact HB.out | apply bA | apply bN | apply bD | refine below_set ?_ GE325.out) | exact HB.out))) : w.heap.size≤gb327)); have n4_:=Aside0.mk ((by rw [hg]; exact (below_size (by repeat (first | (with_reducible first | exact HB.out | apply bA | apply bN | apply bD | refine below_set ?_ GE325.out) | exact HB.out))) : w.heap.size≤gb327)); have n5_:=Aside0.mk ((by rw [hg]; exact Nat.ne_of_lt (blk_lt (g:=gb325) (o := .cells #[.int .u8 a0_0, .int .u8 a0_1, .int .u8 a0_2, .int .u8 a0_3, .int .u8 a0_4, .string a0_5, .string a0_6, .string a0_7, .string a0_8, .string a0_9, .string a0_10, .string a0_11, .string a0_12, .string a0_13, .string a0_14] 25 (0,0)) (by (with_reducible repeat (first | refine kN ?_ _ | refine kD ?_ | refine kA ?_ _)); exact BK325.out)) : gb325 ≠ gb327)); have n6_:=Aside0.mk ((by rw [hg]; exact Nat.ne_of_gt (blk_lt (g:=gb325) (o := .cells #[.int .u8 a0_0, .int .u8 a0_1, .int .u8 a0_2, .int .u8 a0_3, .int .u8 a0_4, .string a0_5, .string a0_6, .string a0_7, .string a0_8, .string a0_9, .string a0_10, .string a0_11, .string a0_12, .string a0_13, .string a0_14] 25 (0,0)) (by (with_reducible repeat (first | refine kN ?_ _ | refine kD ?_ | refine kA ?_ _)); exact BK325.out)) : gb327 ≠ gb325)); clear BK325; clear HB; have BK325:=n0_; have HB:=n1_; have BK327:=n2_; have GW327:=n3_; have GE327:=n4_; have NB325_327:=n5_; have NB327_325:=n6_; clear n0_ n1_ n2_ n3_ n4_ n5_ n6_; clear hb hbox hg; have hnb12:=NB327_325.out; have hnc12:=NB325_327.out; have hcz13_0:w11.cell? ⟨gb327,0,none⟩=some (.int .u8 0):=blk_cell BK327.out 0; have hcz13_1:w11.cell? ⟨gb327,1,none⟩=some (.int .u8 0):=blk_cell BK327.out 1; have hcz13_2:w11.cell? ⟨gb327,2,none⟩=some (.int .u8 0):=blk_cell BK327.out 2; have hcz13_3:w11.cell? ⟨gb327,3,none⟩=some (.int .u8 0):=blk_cell BK327.out 3; have hcz13_4:w11.cell? ⟨gb327,4,none⟩=some (.int .u8 0):=blk_cell BK327.out 4; have hcz13_5:w11.cell? ⟨gb327,5,none⟩=some (.string (⟨#[]⟩ : ByteArray)):=blk_cell BK327.out 5; have hcz13_6:w11.cell? ⟨gb327,6,none⟩=some (.string (⟨#[]⟩ : ByteArray)):=blk_cell BK327.out 6; have hcz13_7:w11.cell? ⟨gb327,7,none⟩=some (.string (⟨#[]⟩ : ByteArray)):=blk_cell BK327.out 7; have hcz13_8:w11.cell? ⟨gb327,8,none⟩=some (.string (⟨#[]⟩ : ByteArray)):=blk_cell BK327.out 8; have hcz13_9:w11.cell? ⟨gb327,9,none⟩=some (.string (⟨#[]⟩ : ByteArray)):=blk_cell BK327.out 9; have hcz13_10:w11.cell? ⟨gb327,10,none⟩=some (.string (⟨#[]⟩ : ByteArray)):=blk_cell BK327.out 10; have hcz13_11:w11.cell? ⟨gb327,11,none⟩=some (.string (⟨#[]⟩ : ByteArray)):=blk_cell BK327.out 11; have hcz13_12:w11.cell? ⟨gb327,12,none⟩=some (.string (⟨#[]⟩ : ByteArray)):=blk_cell BK327.out 12; have hcz13_13:w11.cell? ⟨gb327,13,none⟩=some (.string (⟨#[]⟩ : ByteArray)):=blk_cell BK327.out 13; have hcz13_14:w11.cell? ⟨gb327,14,none⟩=some (.string (⟨#[]⟩ : ByteArray)):=blk_cell BK327.out 14; have hfz13_0:=blk_frozen BK327.out 0; have hfz13_1:=blk_frozen BK327.out 1; have hfz13_2:=blk_frozen BK327.out 2; have hfz13_3:=blk_frozen BK327.out 3; have hfz13_4:=blk_frozen BK327.out 4; have hfz13_5:=blk_frozen BK327.out 5; have hfz13_6:=blk_frozen BK327.out 6; have hfz13_7:=blk_frozen BK327.out 7; have hfz13_8:=blk_frozen BK327.out 8; have hfz13_9:=blk_frozen BK327.out 9; have hfz13_10:=blk_frozen BK327.out 10; have hfz13_11:=blk_frozen BK327.out 11; have hfz13_12:=blk_frozen BK327.out 12; have hfz13_13:=blk_frozen BK327.out 13; have hfz13_14:=blk_frozen BK327.out 14) | ((with_reducible refine gate_callee (f:=26) rfl ?_); refine goesL_ (some 33) rfl rfl Tryd.func26 (by kernel_rfl) rfl #[.agg #[.int .u8 a0_0, .int .u8 a0_1, .int .u8 a0_2, .int .u8 a0_3, .int .u8 a0_4, .string a0_7, .string a0_8, .string a0_5, .string a0_6, .string a0_9, .string (⟨#[]⟩ : ByteArray), .string (⟨#[65,67,75]⟩ : ByteArray), .string a0_12, .string a0_13, .string a0_14]] rfl (by (try simp only [List.map_toArray,List.map_cons,List.map_nil]); first | done | rfl | (simp only [List.length_drop,List.length_take]; rfl)) ?_; (with_reducible refine (lamplighterref09_Write.calls k a0_0 a0_1 a0_2 a0_3 a0_4 a0_7 a0_8 a0_5 a0_6 a0_9 (⟨#[]⟩ : ByteArray) (⟨#[65,67,75]⟩ : ByteArray) a0_12 a0_13 a0_14 t328 t329 _ A5.out).mono ?_); rintro e w14 ⟨rfl,hb⟩; refine ⟨_,rfl,?_⟩; have n0_:=Aside0.mk (blk_below (g:=gb325) (o := .cells #[.int .u8 a0_0, .int .u8 a0_1, .int .u8 a0_2, .int .u8 a0_3, .int .u8 a0_4, .string a0_5, .string a0_6, .string a0_7, .string a0_8, .string a0_9, .string a0_10, .string a0_11, .string a0_12, .string a0_13, .string a0_14] 25 (0,0)) (by (with_reducible repeat (first | refine kN ?_ _ | refine kD ?_ | refine kA ?_ _)); refine blk_far ?_ NB325_327.out _; (with_reducible repeat (first | refine kN ?_ _ | refine kD ?_ | refine kA ?_ _)); refine blk_far ?_ NB325_327.out _; (with_reducible repeat (first | refine kN ?_ _ | refine kD ?_ | refine kA ?_ _)); refine blk_far ?_ NB325_327.out _; (with_reducible repeat (first | refine kN ?_ _ | refine kD ?_ | refine kA ?_ _)); refine blk_far ?_ NB325_327.out _; (with_reducible repeat (first | refine kN ?_ _ | refine kD ?_ | refine kA ?_ _)); refine blk_far ?_ NB325_327.out _; (with_reducible repeat (first | refine kN ?_ _ | refine kD ?_ | refine kA ?_ _)); refine blk_far ?_ NB325_327.out _; (with_reducible repeat (first | refine kN ?_ _ | refine kD ?_ | refine kA ?_ _)); refine blk_far ?_ NB325_327.out _; (with_reducible repeat (first | refine kN ?_ _ | refine kD ?_ | refine kA ?_ _)); refine blk_far ?_ NB325_327.out _; (with_reducible repeat (first | refine kN ?_ _ | refine kD ?_ | refine kA ?_ _)); refine blk_far ?_ NB325_327.out _; (with_reducible repeat (first | refine kN ?_ _ | refine kD ?_ | refine kA ?_ _)); refine blk_far ?_ NB325_327.out _; (with_reducible repeat (first | refine kN ?_ _ | refine kD ?_ | refine kA ?_ _)); refine blk_far ?_ NB325_327.out _; (with_reducible repeat (first | refine kN ?_ _ | refine kD ?_ | refine kA ?_ _)); refine blk_far ?_ NB325_327.out _; (with_reducible repeat (first | refine kN ?_ _ | refine kD ?_ | refine kA ?_ _)); refine blk_far ?_ NB325_327.out _; (with_reducible repeat (first | refine kN ?_ _ | refine kD ?_ | refine kA ?_ _)); refine blk_far ?_ NB325_327.out _; (with_reducible repeat (first | refine kN ?_ _ | refine kD ?_ | refine kA ?_ _)); refine blk_far ?_ NB325_327.out _; (with_reducible repeat (first | refine kN ?_ _ | refine kD ?_ | refine kA ?_ _)); exact BK325.out) hb); have n1_:=Aside0.mk (blk_below (g:=gb327) (o := .cells #[.int .u8 a0_0, .int .u8 a0_1, .int .u8 a0_2, .int .u8 a0_3, .int .u8 a0_4, .string a0_7, .string a0_8, .string a0_5, .string a0_6, .string a0_9, .string (⟨#[]⟩ : ByteArray), .string (⟨#[65,67,75]⟩ : ByteArray), .string a0_12, .string a0_13, .string a0_14] 25 (0,0)) (by (with_reducible repeat (first | refine kN ?_ _ | refine kD ?_ | refine kA ?_ _)); refine blk_put (cs:=#[.int .u8 a0_0, .int .u8 a0_1, .int .u8 a0_2, .int .u8 a0_3, .int .u8 a0_4, .string a0_7, .string a0_8, .string a0_5, .string a0_6, .string a0_9, .string (⟨#[]⟩ : ByteArray), .string (⟨#[65,67,75]⟩ : ByteArray), .string a0_12, .string a0_13, .string (⟨#[]⟩ : ByteArray)]) ?_ 14 _ rfl; (with_reducible repeat (first | refine kN ?_ _ | refine kD ?_ | refine kA ?_ _)); refine blk_put (cs:=#[.int .u8 a0_0, .int .u8 a0_1, .int .u8 a0_2, .int .u8 a0_3, .int .u8 a0_4, .string a0_7, .string a0_8, .string a0_5, .string a0_6, .string a0_9, .string (⟨#[]⟩ : ByteArray), .string (⟨#[65,67,75]⟩ : ByteArray), .string a0_12, .string (⟨#[]⟩ : ByteArray), .string (⟨#[]⟩ : ByteArray)]) ?_ 13 _ rfl; (with_reducible repeat (first | refine kN ?_ _ | refine kD ?_ | refine kA ?_ _)); refine blk_put (cs:=#[.int .u8 a0_0, .int .u8 a0_1, .int .u8 a0_2, .int .u8 a0_3, .int .u8 a0_4, .string a0_7, .string a0_8, .string a0_5, .string a0_6, .string a0_9, .string (⟨#[]⟩ : ByteArray), .string (⟨#[65,67,75]⟩ : ByteArray), .string (⟨#[]⟩ : ByteArray), .string (⟨#[]⟩ : ByteArray), .string (⟨#[]⟩ : ByteArray)]) ?_ 12 _ rfl; (with_reducible repeat (first | refine kN ?_ _ | refine kD ?_ | refine kA ?_ _)); refine blk_put (cs:=#[.int .u8 a0_0, .int .u8 a0_1, .int .u8 a0_2, .int .u8 a0_3, .int .u8 a0_4, .string a0_7, .string a0_8, .string a0_5, .string a0_6, .string a0_9, .string (⟨#[]⟩ : ByteArray), .string (⟨#[]⟩ : ByteArray), .string (⟨#[]⟩ : ByteArray), .string (⟨#[]⟩ : ByteArray), .string (⟨#[]⟩ : ByteArray)]) ?_ 11 _ rfl; (with_reducible repeat (first | refine kN ?_ _ | refine kD ?_ | refine kA ?_ _)); refine blk_put (cs:=#[.int .u8 a0_0, .int .u8 a0_1, .int .u8 a0_2, .int .u8 a0_3, .int .u8 a0_4, .string a0_7, .string a0_8, .string a0_5, .string a0_6, .string a0_9, .string (⟨#[]⟩ : ByteArray), .string (⟨#[]⟩ : ByteArray), .string (⟨#[]⟩ : ByteArray), .string (⟨#[]⟩ : ByteArray), .string (⟨#[]⟩ : ByteArray)]) ?_ 10 _ rfl; (with_reducible repeat (first | refine kN ?_ _ | refine kD ?_ | refine kA ?_ _)); refine blk_put (cs:=#[.int .u8 a0_0, .int .u8 a0_1, .int .u8 a0_2, .int .u8 a0_3, .int .u8 a0_4, .string a0_7, .string a0_8, .string a0_5, .string a0_6, .string (⟨#[]⟩ : ByteArray), .string (⟨#[]⟩ : ByteArray), .string (⟨#[]⟩ : ByteArray), .string (⟨#[]⟩ : ByteArray), .string (⟨#[]⟩ : ByteArray), .string (⟨#[]⟩ : ByteArray)]) ?_ 9 _ rfl; (with_reducible repeat (first | refine kN ?_ _ | refine kD ?_ | refine kA ?_ _)); refine blk_put (cs:=#[.int .u8 a0_0, .int .u8 a0_1, .int .u8 a0_2, .int .u8 a0_3, .int .u8 a0_4, .string a0_7, .string a0_8, .string a0_5, .string (⟨#[]⟩ : ByteArray), .string (⟨#[]⟩ : ByteArray), .string (⟨#[]⟩ : ByteArray), .string (⟨#[]⟩ : ByteArray), .string (⟨#[]⟩ : ByteArray), .string (⟨#[]⟩ : ByteArray), .string (⟨#[]⟩ : ByteArray)]) ?_ 8 _ rfl; (with_reducible repeat (first | refine kN ?_ _ | refine kD ?_ | refine kA ?_ _)); refine blk_put (cs:=#[.int .u8 a0_0, .int .u8 a0_1, .int .u8 a0_2, .int .u8 a0_3, .int .u8 a0_4, .string a0_7, .string a0_8, .string (⟨#[]⟩ : ByteArray), .string (⟨#[]⟩ : ByteArray), .string (⟨#[]⟩ : ByteArray), .string (⟨#[]⟩ : ByteArray), .string (⟨#[]⟩ : ByteArray), .string (⟨#[]⟩ : ByteArray), .string (⟨#[]⟩ : ByteArray), .string (⟨#[]⟩ : ByteArray)]) ?_ 7 _ rfl; (with_reducible repeat (first | refine kN ?_ _ | refine kD ?_ | refine kA ?_ _)); refine blk_put (cs:=#[.int .u8 a0_0, .int .u8 a0_1, .int .u8 a0_2, .int .u8 a0_3, .int .u8 a0_4, .string a0_7, .string (⟨#[]⟩ : ByteArray), .string (⟨#[]⟩ : ByteArray), .string (⟨#[]⟩ : ByteArray), .string (⟨#[]⟩ : ByteArray), .string (⟨#[]⟩ : ByteArray), .string (⟨#[]⟩ : ByteArray), .string (⟨#[]⟩ : ByteArray), .string (⟨#[]⟩ : ByteArray), .string (⟨#[]⟩ : ByteArray)]) ?_ 6 _ rfl; (with_reducible repeat (first | refine kN ?_ _ | refine kD ?_ | refine kA ?_ _)); refine blk_put (cs:=#[.int .u8 a0_0, .int .u8 a0_1, .int .u8 a0_2, .int .u8 a0_3, .int .u8 a0_4, .string (⟨#[]⟩ : ByteArray), .string (⟨#[]⟩ : ByteArray), .string (⟨#[]⟩ : ByteArray), .string (⟨#[]⟩ : ByteArray), .string (⟨#[]⟩ : ByteArray), .string (⟨#[]⟩ : ByteArray), .string (⟨#[]⟩ : ByteArray), .string (⟨#[]⟩ : ByteArray), .string (⟨#[]⟩ : ByteArray), .string (⟨#[]⟩ : ByteArray)]) ?_ 5 _ rfl; (with_reducible repeat (first | refine kN ?_ _ | refine kD ?_ | refine kA ?_ _)); refine blk_put (cs:=#[.int .u8 a0_0, .int .u8 a0_1, .int .u8 a0_2, .int .u8 a0_3, .int .u8 0, .string (⟨#[]⟩ : ByteArray), .string (⟨#[]⟩ : ByteArray), .string (⟨#[]⟩ : ByteArray), .string (⟨#[]⟩ : ByteArray), .string (⟨#[]⟩ : ByteArray), .string (⟨#[]⟩ : ByteArray), .string (⟨#[]⟩ : ByteArray), .string (⟨#[]⟩ : ByteArray), .string (⟨#[]⟩ : ByteArray), .string (⟨#[]⟩ : ByteArray)]) ?_ 4 _ rfl; (with_reducible repeat (first | refine kN ?_ _ | refine kD ?_ | refine kA ?_ _)); refine blk_put (cs:=#[.int .u8 a0_0, .int .u8 a0_1, .int .u8 a0_2, .int .u8 0, .int .u8 0, .string (⟨#[]⟩ : ByteArray), .string (⟨#[]⟩ : ByteArray), .string (⟨#[]⟩ : ByteArray), .string (⟨#[]⟩ : ByteArray), .string (⟨#[]⟩ : ByteArray), .string (⟨#[]⟩ : ByteArray), .string (⟨#[]⟩ : ByteArray), .string (⟨#[]⟩ : ByteArray), .string (⟨#[]⟩ : ByteArray), .string (⟨#[]⟩ : ByteArray)]) ?_ 3 _ rfl; (with_reducible repeat (first | refine kN ?_ _ | refine kD ?_ | refine kA ?_ _)); refine blk_put (cs:=#[.int .u8 a0_0, .int .u8 a0_1, .int .u8 0, .int .u8 0, .int .u8 0, .string (⟨#[]⟩ : ByteArray), .string (⟨#[]⟩ : ByteArray), .string (⟨#[]⟩ : ByteArray), .string (⟨#[]⟩ : ByteArray), .string (⟨#[]⟩ : ByteArray), .string (⟨#[]⟩ : ByteArray), .string (⟨#[]⟩ : ByteArray), .string (⟨#[]⟩ : ByteArray), .string (⟨#[]⟩ : ByteArray), .string (⟨#[]⟩ : ByteArray)]) ?_ 2 _ rfl; (with_reducible repeat (first | refine kN ?_ _ | refine kD ?_ | refine kA ?_ _)); refine blk_put (cs:=#[.int .u8 a0_0, .int .u8 0, .int .u8 0, .int .u8 0, .int .u8 0, .string (⟨#[]⟩ : ByteArray), .string (⟨#[]⟩ : ByteArray), .string (⟨#[]⟩ : ByteArray), .string (⟨#[]⟩ : ByteArray), .string (⟨#[]⟩ : ByteArray), .string (⟨#[]⟩ : ByteArray), .string (⟨#[]⟩ : ByteArray), .string (⟨#[]⟩ : ByteArray), .string (⟨#[]⟩ : ByteArray), .string (⟨#[]⟩ : ByteArray)]) ?_ 1 _ rfl; (with_reducible repeat (first | refine kN ?_ _ | refine kD ?_ | refine kA ?_ _)); refine blk_put (cs:=#[.int .u8 0, .int .u8 0, .int .u8 0, .int .u8 0, .int .u8 0, .string (⟨#[]⟩ : ByteArray), .string (⟨#[]⟩ : ByteArray), .string (⟨#[]⟩ : ByteArray), .string (⟨#[]⟩ : ByteArray), .string (⟨#[]⟩ : ByteArray), .string (⟨#[]⟩ : ByteArray), .string (⟨#[]⟩ : ByteArray), .string (⟨#[]⟩ : ByteArray), .string (⟨#[]⟩ : ByteArray), .string (⟨#[]⟩ : ByteArray)]) ?_ 0 _ rfl; (with_reducible repeat (first | refine kN ?_ _ | refine kD ?_ | refine kA ?_ _)); exact BK327.out) hb); have n2_:=Aside0.mk (below_step (by repeat (first | (with_reducible first | exact HB.out | apply bA | apply bN | apply bD | refine below_set ?_ GE325.out | refine below_set ?_ GE327.out) | exact HB.out)) hb); clear BK325; clear BK327; clear HB; have BK325:=n0_; have BK327:=n1_; have HB:=n2_; clear n0_ n1_ n2_; (try clear hb); have hcz15_0:w14.cell? ⟨gb325,0,none⟩=some (.int .u8 a0_0):=blk_cell BK325.out 0; have hcz15_1:w14.cell? ⟨gb325,1,none⟩=some (.int .u8 a0_1):=blk_cell BK325.out 1; have hcz15_2:w14.cell? ⟨gb325,2,none⟩=some (.int .u8 a0_2):=blk_cell BK325.out 2; have hcz15_3:w14.cell? ⟨gb325,3,none⟩=some (.int .u8 a0_3):=blk_cell BK325.out 3; have hcz15_4:w14.cell? ⟨gb325,4,none⟩=some (.int .u8 a0_4):=blk_cell BK325.out 4; have hcz15_5:w14.cell? ⟨gb325,5,none⟩=some (.string a0_5):=blk_cell BK325.out 5; have hcz15_6:w14.cell? ⟨gb325,6,none⟩=some (.string a0_6):=blk_cell BK325.out 6; have hcz15_7:w14.cell? ⟨gb325,7,none⟩=some (.string a0_7):=blk_cell BK325.out 7; have hcz15_8:w14.cell? ⟨gb325,8,none⟩=some (.string a0_8):=blk_cell BK325.out 8; have hcz15_9:w14.cell? ⟨gb325,9,none⟩=some (.string a0_9):=blk_cell BK325.out 9; have hcz15_10:w14.cell? ⟨gb325,10,none⟩=some (.string a0_10):=blk_cell BK325.out 10; have hcz15_11:w14.cell? ⟨gb325,11,none⟩=some (.string a0_11):=blk_cell BK325.out 11; have hcz15_12:w14.cell? ⟨gb325,12,none⟩=some (.string a0_12):=blk_cell BK325.out 12; have hcz15_13:w14.cell? ⟨gb325,13,none⟩=some (.string a0_13):=blk_cell BK325.out 13; have hcz15_14:w14.cell? ⟨gb325,14,none⟩=some (.string a0_14):=blk_cell BK325.out 14; have hfz15_0:=blk_frozen BK325.out 0; have hfz15_1:=blk_frozen BK325.out 1; have hfz15_2:=blk_frozen BK325.out 2; have hfz15_3:=blk_frozen BK325.out 3; have hfz15_4:=blk_frozen BK325.out 4; have hfz15_5:=blk_frozen BK325.out 5; have hfz15_6:=blk_frozen BK325.out 6; have hfz15_7:=blk_frozen BK325.out 7; have hfz15_8:=blk_frozen BK325.out 8; have hfz15_9:=blk_frozen BK325.out 9; have hfz15_10:=blk_frozen BK325.out 10; have hfz15_11:=blk_frozen BK325.out 11; have hfz15_12:=blk_frozen BK325.out 12; have hfz15_13:=blk_frozen BK325.out 13; have hfz15_14:=blk_frozen BK325.out 14) | ((with_reducible refine gate_dst (N:=45) rfl ?_); refine Kd.R_lit Kd.string _ 9 ?hg (N:=45) ?hd (xs:=([a1,a0_12] : List ByteArray)) (inner:=[.string a1, .string a0_12]) (ok:=fun _=>True) (okp:=fun _=>True) ?hr ?hp (fun _ hk=>hk) trivial (Below.refl _ _) (Nat.le_refl _) (by simp) ?_; (case hd=>rfl); (case hg=>rfl); (case hr=>first | (go_simp; done) | (go_simp; rfl)); (case hp=>exact (Reps.one (show Kd.M Kd.string _ _ _ a1 [.string a1] from rfl) (Reps.one (show Kd.M Kd.string _ _ _ a0_12 [.string a0_12] from rfl) (Reps.none _ _)))); intro v331 w16 ho17 hb hg_ hnew_; clear hg_ hnew_; (first | rw [← Ny330.out] at ho17 | (simp only [Int.reduceToNat] at ho17; rw [← Ny330.out] at ho17)); have n0_:=Aside0.mk (Kd.R_lower ho17 (below_size (by repeat (first | (with_reducible first | exact HB.out | apply bA | apply bN | apply bD | refine below_set ?_ GE325.out | refine below_set ?_ GE327.out) | exact HB.out)))); have n1_:=Aside0.mk (blk_below (g:=gb325) (o := .cells #[.int .u8 a0_0, .int .u8 a0_1, .int .u8 a0_2, .int .u8 a0_3, .int .u8 a0_4, .string a0_5, .string a0_6, .string a0_7, .string a0_8, .string a0_9, .string a0_10, .string a0_11, .string a0_12, .string a0_13, .string a0_14] 25 (0,0)) (by (with_reducible repeat (first | refine kN ?_ _ | refine kD ?_ | refine kA ?_ _)); exact BK325.out) hb); have n2_:=Aside0.mk (blk_below (g:=gb327) (o := .cells #[.int .u8 a0_0, .int .u8 a0_1, .int .u8 a0_2, .int .u8 a0_3, .int .u8 a0_4, .string a0_7, .string a0_8, .string a0_5, .string a0_6, .string a0_9, .string (⟨#[]⟩ : ByteArray), .string (⟨#[65,67,75]⟩ : ByteArray), .string a0_12, .string a0_13, .string a0_14] 25 (0,0)) (by (with_reducible repeat (first | refine kN ?_ _ | refine kD ?_ | refine kA ?_ _)); exact BK327.out) hb); have n3_:=Aside0.mk (below_step (by repeat (first | (with_reducible first | exact HB.out | apply bA | apply bN | apply bD | refine below_set ?_ GE325.out | refine below_set ?_ GE327.out) | exact HB.out)) hb); clear BK325; clear BK327; clear HB; have HO332:=n0_; have BK325:=n1_; have BK327:=n2_; have HB:=n3_; clear n0_ n1_ n2_ n3_; clear hb ho17; obtain ⟨Ao18,co18,eo18⟩:=Kd.R_slice HO332.out; subst eo18) | ((with_reducible refine gate_callee (f:=28) rfl ?_); refine goesL_ (some 46) rfl rfl Tryd.func28 (by kernel_rfl) rfl #[.agg #[.int .u8 a0_0, .int .u8 a0_1, .int .u8 a0_2, .int .u8 a0_3, .int .u8 a0_4], .string (⟨#[77,83,65]⟩ : ByteArray), .slice Ao18 y330.length co18] rfl (by (try simp only [List.map_toArray,List.map_cons,List.map_nil]); first | done | rfl | (simp only [List.length_drop,List.length_take]; rfl)) ?_; (with_reducible refine (lamplighterref08_Make.calls k a0_0 a0_1 a0_2 a0_3 a0_4 (⟨#[77,83,65]⟩ : ByteArray) _ _ y330 t333 _ ?side1 ?side2 A7.out).mono ?_); (case side1=>repeat (first | exact (Kd.R_reads' HO332.out).2.2 | (with_reducible refine Kd.C_alloc ?_ _) | (with_reducible refine Kd.C_drewN ?_ _) | (with_reducible refine Kd.C_drew ?_))); (case side2=>exact (Kd.R_reads' HO332.out).2.1); rintro e w19 ⟨rfl,hb⟩; refine ⟨_,rfl,?_⟩; have n0_:=Aside0.mk (Kd.R_below (by (with_reducible repeat (first | apply Kd.R_alloc | apply Kd.R_drewN | apply Kd.R_drew)); exact HO332.out) hb); have n1_:=Aside0.mk (blk_below (g:=gb325) (o := .cells #[.int .u8 a0_0, .int .u8 a0_1, .int .u8 a0_2, .int .u8 a0_3, .int .u8 a0_4, .string a0_5, .string a0_6, .string a0_7, .string a0_8, .string a0_9, .string a0_10, .string a0_11, .string a0_12, .string a0_13, .string a0_14] 25 (0,0)) (by (with_reducible repeat (first | refine kN ?_ _ | refine kD ?_ | refine kA ?_ _)); exact BK325.out) hb); have n2_:=Aside0.mk (blk_below (g:=gb327) (o := .cells #[.int .u8 a0_0, .int .u8 a0_1, .int .u8 a0_2, .int .u8 a0_3, .int .u8 a0_4, .string a0_7, .string a0_8, .string a0_5, .string a0_6, .string a0_9, .string (⟨#[]⟩ : ByteArray), .string (⟨#[65,67,75]⟩ : ByteArray), .string a0_12, .string a0_13, .string a0_14] 25 (0,0)) (by (with_reducible repeat (first | refine kN ?_ _ | refine kD ?_ | refine kA ?_ _)); exact BK327.out) hb); have n3_:=Aside0.mk (below_step (by repeat (first | (with_reducible first | exact HB.out | apply bA | apply bN | apply bD | refine below_set ?_ GE325.out | refine below_set ?_ GE327.out) | exact HB.out)) hb); clear HO332; clear BK325; clear BK327; clear HB; have HO332:=n0_; have BK325:=n1_; have BK327:=n2_; have HB:=n3_; clear n0_ n1_ n2_ n3_; (try clear hb)) | ((with_reducible refine gate_dst (N:=47) rfl ?_); refine Kd.R_lit Kd.string _ 9 ?hg (N:=47) ?hd (xs:=([t328,t333] : List ByteArray)) (inner:=[.string t328, .string t333]) (ok:=fun _=>True) (okp:=fun _=>True) ?hr ?hp (fun _ hk=>hk) trivial (Below.refl _ _) (Nat.le_refl _) (by simp) ?_; (case hd=>rfl); (case hg=>rfl); (case hr=>first | (go_simp; done) | (go_simp; rfl)); (case hp=>exact (Reps.one (show Kd.M Kd.string _ _ _ t328 [.string t328] from rfl) (Reps.one (show Kd.M Kd.string _ _ _ t333 [.string t333] from rfl) (Reps.none _ _)))); intro v335 w20 ho21 hb hg_ hnew_; clear hg_ hnew_; (first | rw [← Ny334.out] at ho21 | (simp only [Int.reduceToNat] at ho21; rw [← Ny334.out] at ho21)); have n0_:=Aside0.mk (Kd.R_elder' (by (with_reducible repeat (first | apply Kd.R_alloc | apply Kd.R_drewN | apply Kd.R_drew)); exact HO332.out) (Kd.R_base ho21) hb); have n1_:=Aside0.mk (Kd.R_lower (Kd.R_new' ho21 (Kd.R_lt (by (with_reducible repeat (first | apply Kd.R_alloc | apply Kd.R_drewN | apply Kd.R_drew)); exact HO332.out))) (below_size (by repeat (first | (with_reducible first | exact HB.out | apply bA | apply bN | apply bD | refine below_set ?_ GE325.out | refine below_set ?_ GE327.out) | exact HB.out)))); have n2_:=Aside0.mk (blk_below (g:=gb325) (o := .cells #[.int .u8 a0_0, .int .u8 a0_1, .int .u8 a0_2, .int .u8 a0_3, .int .u8 a0_4, .string a0_5, .string a0_6, .string a0_7, .string a0_8, .string a0_9, .string a0_10, .string a0_11, .string a0_12, .string a0_13, .string a0_14] 25 (0,0)) (by (with_reducible repeat (first | refine kN ?_ _ | refine kD ?_ | refine kA ?_ _)); exact BK325.out) hb); have n3_:=Aside0.mk (blk_below (g:=gb327) (o := .cells #[.int .u8 a0_0, .int .u8 a0_1, .int .u8 a0_2, .int .u8 a0_3, .int .u8 a0_4, .string a0_7, .string a0_8, .string a0_5, .string a0_6, .string a0_9, .string (⟨#[]⟩ : ByteArray), .string (⟨#[65,67,75]⟩ : ByteArray), .string a0_12, .string a0_13, .string a0_14] 25 (0,0)) (by (with_reducible repeat (first | refine kN ?_ _ | refine kD ?_ | refine kA ?_ _)); exact BK327.out) hb); have n4_:=Aside0.mk (below_step (by repeat (first | (with_reducible first | exact HB.out | apply bA | apply bN | apply bD | refine below_set ?_ GE325.out | refine below_set ?_ GE327.out) | exact HB.out)) hb); clear HO332; clear BK325; clear BK327; clear HB; have HO332:=n0_; have HO336:=n1_; have BK325:=n2_; have BK327:=n3_; have HB:=n4_; clear n0_ n1_ n2_ n3_ n4_; clear hb ho21; obtain ⟨Ao22,co22,eo22⟩:=Kd.R_slice HO336.out; subst eo22) | ((with_reducible refine gate_callee (f:=27) rfl ?_); refine goesL_ (some 48) rfl rfl Tryd.func27 (by kernel_rfl) rfl #[.slice Ao22 y334.length co22] rfl (by (try simp only [List.map_toArray,List.map_cons,List.map_nil]); first | done | rfl | (simp only [List.length_drop,List.length_take]; rfl)) ?_; (with_reducible refine (lamplighterref08_Join.calls k _ _ y334 t337 _ ?side1 ?side2 A8.out).mono ?_); (case side1=>repeat (first | exact (Kd.R_reads' HO336.out).2.2 | (with_reducible refine Kd.C_alloc ?_ _) | (with_reducible refine Kd.C_drewN ?_ _) | (with_reducible refine Kd.C_drew ?_))); (case side2=>exact (Kd.R_reads' HO336.out).2.1); rintro e w' ⟨rfl,⟨nd,rfl⟩⟩; refine ⟨_,rfl,?_⟩))
   go_ret2
   exact ⟨by first | rfl | (simp [errW_none,errW_some] <;> rfl) | (simp [*,errW_none,errW_some] <;> rfl),by repeat (first | (with_reducible first | exact HB.out | apply bA | apply bN | apply bD | refine below_set ?_ GE325.out | refine below_set ?_ GE327.out) | exact HB.out)⟩
  ·rw [if_neg c6] at H
   have c6b0 : (t329 == 0)=false:=beq_eq_false_iff_ne.mpr c6
   have c6b1 : (t329 != 0)=true:=bne_iff_ne.mpr c6
   simp only [Option.some.injEq,Prod.mk.injEq] at H
   obtain ⟨rfl,rfl⟩:=H
   go_enter Tryd.func13,Tryd.ntmps13
   go_wp2_with (first | ((with_reducible refine gate_dst (N:=2) rfl ?_); refine box_event ?hg (N:=2) ?hd (cs:=#[.int .u8 a0_0, .int .u8 a0_1, .int .u8 a0_2, .int .u8 a0_3, .int .u8 a0_4, .string a0_5, .string a0_6, .string a0_7, .string a0_8, .string a0_9, .string a0_10, .string a0_11, .string a0_12, .string a0_13, .string a0_14]) (t:=25) ?hr ?_; (case hd=>rfl); (case hg=>rfl); (case hr=>first | (go_simp; done) | (go_simp; rfl)); intro gb325 hg w23 hbox hb; have n0_:=Aside0.mk (below_step (by repeat (first | (with_reducible first | exact HB.out | apply bA | apply bN | apply bD) | exact HB.out)) hb); have n1_:=Aside0.mk (hbox); have n2_:=Aside0.mk ((by rw [hg]; exact (below_size (by repeat (first | (with_reducible first | exact HB.out | apply bA | apply bN | apply bD) | exact HB.out))) : w.heap.size≤gb325)); have n3_:=Aside0.mk ((by rw [hg]; exact (below_size (by repeat (first | (with_reducible first | exact HB.out | apply bA | apply bN | apply bD) | exact HB.out))) : w.heap.size≤gb325)); clear HB; have HB:=n0_; have BK325:=n1_; have GW325:=n2_; have GE325:=n3_; clear n0_ n1_ n2_ n3_; clear hb hbox hg) | ((with_reducible refine gate_callee (f:=16) rfl ?_); refine goesL_ (some 10) rfl rfl Tryd.func16 (by kernel_rfl) rfl #[.string a1] rfl (by (try simp only [List.map_toArray,List.map_cons,List.map_nil]); first | done | rfl | (simp only [List.length_drop,List.length_take]; rfl)) ?_; (with_reducible refine (lamplighterref10_Known.calls a1 true _ A3.out).mono ?_); rintro e w' ⟨rfl,⟨nd,rfl⟩⟩; refine ⟨_,rfl,?_⟩; (try (rw [drewN_self w23]; generalize hq_ : World.drewN w23 _=w23; have n0_:Aside0 (w23.heap[gb325]?=some (.cells #[.int .u8 a0_0, .int .u8 a0_1, .int .u8 a0_2, .int .u8 a0_3, .int .u8 a0_4, .string a0_5, .string a0_6, .string a0_7, .string a0_8, .string a0_9, .string a0_10, .string a0_11, .string a0_12, .string a0_13, .string a0_14] 25 (0,0))):=⟨by rw [← hq_]; exact (by (with_reducible repeat (first | refine kN ?_ _ | refine kD ?_ | refine kA ?_ _)); exact BK325.out)⟩; have n1_:Aside0 (Below w.heap.size w w23):=⟨by rw [← hq_]; exact (by repeat (first | (with_reducible first | exact HB.out | apply bA | apply bN | apply bD | refine below_set ?_ GE325.out) | exact HB.out))⟩; clear BK325 HB hq_; have BK325:=n0_; have HB:=n1_; clear n0_ n1_)); have hcz24_0:w23.cell? ⟨gb325,0,none⟩=some (.int .u8 a0_0):=blk_cell BK325.out 0; have hcz24_1:w23.cell? ⟨gb325,1,none⟩=some (.int .u8 a0_1):=blk_cell BK325.out 1; have hcz24_2:w23.cell? ⟨gb325,2,none⟩=some (.int .u8 a0_2):=blk_cell BK325.out 2; have hcz24_3:w23.cell? ⟨gb325,3,none⟩=some (.int .u8 a0_3):=blk_cell BK325.out 3; have hcz24_4:w23.cell? ⟨gb325,4,none⟩=some (.int .u8 a0_4):=blk_cell BK325.out 4; have hcz24_5:w23.cell? ⟨gb325,5,none⟩=some (.string a0_5):=blk_cell BK325.out 5; have hcz24_6:w23.cell? ⟨gb325,6,none⟩=some (.string a0_6):=blk_cell BK325.out 6; have hcz24_7:w23.cell? ⟨gb325,7,none⟩=some (.string a0_7):=blk_cell BK325.out 7; have hcz24_8:w23.cell? ⟨gb325,8,none⟩=some (.string a0_8):=blk_cell BK325.out 8; have hcz24_9:w23.cell? ⟨gb325,9,none⟩=some (.string a0_9):=blk_cell BK325.out 9; have hcz24_10:w23.cell? ⟨gb325,10,none⟩=some (.string a0_10):=blk_cell BK325.out 10; have hcz24_11:w23.cell? ⟨gb325,11,none⟩=some (.string a0_11):=blk_cell BK325.out 11; have hcz24_12:w23.cell? ⟨gb325,12,none⟩=some (.string a0_12):=blk_cell BK325.out 12; have hcz24_13:w23.cell? ⟨gb325,13,none⟩=some (.string a0_13):=blk_cell BK325.out 13; have hcz24_14:w23.cell? ⟨gb325,14,none⟩=some (.string a0_14):=blk_cell BK325.out 14; have hfz24_0:=blk_frozen BK325.out 0; have hfz24_1:=blk_frozen BK325.out 1; have hfz24_2:=blk_frozen BK325.out 2; have hfz24_3:=blk_frozen BK325.out 3; have hfz24_4:=blk_frozen BK325.out 4; have hfz24_5:=blk_frozen BK325.out 5; have hfz24_6:=blk_frozen BK325.out 6; have hfz24_7:=blk_frozen BK325.out 7; have hfz24_8:=blk_frozen BK325.out 8; have hfz24_9:=blk_frozen BK325.out 9; have hfz24_10:=blk_frozen BK325.out 10; have hfz24_11:=blk_frozen BK325.out 11; have hfz24_12:=blk_frozen BK325.out 12; have hfz24_13:=blk_frozen BK325.out 13; have hfz24_14:=blk_frozen BK325.out 14) | ((with_reducible refine gate_dst (N:=6) rfl ?_); refine box_event ?hg (N:=6) ?hd (cs:=#[.int .u8 0, .int .u8 0, .int .u8 0, .int .u8 0, .int .u8 0, .string (⟨#[]⟩ : ByteArray), .string (⟨#[]⟩ : ByteArray), .string (⟨#[]⟩ : ByteArray), .string (⟨#[]⟩ : ByteArray), .string (⟨#[]⟩ : ByteArray), .string (⟨#[]⟩ : ByteArray), .string (⟨#[]⟩ : ByteArray), .string (⟨#[]⟩ : ByteArray), .string (⟨#[]⟩ : ByteArray), .string (⟨#[]⟩ : ByteArray)]) (t:=25) ?hr ?_; (case hd=>rfl); (case hg=>rfl); (case hr=>first | (go_simp; done) | (go_simp; rfl)); intro gb327 hg w25 hbox hb; have n0_:=Aside0.mk (blk_below (g:=gb325) (o := .cells #[.int .u8 a0_0, .int .u8 a0_1, .int .u8 a0_2, .int .u8 a0_3, .int .u8 a0_4, .string a0_5, .string a0_6, .string a0_7, .string a0_8, .string a0_9, .string a0_10, .string a0_11, .string a0_12, .string a0_13, .string a0_14] 25 (0,0)) (by (with_reducible repeat (first | refine kN ?_ _ | refine kD ?_ | refine kA ?_ _)); exact BK325.out) hb); have n1_:=Aside0.mk (below_step (by repeat (first | (with_reducible first | exact HB.out | apply bA | apply bN | apply bD | refine below_set ?_ GE325.out) | exact HB.out)) hb); have n2_:=Aside0.mk (hbox); have n3_:=Aside0.mk ((by rw [hg]; exact (below_size (by repeat (first | (with_reducible first | exact HB.out | apply bA | apply bN | apply bD | refine below_set ?_ GE325.out) | exact HB.out))) : w.heap.size≤gb327)); have n4_:=Aside0.mk ((by rw [hg]; exact (below_size (by repeat (first | (with_reducible first | exact HB.out | apply bA | apply bN | apply bD | refine below_set ?_ GE325.out) | exact HB.out))) : w.heap.size≤gb327)); have n5_:=Aside0.mk ((by rw [hg]; exact Nat.ne_of_lt (blk_lt (g:=gb325) (o := .cells #[.int .u8 a0_0, .int .u8 a0_1, .int .u8 a0_2, .int .u8 a0_3, .int .u8 a0_4, .string a0_5, .string a0_6, .string a0_7, .string a0_8, .string a0_9, .string a0_10, .string a0_11, .string a0_12, .string a0_13, .string a0_14] 25 (0,0)) (by (with_reducible repeat (first | refine kN ?_ _ | refine kD ?_ | refine kA ?_ _)); exact BK325.out)) : gb325 ≠ gb327)); have n6_:=Aside0.mk ((by rw [hg]; exact Nat.ne_of_gt (blk_lt (g:=gb325) (o := .cells #[.int .u8 a0_0, .int .u8 a0_1, .int .u8 a0_2, .int .u8 a0_3, .int .u8 a0_4, .string a0_5, .string a0_6, .string a0_7, .string a0_8, .string a0_9, .string a0_10, .string a0_11, .string a0_12, .string a0_13, .string a0_14] 25 (0,0)) (by (with_reducible repeat (first | refine kN ?_ _ | refine kD ?_ | refine kA ?_ _)); exact BK325.out)) : gb327 ≠ gb325)); clear BK325; clear HB; have BK325:=n0_; have HB:=n1_; have BK327:=n2_; have GW327:=n3_; have GE327:=n4_; have NB325_327:=n5_; have NB327_325:=n6_; clear n0_ n1_ n2_ n3_ n4_ n5_ n6_; clear hb hbox hg; have hnb26:=NB327_325.out; have hnc26:=NB325_327.out; have hcz27_0:w25.cell? ⟨gb327,0,none⟩=some (.int .u8 0):=blk_cell BK327.out 0; have hcz27_1:w25.cell? ⟨gb327,1,none⟩=some (.int .u8 0):=blk_cell BK327.out 1; have hcz27_2:w25.cell? ⟨gb327,2,none⟩=some (.int .u8 0):=blk_cell BK327.out 2; have hcz27_3:w25.cell? ⟨gb327,3,none⟩=some (.int .u8 0):=blk_cell BK327.out 3; have hcz27_4:w25.cell? ⟨gb327,4,none⟩=some (.int .u8 0):=blk_cell BK327.out 4; have hcz27_5:w25.cell? ⟨gb327,5,none⟩=some (.string (⟨#[]⟩ : ByteArray)):=blk_cell BK327.out 5; have hcz27_6:w25.cell? ⟨gb327,6,none⟩=some (.string (⟨#[]⟩ : ByteArray)):=blk_cell BK327.out 6; have hcz27_7:w25.cell? ⟨gb327,7,none⟩=some (.string (⟨#[]⟩ : ByteArray)):=blk_cell BK327.out 7; have hcz27_8:w25.cell? ⟨gb327,8,none⟩=some (.string (⟨#[]⟩ : ByteArray)):=blk_cell BK327.out 8; have hcz27_9:w25.cell? ⟨gb327,9,none⟩=some (.string (⟨#[]⟩ : ByteArray)):=blk_cell BK327.out 9; have hcz27_10:w25.cell? ⟨gb327,10,none⟩=some (.string (⟨#[]⟩ : ByteArray)):=blk_cell BK327.out 10; have hcz27_11:w25.cell? ⟨gb327,11,none⟩=some (.string (⟨#[]⟩ : ByteArray)):=blk_cell BK327.out 11; have hcz27_12:w25.cell? ⟨gb327,12,none⟩=some (.string (⟨#[]⟩ : ByteArray)):=blk_cell BK327.out 12; have hcz27_13:w25.cell? ⟨gb327,13,none⟩=some (.string (⟨#[]⟩ : ByteArray)):=blk_cell BK327.out 13; have hcz27_14:w25.cell? ⟨gb327,14,none⟩=some (.string (⟨#[]⟩ : ByteArray)):=blk_cell BK327.out 14; have hfz27_0:=blk_frozen BK327.out 0; have hfz27_1:=blk_frozen BK327.out 1; have hfz27_2:=blk_frozen BK327.out 2; have hfz27_3:=blk_frozen BK327.out 3; have hfz27_4:=blk_frozen BK327.out 4; have hfz27_5:=blk_frozen BK327.out 5; have hfz27_6:=blk_frozen BK327.out 6; have hfz27_7:=blk_frozen BK327.out 7; have hfz27_8:=blk_frozen BK327.out 8; have hfz27_9:=blk_frozen BK327.out 9; have hfz27_10:=blk_frozen BK327.out 10; have hfz27_11:=blk_frozen BK327.out 11; have hfz27_12:=blk_frozen BK327.out 12; have hfz27_13:=blk_frozen BK327.out 13; have hfz27_14:=blk_frozen BK327.out 14) | ((with_reducible refine gate_callee (f:=26) rfl ?_); refine goesL_ (some 33) rfl rfl Tryd.func26 (by kernel_rfl) rfl #[.agg #[.int .u8 a0_0, .int .u8 a0_1, .int .u8 a0_2, .int .u8 a0_3, .int .u8 a0_4, .string a0_7, .string a0_8, .string a0_5, .string a0_6, .string a0_9, .string (⟨#[]⟩ : ByteArray), .string (⟨#[65,67,75]⟩ : ByteArray), .string a0_12, .string a0_13, .string a0_14]] rfl (by (try simp only [List.map_toArray,List.map_cons,List.map_nil]); first | done | rfl | (simp only [List.length_drop,List.length_take]; rfl)) ?_; (with_reducible refine (lamplighterref09_Write.calls k a0_0 a0_1 a0_2 a0_3 a0_4 a0_7 a0_8 a0_5 a0_6 a0_9 (⟨#[]⟩ : ByteArray) (⟨#[65,67,75]⟩ : ByteArray) a0_12 a0_13 a0_14 t328 t329 _ A5.out).mono ?_); rintro e w28 ⟨rfl,hb⟩; refine ⟨_,rfl,?_⟩; have n0_:=Aside0.mk (blk_below (g:=gb325) (o := .cells #[.int .u8 a0_0, .int .u8 a0_1, .int .u8 a0_2, .int .u8 a0_3, .int .u8 a0_4, .string a0_5, .string a0_6, .string a0_7, .string a0_8, .string a0_9, .string a0_10, .string a0_11, .string a0_12, .string a0_13, .string a0_14] 25 (0,0)) (by (with_reducible repeat (first | refine kN ?_ _ | refine kD ?_ | refine kA ?_ _)); refine blk_far ?_ NB325_327.out _; (with_reducible repeat (first | refine kN ?_ _ | refine kD ?_ | refine kA ?_ _)); refine blk_far ?_ NB325_327.out _; (with_reducible repeat (first | refine kN ?_ _ | refine kD ?_ | refine kA ?_ _)); refine blk_far ?_ NB325_327.out _; (with_reducible repeat (first | refine kN ?_ _ | refine kD ?_ | refine kA ?_ _)); refine blk_far ?_ NB325_327.out _; (with_reducible repeat (first | refine kN ?_ _ | refine kD ?_ | refine kA ?_ _)); refine blk_far ?_ NB325_327.out _; (with_reducible repeat (first | refine kN ?_ _ | refine kD ?_ | refine kA ?_ _)); refine blk_far ?_ NB325_327.out _; (with_reducible repeat (first | refine kN ?_ _ | refine kD ?_ | refine kA ?_ _)); refine blk_far ?_ NB325_327.out _; (with_reducible repeat (first | refine kN ?_ _ | refine kD ?_ | refine kA ?_ _)); refine blk_far ?_ NB325_327.out _; (with_reducible repeat (first | refine kN ?_ _ | refine kD ?_ | refine kA ?_ _)); refine blk_far ?_ NB325_327.out _; (with_reducible repeat (first | refine kN ?_ _ | refine kD ?_ | refine kA ?_ _)); refine blk_far ?_ NB325_327.out _; (with_reducible repeat (first | refine kN ?_ _ | refine kD ?_ | refine kA ?_ _)); refine blk_far ?_ NB325_327.out _; (with_reducible repeat (first | refine kN ?_ _ | refine kD ?_ | refine kA ?_ _)); refine blk_far ?_ NB325_327.out _; (with_reducible repeat (first | refine kN ?_ _ | refine kD ?_ | refine kA ?_ _)); refine blk_far ?_ NB325_327.out _; (with_reducible repeat (first | refine kN ?_ _ | refine kD ?_ | refine kA ?_ _)); refine blk_far ?_ NB325_327.out _; (with_reducible repeat (first | refine kN ?_ _ | refine kD ?_ | refine kA ?_ _)); refine blk_far ?_ NB325_327.out _; (with_reducible repeat (first | refine kN ?_ _ | refine kD ?_ | refine kA ?_ _)); exact BK325.out) hb); have n1_:=Aside0.mk (blk_below (g:=gb327) (o := .cells #[.int .u8 a0_0, .int .u8 a0_1, .int .u8 a0_2, .int .u8 a0_3, .int .u8 a0_4, .string a0_7, .string a0_8, .string a0_5, .string a0_6, .string a0_9, .string (⟨#[]⟩ : ByteArray), .string (⟨#[65,67,75]⟩ : ByteArray), .string a0_12, .string a0_13, .string a0_14] 25 (0,0)) (by (with_reducible repeat (first | refine kN ?_ _ | refine kD ?_ | refine kA ?_ _)); refine blk_put (cs:=#[.int .u8 a0_0, .int .u8 a0_1, .int .u8 a0_2, .int .u8 a0_3, .int .u8 a0_4, .string a0_7, .string a0_8, .string a0_5, .string a0_6, .string a0_9, .string (⟨#[]⟩ : ByteArray), .string (⟨#[65,67,75]⟩ : ByteArray), .string a0_12, .string a0_13, .string (⟨#[]⟩ : ByteArray)]) ?_ 14 _ rfl; (with_reducible repeat (first | refine kN ?_ _ | refine kD ?_ | refine kA ?_ _)); refine blk_put (cs:=#[.int .u8 a0_0, .int .u8 a0_1, .int .u8 a0_2, .int .u8 a0_3, .int .u8 a0_4, .string a0_7, .string a0_8, .string a0_5, .string a0_6, .string a0_9, .string (⟨#[]⟩ : ByteArray), .string (⟨#[65,67,75]⟩ : ByteArray), .string a0_12, .string (⟨#[]⟩ : ByteArray), .string (⟨#[]⟩ : ByteArray)]) ?_ 13 _ rfl; (with_reducible repeat (first | refine kN ?_ _ | refine kD ?_ | refine kA ?_ _)); refine blk_put (cs:=#[.int .u8 a0_0, .int .u8 a0_1, .int .u8 a0_2, .int .u8 a0_3, .int .u8 a0_4, .string a0_7, .string a0_8, .string a0_5, .string a0_6, .string a0_9, .string (⟨#[]⟩ : ByteArray), .string (⟨#[65,67,75]⟩ : ByteArray), .string (⟨#[]⟩ : ByteArray), .string (⟨#[]⟩ : ByteArray), .string (⟨#[]⟩ : ByteArray)]) ?_ 12 _ rfl; (with_reducible repeat (first | refine kN ?_ _ | refine kD ?_ | refine kA ?_ _)); refine blk_put (cs:=#[.int .u8 a0_0, .int .u8 a0_1, .int .u8 a0_2, .int .u8 a0_3, .int .u8 a0_4, .string a0_7, .string a0_8, .string a0_5, .string a0_6, .string a0_9, .string (⟨#[]⟩ : ByteArray), .string (⟨#[]⟩ : ByteArray), .string (⟨#[]⟩ : ByteArray), .string (⟨#[]⟩ : ByteArray), .string (⟨#[]⟩ : ByteArray)]) ?_ 11 _ rfl; (with_reducible repeat (first | refine kN ?_ _ | refine kD ?_ | refine kA ?_ _)); refine blk_put (cs:=#[.int .u8 a0_0, .int .u8 a0_1, .int .u8 a0_2, .int .u8 a0_3, .int .u8 a0_4, .string a0_7, .string a0_8, .string a0_5, .string a0_6, .string a0_9, .string (⟨#[]⟩ : ByteArray), .string (⟨#[]⟩ : ByteArray), .string (⟨#[]⟩ : ByteArray), .string (⟨#[]⟩ : ByteArray), .string (⟨#[]⟩ : ByteArray)]) ?_ 10 _ rfl; (with_reducible repeat (first | refine kN ?_ _ | refine kD ?_ | refine kA ?_ _)); refine blk_put (cs:=#[.int .u8 a0_0, .int .u8 a0_1, .int .u8 a0_2, .int .u8 a0_3, .int .u8 a0_4, .string a0_7, .string a0_8, .string a0_5, .string a0_6, .string (⟨#[]⟩ : ByteArray), .string (⟨#[]⟩ : ByteArray), .string (⟨#[]⟩ : ByteArray), .string (⟨#[]⟩ : ByteArray), .string (⟨#[]⟩ : ByteArray), .string (⟨#[]⟩ : ByteArray)]) ?_ 9 _ rfl; (with_reducible repeat (first | refine kN ?_ _ | refine kD ?_ | refine kA ?_ _)); refine blk_put (cs:=#[.int .u8 a0_0, .int .u8 a0_1, .int .u8 a0_2, .int .u8 a0_3, .int .u8 a0_4, .string a0_7, .string a0_8, .string a0_5, .string (⟨#[]⟩ : ByteArray), .string (⟨#[]⟩ : ByteArray), .string (⟨#[]⟩ : ByteArray), .string (⟨#[]⟩ : ByteArray), .string (⟨#[]⟩ : ByteArray), .string (⟨#[]⟩ : ByteArray), .string (⟨#[]⟩ : ByteArray)]) ?_ 8 _ rfl; (with_reducible repeat (first | refine kN ?_ _ | refine kD ?_ | refine kA ?_ _)); refine blk_put (cs:=#[.int .u8 a0_0, .int .u8 a0_1, .int .u8 a0_2, .int .u8 a0_3, .int .u8 a0_4, .string a0_7, .string a0_8, .string (⟨#[]⟩ : ByteArray), .string (⟨#[]⟩ : ByteArray), .string (⟨#[]⟩ : ByteArray), .string (⟨#[]⟩ : ByteArray), .string (⟨#[]⟩ : ByteArray), .string (⟨#[]⟩ : ByteArray), .string (⟨#[]⟩ : ByteArray), .string (⟨#[]⟩ : ByteArray)]) ?_ 7 _ rfl; (with_reducible repeat (first | refine kN ?_ _ | refine kD ?_ | refine kA ?_ _)); refine blk_put (cs:=#[.int .u8 a0_0, .int .u8 a0_1, .int .u8 a0_2, .int .u8 a0_3, .int .u8 a0_4, .string a0_7, .string (⟨#[]⟩ : ByteArray), .string (⟨#[]⟩ : ByteArray), .string (⟨#[]⟩ : ByteArray), .string (⟨#[]⟩ : ByteArray), .string (⟨#[]⟩ : ByteArray), .string (⟨#[]⟩ : ByteArray), .string (⟨#[]⟩ : ByteArray), .string (⟨#[]⟩ : ByteArray), .string (⟨#[]⟩ : ByteArray)]) ?_ 6 _ rfl; (with_reducible repeat (first | refine kN ?_ _ | refine kD ?_ | refine kA ?_ _)); refine blk_put (cs:=#[.int .u8 a0_0, .int .u8 a0_1, .int .u8 a0_2, .int .u8 a0_3, .int .u8 a0_4, .string (⟨#[]⟩ : ByteArray), .string (⟨#[]⟩ : ByteArray), .string (⟨#[]⟩ : ByteArray), .string (⟨#[]⟩ : ByteArray), .string (⟨#[]⟩ : ByteArray), .string (⟨#[]⟩ : ByteArray), .string (⟨#[]⟩ : ByteArray), .string (⟨#[]⟩ : ByteArray), .string (⟨#[]⟩ : ByteArray), .string (⟨#[]⟩ : ByteArray)]) ?_ 5 _ rfl; (with_reducible repeat (first | refine kN ?_ _ | refine kD ?_ | refine kA ?_ _)); refine blk_put (cs:=#[.int .u8 a0_0, .int .u8 a0_1, .int .u8 a0_2, .int .u8 a0_3, .int .u8 0, .string (⟨#[]⟩ : ByteArray), .string (⟨#[]⟩ : ByteArray), .string (⟨#[]⟩ : ByteArray), .string (⟨#[]⟩ : ByteArray), .string (⟨#[]⟩ : ByteArray), .string (⟨#[]⟩ : ByteArray), .string (⟨#[]⟩ : ByteArray), .string (⟨#[]⟩ : ByteArray), .string (⟨#[]⟩ : ByteArray), .string (⟨#[]⟩ : ByteArray)]) ?_ 4 _ rfl; (with_reducible repeat (first | refine kN ?_ _ | refine kD ?_ | refine kA ?_ _)); refine blk_put (cs:=#[.int .u8 a0_0, .int .u8 a0_1, .int .u8 a0_2, .int .u8 0, .int .u8 0, .string (⟨#[]⟩ : ByteArray), .string (⟨#[]⟩ : ByteArray), .string (⟨#[]⟩ : ByteArray), .string (⟨#[]⟩ : ByteArray), .string (⟨#[]⟩ : ByteArray), .string (⟨#[]⟩ : ByteArray), .string (⟨#[]⟩ : ByteArray), .string (⟨#[]⟩ : ByteArray), .string (⟨#[]⟩ : ByteArray), .string (⟨#[]⟩ : ByteArray)]) ?_ 3 _ rfl; (with_reducible repeat (first | refine kN ?_ _ | refine kD ?_ | refine kA ?_ _)); refine blk_put (cs:=#[.int .u8 a0_0, .int .u8 a0_1, .int .u8 0, .int .u8 0, .int .u8 0, .string (⟨#[]⟩ : ByteArray), .string (⟨#[]⟩ : ByteArray), .string (⟨#[]⟩ : ByteArray), .string (⟨#[]⟩ : ByteArray), .string (⟨#[]⟩ : ByteArray), .string (⟨#[]⟩ : ByteArray), .string (⟨#[]⟩ : ByteArray), .string (⟨#[]⟩ : ByteArray), .string (⟨#[]⟩ : ByteArray), .string (⟨#[]⟩ : ByteArray)]) ?_ 2 _ rfl; (with_reducible repeat (first | refine kN ?_ _ | refine kD ?_ | refine kA ?_ _)); refine blk_put (cs:=#[.int .u8 a0_0, .int .u8 0, .int .u8 0, .int .u8 0, .int .u8 0, .string (⟨#[]⟩ : ByteArray), .string (⟨#[]⟩ : ByteArray), .string (⟨#[]⟩ : ByteArray), .string (⟨#[]⟩ : ByteArray), .string (⟨#[]⟩ : ByteArray), .string (⟨#[]⟩ : ByteArray), .string (⟨#[]⟩ : ByteArray), .string (⟨#[]⟩ : ByteArray), .string (⟨#[]⟩ : ByteArray), .string (⟨#[]⟩ : ByteArray)]) ?_ 1 _ rfl; (with_reducible repeat (first | refine kN ?_ _ | refine kD ?_ | refine kA ?_ _)); refine blk_put (cs:=#[.int .u8 0, .int .u8 0, .int .u8 0, .int .u8 0, .int .u8 0, .string (⟨#[]⟩ : ByteArray), .string (⟨#[]⟩ : ByteArray), .string (⟨#[]⟩ : ByteArray), .string (⟨#[]⟩ : ByteArray), .string (⟨#[]⟩ : ByteArray), .string (⟨#[]⟩ : ByteArray), .string (⟨#[]⟩ : ByteArray), .string (⟨#[]⟩ : ByteArray), .string (⟨#[]⟩ : ByteArray), .string (⟨#[]⟩ : ByteArray)]) ?_ 0 _ rfl; (with_reducible repeat (first | refine kN ?_ _ | refine kD ?_ | refine kA ?_ _)); exact BK327.out) hb); have n2_:=Aside0.mk (below_step (by repeat (first | (with_reducible first | exact HB.out | apply bA | apply bN | apply bD | refine below_set ?_ GE325.out | refine below_set ?_ GE327.out) | exact HB.out)) hb); clear BK325; clear BK327; clear HB; have BK325:=n0_; have BK327:=n1_; have HB:=n2_; clear n0_ n1_ n2_; (try clear hb)))
   go_ret2
   exact ⟨by first | rfl | (simp [errW_none,errW_some] <;> rfl) | (simp [*,errW_none,errW_some] <;> rfl),by repeat (first | (with_reducible first | exact HB.out | apply bA | apply bN | apply bD | refine below_set ?_ GE325.out | refine below_set ?_ GE327.out) | exact HB.out)⟩
 ·replace c4:=Bool.eq_false_iff.mpr c4
  subst c4
  have H1 : (some ((⟨#[]⟩ : ByteArray),17))=some (r1,r2):=by rw [if_neg (show ¬ (false=true) by decide)] at H; exact H
  clear H
  have H:=H1
  clear H1
  simp only [Option.some.injEq,Prod.mk.injEq] at H
  obtain ⟨rfl,rfl⟩:=H
  go_enter Tryd.func13,Tryd.ntmps13
  go_wp2_with (first | ((with_reducible refine gate_dst (N:=2) rfl ?_); refine box_event ?hg (N:=2) ?hd (cs:=#[.int .u8 a0_0, .int .u8 a0_1, .int .u8 a0_2, .int .u8 a0_3, .int .u8 a0_4, .string a0_5, .string a0_6, .string a0_7, .string a0_8, .string a0_9, .string a0_10, .string a0_11, .string a0_12, .string a0_13, .string a0_14]) (t:=25) ?hr ?_; (case hd=>rfl); (case hg=>rfl); (case hr=>first | (go_simp; done) | (go_simp; rfl)); intro gb325 hg w29 hbox hb; have n0_:=Aside0.mk (below_step (by repeat (first | (with_reducible first | exact HB.out | apply bA | apply bN | apply bD) | exact HB.out)) hb); have n1_:=Aside0.mk (hbox); have n2_:=Aside0.mk ((by rw [hg]; exact (below_size (by repeat (first | (with_reducible first | exact HB.out | apply bA | apply bN | apply bD) | exact HB.out))) : w.heap.size≤gb325)); have n3_:=Aside0.mk ((by rw [hg]; exact (below_size (by repeat (first | (with_reducible first | exact HB.out | apply bA | apply bN | apply bD) | exact HB.out))) : w.heap.size≤gb325)); clear HB; have HB:=n0_; have BK325:=n1_; have GW325:=n2_; have GE325:=n3_; clear n0_ n1_ n2_ n3_; clear hb hbox hg) | ((with_reducible refine gate_callee (f:=16) rfl ?_); refine goesL_ (some 10) rfl rfl Tryd.func16 (by kernel_rfl) rfl #[.string a1] rfl (by (try simp only [List.map_toArray,List.map_cons,List.map_nil]); first | done | rfl | (simp only [List.length_drop,List.length_take]; rfl)) ?_; (with_reducible refine (lamplighterref10_Known.calls a1 false _ A3.out).mono ?_); rintro e w' ⟨rfl,⟨nd,rfl⟩⟩; refine ⟨_,rfl,?_⟩))
  go_ret2
  exact ⟨by first | rfl | (simp [errW_none,errW_some] <;> rfl) | (simp [*,errW_none,errW_some] <;> rfl),by repeat (first | (with_reducible first | exact HB.out | apply bA | apply bN | apply bD | refine below_set ?_ GE325.out) | exact HB.out)⟩


/-! ### ack_Codes: function 14 -/
def ack_Codes.f : Option (List ByteArray):=some codesL
theorem ack_Codes.calls (r : List ByteArray) (w : World) (h : ack_Codes.f=some r) (hGC : GlobC w) :
  Calls Tryd.prog 14 #[] w fun e w' => ∃ v0_ : Value,e = .returned (v0_)∧Kd.R Kd.string 9 w' w.heap.size (fun _=>True) v0_ r∧Below w.heap.size w w':=by
 obtain rfl:=Option.some.inj h
 have HG:=Lib.hid hGC
 clear hGC h
 go_enter Tryd.func14,Tryd.ntmps14
 go_wp2_with fail
 refine (Tryd.slices_Clone_string 0 0 3 3 codesL _ (by decide) (by decide) (fun j hj=>by rw [Nat.zero_add]; exact HG.out j hj)).mono ?_
 rintro e w' ⟨v,rfl,ho,_,hb⟩
 go_wp2_with fail
 refine bodyPost_ret (v:=v) (by simp [results,Tryd.results14,go_sem]) rfl ⟨v,rfl,Kd.R_of_own ?_ (fun _ _=>trivial),hb⟩
 exact ho


/-! ### lamplighterlaw10_AckBuilds: function 3 -/
def lamplighterlaw10_AckBuilds.j0 : Nat→ByteArray→Bool→Int→Int→Int→Int→Int→ByteArray→ByteArray→ByteArray→ByteArray→ByteArray→ByteArray→ByteArray→ByteArray→ByteArray→ByteArray→Option (Bool)
 | 0,_,_,_,_,_,_,_,_,_,_,_,_,_,_,_,_,_=>none
 | k + 1,x1,x16,x339000,x339001,x339002,x339003,x339004,x339005,x339006,x339007,x339008,x339009,x339010,x339011,x339012,x339013,x339014=>if x16=true then ((lamplighterlaw10_alive.f k).bind fun t340=>(some t340)) else ((ack_Build.f k x339000 x339001 x339002 x339003 x339004 x339005 x339006 x339007 x339008 x339009 x339010 x339011 x339012 x339013 x339014 x1).bind fun bt341=>((lamplighterref10_Build.f k x339000 x339001 x339002 x339003 x339004 x339005 x339006 x339007 x339008 x339009 x339010 x339011 x339012 x339013 x339014 x1).bind fun bt345=>((ack_Codes.f).bind fun t347=>((lamplighterlaw10_alive.f k).bind fun t350=>(if t350=true then (if (strOfNums bt341.1).toList=bt345.1.toList then (if bt341.2=bt345.2 then ((ack_Known.f k x1).bind fun t351=>((lamplighterref10_Known.f x1).bind fun t352=>(if (t351 == t352)=true then (if (t347.length : Int)=3 then (if 0 < (t347.length : Int) then (if (rdOf ByteArray.empty t347 0).toList=([65,65] : List UInt8) then (if 1 < (t347.length : Int) then (if (rdOf ByteArray.empty t347 1).toList=([65,69] : List UInt8) then (if 2 < (t347.length : Int) then (some ((rdOf ByteArray.empty t347 2).toList == ([65,82] : List UInt8))) else (none)) else (some false)) else (none)) else (some false)) else (none)) else (some false)) else (some false)))) else (some false)) else (some false)) else (some false))))))
def lamplighterlaw10_AckBuilds.f (k : Nat) (a0_0 : Int) (a0_1 : Int) (a0_2 : Int) (a0_3 : Int) (a0_4 : Int) (a0_5 : ByteArray) (a0_6 : ByteArray) (a0_7 : ByteArray) (a0_8 : ByteArray) (a0_9 : ByteArray) (a0_10 : ByteArray) (a0_11 : ByteArray) (a0_12 : ByteArray) (a0_13 : ByteArray) (a0_14 : ByteArray) (a1 : ByteArray) : Option (Bool):=(lamplighterlaw10_great.f a0_0 a0_1 a0_2 a0_3 a0_4 a0_5 a0_6 a0_7 a0_8 a0_9 a0_10 a0_11 a0_12 a0_13 a0_14).bind fun t339=>(if t339=true then (lamplighterlaw10_AckBuilds.j0 k a1 true a0_0 a0_1 a0_2 a0_3 a0_4 a0_5 a0_6 a0_7 a0_8 a0_9 a0_10 a0_11 a0_12 a0_13 a0_14) else (lamplighterlaw10_AckBuilds.j0 k a1 (decide ((a1.size : Int) > 500)) a0_0 a0_1 a0_2 a0_3 a0_4 a0_5 a0_6 a0_7 a0_8 a0_9 a0_10 a0_11 a0_12 a0_13 a0_14))
theorem lamplighterlaw10_AckBuilds.mono_l : ∀ k,(∀ y0 y1 y2 y3 y4 y5 y6 y7 y8 y9 y10 y11 y12 y13 y14 y15 y16,LeO (lamplighterlaw10_AckBuilds.j0 k y0 y1 y2 y3 y4 y5 y6 y7 y8 y9 y10 y11 y12 y13 y14 y15 y16) (lamplighterlaw10_AckBuilds.j0 (k + 1) y0 y1 y2 y3 y4 y5 y6 y7 y8 y9 y10 y11 y12 y13 y14 y15 y16))
 | 0=>fun _ _ _ _ _ _ _ _ _ _ _ _ _ _ _ _ _ r h=>by simp [lamplighterlaw10_AckBuilds.j0] at h
 | k + 1=>by
  have ih0:=lamplighterlaw10_AckBuilds.mono_l k
  ·intro y0 y1 y2 y3 y4 y5 y6 y7 y8 y9 y10 y11 y12 y13 y14 y15 y16
   unfold lamplighterlaw10_AckBuilds.j0
   repeat' first
   | (with_reducible exact ih0 _ _ _ _ _ _ _ _ _ _ _ _ _ _ _ _ _)
   | (with_reducible exact ack_Build.mono _ _ _ _ _ _ _ _ _ _ _ _ _ _ _ _ _)
   | (with_reducible exact ack_Known.mono _ _)
   | (with_reducible exact lamplighterlaw10_alive.mono _)
   | (with_reducible exact lamplighterref10_Build.mono _ _ _ _ _ _ _ _ _ _ _ _ _ _ _ _ _)
   | (with_reducible exact LeO.refl _)
   | (with_reducible exact LeO.none _)
   | (with_reducible refine LeO.ite ?_ ?_)
   | (with_reducible refine LeO.bind ?_ (fun _=>?_))
   | exact ih0 _ _ _ _ _ _ _ _ _ _ _ _ _ _ _ _ _
   | exact ack_Build.mono _ _ _ _ _ _ _ _ _ _ _ _ _ _ _ _ _
   | exact ack_Known.mono _ _
   | exact lamplighterlaw10_alive.mono _
   | exact lamplighterref10_Build.mono _ _ _ _ _ _ _ _ _ _ _ _ _ _ _ _ _
   | exact LeO.none _
   | refine LeO.ite ?_ ?_
   | refine LeO.bind ?_ (fun _=>?_)
theorem lamplighterlaw10_AckBuilds.mono : ∀ a0 a1 a2 a3 a4 a5 a6 a7 a8 a9 a10 a11 a12 a13 a14 a15 k,LeO (lamplighterlaw10_AckBuilds.f k a0 a1 a2 a3 a4 a5 a6 a7 a8 a9 a10 a11 a12 a13 a14 a15) (lamplighterlaw10_AckBuilds.f (k + 1) a0 a1 a2 a3 a4 a5 a6 a7 a8 a9 a10 a11 a12 a13 a14 a15):=by
 intro a0 a1 a2 a3 a4 a5 a6 a7 a8 a9 a10 a11 a12 a13 a14 a15 k
 have ih0:=lamplighterlaw10_AckBuilds.mono_l k
 unfold lamplighterlaw10_AckBuilds.f
 repeat' first
   | (with_reducible exact ih0 _ _ _ _ _ _ _ _ _ _ _ _ _ _ _ _ _)
   | (with_reducible exact ack_Build.mono _ _ _ _ _ _ _ _ _ _ _ _ _ _ _ _ _)
   | (with_reducible exact ack_Known.mono _ _)
   | (with_reducible exact lamplighterlaw10_alive.mono _)
   | (with_reducible exact lamplighterref10_Build.mono _ _ _ _ _ _ _ _ _ _ _ _ _ _ _ _ _)
   | (with_reducible exact LeO.refl _)
   | (with_reducible exact LeO.none _)
   | (with_reducible refine LeO.ite ?_ ?_)
   | (with_reducible refine LeO.bind ?_ (fun _=>?_))
   | exact ih0 _ _ _ _ _ _ _ _ _ _ _ _ _ _ _ _ _
   | exact ack_Build.mono _ _ _ _ _ _ _ _ _ _ _ _ _ _ _ _ _
   | exact ack_Known.mono _ _
   | exact lamplighterlaw10_alive.mono _
   | exact lamplighterref10_Build.mono _ _ _ _ _ _ _ _ _ _ _ _ _ _ _ _ _
   | exact LeO.none _
   | refine LeO.ite ?_ ?_
   | refine LeO.bind ?_ (fun _=>?_)
theorem lamplighterlaw10_AckBuilds.calls (k : Nat) (a0_0 : Int) (a0_1 : Int) (a0_2 : Int) (a0_3 : Int) (a0_4 : Int) (a0_5 : ByteArray) (a0_6 : ByteArray) (a0_7 : ByteArray) (a0_8 : ByteArray) (a0_9 : ByteArray) (a0_10 : ByteArray) (a0_11 : ByteArray) (a0_12 : ByteArray) (a0_13 : ByteArray) (a0_14 : ByteArray) (a1 : ByteArray) (r : Bool) (w : World) (h : lamplighterlaw10_AckBuilds.f k a0_0 a0_1 a0_2 a0_3 a0_4 a0_5 a0_6 a0_7 a0_8 a0_9 a0_10 a0_11 a0_12 a0_13 a0_14 a1=some r) (hrt : r=true) (hGC : GlobC w) :
  Calls Tryd.prog 3 #[.agg #[.int .u8 a0_0, .int .u8 a0_1, .int .u8 a0_2, .int .u8 a0_3, .int .u8 a0_4, .string a0_5, .string a0_6, .string a0_7, .string a0_8, .string a0_9, .string a0_10, .string a0_11, .string a0_12, .string a0_13, .string a0_14], .string a1] w fun e w'=>e = .returned (.bool r)∧Below w.heap.size w w':=by
 have HGLOC:=Lib.hid hGC
 clear hGC
 have hu25:=Tryd.underlying25
 have HB:=Aside0.mk (Below.refl w.heap.size w)
 have H : ((lamplighterlaw10_great.f a0_0 a0_1 a0_2 a0_3 a0_4 a0_5 a0_6 a0_7 a0_8 a0_9 a0_10 a0_11 a0_12 a0_13 a0_14).bind fun t339=>(if t339=true then (lamplighterlaw10_AckBuilds.j0 k a1 true a0_0 a0_1 a0_2 a0_3 a0_4 a0_5 a0_6 a0_7 a0_8 a0_9 a0_10 a0_11 a0_12 a0_13 a0_14) else (lamplighterlaw10_AckBuilds.j0 k a1 (decide ((a1.size : Int) > 500)) a0_0 a0_1 a0_2 a0_3 a0_4 a0_5 a0_6 a0_7 a0_8 a0_9 a0_10 a0_11 a0_12 a0_13 a0_14)))=some r:=h
 clear h
 have HC3:=Aside0.mk H
 clear H
 go_enter Tryd.func3,Tryd.ntmps3
 go_upto_region 1 with (first | ((with_reducible refine gate_dst (N:=2) rfl ?_); (try (refine gate_guard (by rfl) ?_; dsimp only)); refine box_event ?hg (N:=2) ?hd (cs:=#[.int .u8 a0_0, .int .u8 a0_1, .int .u8 a0_2, .int .u8 a0_3, .int .u8 a0_4, .string a0_5, .string a0_6, .string a0_7, .string a0_8, .string a0_9, .string a0_10, .string a0_11, .string a0_12, .string a0_13, .string a0_14]) (t:=25) ?hr ?_; (case hd=>rfl); (case hg=>rfl); (case hr=>first | (go_simp; done) | (go_simp; rfl)); intro gb338 hg w4 hbox hb; have n0_:=Aside0.mk (below_step (by repeat (first | (with_reducible first | exact HB.out | apply bA | apply bN | apply bD) | exact HB.out)) hb); have n1_:=Aside0.mk (hbox); have n2_:=Aside0.mk ((by rw [hg]; exact (below_size (by repeat (first | (with_reducible first | exact HB.out | apply bA | apply bN | apply bD) | exact HB.out))) : w.heap.size≤gb338)); have n3_:=Aside0.mk ((by rw [hg]; exact (below_size (by repeat (first | (with_reducible first | exact HB.out | apply bA | apply bN | apply bD) | exact HB.out))) : w.heap.size≤gb338)); clear HB; have HB:=n0_; have BK338:=n1_; have GW338:=n2_; have GE338:=n3_; clear n0_ n1_ n2_ n3_; clear hb hbox hg))
 (try simp only [Act.put,sA_,s0_,s1_])
 go_cut [16] (fun v16 wc => ∃ (kq : Nat) (x16_2 : Bool),v16 = .bool x16_2∧Aside0 (lamplighterlaw10_AckBuilds.j0 kq a1 x16_2 a0_0 a0_1 a0_2 a0_3 a0_4 a0_5 a0_6 a0_7 a0_8 a0_9 a0_10 a0_11 a0_12 a0_13 a0_14=some r)∧Aside0 (kq≤k)∧Aside0 (wc.heap[gb338]?=some (.cells #[.int .u8 a0_0, .int .u8 a0_1, .int .u8 a0_2, .int .u8 a0_3, .int .u8 a0_4, .string a0_5, .string a0_6, .string a0_7, .string a0_8, .string a0_9, .string a0_10, .string a0_11, .string a0_12, .string a0_13, .string a0_14] 25 (0,0)))∧Aside0 (Below w.heap.size w wc))
 case first =>
  have H:=HC3.out
  clear HC3
  replace H:=Option.bind_eq_some_iff.mp H
  obtain ⟨t339,A50,H⟩:=H
  replace H : (if t339=true then (lamplighterlaw10_AckBuilds.j0 k a1 true a0_0 a0_1 a0_2 a0_3 a0_4 a0_5 a0_6 a0_7 a0_8 a0_9 a0_10 a0_11 a0_12 a0_13 a0_14) else (lamplighterlaw10_AckBuilds.j0 k a1 (decide ((a1.size : Int) > 500)) a0_0 a0_1 a0_2 a0_3 a0_4 a0_5 a0_6 a0_7 a0_8 a0_9 a0_10 a0_11 a0_12 a0_13 a0_14))=some r:=H
  have A5:=Aside0.mk A50
  clear A50
  by_cases c6 : t339=true
  ·subst c6
   have H1 : (lamplighterlaw10_AckBuilds.j0 k a1 true a0_0 a0_1 a0_2 a0_3 a0_4 a0_5 a0_6 a0_7 a0_8 a0_9 a0_10 a0_11 a0_12 a0_13 a0_14)=some r:=by rw [if_pos rfl] at H; exact H
   clear H
   have H:=H1
   clear H1
   have H':=Aside0.mk H
   clear H
   have hcz7_0:w4.cell? ⟨gb338,0,none⟩=some (.int .u8 a0_0):=blk_cell BK338.out 0
   have hcz7_1:w4.cell? ⟨gb338,1,none⟩=some (.int .u8 a0_1):=blk_cell BK338.out 1
   have hcz7_2:w4.cell? ⟨gb338,2,none⟩=some (.int .u8 a0_2):=blk_cell BK338.out 2
   have hcz7_3:w4.cell? ⟨gb338,3,none⟩=some (.int .u8 a0_3):=blk_cell BK338.out 3
   have hcz7_4:w4.cell? ⟨gb338,4,none⟩=some (.int .u8 a0_4):=blk_cell BK338.out 4
   have hcz7_5:w4.cell? ⟨gb338,5,none⟩=some (.string a0_5):=blk_cell BK338.out 5
   have hcz7_6:w4.cell? ⟨gb338,6,none⟩=some (.string a0_6):=blk_cell BK338.out 6
   have hcz7_7:w4.cell? ⟨gb338,7,none⟩=some (.string a0_7):=blk_cell BK338.out 7
   have hcz7_8:w4.cell? ⟨gb338,8,none⟩=some (.string a0_8):=blk_cell BK338.out 8
   have hcz7_9:w4.cell? ⟨gb338,9,none⟩=some (.string a0_9):=blk_cell BK338.out 9
   have hcz7_10:w4.cell? ⟨gb338,10,none⟩=some (.string a0_10):=blk_cell BK338.out 10
   have hcz7_11:w4.cell? ⟨gb338,11,none⟩=some (.string a0_11):=blk_cell BK338.out 11
   have hcz7_12:w4.cell? ⟨gb338,12,none⟩=some (.string a0_12):=blk_cell BK338.out 12
   have hcz7_13:w4.cell? ⟨gb338,13,none⟩=some (.string a0_13):=blk_cell BK338.out 13
   have hcz7_14:w4.cell? ⟨gb338,14,none⟩=some (.string a0_14):=blk_cell BK338.out 14
   have hfz7_0:=blk_frozen BK338.out 0
   have hfz7_1:=blk_frozen BK338.out 1
   have hfz7_2:=blk_frozen BK338.out 2
   have hfz7_3:=blk_frozen BK338.out 3
   have hfz7_4:=blk_frozen BK338.out 4
   have hfz7_5:=blk_frozen BK338.out 5
   have hfz7_6:=blk_frozen BK338.out 6
   have hfz7_7:=blk_frozen BK338.out 7
   have hfz7_8:=blk_frozen BK338.out 8
   have hfz7_9:=blk_frozen BK338.out 9
   have hfz7_10:=blk_frozen BK338.out 10
   have hfz7_11:=blk_frozen BK338.out 11
   have hfz7_12:=blk_frozen BK338.out 12
   have hfz7_13:=blk_frozen BK338.out 13
   have hfz7_14:=blk_frozen BK338.out 14
   go_wp2_with (first | ((with_reducible refine gate_callee (f:=10) rfl ?_); refine goesL_ (some 11) rfl rfl Tryd.func10 (by kernel_rfl) rfl #[.agg #[.int .u8 a0_0, .int .u8 a0_1, .int .u8 a0_2, .int .u8 a0_3, .int .u8 a0_4, .string a0_5, .string a0_6, .string a0_7, .string a0_8, .string a0_9, .string a0_10, .string a0_11, .string a0_12, .string a0_13, .string a0_14]] rfl (by (try simp only [List.map_toArray,List.map_cons,List.map_nil]); first | done | rfl | (simp only [List.length_drop,List.length_take]; rfl)) ?_; (with_reducible refine (lamplighterlaw10_great.calls a0_0 a0_1 a0_2 a0_3 a0_4 a0_5 a0_6 a0_7 a0_8 a0_9 a0_10 a0_11 a0_12 a0_13 a0_14 true _ A5.out).mono ?_); rintro e w8 ⟨rfl,hb⟩; refine ⟨_,rfl,?_⟩; have n0_:=Aside0.mk (blk_below (g:=gb338) (o := .cells #[.int .u8 a0_0, .int .u8 a0_1, .int .u8 a0_2, .int .u8 a0_3, .int .u8 a0_4, .string a0_5, .string a0_6, .string a0_7, .string a0_8, .string a0_9, .string a0_10, .string a0_11, .string a0_12, .string a0_13, .string a0_14] 25 (0,0)) (by (with_reducible repeat (first | refine kN ?_ _ | refine kD ?_ | refine kA ?_ _)); exact BK338.out) hb); have n1_:=Aside0.mk (below_step (by repeat (first | (with_reducible first | exact HB.out | apply bA | apply bN | apply bD | refine below_set ?_ GE338.out) | exact HB.out)) hb); clear BK338; clear HB; have BK338:=n0_; have HB:=n1_; clear n0_ n1_; (try clear hb)))
   go_meet
   case rel=>exact ⟨_,(true),(by first | rfl | (simp; done) | (simp [*]; done)),H',⟨by first | omega | exact Nat.le_refl _⟩,⟨by (with_reducible repeat (first | refine kN ?_ _ | refine kD ?_ | refine kA ?_ _)); exact BK338.out⟩,⟨by repeat (first | (with_reducible first | exact HB.out | apply bA | apply bN | apply bD | refine below_set ?_ GE338.out) | exact HB.out)⟩⟩
  ·replace c6:=Bool.eq_false_iff.mpr c6
   subst c6
   have H1 : (lamplighterlaw10_AckBuilds.j0 k a1 (decide ((a1.size : Int) > 500)) a0_0 a0_1 a0_2 a0_3 a0_4 a0_5 a0_6 a0_7 a0_8 a0_9 a0_10 a0_11 a0_12 a0_13 a0_14)=some r:=by rw [if_neg (show ¬ (false=true) by decide)] at H; exact H
   clear H
   have H:=H1
   clear H1
   have H':=Aside0.mk H
   clear H
   have hcz9_0:w4.cell? ⟨gb338,0,none⟩=some (.int .u8 a0_0):=blk_cell BK338.out 0
   have hcz9_1:w4.cell? ⟨gb338,1,none⟩=some (.int .u8 a0_1):=blk_cell BK338.out 1
   have hcz9_2:w4.cell? ⟨gb338,2,none⟩=some (.int .u8 a0_2):=blk_cell BK338.out 2
   have hcz9_3:w4.cell? ⟨gb338,3,none⟩=some (.int .u8 a0_3):=blk_cell BK338.out 3
   have hcz9_4:w4.cell? ⟨gb338,4,none⟩=some (.int .u8 a0_4):=blk_cell BK338.out 4
   have hcz9_5:w4.cell? ⟨gb338,5,none⟩=some (.string a0_5):=blk_cell BK338.out 5
   have hcz9_6:w4.cell? ⟨gb338,6,none⟩=some (.string a0_6):=blk_cell BK338.out 6
   have hcz9_7:w4.cell? ⟨gb338,7,none⟩=some (.string a0_7):=blk_cell BK338.out 7
   have hcz9_8:w4.cell? ⟨gb338,8,none⟩=some (.string a0_8):=blk_cell BK338.out 8
   have hcz9_9:w4.cell? ⟨gb338,9,none⟩=some (.string a0_9):=blk_cell BK338.out 9
   have hcz9_10:w4.cell? ⟨gb338,10,none⟩=some (.string a0_10):=blk_cell BK338.out 10
   have hcz9_11:w4.cell? ⟨gb338,11,none⟩=some (.string a0_11):=blk_cell BK338.out 11
   have hcz9_12:w4.cell? ⟨gb338,12,none⟩=some (.string a0_12):=blk_cell BK338.out 12
   have hcz9_13:w4.cell? ⟨gb338,13,none⟩=some (.string a0_13):=blk_cell BK338.out 13
   have hcz9_14:w4.cell? ⟨gb338,14,none⟩=some (.string a0_14):=blk_cell BK338.out 14
   have hfz9_0:=blk_frozen BK338.out 0
   have hfz9_1:=blk_frozen BK338.out 1
   have hfz9_2:=blk_frozen BK338.out 2
   have hfz9_3:=blk_frozen BK338.out 3
   have hfz9_4:=blk_frozen BK338.out 4
   have hfz9_5:=blk_frozen BK338.out 5
   have hfz9_6:=blk_frozen BK338.out 6
   have hfz9_7:=blk_frozen BK338.out 7
   have hfz9_8:=blk_frozen BK338.out 8
   have hfz9_9:=blk_frozen BK338.out 9
   have hfz9_10:=blk_frozen BK338.out 10
   have hfz9_11:=blk_frozen BK338.out 11
   have hfz9_12:=blk_frozen BK338.out 12
   have hfz9_13:=blk_frozen BK338.out 13
   have hfz9_14:=blk_frozen BK338.out 14
   go_wp2_with (first | ((with_reducible refine gate_callee (f:=10) rfl ?_); refine goesL_ (some 11) rfl rfl Tryd.func10 (by kernel_rfl) rfl #[.agg #[.int .u8 a0_0, .int .u8 a0_1, .int .u8 a0_2, .int .u8 a0_3, .int .u8 a0_4, .string a0_5, .string a0_6, .string a0_7, .string a0_8, .string a0_9, .string a0_10, .string a0_11, .string a0_12, .string a0_13, .string a0_14]] rfl (by (try simp only [List.map_toArray,List.map_cons,List.map_nil]); first | done | rfl | (simp only [List.length_drop,List.length_take]; rfl)) ?_; (with_reducible refine (lamplighterlaw10_great.calls a0_0 a0_1 a0_2 a0_3 a0_4 a0_5 a0_6 a0_7 a0_8 a0_9 a0_10 a0_11 a0_12 a0_13 a0_14 false _ A5.out).mono ?_); rintro e w10 ⟨rfl,hb⟩; refine ⟨_,rfl,?_⟩; have n0_:=Aside0.mk (blk_below (g:=gb338) (o := .cells #[.int .u8 a0_0, .int .u8 a0_1, .int .u8 a0_2, .int .u8 a0_3, .int .u8 a0_4, .string a0_5, .string a0_6, .string a0_7, .string a0_8, .string a0_9, .string a0_10, .string a0_11, .string a0_12, .string a0_13, .string a0_14] 25 (0,0)) (by (with_reducible repeat (first | refine kN ?_ _ | refine kD ?_ | refine kA ?_ _)); exact BK338.out) hb); have n1_:=Aside0.mk (below_step (by repeat (first | (with_reducible first | exact HB.out | apply bA | apply bN | apply bD | refine below_set ?_ GE338.out) | exact HB.out)) hb); clear BK338; clear HB; have BK338:=n0_; have HB:=n1_; clear n0_ n1_; (try clear hb)))
   go_meet
   case rel=>exact ⟨_,(decide ((a1.size : Int) > 500)),(by first | rfl | (simp; done) | (simp [*]; done)),H',⟨by first | omega | exact Nat.le_refl _⟩,⟨by (with_reducible repeat (first | refine kN ?_ _ | refine kD ?_ | refine kA ?_ _)); exact BK338.out⟩,⟨by repeat (first | (with_reducible first | exact HB.out | apply bA | apply bN | apply bD | refine below_set ?_ GE338.out) | exact HB.out)⟩⟩
 case rest =>
  clear HC3
  try clear c1
  try clear p2
  try clear c3
  try clear c6
  try clear c10
  try clear hcz7_0
  try clear hcz7_1
  try clear hcz7_10
  try clear hcz7_11
  try clear hcz7_12
  try clear hcz7_13
  try clear hcz7_14
  try clear hcz7_2
  try clear hcz7_3
  try clear hcz7_4
  try clear hcz7_5
  try clear hcz7_6
  try clear hcz7_7
  try clear hcz7_8
  try clear hcz7_9
  try clear hcz9_0
  try clear hcz9_1
  try clear hcz9_10
  try clear hcz9_11
  try clear hcz9_12
  try clear hcz9_13
  try clear hcz9_14
  try clear hcz9_2
  try clear hcz9_3
  try clear hcz9_4
  try clear hcz9_5
  try clear hcz9_6
  try clear hcz9_7
  try clear hcz9_8
  try clear hcz9_9
  try clear hfz7_0
  try clear hfz7_1
  try clear hfz7_10
  try clear hfz7_11
  try clear hfz7_12
  try clear hfz7_13
  try clear hfz7_14
  try clear hfz7_2
  try clear hfz7_3
  try clear hfz7_4
  try clear hfz7_5
  try clear hfz7_6
  try clear hfz7_7
  try clear hfz7_8
  try clear hfz7_9
  try clear hfz9_0
  try clear hfz9_1
  try clear hfz9_10
  try clear hfz9_11
  try clear hfz9_12
  try clear hfz9_13
  try clear hfz9_14
  try clear hfz9_2
  try clear hfz9_3
  try clear hfz9_4
  try clear hfz9_5
  try clear hfz9_6
  try clear hfz9_7
  try clear hfz9_8
  try clear hfz9_9
  obtain ⟨kq,x16_2,rfl,HA,HJ2,BK338,HB⟩:=hcut
  cases kq with
  | zero=>exact absurd HA.out (by simp [lamplighterlaw10_AckBuilds.j0])
  | succ kj2 =>
   have H:=HA.out
   clear HA
   simp only [lamplighterlaw10_AckBuilds.j0] at H
   by_cases c11 : x16_2=true
   ·subst c11
    have H1 : ((lamplighterlaw10_alive.f kj2).bind fun t340=>(some t340))=some r:=by rw [if_pos rfl] at H; exact H
    clear H
    have H:=H1
    clear H1
    replace H:=Option.bind_eq_some_iff.mp H
    obtain ⟨t340,A120,H⟩:=H
    replace H : (some t340)=some r:=H
    have A12:=Aside0.mk A120
    clear A120
    obtain rfl:=Option.some.inj H
    clear hrt
    go_wp2_with (first | ((with_reducible refine gate_callee (f:=11) rfl ?_); refine goesL_ (some 17) rfl rfl Tryd.func11 (by kernel_rfl) rfl #[] rfl (by (try simp only [List.map_toArray,List.map_cons,List.map_nil]); first | done | rfl | (simp only [List.length_drop,List.length_take]; rfl)) ?_; (with_reducible refine (lamplighterlaw10_alive.calls kj2  t340 _ A12.out (globc_below HGLOC.out (by repeat (first | (with_reducible first | exact HB.out | apply bA | apply bN | apply bD | refine below_set ?_ GE338.out) | exact HB.out)))).mono ?_); rintro e w13 ⟨rfl,hb⟩; refine ⟨_,rfl,?_⟩; have n0_:=Aside0.mk (blk_below (g:=gb338) (o := .cells #[.int .u8 a0_0, .int .u8 a0_1, .int .u8 a0_2, .int .u8 a0_3, .int .u8 a0_4, .string a0_5, .string a0_6, .string a0_7, .string a0_8, .string a0_9, .string a0_10, .string a0_11, .string a0_12, .string a0_13, .string a0_14] 25 (0,0)) (by (with_reducible repeat (first | refine kN ?_ _ | refine kD ?_ | refine kA ?_ _)); exact BK338.out) hb); have n1_:=Aside0.mk (below_step (by repeat (first | (with_reducible first | exact HB.out | apply bA | apply bN | apply bD | refine below_set ?_ GE338.out) | exact HB.out)) hb); clear BK338; clear HB; have BK338:=n0_; have HB:=n1_; clear n0_ n1_; (try clear hb)))
    go_ret
    exact ⟨by first | rfl | (simp [errW_none,errW_some] <;> rfl) | (simp [*,errW_none,errW_some] <;> rfl),by repeat (first | (with_reducible first | exact HB.out | apply bA | apply bN | apply bD | refine below_set ?_ GE338.out) | exact HB.out)⟩
   ·replace c11:=Bool.eq_false_iff.mpr c11
    subst c11
    have H1 : ((ack_Build.f kj2 a0_0 a0_1 a0_2 a0_3 a0_4 a0_5 a0_6 a0_7 a0_8 a0_9 a0_10 a0_11 a0_12 a0_13 a0_14 a1).bind fun bt341=>((lamplighterref10_Build.f kj2 a0_0 a0_1 a0_2 a0_3 a0_4 a0_5 a0_6 a0_7 a0_8 a0_9 a0_10 a0_11 a0_12 a0_13 a0_14 a1).bind fun bt345=>((ack_Codes.f).bind fun t347=>((lamplighterlaw10_alive.f kj2).bind fun t350=>(if t350=true then (if (strOfNums bt341.1).toList=bt345.1.toList then (if bt341.2=bt345.2 then ((ack_Known.f kj2 a1).bind fun t351=>((lamplighterref10_Known.f a1).bind fun t352=>(if (t351 == t352)=true then (if (t347.length : Int)=3 then (if 0 < (t347.length : Int) then (if (rdOf ByteArray.empty t347 0).toList=([65,65] : List UInt8) then (if 1 < (t347.length : Int) then (if (rdOf ByteArray.empty t347 1).toList=([65,69] : List UInt8) then (if 2 < (t347.length : Int) then (some ((rdOf ByteArray.empty t347 2).toList == ([65,82] : List UInt8))) else (none)) else (some false)) else (none)) else (some false)) else (none)) else (some false)) else (some false)))) else (some false)) else (some false)) else (some false))))))=some r:=by rw [if_neg (show ¬ (false=true) by decide)] at H; exact H
    clear H
    have H:=H1
    clear H1
    replace H:=Option.bind_eq_some_iff.mp H
    obtain ⟨⟨t341,t344⟩,A140,H⟩:=H
    replace H : ((lamplighterref10_Build.f kj2 a0_0 a0_1 a0_2 a0_3 a0_4 a0_5 a0_6 a0_7 a0_8 a0_9 a0_10 a0_11 a0_12 a0_13 a0_14 a1).bind fun bt345=>((ack_Codes.f).bind fun t347=>((lamplighterlaw10_alive.f kj2).bind fun t350=>(if t350=true then (if (strOfNums t341).toList=bt345.1.toList then (if t344=bt345.2 then ((ack_Known.f kj2 a1).bind fun t351=>((lamplighterref10_Known.f a1).bind fun t352=>(if (t351 == t352)=true then (if (t347.length : Int)=3 then (if 0 < (t347.length : Int) then (if (rdOf ByteArray.empty t347 0).toList=([65,65] : List UInt8) then (if 1 < (t347.length : Int) then (if (rdOf ByteArray.empty t347 1).toList=([65,69] : List UInt8) then (if 2 < (t347.length : Int) then (some ((rdOf ByteArray.empty t347 2).toList == ([65,82] : List UInt8))) else (none)) else (some false)) else (none)) else (some false)) else (none)) else (some false)) else (some false)))) else (some false)) else (some false)) else (some false)))))=some r:=H
    have A14:=Aside0.mk A140
    clear A140
    replace H:=Option.bind_eq_some_iff.mp H
    obtain ⟨⟨t345,t346⟩,A150,H⟩:=H
    replace H : ((ack_Codes.f).bind fun t347=>((lamplighterlaw10_alive.f kj2).bind fun t350=>(if t350=true then (if (strOfNums t341).toList=t345.toList then (if t344=t346 then ((ack_Known.f kj2 a1).bind fun t351=>((lamplighterref10_Known.f a1).bind fun t352=>(if (t351 == t352)=true then (if (t347.length : Int)=3 then (if 0 < (t347.length : Int) then (if (rdOf ByteArray.empty t347 0).toList=([65,65] : List UInt8) then (if 1 < (t347.length : Int) then (if (rdOf ByteArray.empty t347 1).toList=([65,69] : List UInt8) then (if 2 < (t347.length : Int) then (some ((rdOf ByteArray.empty t347 2).toList == ([65,82] : List UInt8))) else (none)) else (some false)) else (none)) else (some false)) else (none)) else (some false)) else (some false)))) else (some false)) else (some false)) else (some false))))=some r:=H
    have A15:=Aside0.mk A150
    clear A150
    replace H:=Option.bind_eq_some_iff.mp H
    obtain ⟨t347,A160,H⟩:=H
    replace H : ((lamplighterlaw10_alive.f kj2).bind fun t350=>(if t350=true then (if (strOfNums t341).toList=t345.toList then (if t344=t346 then ((ack_Known.f kj2 a1).bind fun t351=>((lamplighterref10_Known.f a1).bind fun t352=>(if (t351 == t352)=true then (if (t347.length : Int)=3 then (if 0 < (t347.length : Int) then (if (rdOf ByteArray.empty t347 0).toList=([65,65] : List UInt8) then (if 1 < (t347.length : Int) then (if (rdOf ByteArray.empty t347 1).toList=([65,69] : List UInt8) then (if 2 < (t347.length : Int) then (some ((rdOf ByteArray.empty t347 2).toList == ([65,82] : List UInt8))) else (none)) else (some false)) else (none)) else (some false)) else (none)) else (some false)) else (some false)))) else (some false)) else (some false)) else (some false)))=some r:=H
    have A16:=Aside0.mk A160
    clear A160
    replace H:=Option.bind_eq_some_iff.mp H
    obtain ⟨t350,A170,H⟩:=H
    replace H : (if t350=true then (if (strOfNums t341).toList=t345.toList then (if t344=t346 then ((ack_Known.f kj2 a1).bind fun t351=>((lamplighterref10_Known.f a1).bind fun t352=>(if (t351 == t352)=true then (if (t347.length : Int)=3 then (if 0 < (t347.length : Int) then (if (rdOf ByteArray.empty t347 0).toList=([65,65] : List UInt8) then (if 1 < (t347.length : Int) then (if (rdOf ByteArray.empty t347 1).toList=([65,69] : List UInt8) then (if 2 < (t347.length : Int) then (some ((rdOf ByteArray.empty t347 2).toList == ([65,82] : List UInt8))) else (none)) else (some false)) else (none)) else (some false)) else (none)) else (some false)) else (some false)))) else (some false)) else (some false)) else (some false))=some r:=H
    have A17:=Aside0.mk A170
    clear A170
    by_cases c18 : t350=true
    ·subst c18
     have H1 : (if (strOfNums t341).toList=t345.toList then (if t344=t346 then ((ack_Known.f kj2 a1).bind fun t351=>((lamplighterref10_Known.f a1).bind fun t352=>(if (t351 == t352)=true then (if (t347.length : Int)=3 then (if 0 < (t347.length : Int) then (if (rdOf ByteArray.empty t347 0).toList=([65,65] : List UInt8) then (if 1 < (t347.length : Int) then (if (rdOf ByteArray.empty t347 1).toList=([65,69] : List UInt8) then (if 2 < (t347.length : Int) then (some ((rdOf ByteArray.empty t347 2).toList == ([65,82] : List UInt8))) else (none)) else (some false)) else (none)) else (some false)) else (none)) else (some false)) else (some false)))) else (some false)) else (some false))=some r:=by rw [if_pos rfl] at H; exact H
     clear H
     have H:=H1
     clear H1
     by_cases c19 : (strOfNums t341).toList=t345.toList
     ·rw [if_pos c19] at H
      have c19b0 : ((strOfNums t341).toList == t345.toList)=true:=beq_iff_eq.mpr c19
      have c19b1 : ((strOfNums t341).toList != t345.toList)=false:=bne_eq_false_iff_eq.mpr c19
      clear c19
      by_cases c20 : t344=t346
      ·rw [if_pos c20] at H
       have c20b0 : (t344 == t346)=true:=beq_iff_eq.mpr c20
       have c20b1 : (t344 != t346)=false:=bne_eq_false_iff_eq.mpr c20
       clear c20
       replace H:=Option.bind_eq_some_iff.mp H
       obtain ⟨t351,A210,H⟩:=H
       replace H : ((lamplighterref10_Known.f a1).bind fun t352=>(if (t351 == t352)=true then (if (t347.length : Int)=3 then (if 0 < (t347.length : Int) then (if (rdOf ByteArray.empty t347 0).toList=([65,65] : List UInt8) then (if 1 < (t347.length : Int) then (if (rdOf ByteArray.empty t347 1).toList=([65,69] : List UInt8) then (if 2 < (t347.length : Int) then (some ((rdOf ByteArray.empty t347 2).toList == ([65,82] : List UInt8))) else (none)) else (some false)) else (none)) else (some false)) else (none)) else (some false)) else (some false)))=some r:=H
       have A21:=Aside0.mk A210
       clear A210
       replace H:=Option.bind_eq_some_iff.mp H
       obtain ⟨t352,A220,H⟩:=H
       replace H : (if (t351 == t352)=true then (if (t347.length : Int)=3 then (if 0 < (t347.length : Int) then (if (rdOf ByteArray.empty t347 0).toList=([65,65] : List UInt8) then (if 1 < (t347.length : Int) then (if (rdOf ByteArray.empty t347 1).toList=([65,69] : List UInt8) then (if 2 < (t347.length : Int) then (some ((rdOf ByteArray.empty t347 2).toList == ([65,82] : List UInt8))) else (none)) else (some false)) else (none)) else (some false)) else (none)) else (some false)) else (some false))=some r:=H
       have A22:=Aside0.mk A220
       clear A220
       by_cases c23 : (t351 == t352)=true
       ·rw [if_pos c23] at H
        have c23b0 : (t351 == t352)=true:=c23
        (try (have c23b1:decide (t351=t352)=true:=by simpa using c23))
        (try (have c23b2 : (t351 == t352)=true:=by simpa using c23))
        clear c23
        by_cases c24 : (t347.length : Int)=3
        ·rw [if_pos c24] at H
         have c24b0 : ((t347.length : Int) == 3)=true:=beq_iff_eq.mpr c24
         have c24b1 : ((t347.length : Int) != 3)=false:=bne_eq_false_iff_eq.mpr c24
         clear c24
         by_cases c25 : 0 < (t347.length : Int)
         ·rw [if_pos c25] at H
          have c25b0:decide (0 < (t347.length : Int))=true:=decide_eq_true c25
          have c25b1:decide (0 < t347.length)=true:=decide_eq_true (by omega)
          clear c25
          by_cases c26 : (rdOf ByteArray.empty t347 0).toList=([65,65] : List UInt8)
          ·rw [if_pos c26] at H
           have c26b0 : ((rdOf ByteArray.empty t347 0).toList == ([65,65] : List UInt8))=true:=beq_iff_eq.mpr c26
           have c26b1 : ((rdOf ByteArray.empty t347 0).toList != ([65,65] : List UInt8))=false:=bne_eq_false_iff_eq.mpr c26
           clear c26
           by_cases c27 : 1 < (t347.length : Int)
           ·rw [if_pos c27] at H
            have c27b0:decide (1 < (t347.length : Int))=true:=decide_eq_true c27
            have c27b1:decide (1 < t347.length)=true:=decide_eq_true (by omega)
            clear c27
            by_cases c28 : (rdOf ByteArray.empty t347 1).toList=([65,69] : List UInt8)
            ·rw [if_pos c28] at H
             have c28b0 : ((rdOf ByteArray.empty t347 1).toList == ([65,69] : List UInt8))=true:=beq_iff_eq.mpr c28
             have c28b1 : ((rdOf ByteArray.empty t347 1).toList != ([65,69] : List UInt8))=false:=bne_eq_false_iff_eq.mpr c28
             clear c28
             by_cases c29 : 2 < (t347.length : Int)
             ·rw [if_pos c29] at H
              have c29b0:decide (2 < (t347.length : Int))=true:=decide_eq_true c29
              have c29b1:decide (2 < t347.length)=true:=decide_eq_true (by omega)
              clear c29
              obtain rfl:=Option.some.inj H
              clear hrt
              have hcz30_0:wc.cell? ⟨gb338,0,none⟩=some (.int .u8 a0_0):=blk_cell BK338.out 0
              have hcz30_1:wc.cell? ⟨gb338,1,none⟩=some (.int .u8 a0_1):=blk_cell BK338.out 1
              have hcz30_2:wc.cell? ⟨gb338,2,none⟩=some (.int .u8 a0_2):=blk_cell BK338.out 2
              have hcz30_3:wc.cell? ⟨gb338,3,none⟩=some (.int .u8 a0_3):=blk_cell BK338.out 3
              have hcz30_4:wc.cell? ⟨gb338,4,none⟩=some (.int .u8 a0_4):=blk_cell BK338.out 4
              have hcz30_5:wc.cell? ⟨gb338,5,none⟩=some (.string a0_5):=blk_cell BK338.out 5
              have hcz30_6:wc.cell? ⟨gb338,6,none⟩=some (.string a0_6):=blk_cell BK338.out 6
              have hcz30_7:wc.cell? ⟨gb338,7,none⟩=some (.string a0_7):=blk_cell BK338.out 7
              have hcz30_8:wc.cell? ⟨gb338,8,none⟩=some (.string a0_8):=blk_cell BK338.out 8
              have hcz30_9:wc.cell? ⟨gb338,9,none⟩=some (.string a0_9):=blk_cell BK338.out 9
              have hcz30_10:wc.cell? ⟨gb338,10,none⟩=some (.string a0_10):=blk_cell BK338.out 10
              have hcz30_11:wc.cell? ⟨gb338,11,none⟩=some (.string a0_11):=blk_cell BK338.out 11
              have hcz30_12:wc.cell? ⟨gb338,12,none⟩=some (.string a0_12):=blk_cell BK338.out 12
              have hcz30_13:wc.cell? ⟨gb338,13,none⟩=some (.string a0_13):=blk_cell BK338.out 13
              have hcz30_14:wc.cell? ⟨gb338,14,none⟩=some (.string a0_14):=blk_cell BK338.out 14
              have hfz30_0:=blk_frozen BK338.out 0
              have hfz30_1:=blk_frozen BK338.out 1
              have hfz30_2:=blk_frozen BK338.out 2
              have hfz30_3:=blk_frozen BK338.out 3
              have hfz30_4:=blk_frozen BK338.out 4
              have hfz30_5:=blk_frozen BK338.out 5
              have hfz30_6:=blk_frozen BK338.out 6
              have hfz30_7:=blk_frozen BK338.out 7
              have hfz30_8:=blk_frozen BK338.out 8
              have hfz30_9:=blk_frozen BK338.out 9
              have hfz30_10:=blk_frozen BK338.out 10
              have hfz30_11:=blk_frozen BK338.out 11
              have hfz30_12:=blk_frozen BK338.out 12
              have hfz30_13:=blk_frozen BK338.out 13
              have hfz30_14:=blk_frozen BK338.out 14
              go_wp2_with (first | ((with_reducible refine gate_callee (f:=12) rfl ?_); refine goesL_ (some 21) rfl rfl Tryd.func12 (by kernel_rfl) rfl #[.agg #[.int .u8 a0_0, .int .u8 a0_1, .int .u8 a0_2, .int .u8 a0_3, .int .u8 a0_4, .string a0_5, .string a0_6, .string a0_7, .string a0_8, .string a0_9, .string a0_10, .string a0_11, .string a0_12, .string a0_13, .string a0_14], .string a1] rfl (by (try simp only [List.map_toArray,List.map_cons,List.map_nil]); first | done | rfl | (simp only [List.length_drop,List.length_take]; rfl)) ?_; (with_reducible refine (ack_Build.calls kj2 a0_0 a0_1 a0_2 a0_3 a0_4 a0_5 a0_6 a0_7 a0_8 a0_9 a0_10 a0_11 a0_12 a0_13 a0_14 a1 t341 t344 _ A14.out (globc_below HGLOC.out (by repeat (first | (with_reducible first | exact HB.out | apply bA | apply bN | apply bD | refine below_set ?_ GE338.out) | exact HB.out)))).mono ?_); rintro e w31 ⟨v342,rfl,ho0,hb⟩; refine ⟨_,rfl,?_⟩; have n0_:=Aside0.mk (Kd.R_lower ho0 (below_size (by repeat (first | (with_reducible first | exact HB.out | apply bA | apply bN | apply bD | refine below_set ?_ GE338.out) | exact HB.out)))); have n1_:=Aside0.mk (blk_below (g:=gb338) (o := .cells #[.int .u8 a0_0, .int .u8 a0_1, .int .u8 a0_2, .int .u8 a0_3, .int .u8 a0_4, .string a0_5, .string a0_6, .string a0_7, .string a0_8, .string a0_9, .string a0_10, .string a0_11, .string a0_12, .string a0_13, .string a0_14] 25 (0,0)) (by (with_reducible repeat (first | refine kN ?_ _ | refine kD ?_ | refine kA ?_ _)); exact BK338.out) hb); have n2_:=Aside0.mk (below_step (by repeat (first | (with_reducible first | exact HB.out | apply bA | apply bN | apply bD | refine below_set ?_ GE338.out) | exact HB.out)) hb); clear BK338; clear HB; have HO343:=n0_; have BK338:=n1_; have HB:=n2_; clear n0_ n1_ n2_; (try clear hb); (try clear ho0); have hcz32_0:w31.cell? ⟨gb338,0,none⟩=some (.int .u8 a0_0):=blk_cell BK338.out 0; have hcz32_1:w31.cell? ⟨gb338,1,none⟩=some (.int .u8 a0_1):=blk_cell BK338.out 1; have hcz32_2:w31.cell? ⟨gb338,2,none⟩=some (.int .u8 a0_2):=blk_cell BK338.out 2; have hcz32_3:w31.cell? ⟨gb338,3,none⟩=some (.int .u8 a0_3):=blk_cell BK338.out 3; have hcz32_4:w31.cell? ⟨gb338,4,none⟩=some (.int .u8 a0_4):=blk_cell BK338.out 4; have hcz32_5:w31.cell? ⟨gb338,5,none⟩=some (.string a0_5):=blk_cell BK338.out 5; have hcz32_6:w31.cell? ⟨gb338,6,none⟩=some (.string a0_6):=blk_cell BK338.out 6; have hcz32_7:w31.cell? ⟨gb338,7,none⟩=some (.string a0_7):=blk_cell BK338.out 7; have hcz32_8:w31.cell? ⟨gb338,8,none⟩=some (.string a0_8):=blk_cell BK338.out 8; have hcz32_9:w31.cell? ⟨gb338,9,none⟩=some (.string a0_9):=blk_cell BK338.out 9; have hcz32_10:w31.cell? ⟨gb338,10,none⟩=some (.string a0_10):=blk_cell BK338.out 10; have hcz32_11:w31.cell? ⟨gb338,11,none⟩=some (.string a0_11):=blk_cell BK338.out 11; have hcz32_12:w31.cell? ⟨gb338,12,none⟩=some (.string a0_12):=blk_cell BK338.out 12; have hcz32_13:w31.cell? ⟨gb338,13,none⟩=some (.string a0_13):=blk_cell BK338.out 13; have hcz32_14:w31.cell? ⟨gb338,14,none⟩=some (.string a0_14):=blk_cell BK338.out 14; have hfz32_0:=blk_frozen BK338.out 0; have hfz32_1:=blk_frozen BK338.out 1; have hfz32_2:=blk_frozen BK338.out 2; have hfz32_3:=blk_frozen BK338.out 3; have hfz32_4:=blk_frozen BK338.out 4; have hfz32_5:=blk_frozen BK338.out 5; have hfz32_6:=blk_frozen BK338.out 6; have hfz32_7:=blk_frozen BK338.out 7; have hfz32_8:=blk_frozen BK338.out 8; have hfz32_9:=blk_frozen BK338.out 9; have hfz32_10:=blk_frozen BK338.out 10; have hfz32_11:=blk_frozen BK338.out 11; have hfz32_12:=blk_frozen BK338.out 12; have hfz32_13:=blk_frozen BK338.out 13; have hfz32_14:=blk_frozen BK338.out 14) | ((with_reducible refine gate_callee (f:=13) rfl ?_); refine goesL_ (some 27) rfl rfl Tryd.func13 (by kernel_rfl) rfl #[.agg #[.int .u8 a0_0, .int .u8 a0_1, .int .u8 a0_2, .int .u8 a0_3, .int .u8 a0_4, .string a0_5, .string a0_6, .string a0_7, .string a0_8, .string a0_9, .string a0_10, .string a0_11, .string a0_12, .string a0_13, .string a0_14], .string a1] rfl (by (try simp only [List.map_toArray,List.map_cons,List.map_nil]); first | done | rfl | (simp only [List.length_drop,List.length_take]; rfl)) ?_; (with_reducible refine (lamplighterref10_Build.calls kj2 a0_0 a0_1 a0_2 a0_3 a0_4 a0_5 a0_6 a0_7 a0_8 a0_9 a0_10 a0_11 a0_12 a0_13 a0_14 a1 t345 t346 _ A15.out).mono ?_); rintro e w33 ⟨rfl,hb⟩; refine ⟨_,rfl,?_⟩; have n0_:=Aside0.mk (Kd.R_below (by (with_reducible repeat (first | apply Kd.R_alloc | apply Kd.R_drewN | apply Kd.R_drew)); exact HO343.out) hb); have n1_:=Aside0.mk (blk_below (g:=gb338) (o := .cells #[.int .u8 a0_0, .int .u8 a0_1, .int .u8 a0_2, .int .u8 a0_3, .int .u8 a0_4, .string a0_5, .string a0_6, .string a0_7, .string a0_8, .string a0_9, .string a0_10, .string a0_11, .string a0_12, .string a0_13, .string a0_14] 25 (0,0)) (by (with_reducible repeat (first | refine kN ?_ _ | refine kD ?_ | refine kA ?_ _)); exact BK338.out) hb); have n2_:=Aside0.mk (below_step (by repeat (first | (with_reducible first | exact HB.out | apply bA | apply bN | apply bD | refine below_set ?_ GE338.out) | exact HB.out)) hb); clear HO343; clear BK338; clear HB; have HO343:=n0_; have BK338:=n1_; have HB:=n2_; clear n0_ n1_ n2_; (try clear hb)) | ((with_reducible refine gate_callee (f:=14) rfl ?_); refine goesL_ (some 30) rfl rfl Tryd.func14 (by kernel_rfl) rfl #[] rfl (by (try simp only [List.map_toArray,List.map_cons,List.map_nil]); first | done | rfl | (simp only [List.length_drop,List.length_take]; rfl)) ?_; (with_reducible refine (ack_Codes.calls  t347 _ A16.out (globc_below HGLOC.out (by repeat (first | (with_reducible first | exact HB.out | apply bA | apply bN | apply bD | refine below_set ?_ GE338.out) | exact HB.out)))).mono ?_); rintro e w34 ⟨v348,rfl,ho0,hb⟩; refine ⟨_,rfl,?_⟩; have n0_:=Aside0.mk (Kd.R_below (by (with_reducible repeat (first | apply Kd.R_alloc | apply Kd.R_drewN | apply Kd.R_drew)); exact HO343.out) hb); have n1_:=Aside0.mk (Kd.R_lower ho0 (below_size (by repeat (first | (with_reducible first | exact HB.out | apply bA | apply bN | apply bD | refine below_set ?_ GE338.out) | exact HB.out)))); have n2_:=Aside0.mk (blk_below (g:=gb338) (o := .cells #[.int .u8 a0_0, .int .u8 a0_1, .int .u8 a0_2, .int .u8 a0_3, .int .u8 a0_4, .string a0_5, .string a0_6, .string a0_7, .string a0_8, .string a0_9, .string a0_10, .string a0_11, .string a0_12, .string a0_13, .string a0_14] 25 (0,0)) (by (with_reducible repeat (first | refine kN ?_ _ | refine kD ?_ | refine kA ?_ _)); exact BK338.out) hb); have n3_:=Aside0.mk (below_step (by repeat (first | (with_reducible first | exact HB.out | apply bA | apply bN | apply bD | refine below_set ?_ GE338.out) | exact HB.out)) hb); clear HO343; clear BK338; clear HB; have HO343:=n0_; have HO349:=n1_; have BK338:=n2_; have HB:=n3_; clear n0_ n1_ n2_ n3_; (try clear hb); (try clear ho0)) | ((with_reducible refine gate_callee (f:=11) rfl ?_); refine goesL_ (some 31) rfl rfl Tryd.func11 (by kernel_rfl) rfl #[] rfl (by (try simp only [List.map_toArray,List.map_cons,List.map_nil]); first | done | rfl | (simp only [List.length_drop,List.length_take]; rfl)) ?_; (with_reducible refine (lamplighterlaw10_alive.calls kj2  true _ A17.out (globc_below HGLOC.out (by repeat (first | (with_reducible first | exact HB.out | apply bA | apply bN | apply bD | refine below_set ?_ GE338.out) | exact HB.out)))).mono ?_); rintro e w35 ⟨rfl,hb⟩; refine ⟨_,rfl,?_⟩; have n0_:=Aside0.mk (Kd.R_below (by (with_reducible repeat (first | apply Kd.R_alloc | apply Kd.R_drewN | apply Kd.R_drew)); exact HO343.out) hb); have n1_:=Aside0.mk (Kd.R_below (by (with_reducible repeat (first | apply Kd.R_alloc | apply Kd.R_drewN | apply Kd.R_drew)); exact HO349.out) hb); have n2_:=Aside0.mk (blk_below (g:=gb338) (o := .cells #[.int .u8 a0_0, .int .u8 a0_1, .int .u8 a0_2, .int .u8 a0_3, .int .u8 a0_4, .string a0_5, .string a0_6, .string a0_7, .string a0_8, .string a0_9, .string a0_10, .string a0_11, .string a0_12, .string a0_13, .string a0_14] 25 (0,0)) (by (with_reducible repeat (first | refine kN ?_ _ | refine kD ?_ | refine kA ?_ _)); exact BK338.out) hb); have n3_:=Aside0.mk (below_step (by repeat (first | (with_reducible first | exact HB.out | apply bA | apply bN | apply bD | refine below_set ?_ GE338.out) | exact HB.out)) hb); clear HO343; clear HO349; clear BK338; clear HB; have HO343:=n0_; have HO349:=n1_; have BK338:=n2_; have HB:=n3_; clear n0_ n1_ n2_ n3_; (try clear hb); have hcv36:=own_string (P:=Tryd.prog) Tryd.underlying28 Tryd.underlying5 Tryd.underlying9 (Kd.own_of_R HO343.out)) | (go_at_call 15; (with_reducible refine (ack_Known.calls kj2 a1 t351 _ A21.out (globc_below HGLOC.out (by repeat (first | (with_reducible first | exact HB.out | apply bA | apply bN | apply bD | refine below_set ?_ GE338.out) | exact HB.out)))).mono ?_); rintro e w' ⟨rfl,⟨nd,rfl⟩⟩) | (go_at_call 16; (with_reducible refine (lamplighterref10_Known.calls a1 t352 _ A22.out).mono ?_); rintro e w' ⟨rfl,⟨nd,rfl⟩⟩; obtain ⟨Ao37,co37,eo37⟩:=Kd.R_slice HO349.out; subst eo37; have p353:0≤(0 : Int):=(by omega); have q353:0 < (t347.length : Int):=of_decide_eq_true (by first | (with_reducible assumption) | assumption); obtain ⟨ad353,e353,hx353_0⟩:=Kd.at_string (Kd.R_reads' HO349.out).2.2 0 p353 q353; cases e353; have qi353 : (0 < t347.length)=True:=eq_true (by omega); (try rw [show ((0 : Int)).toNat=0 from rfl] at hx353_0); (try rw [Addr.add_zero'] at hx353_0); replace p353:=eq_true p353; replace q353:=eq_true q353; have p354:0≤(1 : Int):=(by omega); have q354:1 < (t347.length : Int):=of_decide_eq_true (by first | (with_reducible assumption) | assumption); obtain ⟨ad354,e354,hx354_0⟩:=Kd.at_string (Kd.R_reads' HO349.out).2.2 1 p354 q354; obtain rfl : ad353=ad354:=(by injection e354); (try simp only [show (1 : Int).toNat=1 from rfl,Nat.reduceMul,Nat.reduceEqDiff,Go.Addr.add,↓reduceIte] at hx354_0); have qi354 : (1 < t347.length)=True:=eq_true (by omega); (try rw [show ((1 : Int)).toNat=1 from rfl] at hx354_0); replace p354:=eq_true p354; replace q354:=eq_true q354; have p355:0≤(2 : Int):=(by omega); have q355:2 < (t347.length : Int):=of_decide_eq_true (by first | (with_reducible assumption) | assumption); obtain ⟨ad355,e355,hx355_0⟩:=Kd.at_string (Kd.R_reads' HO349.out).2.2 2 p355 q355; obtain rfl : ad353=ad355:=(by injection e355); (try simp only [show (2 : Int).toNat=2 from rfl,Nat.reduceMul,Nat.reduceEqDiff,Go.Addr.add,↓reduceIte] at hx355_0); have qi355 : (2 < t347.length)=True:=eq_true (by omega); (try rw [show ((2 : Int)).toNat=2 from rfl] at hx355_0); replace p355:=eq_true p355; replace q355:=eq_true q355))
              go_ret
              exact ⟨by first | rfl | (simp [errW_none,errW_some] <;> rfl) | (simp [*,errW_none,errW_some] <;> rfl),by repeat (first | (with_reducible first | exact HB.out | apply bA | apply bN | apply bD | refine below_set ?_ GE338.out) | exact HB.out)⟩
             ·rw [if_neg c29] at H
              exact absurd H (by simp)
            ·rw [if_neg c28] at H
             have c28b0 : ((rdOf ByteArray.empty t347 1).toList == ([65,69] : List UInt8))=false:=beq_eq_false_iff_ne.mpr c28
             have c28b1 : ((rdOf ByteArray.empty t347 1).toList != ([65,69] : List UInt8))=true:=bne_iff_ne.mpr c28
             obtain rfl:=Option.some.inj H
             cases hrt
           ·rw [if_neg c27] at H
            exact absurd H (by simp)
          ·rw [if_neg c26] at H
           have c26b0 : ((rdOf ByteArray.empty t347 0).toList == ([65,65] : List UInt8))=false:=beq_eq_false_iff_ne.mpr c26
           have c26b1 : ((rdOf ByteArray.empty t347 0).toList != ([65,65] : List UInt8))=true:=bne_iff_ne.mpr c26
           obtain rfl:=Option.some.inj H
           cases hrt
         ·rw [if_neg c25] at H
          exact absurd H (by simp)
        ·rw [if_neg c24] at H
         have c24b0 : ((t347.length : Int) == 3)=false:=beq_eq_false_iff_ne.mpr c24
         have c24b1 : ((t347.length : Int) != 3)=true:=bne_iff_ne.mpr c24
         obtain rfl:=Option.some.inj H
         cases hrt
       ·rw [if_neg c23] at H
        have c23b0 : (t351 == t352)=false:=by simpa using c23
        (try (have c23b1:decide (t351=t352)=false:=by simpa using c23))
        (try (have c23b2 : (t351 == t352)=false:=by simpa using c23))
        (try (have c23b3 : ¬ (t351=t352):=by simpa using c23))
        clear c23
        obtain rfl:=Option.some.inj H
        cases hrt
      ·rw [if_neg c20] at H
       have c20b0 : (t344 == t346)=false:=beq_eq_false_iff_ne.mpr c20
       have c20b1 : (t344 != t346)=true:=bne_iff_ne.mpr c20
       obtain rfl:=Option.some.inj H
       cases hrt
     ·rw [if_neg c19] at H
      have c19b0 : ((strOfNums t341).toList == t345.toList)=false:=beq_eq_false_iff_ne.mpr c19
      have c19b1 : ((strOfNums t341).toList != t345.toList)=true:=bne_iff_ne.mpr c19
      obtain rfl:=Option.some.inj H
      cases hrt
    ·replace c18:=Bool.eq_false_iff.mpr c18
     subst c18
     have H1 : (some false)=some r:=by rw [if_neg (show ¬ (false=true) by decide)] at H; exact H
     clear H
     have H:=H1
     clear H1
     obtain rfl:=Option.some.inj H
     cases hrt

end Go.Proofs.YtcjcaojgminjpaaDoor.PD
