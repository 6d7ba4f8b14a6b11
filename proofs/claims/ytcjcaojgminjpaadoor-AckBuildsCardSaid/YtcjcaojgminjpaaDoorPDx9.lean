import Derived.Test.YtcjcaojgminjpaaDoorPDx0
import Derived.Test.YtcjcaojgminjpaaDoorPDx8
namespace Go.Proofs.YtcjcaojgminjpaaDoor.PD
open Go.RowKit Go.Proofs.YtcjcaojgminjpaaDoorW.PrintWords Go.Proofs.YtcjcaojgminjpaaDoorW.PrintLast Go.Proofs.YtcjcaojgminjpaaDoorW.PrintMore
set_option maxHeartbeats 8000000
set_option maxRecDepth 100000
attribute [local go_sem] max2_int min2_int max_two min_two max_three min_three max_four min_four
set_option linter.unusedVariables false
set_option linter.unusedSimpArgs false

/-! ### lamplighterref06_Right: function 44 -/
mutual
def lamplighterref06_Right.l0 : Nat→List Int→Int→Option (Bool)
 | 0,_,_=>none
 | k + 1,x3,x4=>if x4 < 5 then (if 0≤x4 then (if x4 < (x3.length : Int) then ((lamplighterref06_sign.f (rd x3 x4)).bind fun t212=>(if t212=true then (lamplighterref06_Right.l1 k x3 x4 0) else (some false))) else (none)) else (none)) else (some true)
def lamplighterref06_Right.l1 : Nat→List Int→Int→Int→Option (Bool)
 | 0,_,_,_=>none
 | k + 1,x3,x4,x5=>if x5 < x4 then (if 0≤x5 then (if x5 < (x3.length : Int) then (if 0≤x4 then (if x4 < (x3.length : Int) then (if (rd x3 x5)=(rd x3 x4) then (some false) else (lamplighterref06_Right.l1 k x3 x4 (wrap64 (x5 + 1)))) else (none)) else (none)) else (none)) else (none)) else (lamplighterref06_Right.l0 k x3 (wrap64 (x4 + 1)))
end
def lamplighterref06_Right.f (k : Nat) (a0_0 : Int) (a0_1 : Int) (a0_2 : Int) (a0_3 : Int) (a0_4 : Int) : Option (Bool):=(lamplighterref06_five.f a0_0 a0_1 a0_2 a0_3 a0_4).bind fun t208=>(lamplighterref06_Right.l0 k t208 0)
theorem lamplighterref06_Right.mono_l : ∀ k,(∀ y0 y1,LeO (lamplighterref06_Right.l0 k y0 y1) (lamplighterref06_Right.l0 (k + 1) y0 y1))∧(∀ y0 y1 y2,LeO (lamplighterref06_Right.l1 k y0 y1 y2) (lamplighterref06_Right.l1 (k + 1) y0 y1 y2))
 | 0=>⟨fun _ _ r h=>by simp [lamplighterref06_Right.l0] at h,fun _ _ _ r h=>by simp [lamplighterref06_Right.l1] at h⟩
 | k + 1=>by
  obtain ⟨ih0,ih1⟩:=lamplighterref06_Right.mono_l k
  refine ⟨?_,?_⟩
  ·intro y0 y1
   unfold lamplighterref06_Right.l0
   repeat' first
   | (with_reducible exact ih0 _ _)
   | (with_reducible exact ih1 _ _ _)
   | (with_reducible exact LeO.refl _)
   | (with_reducible exact LeO.none _)
   | (with_reducible refine LeO.ite ?_ ?_)
   | (with_reducible refine LeO.bind ?_ (fun _=>?_))
   | exact ih0 _ _
   | exact ih1 _ _ _
   | exact LeO.none _
   | refine LeO.ite ?_ ?_
   | refine LeO.bind ?_ (fun _=>?_)
  ·intro y0 y1 y2
   unfold lamplighterref06_Right.l1
   repeat' first
   | (with_reducible exact ih0 _ _)
   | (with_reducible exact ih1 _ _ _)
   | (with_reducible exact LeO.refl _)
   | (with_reducible exact LeO.none _)
   | (with_reducible refine LeO.ite ?_ ?_)
   | (with_reducible refine LeO.bind ?_ (fun _=>?_))
   | exact ih0 _ _
   | exact ih1 _ _ _
   | exact LeO.none _
   | refine LeO.ite ?_ ?_
   | refine LeO.bind ?_ (fun _=>?_)
theorem lamplighterref06_Right.mono : ∀ a0 a1 a2 a3 a4 k,LeO (lamplighterref06_Right.f k a0 a1 a2 a3 a4) (lamplighterref06_Right.f (k + 1) a0 a1 a2 a3 a4):=by
 intro a0 a1 a2 a3 a4 k
 obtain ⟨ih0,ih1⟩:=lamplighterref06_Right.mono_l k
 unfold lamplighterref06_Right.f
 repeat' first
   | (with_reducible exact ih0 _ _)
   | (with_reducible exact ih1 _ _ _)
   | (with_reducible exact LeO.refl _)
   | (with_reducible exact LeO.none _)
   | (with_reducible refine LeO.ite ?_ ?_)
   | (with_reducible refine LeO.bind ?_ (fun _=>?_))
   | exact ih0 _ _
   | exact ih1 _ _ _
   | exact LeO.none _
   | refine LeO.ite ?_ ?_
   | refine LeO.bind ?_ (fun _=>?_)
theorem lamplighterref06_Right.calls (k : Nat) (a0_0 : Int) (a0_1 : Int) (a0_2 : Int) (a0_3 : Int) (a0_4 : Int) (r : Bool) (w : World) (h : lamplighterref06_Right.f k a0_0 a0_1 a0_2 a0_3 a0_4=some r) :
  Calls Tryd.prog 44 #[.agg #[.int .u8 a0_0, .int .u8 a0_1, .int .u8 a0_2, .int .u8 a0_3, .int .u8 a0_4]] w fun e w'=>e = .returned (.bool r)∧Below w.heap.size w w':=by
 have hu23:=Tryd.underlying23
 have HB:=Aside0.mk (Below.refl w.heap.size w)
 have H : ((lamplighterref06_five.f a0_0 a0_1 a0_2 a0_3 a0_4).bind fun t208=>(lamplighterref06_Right.l0 k t208 0))=some r:=h
 clear h
 replace H:=Option.bind_eq_some_iff.mp H
 obtain ⟨t208,A20,H⟩:=H
 replace H : (lamplighterref06_Right.l0 k t208 0)=some r:=H
 have A2:=Aside0.mk A20
 clear A20
 have H':=Aside0.mk H
 clear H
 go_enter Tryd.func44,Tryd.ntmps44
 go_wp2_with (first | ((with_reducible refine gate_dst (N:=1) rfl ?_); refine box_event ?hg (N:=1) ?hd (cs:=#[.int .u8 a0_0, .int .u8 a0_1, .int .u8 a0_2, .int .u8 a0_3, .int .u8 a0_4]) (t:=23) ?hr ?_; (case hd=>rfl); (case hg=>rfl); (case hr=>first | (go_simp; done) | (go_simp; rfl)); intro gb207 hg w3 hbox hb; have n0_:=Aside0.mk (below_step (by repeat (first | (with_reducible first | exact HB.out | apply bA | apply bN | apply bD) | exact HB.out)) hb); have n1_:=Aside0.mk (hbox); have n2_:=Aside0.mk ((by rw [hg]; exact (below_size (by repeat (first | (with_reducible first | exact HB.out | apply bA | apply bN | apply bD) | exact HB.out))) : w.heap.size≤gb207)); have n3_:=Aside0.mk ((by rw [hg]; exact (below_size (by repeat (first | (with_reducible first | exact HB.out | apply bA | apply bN | apply bD) | exact HB.out))) : w.heap.size≤gb207)); clear HB; have HB:=n0_; have BK207:=n1_; have GW207:=n2_; have GE207:=n3_; clear n0_ n1_ n2_ n3_; clear hb hbox hg; have hcz4_0:w3.cell? ⟨gb207,0,none⟩=some (.int .u8 a0_0):=blk_cell BK207.out 0; have hcz4_1:w3.cell? ⟨gb207,1,none⟩=some (.int .u8 a0_1):=blk_cell BK207.out 1; have hcz4_2:w3.cell? ⟨gb207,2,none⟩=some (.int .u8 a0_2):=blk_cell BK207.out 2; have hcz4_3:w3.cell? ⟨gb207,3,none⟩=some (.int .u8 a0_3):=blk_cell BK207.out 3; have hcz4_4:w3.cell? ⟨gb207,4,none⟩=some (.int .u8 a0_4):=blk_cell BK207.out 4; have hfz4_0:=blk_frozen BK207.out 0; have hfz4_1:=blk_frozen BK207.out 1; have hfz4_2:=blk_frozen BK207.out 2; have hfz4_3:=blk_frozen BK207.out 3; have hfz4_4:=blk_frozen BK207.out 4) | (go_at_call 70; (with_reducible refine (lamplighterref06_five.calls a0_0 a0_1 a0_2 a0_3 a0_4 t208 _ A2.out).mono ?_); rintro e w5 ⟨v209,rfl,ho0,hb⟩; have n0_:=Aside0.mk (Kd.R_lower ho0 (below_size (by repeat (first | (with_reducible first | exact HB.out | apply bA | apply bN | apply bD | refine below_set ?_ GE207.out) | exact HB.out)))); have n1_:=Aside0.mk (blk_below (g:=gb207) (o := .cells #[.int .u8 a0_0, .int .u8 a0_1, .int .u8 a0_2, .int .u8 a0_3, .int .u8 a0_4] 23 (0,0)) (by (with_reducible repeat (first | refine kN ?_ _ | refine kD ?_ | refine kA ?_ _)); exact BK207.out) hb); have n2_:=Aside0.mk (below_step (by repeat (first | (with_reducible first | exact HB.out | apply bA | apply bN | apply bD | refine below_set ?_ GE207.out) | exact HB.out)) hb); clear BK207; clear HB; have HO210:=n0_; have BK207:=n1_; have HB:=n2_; clear n0_ n1_ n2_; (try clear hb); (try clear ho0)))
 go_loopg [4] k (fun kq v4 w' => ∃ (x4_1 : Int),v4 = .int .i64 x4_1∧Aside0 (lamplighterref06_Right.l0 kq t208 x4_1=some r)∧Aside0 (kq≤k)∧Aside0 (Kd.R (Kd.int .u8) 5 w' w.heap.size (fun _=>True) v209 t208)∧Aside0 (w'.heap[gb207]?=some (.cells #[.int .u8 a0_0, .int .u8 a0_1, .int .u8 a0_2, .int .u8 a0_3, .int .u8 a0_4] 23 (0,0)))∧Aside0 (Below w.heap.size w w'))
 case atStart=>exact ⟨(0),(by first | rfl | (simp; done) | (simp [*]; done)),H',⟨Nat.le_refl _⟩,⟨by (with_reducible repeat (first | apply Kd.R_alloc | apply Kd.R_drewN | apply Kd.R_drew)); exact HO210.out⟩,⟨by (with_reducible repeat (first | refine kN ?_ _ | refine kD ?_ | refine kA ?_ _)); exact BK207.out⟩,⟨by repeat (first | (with_reducible first | exact HB.out | apply bA | apply bN | apply bD | refine below_set ?_ GE207.out) | exact HB.out)⟩⟩
 case round =>
  clear H'
  try clear p2
  try clear c4
  try clear hcz4_0
  try clear hcz4_1
  try clear hcz4_2
  try clear hcz4_3
  try clear hcz4_4
  try clear hfz4_0
  try clear hfz4_1
  try clear hfz4_2
  try clear hfz4_3
  try clear hfz4_4
  obtain ⟨x4_1,rfl,HA,HK1,HO_3,BK207,HB⟩:=hrel
  cases gk with
  | zero=>exact absurd HA.out (by simp [lamplighterref06_Right.l0])
  | succ k1 =>
   have H:=HA.out
   clear HA
   simp only [lamplighterref06_Right.l0] at H
   by_cases c6 : x4_1 < 5
   ·rw [if_pos c6] at H
    have c6b0:decide (x4_1 < 5)=true:=decide_eq_true c6
    clear c6
    by_cases c7 : 0≤x4_1
    ·rw [if_pos c7] at H
     have c7b0:decide (0≤x4_1)=true:=decide_eq_true c7
     clear c7
     by_cases c8 : x4_1 < (t208.length : Int)
     ·rw [if_pos c8] at H
      have c8b0:decide (x4_1 < (t208.length : Int))=true:=decide_eq_true c8
      clear c8
      replace H:=Option.bind_eq_some_iff.mp H
      obtain ⟨t212,A90,H⟩:=H
      replace H : (if t212=true then (lamplighterref06_Right.l1 k1 t208 x4_1 0) else (some false))=some r:=H
      have A9:=Aside0.mk A90
      clear A90
      by_cases c10 : t212=true
      ·subst c10
       have H1 : (lamplighterref06_Right.l1 k1 t208 x4_1 0)=some r:=by rw [if_pos rfl] at H; exact H
       clear H
       have H:=H1
       clear H1
       have H':=Aside0.mk H
       clear H
       obtain ⟨Ao11,co11,eo11⟩:=Kd.R_slice HO_3.out
       subst eo11
       have p211:0≤(x4_1 : Int):=of_decide_eq_true (by first | (with_reducible assumption) | assumption)
       have q211:x4_1 < (t208.length : Int):=of_decide_eq_true (by first | (with_reducible assumption) | assumption)
       obtain ⟨ad211,e211,hx211_0⟩:=Kd.at_int (Kd.R_reads' HO_3.out).2.2 x4_1 p211 q211
       cases e211
       replace p211:=eq_true p211
       replace q211:=eq_true q211
       go_wp2_with (first | (go_at_call 71; (with_reducible refine (lamplighterref06_sign.calls (rd t208 x4_1) true _ A9.out).mono ?_); rintro e w' ⟨rfl,⟨nd,rfl⟩⟩; (try first | exact ⟨rfl,_,World.drewN_drewN _ _ _⟩ | exact ⟨rfl,_,Eq.trans (World.drewN_drewN _ _ _) (congrArg (World.drewN _) (Nat.add_assoc _ _ _))⟩)))
       repeat (go_quiet (first | (go_at_call 71; (with_reducible refine (lamplighterref06_sign.calls (rd t208 x4_1) true _ A9.out).mono ?_); rintro e w' ⟨rfl,⟨nd,rfl⟩⟩; (try first | exact ⟨rfl,_,World.drewN_drewN _ _ _⟩ | exact ⟨rfl,_,Eq.trans (World.drewN_drewN _ _ _) (congrArg (World.drewN _) (Nat.add_assoc _ _ _))⟩))); try go_wp2_with (first | (go_at_call 71; (with_reducible refine (lamplighterref06_sign.calls (rd t208 x4_1) true _ A9.out).mono ?_); rintro e w' ⟨rfl,⟨nd,rfl⟩⟩; (try first | exact ⟨rfl,_,World.drewN_drewN _ _ _⟩ | exact ⟨rfl,_,Eq.trans (World.drewN_drewN _ _ _) (congrArg (World.drewN _) (Nat.add_assoc _ _ _))⟩))))
       go_loopg [5] k1 (fun kq v5 w' => ∃ (x5_2 : Int),v5 = .int .i64 x5_2∧Aside0 (lamplighterref06_Right.l1 kq t208 x4_1 x5_2=some r)∧Aside0 (kq≤k1)∧Aside0 (Kd.R (Kd.int .u8) 5 w' w.heap.size (fun _=>True) (.slice (some ad211) t208.length co11) t208)∧Aside0 (w'.heap[gb207]?=some (.cells #[.int .u8 a0_0, .int .u8 a0_1, .int .u8 a0_2, .int .u8 a0_3, .int .u8 a0_4] 23 (0,0)))∧Aside0 (Below w.heap.size w w'))
       case atStart=>exact ⟨(0),(by first | rfl | (simp; done) | (simp [*]; done)),H',⟨Nat.le_refl _⟩,⟨by (with_reducible repeat (first | apply Kd.R_alloc | apply Kd.R_drewN | apply Kd.R_drew)); exact HO_3.out⟩,⟨by (with_reducible repeat (first | refine kN ?_ _ | refine kD ?_ | refine kA ?_ _)); exact BK207.out⟩,⟨by repeat (first | (with_reducible first | exact HB.out | apply bA | apply bN | apply bD | refine below_set ?_ GE207.out) | exact HB.out)⟩⟩
       case round =>
        clear H'
        try clear c1
        try clear p2
        try clear q2
        try clear hx2
        try clear c4
        try clear c6
        try clear c6b0
        try clear c7
        try clear c7b0
        try clear c8
        try clear c8b0
        try clear c10
        try clear hcz4_0
        try clear hcz4_1
        try clear hcz4_2
        try clear hcz4_3
        try clear hcz4_4
        try clear hfz4_0
        try clear hfz4_1
        try clear hfz4_2
        try clear hfz4_3
        try clear hfz4_4
        try clear hx211_0
        try clear p2
        try clear p211
        try clear q211
        obtain ⟨x5_2,rfl,HA,HK2,HO_3,BK207,HB⟩:=hrel
        cases gk with
        | zero=>exact absurd HA.out (by simp [lamplighterref06_Right.l1])
        | succ k2 =>
         have H:=HA.out
         clear HA
         simp only [lamplighterref06_Right.l1] at H
         by_cases c12 : x5_2 < x4_1
         ·rw [if_pos c12] at H
          have c12b0:decide (x5_2 < x4_1)=true:=decide_eq_true c12
          clear c12
          by_cases c13 : 0≤x5_2
          ·rw [if_pos c13] at H
           have c13b0:decide (0≤x5_2)=true:=decide_eq_true c13
           clear c13
           by_cases c14 : x5_2 < (t208.length : Int)
           ·rw [if_pos c14] at H
            have c14b0:decide (x5_2 < (t208.length : Int))=true:=decide_eq_true c14
            clear c14
            by_cases c15 : 0≤x4_1
            ·rw [if_pos c15] at H
             have c15b0:decide (0≤x4_1)=true:=decide_eq_true c15
             clear c15
             by_cases c16 : x4_1 < (t208.length : Int)
             ·rw [if_pos c16] at H
              have c16b0:decide (x4_1 < (t208.length : Int))=true:=decide_eq_true c16
              clear c16
              by_cases c17 : (rd t208 x5_2)=(rd t208 x4_1)
              ·rw [if_pos c17] at H
               have c17b0 : ((rd t208 x5_2) == (rd t208 x4_1))=true:=beq_iff_eq.mpr c17
               have c17b1 : ((rd t208 x5_2) != (rd t208 x4_1))=false:=bne_eq_false_iff_eq.mpr c17
               clear c17
               obtain rfl:=Option.some.inj H
               have p213:0≤(x5_2 : Int):=of_decide_eq_true (by first | (with_reducible assumption) | assumption)
               have q213:x5_2 < (t208.length : Int):=of_decide_eq_true (by first | (with_reducible assumption) | assumption)
               obtain ⟨ad213,e213,hx213_0⟩:=Kd.at_int (Kd.R_reads' HO_3.out).2.2 x5_2 p213 q213
               obtain rfl : ad211=ad213:=(by injection e213)
               replace p213:=eq_true p213
               replace q213:=eq_true q213
               have p214:0≤(x4_1 : Int):=of_decide_eq_true (by first | (with_reducible assumption) | assumption)
               have q214:x4_1 < (t208.length : Int):=of_decide_eq_true (by first | (with_reducible assumption) | assumption)
               obtain ⟨ad214,e214,hx214_0⟩:=Kd.at_int (Kd.R_reads' HO_3.out).2.2 x4_1 p214 q214
               obtain rfl : ad211=ad214:=(by injection e214)
               replace p214:=eq_true p214
               replace q214:=eq_true q214
               go_wp2
               repeat (go_quiet (fail); try go_wp2)
               go_ret
               exact ⟨by first | rfl | (simp [errW_none,errW_some] <;> rfl) | (simp [*,errW_none,errW_some] <;> rfl),by repeat (first | (with_reducible first | exact HB.out | apply bA | apply bN | apply bD | refine below_set ?_ GE207.out) | exact HB.out)⟩
              ·rw [if_neg c17] at H
               have c17b0 : ((rd t208 x5_2) == (rd t208 x4_1))=false:=beq_eq_false_iff_ne.mpr c17
               have c17b1 : ((rd t208 x5_2) != (rd t208 x4_1))=true:=bne_iff_ne.mpr c17
               have H':=Aside0.mk H
               clear H
               have p213:0≤(x5_2 : Int):=of_decide_eq_true (by first | (with_reducible assumption) | assumption)
               have q213:x5_2 < (t208.length : Int):=of_decide_eq_true (by first | (with_reducible assumption) | assumption)
               obtain ⟨ad213,e213,hx213_0⟩:=Kd.at_int (Kd.R_reads' HO_3.out).2.2 x5_2 p213 q213
               obtain rfl : ad211=ad213:=(by injection e213)
               replace p213:=eq_true p213
               replace q213:=eq_true q213
               have p214:0≤(x4_1 : Int):=of_decide_eq_true (by first | (with_reducible assumption) | assumption)
               have q214:x4_1 < (t208.length : Int):=of_decide_eq_true (by first | (with_reducible assumption) | assumption)
               obtain ⟨ad214,e214,hx214_0⟩:=Kd.at_int (Kd.R_reads' HO_3.out).2.2 x4_1 p214 q214
               obtain rfl : ad211=ad214:=(by injection e214)
               replace p214:=eq_true p214
               replace q214:=eq_true q214
               go_wp2
               repeat (go_quiet (fail); try go_wp2)
               go_roundg k2
               case measure=>have:=HK1.out; have:=HK2.out; omega
               case rel=>exact ⟨(wrap64 (x5_2 + 1)),(by first | rfl | (simp; done) | (simp [*]; done)),H',⟨by have:=HK1.out; have:=HK2.out; omega⟩,⟨by (with_reducible repeat (first | apply Kd.R_alloc | apply Kd.R_drewN | apply Kd.R_drew)); exact HO_3.out⟩,⟨by (with_reducible repeat (first | refine kN ?_ _ | refine kD ?_ | refine kA ?_ _)); exact BK207.out⟩,⟨by repeat (first | (with_reducible first | exact HB.out | apply bA | apply bN | apply bD | refine below_set ?_ GE207.out) | exact HB.out)⟩⟩
             ·rw [if_neg c16] at H
              exact absurd H (by simp)
            ·rw [if_neg c15] at H
             exact absurd H (by simp)
           ·rw [if_neg c14] at H
            exact absurd H (by simp)
          ·rw [if_neg c13] at H
           exact absurd H (by simp)
         ·rw [if_neg c12] at H
          have c12b0:decide (x5_2 < x4_1)=false:=decide_eq_false c12
          clear c12
          have H':=Aside0.mk H
          clear H
          go_wp2
          repeat (go_quiet (fail); try go_wp2)
          go_roundg k2
          case measure=>have:=HK1.out; have:=HK2.out; omega
          case rel=>exact ⟨(wrap64 (x4_1 + 1)),(by first | rfl | (simp; done) | (simp [*]; done)),H',⟨by have:=HK1.out; have:=HK2.out; omega⟩,⟨by (with_reducible repeat (first | apply Kd.R_alloc | apply Kd.R_drewN | apply Kd.R_drew)); exact HO_3.out⟩,⟨by (with_reducible repeat (first | refine kN ?_ _ | refine kD ?_ | refine kA ?_ _)); exact BK207.out⟩,⟨by repeat (first | (with_reducible first | exact HB.out | apply bA | apply bN | apply bD | refine below_set ?_ GE207.out) | exact HB.out)⟩⟩
      ·replace c10:=Bool.eq_false_iff.mpr c10
       subst c10
       have H1 : (some false)=some r:=by rw [if_neg (show ¬ (false=true) by decide)] at H; exact H
       clear H
       have H:=H1
       clear H1
       obtain rfl:=Option.some.inj H
       obtain ⟨Ao18,co18,eo18⟩:=Kd.R_slice HO_3.out
       subst eo18
       have p211:0≤(x4_1 : Int):=of_decide_eq_true (by first | (with_reducible assumption) | assumption)
       have q211:x4_1 < (t208.length : Int):=of_decide_eq_true (by first | (with_reducible assumption) | assumption)
       obtain ⟨ad211,e211,hx211_0⟩:=Kd.at_int (Kd.R_reads' HO_3.out).2.2 x4_1 p211 q211
       cases e211
       replace p211:=eq_true p211
       replace q211:=eq_true q211
       go_wp2_with (first | (go_at_call 71; (with_reducible refine (lamplighterref06_sign.calls (rd t208 x4_1) false _ A9.out).mono ?_); rintro e w' ⟨rfl,⟨nd,rfl⟩⟩; (try first | exact ⟨rfl,_,World.drewN_drewN _ _ _⟩ | exact ⟨rfl,_,Eq.trans (World.drewN_drewN _ _ _) (congrArg (World.drewN _) (Nat.add_assoc _ _ _))⟩)))
       repeat (go_quiet (first | (go_at_call 71; (with_reducible refine (lamplighterref06_sign.calls (rd t208 x4_1) false _ A9.out).mono ?_); rintro e w' ⟨rfl,⟨nd,rfl⟩⟩; (try first | exact ⟨rfl,_,World.drewN_drewN _ _ _⟩ | exact ⟨rfl,_,Eq.trans (World.drewN_drewN _ _ _) (congrArg (World.drewN _) (Nat.add_assoc _ _ _))⟩))); try go_wp2_with (first | (go_at_call 71; (with_reducible refine (lamplighterref06_sign.calls (rd t208 x4_1) false _ A9.out).mono ?_); rintro e w' ⟨rfl,⟨nd,rfl⟩⟩; (try first | exact ⟨rfl,_,World.drewN_drewN _ _ _⟩ | exact ⟨rfl,_,Eq.trans (World.drewN_drewN _ _ _) (congrArg (World.drewN _) (Nat.add_assoc _ _ _))⟩))))
       go_ret
       exact ⟨by first | rfl | (simp [errW_none,errW_some] <;> rfl) | (simp [*,errW_none,errW_some] <;> rfl),by repeat (first | (with_reducible first | exact HB.out | apply bA | apply bN | apply bD | refine below_set ?_ GE207.out) | exact HB.out)⟩
     ·rw [if_neg c8] at H
      exact absurd H (by simp)
    ·rw [if_neg c7] at H
     exact absurd H (by simp)
   ·rw [if_neg c6] at H
    have c6b0:decide (x4_1 < 5)=false:=decide_eq_false c6
    clear c6
    obtain rfl:=Option.some.inj H
    go_wp2
    repeat (go_quiet (fail); try go_wp2)
    go_ret
    exact ⟨by first | rfl | (simp [errW_none,errW_some] <;> rfl) | (simp [*,errW_none,errW_some] <;> rfl),by repeat (first | (with_reducible first | exact HB.out | apply bA | apply bN | apply bD | refine below_set ?_ GE207.out) | exact HB.out)⟩

end Go.Proofs.YtcjcaojgminjpaaDoor.PD
