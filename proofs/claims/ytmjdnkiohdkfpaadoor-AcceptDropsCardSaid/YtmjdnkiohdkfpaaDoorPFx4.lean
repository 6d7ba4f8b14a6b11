import Derived.Test.YtmjdnkiohdkfpaaDoorPFx0
import Derived.Test.YtmjdnkiohdkfpaaDoorPFx3
namespace Go.Proofs.YtmjdnkiohdkfpaaDoor.PF
open Go.RowKit Go.Proofs.YtmjdnkiohdkfpaaDoorW.PrintWords Go.Proofs.YtmjdnkiohdkfpaaDoorW.PrintLast Go.Proofs.YtmjdnkiohdkfpaaDoorW.PrintMore
set_option maxHeartbeats 8000000
set_option maxRecDepth 100000
attribute [local go_sem] max2_int min2_int max_two min_two max_three min_three max_four min_four
set_option linter.unusedVariables false
set_option linter.unusedSimpArgs false

/-! ### segment_Make: function 22 -/
def segment_Make.f (a0_0 : Int) (a0_1 : Int) (a0_2 : Int) (a0_3 : Int) (a0_4 : Int) (a1 : ByteArray) (l2 : List ByteArray) : Option (ByteArray):=if a1.toList=([77,83,72] : List UInt8) then (if 0≤(mn (l2.length : Int) 2) then (if (mn (l2.length : Int) 2)≤(l2.length : Int) then ((strings_Join.f (l2.take ((mn (l2.length : Int) 2) : Int).toNat) (⟨#[]⟩ : ByteArray)).bind fun t132=>(if a1.size + t132.size≤9223372036854775807 then ((some (([a1 ++ t132] : List ByteArray) : List ByteArray)).bind fun y134=>(if y134.length + (l2.drop ((mn (l2.length : Int) 2) : Int).toNat).length < 8796093022208 then ((delim_Join.f a0_0 (y134 ++ (l2.drop ((mn (l2.length : Int) 2) : Int).toNat))).bind fun t140=>(some t140)) else (none))) else (none))) else (none)) else (none)) else ((some (([a1] : List ByteArray) : List ByteArray)).bind fun y141=>(if y141.length + l2.length < 8796093022208 then ((delim_Join.f a0_0 (y141 ++ l2)).bind fun t147=>(some t147)) else (none)))
def segment_Make.T5 : Bool × List (List Nat × List Nat):=(true,[([],[]),([0],[0]),([],[]),([2],[2]),([],[]),([3,4],[3,4]),([1,5,5],[1,5]),([6,6,0,1,2,3,4,5,6],[6])])
def segment_Make.B5 : List Nat:=[0,1,0,4,0,28,63,127]
theorem segment_Make.tab5 : rtab .any (opsOf Tryd.f22 5)=segment_Make.T5:=by kernel_rfl
theorem segment_Make.bits5 : waitsOk segment_Make.T5.2 segment_Make.B5=true:=by kernel_rfl
theorem segment_Make.calls (a0_0 : Int) (a0_1 : Int) (a0_2 : Int) (a0_3 : Int) (a0_4 : Int) (a1 : ByteArray) (A2 : Option Addr) (c2 : Nat) (l2 : List ByteArray) (r : ByteArray) (w : World) (hr2 : Kd.C Kd.string w A2 l2.length l2) (hc2 : l2.length≤c2) (h : segment_Make.f a0_0 a0_1 a0_2 a0_3 a0_4 a1 l2=some r) :
  Calls Tryd.prog 22 #[.agg #[.int .u8 a0_0, .int .u8 a0_1, .int .u8 a0_2, .int .u8 a0_3, .int .u8 a0_4], .string a1, .slice A2 l2.length c2] w fun e w'=>e = .returned (.string r)∧Below w.heap.size w w':=by
 have hu23:=Tryd.underlying23
 have HR2:=Aside0.mk hr2
 have HC2:=Aside0.mk hc2
 clear hr2 hc2
 have HB:=Aside0.mk (Below.refl w.heap.size w)
 have H : (if a1.toList=([77,83,72] : List UInt8) then (if 0≤(mn (l2.length : Int) 2) then (if (mn (l2.length : Int) 2)≤(l2.length : Int) then ((strings_Join.f (l2.take ((mn (l2.length : Int) 2) : Int).toNat) (⟨#[]⟩ : ByteArray)).bind fun t132=>(if a1.size + t132.size≤9223372036854775807 then ((some (([a1 ++ t132] : List ByteArray) : List ByteArray)).bind fun y134=>(if y134.length + (l2.drop ((mn (l2.length : Int) 2) : Int).toNat).length < 8796093022208 then ((delim_Join.f a0_0 (y134 ++ (l2.drop ((mn (l2.length : Int) 2) : Int).toNat))).bind fun t140=>(some t140)) else (none))) else (none))) else (none)) else (none)) else ((some (([a1] : List ByteArray) : List ByteArray)).bind fun y141=>(if y141.length + l2.length < 8796093022208 then ((delim_Join.f a0_0 (y141 ++ l2)).bind fun t147=>(some t147)) else (none))))=some r:=h
 clear h
 by_cases c4 : a1.toList=([77,83,72] : List UInt8)
 ·rw [if_pos c4] at H
  have c4b0 : (a1.toList == ([77,83,72] : List UInt8))=true:=beq_iff_eq.mpr c4
  have c4b1 : (a1.toList != ([77,83,72] : List UInt8))=false:=bne_eq_false_iff_eq.mpr c4
  clear c4
  obtain ⟨ji5,hji5⟩ : ∃ j_ : Int,(mn (l2.length : Int) 2)=j_:=⟨_,rfl⟩
  replace H : (if 0≤(ji5) then (if (ji5)≤(l2.length : Int) then ((strings_Join.f (l2.take ((ji5) : Int).toNat) (⟨#[]⟩ : ByteArray)).bind fun t132=>(if a1.size + t132.size≤9223372036854775807 then ((some (([a1 ++ t132] : List ByteArray) : List ByteArray)).bind fun y134=>(if y134.length + (l2.drop ((ji5) : Int).toNat).length < 8796093022208 then ((delim_Join.f a0_0 (y134 ++ (l2.drop ((ji5) : Int).toNat))).bind fun t140=>(some t140)) else (none))) else (none))) else (none)) else (none))=some r:=by first | (rw [hji5] at H; exact H) | (simp only [hji5] at H ⊢; exact H)
  (try (have hji5h:ji5≤2:=by (rw [← hji5]; unfold mn; (repeat' split) <;> omega)))
  (try (have hji5g:ji5≤64:=by omega))
  (try (have hji5l:0≤ji5:=by (rw [← hji5]; unfold mn; (repeat' split) <;> omega)))
  (try (have hji5m:0≤ji5:=by omega))
  have hji5_ : (if 2 < (l2.length : Int) then 2 else (l2.length : Int))=ji5:=hji5
  by_cases c6 : 0≤(ji5)
  ·rw [if_pos c6] at H
   have c6b0:=eq_true c6
   have c6b1:decide (0≤(ji5))=true:=decide_eq_true c6
   clear c6
   by_cases c7 : (ji5)≤(l2.length : Int)
   ·rw [if_pos c7] at H
    have c7b0:=eq_true c7
    have c7b1:decide ((ji5)≤(l2.length : Int))=true:=decide_eq_true c7
    clear c7
    replace H:=Option.bind_eq_some_iff.mp H
    obtain ⟨t132,A80,H⟩:=H
    replace H : (if a1.size + t132.size≤9223372036854775807 then ((some (([a1 ++ t132] : List ByteArray) : List ByteArray)).bind fun y134=>(if y134.length + (l2.drop ((ji5) : Int).toNat).length < 8796093022208 then ((delim_Join.f a0_0 (y134 ++ (l2.drop ((ji5) : Int).toNat))).bind fun t140=>(some t140)) else (none))) else (none))=some r:=H
    have A8:=Aside0.mk A80
    clear A80
    by_cases c9 : a1.size + t132.size≤9223372036854775807
    ·rw [if_pos c9] at H
     have c9b0:=eq_true c9
     have c9b1:decide (a1.size + t132.size≤9223372036854775807)=true:=decide_eq_true c9
     try have c9b2 : (9223372036854775807 < a1.size + t132.size)=False:=eq_false (Nat.not_lt.2 c9)
     try (have c9b4:=c9b2; simp only [ByteArray.size_append] at c9b4)
     have c10b0:=eq_true (of_decide_eq_true (by first | (with_reducible assumption) | assumption) : 0≤(ji5))
     have c11b0:=eq_true (of_decide_eq_true (by first | (with_reducible assumption) | assumption) : (ji5)≤(l2.length : Int))
     obtain ⟨y134,hy134⟩ : ∃ y_ : List ByteArray,y_=(([a1 ++ t132] : List ByteArray)):=⟨_,rfl⟩
     replace H : (if y134.length + (l2.drop ((ji5) : Int).toNat).length < 8796093022208 then ((delim_Join.f a0_0 (y134 ++ (l2.drop ((ji5) : Int).toNat))).bind fun t140=>(some t140)) else (none))=some r:=by first | (rw [hy134]; with_reducible exact H) | (have H2_:=(Option.bind_some _ _).symm.trans H; rw [hy134]; with_reducible exact H2_) | (have H2_:=(Option.bind_some _ _).symm.trans H; with_reducible exact H2_) | with_reducible exact H | (rw [hy134]; exact H) | exact H
     have Ny134:=Aside0.mk hy134
     clear hy134
     by_cases c12 : y134.length + (l2.drop ((ji5) : Int).toNat).length < 8796093022208
     ·rw [if_pos c12] at H
      have LMc12:=Aside0.mk c12
      clear c12
      obtain ⟨y137,hy137⟩ : ∃ y_ : List ByteArray,y_=(y134 ++ (l2.drop ((ji5) : Int).toNat)):=⟨_,rfl⟩
      replace H : ((delim_Join.f a0_0 y137).bind fun t140=>(some t140))=some r:=by first | (rw [hy137]; with_reducible exact H) | (have H2_:=(Option.bind_some _ _).symm.trans H; rw [hy137]; with_reducible exact H2_) | (have H2_:=(Option.bind_some _ _).symm.trans H; with_reducible exact H2_) | with_reducible exact H | (rw [hy137]; exact H) | exact H
      have Ny137:=Aside0.mk hy137
      clear hy137
      replace H:=Option.bind_eq_some_iff.mp H
      obtain ⟨t140,A130,H⟩:=H
      replace H : (some t140)=some r:=H
      have A13:=Aside0.mk A130
      clear A130
      obtain rfl:=Option.some.inj H
      go_enter Tryd.func22,Tryd.ntmps22
      try go_wp2_with (first | ((with_reducible refine gate_dst (N:=3) rfl ?_); refine box_event ?hg (N:=3) ?hd (cs:=#[.int .u8 a0_0, .int .u8 a0_1, .int .u8 a0_2, .int .u8 a0_3, .int .u8 a0_4]) (t:=23) ?hr ?_; (case hd=>rfl); (case hg=>rfl); (case hr=>first | (go_simp; done) | (go_simp; rfl)); intro gb130 hg w14 hbox hb; have n0_:=Aside0.mk (below_step (by repeat (first | (with_reducible first | exact HB.out | apply bA | apply bN | apply bD) | exact HB.out)) hb); have n1_:=Aside0.mk (hbox); have n2_:=Aside0.mk ((by rw [hg]; exact (below_size (by repeat (first | (with_reducible first | exact HB.out | apply bA | apply bN | apply bD) | exact HB.out))) : w.heap.size≤gb130)); have n3_:=Aside0.mk ((by rw [hg]; exact (below_size (by repeat (first | (with_reducible first | exact HB.out | apply bA | apply bN | apply bD) | exact HB.out))) : w.heap.size≤gb130)); clear HB; have HB:=n0_; have BK130:=n1_; have GW130:=n2_; have GE130:=n3_; clear n0_ n1_ n2_ n3_; clear hb hbox hg; obtain ⟨i015,hi015,_,hsz15,_⟩:=info_parts info9; obtain ⟨hcut15,hA15,hC15⟩:=print_take_of (P:=Tryd.prog) Value.string (⟨#[]⟩ : ByteArray) 41 9 .i64 Tryd.underlying41 hi015 hsz15 A2 c2 l2 (ji5) (of_decide_eq_true (by first | (with_reducible assumption) | assumption)) (of_decide_eq_true (by first | (with_reducible assumption) | assumption)) HC2.out; have HR131:=Aside0.mk (Kd.C_of_reads (h1:=fun _=>rfl) (hA15 _ (Kd.reads_of_C HR2.out))); have HC131:=Aside0.mk hC15; clear hA15 hC15 hi015 hsz15) | ((with_reducible refine gate_callee (f:=52) rfl ?_); refine goesL_ (some 17) rfl rfl Tryd.func52 (by kernel_rfl) rfl #[.slice A2 (l2.take ((ji5) : Int).toNat).length c2, .string (⟨#[]⟩ : ByteArray)] rfl (by (try simp only [List.map_toArray,List.map_cons,List.map_nil]); first | done | (rw [show (l2.take ((ji5) : Int).toNat).length=(ji5).toNat from (by rw [List.length_take]; have h_ : ((ji5) : Int)≤(l2.length : Int):=of_decide_eq_true (by first | (with_reducible assumption) | assumption); omega)] <;> rfl) | (simp only [hji5]; rfl) | rfl | (simp only [List.length_drop,List.length_take]; rfl)) ?_; (with_reducible refine (strings_Join.calls _ _ (l2.take ((ji5) : Int).toNat) (⟨#[]⟩ : ByteArray) t132 _ ?side1 ?side2 A8.out).mono ?_); (case side1=>repeat (first | exact (Kd.C_below HR131.out HB.out) | (with_reducible refine Kd.C_alloc ?_ _) | (with_reducible refine Kd.C_drewN ?_ _) | (with_reducible refine Kd.C_drew ?_))); (case side2=>exact HC131.out); rintro e w16 ⟨rfl,hb⟩; refine ⟨_,rfl,?_⟩; have n0_:=Aside0.mk (blk_below (g:=gb130) (o := .cells #[.int .u8 a0_0, .int .u8 a0_1, .int .u8 a0_2, .int .u8 a0_3, .int .u8 a0_4] 23 (0,0)) (by (with_reducible repeat (first | refine kN ?_ _ | refine kD ?_ | refine kA ?_ _)); exact BK130.out) hb); have n1_:=Aside0.mk (below_step (by repeat (first | (with_reducible first | exact HB.out | apply bA | apply bN | apply bD | refine below_set ?_ GE130.out) | exact HB.out)) hb); clear BK130; clear HB; have BK130:=n0_; have HB:=n1_; clear n0_ n1_; (try clear hb); obtain ⟨i017,hi017,_,hsz17,_⟩:=info_parts info9; obtain ⟨A17,hcut17,hA17,hC17⟩:=print_drop_of (P:=Tryd.prog) Value.string (⟨#[]⟩ : ByteArray) 41 9 .i64 Tryd.underlying41 hi017 hsz17 A2 c2 l2 (ji5) (of_decide_eq_true (by first | (with_reducible assumption) | assumption)) (of_decide_eq_true (by first | (with_reducible assumption) | assumption)) HC2.out; have HR133:=Aside0.mk (Kd.C_of_reads (h1:=fun _=>rfl) (hA17 _ (Kd.reads_of_C HR2.out))); have HC133:=Aside0.mk hC17; clear hA17 hC17 hi017 hsz17))
      have n0_:=Aside0.mk (blk_drew BK130.out)
      have n1_:=Aside0.mk (below_drew1 HB.out)
      clear BK130
      clear HB
      have BK130:=n0_
      have HB:=n1_
      clear n0_ n1_
      refine start_ (n:=8) (S:=fun w'=>w'.cell? ⟨gb130,0,none⟩=some (.int .u8 a0_0)∧w'.cell? ⟨gb130,1,none⟩=some (.int .u8 a0_1)∧w'.cell? ⟨gb130,2,none⟩=some (.int .u8 a0_2)∧w'.cell? ⟨gb130,3,none⟩=some (.int .u8 a0_3)∧w'.cell? ⟨gb130,4,none⟩=some (.int .u8 a0_4)) (ds:=[]) #[false,false,false,false,false,false,false,false] (by kernel_rfl) rfl rfl ⟨blk_cell BK130.out 0,blk_cell BK130.out 1,blk_cell BK130.out 2,blk_cell BK130.out 3,blk_cell BK130.out 4⟩ (fun hHeld=>?_); refine with_tabW segment_Make.tab5 segment_Make.bits5 (fun HT_ HW_=>?_)
      generalize w16.drew=w18 at BK130 HB hHeld ⊢
      refine pure_ (i:=0) (N:=some 22) (v:=?_) (a':=?_) #[true,false,false,false,false,false,false,false] rfl rfl (any_of HT_.out (by kernel_rfl)) (fun _ _ _ h=>h) (Or.inl ⟨by rfl,?_⟩) ?_ ?_
      rotate_left
      ·intro w'
       go_simp
       with_reducible rfl
      rotate_left
      ·simp only [Act.put,sA_,s0_,s1_,i64_w,i32_w]
       rfl
      refine pure_ (i:=2) (N:=some 24) (v:=?_) (a':=?_) #[true,false,true,false,false,false,false,false] rfl rfl (any_of HT_.out (by kernel_rfl)) (fun _ _ _ h=>h) (Or.inl ⟨by rfl,?_⟩) ?_ ?_
      rotate_left
      ·intro w'
       go_simp
       with_reducible rfl
      rotate_left
      ·simp only [Act.put,sA_,s0_,s1_,i64_w,i32_w]
       rfl
      refine pure_ (i:=4) (N:=some 26) (v:=?_) (a':=?_) #[true,false,true,false,true,false,false,false] rfl rfl (any_of HT_.out (by kernel_rfl)) (fun _ _ _ h=>h) (Or.inl ⟨by rfl,?_⟩) ?_ ?_
      rotate_left
      ·intro w'
       go_simp
       with_reducible rfl
      rotate_left
      ·simp only [Act.put,sA_,s0_,s1_,i64_w,i32_w]
       rfl
      refine take_ (i:=1) (N:=some 23) (v:=?_) (a':=?_) #[true,true,true,false,true,false,false,false] rfl rfl (take_ofW HT_.out HW_.out (by kernel_rfl)) (fun _ _ _ h=>h) (Or.inl ⟨by rfl,?_⟩) hHeld ?_ ?_
      rotate_left
      ·rintro w' ⟨s0,s1,s2,s3,s4⟩
       go_simp
       with_reducible rfl
      rotate_left
      ·simp only [Act.put,sA_,s0_,s1_,i64_w,i32_w]
       rfl
      refine one_ (i:=3) (N:=some 25) #[true,true,true,true,true,false,false,false] rfl rfl (one_of HT_.out (by kernel_rfl)) (by decide) (fun K hK=>?_)
      refine Kd.R_lit_step Kd.string _ 9 ?hg (N:=25) ?hd (xs:=([a1 ++ t132] : List ByteArray)) (inner:=[.string (a1 ++ t132)]) (ok:=fun _=>True) (okp:=fun _=>True) ?hr ?hp (fun _ hk=>hk) trivial (Below.refl _ _) (Nat.le_refl _) (by simp) ?_; (case hd=>rfl); (case hg=>rfl); (case hr=>first | (go_simp; done) | (go_simp; rfl)); (case hp=>exact (Reps.one (show Kd.M Kd.string _ _ _ (a1 ++ t132) [.string (a1 ++ t132)] from rfl) (Reps.none _ _)))
      intro v135 w19 ho20 hb hg_ hnew_
      clear hg_ hnew_
      (first | rw [← Ny134.out] at ho20 | (simp only [Int.reduceToNat] at ho20; rw [← Ny134.out] at ho20))
      have n0_:=Aside0.mk (Kd.R_lower ho20 (below_size (by repeat (first | (with_reducible first | exact HB.out | apply bA | apply bN | apply bD | refine below_set ?_ GE130.out) | exact HB.out))))
      have n1_:=Aside0.mk (blk_below (g:=gb130) (o := .cells #[.int .u8 a0_0, .int .u8 a0_1, .int .u8 a0_2, .int .u8 a0_3, .int .u8 a0_4] 23 (0,0)) (by (with_reducible repeat (first | refine kN ?_ _ | refine kD ?_ | refine kA ?_ _)); exact BK130.out) hb)
      have n2_:=Aside0.mk (below_step (by repeat (first | (with_reducible first | exact HB.out | apply bA | apply bN | apply bD | refine below_set ?_ GE130.out) | exact HB.out)) hb)
      clear BK130
      clear HB
      have HO136:=n0_
      have BK130:=n1_
      have HB:=n2_
      clear n0_ n1_ n2_
      clear hb ho20
      refine hK.out _ _ ⟨blk_cell BK130.out 0,blk_cell BK130.out 1,blk_cell BK130.out 2,blk_cell BK130.out 3,blk_cell BK130.out 4⟩ (fun hHeld=>?_)
      clear hK K
      refine norm_ (a':=?_) ?_ ?_
      rotate_left
      ·show Act.put _ (some 25) _=_
       simp only [Act.put,sA_,s0_,s1_,i64_w,i32_w]
       rfl
      refine one_ (i:=5) (N:=some 27) #[true,true,true,true,true,true,false,false] rfl rfl (one_of HT_.out (by kernel_rfl)) (by decide) (fun K hK=>?_)
      refine Kd.R_append_rows_step Kd.string (w0:=w) w.heap.size (by rfl) (.tmp 25) (.tmp 26) 41 9 (.string ⟨#[]⟩) 16 rfl Tryd.underlying41 info9 rfl (by decide) (by omega) v135 y134 (l2.drop ((ji5) : Int).toNat) _ _ _ (fun _=>True) (fun _=>False) rfl rfl ?aO ?aR (fun _ _ h=>h) (fun _ h=>h.elim) ?aF ?aB ?aS ?aL ?_
      (case aR=>first | (rw [← show (l2.drop ((ji5) : Int).toNat).length=(l2.length - (ji5).toNat) from List.length_drop]; repeat (first | exact (Kd.C_below HR133.out HB.out) | (with_reducible refine Kd.C_alloc ?_ _) | (with_reducible refine Kd.C_drewN ?_ _) | (with_reducible refine Kd.C_drew ?_))) | (repeat (first | exact (Kd.C_below HR133.out HB.out) | (with_reducible refine Kd.C_alloc ?_ _) | (with_reducible refine Kd.C_drewN ?_ _) | (with_reducible refine Kd.C_drew ?_))))
      (case aB=>exact (by repeat (first | (with_reducible first | exact HB.out | apply bA | apply bN | apply bD | refine below_set ?_ GE130.out) | exact HB.out)))
      (case aF=>exact (fun _ _=>trivial))
      (case aO=>exact (by (with_reducible repeat (first | apply Kd.R_alloc | apply Kd.R_drewN | apply Kd.R_drew)); exact HO136.out))
      (case aS=>exact (below_size (by repeat (first | (with_reducible first | exact HB.out | apply bA | apply bN | apply bD | refine below_set ?_ GE130.out) | exact HB.out))))
      (case aL=>have:=LMc12.out; have hlx_:=(show (l2.drop ((ji5) : Int).toNat).length=(l2.length - (ji5).toNat) from List.length_drop); omega)
      intro v138 w21 ho hb hg hat
      rw [← Ny137.out] at ho
      have n0_:=Aside0.mk (blk_grown (g:=gb130) (o := .cells #[.int .u8 a0_0, .int .u8 a0_1, .int .u8 a0_2, .int .u8 a0_3, .int .u8 a0_4] 23 (0,0)) (by (with_reducible repeat (first | refine kN ?_ _ | refine kD ?_ | refine kA ?_ _)); exact BK130.out) hg (Kd.R_ne HO136.out BK130.out (by decide)))
      have n1_:=Aside0.mk (hb)
      have n2_:=Aside0.mk (ho)
      clear BK130
      clear HB
      clear HO136
      have BK130:=n0_
      have HB:=n1_
      have HO139:=n2_
      clear n0_ n1_ n2_
      clear ho hb hg hat
      obtain ⟨Ao22,co22,eo22⟩:=Kd.R_slice HO139.out
      (first | subst eo22 | (injection eo22 with f1_ f2_ f3_; have f4_:=f1_.symm; have f5_:=f3_.symm; clear f1_ f2_ f3_; subst f4_; subst f5_))
      refine hK.out _ _ ⟨blk_cell BK130.out 0,blk_cell BK130.out 1,blk_cell BK130.out 2,blk_cell BK130.out 3,blk_cell BK130.out 4⟩ (fun hHeld=>?_)
      clear hK K
      refine norm_ (a':=?_) ?_ ?_
      rotate_left
      ·show Act.put _ (some 27) _=_
       simp only [Act.put,sA_,s0_,s1_,i64_w,i32_w]
       rfl
      refine one_ (i:=6) (N:=some 28) #[true,true,true,true,true,true,true,false] rfl rfl (one_of HT_.out (by kernel_rfl)) (by decide) (fun K hK=>?_)
      refine goes_ Tryd.func53 (by kernel_rfl) rfl #[.int .u8 a0_0, .slice Ao22 y137.length co22] (by rfl) rfl rfl (by (try simp only [List.map_toArray,List.map_cons,List.map_nil]); first | done | rfl | (simp only [List.length_drop,List.length_take]; rfl)) ?_
      with_reducible refine (delim_Join.calls a0_0 _ _ y137 t140 _ ?side1 ?side2 A13.out).mono ?_
      (case side1=>repeat (first | exact (Kd.R_reads' HO139.out).2.2 | (with_reducible refine Kd.C_alloc ?_ _) | (with_reducible refine Kd.C_drewN ?_ _) | (with_reducible refine Kd.C_drew ?_)))
      (case side2=>exact (Kd.R_reads' HO139.out).2.1)
      rintro e w23 ⟨rfl,hb⟩
      refine ⟨_,rfl,?_⟩
      have n0_:=Aside0.mk (Kd.R_below (by (with_reducible repeat (first | apply Kd.R_alloc | apply Kd.R_drewN | apply Kd.R_drew)); exact HO139.out) hb)
      have n1_:=Aside0.mk (blk_below (g:=gb130) (o := .cells #[.int .u8 a0_0, .int .u8 a0_1, .int .u8 a0_2, .int .u8 a0_3, .int .u8 a0_4] 23 (0,0)) (by (with_reducible repeat (first | refine kN ?_ _ | refine kD ?_ | refine kA ?_ _)); exact BK130.out) hb)
      have n2_:=Aside0.mk (below_step (by repeat (first | (with_reducible first | exact HB.out | apply bA | apply bN | apply bD | refine below_set ?_ GE130.out) | exact HB.out)) hb)
      clear HO139
      clear BK130
      clear HB
      have HO139:=n0_
      have BK130:=n1_
      have HB:=n2_
      clear n0_ n1_ n2_
      (try clear hb)
      (try clear hb2)
      (try clear hk)
      (try clear hi)
      refine hK.out _ _ ⟨blk_cell BK130.out 0,blk_cell BK130.out 1,blk_cell BK130.out 2,blk_cell BK130.out 3,blk_cell BK130.out 4⟩ (fun hHeld=>?_)
      clear hK K
      refine norm_ (a':=?_) ?_ ?_
      rotate_left
      ·show Act.put _ (some 28) _=_
       simp only [Act.put,sA_,s0_,s1_,i64_w,i32_w]
       rfl
      refine pure_ (i:=7) (N:=some 6) (v:=?_) (a':=?_) #[true,true,true,true,true,true,true,true] rfl rfl (any_of HT_.out (by kernel_rfl)) (fun _ _ _ h=>h) (Or.inl ⟨by rfl,?_⟩) ?_ ?_
      rotate_left
      ·intro w'
       go_simp
       with_reducible rfl
      rotate_left
      ·simp only [Act.put,sA_,s0_,s1_,i64_w,i32_w]
       rfl
      refine done_ (done_of HT_.out (by kernel_rfl)) ?_
      try go_wp2
      go_ret
      exact ⟨by first | rfl | (simp [errW_none,errW_some] <;> rfl) | (simp only [← hji5]; first | rfl | (simp [errW_none,errW_some] <;> rfl)) | (simp [*,errW_none,errW_some] <;> rfl),by repeat (first | (with_reducible first | exact HB.out | apply bA | apply bN | apply bD | refine below_set ?_ GE130.out) | exact HB.out)⟩
     ·rw [if_neg c12] at H
      exact absurd H (by simp)
    ·rw [if_neg c9] at H
     exact absurd H (by simp)
   ·rw [if_neg c7] at H
    exact absurd H (by simp)
  ·rw [if_neg c6] at H
   exact absurd H (by simp)
 ·rw [if_neg c4] at H
  have c4b0 : (a1.toList == ([77,83,72] : List UInt8))=false:=beq_eq_false_iff_ne.mpr c4
  have c4b1 : (a1.toList != ([77,83,72] : List UInt8))=true:=bne_iff_ne.mpr c4
  obtain ⟨y141,hy141⟩ : ∃ y_ : List ByteArray,y_=(([a1] : List ByteArray)):=⟨_,rfl⟩
  replace H : (if y141.length + l2.length < 8796093022208 then ((delim_Join.f a0_0 (y141 ++ l2)).bind fun t147=>(some t147)) else (none))=some r:=by first | (rw [hy141]; with_reducible exact H) | (have H2_:=(Option.bind_some _ _).symm.trans H; rw [hy141]; with_reducible exact H2_) | (have H2_:=(Option.bind_some _ _).symm.trans H; with_reducible exact H2_) | with_reducible exact H | (rw [hy141]; exact H) | exact H
  have Ny141:=Aside0.mk hy141
  clear hy141
  by_cases c24 : y141.length + l2.length < 8796093022208
  ·rw [if_pos c24] at H
   have LMc24:=Aside0.mk c24
   clear c24
   obtain ⟨y144,hy144⟩ : ∃ y_ : List ByteArray,y_=(y141 ++ l2):=⟨_,rfl⟩
   replace H : ((delim_Join.f a0_0 y144).bind fun t147=>(some t147))=some r:=by first | (rw [hy144]; with_reducible exact H) | (have H2_:=(Option.bind_some _ _).symm.trans H; rw [hy144]; with_reducible exact H2_) | (have H2_:=(Option.bind_some _ _).symm.trans H; with_reducible exact H2_) | with_reducible exact H | (rw [hy144]; exact H) | exact H
   have Ny144:=Aside0.mk hy144
   clear hy144
   replace H:=Option.bind_eq_some_iff.mp H
   obtain ⟨t147,A250,H⟩:=H
   replace H : (some t147)=some r:=H
   have A25:=Aside0.mk A250
   clear A250
   obtain rfl:=Option.some.inj H
   go_enter Tryd.func22,Tryd.ntmps22
   try go_wp2_with (first | ((with_reducible refine gate_dst (N:=3) rfl ?_); refine box_event ?hg (N:=3) ?hd (cs:=#[.int .u8 a0_0, .int .u8 a0_1, .int .u8 a0_2, .int .u8 a0_3, .int .u8 a0_4]) (t:=23) ?hr ?_; (case hd=>rfl); (case hg=>rfl); (case hr=>first | (go_simp; done) | (go_simp; rfl)); intro gb130 hg w26 hbox hb; have n0_:=Aside0.mk (below_step (by repeat (first | (with_reducible first | exact HB.out | apply bA | apply bN | apply bD) | exact HB.out)) hb); have n1_:=Aside0.mk (hbox); have n2_:=Aside0.mk ((by rw [hg]; exact (below_size (by repeat (first | (with_reducible first | exact HB.out | apply bA | apply bN | apply bD) | exact HB.out))) : w.heap.size≤gb130)); have n3_:=Aside0.mk ((by rw [hg]; exact (below_size (by repeat (first | (with_reducible first | exact HB.out | apply bA | apply bN | apply bD) | exact HB.out))) : w.heap.size≤gb130)); clear HB; have HB:=n0_; have BK130:=n1_; have GW130:=n2_; have GE130:=n3_; clear n0_ n1_ n2_ n3_; clear hb hbox hg))
   have n0_:=Aside0.mk (blk_drew BK130.out)
   have n1_:=Aside0.mk (below_drew1 HB.out)
   clear BK130
   clear HB
   have BK130:=n0_
   have HB:=n1_
   clear n0_ n1_
   refine start_ (n:=8) (S:=fun w'=>w'.cell? ⟨gb130,0,none⟩=some (.int .u8 a0_0)∧w'.cell? ⟨gb130,1,none⟩=some (.int .u8 a0_1)∧w'.cell? ⟨gb130,2,none⟩=some (.int .u8 a0_2)∧w'.cell? ⟨gb130,3,none⟩=some (.int .u8 a0_3)∧w'.cell? ⟨gb130,4,none⟩=some (.int .u8 a0_4)) (ds:=[]) #[false,false,false,false,false,false,false,false] (by kernel_rfl) rfl rfl ⟨blk_cell BK130.out 0,blk_cell BK130.out 1,blk_cell BK130.out 2,blk_cell BK130.out 3,blk_cell BK130.out 4⟩ (fun hHeld=>?_); refine with_tabW segment_Make.tab5 segment_Make.bits5 (fun HT_ HW_=>?_)
   generalize w26.drew=w27 at BK130 HB hHeld ⊢
   refine pure_ (i:=0) (N:=some 22) (v:=?_) (a':=?_) #[true,false,false,false,false,false,false,false] rfl rfl (any_of HT_.out (by kernel_rfl)) (fun _ _ _ h=>h) (Or.inl ⟨by rfl,?_⟩) ?_ ?_
   rotate_left
   ·intro w'
    go_simp
    with_reducible rfl
   rotate_left
   ·simp only [Act.put,sA_,s0_,s1_,i64_w,i32_w]
    rfl
   refine pure_ (i:=2) (N:=some 24) (v:=?_) (a':=?_) #[true,false,true,false,false,false,false,false] rfl rfl (any_of HT_.out (by kernel_rfl)) (fun _ _ _ h=>h) (Or.inl ⟨by rfl,?_⟩) ?_ ?_
   rotate_left
   ·intro w'
    go_simp
    with_reducible rfl
   rotate_left
   ·simp only [Act.put,sA_,s0_,s1_,i64_w,i32_w]
    rfl
   refine pure_ (i:=4) (N:=some 26) (v:=?_) (a':=?_) #[true,false,true,false,true,false,false,false] rfl rfl (any_of HT_.out (by kernel_rfl)) (fun _ _ _ h=>h) (Or.inl ⟨by rfl,?_⟩) ?_ ?_
   rotate_left
   ·intro w'
    go_simp
    with_reducible rfl
   rotate_left
   ·simp only [Act.put,sA_,s0_,s1_,i64_w,i32_w]
    rfl
   refine take_ (i:=1) (N:=some 23) (v:=?_) (a':=?_) #[true,true,true,false,true,false,false,false] rfl rfl (take_ofW HT_.out HW_.out (by kernel_rfl)) (fun _ _ _ h=>h) (Or.inl ⟨by rfl,?_⟩) hHeld ?_ ?_
   rotate_left
   ·rintro w' ⟨s0,s1,s2,s3,s4⟩
    go_simp
    with_reducible rfl
   rotate_left
   ·simp only [Act.put,sA_,s0_,s1_,i64_w,i32_w]
    rfl
   refine one_ (i:=3) (N:=some 25) #[true,true,true,true,true,false,false,false] rfl rfl (one_of HT_.out (by kernel_rfl)) (by decide) (fun K hK=>?_)
   refine Kd.R_lit_step Kd.string _ 9 ?hg (N:=25) ?hd (xs:=([a1] : List ByteArray)) (inner:=[.string a1]) (ok:=fun _=>True) (okp:=fun _=>True) ?hr ?hp (fun _ hk=>hk) trivial (Below.refl _ _) (Nat.le_refl _) (by simp) ?_; (case hd=>rfl); (case hg=>rfl); (case hr=>first | (go_simp; done) | (go_simp; rfl)); (case hp=>exact (Reps.one (show Kd.M Kd.string _ _ _ a1 [.string a1] from rfl) (Reps.none _ _)))
   intro v142 w28 ho29 hb hg_ hnew_
   clear hg_ hnew_
   (first | rw [← Ny141.out] at ho29 | (simp only [Int.reduceToNat] at ho29; rw [← Ny141.out] at ho29))
   have n0_:=Aside0.mk (Kd.R_lower ho29 (below_size (by repeat (first | (with_reducible first | exact HB.out | apply bA | apply bN | apply bD | refine below_set ?_ GE130.out) | exact HB.out))))
   have n1_:=Aside0.mk (blk_below (g:=gb130) (o := .cells #[.int .u8 a0_0, .int .u8 a0_1, .int .u8 a0_2, .int .u8 a0_3, .int .u8 a0_4] 23 (0,0)) (by (with_reducible repeat (first | refine kN ?_ _ | refine kD ?_ | refine kA ?_ _)); exact BK130.out) hb)
   have n2_:=Aside0.mk (below_step (by repeat (first | (with_reducible first | exact HB.out | apply bA | apply bN | apply bD | refine below_set ?_ GE130.out) | exact HB.out)) hb)
   clear BK130
   clear HB
   have HO143:=n0_
   have BK130:=n1_
   have HB:=n2_
   clear n0_ n1_ n2_
   clear hb ho29
   refine hK.out _ _ ⟨blk_cell BK130.out 0,blk_cell BK130.out 1,blk_cell BK130.out 2,blk_cell BK130.out 3,blk_cell BK130.out 4⟩ (fun hHeld=>?_)
   clear hK K
   refine norm_ (a':=?_) ?_ ?_
   rotate_left
   ·show Act.put _ (some 25) _=_
    simp only [Act.put,sA_,s0_,s1_,i64_w,i32_w]
    rfl
   refine one_ (i:=5) (N:=some 27) #[true,true,true,true,true,true,false,false] rfl rfl (one_of HT_.out (by kernel_rfl)) (by decide) (fun K hK=>?_)
   refine Kd.R_append_rows_step Kd.string (w0:=w) w.heap.size (by rfl) (.tmp 25) (.tmp 26) 41 9 (.string ⟨#[]⟩) 16 rfl Tryd.underlying41 info9 rfl (by decide) (by omega) v142 y141 l2 _ _ _ (fun _=>True) (fun _=>False) rfl rfl ?aO ?aR (fun _ _ h=>h) (fun _ h=>h.elim) ?aF ?aB ?aS ?aL ?_
   (case aR=>repeat (first | exact (Kd.C_below HR2.out HB.out) | (with_reducible refine Kd.C_alloc ?_ _) | (with_reducible refine Kd.C_drewN ?_ _) | (with_reducible refine Kd.C_drew ?_)))
   (case aB=>exact (by repeat (first | (with_reducible first | exact HB.out | apply bA | apply bN | apply bD | refine below_set ?_ GE130.out) | exact HB.out)))
   (case aF=>exact (fun _ _=>trivial))
   (case aO=>exact (by (with_reducible repeat (first | apply Kd.R_alloc | apply Kd.R_drewN | apply Kd.R_drew)); exact HO143.out))
   (case aS=>exact (below_size (by repeat (first | (with_reducible first | exact HB.out | apply bA | apply bN | apply bD | refine below_set ?_ GE130.out) | exact HB.out))))
   (case aL=>have:=LMc24.out; omega)
   intro v145 w30 ho hb hg hat
   rw [← Ny144.out] at ho
   have n0_:=Aside0.mk (blk_grown (g:=gb130) (o := .cells #[.int .u8 a0_0, .int .u8 a0_1, .int .u8 a0_2, .int .u8 a0_3, .int .u8 a0_4] 23 (0,0)) (by (with_reducible repeat (first | refine kN ?_ _ | refine kD ?_ | refine kA ?_ _)); exact BK130.out) hg (Kd.R_ne HO143.out BK130.out (by decide)))
   have n1_:=Aside0.mk (hb)
   have n2_:=Aside0.mk (ho)
   clear BK130
   clear HB
   clear HO143
   have BK130:=n0_
   have HB:=n1_
   have HO146:=n2_
   clear n0_ n1_ n2_
   clear ho hb hg hat
   obtain ⟨Ao31,co31,eo31⟩:=Kd.R_slice HO146.out
   (first | subst eo31 | (injection eo31 with f1_ f2_ f3_; have f4_:=f1_.symm; have f5_:=f3_.symm; clear f1_ f2_ f3_; subst f4_; subst f5_))
   refine hK.out _ _ ⟨blk_cell BK130.out 0,blk_cell BK130.out 1,blk_cell BK130.out 2,blk_cell BK130.out 3,blk_cell BK130.out 4⟩ (fun hHeld=>?_)
   clear hK K
   refine norm_ (a':=?_) ?_ ?_
   rotate_left
   ·show Act.put _ (some 27) _=_
    simp only [Act.put,sA_,s0_,s1_,i64_w,i32_w]
    rfl
   refine one_ (i:=6) (N:=some 28) #[true,true,true,true,true,true,true,false] rfl rfl (one_of HT_.out (by kernel_rfl)) (by decide) (fun K hK=>?_)
   refine goes_ Tryd.func53 (by kernel_rfl) rfl #[.int .u8 a0_0, .slice Ao31 y144.length co31] (by rfl) rfl rfl (by (try simp only [List.map_toArray,List.map_cons,List.map_nil]); first | done | rfl | (simp only [List.length_drop,List.length_take]; rfl)) ?_
   with_reducible refine (delim_Join.calls a0_0 _ _ y144 t147 _ ?side1 ?side2 A25.out).mono ?_
   (case side1=>repeat (first | exact (Kd.R_reads' HO146.out).2.2 | (with_reducible refine Kd.C_alloc ?_ _) | (with_reducible refine Kd.C_drewN ?_ _) | (with_reducible refine Kd.C_drew ?_)))
   (case side2=>exact (Kd.R_reads' HO146.out).2.1)
   rintro e w32 ⟨rfl,hb⟩
   refine ⟨_,rfl,?_⟩
   have n0_:=Aside0.mk (Kd.R_below (by (with_reducible repeat (first | apply Kd.R_alloc | apply Kd.R_drewN | apply Kd.R_drew)); exact HO146.out) hb)
   have n1_:=Aside0.mk (blk_below (g:=gb130) (o := .cells #[.int .u8 a0_0, .int .u8 a0_1, .int .u8 a0_2, .int .u8 a0_3, .int .u8 a0_4] 23 (0,0)) (by (with_reducible repeat (first | refine kN ?_ _ | refine kD ?_ | refine kA ?_ _)); exact BK130.out) hb)
   have n2_:=Aside0.mk (below_step (by repeat (first | (with_reducible first | exact HB.out | apply bA | apply bN | apply bD | refine below_set ?_ GE130.out) | exact HB.out)) hb)
   clear HO146
   clear BK130
   clear HB
   have HO146:=n0_
   have BK130:=n1_
   have HB:=n2_
   clear n0_ n1_ n2_
   (try clear hb)
   (try clear hb2)
   (try clear hk)
   (try clear hi)
   refine hK.out _ _ ⟨blk_cell BK130.out 0,blk_cell BK130.out 1,blk_cell BK130.out 2,blk_cell BK130.out 3,blk_cell BK130.out 4⟩ (fun hHeld=>?_)
   clear hK K
   refine norm_ (a':=?_) ?_ ?_
   rotate_left
   ·show Act.put _ (some 28) _=_
    simp only [Act.put,sA_,s0_,s1_,i64_w,i32_w]
    rfl
   refine pure_ (i:=7) (N:=some 6) (v:=?_) (a':=?_) #[true,true,true,true,true,true,true,true] rfl rfl (any_of HT_.out (by kernel_rfl)) (fun _ _ _ h=>h) (Or.inl ⟨by rfl,?_⟩) ?_ ?_
   rotate_left
   ·intro w'
    go_simp
    with_reducible rfl
   rotate_left
   ·simp only [Act.put,sA_,s0_,s1_,i64_w,i32_w]
    rfl
   refine done_ (done_of HT_.out (by kernel_rfl)) ?_
   try go_wp2
   go_ret
   exact ⟨by first | rfl | (simp [errW_none,errW_some] <;> rfl) | (simp [*,errW_none,errW_some] <;> rfl),by repeat (first | (with_reducible first | exact HB.out | apply bA | apply bN | apply bD | refine below_set ?_ GE130.out) | exact HB.out)⟩
  ·rw [if_neg c24] at H
   exact absurd H (by simp)


/-! ### stringslite_Cut: function 86 -/
def stringslite_Cut.f (a0 : ByteArray) (a1 : ByteArray) : Option (ByteArray × ByteArray × Bool):=(stringslite_Index.f a0 a1).bind fun t148=>(if t148 ≥ 0 then (if 0≤t148 then (if t148≤(a0.size : Int) then (if 0≤(wrap64 (t148 + (a1.size : Int))) then (if (wrap64 (t148 + (a1.size : Int)))≤(a0.size : Int) then (some (a0.extract 0 (t148 : Int).toNat,a0.extract ((wrap64 (t148 + (a1.size : Int))) : Int).toNat a0.size,true)) else (none)) else (none)) else (none)) else (none)) else (some (a0,(⟨#[]⟩ : ByteArray),false)))
theorem stringslite_Cut.calls (a0 : ByteArray) (a1 : ByteArray) (r1 : ByteArray) (r2 : ByteArray) (r3 : Bool) (w : World) (h : stringslite_Cut.f a0 a1=some (r1,r2,r3)) :
  Calls Tryd.prog 86 #[.string a0, .string a1] w fun e w'=>e = .returned (.tuple #[.string r1, .string r2, .bool r3])∧Drawn0 w w':=by
 have H : ((stringslite_Index.f a0 a1).bind fun t148=>(if t148 ≥ 0 then (if 0≤t148 then (if t148≤(a0.size : Int) then (if 0≤(wrap64 (t148 + (a1.size : Int))) then (if (wrap64 (t148 + (a1.size : Int)))≤(a0.size : Int) then (some (a0.extract 0 (t148 : Int).toNat,a0.extract ((wrap64 (t148 + (a1.size : Int))) : Int).toNat a0.size,true)) else (none)) else (none)) else (none)) else (none)) else (some (a0,(⟨#[]⟩ : ByteArray),false))))=some (r1,r2,r3):=h
 clear h
 replace H:=Option.bind_eq_some_iff.mp H
 obtain ⟨t148,A30,H⟩:=H
 replace H : (if t148 ≥ 0 then (if 0≤t148 then (if t148≤(a0.size : Int) then (if 0≤(wrap64 (t148 + (a1.size : Int))) then (if (wrap64 (t148 + (a1.size : Int)))≤(a0.size : Int) then (some (a0.extract 0 (t148 : Int).toNat,a0.extract ((wrap64 (t148 + (a1.size : Int))) : Int).toNat a0.size,true)) else (none)) else (none)) else (none)) else (none)) else (some (a0,(⟨#[]⟩ : ByteArray),false)))=some (r1,r2,r3):=H
 have A3:=Aside0.mk A30
 clear A30
 by_cases c4 : t148 ≥ 0
 ·rw [if_pos c4] at H
  have c4b0:decide (0≤t148)=true:=decide_eq_true c4
  clear c4
  by_cases c5 : 0≤t148
  ·rw [if_pos c5] at H
   have c5b0:=eq_true c5
   have c5b1:decide (0≤t148)=true:=decide_eq_true c5
   clear c5
   by_cases c6 : t148≤(a0.size : Int)
   ·rw [if_pos c6] at H
    have c6b0:=eq_true c6
    have c6b1:decide (t148≤(a0.size : Int))=true:=decide_eq_true c6
    clear c6
    obtain ⟨ji7,hji7⟩ : ∃ j_ : Int,(wrap64 (t148 + (a1.size : Int)))=j_:=⟨_,rfl⟩
    replace H : (if 0≤(ji7) then (if (ji7)≤(a0.size : Int) then (some (a0.extract 0 (t148 : Int).toNat,a0.extract ((ji7) : Int).toNat a0.size,true)) else (none)) else (none))=some (r1,r2,r3):=by first | (rw [hji7] at H; exact H) | (simp only [hji7] at H ⊢; exact H)
    (try rw [hji7] at A3)
    have hji7w : (IntKind.i64.wrap (t148 + (a1.size : Int)))=ji7:=(i64_w _).trans hji7
    by_cases c8 : 0≤(ji7)
    ·rw [if_pos c8] at H
     have c8b0:=eq_true c8
     have c8b1:decide (0≤(ji7))=true:=decide_eq_true c8
     clear c8
     by_cases c9 : (ji7)≤(a0.size : Int)
     ·rw [if_pos c9] at H
      have c9b0:=eq_true c9
      have c9b1:decide ((ji7)≤(a0.size : Int))=true:=decide_eq_true c9
      clear c9
      simp only [Option.some.injEq,Prod.mk.injEq] at H
      obtain ⟨rfl,rfl,rfl⟩:=H
      go_enter Tryd.func86,Tryd.ntmps86
      go_wp2_with (first | (go_at_call 65; (with_reducible refine (stringslite_Index.calls a0 a1 t148 _ A3.out).mono ?_); rintro e w' ⟨rfl,⟨nd,rfl⟩⟩; (try first | exact ⟨rfl,_,World.drewN_drewN _ _ _⟩ | exact ⟨rfl,_,Eq.trans (World.drewN_drewN _ _ _) (congrArg (World.drewN _) (Nat.add_assoc _ _ _))⟩)))
      repeat (go_quiet (first | (go_at_call 65; (with_reducible refine (stringslite_Index.calls a0 a1 t148 _ A3.out).mono ?_); rintro e w' ⟨rfl,⟨nd,rfl⟩⟩; (try first | exact ⟨rfl,_,World.drewN_drewN _ _ _⟩ | exact ⟨rfl,_,Eq.trans (World.drewN_drewN _ _ _) (congrArg (World.drewN _) (Nat.add_assoc _ _ _))⟩))); try go_wp2_with (first | (go_at_call 65; (with_reducible refine (stringslite_Index.calls a0 a1 t148 _ A3.out).mono ?_); rintro e w' ⟨rfl,⟨nd,rfl⟩⟩; (try first | exact ⟨rfl,_,World.drewN_drewN _ _ _⟩ | exact ⟨rfl,_,Eq.trans (World.drewN_drewN _ _ _) (congrArg (World.drewN _) (Nat.add_assoc _ _ _))⟩))))
      go_ret3
      exact ⟨by first | rfl | (simp; done) | (simp only [← hji7] <;> (first | rfl | simp)) | (simp [*]; done),by repeat (first | exact Drawn0.refl _ | apply Drawn0.step)⟩
     ·rw [if_neg c9] at H
      exact absurd H (by simp)
    ·rw [if_neg c8] at H
     exact absurd H (by simp)
   ·rw [if_neg c6] at H
    exact absurd H (by simp)
  ·rw [if_neg c5] at H
   exact absurd H (by simp)
 ·rw [if_neg c4] at H
  have c4b0:decide (0≤t148)=false:=decide_eq_false c4
  clear c4
  simp only [Option.some.injEq,Prod.mk.injEq] at H
  obtain ⟨rfl,rfl,rfl⟩:=H
  go_enter Tryd.func86,Tryd.ntmps86
  go_wp2_with (first | (go_at_call 65; (with_reducible refine (stringslite_Index.calls a0 a1 t148 _ A3.out).mono ?_); rintro e w' ⟨rfl,⟨nd,rfl⟩⟩; (try first | exact ⟨rfl,_,World.drewN_drewN _ _ _⟩ | exact ⟨rfl,_,Eq.trans (World.drewN_drewN _ _ _) (congrArg (World.drewN _) (Nat.add_assoc _ _ _))⟩)))
  repeat (go_quiet (first | (go_at_call 65; (with_reducible refine (stringslite_Index.calls a0 a1 t148 _ A3.out).mono ?_); rintro e w' ⟨rfl,⟨nd,rfl⟩⟩; (try first | exact ⟨rfl,_,World.drewN_drewN _ _ _⟩ | exact ⟨rfl,_,Eq.trans (World.drewN_drewN _ _ _) (congrArg (World.drewN _) (Nat.add_assoc _ _ _))⟩))); try go_wp2_with (first | (go_at_call 65; (with_reducible refine (stringslite_Index.calls a0 a1 t148 _ A3.out).mono ?_); rintro e w' ⟨rfl,⟨nd,rfl⟩⟩; (try first | exact ⟨rfl,_,World.drewN_drewN _ _ _⟩ | exact ⟨rfl,_,Eq.trans (World.drewN_drewN _ _ _) (congrArg (World.drewN _) (Nat.add_assoc _ _ _))⟩))))
  go_ret3
  exact ⟨by first | rfl | (simp; done) | (simp [*]; done),by repeat (first | exact Drawn0.refl _ | apply Drawn0.step)⟩

/-! ### strings_Cut: function 77 -/
def strings_Cut.f (a0 : ByteArray) (a1 : ByteArray) : Option (ByteArray × ByteArray × Bool):=(stringslite_Cut.f a0 a1).bind fun bt149=>(some (bt149.1,bt149.2.1,bt149.2.2))
theorem strings_Cut.calls (a0 : ByteArray) (a1 : ByteArray) (r1 : ByteArray) (r2 : ByteArray) (r3 : Bool) (w : World) (h : strings_Cut.f a0 a1=some (r1,r2,r3)) :
  Calls Tryd.prog 77 #[.string a0, .string a1] w fun e w'=>e = .returned (.tuple #[.string r1, .string r2, .bool r3])∧Drawn0 w w':=by
 have H : ((stringslite_Cut.f a0 a1).bind fun bt149=>(some (bt149.1,bt149.2.1,bt149.2.2)))=some (r1,r2,r3):=h
 clear h
 replace H:=Option.bind_eq_some_iff.mp H
 obtain ⟨⟨t149,t150,t151⟩,A30,H⟩:=H
 replace H : (some (t149,t150,t151))=some (r1,r2,r3):=H
 have A3:=Aside0.mk A30
 clear A30
 simp only [Option.some.injEq,Prod.mk.injEq] at H
 obtain ⟨rfl,rfl,rfl⟩:=H
 go_enter Tryd.func77,Tryd.ntmps77
 go_wp2_with (first | ((with_reducible refine gate_callee (f:=86) rfl ?_); refine goesL_ (some 9) rfl rfl Tryd.func86 (by kernel_rfl) rfl #[.string a0, .string a1] rfl (by (try simp only [List.map_toArray,List.map_cons,List.map_nil]); first | done | rfl | (simp only [List.length_drop,List.length_take]; rfl)) ?_; (with_reducible refine (stringslite_Cut.calls a0 a1 t149 t150 t151 _ A3.out).mono ?_); rintro e w' ⟨rfl,⟨nd,rfl⟩⟩; refine ⟨_,rfl,?_⟩))
 go_ret3
 exact ⟨by first | rfl | (simp; done) | (simp [*]; done),by repeat (first | exact Drawn0.refl _ | apply Drawn0.step)⟩

/-! ### segment_nth: function 75 -/
def segment_nth.f (a0 : ByteArray) (a1 : Int) (a2 : Int) : Option (ByteArray × Int) :=
 if a0.size≤140737488355328 then
  if 0≤a1∧a1≤255 then
   some (strOf (if 1≤a2 then (cutL (UInt8.ofNat a1.toNat) a0.data.toList).getD (a2 - 1).toNat [] else []),((cutL (UInt8.ofNat a1.toNat) a0.data.toList).length : Int))
  else none
 else none
theorem heap_set1 {W : World} {g : Nat} {u : Value} {t : TypeId} (h : W.heap[g]?=some (.cells #[u] t (0,0))) (v : Value) : (W.setCell ⟨g,0,none⟩ v).heap[g]?=some (.cells #[v] t (0,0)):=by
 simp [World.setCell,Array.getElem?_modify,h]
theorem grownBy_set1 (W : World) (g : Nat) (v : Value) : W.grownBy (W.setCell ⟨g,0,none⟩ v) (some g) :=
 ⟨rfl,rfl,rfl,by simp [World.setCell],fun i _ hne=>Below.heap_setCell W _ v i (fun e=>hne (by rw [e]))⟩
/-- What is left to go through, read off the world. -/
def leftIn (b : Nat) (W : World) : Nat:=match W.cell? ⟨b,0,none⟩ with
 | some (.string s)=>s.size
 | _=>0
theorem cut_contract (s : ByteArray) (c : UInt8) (hs : s.size≤140737488355328) : ∃ x rest found,strings_Cut.f s ⟨#[c]⟩=some (x,rest,found)∧(found=true→cutL c s.data.toList=x.data.toList :: cutL c rest.data.toList∧rest.size < s.size)∧(found=false→cutL c s.data.toList=[x.data.toList]):=by
 have h1 : (⟨#[c]⟩ : ByteArray).size=1:=rfl
 have hb:bt ⟨#[c]⟩ 0=(c.toNat : Int):=rfl
 have hi:stringslite_Index.f s ⟨#[c]⟩=some (Lib.indexByte s.data.toList c):=by
  unfold stringslite_Index.f stringslite_IndexByte.f
  rw [if_pos h1,hb]
  simp
 have hl:s.data.toList.length=s.size:=by rw [Array.length_toList]; rfl
 by_cases hc : c ∈ s.data.toList
 ·obtain ⟨a,b,e,ha⟩:=first_hit hc
  have hk:Lib.indexByte s.data.toList c=(a.length : Int):=by rw [e]; exact indexByte_hit ha b
  have hlen:a.length + 1 + b.length=s.size:=by rw [← hl,e]; simp; omega
  have hw:wrap64 ((a.length : Int) + ((⟨#[c]⟩ : ByteArray).size : Int))=(a.length : Int) + 1:=by rw [h1]; unfold wrap64; omega
  refine ⟨s.extract 0 a.length,s.extract (a.length + 1) s.size,true,?_,fun _=>⟨?_,?_⟩,fun h=>by cases h⟩
  ·unfold strings_Cut.f stringslite_Cut.f
   rw [hi,hk]
   simp only [Option.bind_some]
   rw [if_pos (by omega),if_pos (by omega),if_pos (by omega),hw,if_pos (by omega),if_pos (by omega)]
   have e1 : ((a.length : Int) + 1).toNat=a.length + 1:=by omega
   simp [e1]
  ·rw [Lib.extract_data,Lib.extract_data,e,cutL_append_hit ha]
   have e1:List.drop (a.length + 1) (a ++ c :: b)=b:=by
    rw [show a ++ c :: b=(a ++ [c]) ++ b by simp]
    exact List.drop_left' (by simp)
   simp only [List.drop_zero,Nat.sub_zero,List.take_left',e1]
   rw [List.take_of_length_le (by omega)]
  ·rw [ByteArray.size_extract]; omega
 ·refine ⟨s,⟨#[]⟩,false,?_,(fun h=>by cases h),fun _=>cutL_clean hc⟩
  unfold strings_Cut.f stringslite_Cut.f
  rw [hi,indexByte_miss hc]
  rfl
section
attribute [local go_sem] Oper.semAt_some alloc_dN setCell_dN shape_dN
theorem between_in (l Bs Bc : Nat) (c : UInt8) (J : List ByteArray→World→Prop) (xs0 : ByteArray) (hsz : xs0.size≤140737488355328)
  (hJ : ∀ pre W W',J pre W→W.grownBy W' (some Bs)→J pre W')
  (hY : ∀ pre x W,(∃ t,(pre ++ [x]).map (·.data.toList) ++ t=cutL c xs0.data.toList)→J pre W→YieldAt Fence.wide 0 Tryd.prog l #[.string x] W fun e W'=>e = .returned (.bool true)∧J (pre ++ [x]) W'∧W'.heap[Bs]?=W.heap[Bs]?∧W'.heap[Bc]?=W.heap[Bc]?)
  (W : World) (hs : W.heap[Bs]?=some (.cells #[.string xs0] 9 (0,0))) (hc : W.heap[Bc]?=some (.cells #[.int .u8 c.toNat] 5 (0,0))) (hne : Bs ≠ Bc) (h0 : J [] W) :
  CallsIn Fence.wide 1 Tryd.prog 76 #[.func (.yield l) #[] #[], .pointer (some ⟨Bs,0,none⟩), .pointer (some ⟨Bc,0,none⟩)] W fun e W'=>(∃ v,e = .returned v)∧∃ ys,ys.map (·.data.toList)=cutL c xs0.data.toList∧J ys W':=by
 refine callsIn_of_wp Tryd.func76 rfl trivial ?_ rfl
 simp only [Tryd.ntmps76,List.size_toArray,List.length_cons,List.length_nil,Nat.reduceAdd,Nat.reduceSub,Array.replicate_succ,Array.replicate_zero,List.push_toArray,List.append_toArray,List.nil_append,List.cons_append]
 gi_wp2
 gi_loopw [4] (fun p wr => ∃ (pre : List ByteArray) (rest : ByteArray),pre.map (·.data.toList) ++ cutL c rest.data.toList=cutL c xs0.data.toList∧rest.size≤140737488355328∧wr.heap[Bs]?=some (.cells #[.string rest] 9 (0,0))∧wr.heap[Bc]?=some (.cells #[.int .u8 c.toNat] 5 (0,0))∧J pre wr)
  (fun p wr=>leftIn Bs wr)
 case atStart =>
  exact ⟨[],xs0,rfl,hsz,hs,hc,h0⟩
 case round =>
  obtain ⟨pre,rest,hcut,hrs,hs1,hc1,hJs⟩:=hrel
  obtain ⟨x,rest2,found,hf,hyes,hno⟩:=cut_contract rest c hrs
  have hok : ∃ t,(pre ++ [x]).map (·.data.toList) ++ t=cutL c xs0.data.toList:=by
   cases found with
   | true=>exact ⟨cutL c rest2.data.toList,by rw [← hcut,(hyes rfl).1]; simp⟩
   | false=>exact ⟨[],by rw [← hcut,hno rfl]; simp⟩
  have HOK:=Lib.hid hok
  clear hok
  have HF:=Lib.hid hf
  have HY:=Lib.hid hyes
  have HN:=Lib.hid hno
  have HC:=Lib.hid hcut
  have HS:=Lib.hid hs1
  have HC1:=Lib.hid hc1
  have HJ:=Lib.hid hJs
  have k1:=cell_of_cells hs1 0
  have k2:=cell_of_cells hc1 0
  have f1:=frozen_of_cells hs1 0
  clear hf hyes hno hcut hs1 hc1 hJs hs hc h0
  have hst:strOfNums [(c.toNat : Int)]=⟨#[c]⟩:=by simp [strOfNums]
  have hconv : ∀ cap,(convert 26 9 (.slice (some ⟨wr.heap.size,0,none⟩) 1 cap)).run Tryd.prog (wr.alloc (.cells #[.int .u8 c.toNat] 5)) = .ok (.string ⟨#[c]⟩) (wr.alloc (.cells #[.int .u8 c.toNat] 5)):=fun cap=>by
   rw [← hst]
   exact Kd.C_string (P:=Tryd.prog) Tryd.underlying26 Tryd.underlying5 Tryd.underlying9 (C_block (xs:=[(c.toNat : Int)]) (by simp) (heap_new wr _))
  clear hst
  gi_wp2_with (first | (refine ⟨trivial,?_⟩; gi_at_call 77; refine (callsIn_wide.2 (strings_Cut.calls _ _ _ _ _ _ HF.out)).mono ?_; rintro e w' ⟨rfl,⟨nd,rfl⟩⟩) | (refine ⟨trivial,?_⟩; fail))
  have hg:wr.grownBy ((wr.alloc (.cells #[.int .u8 c.toNat] 5)).drewN nd) (some Bs):=by
   have h1:=World.grownBy_alloc wr (.cells #[.int .u8 c.toNat] 5) (some Bs)
   exact ⟨h1.os,h1.tape,h1.output,h1.size,h1.block⟩
  have hB2 : (((wr.alloc (.cells #[.int .u8 c.toNat] 5)).drewN nd)).heap[Bs]?=some (.cells #[.string rest] 9 (0,0)):=heap_old _ HS.out
  have hC2 : (((wr.alloc (.cells #[.int .u8 c.toNat] 5)).drewN nd)).heap[Bc]?=some (.cells #[.int .u8 c.toNat] 5 (0,0)):=heap_old _ HC1.out
  obtain ⟨fn,tmps,assign,body,hy,hR⟩:=hY pre x _ HOK.out (hJ pre wr _ HJ.out hg)
  have HB2:=Lib.hid hB2
  have HC2:=Lib.hid hC2
  clear hB2 hC2 hg hconv
  rw [hy,Oper.uponIn_round]
  refine ⟨fun _=>Nat.le_refl _,hR.mono ?_⟩
  rintro e W' ⟨rfl,hJ',hb1,hb2⟩
  have hs3:=hb1.trans HB2.out
  have hc3:=hb2.trans HC2.out
  have HS3:=Lib.hid hs3
  have HC3:=Lib.hid hc3
  have HJ3:=Lib.hid hJ'
  have k3:=cell_of_cells hs3 0
  have f3:=frozen_of_cells hs3 0
  clear hs3 hc3 hJ' hb1 hb2 hR hy k1 k2 f1
  cases found with
  | true =>
   gi_wp2
   refine ⟨⟨pre ++ [x],rest2,?_,Nat.le_trans (Nat.le_of_lt (HY.out trivial).2) hrs,heap_set1 HS3.out _,(Below.heap_setCell W' ⟨Bs,0,none⟩ _ Bc (fun e=>hne e.symm)).trans HC3.out,hJ _ W' _ HJ3.out (grownBy_set1 W' Bs _)⟩,?_⟩
   ·rw [← HC.out,(HY.out trivial).1]
    simp
   ·have e1:=cell_of_cells (heap_set1 HS3.out (.string rest2)) 0
    have e2:=cell_of_cells HS.out 0
    unfold leftIn
    rw [e1,e2]
    exact (HY.out trivial).2
  | false =>
   gi_wp2
   refine bodyPost_ret (results_none rfl _ _ _) rfl ?_
   refine ⟨⟨_,rfl⟩,pre ++ [x],?_,HJ3.out⟩
   rw [← HC.out,HN.out trivial]
   simp
end
def foundOf (n : Int) (pre : List ByteArray) : ByteArray:=if 1≤n∧n≤(pre.length : Int) then pre.getD (n - 1).toNat ⟨#[]⟩ else ⟨#[]⟩
theorem foundOf_hit {n : Int} {pre : List ByteArray} (x : ByteArray) (h : n=(pre.length : Int) + 1) : foundOf n (pre ++ [x])=x:=by
 subst h
 have e : ((pre.length : Int) + 1 - 1).toNat=pre.length:=by omega
 unfold foundOf
 rw [if_pos ⟨by omega,by simp⟩,e]
 simp
theorem foundOf_miss {n : Int} {pre : List ByteArray} (x : ByteArray) (h : n ≠ (pre.length : Int) + 1) : foundOf n (pre ++ [x])=foundOf n pre:=by
 unfold foundOf
 by_cases h1 : 1≤n∧n≤(pre.length : Int)
 ·rw [if_pos h1,if_pos ⟨h1.1,by simp; omega⟩,List.getD_eq_getElem?_getD,List.getD_eq_getElem?_getD,List.getElem?_append_left (by omega)]
 ·rw [if_neg h1,if_neg (by simp; omega)]
section
attribute [local go_sem] Oper.semAt_some alloc_dN setCell_dN shape_dN
theorem between_calls (a0 : ByteArray) (c : Int) (w : World) : Calls Tryd.prog 63 #[.string a0, .int .u8 c] w fun e w'=>e = .returned (.func (.func 76) #[] #[.pointer (some ⟨w.heap.size,0,none⟩), .pointer (some ⟨w.heap.size + 1,0,none⟩)])∧(w.alloc (.cells #[.string a0] 9)).alloc (.cells #[.int .u8 c] 5)=w':=by
 go_enter Tryd.func63,Tryd.ntmps63
 go_wp2
 go_ret
 exact ⟨rfl,rfl⟩
theorem nth_in (a0 : ByteArray) (c : UInt8) (a2 : Int) (w : World) (hs : a0.size≤140737488355328) :
  CallsIn Fence.wide 2 Tryd.prog 75 #[.string a0, .int .u8 c.toNat, .int .i64 a2] w fun e w'=>(∃ ys : List ByteArray,ys.map (·.data.toList)=cutL c a0.data.toList∧e = .returned (.tuple #[.string (foundOf a2 ys), .int .i64 ys.length]))∧Below w.heap.size w w':=by
 refine callsIn_of_wp_marks Tryd.func75 rfl trivial ?_ rfl
 simp only [Tryd.ntmps75,List.size_toArray,List.length_cons,List.length_nil,Nat.reduceAdd,Nat.reduceSub,Array.replicate_succ,Array.replicate_zero,List.push_toArray,List.append_toArray,List.nil_append,List.cons_append]
 gi_wp2_with (refine ⟨trivial,?_⟩; gi_at_call 63; refine (callsIn_wide.2 (between_calls _ _ _)).mono ?_; rintro e w' ⟨rfl,rfl⟩)
 refine at_worldIn (fun W=>W.heap[w.heap.size]?=some (.cells #[.int .i64 a2] 3 (0,0))∧W.heap[w.heap.size + 1]?=some (.cells #[.string ⟨#[]⟩] 9 (0,0))∧W.heap[w.heap.size + 1 + 1]?=some (.cells #[.int .i64 0] 3 (0,0)) ∧
   W.heap[w.heap.size + 1 + 1 + 1]?=some (.cells #[.string a0] 9 (0,0))∧W.heap[w.heap.size + 1 + 1 + 1 + 1]?=some (.cells #[.int .u8 c.toNat] 5 (0,0))∧Below w.heap.size w W∧W.heap.size=w.heap.size + 5) ?_ ?_
 ·have n1:=heap_new w (.cells #[.int .i64 a2] 3)
  have n2:=heap_new (w.alloc (.cells #[.int .i64 a2] 3)) (.cells #[.string ⟨#[]⟩] 9)
  have n3:=heap_new ((w.alloc (.cells #[.int .i64 a2] 3)).alloc (.cells #[.string ⟨#[]⟩] 9)) (.cells #[.int .i64 0] 3)
  have n4:=heap_new (((w.alloc (.cells #[.int .i64 a2] 3)).alloc (.cells #[.string ⟨#[]⟩] 9)).alloc (.cells #[.int .i64 0] 3)) (.cells #[.string a0] 9)
  have n5:=heap_new ((((w.alloc (.cells #[.int .i64 a2] 3)).alloc (.cells #[.string ⟨#[]⟩] 9)).alloc (.cells #[.int .i64 0] 3)).alloc (.cells #[.string a0] 9)) (.cells #[.int .u8 c.toNat] 5)
  simp only [World.size_alloc] at n2 n3 n4 n5
  exact ⟨heap_old _ (heap_old _ (heap_old _ (heap_old _ n1))),heap_old _ (heap_old _ (heap_old _ n2)),heap_old _ (heap_old _ n3),heap_old _ n4,n5,
   (((((Below.refl _ w).alloc (Nat.le_refl _) _).alloc (by simp) _).alloc (by simp; omega) _).alloc (by simp; omega) _).alloc (by simp; omega) _,by simp⟩
 rintro W ⟨g0,g1,g2,gs,gc,gB,gz⟩
 refine range_all (Bs:=w.heap.size + 1 + 1 + 1) (Bc:=w.heap.size + 1 + 1 + 1 + 1) (gf:=76) (lb:=#[.pointer (some ⟨w.heap.size + 1 + 1 + 1,0,none⟩), .pointer (some ⟨w.heap.size + 1 + 1 + 1 + 1,0,none⟩)]) rfl (enters_of Tryd.func76 (by kernel_rfl) rfl) Value.string rfl (by omega) (by omega)
  (fun ys=>ys.map (·.data.toList)=cutL c a0.data.toList) (fun p => ∃ t,p.map (·.data.toList) ++ t=cutL c a0.data.toList)
  (fun pre W=>W.heap[w.heap.size]?=some (.cells #[.int .i64 a2] 3 (0,0))∧W.heap[w.heap.size + 1]?=some (.cells #[.string (foundOf a2 pre)] 9 (0,0))∧W.heap[w.heap.size + 1 + 1]?=some (.cells #[.int .i64 (pre.length : Int)] 3 (0,0))∧Below w.heap.size w W∧w.heap.size + 5≤W.heap.size)
  ?steady ?start ?iter (fun x=>{ tmps:=#[.string a0, .int .u8 c.toNat, .int .i64 a2,undef,undef, .pointer (some ⟨w.heap.size,0,none⟩), .string ⟨#[]⟩, .int .i64 0, .pointer (some ⟨w.heap.size + 1,0,none⟩), .pointer (some ⟨w.heap.size + 1 + 1,0,none⟩), .string x, .string a0, .int .u8 c.toNat,
   .func (.func 76) #[] #[.pointer (some ⟨w.heap.size + 1 + 1 + 1,0,none⟩), .pointer (some ⟨w.heap.size + 1 + 1 + 1 + 1,0,none⟩)], .string x,undef,undef,undef,undef,undef,undef,undef,undef],defers:=[] }) ?assign ?body ?done
 case steady =>
  rintro pre V V' row ⟨h0,h1,h2,hB,hz⟩ hg hr
  have same : ∀ k cs t,k < w.heap.size + 1 + 1 + 1→V.heap[k]?=some (.cells cs t (0,0))→V'.heap[k]?=some (.cells cs t (0,0)):=fun k cs t hk h =>
   (hg.block k (Array.getElem?_eq_some_iff.1 h).1 (fun e=>by
    rcases hr k e.symm with rfl | ⟨_,o,ho,hc⟩
    ·omega
    ·rw [h] at ho; cases ho; cases hc)).trans h
  exact ⟨same _ _ _ (by omega) h0,same _ _ _ (by omega) h1,same _ _ _ (by omega) h2,hB.grown hg (by omega) (fun k e=>by
   rcases hr k e with rfl | ⟨hk,_⟩ <;> omega),Nat.le_trans hz hg.size⟩
 case start =>
  have e:foundOf a2 []=⟨#[]⟩:=if_neg (by simp; omega)
  exact ⟨g0,by rw [e]; exact g1,g2,gB,by omega⟩
 case iter =>
  intro l J V e1 e2 hJ hY h0
  exact between_in l _ _ c J a0 hs hJ hY V (e1.trans gs) (e2.trans gc) (by omega) h0
 case assign =>
  intro l x V K hK
  gi_wp2
  exact hK
 case body =>
  rintro l pre x V ⟨t,ht⟩ ⟨h0,h1,h2,hB,hz⟩
  have hlen:pre.length + 1≤140737488355329:=by
   have h1:=congrArg List.length ht
   have h2:=cutL_length c a0.data.toList
   have h3:=List.count_le_length (a:=c) (l:=a0.data.toList)
   have h4:a0.data.toList.length=a0.size:=by rw [Array.length_toList]; rfl
   simp only [List.length_append,List.length_map,List.length_cons,List.length_nil] at h1
   omega
  have k0:=cell_of_cells h0 0
  have k1:=cell_of_cells h1 0
  have k2:=cell_of_cells h2 0
  have f1:=frozen_of_cells h1 0
  have f2:=frozen_of_cells h2 0
  have H0:=Lib.hid h0
  have H1:=Lib.hid h1
  have H2:=Lib.hid h2
  have HB:=Lib.hid hB
  clear ht h0 h1 h2 hB g0 g1 g2 gs gc gB
  by_cases hn : a2=(pre.length : Int) + 1
  ·gi_wp2
   refine ⟨(KeepsOthers.setCell _ _ _).trans (KeepsOthers.setCell _ _ _),?_,?_,?_,?_,?_,?_,?_⟩
   ·exact (Below.heap_setCell _ _ _ _ (by simp; omega)).trans (Below.heap_setCell _ _ _ _ (by simp))
   ·exact (Below.heap_setCell _ _ _ _ (by simp; omega)).trans (Below.heap_setCell _ _ _ _ (by simp; omega))
   ·exact ((Below.heap_setCell _ _ _ _ (by simp)).trans (Below.heap_setCell _ _ _ _ (by simp; omega))).trans H0.out
   ·rw [foundOf_hit x hn]
    exact heap_set1 ((Below.heap_setCell _ _ _ _ (by simp)).trans H1.out) _
   ·refine (Below.heap_setCell _ _ _ _ (by simp)).trans ((heap_set1 H2.out _).trans ?_)
    simp
   ·exact (HB.out.setCell (p:=⟨w.heap.size + 1 + 1,0,none⟩) (by simp; omega) _).setCell (p:=⟨w.heap.size + 1,0,none⟩) (by simp) _
   ·simpa [World.setCell] using hz
  ·gi_wp2
   refine ⟨KeepsOthers.setCell _ _ _,?_,?_,?_,?_,?_,?_,?_⟩
   ·exact Below.heap_setCell _ _ _ _ (by simp)
   ·exact Below.heap_setCell _ _ _ _ (by simp; omega)
   ·exact (Below.heap_setCell _ _ _ _ (by simp; omega)).trans H0.out
   ·rw [foundOf_miss x hn]
    exact (Below.heap_setCell _ _ _ _ (by simp)).trans H1.out
   ·refine (heap_set1 H2.out _).trans ?_
    simp
   ·exact HB.out.setCell (p:=⟨w.heap.size + 1 + 1,0,none⟩) (by simp; omega) _
   ·simpa [World.setCell] using hz
 case done =>
  rintro D ys V hS ⟨h0,h1,h2,hB,hz⟩ hD hK
  have k1:=cell_of_cells h1 0
  have k2:=cell_of_cells h2 0
  have HB:=Lib.hid hB
  have HK:=Lib.hid hK
  clear h0 h1 h2 hB hK g0 g1 g2 gs gc gB
  gi_wp2
  gi_region
  all_goals gi_wp2
  all_goals
   refine ⟨by simp, .inl ⟨_,_,rfl,run_takeDeferred (w:=V.drew) HK.out,?_⟩⟩
   refine ⟨_,results_tmp2 rfl _ _ _,⟨ys,hS,rfl⟩,?_⟩
   exact (HB.out.drew).grown (grownBy_putObj' _ D _) (by show w.heap.size≤V.heap.size; omega) (fun k e=>by cases e; omega)
end
theorem segment_nth.calls (a0 : ByteArray) (a1 : Int) (a2 : Int) (r1 : ByteArray) (r2 : Int) (w : World) (h : segment_nth.f a0 a1 a2=some (r1,r2)) :
  Calls Tryd.prog 75 #[.string a0, .int .u8 a1, .int .i64 a2] w fun e w'=>e = .returned (.tuple #[.string r1, .int .i64 r2])∧Below w.heap.size w w':=by
 unfold segment_nth.f at h
 by_cases hs : a0.size≤140737488355328
 ·rw [if_pos hs] at h
  by_cases hb : 0≤a1∧a1≤255
  ·rw [if_pos hb] at h
   simp only [Option.some.injEq,Prod.mk.injEq] at h
   obtain ⟨rfl,rfl⟩:=h
   obtain ⟨c,rfl⟩ : ∃ c : UInt8,a1=(c.toNat : Int):=⟨UInt8.ofNat a1.toNat,by simp; omega⟩
   refine (callsIn_wide.1 (nth_in a0 c a2 w hs)).mono ?_
   rintro e w' ⟨⟨ys,hys,rfl⟩,hB⟩
   have ec:UInt8.ofNat (c.toNat : Int).toNat=c:=by simp
   rw [ec,← hys]
   refine ⟨?_,hB⟩
   have e1:foundOf a2 ys=strOf (if 1≤a2 then (ys.map (·.data.toList)).getD (a2 - 1).toNat [] else []):=by
    unfold foundOf strOf
    by_cases h1 : 1≤a2
    ·by_cases h2 : a2≤(ys.length : Int)
     ·have hl : (a2 - 1).toNat < ys.length:=by omega
      rw [if_pos ⟨h1,h2⟩,if_pos h1,List.getD_eq_getElem?_getD,List.getD_eq_getElem?_getD,List.getElem?_map,List.getElem?_eq_getElem hl]
      simp
     ·have hl:ys.length≤(a2 - 1).toNat:=by omega
      rw [if_neg (by omega),if_pos h1,List.getD_eq_getElem?_getD,List.getElem?_map,List.getElem?_eq_none hl]
      simp
    ·rw [if_neg (by omega),if_neg h1]
   rw [e1,List.length_map]
  ·rw [if_neg hb] at h
   cases h
 ·rw [if_neg hs] at h
  cases h


end Go.Proofs.YtmjdnkiohdkfpaaDoor.PF
