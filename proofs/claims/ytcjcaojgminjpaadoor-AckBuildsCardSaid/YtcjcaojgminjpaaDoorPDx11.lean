import Derived.Test.YtcjcaojgminjpaaDoorPDx0
namespace Go.Proofs.YtcjcaojgminjpaaDoor.PD
open Go.RowKit Go.Proofs.YtcjcaojgminjpaaDoorW.PrintWords Go.Proofs.YtcjcaojgminjpaaDoorW.PrintLast Go.Proofs.YtcjcaojgminjpaaDoorW.PrintMore
set_option maxHeartbeats 8000000
set_option maxRecDepth 100000
attribute [local go_sem] max2_int min2_int max_two min_two max_three min_three max_four min_four
set_option linter.unusedVariables false
set_option linter.unusedSimpArgs false

/-! ### lamplighterref06_Cut: function 60 -/
def lamplighterref06_Cut.l0 : Nat→ByteArray→Int→List ByteArray→Int→Option (List ByteArray)
 | 0,_,_,_,_=>none
 | k + 1,x0,x1,x5,x6=>if x6 < (x0.size : Int) then (if 0≤x6 then (if (bt x0 x6)=x1 then (if x5.length < 8796093022208 then (lamplighterref06_Cut.l0 k x0 x1 (x5 ++ [(⟨#[]⟩ : ByteArray)]) (wrap64 (x6 + 1))) else (none)) else (if 0≤(wrap64 ((x5.length : Int) - 1)) then (if (wrap64 ((x5.length : Int) - 1)) < (x5.length : Int) then (if x6≤(wrap64 (x6 + 1)) then (if (wrap64 (x6 + 1))≤(x0.size : Int) then (if (rdOf ByteArray.empty x5 (wrap64 ((x5.length : Int) - 1))).size + (x0.extract (x6 : Int).toNat ((wrap64 (x6 + 1)) : Int).toNat).size≤9223372036854775807 then (lamplighterref06_Cut.l0 k x0 x1 (x5.set ((wrap64 ((x5.length : Int) - 1)) : Int).toNat ((rdOf ByteArray.empty x5 (wrap64 ((x5.length : Int) - 1))) ++ (x0.extract (x6 : Int).toNat ((wrap64 (x6 + 1)) : Int).toNat))) (wrap64 (x6 + 1))) else (none)) else (none)) else (none)) else (none)) else (none))) else (none)) else (some x5)
def lamplighterref06_Cut.f (k : Nat) (a0 : ByteArray) (a1 : Int) : Option (List ByteArray):=lamplighterref06_Cut.l0 k a0 a1 (([(⟨#[]⟩ : ByteArray)] : List ByteArray)) 0
theorem lamplighterref06_Cut.mono_l : ∀ k,(∀ y0 y1 y2 y3,LeO (lamplighterref06_Cut.l0 k y0 y1 y2 y3) (lamplighterref06_Cut.l0 (k + 1) y0 y1 y2 y3))
 | 0=>fun _ _ _ _ r h=>by simp [lamplighterref06_Cut.l0] at h
 | k + 1=>by
  have ih0:=lamplighterref06_Cut.mono_l k
  ·intro y0 y1 y2 y3
   unfold lamplighterref06_Cut.l0
   repeat' first
   | (with_reducible exact ih0 _ _ _ _)
   | (with_reducible exact LeO.refl _)
   | (with_reducible exact LeO.none _)
   | (with_reducible refine LeO.ite ?_ ?_)
   | (with_reducible refine LeO.bind ?_ (fun _=>?_))
   | exact ih0 _ _ _ _
   | exact LeO.none _
   | refine LeO.ite ?_ ?_
   | refine LeO.bind ?_ (fun _=>?_)
theorem lamplighterref06_Cut.mono : ∀ a0 a1 k,LeO (lamplighterref06_Cut.f k a0 a1) (lamplighterref06_Cut.f (k + 1) a0 a1):=by
 intro a0 a1 k
 have ih0:=lamplighterref06_Cut.mono_l k
 unfold lamplighterref06_Cut.f
 repeat' first
   | (with_reducible exact ih0 _ _ _ _)
   | (with_reducible exact LeO.refl _)
   | (with_reducible exact LeO.none _)
   | (with_reducible refine LeO.ite ?_ ?_)
   | (with_reducible refine LeO.bind ?_ (fun _=>?_))
   | exact ih0 _ _ _ _
   | exact LeO.none _
   | refine LeO.ite ?_ ?_
   | refine LeO.bind ?_ (fun _=>?_)
def lamplighterref06_Cut.T7 : Bool × List (List Nat × List Nat):=(true,[([],[]),([],[]),([1],[1]),([2],[2]),([],[]),([],[]),([5],[5]),([6],[6]),([4,7],[4,7]),([8],[8]),([],[]),([],[]),([],[]),([12],[12]),([10,11,13],[10,11,13]),([9,14],[9,14]),([0,3,0,1,2,3,4,5,6,7,8,9,10,11,12,13,14,15],[0,3]),([16,15,0,1,2,3,4,5,6,7,8,9,10,11,12,13,14,15],[15,16])])
def lamplighterref06_Cut.B7 : List Nat:=[0,0,2,6,0,0,32,96,240,496,0,0,0,4096,15360,32752,65535,131071]
theorem lamplighterref06_Cut.tab7 : rtab .any (opsOf Tryd.f60 7)=lamplighterref06_Cut.T7:=by kernel_rfl
theorem lamplighterref06_Cut.bits7 : waitsOk lamplighterref06_Cut.T7.2 lamplighterref06_Cut.B7=true:=by kernel_rfl
theorem lamplighterref06_Cut.calls (k : Nat) (a0 : ByteArray) (a1 : Int) (r : List ByteArray) (w : World) (h : lamplighterref06_Cut.f k a0 a1=some r) :
  Calls Tryd.prog 60 #[.string a0, .int .u8 a1] w fun e w' => ∃ v0_ : Value,e = .returned (v0_)∧Kd.R Kd.string 9 w' w.heap.size (fun _=>True) v0_ r∧Below w.heap.size w w':=by
 have HB:=Aside0.mk (Below.refl w.heap.size w)
 have H : (lamplighterref06_Cut.l0 k a0 a1 (([(⟨#[]⟩ : ByteArray)] : List ByteArray)) 0)=some r:=h
 clear h
 obtain ⟨y215,hy215⟩ : ∃ y_ : List ByteArray,y_=(([(⟨#[]⟩ : ByteArray)] : List ByteArray)):=⟨_,rfl⟩
 replace H : (lamplighterref06_Cut.l0 k a0 a1 y215 0)=some r:=by first | (rw [hy215]; with_reducible exact H) | (have H2_:=(Option.bind_some _ _).symm.trans H; rw [hy215]; with_reducible exact H2_) | (have H2_:=(Option.bind_some _ _).symm.trans H; with_reducible exact H2_) | with_reducible exact H | (rw [hy215]; exact H) | exact H
 have Ny215:=Aside0.mk hy215
 clear hy215
 have H':=Aside0.mk H
 clear H
 go_enter Tryd.func60,Tryd.ntmps60
 go_wp2_with (first | ((with_reducible refine gate_dst (N:=7) rfl ?_); refine Kd.R_lit Kd.string _ 9 ?hg (N:=7) ?hd (xs:=([(⟨#[]⟩ : ByteArray)] : List ByteArray)) (inner:=[.string (⟨#[]⟩ : ByteArray)]) (ok:=fun _=>True) (okp:=fun _=>True) ?hr ?hp (fun _ hk=>hk) trivial (Below.refl _ _) (Nat.le_refl _) (by simp) ?_; (case hd=>rfl); (case hg=>rfl); (case hr=>first | (go_simp; done) | (go_simp; rfl)); (case hp=>exact (Reps.one (show Kd.M Kd.string _ _ _ (⟨#[]⟩ : ByteArray) [.string (⟨#[]⟩ : ByteArray)] from rfl) (Reps.none _ _))); intro v216 w3 ho4 hb hg_ hnew_; clear hg_ hnew_; (first | rw [← Ny215.out] at ho4 | (simp only [Int.reduceToNat] at ho4; rw [← Ny215.out] at ho4)); have n0_:=Aside0.mk (Kd.R_lower ho4 (below_size (by repeat (first | (with_reducible first | exact HB.out | apply bA | apply bN | apply bD) | exact HB.out)))); have n1_:=Aside0.mk (below_step (by repeat (first | (with_reducible first | exact HB.out | apply bA | apply bN | apply bD) | exact HB.out)) hb); clear HB; have HO217:=n0_; have HB:=n1_; clear n0_ n1_; clear hb ho4))
 go_loopg [5,6] k (fun kq v5 v6 w' => ∃ (x5_1 : List ByteArray) (x6_1 : Int),v6 = .int .i64 x6_1∧Aside0 (lamplighterref06_Cut.l0 kq a0 a1 x5_1 x6_1=some r)∧Aside0 (kq≤k)∧Aside0 (Kd.R Kd.string 9 w' w.heap.size (fun _=>True) v5 x5_1)∧Aside0 (Below w.heap.size w w'))
 case atStart=>exact ⟨(y215),(0),(by first | rfl | (simp; done) | (simp [*]; done)),H',⟨Nat.le_refl _⟩,⟨by (with_reducible repeat (first | apply Kd.R_alloc | apply Kd.R_drewN | apply Kd.R_drew)); exact HO217.out⟩,⟨by repeat (first | (with_reducible first | exact HB.out | apply bA | apply bN | apply bD) | exact HB.out)⟩⟩
 case round =>
  clear H'
  try clear p2
  obtain ⟨x5_1,x6_1,rfl,HA,HK1,HO_5,HB⟩:=hrel
  cases gk with
  | zero=>exact absurd HA.out (by simp [lamplighterref06_Cut.l0])
  | succ k1 =>
   have H:=HA.out
   clear HA
   simp only [lamplighterref06_Cut.l0] at H
   by_cases c5 : x6_1 < (a0.size : Int)
   ·rw [if_pos c5] at H
    have c5b0:decide (x6_1 < (a0.size : Int))=true:=decide_eq_true c5
    clear c5
    by_cases c6 : 0≤x6_1
    ·rw [if_pos c6] at H
     have c6b0:decide (0≤x6_1)=true:=decide_eq_true c6
     clear c6
     by_cases c8 : (bt a0 x6_1)=a1
     ·rw [if_pos c8] at H
      have c8b0 : ((bt a0 x6_1) == a1)=true:=beq_iff_eq.mpr c8
      have c8b1 : ((bt a0 x6_1) != a1)=false:=bne_eq_false_iff_eq.mpr c8
      clear c8
      by_cases c9 : x5_1.length < 8796093022208
      ·rw [if_pos c9] at H
       have LMc9:=Aside0.mk c9
       clear c9
       obtain ⟨y218,hy218⟩ : ∃ y_ : List ByteArray,y_=(x5_1 ++ [(⟨#[]⟩ : ByteArray)]):=⟨_,rfl⟩
       replace H : (lamplighterref06_Cut.l0 k1 a0 a1 y218 (wrap64 (x6_1 + 1)))=some r:=by first | (rw [hy218]; with_reducible exact H) | (have H2_:=(Option.bind_some _ _).symm.trans H; rw [hy218]; with_reducible exact H2_) | (have H2_:=(Option.bind_some _ _).symm.trans H; with_reducible exact H2_) | with_reducible exact H | (rw [hy218]; exact H) | exact H
       have Ny218:=Aside0.mk hy218
       clear hy218
       have H':=Aside0.mk H
       clear H
       have p7:0≤(x6_1 : Int):=of_decide_eq_true (by first | (with_reducible assumption) | assumption)
       have q7:x6_1 < (a0.size : Int):=of_decide_eq_true (by first | (with_reducible assumption) | assumption)
       have hx7:=bt_at a0 x6_1
       replace p7:=eq_true p7
       replace q7:=eq_true q7
       go_wp2_with (first | ((with_reducible refine gate_builtin (b := .append) (xs:=#[.tmp 19, .tmp 20]) rfl ?_); at_builtin; refine Kd.R_append Kd.string (w0:=w) w.heap.size rfl (.tmp 19) (.tmp 20) 34 9 (.string ⟨#[]⟩) 16 rfl Tryd.underlying34 info9 rfl (by decide) (by omega) u5 x5_1 (⟨#[]⟩ : ByteArray) [.string (⟨#[]⟩ : ByteArray)] (fun _=>True) (fun _=>False) rfl rfl ?aP (fun _ hk=>hk.elim) ?aF ?aO ?aB ?aS ?aL ?_; (case aP=>exact rfl); (case aB=>exact (by repeat (first | (with_reducible first | exact HB.out | apply bA | apply bN | apply bD) | exact HB.out))); (case aF=>exact (fun _ _=>trivial)); (case aO=>exact (by (with_reducible repeat (first | apply Kd.R_alloc | apply Kd.R_drewN | apply Kd.R_drew)); exact HO_5.out)); (case aS=>exact (below_size (by repeat (first | (with_reducible first | exact HB.out | apply bA | apply bN | apply bD) | exact HB.out)))); (case aL=>have:=LMc9.out; omega); intro v219 w10 ho hb hg hat; rw [← Ny218.out] at ho; have n0_:=Aside0.mk (hb); have n1_:=Aside0.mk (ho); clear HB; clear HO_5; have HB:=n0_; have HO220:=n1_; clear n0_ n1_; clear ho hb hg hat))
       go_roundg k1
       case measure=>have:=HK1.out; omega
       case rel=>exact ⟨(y218),(wrap64 (x6_1 + 1)),(by first | rfl | (simp; done) | (simp [*]; done)),H',⟨by have:=HK1.out; omega⟩,⟨by (with_reducible repeat (first | apply Kd.R_alloc | apply Kd.R_drewN | apply Kd.R_drew)); exact HO220.out⟩,⟨by repeat (first | (with_reducible first | exact HB.out | apply bA | apply bN | apply bD) | exact HB.out)⟩⟩
      ·rw [if_neg c9] at H
       exact absurd H (by simp)
     ·rw [if_neg c8] at H
      have c8b0 : ((bt a0 x6_1) == a1)=false:=beq_eq_false_iff_ne.mpr c8
      have c8b1 : ((bt a0 x6_1) != a1)=true:=bne_iff_ne.mpr c8
      obtain ⟨ji11,hji11⟩ : ∃ j_ : Int,(wrap64 ((x5_1.length : Int) - 1))=j_:=⟨_,rfl⟩
      replace H : (if 0≤(ji11) then (if (ji11) < (x5_1.length : Int) then (if x6_1≤(wrap64 (x6_1 + 1)) then (if (wrap64 (x6_1 + 1))≤(a0.size : Int) then (if (rdOf ByteArray.empty x5_1 (ji11)).size + (a0.extract (x6_1 : Int).toNat ((wrap64 (x6_1 + 1)) : Int).toNat).size≤9223372036854775807 then (lamplighterref06_Cut.l0 k1 a0 a1 (x5_1.set ((ji11) : Int).toNat ((rdOf ByteArray.empty x5_1 (ji11)) ++ (a0.extract (x6_1 : Int).toNat ((wrap64 (x6_1 + 1)) : Int).toNat))) (wrap64 (x6_1 + 1))) else (none)) else (none)) else (none)) else (none)) else (none))=some r:=by first | (rw [hji11] at H; exact H) | (simp only [hji11] at H ⊢; exact H)
      have hji11w : (IntKind.i64.wrap ((x5_1.length : Int) - 1))=ji11:=(i64_w _).trans hji11
      by_cases c12 : 0≤(ji11)
      ·rw [if_pos c12] at H
       have c12b0:decide (0≤(ji11))=true:=decide_eq_true c12
       clear c12
       by_cases c13 : (ji11) < (x5_1.length : Int)
       ·rw [if_pos c13] at H
        have c13b0:decide ((ji11) < (x5_1.length : Int))=true:=decide_eq_true c13
        clear c13
        have c14b0:=eq_true (of_decide_eq_true (by first | (with_reducible assumption) | assumption) : 0≤x6_1)
        by_cases c15 : x6_1≤(wrap64 (x6_1 + 1))
        ·rw [if_pos c15] at H
         have c15b0:=eq_true c15
         have c15b1:decide (x6_1≤(wrap64 (x6_1 + 1)))=true:=decide_eq_true c15
         by_cases c16 : (wrap64 (x6_1 + 1))≤(a0.size : Int)
         ·rw [if_pos c16] at H
          have c16b0:=eq_true c16
          have c16b1:decide ((wrap64 (x6_1 + 1))≤(a0.size : Int))=true:=decide_eq_true c16
          by_cases c17 : (rdOf ByteArray.empty x5_1 (ji11)).size + (a0.extract (x6_1 : Int).toNat ((wrap64 (x6_1 + 1)) : Int).toNat).size≤9223372036854775807
          ·rw [if_pos c17] at H
           have c17b0:=eq_true c17
           have c17b1:decide ((rdOf ByteArray.empty x5_1 (ji11)).size + (a0.extract (x6_1 : Int).toNat ((wrap64 (x6_1 + 1)) : Int).toNat).size≤9223372036854775807)=true:=decide_eq_true c17
           try have c17b2 : (9223372036854775807 < (rdOf ByteArray.empty x5_1 (ji11)).size + (a0.extract (x6_1 : Int).toNat ((wrap64 (x6_1 + 1)) : Int).toNat).size)=False:=eq_false (Nat.not_lt.2 c17)
           try (have c17b4:=c17b2; simp only [ByteArray.size_append] at c17b4)
           try have c17b3 : (9223372036854775807 < (rdOf ByteArray.empty x5_1 (ji11)).size + ((wrap64 (x6_1 + 1)).toNat - x6_1.toNat))=False:=eq_false (Nat.not_lt.2 (by have h_:=c17; rw [ByteArray.size_extract] at h_; have e_ : ((wrap64 (x6_1 + 1)) : Int)≤(a0.size : Int):=of_decide_eq_true (by first | (with_reducible assumption) | assumption); omega))
           obtain ⟨y222,hy222⟩ : ∃ y_ : List ByteArray,y_=(x5_1.set ((ji11) : Int).toNat ((rdOf ByteArray.empty x5_1 (ji11)) ++ (a0.extract (x6_1 : Int).toNat ((wrap64 (x6_1 + 1)) : Int).toNat))):=⟨_,rfl⟩
           replace H : (lamplighterref06_Cut.l0 k1 a0 a1 y222 (wrap64 (x6_1 + 1)))=some r:=by first | (rw [hy222]; with_reducible exact H) | (have H2_:=(Option.bind_some _ _).symm.trans H; rw [hy222]; with_reducible exact H2_) | (have H2_:=(Option.bind_some _ _).symm.trans H; with_reducible exact H2_) | with_reducible exact H | (rw [hy222]; exact H) | exact H
           have Ny222:=Aside0.mk hy222
           clear hy222
           have H':=Aside0.mk H
           clear H
           have p7:0≤(x6_1 : Int):=of_decide_eq_true (by first | (with_reducible assumption) | assumption)
           have q7:x6_1 < (a0.size : Int):=of_decide_eq_true (by first | (with_reducible assumption) | assumption)
           have hx7:=bt_at a0 x6_1
           replace p7:=eq_true p7
           replace q7:=eq_true q7
           try go_wp2
           have n0_:=Aside0.mk (Kd.R_drew HO_5.out)
           have n1_:=Aside0.mk (below_drew1 HB.out)
           clear HO_5
           clear HB
           have HO_5:=n0_
           have HB:=n1_
           clear n0_ n1_
           obtain ⟨Ao20,co20,eo20⟩:=Kd.R_slice HO_5.out
           (first | subst eo20 | (injection eo20 with f1_ f2_ f3_; have f4_:=f1_.symm; have f5_:=f3_.symm; clear f1_ f2_ f3_; subst f4_; subst f5_))
           have p221:0≤((ji11) : Int):=of_decide_eq_true (by first | (with_reducible assumption) | assumption)
           have q221 : (ji11) < (x5_1.length : Int):=of_decide_eq_true (by first | (with_reducible assumption) | assumption)
           obtain ⟨ad221,e221,hx221_0⟩:=Kd.at_string (Kd.R_reads' HO_5.out).2.2 (ji11) p221 q221
           cases e221
           replace p221:=eq_true p221
           replace q221:=eq_true q221
           have p18:0≤((ji11) : Int):=of_decide_eq_true (by first | (with_reducible assumption) | assumption)
           have q18 : ((ji11) : Int) < ((x5_1.length : Int) : Int):=of_decide_eq_true (by first | (with_reducible assumption) | assumption)
           obtain ⟨go18,co18,eo18,gb18,gl18,cl18,HG18⟩:=Kd.R_form HO_5.out (by omega)
           (first | cases eo18 | (injection eo18 with ea_ en_ ec_; (first | subst ea_ | (injection ea_ with ea_; subst ea_)); subst ec_; clear en_))
           have GB18:=Aside0.mk gb18
           have GG18:=Aside0.mk HG18
           clear gb18 gl18 HG18
           (first | simp only [add_plain] at hx221_0 | skip)
           obtain ⟨hx18_0,hf18_0⟩:=Kd.R_celln (⟨#[]⟩ : ByteArray) HO_5.out ((ji11) : Int) p18 q18
           replace p18:=eq_true p18
           replace q18:=eq_true q18
           have HP21:=Kd.R_putn HO_5.out ((ji11) : Int) ((rdOf ByteArray.empty x5_1 (ji11)) ++ (a0.extract (x6_1 : Int).toNat ((wrap64 (x6_1 + 1)) : Int).toNat))
           rw [← Ny222.out] at HP21
           have HQ21:=Aside0.mk HP21
           clear HP21
           refine start_ (n:=18) (S:=fun w'=>w'.cell? ⟨go18,((ji11)).toNat,none⟩=some (.string (rdOf ByteArray.empty x5_1 (ji11)))) (ds:=[17]) #[false,false,false,false,false,false,false,false,false,false,false,false,false,false,false,false,false,false] (by kernel_rfl) rfl rfl (hx221_0) (fun hHeld=>?_); refine with_tabW lamplighterref06_Cut.tab7 lamplighterref06_Cut.bits7 (fun HT_ HW_=>?_)
           generalize wr.drew=w19 at HO_5 HB GG18 HQ21 hf18_0 hx18_0 hx221_0 hHeld ⊢
           refine pure_ (i:=0) (N:=some 22) (v:=?_) (a':=?_) #[true,false,false,false,false,false,false,false,false,false,false,false,false,false,false,false,false,false] rfl rfl (any_of HT_.out (by kernel_rfl)) (fun _ _ _ h=>h) (Or.inl ⟨by rfl,?_⟩) ?_ ?_
           rotate_left
           ·intro w'
            go_simp
            with_reducible rfl
           rotate_left
           ·simp only [Act.put,sA_,s0_,s1_,i64_w,i32_w]
            rfl
           refine pure_ (i:=1) (N:=some 23) (v:=?_) (a':=?_) #[true,true,false,false,false,false,false,false,false,false,false,false,false,false,false,false,false,false] rfl rfl (any_of HT_.out (by kernel_rfl)) (fun _ _ _ h=>h) (Or.inl ⟨by rfl,?_⟩) ?_ ?_
           rotate_left
           ·intro w'
            go_simp
            with_reducible rfl
           rotate_left
           ·simp only [Act.put,sA_,s0_,s1_,i64_w,i32_w]
            rfl
           refine pure_ (i:=2) (N:=some 24) (v:=?_) (a':=?_) #[true,true,true,false,false,false,false,false,false,false,false,false,false,false,false,false,false,false] rfl rfl (any_of HT_.out (by kernel_rfl)) (fun _ _ _ h=>h) (Or.inl ⟨by rfl,?_⟩) ?_ ?_
           rotate_left
           ·intro w'
            go_simp
            with_reducible rfl
           rotate_left
           ·simp only [Act.put,sA_,s0_,s1_,i64_w,i32_w]
            rfl
           refine pure_ (i:=3) (N:=some 25) (v:=?_) (a':=?_) #[true,true,true,true,false,false,false,false,false,false,false,false,false,false,false,false,false,false] rfl rfl (any_of HT_.out (by kernel_rfl)) (fun _ _ _ h=>h) (Or.inl ⟨by rfl,?_⟩) ?_ ?_
           rotate_left
           ·intro w'
            go_simp
            with_reducible rfl
           rotate_left
           ·simp only [Act.put,sA_,s0_,s1_,i64_w,i32_w]
            rfl
           refine pure_ (i:=4) (N:=some 26) (v:=?_) (a':=?_) #[true,true,true,true,true,false,false,false,false,false,false,false,false,false,false,false,false,false] rfl rfl (any_of HT_.out (by kernel_rfl)) (fun _ _ _ h=>h) (Or.inl ⟨by rfl,?_⟩) ?_ ?_
           rotate_left
           ·intro w'
            go_simp
            with_reducible rfl
           rotate_left
           ·simp only [Act.put,sA_,s0_,s1_,i64_w,i32_w]
            rfl
           refine pure_ (i:=5) (N:=some 27) (v:=?_) (a':=?_) #[true,true,true,true,true,true,false,false,false,false,false,false,false,false,false,false,false,false] rfl rfl (any_of HT_.out (by kernel_rfl)) (fun _ _ _ h=>h) (Or.inl ⟨by rfl,?_⟩) ?_ ?_
           rotate_left
           ·intro w'
            go_simp
            with_reducible rfl
           rotate_left
           ·simp only [Act.put,sA_,s0_,s1_,i64_w,i32_w]
            rfl
           refine pure_ (i:=6) (N:=some 28) (v:=?_) (a':=?_) #[true,true,true,true,true,true,true,false,false,false,false,false,false,false,false,false,false,false] rfl rfl (any_of HT_.out (by kernel_rfl)) (fun _ _ _ h=>h) (Or.inl ⟨by rfl,?_⟩) ?_ ?_
           rotate_left
           ·intro w'
            go_simp
            with_reducible rfl
           rotate_left
           ·simp only [Act.put,sA_,s0_,s1_,i64_w,i32_w]
            rfl
           refine pure_ (i:=7) (N:=some 29) (v:=?_) (a':=?_) #[true,true,true,true,true,true,true,true,false,false,false,false,false,false,false,false,false,false] rfl rfl (any_of HT_.out (by kernel_rfl)) (fun _ _ _ h=>h) (Or.inl ⟨by rfl,?_⟩) ?_ ?_
           rotate_left
           ·intro w'
            go_simp
            with_reducible rfl
           rotate_left
           ·simp only [Act.put,sA_,s0_,s1_,i64_w,i32_w]
            rfl
           refine pure_ (i:=8) (N:=some 30) (v:=?_) (a':=?_) #[true,true,true,true,true,true,true,true,true,false,false,false,false,false,false,false,false,false] rfl rfl (any_of HT_.out (by kernel_rfl)) (fun _ _ _ h=>h) (Or.inl ⟨by rfl,?_⟩) ?_ ?_
           rotate_left
           ·intro w'
            go_simp
            with_reducible rfl
           rotate_left
           ·simp only [Act.put,sA_,s0_,s1_,i64_w,i32_w]
            rfl
           refine pure_ (i:=10) (N:=some 32) (v:=?_) (a':=?_) #[true,true,true,true,true,true,true,true,true,false,true,false,false,false,false,false,false,false] rfl rfl (any_of HT_.out (by kernel_rfl)) (fun _ _ _ h=>h) (Or.inl ⟨by rfl,?_⟩) ?_ ?_
           rotate_left
           ·intro w'
            go_simp
            with_reducible rfl
           rotate_left
           ·simp only [Act.put,sA_,s0_,s1_,i64_w,i32_w]
            rfl
           refine pure_ (i:=11) (N:=some 33) (v:=?_) (a':=?_) #[true,true,true,true,true,true,true,true,true,false,true,true,false,false,false,false,false,false] rfl rfl (any_of HT_.out (by kernel_rfl)) (fun _ _ _ h=>h) (Or.inl ⟨by rfl,?_⟩) ?_ ?_
           rotate_left
           ·intro w'
            go_simp
            with_reducible rfl
           rotate_left
           ·simp only [Act.put,sA_,s0_,s1_,i64_w,i32_w]
            rfl
           refine pure_ (i:=12) (N:=some 34) (v:=?_) (a':=?_) #[true,true,true,true,true,true,true,true,true,false,true,true,true,false,false,false,false,false] rfl rfl (any_of HT_.out (by kernel_rfl)) (fun _ _ _ h=>h) (Or.inl ⟨by rfl,?_⟩) ?_ ?_
           rotate_left
           ·intro w'
            go_simp
            with_reducible rfl
           rotate_left
           ·simp only [Act.put,sA_,s0_,s1_,i64_w,i32_w]
            rfl
           refine pure_ (i:=13) (N:=some 35) (v:=?_) (a':=?_) #[true,true,true,true,true,true,true,true,true,false,true,true,true,true,false,false,false,false] rfl rfl (any_of HT_.out (by kernel_rfl)) (fun _ _ _ h=>h) (Or.inl ⟨by rfl,?_⟩) ?_ ?_
           rotate_left
           ·intro w'
            go_simp
            with_reducible rfl
           rotate_left
           ·simp only [Act.put,sA_,s0_,s1_,i64_w,i32_w]
            rfl
           refine pure_ (i:=14) (N:=some 36) (v:=?_) (a':=?_) #[true,true,true,true,true,true,true,true,true,false,true,true,true,true,true,false,false,false] rfl rfl (any_of HT_.out (by kernel_rfl)) (fun _ _ _ h=>h) (Or.inl ⟨by rfl,?_⟩) ?_ ?_
           rotate_left
           ·intro w'
            go_simp
            with_reducible rfl
           rotate_left
           ·simp only [Act.put,sA_,s0_,s1_,i64_w,i32_w]
            rfl
           refine take_ (i:=9) (N:=some 31) (v:=?_) (a':=?_) #[true,true,true,true,true,true,true,true,true,true,true,true,true,true,true,false,false,false] rfl rfl (take_ofW HT_.out HW_.out (by kernel_rfl)) (fun _ _ _ h=>h) (Or.inl ⟨by rfl,?_⟩) hHeld ?_ ?_
           rotate_left
           ·intro w' s0
            go_simp
            with_reducible rfl
           rotate_left
           ·simp only [Act.put,sA_,s0_,s1_,i64_w,i32_w]
            rfl
           refine pure_ (i:=15) (N:=some 37) (v:=?_) (a':=?_) #[true,true,true,true,true,true,true,true,true,true,true,true,true,true,true,true,false,false] rfl rfl (any_of HT_.out (by kernel_rfl)) (fun _ _ _ h=>h) (Or.inl ⟨by rfl,?_⟩) ?_ ?_
           rotate_left
           ·intro w'
            go_simp
            with_reducible rfl
           rotate_left
           ·simp only [Act.put,sA_,s0_,s1_,i64_w,i32_w]
            rfl
           refine pure_ (i:=16) (N:=some 38) (v:=?_) (a':=?_) #[true,true,true,true,true,true,true,true,true,true,true,true,true,true,true,true,true,false] rfl rfl (any_of HT_.out (by kernel_rfl)) (fun _ _ _ h=>h) (Or.inl ⟨by rfl,?_⟩) ?_ ?_
           rotate_left
           ·intro w'
            go_simp
            with_reducible rfl
           rotate_left
           ·simp only [Act.put,sA_,s0_,s1_,i64_w,i32_w]
            rfl
           refine last_ (i:=17) (N:=none) #[true,true,true,true,true,true,true,true,true,true,true,true,true,true,true,true,true,true] rfl rfl (one_of HT_.out (by kernel_rfl)) (by decide) (fun K hK=>?_)
           refine skip_ (w1:=?_) (by rfl) rfl ?_ ?_
           rotate_left
           ·go_simp
            rfl
           refine hK.out _ _ ?_
           clear hK K
           refine done_ (done_of HT_.out (by kernel_rfl)) ?_
           try go_wp2
           go_roundg k1
           case measure=>have:=HK1.out; omega
           case rel=>exact ⟨(y222),(wrap64 (x6_1 + 1)),(by first | rfl | (simp; done) | (simp [*]; done)),H',⟨by have:=HK1.out; omega⟩,⟨by (with_reducible repeat (first | apply Kd.R_alloc | apply Kd.R_drewN | apply Kd.R_drew)); exact HQ21.out⟩,⟨by repeat (first | (with_reducible first | exact HB.out | apply bA | apply bN | apply bD | refine below_set ?_ GB18.out) | exact HB.out)⟩⟩
          ·rw [if_neg c17] at H
           exact absurd H (by simp)
         ·rw [if_neg c16] at H
          exact absurd H (by simp)
        ·rw [if_neg c15] at H
         exact absurd H (by simp)
       ·rw [if_neg c13] at H
        exact absurd H (by simp)
      ·rw [if_neg c12] at H
       exact absurd H (by simp)
    ·rw [if_neg c6] at H
     exact absurd H (by simp)
   ·rw [if_neg c5] at H
    have c5b0:decide (x6_1 < (a0.size : Int))=false:=decide_eq_false c5
    clear c5
    obtain rfl:=Option.some.inj H
    go_wp2
    go_ret
    exact ⟨_,by first | rfl | (simp [errW_none,errW_some] <;> rfl) | (simp [*,errW_none,errW_some] <;> rfl),by (with_reducible repeat (first | apply Kd.R_alloc | apply Kd.R_drewN | apply Kd.R_drew)); exact HO_5.out,by repeat (first | (with_reducible first | exact HB.out | apply bA | apply bN | apply bD) | exact HB.out)⟩

/-! ### lamplighterref08_Split: function 37 -/
def lamplighterref08_Split.f (k : Nat) (l0 : List Int) : Option (List ByteArray):=(lamplighterref06_Cut.f k (strOfNums l0) 13).bind fun t223=>(if 0≤(wrap64 ((t223.length : Int) - 1)) then (if (wrap64 ((t223.length : Int) - 1)) < (t223.length : Int) then (if (rdOf ByteArray.empty t223 (wrap64 ((t223.length : Int) - 1))).toList=([] : List UInt8) then (if (wrap64 ((t223.length : Int) - 1))≤(t223.length : Int) then (some (t223.take ((wrap64 ((t223.length : Int) - 1)) : Int).toNat)) else (none)) else (some t223)) else (none)) else (none))
theorem lamplighterref08_Split.mono : ∀ a0 k,LeO (lamplighterref08_Split.f k a0) (lamplighterref08_Split.f (k + 1) a0):=by
 intro a0 k
 unfold lamplighterref08_Split.f
 repeat' first
   | (with_reducible exact lamplighterref06_Cut.mono _ _ _)
   | (with_reducible exact LeO.refl _)
   | (with_reducible exact LeO.none _)
   | (with_reducible refine LeO.ite ?_ ?_)
   | (with_reducible refine LeO.bind ?_ (fun _=>?_))
   | exact lamplighterref06_Cut.mono _ _ _
   | exact LeO.none _
   | refine LeO.ite ?_ ?_
   | refine LeO.bind ?_ (fun _=>?_)
theorem lamplighterref08_Split.calls (k : Nat) (A0 : Option Addr) (c0 : Nat) (l0 : List Int) (r : List ByteArray) (w : World) (hr0 : Kd.C (Kd.int .u8) w A0 l0.length l0) (hc0 : l0.length≤c0) (h : lamplighterref08_Split.f k l0=some r) :
  Calls Tryd.prog 37 #[.slice A0 l0.length c0] w fun e w' => ∃ v0_ : Value,e = .returned (v0_)∧Kd.R Kd.string 9 w' w.heap.size (fun _=>True) v0_ r∧Below w.heap.size w w':=by
 have HR0:=Aside0.mk hr0
 have HC0:=Aside0.mk hc0
 clear hr0 hc0
 have HB:=Aside0.mk (Below.refl w.heap.size w)
 have H : ((lamplighterref06_Cut.f k (strOfNums l0) 13).bind fun t223=>(if 0≤(wrap64 ((t223.length : Int) - 1)) then (if (wrap64 ((t223.length : Int) - 1)) < (t223.length : Int) then (if (rdOf ByteArray.empty t223 (wrap64 ((t223.length : Int) - 1))).toList=([] : List UInt8) then (if (wrap64 ((t223.length : Int) - 1))≤(t223.length : Int) then (some (t223.take ((wrap64 ((t223.length : Int) - 1)) : Int).toNat)) else (none)) else (some t223)) else (none)) else (none)))=some r:=h
 clear h
 replace H:=Option.bind_eq_some_iff.mp H
 obtain ⟨t223,A20,H⟩:=H
 replace H : (if 0≤(wrap64 ((t223.length : Int) - 1)) then (if (wrap64 ((t223.length : Int) - 1)) < (t223.length : Int) then (if (rdOf ByteArray.empty t223 (wrap64 ((t223.length : Int) - 1))).toList=([] : List UInt8) then (if (wrap64 ((t223.length : Int) - 1))≤(t223.length : Int) then (some (t223.take ((wrap64 ((t223.length : Int) - 1)) : Int).toNat)) else (none)) else (some t223)) else (none)) else (none))=some r:=H
 have A2:=Aside0.mk A20
 clear A20
 obtain ⟨ji3,hji3⟩ : ∃ j_ : Int,(wrap64 ((t223.length : Int) - 1))=j_:=⟨_,rfl⟩
 replace H : (if 0≤(ji3) then (if (ji3) < (t223.length : Int) then (if (rdOf ByteArray.empty t223 (ji3)).toList=([] : List UInt8) then (if (ji3)≤(t223.length : Int) then (some (t223.take ((ji3) : Int).toNat)) else (none)) else (some t223)) else (none)) else (none))=some r:=by first | (rw [hji3] at H; exact H) | (simp only [hji3] at H ⊢; exact H)
 (try rw [hji3] at A2)
 have hji3w : (IntKind.i64.wrap ((t223.length : Int) - 1))=ji3:=(i64_w _).trans hji3
 by_cases c4 : 0≤(ji3)
 ·rw [if_pos c4] at H
  have c4b0:decide (0≤(ji3))=true:=decide_eq_true c4
  clear c4
  by_cases c5 : (ji3) < (t223.length : Int)
  ·rw [if_pos c5] at H
   have c5b0:decide ((ji3) < (t223.length : Int))=true:=decide_eq_true c5
   clear c5
   by_cases c6 : (rdOf ByteArray.empty t223 (ji3)).toList=([] : List UInt8)
   ·rw [if_pos c6] at H
    have c6b0 : ((rdOf ByteArray.empty t223 (ji3)).toList == ([] : List UInt8))=true:=beq_iff_eq.mpr c6
    have c6b1 : ((rdOf ByteArray.empty t223 (ji3)).toList != ([] : List UInt8))=false:=bne_eq_false_iff_eq.mpr c6
    clear c6
    by_cases c7 : (ji3)≤(t223.length : Int)
    ·rw [if_pos c7] at H
     have c7b0:=eq_true c7
     have c7b1:decide ((ji3)≤(t223.length : Int))=true:=decide_eq_true c7
     clear c7
     obtain ⟨y227,hy227⟩ : ∃ y_ : List ByteArray,y_=(t223.take ((ji3) : Int).toNat):=⟨_,rfl⟩
     replace H : (some y227)=some r:=by first | (rw [hy227]; with_reducible exact H) | (have H2_:=(Option.bind_some _ _).symm.trans H; rw [hy227]; with_reducible exact H2_) | (have H2_:=(Option.bind_some _ _).symm.trans H; with_reducible exact H2_) | with_reducible exact H | (rw [hy227]; exact H) | exact H
     have Ny227:=Aside0.mk hy227
     clear hy227
     obtain rfl:=Option.some.inj H
     have hcv8:=Kd.C_string (P:=Tryd.prog) (A:=A0) (c:=c0) Tryd.underlying28 Tryd.underlying5 Tryd.underlying9 HR0.out
     go_enter Tryd.func37,Tryd.ntmps37
     go_wp2_with (first | ((with_reducible refine gate_callee (f:=60) rfl ?_); refine goesL_ (some 6) rfl rfl Tryd.func60 (by kernel_rfl) rfl #[.string (strOfNums l0), .int .u8 13] rfl (by (try simp only [List.map_toArray,List.map_cons,List.map_nil]); first | done | rfl | (simp only [List.length_drop,List.length_take]; rfl)) ?_; (with_reducible refine (lamplighterref06_Cut.calls k (strOfNums l0) 13 t223 _ A2.out).mono ?_); rintro e w9 ⟨v224,rfl,ho0,hb⟩; refine ⟨_,rfl,?_⟩; have n0_:=Aside0.mk (Kd.R_lower ho0 (below_size (by repeat (first | (with_reducible first | exact HB.out | apply bA | apply bN | apply bD) | exact HB.out)))); have n1_:=Aside0.mk (below_step (by repeat (first | (with_reducible first | exact HB.out | apply bA | apply bN | apply bD) | exact HB.out)) hb); clear HB; have HO225:=n0_; have HB:=n1_; clear n0_ n1_; (try clear hb); (try clear ho0); obtain ⟨Ao10,co10,eo10⟩:=Kd.R_slice HO225.out; subst eo10; have p226:0≤((ji3) : Int):=of_decide_eq_true (by first | (with_reducible assumption) | assumption); have q226 : (ji3) < (t223.length : Int):=of_decide_eq_true (by first | (with_reducible assumption) | assumption); obtain ⟨ad226,e226,hx226_0⟩:=Kd.at_string (Kd.R_reads' HO225.out).2.2 (ji3) p226 q226; cases e226; replace p226:=eq_true p226; replace q226:=eq_true q226; have q11 : ((ji3) : Int)≤((t223.length : Int) : Int):=of_decide_eq_true (by first | (with_reducible assumption) | assumption); obtain ⟨i011,hi011,_,hsz11,_⟩:=info_parts info9; have hcut11:=cut_to (P:=Tryd.prog) 34 9 .i64 Tryd.underlying34 hi011 (some ad226) t223.length co10 (ji3) (of_decide_eq_true (by first | (with_reducible assumption) | assumption)) q11 (Kd.R_reads' HO225.out).2.1; have hr11:=Kd.R_take (m:=((ji3) : Int).toNat) HO225.out (by omega); have hy11:y227.length=((ji3) : Int).toNat:=(by rw [Ny227.out,List.length_take]; omega); rw [← Ny227.out] at hr11; rw [← hy11] at hr11 hcut11; clear hy11 hi011 hsz11 HO225; have HO229:=Aside0.mk hr11; clear hr11; replace q11:=eq_true q11))
     go_ret
     exact ⟨_,by first | rfl | (simp [errW_none,errW_some] <;> rfl) | (simp only [← hji3]; first | rfl | (simp [errW_none,errW_some] <;> rfl)) | (simp [*,errW_none,errW_some] <;> rfl),by (with_reducible repeat (first | apply Kd.R_alloc | apply Kd.R_drewN | apply Kd.R_drew)); exact HO229.out,by repeat (first | (with_reducible first | exact HB.out | apply bA | apply bN | apply bD) | exact HB.out)⟩
    ·rw [if_neg c7] at H
     exact absurd H (by simp)
   ·rw [if_neg c6] at H
    have c6b0 : ((rdOf ByteArray.empty t223 (ji3)).toList == ([] : List UInt8))=false:=beq_eq_false_iff_ne.mpr c6
    have c6b1 : ((rdOf ByteArray.empty t223 (ji3)).toList != ([] : List UInt8))=true:=bne_iff_ne.mpr c6
    obtain rfl:=Option.some.inj H
    have hcv12:=Kd.C_string (P:=Tryd.prog) (A:=A0) (c:=c0) Tryd.underlying28 Tryd.underlying5 Tryd.underlying9 HR0.out
    go_enter Tryd.func37,Tryd.ntmps37
    go_wp2_with (first | ((with_reducible refine gate_callee (f:=60) rfl ?_); refine goesL_ (some 6) rfl rfl Tryd.func60 (by kernel_rfl) rfl #[.string (strOfNums l0), .int .u8 13] rfl (by (try simp only [List.map_toArray,List.map_cons,List.map_nil]); first | done | rfl | (simp only [List.length_drop,List.length_take]; rfl)) ?_; (with_reducible refine (lamplighterref06_Cut.calls k (strOfNums l0) 13 t223 _ A2.out).mono ?_); rintro e w13 ⟨v224,rfl,ho0,hb⟩; refine ⟨_,rfl,?_⟩; have n0_:=Aside0.mk (Kd.R_lower ho0 (below_size (by repeat (first | (with_reducible first | exact HB.out | apply bA | apply bN | apply bD) | exact HB.out)))); have n1_:=Aside0.mk (below_step (by repeat (first | (with_reducible first | exact HB.out | apply bA | apply bN | apply bD) | exact HB.out)) hb); clear HB; have HO225:=n0_; have HB:=n1_; clear n0_ n1_; (try clear hb); (try clear ho0); obtain ⟨Ao14,co14,eo14⟩:=Kd.R_slice HO225.out; subst eo14; have p226:0≤((ji3) : Int):=of_decide_eq_true (by first | (with_reducible assumption) | assumption); have q226 : (ji3) < (t223.length : Int):=of_decide_eq_true (by first | (with_reducible assumption) | assumption); obtain ⟨ad226,e226,hx226_0⟩:=Kd.at_string (Kd.R_reads' HO225.out).2.2 (ji3) p226 q226; cases e226; replace p226:=eq_true p226; replace q226:=eq_true q226))
    go_ret
    exact ⟨_,by first | rfl | (simp [errW_none,errW_some] <;> rfl) | (simp only [← hji3]; first | rfl | (simp [errW_none,errW_some] <;> rfl)) | (simp [*,errW_none,errW_some] <;> rfl),by (with_reducible repeat (first | apply Kd.R_alloc | apply Kd.R_drewN | apply Kd.R_drew)); exact HO225.out,by repeat (first | (with_reducible first | exact HB.out | apply bA | apply bN | apply bD) | exact HB.out)⟩
  ·rw [if_neg c5] at H
   exact absurd H (by simp)
 ·rw [if_neg c4] at H
  exact absurd H (by simp)

/-! ### lamplighterref08_Name: function 61 -/
def lamplighterref08_Name.f (a0 : ByteArray) : Option (ByteArray):=if (a0.size : Int) < 3 then (some a0) else (if 0≤3 then (if 3≤(a0.size : Int) then (some (a0.extract 0 3)) else (none)) else (none))
theorem lamplighterref08_Name.calls (a0 : ByteArray) (r : ByteArray) (w : World) (h : lamplighterref08_Name.f a0=some r) :
  Calls Tryd.prog 61 #[.string a0] w fun e w'=>e = .returned (.string r)∧Drawn0 w w':=by
 have H : (if (a0.size : Int) < 3 then (some a0) else (if 0≤3 then (if 3≤(a0.size : Int) then (some (a0.extract 0 3)) else (none)) else (none)))=some r:=h
 clear h
 by_cases c2 : (a0.size : Int) < 3
 ·rw [if_pos c2] at H
  have c2b0:decide ((a0.size : Int) < 3)=true:=decide_eq_true c2
  have c2b1:decide (a0.size < 3)=true:=decide_eq_true (by omega)
  clear c2
  obtain rfl:=Option.some.inj H
  go_enter Tryd.func61,Tryd.ntmps61
  go_wp2
  go_ret
  exact ⟨by first | rfl | (simp; done) | (simp [*]; done),by repeat (first | exact Drawn0.refl _ | apply Drawn0.step)⟩
 ·rw [if_neg c2] at H
  have c2b0:decide ((a0.size : Int) < 3)=false:=decide_eq_false c2
  have c2b1:decide (a0.size < 3)=false:=decide_eq_false (by omega)
  clear c2
  by_cases c3 : 0≤3
  ·rw [if_pos c3] at H
   have c3b0:=eq_true c3
   have c3b1:decide (0≤3)=true:=decide_eq_true c3
   clear c3
   by_cases c4 : 3≤(a0.size : Int)
   ·rw [if_pos c4] at H
    have c4b0:=eq_true c4
    have c4b1:decide (3≤(a0.size : Int))=true:=decide_eq_true c4
    clear c4
    obtain rfl:=Option.some.inj H
    go_enter Tryd.func61,Tryd.ntmps61
    go_wp2
    go_ret
    exact ⟨by first | rfl | (simp; done) | (simp [*]; done),by repeat (first | exact Drawn0.refl _ | apply Drawn0.step)⟩
   ·rw [if_neg c4] at H
    exact absurd H (by simp)
  ·rw [if_neg c3] at H
   exact absurd H (by simp)

end Go.Proofs.YtcjcaojgminjpaaDoor.PD
