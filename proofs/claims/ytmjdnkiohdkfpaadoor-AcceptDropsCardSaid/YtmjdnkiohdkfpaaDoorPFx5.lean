import Derived.Test.YtmjdnkiohdkfpaaDoorPFx0
import Derived.Test.YtmjdnkiohdkfpaaDoorPFx4
namespace Go.Proofs.YtmjdnkiohdkfpaaDoor.PF
open Go.RowKit Go.Proofs.YtmjdnkiohdkfpaaDoorW.PrintWords Go.Proofs.YtmjdnkiohdkfpaaDoorW.PrintLast Go.Proofs.YtmjdnkiohdkfpaaDoorW.PrintMore
set_option maxHeartbeats 8000000
set_option maxRecDepth 100000
attribute [local go_sem] max2_int min2_int max_two min_two max_three min_three max_four min_four
set_option linter.unusedVariables false
set_option linter.unusedSimpArgs false

/-! ### segment_Split: function 35 -/
/-- The segments of a message's bytes. -/
def segsOf (b : List UInt8) : List (List UInt8):=if (cutL 13 b).getLast?=some [] then (cutL 13 b).dropLast else cutL 13 b
def segment_Split.f (l0 : List Int) : Option (List ByteArray):=if l0.length≤1000000000000 then some ((segsOf (Lib.bytesOf l0)).map strOf) else none
theorem infoStr : (Tryd.prog.info? 9).map (fun i=>(i.zero,i.size,i.bytes))=some (some (Value.string ⟨#[]⟩),1,16):=by kernel_rfl
/-- An append to a row that is held by a box below the row's base: what stays. -/
theorem boxed_appended {W w1 : World} {n0 m0 B : Nat} {t e : TypeId} {size : Nat} {v v' : Value} {k m : Nat} {xs ys : List Value} {tmp : Obj}
  (hv : Boxed W B t v) (hte : t ≠ e) (hrow : W.ownsRow n0 e size v k xs) (hn0 : n0≤W.heap.size) (hm : m0≤n0) (hB : m0≤B)
  (hown' : w1.ownsRow n0 e size v' m ys) (hgrow : (W.alloc tmp).grownBy w1 v.ownBlock) :
  Boxed w1 B t v∧Boxed (w1.setCell ⟨B,0,none⟩ v') B t v'∧(w1.setCell ⟨B,0,none⟩ v').ownsRow n0 e size v' m ys∧KeepsOthers W (w1.setCell ⟨B,0,none⟩ v')∧Below m0 W (w1.setCell ⟨B,0,none⟩ v') ∧
   (∀ j,j < n0→j ≠ B→(w1.setCell ⟨B,0,none⟩ v').heap[j]?=W.heap[j]?)∧W.heap.size≤(w1.setCell ⟨B,0,none⟩ v').heap.size:=by
 obtain ⟨h1,h2,h3,h4,h5⟩:=hv.appended hte (own_weaken hrow hm) (by omega) hB (own_weaken hown' hm) hgrow
 refine ⟨h1,h2,hown'.kept (grownBy_setCell' w1 B v') (.inr (h1.not_row hte hown').symm),h4,h5,fun j hj hne=>?_,h5.size⟩
 refine (Below.heap_setCell w1 ⟨B,0,none⟩ v' j hne).trans ((hgrow.block j (by simp; omega) (fun e=>?_)).trans (Below.heap_alloc W tmp j (by omega)))
 have:=(hrow.lt j e.symm).1
 omega
section
attribute [local go_sem] Oper.semAt_some alloc_dN setCell_dN shape_dN
theorem split_in (A0 : Option Addr) (c0 : Nat) (l0 : List Int) (w : World) (hr0 : Kd.C (Kd.int .u8) w A0 l0.length l0) (hc0 : l0.length≤c0) (hsz : l0.length≤1000000000000) :
  CallsIn Fence.wide 2 Tryd.prog 35 #[.slice A0 l0.length c0] w fun e w'=>(∃ (v : Value) (ys : List ByteArray) (B : Nat),e = .returned v∧ys.map (·.data.toList)=cutL 13 (Lib.bytesOf l0)∧w.heap.size≤B ∧
   w'.ownsRow B 9 1 v (if ys.getLast?=some ⟨#[]⟩ then ys.dropLast else ys).length (encs Value.string (if ys.getLast?=some ⟨#[]⟩ then ys.dropLast else ys)))∧Below w.heap.size w w':=by
 have hsd : (strOfNums l0).data.toList=Lib.bytesOf l0:=str_data l0
 have hss : (strOfNums l0).size=l0.length:=by simp [strOfNums,ByteArray.size]
 have hconv : ∀ o,(convert 26 9 (.slice A0 l0.length c0)).run Tryd.prog (w.alloc o) = .ok (.string (strOfNums l0)) (w.alloc o):=fun o=>by
  exact Kd.C_string (P:=Tryd.prog) Tryd.underlying26 Tryd.underlying5 Tryd.underlying9 (Kd.C_below hr0 ((Below.refl _ w).alloc (Nat.le_refl _) o))
 refine callsIn_of_wp_marks Tryd.func35 rfl trivial ?_ rfl
 simp only [Tryd.ntmps35,List.size_toArray,List.length_cons,List.length_nil,Nat.reduceAdd,Nat.reduceSub,Array.replicate_succ,Array.replicate_zero,List.push_toArray,List.append_toArray,List.nil_append,List.cons_append]
 gi_wp2_with (refine ⟨trivial,?_⟩; gi_at_call 63; refine (callsIn_wide.2 (between_calls _ _ _)).mono ?_; rintro e w' ⟨rfl,rfl⟩)
 refine at_worldIn (fun W=>W.heap[w.heap.size]?=some (.cells #[.slice none 0 0] 41 (0,0)) ∧
   W.heap[w.heap.size + 1]?=some (.cells #[.string (strOfNums l0)] 9 (0,0))∧W.heap[w.heap.size + 1 + 1]?=some (.cells #[.int .u8 13] 5 (0,0))∧Below w.heap.size w W∧W.heap.size=w.heap.size + 3) ?_ ?_
 ·have n1:=heap_new w (.cells #[.slice none 0 0] 41)
  have n2:=heap_new (w.alloc (.cells #[.slice none 0 0] 41)) (.cells #[.string (strOfNums l0)] 9)
  have n3:=heap_new ((w.alloc (.cells #[.slice none 0 0] 41)).alloc (.cells #[.string (strOfNums l0)] 9)) (.cells #[.int .u8 13] 5)
  simp only [World.size_alloc] at n2 n3
  exact ⟨heap_old _ (heap_old _ n1),heap_old _ n2,n3,
   ((((Below.refl _ w).alloc (Nat.le_refl _) _).alloc (by simp) _).alloc (by simp; omega) _),by simp⟩
 rintro W ⟨g0,gs,gc,gB,gz⟩
 obtain ⟨i0,hi,hz0,hz1,hz2⟩:=info_parts infoStr
 refine range_all (Bs:=w.heap.size + 1) (Bc:=w.heap.size + 1 + 1) (gf:=76) (lb:=#[.pointer (some ⟨w.heap.size + 1,0,none⟩), .pointer (some ⟨w.heap.size + 1 + 1,0,none⟩)]) rfl (enters_of Tryd.func76 (by kernel_rfl) rfl) Value.string rfl (by omega) (by omega)
  (fun ys=>ys.map (·.data.toList)=cutL 13 (Lib.bytesOf l0)) (fun p => ∃ t,p.map (·.data.toList) ++ t=cutL 13 (Lib.bytesOf l0))
  (fun pre W => ∃ v,W.heap[w.heap.size]?=some (.cells #[v] 41 (0,0))∧W.ownsRow (w.heap.size + 3) 9 1 v pre.length (encs Value.string pre)∧Below w.heap.size w W∧w.heap.size + 3≤W.heap.size)
  ?steady ?start ?iter (fun x=>{ tmps:=#[.slice A0 l0.length c0,undef, .slice none 0 0, .pointer (some ⟨w.heap.size,0,none⟩), .string x,undef, .slice A0 l0.length c0, .string (strOfNums l0), .func (.func 76) #[] #[.pointer (some ⟨w.heap.size + 1,0,none⟩), .pointer (some ⟨w.heap.size + 1 + 1,0,none⟩)], .string x,undef,undef,undef,undef,undef,undef,undef,undef,undef,undef,undef,undef,undef,undef,undef,undef],defers:=[] }) ?assign ?body ?done
 case steady =>
  rintro pre V V' row ⟨v,h0,ho,hB,hz⟩ hg hr
  refine ⟨v,?_,ho.kept hg ?_,hB.grown hg (by omega) (fun k e=>by
   rcases hr k e with rfl | ⟨hk,_⟩ <;> omega),Nat.le_trans hz hg.size⟩
  ·exact (hg.block _ (Array.getElem?_eq_some_iff.1 h0).1 (fun e=>by
    rcases hr _ e.symm with h | ⟨_,o,ho,hc⟩
    ·omega
    ·rw [h0] at ho; cases ho; cases hc)).trans h0
  ·rcases ho.2 with ⟨rfl,_⟩ | ⟨g,cap,cur,rfl,hgb,hgc,_⟩
   ·exact .inl rfl
   ·refine .inr (fun e=>?_)
    rcases hr g (by rw [← e]; rfl) with h | ⟨_,o,ho,hc⟩
    ·omega
    ·rw [hgc] at ho; cases ho; cases hc
 case start =>
  exact ⟨_,g0,World.ownsRow_nil _ _ _ _,gB,by omega⟩
 case iter =>
  intro l J V e1 e2 hJ hY h0
  rw [← hsd]
  exact between_in l _ _ 13 J (strOfNums l0) (by rw [hss]; omega) hJ (by rw [hsd]; exact hY) V (e1.trans gs) (e2.trans gc) (by omega) h0
 case assign =>
  intro l x V K hK
  gi_wp2
  exact hK
 case body =>
  rintro l pre x V ⟨t,ht⟩ ⟨v,h0,ho,hB,hz⟩
  have hlen:pre.length + 1≤1000000000001:=by
   have h1:=congrArg List.length ht
   have h2:=cutL_length 13 (Lib.bytesOf l0)
   have h3:=List.count_le_length (a:=13) (l:=Lib.bytesOf l0)
   have h4 : (Lib.bytesOf l0).length=l0.length:=by simp [Lib.bytesOf]
   simp only [List.length_append,List.length_map,List.length_cons,List.length_nil] at h1
   omega
  have hv:Boxed V w.heap.size 41 v:=h0
  have k0:=hv.cell
  have hne:=hv.not_row (by decide) ho
  have HB:=Lib.hid hB
  have HT:=Lib.hid ht
  have H0:=Lib.hid h0
  clear h0 hB ht g0 gs gc gB
  have f0:=hv.frozen
  gi_wp2_with (first
   | (gi_at_builtin; refine wpListIn_append_own _ rfl _ _ 41 rfl (w.heap.size + 3) 9 i0 (Value.string ⟨#[]⟩) 1 16 Tryd.underlying41 hi hz0 hz1 hz2 rfl (by decide) v pre.length (encs Value.string pre) rfl (ho.alloc _) ⟨V.heap.size,0,none⟩ 1 1 [Value.string x] rfl rfl (cell_one_new _ _ _) (by intro u hu; simp at hu; subst hu; rfl) (by unfold maxLen; omega) (by omega) (by simp; omega) ?_; intro v' w1 hown' hgrow _; obtain ⟨g',cap',rfl⟩:=ownsRow_succ hown'; obtain ⟨hv1,hv2,hr2,hk2,hb2,hfar,hz2⟩:=boxed_appended (m0:=w.heap.size) hv (by decide) ho hz (by omega) (Nat.le_refl _) hown' hgrow; have hc1:=hv1.cell; have hf1:=hv1.frozen)
   | gi_in)
  refine ⟨hk2,hfar _ (by omega) (by omega),hfar _ (by omega) (by omega),_,hv2,?_,HB.out.trans hb2,by omega⟩
  rw [encs_append,List.length_append]
  exact hr2
 case done =>
  rintro D ys V hS ⟨v,h0,ho,hB,hz⟩ hD hK
  obtain ⟨zs,x,rfl⟩ : ∃ zs x,ys=zs ++ [x]:=by
   rcases List.eq_nil_or_concat ys with rfl | ⟨zs,x,rfl⟩
   ·exact absurd hS.symm (cutL_ne 13 _)
   ·exact ⟨zs,x,by simp⟩
  have hll : (zs ++ [x]).getLast?=some x:=by simp
  have hdl : (zs ++ [x]).dropLast=zs:=by simp
  rw [List.length_append,List.length_singleton] at ho
  obtain ⟨g,cap,rfl⟩:=ownsRow_succ ho
  have hv:Boxed V w.heap.size 41 _:=h0
  have k0:=hv.cell
  have f0:=hv.frozen
  have kx:V.cell? ⟨g,zs.length,none⟩=some (.string x):=by
   rw [ho.cellAt zs.length (by omega)]
   simp [encs]
  have hcl:zs.length + 1≤cap∧zs.length≤1000000000001:=by
   have h1:=congrArg List.length hS
   have h2:=cutL_length 13 (Lib.bytesOf l0)
   have h3:=List.count_le_length (a:=13) (l:=Lib.bytesOf l0)
   have h4 : (Lib.bytesOf l0).length=l0.length:=by simp [Lib.bytesOf]
   simp only [List.length_append,List.length_map,List.length_cons,List.length_nil] at h1
   rcases ho.2 with ⟨h,_⟩ | ⟨g',cap',cur,h,_,_,h2,h3,_⟩
   ·cases h
   ·cases h; omega
  have HB:=Lib.hid hB
  have HS:=Lib.hid hS
  have HO:=Lib.hid ho
  have HV:=Lib.hid hv
  have HK:=Lib.hid hK
  clear h0 hB hS ho hv hK g0 gs gc gB
  gi_wp2
  ·have hx:x=⟨#[]⟩:=by
    have h1:x.toList.isEmpty=true:=by assumption
    have h2:x.data.toList=[]:=by rw [← Lib.toList_data]; exact List.isEmpty_iff.1 h1
    cases x with
    | mk d=>cases d; simp_all
   subst hx
   refine ⟨by simp, .inl ⟨_,_,rfl,run_takeDeferred (w:=(V.setCell ⟨w.heap.size,0,none⟩ _)) ((KeepsOthers.setCell _ _ _).same D _ HK.out rfl),?_⟩⟩
   refine ⟨_,results_tmp rfl _ _ _,⟨_,zs ++ [⟨#[]⟩],w.heap.size + 3,rfl,HS.out,by omega,?_⟩,?_⟩
   ·rw [hll,hdl,if_pos rfl]
    refine ownsRow_putObj ?_ _ ((KeepsOthers.setCell _ _ _).same D _ HK.out rfl) rfl
    refine World.ownsRow.kept ?_ (grownBy_setCell' V w.heap.size _) (.inr ?_)
    ·have h1:=own_take (m:=zs.length) HO.out (by omega)
     rw [Nat.mul_one,show (encs Value.string (zs ++ [(⟨#[]⟩ : ByteArray)])).take zs.length=encs Value.string zs by simp [encs]] at h1
     exact h1
    ·exact (HV.out.not_row (by decide) HO.out).symm
   ·exact ((HB.out.setCell (p:=⟨w.heap.size,0,none⟩) (Nat.le_refl _) _).grown (grownBy_putObj' _ D _) (by show w.heap.size≤(V.setCell _ _).heap.size; simp; omega) (fun k e=>by cases e; omega))
  ·have hx:x ≠ ⟨#[]⟩:=by
    have h1:x.toList.isEmpty=false:=by assumption
    rintro rfl
    rw [Lib.toList_data] at h1
    cases h1
   refine ⟨by simp, .inl ⟨_,_,rfl,run_takeDeferred (w:=V) HK.out,?_⟩⟩
   refine ⟨_,results_tmp rfl _ _ _,⟨_,zs ++ [x],w.heap.size + 3,rfl,HS.out,by omega,?_⟩,?_⟩
   ·rw [hll,if_neg (fun e=>hx (Option.some.inj e))]
    refine ownsRow_putObj ?_ _ HK.out rfl
    rw [List.length_append,List.length_singleton]
    exact HO.out
   ·exact HB.out.grown (grownBy_putObj' _ D _) (by omega) (fun k e=>by cases e; omega)
end
theorem segsOf_map {ys : List ByteArray} {b : List UInt8} (h : ys.map (·.data.toList)=cutL 13 b) : (segsOf b).map strOf=(if ys.getLast?=some ⟨#[]⟩ then ys.dropLast else ys):=by
 have hback : ∀ zs : List ByteArray,(zs.map (·.data.toList)).map strOf=zs:=fun zs=>by
  rw [List.map_map]
  conv=>rhs; rw [← List.map_id zs]
  exact List.map_congr_left (fun z _=>by simp [strOf])
 have hl : ((cutL 13 b).getLast?=some []) ↔ (ys.getLast?=some ⟨#[]⟩):=by
  rw [← h,List.getLast?_map]
  cases hy : ys.getLast? with
  | none=>simp
  | some x =>
   simp only [Option.map_some,Option.some.injEq]
   constructor
   ·intro e; cases x with
    | mk d=>cases d; simp_all
   ·rintro rfl; rfl
 unfold segsOf
 by_cases hc : ys.getLast?=some ⟨#[]⟩
 ·rw [if_pos (hl.2 hc),if_pos hc,← h,← List.map_dropLast,hback]
 ·rw [if_neg (fun e=>hc (hl.1 e)),if_neg hc,← h,hback]
theorem segment_Split.calls (A0 : Option Addr) (c0 : Nat) (l0 : List Int) (r : List ByteArray) (w : World) (hr0 : Kd.C (Kd.int .u8) w A0 l0.length l0) (hc0 : l0.length≤c0) (h : segment_Split.f l0=some r) :
  Calls Tryd.prog 35 #[.slice A0 l0.length c0] w fun e w' => ∃ v0_ : Value,e = .returned (v0_)∧Kd.R Kd.string 9 w' w.heap.size (fun _=>True) v0_ r∧Below w.heap.size w w':=by
 unfold segment_Split.f at h
 by_cases hs : l0.length≤1000000000000
 ·rw [if_pos hs] at h
  obtain rfl:=Option.some.inj h
  refine (callsIn_wide.1 (split_in A0 c0 l0 w hr0 hc0 hs)).mono ?_
  rintro e w' ⟨⟨v,ys,B,rfl,hys,hB,ho⟩,hb⟩
  rw [segsOf_map hys]
  exact ⟨v,rfl,Kd.R_of_own (own_weaken ho hB) (fun _ _=>trivial),hb⟩
 ·rw [if_neg hs] at h
  cases h


/-! ### segment_Name: function 36 -/
def segment_Name.f (a0 : ByteArray) : Option (ByteArray):=if 0≤(mn (a0.size : Int) 3) then (if (mn (a0.size : Int) 3)≤(a0.size : Int) then (some (a0.extract 0 ((mn (a0.size : Int) 3) : Int).toNat)) else (none)) else (none)
theorem segment_Name.calls (a0 : ByteArray) (r : ByteArray) (w : World) (h : segment_Name.f a0=some r) :
  Calls Tryd.prog 36 #[.string a0] w fun e w'=>e = .returned (.string r)∧Below w.heap.size w w':=by
 have HB:=Aside0.mk (Below.refl w.heap.size w)
 have H : (if 0≤(mn (a0.size : Int) 3) then (if (mn (a0.size : Int) 3)≤(a0.size : Int) then (some (a0.extract 0 ((mn (a0.size : Int) 3) : Int).toNat)) else (none)) else (none))=some r:=h
 clear h
 obtain ⟨ji2,hji2⟩ : ∃ j_ : Int,(mn (a0.size : Int) 3)=j_:=⟨_,rfl⟩
 replace H : (if 0≤(ji2) then (if (ji2)≤(a0.size : Int) then (some (a0.extract 0 ((ji2) : Int).toNat)) else (none)) else (none))=some r:=by first | (rw [hji2] at H; exact H) | (simp only [hji2] at H ⊢; exact H)
 (try (have hji2h:ji2≤3:=by (rw [← hji2]; unfold mn; (repeat' split) <;> omega)))
 (try (have hji2g:ji2≤64:=by omega))
 (try (have hji2l:0≤ji2:=by (rw [← hji2]; unfold mn; (repeat' split) <;> omega)))
 (try (have hji2m:0≤ji2:=by omega))
 have hji2_ : (if 3 < (a0.size : Int) then 3 else (a0.size : Int))=ji2:=hji2
 by_cases c3 : 0≤(ji2)
 ·rw [if_pos c3] at H
  have c3b0:=eq_true c3
  have c3b1:decide (0≤(ji2))=true:=decide_eq_true c3
  clear c3
  by_cases c4 : (ji2)≤(a0.size : Int)
  ·rw [if_pos c4] at H
   have c4b0:=eq_true c4
   have c4b1:decide ((ji2)≤(a0.size : Int))=true:=decide_eq_true c4
   clear c4
   obtain rfl:=Option.some.inj H
   go_enter Tryd.func36,Tryd.ntmps36
   go_wp2
   go_ret
   exact ⟨by first | rfl | (simp [errW_none,errW_some] <;> rfl) | (simp only [← hji2]; first | rfl | (simp [errW_none,errW_some] <;> rfl)) | (simp [*,errW_none,errW_some] <;> rfl),by repeat (first | (with_reducible first | exact HB.out | apply bA | apply bN | apply bD) | exact HB.out)⟩
  ·rw [if_neg c4] at H
   exact absurd H (by simp)
 ·rw [if_neg c3] at H
  exact absurd H (by simp)

/-! ### stringslite_HasPrefix: function 92 -/
def stringslite_HasPrefix.f (a0 : ByteArray) (a1 : ByteArray) : Option (Bool):=if (a0.size : Int) ≥ (a1.size : Int) then (if 0≤(a1.size : Int) then (if (a1.size : Int)≤(a0.size : Int) then (some ((a0.extract 0 ((a1.size : Int) : Int).toNat).toList == a1.toList)) else (none)) else (none)) else (some false)
theorem stringslite_HasPrefix.calls (a0 : ByteArray) (a1 : ByteArray) (r : Bool) (w : World) (h : stringslite_HasPrefix.f a0 a1=some r) :
  Calls Tryd.prog 92 #[.string a0, .string a1] w fun e w'=>e = .returned (.bool r)∧Drawn0 w w':=by
 have H : (if (a0.size : Int) ≥ (a1.size : Int) then (if 0≤(a1.size : Int) then (if (a1.size : Int)≤(a0.size : Int) then (some ((a0.extract 0 ((a1.size : Int) : Int).toNat).toList == a1.toList)) else (none)) else (none)) else (some false))=some r:=h
 clear h
 by_cases c3 : (a0.size : Int) ≥ (a1.size : Int)
 ·rw [if_pos c3] at H
  have c3b0:decide ((a1.size : Int)≤(a0.size : Int))=true:=decide_eq_true c3
  have c3b1:decide (a1.size≤a0.size)=true:=decide_eq_true (Int.ofNat_le.mp c3)
  clear c3
  by_cases c4 : 0≤(a1.size : Int)
  ·rw [if_pos c4] at H
   have c4b0:=eq_true c4
   have c4b1:decide (0≤(a1.size : Int))=true:=decide_eq_true c4
   clear c4
   by_cases c5 : (a1.size : Int)≤(a0.size : Int)
   ·rw [if_pos c5] at H
    have c5b0:=eq_true c5
    have c5b1:decide ((a1.size : Int)≤(a0.size : Int))=true:=decide_eq_true c5
    clear c5
    obtain rfl:=Option.some.inj H
    go_enter Tryd.func92,Tryd.ntmps92
    go_wp2
    go_ret
    exact ⟨by first | rfl | (simp; done) | (simp [*]; done),by repeat (first | exact Drawn0.refl _ | apply Drawn0.step)⟩
   ·rw [if_neg c5] at H
    exact absurd H (by simp)
  ·rw [if_neg c4] at H
   exact absurd H (by simp)
 ·rw [if_neg c3] at H
  have c3b0:decide ((a1.size : Int)≤(a0.size : Int))=false:=decide_eq_false c3
  have c3b1:decide (a1.size≤a0.size)=false:=decide_eq_false (fun h=>c3 (Int.ofNat_le.mpr h))
  clear c3
  obtain rfl:=Option.some.inj H
  go_enter Tryd.func92,Tryd.ntmps92
  go_wp2
  go_ret
  exact ⟨by first | rfl | (simp; done) | (simp [*]; done),by repeat (first | exact Drawn0.refl _ | apply Drawn0.step)⟩

/-! ### stringslite_CutPrefix: function 87 -/
def stringslite_CutPrefix.f (a0 : ByteArray) (a1 : ByteArray) : Option (ByteArray × Bool):=(stringslite_HasPrefix.f a0 a1).bind fun t152=>(if t152=true then (if 0≤(a1.size : Int) then (if (a1.size : Int)≤(a0.size : Int) then (some (a0.extract ((a1.size : Int) : Int).toNat a0.size,true)) else (none)) else (none)) else (some (a0,false)))
theorem stringslite_CutPrefix.calls (a0 : ByteArray) (a1 : ByteArray) (r1 : ByteArray) (r2 : Bool) (w : World) (h : stringslite_CutPrefix.f a0 a1=some (r1,r2)) :
  Calls Tryd.prog 87 #[.string a0, .string a1] w fun e w'=>e = .returned (.tuple #[.string r1, .bool r2])∧Drawn0 w w':=by
 have H : ((stringslite_HasPrefix.f a0 a1).bind fun t152=>(if t152=true then (if 0≤(a1.size : Int) then (if (a1.size : Int)≤(a0.size : Int) then (some (a0.extract ((a1.size : Int) : Int).toNat a0.size,true)) else (none)) else (none)) else (some (a0,false))))=some (r1,r2):=h
 clear h
 replace H:=Option.bind_eq_some_iff.mp H
 obtain ⟨t152,A30,H⟩:=H
 replace H : (if t152=true then (if 0≤(a1.size : Int) then (if (a1.size : Int)≤(a0.size : Int) then (some (a0.extract ((a1.size : Int) : Int).toNat a0.size,true)) else (none)) else (none)) else (some (a0,false)))=some (r1,r2):=H
 have A3:=Aside0.mk A30
 clear A30
 by_cases c4 : t152=true
 ·subst c4
  have H1 : (if 0≤(a1.size : Int) then (if (a1.size : Int)≤(a0.size : Int) then (some (a0.extract ((a1.size : Int) : Int).toNat a0.size,true)) else (none)) else (none))=some (r1,r2):=by rw [if_pos rfl] at H; exact H
  clear H
  have H:=H1
  clear H1
  by_cases c5 : 0≤(a1.size : Int)
  ·rw [if_pos c5] at H
   have c5b0:=eq_true c5
   have c5b1:decide (0≤(a1.size : Int))=true:=decide_eq_true c5
   clear c5
   by_cases c6 : (a1.size : Int)≤(a0.size : Int)
   ·rw [if_pos c6] at H
    have c6b0:=eq_true c6
    have c6b1:decide ((a1.size : Int)≤(a0.size : Int))=true:=decide_eq_true c6
    clear c6
    simp only [Option.some.injEq,Prod.mk.injEq] at H
    obtain ⟨rfl,rfl⟩:=H
    go_enter Tryd.func87,Tryd.ntmps87
    go_wp2_with (first | ((with_reducible refine gate_callee (f:=92) rfl ?_); refine goesL_ (some 8) rfl rfl Tryd.func92 (by kernel_rfl) rfl #[.string a0, .string a1] rfl (by (try simp only [List.map_toArray,List.map_cons,List.map_nil]); first | done | rfl | (simp only [List.length_drop,List.length_take]; rfl)) ?_; (with_reducible refine (stringslite_HasPrefix.calls a0 a1 true _ A3.out).mono ?_); rintro e w' ⟨rfl,⟨nd,rfl⟩⟩; refine ⟨_,rfl,?_⟩))
    go_ret2
    exact ⟨by first | rfl | (simp; done) | (simp [*]; done),by repeat (first | exact Drawn0.refl _ | apply Drawn0.step)⟩
   ·rw [if_neg c6] at H
    exact absurd H (by simp)
  ·rw [if_neg c5] at H
   exact absurd H (by simp)
 ·replace c4:=Bool.eq_false_iff.mpr c4
  subst c4
  have H1 : (some (a0,false))=some (r1,r2):=by rw [if_neg (show ¬ (false=true) by decide)] at H; exact H
  clear H
  have H:=H1
  clear H1
  simp only [Option.some.injEq,Prod.mk.injEq] at H
  obtain ⟨rfl,rfl⟩:=H
  go_enter Tryd.func87,Tryd.ntmps87
  go_wp2_with (first | ((with_reducible refine gate_callee (f:=92) rfl ?_); refine goesL_ (some 8) rfl rfl Tryd.func92 (by kernel_rfl) rfl #[.string a0, .string a1] rfl (by (try simp only [List.map_toArray,List.map_cons,List.map_nil]); first | done | rfl | (simp only [List.length_drop,List.length_take]; rfl)) ?_; (with_reducible refine (stringslite_HasPrefix.calls a0 a1 false _ A3.out).mono ?_); rintro e w' ⟨rfl,⟨nd,rfl⟩⟩; refine ⟨_,rfl,?_⟩))
  go_ret2
  exact ⟨by first | rfl | (simp; done) | (simp [*]; done),by repeat (first | exact Drawn0.refl _ | apply Drawn0.step)⟩

/-! ### strings_CutPrefix: function 78 -/
def strings_CutPrefix.f (a0 : ByteArray) (a1 : ByteArray) : Option (ByteArray × Bool):=(stringslite_CutPrefix.f a0 a1).bind fun bt153=>(some (bt153.1,bt153.2))
theorem strings_CutPrefix.calls (a0 : ByteArray) (a1 : ByteArray) (r1 : ByteArray) (r2 : Bool) (w : World) (h : strings_CutPrefix.f a0 a1=some (r1,r2)) :
  Calls Tryd.prog 78 #[.string a0, .string a1] w fun e w'=>e = .returned (.tuple #[.string r1, .bool r2])∧Drawn0 w w':=by
 have H : ((stringslite_CutPrefix.f a0 a1).bind fun bt153=>(some (bt153.1,bt153.2)))=some (r1,r2):=h
 clear h
 replace H:=Option.bind_eq_some_iff.mp H
 obtain ⟨⟨t153,t154⟩,A30,H⟩:=H
 replace H : (some (t153,t154))=some (r1,r2):=H
 have A3:=Aside0.mk A30
 clear A30
 simp only [Option.some.injEq,Prod.mk.injEq] at H
 obtain ⟨rfl,rfl⟩:=H
 go_enter Tryd.func78,Tryd.ntmps78
 go_wp2_with (first | ((with_reducible refine gate_callee (f:=87) rfl ?_); refine goesL_ (some 8) rfl rfl Tryd.func87 (by kernel_rfl) rfl #[.string a0, .string a1] rfl (by (try simp only [List.map_toArray,List.map_cons,List.map_nil]); first | done | rfl | (simp only [List.length_drop,List.length_take]; rfl)) ?_; (with_reducible refine (stringslite_CutPrefix.calls a0 a1 t153 t154 _ A3.out).mono ?_); rintro e w' ⟨rfl,⟨nd,rfl⟩⟩; refine ⟨_,rfl,?_⟩))
 go_ret2
 exact ⟨by first | rfl | (simp; done) | (simp [*]; done),by repeat (first | exact Drawn0.refl _ | apply Drawn0.step)⟩

/-! ### segment_field: function 64 -/
def segment_field.f (a0 : ByteArray) (a1 : Int) (a2_0 : Int) (a2_1 : Int) (a2_2 : Int) (a2_3 : Int) (a2_4 : Int) : Option (ByteArray × Int):=(segment_Name.f a0).bind fun t156=>(if t156.toList=([77,83,72] : List UInt8) then ((some (([a2_0] : List Int) : List Int)).bind fun y165=>(if 3 + (strOfNums y165).size≤9223372036854775807 then ((strings_CutPrefix.f a0 ((⟨#[77,83,72]⟩ : ByteArray) ++ (strOfNums y165))).bind fun bt168=>(if bt168.2=true then ((segment_nth.f bt168.1 a2_0 (wrap64 (a1 - 1))).bind fun bt170=>(if a1=1 then (some (strOfNums (([a2_0] : List Int)),wrap64 (bt170.2 + 1))) else (some (bt170.1,wrap64 (bt170.2 + 1))))) else (some ((⟨#[]⟩ : ByteArray),0)))) else (none))) else ((strings_Cut.f a0 (strOfNums (([a2_0] : List Int)))).bind fun bt160=>(if bt160.2.2=true then ((segment_nth.f bt160.2.1 a2_0 a1).bind fun bt163=>(some (bt163.1,bt163.2))) else (some ((⟨#[]⟩ : ByteArray),0)))))
theorem segment_field.calls (a0 : ByteArray) (a1 : Int) (a2_0 : Int) (a2_1 : Int) (a2_2 : Int) (a2_3 : Int) (a2_4 : Int) (r1 : ByteArray) (r2 : Int) (w : World) (h : segment_field.f a0 a1 a2_0 a2_1 a2_2 a2_3 a2_4=some (r1,r2)) :
  Calls Tryd.prog 64 #[.string a0, .int .i64 a1, .agg #[.int .u8 a2_0, .int .u8 a2_1, .int .u8 a2_2, .int .u8 a2_3, .int .u8 a2_4]] w fun e w'=>e = .returned (.tuple #[.string r1, .int .i64 r2])∧Below w.heap.size w w':=by
 have hu23:=Tryd.underlying23
 have HB:=Aside0.mk (Below.refl w.heap.size w)
 have H : ((segment_Name.f a0).bind fun t156=>(if t156.toList=([77,83,72] : List UInt8) then ((some (([a2_0] : List Int) : List Int)).bind fun y165=>(if 3 + (strOfNums y165).size≤9223372036854775807 then ((strings_CutPrefix.f a0 ((⟨#[77,83,72]⟩ : ByteArray) ++ (strOfNums y165))).bind fun bt168=>(if bt168.2=true then ((segment_nth.f bt168.1 a2_0 (wrap64 (a1 - 1))).bind fun bt170=>(if a1=1 then (some (strOfNums (([a2_0] : List Int)),wrap64 (bt170.2 + 1))) else (some (bt170.1,wrap64 (bt170.2 + 1))))) else (some ((⟨#[]⟩ : ByteArray),0)))) else (none))) else ((strings_Cut.f a0 (strOfNums (([a2_0] : List Int)))).bind fun bt160=>(if bt160.2.2=true then ((segment_nth.f bt160.2.1 a2_0 a1).bind fun bt163=>(some (bt163.1,bt163.2))) else (some ((⟨#[]⟩ : ByteArray),0))))))=some (r1,r2):=h
 clear h
 replace H:=Option.bind_eq_some_iff.mp H
 obtain ⟨t156,A40,H⟩:=H
 replace H : (if t156.toList=([77,83,72] : List UInt8) then ((some (([a2_0] : List Int) : List Int)).bind fun y165=>(if 3 + (strOfNums y165).size≤9223372036854775807 then ((strings_CutPrefix.f a0 ((⟨#[77,83,72]⟩ : ByteArray) ++ (strOfNums y165))).bind fun bt168=>(if bt168.2=true then ((segment_nth.f bt168.1 a2_0 (wrap64 (a1 - 1))).bind fun bt170=>(if a1=1 then (some (strOfNums (([a2_0] : List Int)),wrap64 (bt170.2 + 1))) else (some (bt170.1,wrap64 (bt170.2 + 1))))) else (some ((⟨#[]⟩ : ByteArray),0)))) else (none))) else ((strings_Cut.f a0 (strOfNums (([a2_0] : List Int)))).bind fun bt160=>(if bt160.2.2=true then ((segment_nth.f bt160.2.1 a2_0 a1).bind fun bt163=>(some (bt163.1,bt163.2))) else (some ((⟨#[]⟩ : ByteArray),0)))))=some (r1,r2):=H
 have A4:=Aside0.mk A40
 clear A40
 by_cases c5 : t156.toList=([77,83,72] : List UInt8)
 ·rw [if_pos c5] at H
  have c5b0 : (t156.toList == ([77,83,72] : List UInt8))=true:=beq_iff_eq.mpr c5
  have c5b1 : (t156.toList != ([77,83,72] : List UInt8))=false:=bne_eq_false_iff_eq.mpr c5
  clear c5
  obtain ⟨y165,hy165⟩ : ∃ y_ : List Int,y_=(([a2_0] : List Int)):=⟨_,rfl⟩
  replace H : (if 3 + (strOfNums y165).size≤9223372036854775807 then ((strings_CutPrefix.f a0 ((⟨#[77,83,72]⟩ : ByteArray) ++ (strOfNums y165))).bind fun bt168=>(if bt168.2=true then ((segment_nth.f bt168.1 a2_0 (wrap64 (a1 - 1))).bind fun bt170=>(if a1=1 then (some (strOfNums (([a2_0] : List Int)),wrap64 (bt170.2 + 1))) else (some (bt170.1,wrap64 (bt170.2 + 1))))) else (some ((⟨#[]⟩ : ByteArray),0)))) else (none))=some (r1,r2):=by first | (rw [hy165]; with_reducible exact H) | (have H2_:=(Option.bind_some _ _).symm.trans H; rw [hy165]; with_reducible exact H2_) | (have H2_:=(Option.bind_some _ _).symm.trans H; with_reducible exact H2_) | with_reducible exact H | (rw [hy165]; exact H) | exact H
  have Ny165:=Aside0.mk hy165
  clear hy165
  by_cases c6 : 3 + (strOfNums y165).size≤9223372036854775807
  ·rw [if_pos c6] at H
   have c6b0:=eq_true c6
   have c6b1:decide (3 + (strOfNums y165).size≤9223372036854775807)=true:=decide_eq_true c6
   try have c6b2 : (9223372036854775807 < 3 + (strOfNums y165).size)=False:=eq_false (Nat.not_lt.2 c6)
   try (have c6b4:=c6b2; simp only [ByteArray.size_append] at c6b4)
   replace H:=Option.bind_eq_some_iff.mp H
   obtain ⟨⟨t168,t169⟩,A70,H⟩:=H
   replace H : (if t169=true then ((segment_nth.f t168 a2_0 (wrap64 (a1 - 1))).bind fun bt170=>(if a1=1 then (some (strOfNums (([a2_0] : List Int)),wrap64 (bt170.2 + 1))) else (some (bt170.1,wrap64 (bt170.2 + 1))))) else (some ((⟨#[]⟩ : ByteArray),0)))=some (r1,r2):=H
   have A7:=Aside0.mk A70
   clear A70
   by_cases c8 : t169=true
   ·subst c8
    have H1 : ((segment_nth.f t168 a2_0 (wrap64 (a1 - 1))).bind fun bt170=>(if a1=1 then (some (strOfNums (([a2_0] : List Int)),wrap64 (bt170.2 + 1))) else (some (bt170.1,wrap64 (bt170.2 + 1)))))=some (r1,r2):=by rw [if_pos rfl] at H; exact H
    clear H
    have H:=H1
    clear H1
    replace H:=Option.bind_eq_some_iff.mp H
    obtain ⟨⟨t170,t171⟩,A90,H⟩:=H
    replace H : (if a1=1 then (some (strOfNums (([a2_0] : List Int)),wrap64 (t171 + 1))) else (some (t170,wrap64 (t171 + 1))))=some (r1,r2):=H
    have A9:=Aside0.mk A90
    clear A90
    by_cases c10 : a1=1
    ·rw [if_pos c10] at H
     have c10b0 : (a1 == 1)=true:=beq_iff_eq.mpr c10
     have c10b1 : (a1 != 1)=false:=bne_eq_false_iff_eq.mpr c10
     clear c10
     obtain ⟨y172,hy172⟩ : ∃ y_ : List Int,y_=(([a2_0] : List Int)):=⟨_,rfl⟩
     replace H : (some (strOfNums y172,wrap64 (t171 + 1)))=some (r1,r2):=by first | (rw [hy172]; with_reducible exact H) | (have H2_:=(Option.bind_some _ _).symm.trans H; rw [hy172]; with_reducible exact H2_) | (have H2_:=(Option.bind_some _ _).symm.trans H; with_reducible exact H2_) | with_reducible exact H | (rw [hy172]; exact H) | exact H
     have Ny172:=Aside0.mk hy172
     clear hy172
     simp only [Option.some.injEq,Prod.mk.injEq] at H
     obtain ⟨rfl,rfl⟩:=H
     go_enter Tryd.func64,Tryd.ntmps64
     go_wp2_with (first | ((with_reducible refine gate_dst (N:=5) rfl ?_); refine box_event ?hg (N:=5) ?hd (cs:=#[.int .u8 a2_0, .int .u8 a2_1, .int .u8 a2_2, .int .u8 a2_3, .int .u8 a2_4]) (t:=23) ?hr ?_; (case hd=>rfl); (case hg=>rfl); (case hr=>first | (go_simp; done) | (go_simp; rfl)); intro gb155 hg w11 hbox hb; have n0_:=Aside0.mk (below_step (by repeat (first | (with_reducible first | exact HB.out | apply bA | apply bN | apply bD) | exact HB.out)) hb); have n1_:=Aside0.mk (hbox); have n2_:=Aside0.mk ((by rw [hg]; exact (below_size (by repeat (first | (with_reducible first | exact HB.out | apply bA | apply bN | apply bD) | exact HB.out))) : w.heap.size≤gb155)); have n3_:=Aside0.mk ((by rw [hg]; exact (below_size (by repeat (first | (with_reducible first | exact HB.out | apply bA | apply bN | apply bD) | exact HB.out))) : w.heap.size≤gb155)); clear HB; have HB:=n0_; have BK155:=n1_; have GW155:=n2_; have GE155:=n3_; clear n0_ n1_ n2_ n3_; clear hb hbox hg) | ((with_reducible refine gate_callee (f:=36) rfl ?_); refine goesL_ (some 16) rfl rfl Tryd.func36 (by kernel_rfl) rfl #[.string a0] rfl (by (try simp only [List.map_toArray,List.map_cons,List.map_nil]); first | done | rfl | (simp only [List.length_drop,List.length_take]; rfl)) ?_; (with_reducible refine (segment_Name.calls a0 t156 _ A4.out).mono ?_); rintro e w12 ⟨rfl,hb⟩; refine ⟨_,rfl,?_⟩; have n0_:=Aside0.mk (blk_below (g:=gb155) (o := .cells #[.int .u8 a2_0, .int .u8 a2_1, .int .u8 a2_2, .int .u8 a2_3, .int .u8 a2_4] 23 (0,0)) (by (with_reducible repeat (first | refine kN ?_ _ | refine kD ?_ | refine kA ?_ _)); exact BK155.out) hb); have n1_:=Aside0.mk (below_step (by repeat (first | (with_reducible first | exact HB.out | apply bA | apply bN | apply bD | refine below_set ?_ GE155.out) | exact HB.out)) hb); clear BK155; clear HB; have BK155:=n0_; have HB:=n1_; clear n0_ n1_; (try clear hb); have hcz13_0:w12.cell? ⟨gb155,0,none⟩=some (.int .u8 a2_0):=blk_cell BK155.out 0; have hcz13_1:w12.cell? ⟨gb155,1,none⟩=some (.int .u8 a2_1):=blk_cell BK155.out 1; have hcz13_2:w12.cell? ⟨gb155,2,none⟩=some (.int .u8 a2_2):=blk_cell BK155.out 2; have hcz13_3:w12.cell? ⟨gb155,3,none⟩=some (.int .u8 a2_3):=blk_cell BK155.out 3; have hcz13_4:w12.cell? ⟨gb155,4,none⟩=some (.int .u8 a2_4):=blk_cell BK155.out 4; have hfz13_0:=blk_frozen BK155.out 0; have hfz13_1:=blk_frozen BK155.out 1; have hfz13_2:=blk_frozen BK155.out 2; have hfz13_3:=blk_frozen BK155.out 3; have hfz13_4:=blk_frozen BK155.out 4) | ((with_reducible refine gate_dst (N:=41) rfl ?_); refine Kd.R_lit (Kd.int .u8) _ 5 ?hg (N:=41) ?hd (xs:=([a2_0] : List Int)) (inner:=[.int .u8 a2_0]) (ok:=fun _=>True) (okp:=fun _=>True) ?hr ?hp (fun _ hk=>hk) trivial (Below.refl _ _) (Nat.le_refl _) (by simp) ?_; (case hd=>rfl); (case hg=>rfl); (case hr=>first | (go_simp; done) | (go_simp; rfl)); (case hp=>exact (Reps.one (show Kd.M (Kd.int .u8) _ _ _ a2_0 [.int .u8 a2_0] from rfl) (Reps.none _ _))); intro v166 w14 ho15 hb hg_ hnew_; clear hg_ hnew_; (first | rw [← Ny165.out] at ho15 | (simp only [Int.reduceToNat] at ho15; rw [← Ny165.out] at ho15)); have n0_:=Aside0.mk (Kd.R_lower ho15 (below_size (by repeat (first | (with_reducible first | exact HB.out | apply bA | apply bN | apply bD | refine below_set ?_ GE155.out) | exact HB.out)))); have n1_:=Aside0.mk (blk_below (g:=gb155) (o := .cells #[.int .u8 a2_0, .int .u8 a2_1, .int .u8 a2_2, .int .u8 a2_3, .int .u8 a2_4] 23 (0,0)) (by (with_reducible repeat (first | refine kN ?_ _ | refine kD ?_ | refine kA ?_ _)); exact BK155.out) hb); have n2_:=Aside0.mk (below_step (by repeat (first | (with_reducible first | exact HB.out | apply bA | apply bN | apply bD | refine below_set ?_ GE155.out) | exact HB.out)) hb); clear BK155; clear HB; have HO167:=n0_; have BK155:=n1_; have HB:=n2_; clear n0_ n1_ n2_; clear hb ho15; have hcv16:=own_string (P:=Tryd.prog) Tryd.underlying26 Tryd.underlying5 Tryd.underlying9 (Kd.own_of_R HO167.out)) | ((with_reducible refine gate_callee (f:=78) rfl ?_); refine goesL_ (some 44) rfl rfl Tryd.func78 (by kernel_rfl) rfl #[.string a0, .string ((⟨#[77,83,72]⟩ : ByteArray) ++ (strOfNums y165))] rfl (by (try simp only [List.map_toArray,List.map_cons,List.map_nil]); first | done | rfl | (simp only [List.length_drop,List.length_take]; rfl)) ?_; (with_reducible refine (strings_CutPrefix.calls a0 ((⟨#[77,83,72]⟩ : ByteArray) ++ (strOfNums y165)) t168 true _ A7.out).mono ?_); rintro e w' ⟨rfl,⟨nd,rfl⟩⟩; refine ⟨_,rfl,?_⟩; have hcz17_0:w14.cell? ⟨gb155,0,none⟩=some (.int .u8 a2_0):=blk_cell BK155.out 0; have hcz17_1:w14.cell? ⟨gb155,1,none⟩=some (.int .u8 a2_1):=blk_cell BK155.out 1; have hcz17_2:w14.cell? ⟨gb155,2,none⟩=some (.int .u8 a2_2):=blk_cell BK155.out 2; have hcz17_3:w14.cell? ⟨gb155,3,none⟩=some (.int .u8 a2_3):=blk_cell BK155.out 3; have hcz17_4:w14.cell? ⟨gb155,4,none⟩=some (.int .u8 a2_4):=blk_cell BK155.out 4; have hfz17_0:=blk_frozen BK155.out 0; have hfz17_1:=blk_frozen BK155.out 1; have hfz17_2:=blk_frozen BK155.out 2; have hfz17_3:=blk_frozen BK155.out 3; have hfz17_4:=blk_frozen BK155.out 4) | ((with_reducible refine gate_callee (f:=75) rfl ?_); refine goesL_ (some 55) rfl rfl Tryd.func75 (by kernel_rfl) rfl #[.string t168, .int .u8 a2_0, .int .i64 (wrap64 (a1 - 1))] rfl (by (try simp only [List.map_toArray,List.map_cons,List.map_nil]); first | done | rfl | (simp only [List.length_drop,List.length_take]; rfl)) ?_; (with_reducible refine (segment_nth.calls t168 a2_0 (wrap64 (a1 - 1)) t170 t171 _ A9.out).mono ?_); rintro e w18 ⟨rfl,hb⟩; refine ⟨_,rfl,?_⟩; have n0_:=Aside0.mk (Kd.R_below (by (with_reducible repeat (first | apply Kd.R_alloc | apply Kd.R_drewN | apply Kd.R_drew)); exact HO167.out) hb); have n1_:=Aside0.mk (blk_below (g:=gb155) (o := .cells #[.int .u8 a2_0, .int .u8 a2_1, .int .u8 a2_2, .int .u8 a2_3, .int .u8 a2_4] 23 (0,0)) (by (with_reducible repeat (first | refine kN ?_ _ | refine kD ?_ | refine kA ?_ _)); exact BK155.out) hb); have n2_:=Aside0.mk (below_step (by repeat (first | (with_reducible first | exact HB.out | apply bA | apply bN | apply bD | refine below_set ?_ GE155.out) | exact HB.out)) hb); clear HO167; clear BK155; clear HB; have HO167:=n0_; have BK155:=n1_; have HB:=n2_; clear n0_ n1_ n2_; (try clear hb); have hcz19_0:w18.cell? ⟨gb155,0,none⟩=some (.int .u8 a2_0):=blk_cell BK155.out 0; have hcz19_1:w18.cell? ⟨gb155,1,none⟩=some (.int .u8 a2_1):=blk_cell BK155.out 1; have hcz19_2:w18.cell? ⟨gb155,2,none⟩=some (.int .u8 a2_2):=blk_cell BK155.out 2; have hcz19_3:w18.cell? ⟨gb155,3,none⟩=some (.int .u8 a2_3):=blk_cell BK155.out 3; have hcz19_4:w18.cell? ⟨gb155,4,none⟩=some (.int .u8 a2_4):=blk_cell BK155.out 4; have hfz19_0:=blk_frozen BK155.out 0; have hfz19_1:=blk_frozen BK155.out 1; have hfz19_2:=blk_frozen BK155.out 2; have hfz19_3:=blk_frozen BK155.out 3; have hfz19_4:=blk_frozen BK155.out 4) | ((with_reducible refine gate_dst (N:=62) rfl ?_); refine Kd.R_lit (Kd.int .u8) _ 5 ?hg (N:=62) ?hd (xs:=([a2_0] : List Int)) (inner:=[.int .u8 a2_0]) (ok:=fun _=>True) (okp:=fun _=>True) ?hr ?hp (fun _ hk=>hk) trivial (Below.refl _ _) (Nat.le_refl _) (by simp) ?_; (case hd=>rfl); (case hg=>rfl); (case hr=>first | (go_simp; done) | (go_simp; rfl)); (case hp=>exact (Reps.one (show Kd.M (Kd.int .u8) _ _ _ a2_0 [.int .u8 a2_0] from rfl) (Reps.none _ _))); intro v173 w20 ho21 hb hg_ hnew_; clear hg_ hnew_; (first | rw [← Ny172.out] at ho21 | (simp only [Int.reduceToNat] at ho21; rw [← Ny172.out] at ho21)); have n0_:=Aside0.mk (Kd.R_elder' (by (with_reducible repeat (first | apply Kd.R_alloc | apply Kd.R_drewN | apply Kd.R_drew)); exact HO167.out) (Kd.R_base ho21) hb); have n1_:=Aside0.mk (Kd.R_lower (Kd.R_new' ho21 (Kd.R_lt (by (with_reducible repeat (first | apply Kd.R_alloc | apply Kd.R_drewN | apply Kd.R_drew)); exact HO167.out))) (below_size (by repeat (first | (with_reducible first | exact HB.out | apply bA | apply bN | apply bD | refine below_set ?_ GE155.out) | exact HB.out)))); have n2_:=Aside0.mk (blk_below (g:=gb155) (o := .cells #[.int .u8 a2_0, .int .u8 a2_1, .int .u8 a2_2, .int .u8 a2_3, .int .u8 a2_4] 23 (0,0)) (by (with_reducible repeat (first | refine kN ?_ _ | refine kD ?_ | refine kA ?_ _)); exact BK155.out) hb); have n3_:=Aside0.mk (below_step (by repeat (first | (with_reducible first | exact HB.out | apply bA | apply bN | apply bD | refine below_set ?_ GE155.out) | exact HB.out)) hb); clear HO167; clear BK155; clear HB; have HO167:=n0_; have HO174:=n1_; have BK155:=n2_; have HB:=n3_; clear n0_ n1_ n2_ n3_; clear hb ho21; have hcv22:=own_string (P:=Tryd.prog) Tryd.underlying26 Tryd.underlying5 Tryd.underlying9 (Kd.own_of_R HO174.out)))
     go_ret2
     exact ⟨by first | rfl | (simp [errW_none,errW_some] <;> rfl) | (simp [*,errW_none,errW_some] <;> rfl),by repeat (first | (with_reducible first | exact HB.out | apply bA | apply bN | apply bD | refine below_set ?_ GE155.out) | exact HB.out)⟩
    ·rw [if_neg c10] at H
     have c10b0 : (a1 == 1)=false:=beq_eq_false_iff_ne.mpr c10
     have c10b1 : (a1 != 1)=true:=bne_iff_ne.mpr c10
     simp only [Option.some.injEq,Prod.mk.injEq] at H
     obtain ⟨rfl,rfl⟩:=H
     go_enter Tryd.func64,Tryd.ntmps64
     go_wp2_with (first | ((with_reducible refine gate_dst (N:=5) rfl ?_); refine box_event ?hg (N:=5) ?hd (cs:=#[.int .u8 a2_0, .int .u8 a2_1, .int .u8 a2_2, .int .u8 a2_3, .int .u8 a2_4]) (t:=23) ?hr ?_; (case hd=>rfl); (case hg=>rfl); (case hr=>first | (go_simp; done) | (go_simp; rfl)); intro gb155 hg w23 hbox hb; have n0_:=Aside0.mk (below_step (by repeat (first | (with_reducible first | exact HB.out | apply bA | apply bN | apply bD) | exact HB.out)) hb); have n1_:=Aside0.mk (hbox); have n2_:=Aside0.mk ((by rw [hg]; exact (below_size (by repeat (first | (with_reducible first | exact HB.out | apply bA | apply bN | apply bD) | exact HB.out))) : w.heap.size≤gb155)); have n3_:=Aside0.mk ((by rw [hg]; exact (below_size (by repeat (first | (with_reducible first | exact HB.out | apply bA | apply bN | apply bD) | exact HB.out))) : w.heap.size≤gb155)); clear HB; have HB:=n0_; have BK155:=n1_; have GW155:=n2_; have GE155:=n3_; clear n0_ n1_ n2_ n3_; clear hb hbox hg) | ((with_reducible refine gate_callee (f:=36) rfl ?_); refine goesL_ (some 16) rfl rfl Tryd.func36 (by kernel_rfl) rfl #[.string a0] rfl (by (try simp only [List.map_toArray,List.map_cons,List.map_nil]); first | done | rfl | (simp only [List.length_drop,List.length_take]; rfl)) ?_; (with_reducible refine (segment_Name.calls a0 t156 _ A4.out).mono ?_); rintro e w24 ⟨rfl,hb⟩; refine ⟨_,rfl,?_⟩; have n0_:=Aside0.mk (blk_below (g:=gb155) (o := .cells #[.int .u8 a2_0, .int .u8 a2_1, .int .u8 a2_2, .int .u8 a2_3, .int .u8 a2_4] 23 (0,0)) (by (with_reducible repeat (first | refine kN ?_ _ | refine kD ?_ | refine kA ?_ _)); exact BK155.out) hb); have n1_:=Aside0.mk (below_step (by repeat (first | (with_reducible first | exact HB.out | apply bA | apply bN | apply bD | refine below_set ?_ GE155.out) | exact HB.out)) hb); clear BK155; clear HB; have BK155:=n0_; have HB:=n1_; clear n0_ n1_; (try clear hb); have hcz25_0:w24.cell? ⟨gb155,0,none⟩=some (.int .u8 a2_0):=blk_cell BK155.out 0; have hcz25_1:w24.cell? ⟨gb155,1,none⟩=some (.int .u8 a2_1):=blk_cell BK155.out 1; have hcz25_2:w24.cell? ⟨gb155,2,none⟩=some (.int .u8 a2_2):=blk_cell BK155.out 2; have hcz25_3:w24.cell? ⟨gb155,3,none⟩=some (.int .u8 a2_3):=blk_cell BK155.out 3; have hcz25_4:w24.cell? ⟨gb155,4,none⟩=some (.int .u8 a2_4):=blk_cell BK155.out 4; have hfz25_0:=blk_frozen BK155.out 0; have hfz25_1:=blk_frozen BK155.out 1; have hfz25_2:=blk_frozen BK155.out 2; have hfz25_3:=blk_frozen BK155.out 3; have hfz25_4:=blk_frozen BK155.out 4) | ((with_reducible refine gate_dst (N:=41) rfl ?_); refine Kd.R_lit (Kd.int .u8) _ 5 ?hg (N:=41) ?hd (xs:=([a2_0] : List Int)) (inner:=[.int .u8 a2_0]) (ok:=fun _=>True) (okp:=fun _=>True) ?hr ?hp (fun _ hk=>hk) trivial (Below.refl _ _) (Nat.le_refl _) (by simp) ?_; (case hd=>rfl); (case hg=>rfl); (case hr=>first | (go_simp; done) | (go_simp; rfl)); (case hp=>exact (Reps.one (show Kd.M (Kd.int .u8) _ _ _ a2_0 [.int .u8 a2_0] from rfl) (Reps.none _ _))); intro v166 w26 ho27 hb hg_ hnew_; clear hg_ hnew_; (first | rw [← Ny165.out] at ho27 | (simp only [Int.reduceToNat] at ho27; rw [← Ny165.out] at ho27)); have n0_:=Aside0.mk (Kd.R_lower ho27 (below_size (by repeat (first | (with_reducible first | exact HB.out | apply bA | apply bN | apply bD | refine below_set ?_ GE155.out) | exact HB.out)))); have n1_:=Aside0.mk (blk_below (g:=gb155) (o := .cells #[.int .u8 a2_0, .int .u8 a2_1, .int .u8 a2_2, .int .u8 a2_3, .int .u8 a2_4] 23 (0,0)) (by (with_reducible repeat (first | refine kN ?_ _ | refine kD ?_ | refine kA ?_ _)); exact BK155.out) hb); have n2_:=Aside0.mk (below_step (by repeat (first | (with_reducible first | exact HB.out | apply bA | apply bN | apply bD | refine below_set ?_ GE155.out) | exact HB.out)) hb); clear BK155; clear HB; have HO167:=n0_; have BK155:=n1_; have HB:=n2_; clear n0_ n1_ n2_; clear hb ho27; have hcv28:=own_string (P:=Tryd.prog) Tryd.underlying26 Tryd.underlying5 Tryd.underlying9 (Kd.own_of_R HO167.out)) | ((with_reducible refine gate_callee (f:=78) rfl ?_); refine goesL_ (some 44) rfl rfl Tryd.func78 (by kernel_rfl) rfl #[.string a0, .string ((⟨#[77,83,72]⟩ : ByteArray) ++ (strOfNums y165))] rfl (by (try simp only [List.map_toArray,List.map_cons,List.map_nil]); first | done | rfl | (simp only [List.length_drop,List.length_take]; rfl)) ?_; (with_reducible refine (strings_CutPrefix.calls a0 ((⟨#[77,83,72]⟩ : ByteArray) ++ (strOfNums y165)) t168 true _ A7.out).mono ?_); rintro e w' ⟨rfl,⟨nd,rfl⟩⟩; refine ⟨_,rfl,?_⟩; have hcz29_0:w26.cell? ⟨gb155,0,none⟩=some (.int .u8 a2_0):=blk_cell BK155.out 0; have hcz29_1:w26.cell? ⟨gb155,1,none⟩=some (.int .u8 a2_1):=blk_cell BK155.out 1; have hcz29_2:w26.cell? ⟨gb155,2,none⟩=some (.int .u8 a2_2):=blk_cell BK155.out 2; have hcz29_3:w26.cell? ⟨gb155,3,none⟩=some (.int .u8 a2_3):=blk_cell BK155.out 3; have hcz29_4:w26.cell? ⟨gb155,4,none⟩=some (.int .u8 a2_4):=blk_cell BK155.out 4; have hfz29_0:=blk_frozen BK155.out 0; have hfz29_1:=blk_frozen BK155.out 1; have hfz29_2:=blk_frozen BK155.out 2; have hfz29_3:=blk_frozen BK155.out 3; have hfz29_4:=blk_frozen BK155.out 4) | ((with_reducible refine gate_callee (f:=75) rfl ?_); refine goesL_ (some 55) rfl rfl Tryd.func75 (by kernel_rfl) rfl #[.string t168, .int .u8 a2_0, .int .i64 (wrap64 (a1 - 1))] rfl (by (try simp only [List.map_toArray,List.map_cons,List.map_nil]); first | done | rfl | (simp only [List.length_drop,List.length_take]; rfl)) ?_; (with_reducible refine (segment_nth.calls t168 a2_0 (wrap64 (a1 - 1)) t170 t171 _ A9.out).mono ?_); rintro e w30 ⟨rfl,hb⟩; refine ⟨_,rfl,?_⟩; have n0_:=Aside0.mk (Kd.R_below (by (with_reducible repeat (first | apply Kd.R_alloc | apply Kd.R_drewN | apply Kd.R_drew)); exact HO167.out) hb); have n1_:=Aside0.mk (blk_below (g:=gb155) (o := .cells #[.int .u8 a2_0, .int .u8 a2_1, .int .u8 a2_2, .int .u8 a2_3, .int .u8 a2_4] 23 (0,0)) (by (with_reducible repeat (first | refine kN ?_ _ | refine kD ?_ | refine kA ?_ _)); exact BK155.out) hb); have n2_:=Aside0.mk (below_step (by repeat (first | (with_reducible first | exact HB.out | apply bA | apply bN | apply bD | refine below_set ?_ GE155.out) | exact HB.out)) hb); clear HO167; clear BK155; clear HB; have HO167:=n0_; have BK155:=n1_; have HB:=n2_; clear n0_ n1_ n2_; (try clear hb)))
     go_ret2
     exact ⟨by first | rfl | (simp [errW_none,errW_some] <;> rfl) | (simp [*,errW_none,errW_some] <;> rfl),by repeat (first | (with_reducible first | exact HB.out | apply bA | apply bN | apply bD | refine below_set ?_ GE155.out) | exact HB.out)⟩
   ·replace c8:=Bool.eq_false_iff.mpr c8
    subst c8
    have H1 : (some ((⟨#[]⟩ : ByteArray),0))=some (r1,r2):=by rw [if_neg (show ¬ (false=true) by decide)] at H; exact H
    clear H
    have H:=H1
    clear H1
    simp only [Option.some.injEq,Prod.mk.injEq] at H
    obtain ⟨rfl,rfl⟩:=H
    go_enter Tryd.func64,Tryd.ntmps64
    go_wp2_with (first | ((with_reducible refine gate_dst (N:=5) rfl ?_); refine box_event ?hg (N:=5) ?hd (cs:=#[.int .u8 a2_0, .int .u8 a2_1, .int .u8 a2_2, .int .u8 a2_3, .int .u8 a2_4]) (t:=23) ?hr ?_; (case hd=>rfl); (case hg=>rfl); (case hr=>first | (go_simp; done) | (go_simp; rfl)); intro gb155 hg w31 hbox hb; have n0_:=Aside0.mk (below_step (by repeat (first | (with_reducible first | exact HB.out | apply bA | apply bN | apply bD) | exact HB.out)) hb); have n1_:=Aside0.mk (hbox); have n2_:=Aside0.mk ((by rw [hg]; exact (below_size (by repeat (first | (with_reducible first | exact HB.out | apply bA | apply bN | apply bD) | exact HB.out))) : w.heap.size≤gb155)); have n3_:=Aside0.mk ((by rw [hg]; exact (below_size (by repeat (first | (with_reducible first | exact HB.out | apply bA | apply bN | apply bD) | exact HB.out))) : w.heap.size≤gb155)); clear HB; have HB:=n0_; have BK155:=n1_; have GW155:=n2_; have GE155:=n3_; clear n0_ n1_ n2_ n3_; clear hb hbox hg) | ((with_reducible refine gate_callee (f:=36) rfl ?_); refine goesL_ (some 16) rfl rfl Tryd.func36 (by kernel_rfl) rfl #[.string a0] rfl (by (try simp only [List.map_toArray,List.map_cons,List.map_nil]); first | done | rfl | (simp only [List.length_drop,List.length_take]; rfl)) ?_; (with_reducible refine (segment_Name.calls a0 t156 _ A4.out).mono ?_); rintro e w32 ⟨rfl,hb⟩; refine ⟨_,rfl,?_⟩; have n0_:=Aside0.mk (blk_below (g:=gb155) (o := .cells #[.int .u8 a2_0, .int .u8 a2_1, .int .u8 a2_2, .int .u8 a2_3, .int .u8 a2_4] 23 (0,0)) (by (with_reducible repeat (first | refine kN ?_ _ | refine kD ?_ | refine kA ?_ _)); exact BK155.out) hb); have n1_:=Aside0.mk (below_step (by repeat (first | (with_reducible first | exact HB.out | apply bA | apply bN | apply bD | refine below_set ?_ GE155.out) | exact HB.out)) hb); clear BK155; clear HB; have BK155:=n0_; have HB:=n1_; clear n0_ n1_; (try clear hb); have hcz33_0:w32.cell? ⟨gb155,0,none⟩=some (.int .u8 a2_0):=blk_cell BK155.out 0; have hcz33_1:w32.cell? ⟨gb155,1,none⟩=some (.int .u8 a2_1):=blk_cell BK155.out 1; have hcz33_2:w32.cell? ⟨gb155,2,none⟩=some (.int .u8 a2_2):=blk_cell BK155.out 2; have hcz33_3:w32.cell? ⟨gb155,3,none⟩=some (.int .u8 a2_3):=blk_cell BK155.out 3; have hcz33_4:w32.cell? ⟨gb155,4,none⟩=some (.int .u8 a2_4):=blk_cell BK155.out 4; have hfz33_0:=blk_frozen BK155.out 0; have hfz33_1:=blk_frozen BK155.out 1; have hfz33_2:=blk_frozen BK155.out 2; have hfz33_3:=blk_frozen BK155.out 3; have hfz33_4:=blk_frozen BK155.out 4) | ((with_reducible refine gate_dst (N:=41) rfl ?_); refine Kd.R_lit (Kd.int .u8) _ 5 ?hg (N:=41) ?hd (xs:=([a2_0] : List Int)) (inner:=[.int .u8 a2_0]) (ok:=fun _=>True) (okp:=fun _=>True) ?hr ?hp (fun _ hk=>hk) trivial (Below.refl _ _) (Nat.le_refl _) (by simp) ?_; (case hd=>rfl); (case hg=>rfl); (case hr=>first | (go_simp; done) | (go_simp; rfl)); (case hp=>exact (Reps.one (show Kd.M (Kd.int .u8) _ _ _ a2_0 [.int .u8 a2_0] from rfl) (Reps.none _ _))); intro v166 w34 ho35 hb hg_ hnew_; clear hg_ hnew_; (first | rw [← Ny165.out] at ho35 | (simp only [Int.reduceToNat] at ho35; rw [← Ny165.out] at ho35)); have n0_:=Aside0.mk (Kd.R_lower ho35 (below_size (by repeat (first | (with_reducible first | exact HB.out | apply bA | apply bN | apply bD | refine below_set ?_ GE155.out) | exact HB.out)))); have n1_:=Aside0.mk (blk_below (g:=gb155) (o := .cells #[.int .u8 a2_0, .int .u8 a2_1, .int .u8 a2_2, .int .u8 a2_3, .int .u8 a2_4] 23 (0,0)) (by (with_reducible repeat (first | refine kN ?_ _ | refine kD ?_ | refine kA ?_ _)); exact BK155.out) hb); have n2_:=Aside0.mk (below_step (by repeat (first | (with_reducible first | exact HB.out | apply bA | apply bN | apply bD | refine below_set ?_ GE155.out) | exact HB.out)) hb); clear BK155; clear HB; have HO167:=n0_; have BK155:=n1_; have HB:=n2_; clear n0_ n1_ n2_; clear hb ho35; have hcv36:=own_string (P:=Tryd.prog) Tryd.underlying26 Tryd.underlying5 Tryd.underlying9 (Kd.own_of_R HO167.out)) | ((with_reducible refine gate_callee (f:=78) rfl ?_); refine goesL_ (some 44) rfl rfl Tryd.func78 (by kernel_rfl) rfl #[.string a0, .string ((⟨#[77,83,72]⟩ : ByteArray) ++ (strOfNums y165))] rfl (by (try simp only [List.map_toArray,List.map_cons,List.map_nil]); first | done | rfl | (simp only [List.length_drop,List.length_take]; rfl)) ?_; (with_reducible refine (strings_CutPrefix.calls a0 ((⟨#[77,83,72]⟩ : ByteArray) ++ (strOfNums y165)) t168 false _ A7.out).mono ?_); rintro e w' ⟨rfl,⟨nd,rfl⟩⟩; refine ⟨_,rfl,?_⟩))
    go_ret2
    exact ⟨by first | rfl | (simp [errW_none,errW_some] <;> rfl) | (simp [*,errW_none,errW_some] <;> rfl),by repeat (first | (with_reducible first | exact HB.out | apply bA | apply bN | apply bD | refine below_set ?_ GE155.out) | exact HB.out)⟩
  ·rw [if_neg c6] at H
   exact absurd H (by simp)
 ·rw [if_neg c5] at H
  have c5b0 : (t156.toList == ([77,83,72] : List UInt8))=false:=beq_eq_false_iff_ne.mpr c5
  have c5b1 : (t156.toList != ([77,83,72] : List UInt8))=true:=bne_iff_ne.mpr c5
  obtain ⟨y157,hy157⟩ : ∃ y_ : List Int,y_=(([a2_0] : List Int)):=⟨_,rfl⟩
  replace H : ((strings_Cut.f a0 (strOfNums y157)).bind fun bt160=>(if bt160.2.2=true then ((segment_nth.f bt160.2.1 a2_0 a1).bind fun bt163=>(some (bt163.1,bt163.2))) else (some ((⟨#[]⟩ : ByteArray),0))))=some (r1,r2):=by first | (rw [hy157]; with_reducible exact H) | (have H2_:=(Option.bind_some _ _).symm.trans H; rw [hy157]; with_reducible exact H2_) | (have H2_:=(Option.bind_some _ _).symm.trans H; with_reducible exact H2_) | with_reducible exact H | (rw [hy157]; exact H) | exact H
  have Ny157:=Aside0.mk hy157
  clear hy157
  replace H:=Option.bind_eq_some_iff.mp H
  obtain ⟨⟨t160,t161,t162⟩,A370,H⟩:=H
  replace H : (if t162=true then ((segment_nth.f t161 a2_0 a1).bind fun bt163=>(some (bt163.1,bt163.2))) else (some ((⟨#[]⟩ : ByteArray),0)))=some (r1,r2):=H
  have A37:=Aside0.mk A370
  clear A370
  by_cases c38 : t162=true
  ·subst c38
   have H1 : ((segment_nth.f t161 a2_0 a1).bind fun bt163=>(some (bt163.1,bt163.2)))=some (r1,r2):=by rw [if_pos rfl] at H; exact H
   clear H
   have H:=H1
   clear H1
   replace H:=Option.bind_eq_some_iff.mp H
   obtain ⟨⟨t163,t164⟩,A390,H⟩:=H
   replace H : (some (t163,t164))=some (r1,r2):=H
   have A39:=Aside0.mk A390
   clear A390
   simp only [Option.some.injEq,Prod.mk.injEq] at H
   obtain ⟨rfl,rfl⟩:=H
   go_enter Tryd.func64,Tryd.ntmps64
   go_wp2_with (first | ((with_reducible refine gate_dst (N:=5) rfl ?_); refine box_event ?hg (N:=5) ?hd (cs:=#[.int .u8 a2_0, .int .u8 a2_1, .int .u8 a2_2, .int .u8 a2_3, .int .u8 a2_4]) (t:=23) ?hr ?_; (case hd=>rfl); (case hg=>rfl); (case hr=>first | (go_simp; done) | (go_simp; rfl)); intro gb155 hg w40 hbox hb; have n0_:=Aside0.mk (below_step (by repeat (first | (with_reducible first | exact HB.out | apply bA | apply bN | apply bD) | exact HB.out)) hb); have n1_:=Aside0.mk (hbox); have n2_:=Aside0.mk ((by rw [hg]; exact (below_size (by repeat (first | (with_reducible first | exact HB.out | apply bA | apply bN | apply bD) | exact HB.out))) : w.heap.size≤gb155)); have n3_:=Aside0.mk ((by rw [hg]; exact (below_size (by repeat (first | (with_reducible first | exact HB.out | apply bA | apply bN | apply bD) | exact HB.out))) : w.heap.size≤gb155)); clear HB; have HB:=n0_; have BK155:=n1_; have GW155:=n2_; have GE155:=n3_; clear n0_ n1_ n2_ n3_; clear hb hbox hg) | ((with_reducible refine gate_callee (f:=36) rfl ?_); refine goesL_ (some 16) rfl rfl Tryd.func36 (by kernel_rfl) rfl #[.string a0] rfl (by (try simp only [List.map_toArray,List.map_cons,List.map_nil]); first | done | rfl | (simp only [List.length_drop,List.length_take]; rfl)) ?_; (with_reducible refine (segment_Name.calls a0 t156 _ A4.out).mono ?_); rintro e w41 ⟨rfl,hb⟩; refine ⟨_,rfl,?_⟩; have n0_:=Aside0.mk (blk_below (g:=gb155) (o := .cells #[.int .u8 a2_0, .int .u8 a2_1, .int .u8 a2_2, .int .u8 a2_3, .int .u8 a2_4] 23 (0,0)) (by (with_reducible repeat (first | refine kN ?_ _ | refine kD ?_ | refine kA ?_ _)); exact BK155.out) hb); have n1_:=Aside0.mk (below_step (by repeat (first | (with_reducible first | exact HB.out | apply bA | apply bN | apply bD | refine below_set ?_ GE155.out) | exact HB.out)) hb); clear BK155; clear HB; have BK155:=n0_; have HB:=n1_; clear n0_ n1_; (try clear hb); have hcz42_0:w41.cell? ⟨gb155,0,none⟩=some (.int .u8 a2_0):=blk_cell BK155.out 0; have hcz42_1:w41.cell? ⟨gb155,1,none⟩=some (.int .u8 a2_1):=blk_cell BK155.out 1; have hcz42_2:w41.cell? ⟨gb155,2,none⟩=some (.int .u8 a2_2):=blk_cell BK155.out 2; have hcz42_3:w41.cell? ⟨gb155,3,none⟩=some (.int .u8 a2_3):=blk_cell BK155.out 3; have hcz42_4:w41.cell? ⟨gb155,4,none⟩=some (.int .u8 a2_4):=blk_cell BK155.out 4; have hfz42_0:=blk_frozen BK155.out 0; have hfz42_1:=blk_frozen BK155.out 1; have hfz42_2:=blk_frozen BK155.out 2; have hfz42_3:=blk_frozen BK155.out 3; have hfz42_4:=blk_frozen BK155.out 4) | ((with_reducible refine gate_dst (N:=22) rfl ?_); refine Kd.R_lit (Kd.int .u8) _ 5 ?hg (N:=22) ?hd (xs:=([a2_0] : List Int)) (inner:=[.int .u8 a2_0]) (ok:=fun _=>True) (okp:=fun _=>True) ?hr ?hp (fun _ hk=>hk) trivial (Below.refl _ _) (Nat.le_refl _) (by simp) ?_; (case hd=>rfl); (case hg=>rfl); (case hr=>first | (go_simp; done) | (go_simp; rfl)); (case hp=>exact (Reps.one (show Kd.M (Kd.int .u8) _ _ _ a2_0 [.int .u8 a2_0] from rfl) (Reps.none _ _))); intro v158 w43 ho44 hb hg_ hnew_; clear hg_ hnew_; (first | rw [← Ny157.out] at ho44 | (simp only [Int.reduceToNat] at ho44; rw [← Ny157.out] at ho44)); have n0_:=Aside0.mk (Kd.R_lower ho44 (below_size (by repeat (first | (with_reducible first | exact HB.out | apply bA | apply bN | apply bD | refine below_set ?_ GE155.out) | exact HB.out)))); have n1_:=Aside0.mk (blk_below (g:=gb155) (o := .cells #[.int .u8 a2_0, .int .u8 a2_1, .int .u8 a2_2, .int .u8 a2_3, .int .u8 a2_4] 23 (0,0)) (by (with_reducible repeat (first | refine kN ?_ _ | refine kD ?_ | refine kA ?_ _)); exact BK155.out) hb); have n2_:=Aside0.mk (below_step (by repeat (first | (with_reducible first | exact HB.out | apply bA | apply bN | apply bD | refine below_set ?_ GE155.out) | exact HB.out)) hb); clear BK155; clear HB; have HO159:=n0_; have BK155:=n1_; have HB:=n2_; clear n0_ n1_ n2_; clear hb ho44; have hcv45:=own_string (P:=Tryd.prog) Tryd.underlying26 Tryd.underlying5 Tryd.underlying9 (Kd.own_of_R HO159.out)) | ((with_reducible refine gate_callee (f:=77) rfl ?_); refine goesL_ (some 24) rfl rfl Tryd.func77 (by kernel_rfl) rfl #[.string a0, .string (strOfNums y157)] rfl (by (try simp only [List.map_toArray,List.map_cons,List.map_nil]); first | done | rfl | (simp only [List.length_drop,List.length_take]; rfl)) ?_; (with_reducible refine (strings_Cut.calls a0 (strOfNums y157) t160 t161 true _ A37.out).mono ?_); rintro e w' ⟨rfl,⟨nd,rfl⟩⟩; refine ⟨_,rfl,?_⟩; have hcz46_0:w43.cell? ⟨gb155,0,none⟩=some (.int .u8 a2_0):=blk_cell BK155.out 0; have hcz46_1:w43.cell? ⟨gb155,1,none⟩=some (.int .u8 a2_1):=blk_cell BK155.out 1; have hcz46_2:w43.cell? ⟨gb155,2,none⟩=some (.int .u8 a2_2):=blk_cell BK155.out 2; have hcz46_3:w43.cell? ⟨gb155,3,none⟩=some (.int .u8 a2_3):=blk_cell BK155.out 3; have hcz46_4:w43.cell? ⟨gb155,4,none⟩=some (.int .u8 a2_4):=blk_cell BK155.out 4; have hfz46_0:=blk_frozen BK155.out 0; have hfz46_1:=blk_frozen BK155.out 1; have hfz46_2:=blk_frozen BK155.out 2; have hfz46_3:=blk_frozen BK155.out 3; have hfz46_4:=blk_frozen BK155.out 4) | ((with_reducible refine gate_callee (f:=75) rfl ?_); refine goesL_ (some 34) rfl rfl Tryd.func75 (by kernel_rfl) rfl #[.string t161, .int .u8 a2_0, .int .i64 a1] rfl (by (try simp only [List.map_toArray,List.map_cons,List.map_nil]); first | done | rfl | (simp only [List.length_drop,List.length_take]; rfl)) ?_; (with_reducible refine (segment_nth.calls t161 a2_0 a1 t163 t164 _ A39.out).mono ?_); rintro e w47 ⟨rfl,hb⟩; refine ⟨_,rfl,?_⟩; have n0_:=Aside0.mk (Kd.R_below (by (with_reducible repeat (first | apply Kd.R_alloc | apply Kd.R_drewN | apply Kd.R_drew)); exact HO159.out) hb); have n1_:=Aside0.mk (blk_below (g:=gb155) (o := .cells #[.int .u8 a2_0, .int .u8 a2_1, .int .u8 a2_2, .int .u8 a2_3, .int .u8 a2_4] 23 (0,0)) (by (with_reducible repeat (first | refine kN ?_ _ | refine kD ?_ | refine kA ?_ _)); exact BK155.out) hb); have n2_:=Aside0.mk (below_step (by repeat (first | (with_reducible first | exact HB.out | apply bA | apply bN | apply bD | refine below_set ?_ GE155.out) | exact HB.out)) hb); clear HO159; clear BK155; clear HB; have HO159:=n0_; have BK155:=n1_; have HB:=n2_; clear n0_ n1_ n2_; (try clear hb)))
   go_ret2
   exact ⟨by first | rfl | (simp [errW_none,errW_some] <;> rfl) | (simp [*,errW_none,errW_some] <;> rfl),by repeat (first | (with_reducible first | exact HB.out | apply bA | apply bN | apply bD | refine below_set ?_ GE155.out) | exact HB.out)⟩
  ·replace c38:=Bool.eq_false_iff.mpr c38
   subst c38
   have H1 : (some ((⟨#[]⟩ : ByteArray),0))=some (r1,r2):=by rw [if_neg (show ¬ (false=true) by decide)] at H; exact H
   clear H
   have H:=H1
   clear H1
   simp only [Option.some.injEq,Prod.mk.injEq] at H
   obtain ⟨rfl,rfl⟩:=H
   go_enter Tryd.func64,Tryd.ntmps64
   go_wp2_with (first | ((with_reducible refine gate_dst (N:=5) rfl ?_); refine box_event ?hg (N:=5) ?hd (cs:=#[.int .u8 a2_0, .int .u8 a2_1, .int .u8 a2_2, .int .u8 a2_3, .int .u8 a2_4]) (t:=23) ?hr ?_; (case hd=>rfl); (case hg=>rfl); (case hr=>first | (go_simp; done) | (go_simp; rfl)); intro gb155 hg w48 hbox hb; have n0_:=Aside0.mk (below_step (by repeat (first | (with_reducible first | exact HB.out | apply bA | apply bN | apply bD) | exact HB.out)) hb); have n1_:=Aside0.mk (hbox); have n2_:=Aside0.mk ((by rw [hg]; exact (below_size (by repeat (first | (with_reducible first | exact HB.out | apply bA | apply bN | apply bD) | exact HB.out))) : w.heap.size≤gb155)); have n3_:=Aside0.mk ((by rw [hg]; exact (below_size (by repeat (first | (with_reducible first | exact HB.out | apply bA | apply bN | apply bD) | exact HB.out))) : w.heap.size≤gb155)); clear HB; have HB:=n0_; have BK155:=n1_; have GW155:=n2_; have GE155:=n3_; clear n0_ n1_ n2_ n3_; clear hb hbox hg) | ((with_reducible refine gate_callee (f:=36) rfl ?_); refine goesL_ (some 16) rfl rfl Tryd.func36 (by kernel_rfl) rfl #[.string a0] rfl (by (try simp only [List.map_toArray,List.map_cons,List.map_nil]); first | done | rfl | (simp only [List.length_drop,List.length_take]; rfl)) ?_; (with_reducible refine (segment_Name.calls a0 t156 _ A4.out).mono ?_); rintro e w49 ⟨rfl,hb⟩; refine ⟨_,rfl,?_⟩; have n0_:=Aside0.mk (blk_below (g:=gb155) (o := .cells #[.int .u8 a2_0, .int .u8 a2_1, .int .u8 a2_2, .int .u8 a2_3, .int .u8 a2_4] 23 (0,0)) (by (with_reducible repeat (first | refine kN ?_ _ | refine kD ?_ | refine kA ?_ _)); exact BK155.out) hb); have n1_:=Aside0.mk (below_step (by repeat (first | (with_reducible first | exact HB.out | apply bA | apply bN | apply bD | refine below_set ?_ GE155.out) | exact HB.out)) hb); clear BK155; clear HB; have BK155:=n0_; have HB:=n1_; clear n0_ n1_; (try clear hb); have hcz50_0:w49.cell? ⟨gb155,0,none⟩=some (.int .u8 a2_0):=blk_cell BK155.out 0; have hcz50_1:w49.cell? ⟨gb155,1,none⟩=some (.int .u8 a2_1):=blk_cell BK155.out 1; have hcz50_2:w49.cell? ⟨gb155,2,none⟩=some (.int .u8 a2_2):=blk_cell BK155.out 2; have hcz50_3:w49.cell? ⟨gb155,3,none⟩=some (.int .u8 a2_3):=blk_cell BK155.out 3; have hcz50_4:w49.cell? ⟨gb155,4,none⟩=some (.int .u8 a2_4):=blk_cell BK155.out 4; have hfz50_0:=blk_frozen BK155.out 0; have hfz50_1:=blk_frozen BK155.out 1; have hfz50_2:=blk_frozen BK155.out 2; have hfz50_3:=blk_frozen BK155.out 3; have hfz50_4:=blk_frozen BK155.out 4) | ((with_reducible refine gate_dst (N:=22) rfl ?_); refine Kd.R_lit (Kd.int .u8) _ 5 ?hg (N:=22) ?hd (xs:=([a2_0] : List Int)) (inner:=[.int .u8 a2_0]) (ok:=fun _=>True) (okp:=fun _=>True) ?hr ?hp (fun _ hk=>hk) trivial (Below.refl _ _) (Nat.le_refl _) (by simp) ?_; (case hd=>rfl); (case hg=>rfl); (case hr=>first | (go_simp; done) | (go_simp; rfl)); (case hp=>exact (Reps.one (show Kd.M (Kd.int .u8) _ _ _ a2_0 [.int .u8 a2_0] from rfl) (Reps.none _ _))); intro v158 w51 ho52 hb hg_ hnew_; clear hg_ hnew_; (first | rw [← Ny157.out] at ho52 | (simp only [Int.reduceToNat] at ho52; rw [← Ny157.out] at ho52)); have n0_:=Aside0.mk (Kd.R_lower ho52 (below_size (by repeat (first | (with_reducible first | exact HB.out | apply bA | apply bN | apply bD | refine below_set ?_ GE155.out) | exact HB.out)))); have n1_:=Aside0.mk (blk_below (g:=gb155) (o := .cells #[.int .u8 a2_0, .int .u8 a2_1, .int .u8 a2_2, .int .u8 a2_3, .int .u8 a2_4] 23 (0,0)) (by (with_reducible repeat (first | refine kN ?_ _ | refine kD ?_ | refine kA ?_ _)); exact BK155.out) hb); have n2_:=Aside0.mk (below_step (by repeat (first | (with_reducible first | exact HB.out | apply bA | apply bN | apply bD | refine below_set ?_ GE155.out) | exact HB.out)) hb); clear BK155; clear HB; have HO159:=n0_; have BK155:=n1_; have HB:=n2_; clear n0_ n1_ n2_; clear hb ho52; have hcv53:=own_string (P:=Tryd.prog) Tryd.underlying26 Tryd.underlying5 Tryd.underlying9 (Kd.own_of_R HO159.out)) | ((with_reducible refine gate_callee (f:=77) rfl ?_); refine goesL_ (some 24) rfl rfl Tryd.func77 (by kernel_rfl) rfl #[.string a0, .string (strOfNums y157)] rfl (by (try simp only [List.map_toArray,List.map_cons,List.map_nil]); first | done | rfl | (simp only [List.length_drop,List.length_take]; rfl)) ?_; (with_reducible refine (strings_Cut.calls a0 (strOfNums y157) t160 t161 false _ A37.out).mono ?_); rintro e w' ⟨rfl,⟨nd,rfl⟩⟩; refine ⟨_,rfl,?_⟩))
   go_ret2
   exact ⟨by first | rfl | (simp [errW_none,errW_some] <;> rfl) | (simp [*,errW_none,errW_some] <;> rfl),by repeat (first | (with_reducible first | exact HB.out | apply bA | apply bN | apply bD | refine below_set ?_ GE155.out) | exact HB.out)⟩

/-! ### segment_Field: function 37 -/
def segment_Field.f (a0 : ByteArray) (a1 : Int) (a2_0 : Int) (a2_1 : Int) (a2_2 : Int) (a2_3 : Int) (a2_4 : Int) : Option (ByteArray × Bool):=if a1 < 1 then (some ((⟨#[]⟩ : ByteArray),false)) else ((segment_field.f a0 a1 a2_0 a2_1 a2_2 a2_3 a2_4).bind fun bt176=>(some (bt176.1,decide (a1≤bt176.2))))
theorem segment_Field.calls (a0 : ByteArray) (a1 : Int) (a2_0 : Int) (a2_1 : Int) (a2_2 : Int) (a2_3 : Int) (a2_4 : Int) (r1 : ByteArray) (r2 : Bool) (w : World) (h : segment_Field.f a0 a1 a2_0 a2_1 a2_2 a2_3 a2_4=some (r1,r2)) :
  Calls Tryd.prog 37 #[.string a0, .int .i64 a1, .agg #[.int .u8 a2_0, .int .u8 a2_1, .int .u8 a2_2, .int .u8 a2_3, .int .u8 a2_4]] w fun e w'=>e = .returned (.tuple #[.string r1, .bool r2])∧Below w.heap.size w w':=by
 have hu23:=Tryd.underlying23
 have HB:=Aside0.mk (Below.refl w.heap.size w)
 have H : (if a1 < 1 then (some ((⟨#[]⟩ : ByteArray),false)) else ((segment_field.f a0 a1 a2_0 a2_1 a2_2 a2_3 a2_4).bind fun bt176=>(some (bt176.1,decide (a1≤bt176.2)))))=some (r1,r2):=h
 clear h
 by_cases c4 : a1 < 1
 ·rw [if_pos c4] at H
  have c4b0:decide (a1 < 1)=true:=decide_eq_true c4
  clear c4
  simp only [Option.some.injEq,Prod.mk.injEq] at H
  obtain ⟨rfl,rfl⟩:=H
  go_enter Tryd.func37,Tryd.ntmps37
  go_wp2_with (first | ((with_reducible refine gate_dst (N:=5) rfl ?_); refine box_event ?hg (N:=5) ?hd (cs:=#[.int .u8 a2_0, .int .u8 a2_1, .int .u8 a2_2, .int .u8 a2_3, .int .u8 a2_4]) (t:=23) ?hr ?_; (case hd=>rfl); (case hg=>rfl); (case hr=>first | (go_simp; done) | (go_simp; rfl)); intro gb175 hg w5 hbox hb; have n0_:=Aside0.mk (below_step (by repeat (first | (with_reducible first | exact HB.out | apply bA | apply bN | apply bD) | exact HB.out)) hb); have n1_:=Aside0.mk (hbox); have n2_:=Aside0.mk ((by rw [hg]; exact (below_size (by repeat (first | (with_reducible first | exact HB.out | apply bA | apply bN | apply bD) | exact HB.out))) : w.heap.size≤gb175)); have n3_:=Aside0.mk ((by rw [hg]; exact (below_size (by repeat (first | (with_reducible first | exact HB.out | apply bA | apply bN | apply bD) | exact HB.out))) : w.heap.size≤gb175)); clear HB; have HB:=n0_; have BK175:=n1_; have GW175:=n2_; have GE175:=n3_; clear n0_ n1_ n2_ n3_; clear hb hbox hg))
  go_ret2
  exact ⟨by first | rfl | (simp [errW_none,errW_some] <;> rfl) | (simp [*,errW_none,errW_some] <;> rfl),by repeat (first | (with_reducible first | exact HB.out | apply bA | apply bN | apply bD | refine below_set ?_ GE175.out) | exact HB.out)⟩
 ·rw [if_neg c4] at H
  have c4b0:decide (a1 < 1)=false:=decide_eq_false c4
  clear c4
  replace H:=Option.bind_eq_some_iff.mp H
  obtain ⟨⟨t176,t177⟩,A60,H⟩:=H
  replace H : (some (t176,decide (a1≤t177)))=some (r1,r2):=H
  have A6:=Aside0.mk A60
  clear A60
  simp only [Option.some.injEq,Prod.mk.injEq] at H
  obtain ⟨rfl,rfl⟩:=H
  go_enter Tryd.func37,Tryd.ntmps37
  go_wp2_with (first | ((with_reducible refine gate_dst (N:=5) rfl ?_); refine box_event ?hg (N:=5) ?hd (cs:=#[.int .u8 a2_0, .int .u8 a2_1, .int .u8 a2_2, .int .u8 a2_3, .int .u8 a2_4]) (t:=23) ?hr ?_; (case hd=>rfl); (case hg=>rfl); (case hr=>first | (go_simp; done) | (go_simp; rfl)); intro gb175 hg w7 hbox hb; have n0_:=Aside0.mk (below_step (by repeat (first | (with_reducible first | exact HB.out | apply bA | apply bN | apply bD) | exact HB.out)) hb); have n1_:=Aside0.mk (hbox); have n2_:=Aside0.mk ((by rw [hg]; exact (below_size (by repeat (first | (with_reducible first | exact HB.out | apply bA | apply bN | apply bD) | exact HB.out))) : w.heap.size≤gb175)); have n3_:=Aside0.mk ((by rw [hg]; exact (below_size (by repeat (first | (with_reducible first | exact HB.out | apply bA | apply bN | apply bD) | exact HB.out))) : w.heap.size≤gb175)); clear HB; have HB:=n0_; have BK175:=n1_; have GW175:=n2_; have GE175:=n3_; clear n0_ n1_ n2_ n3_; clear hb hbox hg; have hcz8_0:w7.cell? ⟨gb175,0,none⟩=some (.int .u8 a2_0):=blk_cell BK175.out 0; have hcz8_1:w7.cell? ⟨gb175,1,none⟩=some (.int .u8 a2_1):=blk_cell BK175.out 1; have hcz8_2:w7.cell? ⟨gb175,2,none⟩=some (.int .u8 a2_2):=blk_cell BK175.out 2; have hcz8_3:w7.cell? ⟨gb175,3,none⟩=some (.int .u8 a2_3):=blk_cell BK175.out 3; have hcz8_4:w7.cell? ⟨gb175,4,none⟩=some (.int .u8 a2_4):=blk_cell BK175.out 4; have hfz8_0:=blk_frozen BK175.out 0; have hfz8_1:=blk_frozen BK175.out 1; have hfz8_2:=blk_frozen BK175.out 2; have hfz8_3:=blk_frozen BK175.out 3; have hfz8_4:=blk_frozen BK175.out 4) | ((with_reducible refine gate_callee (f:=64) rfl ?_); refine goesL_ (some 16) rfl rfl Tryd.func64 (by kernel_rfl) rfl #[.string a0, .int .i64 a1, .agg #[.int .u8 a2_0, .int .u8 a2_1, .int .u8 a2_2, .int .u8 a2_3, .int .u8 a2_4]] rfl (by (try simp only [List.map_toArray,List.map_cons,List.map_nil]); first | done | rfl | (simp only [List.length_drop,List.length_take]; rfl)) ?_; (with_reducible refine (segment_field.calls a0 a1 a2_0 a2_1 a2_2 a2_3 a2_4 t176 t177 _ A6.out).mono ?_); rintro e w9 ⟨rfl,hb⟩; refine ⟨_,rfl,?_⟩; have n0_:=Aside0.mk (blk_below (g:=gb175) (o := .cells #[.int .u8 a2_0, .int .u8 a2_1, .int .u8 a2_2, .int .u8 a2_3, .int .u8 a2_4] 23 (0,0)) (by (with_reducible repeat (first | refine kN ?_ _ | refine kD ?_ | refine kA ?_ _)); exact BK175.out) hb); have n1_:=Aside0.mk (below_step (by repeat (first | (with_reducible first | exact HB.out | apply bA | apply bN | apply bD | refine below_set ?_ GE175.out) | exact HB.out)) hb); clear BK175; clear HB; have BK175:=n0_; have HB:=n1_; clear n0_ n1_; (try clear hb)))
  go_ret2
  exact ⟨by first | rfl | (simp [errW_none,errW_some] <;> rfl) | (simp [*,errW_none,errW_some] <;> rfl),by repeat (first | (with_reducible first | exact HB.out | apply bA | apply bN | apply bD | refine below_set ?_ GE175.out) | exact HB.out)⟩

/-! ### bytes_Equal: function 70 -/
def bytes_Equal.f (l0 : List Int) (l1 : List Int) : Option (Bool):=some ((strOfNums l0).toList == (strOfNums l1).toList)
theorem bytes_Equal.calls (A0 : Option Addr) (c0 : Nat) (l0 : List Int) (A1 : Option Addr) (c1 : Nat) (l1 : List Int) (r : Bool) (w : World) (hr0 : Kd.C (Kd.int .u8) w A0 l0.length l0) (hc0 : l0.length≤c0) (hr1 : Kd.C (Kd.int .u8) w A1 l1.length l1) (hc1 : l1.length≤c1) (h : bytes_Equal.f l0 l1=some r) :
  Calls Tryd.prog 70 #[.slice A0 l0.length c0, .slice A1 l1.length c1] w fun e w'=>e = .returned (.bool r)∧Drawn0 w w':=by
 have HR0:=Aside0.mk hr0
 have HC0:=Aside0.mk hc0
 clear hr0 hc0
 have HR1:=Aside0.mk hr1
 have HC1:=Aside0.mk hc1
 clear hr1 hc1
 have H : (some ((strOfNums l0).toList == (strOfNums l1).toList))=some r:=h
 clear h
 obtain rfl:=Option.some.inj H
 have hcv3:=Kd.C_string (P:=Tryd.prog) (A:=A0) (c:=c0) Tryd.underlying26 Tryd.underlying5 Tryd.underlying9 HR0.out
 have hcv4:=Kd.C_string (P:=Tryd.prog) (A:=A1) (c:=c1) Tryd.underlying26 Tryd.underlying5 Tryd.underlying9 HR1.out
 go_enter Tryd.func70,Tryd.ntmps70
 go_wp2
 go_ret
 exact ⟨by first | rfl | (simp; done) | (simp [*]; done),by repeat (first | exact Drawn0.refl _ | apply Drawn0.step)⟩

/-! ### bytes_HasPrefix: function 84 -/
def bytes_HasPrefix.f (l0 : List Int) (l1 : List Int) : Option (Bool):=some (if l1.length≤l0.length then (strOfNums (l0.take l1.length)).toList == (strOfNums l1).toList else false)
theorem bytes_HasPrefix.calls (A0 : Option Addr) (c0 : Nat) (l0 : List Int) (A1 : Option Addr) (c1 : Nat) (l1 : List Int) (r : Bool) (w : World) (hr0 : Kd.C (Kd.int .u8) w A0 l0.length l0) (hc0 : l0.length≤c0) (hr1 : Kd.C (Kd.int .u8) w A1 l1.length l1) (hc1 : l1.length≤c1) (h : bytes_HasPrefix.f l0 l1=some r) :
  Calls Tryd.prog 84 #[.slice A0 l0.length c0, .slice A1 l1.length c1] w fun e w'=>e = .returned (.bool r)∧Drawn0 w w':=by
 obtain rfl:=Option.some.inj h
 clear h
 by_cases hl : l1.length≤l0.length
 ·have h1:decide ((l1.length : Int)≤(l0.length : Int))=true:=by simp; omega
  have hlen : (l0.take l1.length).length=l1.length:=by rw [List.length_take]; omega
  obtain ⟨i0,hi0,_,hsz,_⟩:=info_parts info5
  obtain ⟨_,hA,_⟩:=print_take_of (P:=Tryd.prog) (Value.int .u8) 0 26 5 .i64 Tryd.underlying26 hi0 hsz A0 c0 l0 (l1.length : Int) (by omega) (by omega) hc0
  have hq:=Kd.C_of_reads (h1:=fun _=>rfl) (hA _ (Kd.reads_of_C hr0))
  rw [Int.toNat_natCast] at hq
  have hcall:=bytes_Equal.calls A0 c0 (l0.take l1.length) A1 c1 l1 _ w hq (by omega) hr1 hc1 rfl
  rw [hlen] at hcall
  have HC:=Lib.hid hcall
  clear hcall hq hA hr0 hr1 hi0 hsz hlen
  rw [if_pos hl]
  go_enter Tryd.func84,Tryd.ntmps84
  go_wp2_with fail
  refine HC.out.mono ?_
  rintro e w' ⟨rfl,⟨nd,rfl⟩⟩
  go_wp2
  go_ret
  exact ⟨rfl,by repeat (first | exact Drawn0.refl _ | apply Drawn0.step)⟩
 ·have h1:decide ((l1.length : Int)≤(l0.length : Int))=false:=by simp; omega
  have h2:decide (l1.length≤l0.length)=false:=by simp; omega
  rw [if_neg hl]
  have HR:=Lib.hid hr0
  clear hl hr0 hr1
  go_enter Tryd.func84,Tryd.ntmps84
  go_wp2_with fail
  go_ret
  exact ⟨rfl,by repeat (first | exact Drawn0.refl _ | apply Drawn0.step)⟩



end Go.Proofs.YtmjdnkiohdkfpaaDoor.PF
