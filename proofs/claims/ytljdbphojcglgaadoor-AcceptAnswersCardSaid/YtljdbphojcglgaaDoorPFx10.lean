import Derived.Test.YtljdbphojcglgaaDoorPFx0
import Derived.Test.YtljdbphojcglgaaDoorPFx2
import Derived.Test.YtljdbphojcglgaaDoorPFx6
namespace Go.Proofs.YtljdbphojcglgaaDoor.PF
open Go.RowKit Go.Proofs.YtljdbphojcglgaaDoorW.PrintWords Go.Proofs.YtljdbphojcglgaaDoorW.PrintLast Go.Proofs.YtljdbphojcglgaaDoorW.PrintMore
set_option maxHeartbeats 8000000
set_option maxRecDepth 100000
attribute [local go_sem] max2_int min2_int max_two min_two max_three min_three max_four min_four
set_option linter.unusedVariables false
set_option linter.unusedSimpArgs false

/-! ### ack_Known: function 24 -/
def ack_Known.f (k : Nat) (a0 : ByteArray) : Option (Bool):=slices_Contains_string_string.f k codesL a0
theorem ack_Known.mono : ∀ a0 k,LeO (ack_Known.f k a0) (ack_Known.f (k + 1) a0):=by
 intro a0 k
 unfold ack_Known.f
 exact slices_Contains_string_string.mono _ _ _
theorem ack_Known.calls (k : Nat) (a0 : ByteArray) (r : Bool) (w : World) (h : ack_Known.f k a0=some r) (hGC : GlobC w) :
  Calls Tryd.prog 24 #[.string a0] w fun e w'=>e = .returned (.bool r)∧Drawn0 w w':=by
 have HG:=Lib.hid hGC
 have HT:=Lib.hid (show slices_Contains_string_string.f k codesL a0=some r from h)
 clear hGC h
 go_enter Tryd.func24,Tryd.ntmps24
 go_wp2_with fail
 refine (slices_Contains_string_string.calls k (some ⟨2,0,none⟩) 3 codesL a0 r _ (globc_row HG.out) (by decide) HT.out).mono ?_
 rintro e w3 ⟨rfl,nd,rfl⟩
 go_wp2_with fail
 go_ret
 exact ⟨rfl,nd,rfl⟩









/-! ### strings_Join: function 59 -/
def strings_Join.f (l0 : List ByteArray) (a1 : ByteArray) : Option (ByteArray):=if l0.length≤140737488355328∧(Lib.join (l0.map (·.data.toList)) a1.data.toList).length≤140737488355328 then some ⟨(Lib.join (l0.map (·.data.toList)) a1.data.toList).toArray⟩ else none
theorem strings_Join.calls (A0 : Option Addr) (c0 : Nat) (l0 : List ByteArray) (a1 : ByteArray) (r : ByteArray) (w : World) (hr0 : Kd.C Kd.string w A0 l0.length l0) (hc0 : l0.length≤c0) (h : strings_Join.f l0 a1=some r) :
  Calls Tryd.prog 59 #[.slice A0 l0.length c0, .string a1] w fun e w'=>e = .returned (.string r)∧Below w.heap.size w w':=by
 unfold strings_Join.f at h
 split at h
 ·rename_i hb
  obtain rfl:=Option.some.inj h
  cases hl : l0 with
  | nil =>
   refine (Tryd.strings_Join_none A0 c0 a1 w).mono ?_
   rintro e w' ⟨rfl,rfl⟩
   exact ⟨by simp [Lib.join],Below.refl _ _⟩
  | cons x t =>
   rw [hl] at hr0 hc0 hb
   have hcell : ∀ j : Nat,j < (x :: t).length→∃ ad,A0=some ad∧w.cell? (ad.add j)=some (.string (rdOf ByteArray.empty (x :: t) j)):=fun j hj=>by
    obtain ⟨ad,e,hc⟩:=Kd.at_string hr0 (j : Int) (by omega) (by omega)
    exact ⟨ad,e,by simpa using hc⟩
   obtain ⟨ad,rfl,hc⟩:=hcell 0 (by simp)
   obtain ⟨b,o,sp⟩:=ad
   have hsp:sp=none:=by
    cases sp with
    | none=>rfl
    | some s =>
     exfalso
     have h0 : (⟨b,o,some s⟩ : Addr).add 0=⟨b,o,some s⟩:=by simp [Addr.add]
     rw [h0] at hc
     unfold World.cell? at hc
     split at hc
     ·simp at hc
     ·cases hc
   subst hsp
   refine Tryd.strings_Join b o c0 (x :: t) a1 w (fun j y hy=>?_) ?_ hb.1 hc0 hb.2
   ·obtain ⟨hj,hy2⟩:=List.getElem?_eq_some_iff.1 hy
    obtain ⟨ad,e,hc2⟩:=hcell j hj
    cases e
    have ha : (⟨b,o,none⟩ : Addr).add j=⟨b,o + j,none⟩:=by unfold Addr.add; split <;> simp_all
    rw [ha] at hc2
    rw [hc2,← hy2]
    simp [rdOf,List.getElem?_eq_getElem hj]
   ·have h0 : (⟨b,o,none⟩ : Addr).add 0=⟨b,o,none⟩:=by simp [Addr.add]
    rw [h0] at hc
    exact World.block_lt_of_cell? w ⟨b,o,none⟩ hc
 ·cases h


/-! ### delim_Join: function 60 -/
def delim_Join.f (a0 : Int) (l1 : List ByteArray) : Option (ByteArray):=(strings_Join.f l1 (strOfNums (([a0] : List Int)))).bind fun t175=>(some t175)
theorem delim_Join.calls (a0 : Int) (A1 : Option Addr) (c1 : Nat) (l1 : List ByteArray) (r : ByteArray) (w : World) (hr1 : Kd.C Kd.string w A1 l1.length l1) (hc1 : l1.length≤c1) (h : delim_Join.f a0 l1=some r) :
  Calls Tryd.prog 60 #[.int .u8 a0, .slice A1 l1.length c1] w fun e w'=>e = .returned (.string r)∧Below w.heap.size w w':=by
 have HR1:=Aside0.mk hr1
 have HC1:=Aside0.mk hc1
 clear hr1 hc1
 have HB:=Aside0.mk (Below.refl w.heap.size w)
 have H : ((strings_Join.f l1 (strOfNums (([a0] : List Int)))).bind fun t175=>(some t175))=some r:=h
 clear h
 obtain ⟨y172,hy172⟩ : ∃ y_ : List Int,y_=(([a0] : List Int)):=⟨_,rfl⟩
 replace H : ((strings_Join.f l1 (strOfNums y172)).bind fun t175=>(some t175))=some r:=by first | (rw [hy172]; with_reducible exact H) | (have H2_:=(Option.bind_some _ _).symm.trans H; rw [hy172]; with_reducible exact H2_) | (have H2_:=(Option.bind_some _ _).symm.trans H; with_reducible exact H2_) | with_reducible exact H | (rw [hy172]; exact H) | exact H
 have Ny172:=Aside0.mk hy172
 clear hy172
 replace H:=Option.bind_eq_some_iff.mp H
 obtain ⟨t175,A30,H⟩:=H
 replace H : (some t175)=some r:=H
 have A3:=Aside0.mk A30
 clear A30
 obtain rfl:=Option.some.inj H
 go_enter Tryd.func60,Tryd.ntmps60
 go_wp2_with (first | ((with_reducible refine gate_dst (N:=7) rfl ?_); refine Kd.R_lit (Kd.int .u8) _ 5 ?hg (N:=7) ?hd (xs:=([a0] : List Int)) (inner:=[.int .u8 a0]) (ok:=fun _=>True) (okp:=fun _=>True) ?hr ?hp (fun _ hk=>hk) trivial (Below.refl _ _) (Nat.le_refl _) (by simp) ?_; (case hd=>rfl); (case hg=>rfl); (case hr=>first | (go_simp; done) | (go_simp; rfl)); (case hp=>exact (Reps.one (show Kd.M (Kd.int .u8) _ _ _ a0 [.int .u8 a0] from rfl) (Reps.none _ _))); intro v173 w4 ho5 hb hg_ hnew_; clear hg_ hnew_; (first | rw [← Ny172.out] at ho5 | (simp only [Int.reduceToNat] at ho5; rw [← Ny172.out] at ho5)); have n0_:=Aside0.mk (Kd.R_lower ho5 (below_size (by repeat (first | (with_reducible first | exact HB.out | apply bA | apply bN | apply bD) | exact HB.out)))); have n1_:=Aside0.mk (below_step (by repeat (first | (with_reducible first | exact HB.out | apply bA | apply bN | apply bD) | exact HB.out)) hb); clear HB; have HO174:=n0_; have HB:=n1_; clear n0_ n1_; clear hb ho5; have hcv6:=own_string (P:=Tryd.prog) Tryd.underlying22 Tryd.underlying5 Tryd.underlying9 (Kd.own_of_R HO174.out)) | ((with_reducible refine gate_callee (f:=59) rfl ?_); refine goesL_ (some 9) rfl rfl Tryd.func59 (by kernel_rfl) rfl #[.slice A1 l1.length c1, .string (strOfNums y172)] rfl (by (try simp only [List.map_toArray,List.map_cons,List.map_nil]); first | done | rfl | (simp only [List.length_drop,List.length_take]; rfl)) ?_; (with_reducible refine (strings_Join.calls _ _ l1 (strOfNums y172) t175 _ ?side1 ?side2 A3.out).mono ?_); (case side1=>repeat (first | exact (Kd.C_below HR1.out HB.out) | (with_reducible refine Kd.C_alloc ?_ _) | (with_reducible refine Kd.C_drewN ?_ _) | (with_reducible refine Kd.C_drew ?_))); (case side2=>exact HC1.out); rintro e w7 ⟨rfl,hb⟩; refine ⟨_,rfl,?_⟩; have n0_:=Aside0.mk (Kd.R_below (by (with_reducible repeat (first | apply Kd.R_alloc | apply Kd.R_drewN | apply Kd.R_drew)); exact HO174.out) hb); have n1_:=Aside0.mk (below_step (by repeat (first | (with_reducible first | exact HB.out | apply bA | apply bN | apply bD) | exact HB.out)) hb); clear HO174; clear HB; have HO174:=n0_; have HB:=n1_; clear n0_ n1_; (try clear hb)))
 go_ret
 exact ⟨by first | rfl | (simp [errW_none,errW_some] <;> rfl) | (simp [*,errW_none,errW_some] <;> rfl),by repeat (first | (with_reducible first | exact HB.out | apply bA | apply bN | apply bD) | exact HB.out)⟩

/-! ### segment_Make: function 36 -/
def segment_Make.f (a0_0 : Int) (a0_1 : Int) (a0_2 : Int) (a0_3 : Int) (a0_4 : Int) (a1 : ByteArray) (l2 : List ByteArray) : Option (ByteArray):=if a1.toList=([77,83,72] : List UInt8) then (if 0≤(mn (l2.length : Int) 2) then (if (mn (l2.length : Int) 2)≤(l2.length : Int) then ((strings_Join.f (l2.take ((mn (l2.length : Int) 2) : Int).toNat) (⟨#[]⟩ : ByteArray)).bind fun t178=>(if a1.size + t178.size≤9223372036854775807 then ((some (([a1 ++ t178] : List ByteArray) : List ByteArray)).bind fun y180=>(if y180.length + (l2.drop ((mn (l2.length : Int) 2) : Int).toNat).length < 8796093022208 then ((delim_Join.f a0_0 (y180 ++ (l2.drop ((mn (l2.length : Int) 2) : Int).toNat))).bind fun t186=>(some t186)) else (none))) else (none))) else (none)) else (none)) else ((some (([a1] : List ByteArray) : List ByteArray)).bind fun y187=>(if y187.length + l2.length < 8796093022208 then ((delim_Join.f a0_0 (y187 ++ l2)).bind fun t193=>(some t193)) else (none)))
def segment_Make.T5 : Bool × List (List Nat × List Nat):=(true,[([],[]),([0],[0]),([],[]),([2],[2]),([],[]),([3,4],[3,4]),([1,5,5],[1,5]),([6,6,0,1,2,3,4,5,6],[6])])
def segment_Make.B5 : List Nat:=[0,1,0,4,0,28,63,127]
theorem segment_Make.tab5 : rtab .any (opsOf Tryd.f36 5)=segment_Make.T5:=by kernel_rfl
theorem segment_Make.bits5 : waitsOk segment_Make.T5.2 segment_Make.B5=true:=by kernel_rfl
theorem segment_Make.calls (a0_0 : Int) (a0_1 : Int) (a0_2 : Int) (a0_3 : Int) (a0_4 : Int) (a1 : ByteArray) (A2 : Option Addr) (c2 : Nat) (l2 : List ByteArray) (r : ByteArray) (w : World) (hr2 : Kd.C Kd.string w A2 l2.length l2) (hc2 : l2.length≤c2) (h : segment_Make.f a0_0 a0_1 a0_2 a0_3 a0_4 a1 l2=some r) :
  Calls Tryd.prog 36 #[.agg #[.int .u8 a0_0, .int .u8 a0_1, .int .u8 a0_2, .int .u8 a0_3, .int .u8 a0_4], .string a1, .slice A2 l2.length c2] w fun e w'=>e = .returned (.string r)∧Below w.heap.size w w':=by
 have hu25:=Tryd.underlying25
 have HR2:=Aside0.mk hr2
 have HC2:=Aside0.mk hc2
 clear hr2 hc2
 have HB:=Aside0.mk (Below.refl w.heap.size w)
 have H : (if a1.toList=([77,83,72] : List UInt8) then (if 0≤(mn (l2.length : Int) 2) then (if (mn (l2.length : Int) 2)≤(l2.length : Int) then ((strings_Join.f (l2.take ((mn (l2.length : Int) 2) : Int).toNat) (⟨#[]⟩ : ByteArray)).bind fun t178=>(if a1.size + t178.size≤9223372036854775807 then ((some (([a1 ++ t178] : List ByteArray) : List ByteArray)).bind fun y180=>(if y180.length + (l2.drop ((mn (l2.length : Int) 2) : Int).toNat).length < 8796093022208 then ((delim_Join.f a0_0 (y180 ++ (l2.drop ((mn (l2.length : Int) 2) : Int).toNat))).bind fun t186=>(some t186)) else (none))) else (none))) else (none)) else (none)) else ((some (([a1] : List ByteArray) : List ByteArray)).bind fun y187=>(if y187.length + l2.length < 8796093022208 then ((delim_Join.f a0_0 (y187 ++ l2)).bind fun t193=>(some t193)) else (none))))=some r:=h
 clear h
 by_cases c4 : a1.toList=([77,83,72] : List UInt8)
 ·rw [if_pos c4] at H
  have c4b0 : (a1.toList == ([77,83,72] : List UInt8))=true:=beq_iff_eq.mpr c4
  have c4b1 : (a1.toList != ([77,83,72] : List UInt8))=false:=bne_eq_false_iff_eq.mpr c4
  clear c4
  obtain ⟨ji5,hji5⟩ : ∃ j_ : Int,(mn (l2.length : Int) 2)=j_:=⟨_,rfl⟩
  replace H : (if 0≤(ji5) then (if (ji5)≤(l2.length : Int) then ((strings_Join.f (l2.take ((ji5) : Int).toNat) (⟨#[]⟩ : ByteArray)).bind fun t178=>(if a1.size + t178.size≤9223372036854775807 then ((some (([a1 ++ t178] : List ByteArray) : List ByteArray)).bind fun y180=>(if y180.length + (l2.drop ((ji5) : Int).toNat).length < 8796093022208 then ((delim_Join.f a0_0 (y180 ++ (l2.drop ((ji5) : Int).toNat))).bind fun t186=>(some t186)) else (none))) else (none))) else (none)) else (none))=some r:=by first | (rw [hji5] at H; exact H) | (simp only [hji5] at H ⊢; exact H)
  (try (have hji5h:ji5≤2:=by (rw [← hji5]; unfold mn; (repeat' split) <;> omega)))
  (try (have hji5g:ji5≤64:=by omega))
  (try (have hji5l:0≤ji5:=by (rw [← hji5]; unfold mn; (repeat' split) <;> omega)))
  (try (have hji5m:0≤ji5:=by omega))
  have hji5_ : (if 2 < (l2.length : Int) then 2 else (l2.length : Int))=ji5:=hji5
  by_cases c6 : 0≤(ji5)
  ·rw [if_pos c6] at H
   have c6b0:=eq_true c6
   have c6b1:decide (0≤(ji5))=true:=decide_eq_true c6
   clear c6
   by_cases c7 : (ji5)≤(l2.length : Int)
   ·rw [if_pos c7] at H
    have c7b0:=eq_true c7
    have c7b1:decide ((ji5)≤(l2.length : Int))=true:=decide_eq_true c7
    clear c7
    replace H:=Option.bind_eq_some_iff.mp H
    obtain ⟨t178,A80,H⟩:=H
    replace H : (if a1.size + t178.size≤9223372036854775807 then ((some (([a1 ++ t178] : List ByteArray) : List ByteArray)).bind fun y180=>(if y180.length + (l2.drop ((ji5) : Int).toNat).length < 8796093022208 then ((delim_Join.f a0_0 (y180 ++ (l2.drop ((ji5) : Int).toNat))).bind fun t186=>(some t186)) else (none))) else (none))=some r:=H
    have A8:=Aside0.mk A80
    clear A80
    by_cases c9 : a1.size + t178.size≤9223372036854775807
    ·rw [if_pos c9] at H
     have c9b0:=eq_true c9
     have c9b1:decide (a1.size + t178.size≤9223372036854775807)=true:=decide_eq_true c9
     try have c9b2 : (9223372036854775807 < a1.size + t178.size)=False:=eq_false (Nat.not_lt.2 c9)
     try (have c9b4:=c9b2; simp only [ByteArray.size_append] at c9b4)
     have c10b0:=eq_true (of_decide_eq_true (by first | (with_reducible assumption) | assumption) : 0≤(ji5))
     have c11b0:=eq_true (of_decide_eq_true (by first | (with_reducible assumption) | assumption) : (ji5)≤(l2.length : Int))
     obtain ⟨y180,hy180⟩ : ∃ y_ : List ByteArray,y_=(([a1 ++ t178] : List ByteArray)):=⟨_,rfl⟩
     replace H : (if y180.length + (l2.drop ((ji5) : Int).toNat).length < 8796093022208 then ((delim_Join.f a0_0 (y180 ++ (l2.drop ((ji5) : Int).toNat))).bind fun t186=>(some t186)) else (none))=some r:=by first | (rw [hy180]; with_reducible exact H) | (have H2_:=(Option.bind_some _ _).symm.trans H; rw [hy180]; with_reducible exact H2_) | (have H2_:=(Option.bind_some _ _).symm.trans H; with_reducible exact H2_) | with_reducible exact H | (rw [hy180]; exact H) | exact H
     have Ny180:=Aside0.mk hy180
     clear hy180
     by_cases c12 : y180.length + (l2.drop ((ji5) : Int).toNat).length < 8796093022208
     ·rw [if_pos c12] at H
      have LMc12:=Aside0.mk c12
      clear c12
      obtain ⟨y183,hy183⟩ : ∃ y_ : List ByteArray,y_=(y180 ++ (l2.drop ((ji5) : Int).toNat)):=⟨_,rfl⟩
      replace H : ((delim_Join.f a0_0 y183).bind fun t186=>(some t186))=some r:=by first | (rw [hy183]; with_reducible exact H) | (have H2_:=(Option.bind_some _ _).symm.trans H; rw [hy183]; with_reducible exact H2_) | (have H2_:=(Option.bind_some _ _).symm.trans H; with_reducible exact H2_) | with_reducible exact H | (rw [hy183]; exact H) | exact H
      have Ny183:=Aside0.mk hy183
      clear hy183
      replace H:=Option.bind_eq_some_iff.mp H
      obtain ⟨t186,A130,H⟩:=H
      replace H : (some t186)=some r:=H
      have A13:=Aside0.mk A130
      clear A130
      obtain rfl:=Option.some.inj H
      go_enter Tryd.func36,Tryd.ntmps36
      try go_wp2_with (first | ((with_reducible refine gate_dst (N:=3) rfl ?_); refine box_event ?hg (N:=3) ?hd (cs:=#[.int .u8 a0_0, .int .u8 a0_1, .int .u8 a0_2, .int .u8 a0_3, .int .u8 a0_4]) (t:=25) ?hr ?_; (case hd=>rfl); (case hg=>rfl); (case hr=>first | (go_simp; done) | (go_simp; rfl)); intro gb176 hg w14 hbox hb; have n0_:=Aside0.mk (below_step (by repeat (first | (with_reducible first | exact HB.out | apply bA | apply bN | apply bD) | exact HB.out)) hb); have n1_:=Aside0.mk (hbox); have n2_:=Aside0.mk ((by rw [hg]; exact (below_size (by repeat (first | (with_reducible first | exact HB.out | apply bA | apply bN | apply bD) | exact HB.out))) : w.heap.size≤gb176)); have n3_:=Aside0.mk ((by rw [hg]; exact (below_size (by repeat (first | (with_reducible first | exact HB.out | apply bA | apply bN | apply bD) | exact HB.out))) : w.heap.size≤gb176)); clear HB; have HB:=n0_; have BK176:=n1_; have GW176:=n2_; have GE176:=n3_; clear n0_ n1_ n2_ n3_; clear hb hbox hg; obtain ⟨i015,hi015,_,hsz15,_⟩:=info_parts info9; obtain ⟨hcut15,hA15,hC15⟩:=print_take_of (P:=Tryd.prog) Value.string (⟨#[]⟩ : ByteArray) 53 9 .i64 Tryd.underlying53 hi015 hsz15 A2 c2 l2 (ji5) (of_decide_eq_true (by first | (with_reducible assumption) | assumption)) (of_decide_eq_true (by first | (with_reducible assumption) | assumption)) HC2.out; have HR177:=Aside0.mk (Kd.C_of_reads (h1:=fun _=>rfl) (hA15 _ (Kd.reads_of_C HR2.out))); have HC177:=Aside0.mk hC15; clear hA15 hC15 hi015 hsz15) | ((with_reducible refine gate_callee (f:=59) rfl ?_); refine goesL_ (some 17) rfl rfl Tryd.func59 (by kernel_rfl) rfl #[.slice A2 (l2.take ((ji5) : Int).toNat).length c2, .string (⟨#[]⟩ : ByteArray)] rfl (by (try simp only [List.map_toArray,List.map_cons,List.map_nil]); first | done | (rw [show (l2.take ((ji5) : Int).toNat).length=(ji5).toNat from (by rw [List.length_take]; have h_ : ((ji5) : Int)≤(l2.length : Int):=of_decide_eq_true (by first | (with_reducible assumption) | assumption); omega)] <;> rfl) | (simp only [hji5]; rfl) | rfl | (simp only [List.length_drop,List.length_take]; rfl)) ?_; (with_reducible refine (strings_Join.calls _ _ (l2.take ((ji5) : Int).toNat) (⟨#[]⟩ : ByteArray) t178 _ ?side1 ?side2 A8.out).mono ?_); (case side1=>repeat (first | exact (Kd.C_below HR177.out HB.out) | (with_reducible refine Kd.C_alloc ?_ _) | (with_reducible refine Kd.C_drewN ?_ _) | (with_reducible refine Kd.C_drew ?_))); (case side2=>exact HC177.out); rintro e w16 ⟨rfl,hb⟩; refine ⟨_,rfl,?_⟩; have n0_:=Aside0.mk (blk_below (g:=gb176) (o := .cells #[.int .u8 a0_0, .int .u8 a0_1, .int .u8 a0_2, .int .u8 a0_3, .int .u8 a0_4] 25 (0,0)) (by (with_reducible repeat (first | refine kN ?_ _ | refine kD ?_ | refine kA ?_ _)); exact BK176.out) hb); have n1_:=Aside0.mk (below_step (by repeat (first | (with_reducible first | exact HB.out | apply bA | apply bN | apply bD | refine below_set ?_ GE176.out) | exact HB.out)) hb); clear BK176; clear HB; have BK176:=n0_; have HB:=n1_; clear n0_ n1_; (try clear hb); obtain ⟨i017,hi017,_,hsz17,_⟩:=info_parts info9; obtain ⟨A17,hcut17,hA17,hC17⟩:=print_drop_of (P:=Tryd.prog) Value.string (⟨#[]⟩ : ByteArray) 53 9 .i64 Tryd.underlying53 hi017 hsz17 A2 c2 l2 (ji5) (of_decide_eq_true (by first | (with_reducible assumption) | assumption)) (of_decide_eq_true (by first | (with_reducible assumption) | assumption)) HC2.out; have HR179:=Aside0.mk (Kd.C_of_reads (h1:=fun _=>rfl) (hA17 _ (Kd.reads_of_C HR2.out))); have HC179:=Aside0.mk hC17; clear hA17 hC17 hi017 hsz17))
      have n0_:=Aside0.mk (blk_drew BK176.out)
      have n1_:=Aside0.mk (below_drew1 HB.out)
      clear BK176
      clear HB
      have BK176:=n0_
      have HB:=n1_
      clear n0_ n1_
      refine start_ (n:=8) (S:=fun w'=>w'.cell? ⟨gb176,0,none⟩=some (.int .u8 a0_0)∧w'.cell? ⟨gb176,1,none⟩=some (.int .u8 a0_1)∧w'.cell? ⟨gb176,2,none⟩=some (.int .u8 a0_2)∧w'.cell? ⟨gb176,3,none⟩=some (.int .u8 a0_3)∧w'.cell? ⟨gb176,4,none⟩=some (.int .u8 a0_4)) (ds:=[]) #[false,false,false,false,false,false,false,false] (by kernel_rfl) rfl rfl ⟨blk_cell BK176.out 0,blk_cell BK176.out 1,blk_cell BK176.out 2,blk_cell BK176.out 3,blk_cell BK176.out 4⟩ (fun hHeld=>?_); refine with_tabW segment_Make.tab5 segment_Make.bits5 (fun HT_ HW_=>?_)
      generalize w16.drew=w18 at BK176 HB hHeld ⊢
      refine pure_ (i:=0) (N:=some 22) (v:=?_) (a':=?_) #[true,false,false,false,false,false,false,false] rfl rfl (any_of HT_.out (by kernel_rfl)) (fun _ _ _ h=>h) (Or.inl ⟨by rfl,?_⟩) ?_ ?_
      rotate_left
      ·intro w'
       go_simp
       with_reducible rfl
      rotate_left
      ·simp only [Act.put,sA_,s0_,s1_,i64_w,i32_w]
       rfl
      refine pure_ (i:=2) (N:=some 24) (v:=?_) (a':=?_) #[true,false,true,false,false,false,false,false] rfl rfl (any_of HT_.out (by kernel_rfl)) (fun _ _ _ h=>h) (Or.inl ⟨by rfl,?_⟩) ?_ ?_
      rotate_left
      ·intro w'
       go_simp
       with_reducible rfl
      rotate_left
      ·simp only [Act.put,sA_,s0_,s1_,i64_w,i32_w]
       rfl
      refine pure_ (i:=4) (N:=some 26) (v:=?_) (a':=?_) #[true,false,true,false,true,false,false,false] rfl rfl (any_of HT_.out (by kernel_rfl)) (fun _ _ _ h=>h) (Or.inl ⟨by rfl,?_⟩) ?_ ?_
      rotate_left
      ·intro w'
       go_simp
       with_reducible rfl
      rotate_left
      ·simp only [Act.put,sA_,s0_,s1_,i64_w,i32_w]
       rfl
      refine take_ (i:=1) (N:=some 23) (v:=?_) (a':=?_) #[true,true,true,false,true,false,false,false] rfl rfl (take_ofW HT_.out HW_.out (by kernel_rfl)) (fun _ _ _ h=>h) (Or.inl ⟨by rfl,?_⟩) hHeld ?_ ?_
      rotate_left
      ·rintro w' ⟨s0,s1,s2,s3,s4⟩
       go_simp
       with_reducible rfl
      rotate_left
      ·simp only [Act.put,sA_,s0_,s1_,i64_w,i32_w]
       rfl
      refine one_ (i:=3) (N:=some 25) #[true,true,true,true,true,false,false,false] rfl rfl (one_of HT_.out (by kernel_rfl)) (by decide) (fun K hK=>?_)
      refine Kd.R_lit_step Kd.string _ 9 ?hg (N:=25) ?hd (xs:=([a1 ++ t178] : List ByteArray)) (inner:=[.string (a1 ++ t178)]) (ok:=fun _=>True) (okp:=fun _=>True) ?hr ?hp (fun _ hk=>hk) trivial (Below.refl _ _) (Nat.le_refl _) (by simp) ?_; (case hd=>rfl); (case hg=>rfl); (case hr=>first | (go_simp; done) | (go_simp; rfl)); (case hp=>exact (Reps.one (show Kd.M Kd.string _ _ _ (a1 ++ t178) [.string (a1 ++ t178)] from rfl) (Reps.none _ _)))
      intro v181 w19 ho20 hb hg_ hnew_
      clear hg_ hnew_
      (first | rw [← Ny180.out] at ho20 | (simp only [Int.reduceToNat] at ho20; rw [← Ny180.out] at ho20))
      have n0_:=Aside0.mk (Kd.R_lower ho20 (below_size (by repeat (first | (with_reducible first | exact HB.out | apply bA | apply bN | apply bD | refine below_set ?_ GE176.out) | exact HB.out))))
      have n1_:=Aside0.mk (blk_below (g:=gb176) (o := .cells #[.int .u8 a0_0, .int .u8 a0_1, .int .u8 a0_2, .int .u8 a0_3, .int .u8 a0_4] 25 (0,0)) (by (with_reducible repeat (first | refine kN ?_ _ | refine kD ?_ | refine kA ?_ _)); exact BK176.out) hb)
      have n2_:=Aside0.mk (below_step (by repeat (first | (with_reducible first | exact HB.out | apply bA | apply bN | apply bD | refine below_set ?_ GE176.out) | exact HB.out)) hb)
      clear BK176
      clear HB
      have HO182:=n0_
      have BK176:=n1_
      have HB:=n2_
      clear n0_ n1_ n2_
      clear hb ho20
      refine hK.out _ _ ⟨blk_cell BK176.out 0,blk_cell BK176.out 1,blk_cell BK176.out 2,blk_cell BK176.out 3,blk_cell BK176.out 4⟩ (fun hHeld=>?_)
      clear hK K
      refine norm_ (a':=?_) ?_ ?_
      rotate_left
      ·show Act.put _ (some 25) _=_
       simp only [Act.put,sA_,s0_,s1_,i64_w,i32_w]
       rfl
      refine one_ (i:=5) (N:=some 27) #[true,true,true,true,true,true,false,false] rfl rfl (one_of HT_.out (by kernel_rfl)) (by decide) (fun K hK=>?_)
      refine Kd.R_append_rows_step Kd.string (w0:=w) w.heap.size (by rfl) (.tmp 25) (.tmp 26) 53 9 (.string ⟨#[]⟩) 16 rfl Tryd.underlying53 info9 rfl (by decide) (by omega) v181 y180 (l2.drop ((ji5) : Int).toNat) _ _ _ (fun _=>True) (fun _=>False) rfl rfl ?aO ?aR (fun _ _ h=>h) (fun _ h=>h.elim) ?aF ?aB ?aS ?aL ?_
      (case aR=>first | (rw [← show (l2.drop ((ji5) : Int).toNat).length=(l2.length - (ji5).toNat) from List.length_drop]; repeat (first | exact (Kd.C_below HR179.out HB.out) | (with_reducible refine Kd.C_alloc ?_ _) | (with_reducible refine Kd.C_drewN ?_ _) | (with_reducible refine Kd.C_drew ?_))) | (repeat (first | exact (Kd.C_below HR179.out HB.out) | (with_reducible refine Kd.C_alloc ?_ _) | (with_reducible refine Kd.C_drewN ?_ _) | (with_reducible refine Kd.C_drew ?_))))
      (case aB=>exact (by repeat (first | (with_reducible first | exact HB.out | apply bA | apply bN | apply bD | refine below_set ?_ GE176.out) | exact HB.out)))
      (case aF=>exact (fun _ _=>trivial))
      (case aO=>exact (by (with_reducible repeat (first | apply Kd.R_alloc | apply Kd.R_drewN | apply Kd.R_drew)); exact HO182.out))
      (case aS=>exact (below_size (by repeat (first | (with_reducible first | exact HB.out | apply bA | apply bN | apply bD | refine below_set ?_ GE176.out) | exact HB.out))))
      (case aL=>have:=LMc12.out; have hlx_:=(show (l2.drop ((ji5) : Int).toNat).length=(l2.length - (ji5).toNat) from List.length_drop); omega)
      intro v184 w21 ho hb hg hat
      rw [← Ny183.out] at ho
      have n0_:=Aside0.mk (blk_grown (g:=gb176) (o := .cells #[.int .u8 a0_0, .int .u8 a0_1, .int .u8 a0_2, .int .u8 a0_3, .int .u8 a0_4] 25 (0,0)) (by (with_reducible repeat (first | refine kN ?_ _ | refine kD ?_ | refine kA ?_ _)); exact BK176.out) hg (Kd.R_ne HO182.out BK176.out (by decide)))
      have n1_:=Aside0.mk (hb)
      have n2_:=Aside0.mk (ho)
      clear BK176
      clear HB
      clear HO182
      have BK176:=n0_
      have HB:=n1_
      have HO185:=n2_
      clear n0_ n1_ n2_
      clear ho hb hg hat
      obtain ⟨Ao22,co22,eo22⟩:=Kd.R_slice HO185.out
      (first | subst eo22 | (injection eo22 with f1_ f2_ f3_; have f4_:=f1_.symm; have f5_:=f3_.symm; clear f1_ f2_ f3_; subst f4_; subst f5_))
      refine hK.out _ _ ⟨blk_cell BK176.out 0,blk_cell BK176.out 1,blk_cell BK176.out 2,blk_cell BK176.out 3,blk_cell BK176.out 4⟩ (fun hHeld=>?_)
      clear hK K
      refine norm_ (a':=?_) ?_ ?_
      rotate_left
      ·show Act.put _ (some 27) _=_
       simp only [Act.put,sA_,s0_,s1_,i64_w,i32_w]
       rfl
      refine one_ (i:=6) (N:=some 28) #[true,true,true,true,true,true,true,false] rfl rfl (one_of HT_.out (by kernel_rfl)) (by decide) (fun K hK=>?_)
      refine goes_ Tryd.func60 (by kernel_rfl) rfl #[.int .u8 a0_0, .slice Ao22 y183.length co22] (by rfl) rfl rfl (by (try simp only [List.map_toArray,List.map_cons,List.map_nil]); first | done | rfl | (simp only [List.length_drop,List.length_take]; rfl)) ?_
      with_reducible refine (delim_Join.calls a0_0 _ _ y183 t186 _ ?side1 ?side2 A13.out).mono ?_
      (case side1=>repeat (first | exact (Kd.R_reads' HO185.out).2.2 | (with_reducible refine Kd.C_alloc ?_ _) | (with_reducible refine Kd.C_drewN ?_ _) | (with_reducible refine Kd.C_drew ?_)))
      (case side2=>exact (Kd.R_reads' HO185.out).2.1)
      rintro e w23 ⟨rfl,hb⟩
      refine ⟨_,rfl,?_⟩
      have n0_:=Aside0.mk (Kd.R_below (by (with_reducible repeat (first | apply Kd.R_alloc | apply Kd.R_drewN | apply Kd.R_drew)); exact HO185.out) hb)
      have n1_:=Aside0.mk (blk_below (g:=gb176) (o := .cells #[.int .u8 a0_0, .int .u8 a0_1, .int .u8 a0_2, .int .u8 a0_3, .int .u8 a0_4] 25 (0,0)) (by (with_reducible repeat (first | refine kN ?_ _ | refine kD ?_ | refine kA ?_ _)); exact BK176.out) hb)
      have n2_:=Aside0.mk (below_step (by repeat (first | (with_reducible first | exact HB.out | apply bA | apply bN | apply bD | refine below_set ?_ GE176.out) | exact HB.out)) hb)
      clear HO185
      clear BK176
      clear HB
      have HO185:=n0_
      have BK176:=n1_
      have HB:=n2_
      clear n0_ n1_ n2_
      (try clear hb)
      (try clear hb2)
      (try clear hk)
      (try clear hi)
      refine hK.out _ _ ⟨blk_cell BK176.out 0,blk_cell BK176.out 1,blk_cell BK176.out 2,blk_cell BK176.out 3,blk_cell BK176.out 4⟩ (fun hHeld=>?_)
      clear hK K
      refine norm_ (a':=?_) ?_ ?_
      rotate_left
      ·show Act.put _ (some 28) _=_
       simp only [Act.put,sA_,s0_,s1_,i64_w,i32_w]
       rfl
      refine pure_ (i:=7) (N:=some 6) (v:=?_) (a':=?_) #[true,true,true,true,true,true,true,true] rfl rfl (any_of HT_.out (by kernel_rfl)) (fun _ _ _ h=>h) (Or.inl ⟨by rfl,?_⟩) ?_ ?_
      rotate_left
      ·intro w'
       go_simp
       with_reducible rfl
      rotate_left
      ·simp only [Act.put,sA_,s0_,s1_,i64_w,i32_w]
       rfl
      refine done_ (done_of HT_.out (by kernel_rfl)) ?_
      try go_wp2
      go_ret
      exact ⟨by first | rfl | (simp [errW_none,errW_some] <;> rfl) | (simp only [← hji5]; first | rfl | (simp [errW_none,errW_some] <;> rfl)) | (simp [*,errW_none,errW_some] <;> rfl),by repeat (first | (with_reducible first | exact HB.out | apply bA | apply bN | apply bD | refine below_set ?_ GE176.out) | exact HB.out)⟩
     ·rw [if_neg c12] at H
      exact absurd H (by simp)
    ·rw [if_neg c9] at H
     exact absurd H (by simp)
   ·rw [if_neg c7] at H
    exact absurd H (by simp)
  ·rw [if_neg c6] at H
   exact absurd H (by simp)
 ·rw [if_neg c4] at H
  have c4b0 : (a1.toList == ([77,83,72] : List UInt8))=false:=beq_eq_false_iff_ne.mpr c4
  have c4b1 : (a1.toList != ([77,83,72] : List UInt8))=true:=bne_iff_ne.mpr c4
  obtain ⟨y187,hy187⟩ : ∃ y_ : List ByteArray,y_=(([a1] : List ByteArray)):=⟨_,rfl⟩
  replace H : (if y187.length + l2.length < 8796093022208 then ((delim_Join.f a0_0 (y187 ++ l2)).bind fun t193=>(some t193)) else (none))=some r:=by first | (rw [hy187]; with_reducible exact H) | (have H2_:=(Option.bind_some _ _).symm.trans H; rw [hy187]; with_reducible exact H2_) | (have H2_:=(Option.bind_some _ _).symm.trans H; with_reducible exact H2_) | with_reducible exact H | (rw [hy187]; exact H) | exact H
  have Ny187:=Aside0.mk hy187
  clear hy187
  by_cases c24 : y187.length + l2.length < 8796093022208
  ·rw [if_pos c24] at H
   have LMc24:=Aside0.mk c24
   clear c24
   obtain ⟨y190,hy190⟩ : ∃ y_ : List ByteArray,y_=(y187 ++ l2):=⟨_,rfl⟩
   replace H : ((delim_Join.f a0_0 y190).bind fun t193=>(some t193))=some r:=by first | (rw [hy190]; with_reducible exact H) | (have H2_:=(Option.bind_some _ _).symm.trans H; rw [hy190]; with_reducible exact H2_) | (have H2_:=(Option.bind_some _ _).symm.trans H; with_reducible exact H2_) | with_reducible exact H | (rw [hy190]; exact H) | exact H
   have Ny190:=Aside0.mk hy190
   clear hy190
   replace H:=Option.bind_eq_some_iff.mp H
   obtain ⟨t193,A250,H⟩:=H
   replace H : (some t193)=some r:=H
   have A25:=Aside0.mk A250
   clear A250
   obtain rfl:=Option.some.inj H
   go_enter Tryd.func36,Tryd.ntmps36
   try go_wp2_with (first | ((with_reducible refine gate_dst (N:=3) rfl ?_); refine box_event ?hg (N:=3) ?hd (cs:=#[.int .u8 a0_0, .int .u8 a0_1, .int .u8 a0_2, .int .u8 a0_3, .int .u8 a0_4]) (t:=25) ?hr ?_; (case hd=>rfl); (case hg=>rfl); (case hr=>first | (go_simp; done) | (go_simp; rfl)); intro gb176 hg w26 hbox hb; have n0_:=Aside0.mk (below_step (by repeat (first | (with_reducible first | exact HB.out | apply bA | apply bN | apply bD) | exact HB.out)) hb); have n1_:=Aside0.mk (hbox); have n2_:=Aside0.mk ((by rw [hg]; exact (below_size (by repeat (first | (with_reducible first | exact HB.out | apply bA | apply bN | apply bD) | exact HB.out))) : w.heap.size≤gb176)); have n3_:=Aside0.mk ((by rw [hg]; exact (below_size (by repeat (first | (with_reducible first | exact HB.out | apply bA | apply bN | apply bD) | exact HB.out))) : w.heap.size≤gb176)); clear HB; have HB:=n0_; have BK176:=n1_; have GW176:=n2_; have GE176:=n3_; clear n0_ n1_ n2_ n3_; clear hb hbox hg))
   have n0_:=Aside0.mk (blk_drew BK176.out)
   have n1_:=Aside0.mk (below_drew1 HB.out)
   clear BK176
   clear HB
   have BK176:=n0_
   have HB:=n1_
   clear n0_ n1_
   refine start_ (n:=8) (S:=fun w'=>w'.cell? ⟨gb176,0,none⟩=some (.int .u8 a0_0)∧w'.cell? ⟨gb176,1,none⟩=some (.int .u8 a0_1)∧w'.cell? ⟨gb176,2,none⟩=some (.int .u8 a0_2)∧w'.cell? ⟨gb176,3,none⟩=some (.int .u8 a0_3)∧w'.cell? ⟨gb176,4,none⟩=some (.int .u8 a0_4)) (ds:=[]) #[false,false,false,false,false,false,false,false] (by kernel_rfl) rfl rfl ⟨blk_cell BK176.out 0,blk_cell BK176.out 1,blk_cell BK176.out 2,blk_cell BK176.out 3,blk_cell BK176.out 4⟩ (fun hHeld=>?_); refine with_tabW segment_Make.tab5 segment_Make.bits5 (fun HT_ HW_=>?_)
   generalize w26.drew=w27 at BK176 HB hHeld ⊢
   refine pure_ (i:=0) (N:=some 22) (v:=?_) (a':=?_) #[true,false,false,false,false,false,false,false] rfl rfl (any_of HT_.out (by kernel_rfl)) (fun _ _ _ h=>h) (Or.inl ⟨by rfl,?_⟩) ?_ ?_
   rotate_left
   ·intro w'
    go_simp
    with_reducible rfl
   rotate_left
   ·simp only [Act.put,sA_,s0_,s1_,i64_w,i32_w]
    rfl
   refine pure_ (i:=2) (N:=some 24) (v:=?_) (a':=?_) #[true,false,true,false,false,false,false,false] rfl rfl (any_of HT_.out (by kernel_rfl)) (fun _ _ _ h=>h) (Or.inl ⟨by rfl,?_⟩) ?_ ?_
   rotate_left
   ·intro w'
    go_simp
    with_reducible rfl
   rotate_left
   ·simp only [Act.put,sA_,s0_,s1_,i64_w,i32_w]
    rfl
   refine pure_ (i:=4) (N:=some 26) (v:=?_) (a':=?_) #[true,false,true,false,true,false,false,false] rfl rfl (any_of HT_.out (by kernel_rfl)) (fun _ _ _ h=>h) (Or.inl ⟨by rfl,?_⟩) ?_ ?_
   rotate_left
   ·intro w'
    go_simp
    with_reducible rfl
   rotate_left
   ·simp only [Act.put,sA_,s0_,s1_,i64_w,i32_w]
    rfl
   refine take_ (i:=1) (N:=some 23) (v:=?_) (a':=?_) #[true,true,true,false,true,false,false,false] rfl rfl (take_ofW HT_.out HW_.out (by kernel_rfl)) (fun _ _ _ h=>h) (Or.inl ⟨by rfl,?_⟩) hHeld ?_ ?_
   rotate_left
   ·rintro w' ⟨s0,s1,s2,s3,s4⟩
    go_simp
    with_reducible rfl
   rotate_left
   ·simp only [Act.put,sA_,s0_,s1_,i64_w,i32_w]
    rfl
   refine one_ (i:=3) (N:=some 25) #[true,true,true,true,true,false,false,false] rfl rfl (one_of HT_.out (by kernel_rfl)) (by decide) (fun K hK=>?_)
   refine Kd.R_lit_step Kd.string _ 9 ?hg (N:=25) ?hd (xs:=([a1] : List ByteArray)) (inner:=[.string a1]) (ok:=fun _=>True) (okp:=fun _=>True) ?hr ?hp (fun _ hk=>hk) trivial (Below.refl _ _) (Nat.le_refl _) (by simp) ?_; (case hd=>rfl); (case hg=>rfl); (case hr=>first | (go_simp; done) | (go_simp; rfl)); (case hp=>exact (Reps.one (show Kd.M Kd.string _ _ _ a1 [.string a1] from rfl) (Reps.none _ _)))
   intro v188 w28 ho29 hb hg_ hnew_
   clear hg_ hnew_
   (first | rw [← Ny187.out] at ho29 | (simp only [Int.reduceToNat] at ho29; rw [← Ny187.out] at ho29))
   have n0_:=Aside0.mk (Kd.R_lower ho29 (below_size (by repeat (first | (with_reducible first | exact HB.out | apply bA | apply bN | apply bD | refine below_set ?_ GE176.out) | exact HB.out))))
   have n1_:=Aside0.mk (blk_below (g:=gb176) (o := .cells #[.int .u8 a0_0, .int .u8 a0_1, .int .u8 a0_2, .int .u8 a0_3, .int .u8 a0_4] 25 (0,0)) (by (with_reducible repeat (first | refine kN ?_ _ | refine kD ?_ | refine kA ?_ _)); exact BK176.out) hb)
   have n2_:=Aside0.mk (below_step (by repeat (first | (with_reducible first | exact HB.out | apply bA | apply bN | apply bD | refine below_set ?_ GE176.out) | exact HB.out)) hb)
   clear BK176
   clear HB
   have HO189:=n0_
   have BK176:=n1_
   have HB:=n2_
   clear n0_ n1_ n2_
   clear hb ho29
   refine hK.out _ _ ⟨blk_cell BK176.out 0,blk_cell BK176.out 1,blk_cell BK176.out 2,blk_cell BK176.out 3,blk_cell BK176.out 4⟩ (fun hHeld=>?_)
   clear hK K
   refine norm_ (a':=?_) ?_ ?_
   rotate_left
   ·show Act.put _ (some 25) _=_
    simp only [Act.put,sA_,s0_,s1_,i64_w,i32_w]
    rfl
   refine one_ (i:=5) (N:=some 27) #[true,true,true,true,true,true,false,false] rfl rfl (one_of HT_.out (by kernel_rfl)) (by decide) (fun K hK=>?_)
   refine Kd.R_append_rows_step Kd.string (w0:=w) w.heap.size (by rfl) (.tmp 25) (.tmp 26) 53 9 (.string ⟨#[]⟩) 16 rfl Tryd.underlying53 info9 rfl (by decide) (by omega) v188 y187 l2 _ _ _ (fun _=>True) (fun _=>False) rfl rfl ?aO ?aR (fun _ _ h=>h) (fun _ h=>h.elim) ?aF ?aB ?aS ?aL ?_
   (case aR=>repeat (first | exact (Kd.C_below HR2.out HB.out) | (with_reducible refine Kd.C_alloc ?_ _) | (with_reducible refine Kd.C_drewN ?_ _) | (with_reducible refine Kd.C_drew ?_)))
   (case aB=>exact (by repeat (first | (with_reducible first | exact HB.out | apply bA | apply bN | apply bD | refine below_set ?_ GE176.out) | exact HB.out)))
   (case aF=>exact (fun _ _=>trivial))
   (case aO=>exact (by (with_reducible repeat (first | apply Kd.R_alloc | apply Kd.R_drewN | apply Kd.R_drew)); exact HO189.out))
   (case aS=>exact (below_size (by repeat (first | (with_reducible first | exact HB.out | apply bA | apply bN | apply bD | refine below_set ?_ GE176.out) | exact HB.out))))
   (case aL=>have:=LMc24.out; omega)
   intro v191 w30 ho hb hg hat
   rw [← Ny190.out] at ho
   have n0_:=Aside0.mk (blk_grown (g:=gb176) (o := .cells #[.int .u8 a0_0, .int .u8 a0_1, .int .u8 a0_2, .int .u8 a0_3, .int .u8 a0_4] 25 (0,0)) (by (with_reducible repeat (first | refine kN ?_ _ | refine kD ?_ | refine kA ?_ _)); exact BK176.out) hg (Kd.R_ne HO189.out BK176.out (by decide)))
   have n1_:=Aside0.mk (hb)
   have n2_:=Aside0.mk (ho)
   clear BK176
   clear HB
   clear HO189
   have BK176:=n0_
   have HB:=n1_
   have HO192:=n2_
   clear n0_ n1_ n2_
   clear ho hb hg hat
   obtain ⟨Ao31,co31,eo31⟩:=Kd.R_slice HO192.out
   (first | subst eo31 | (injection eo31 with f1_ f2_ f3_; have f4_:=f1_.symm; have f5_:=f3_.symm; clear f1_ f2_ f3_; subst f4_; subst f5_))
   refine hK.out _ _ ⟨blk_cell BK176.out 0,blk_cell BK176.out 1,blk_cell BK176.out 2,blk_cell BK176.out 3,blk_cell BK176.out 4⟩ (fun hHeld=>?_)
   clear hK K
   refine norm_ (a':=?_) ?_ ?_
   rotate_left
   ·show Act.put _ (some 27) _=_
    simp only [Act.put,sA_,s0_,s1_,i64_w,i32_w]
    rfl
   refine one_ (i:=6) (N:=some 28) #[true,true,true,true,true,true,true,false] rfl rfl (one_of HT_.out (by kernel_rfl)) (by decide) (fun K hK=>?_)
   refine goes_ Tryd.func60 (by kernel_rfl) rfl #[.int .u8 a0_0, .slice Ao31 y190.length co31] (by rfl) rfl rfl (by (try simp only [List.map_toArray,List.map_cons,List.map_nil]); first | done | rfl | (simp only [List.length_drop,List.length_take]; rfl)) ?_
   with_reducible refine (delim_Join.calls a0_0 _ _ y190 t193 _ ?side1 ?side2 A25.out).mono ?_
   (case side1=>repeat (first | exact (Kd.R_reads' HO192.out).2.2 | (with_reducible refine Kd.C_alloc ?_ _) | (with_reducible refine Kd.C_drewN ?_ _) | (with_reducible refine Kd.C_drew ?_)))
   (case side2=>exact (Kd.R_reads' HO192.out).2.1)
   rintro e w32 ⟨rfl,hb⟩
   refine ⟨_,rfl,?_⟩
   have n0_:=Aside0.mk (Kd.R_below (by (with_reducible repeat (first | apply Kd.R_alloc | apply Kd.R_drewN | apply Kd.R_drew)); exact HO192.out) hb)
   have n1_:=Aside0.mk (blk_below (g:=gb176) (o := .cells #[.int .u8 a0_0, .int .u8 a0_1, .int .u8 a0_2, .int .u8 a0_3, .int .u8 a0_4] 25 (0,0)) (by (with_reducible repeat (first | refine kN ?_ _ | refine kD ?_ | refine kA ?_ _)); exact BK176.out) hb)
   have n2_:=Aside0.mk (below_step (by repeat (first | (with_reducible first | exact HB.out | apply bA | apply bN | apply bD | refine below_set ?_ GE176.out) | exact HB.out)) hb)
   clear HO192
   clear BK176
   clear HB
   have HO192:=n0_
   have BK176:=n1_
   have HB:=n2_
   clear n0_ n1_ n2_
   (try clear hb)
   (try clear hb2)
   (try clear hk)
   (try clear hi)
   refine hK.out _ _ ⟨blk_cell BK176.out 0,blk_cell BK176.out 1,blk_cell BK176.out 2,blk_cell BK176.out 3,blk_cell BK176.out 4⟩ (fun hHeld=>?_)
   clear hK K
   refine norm_ (a':=?_) ?_ ?_
   rotate_left
   ·show Act.put _ (some 28) _=_
    simp only [Act.put,sA_,s0_,s1_,i64_w,i32_w]
    rfl
   refine pure_ (i:=7) (N:=some 6) (v:=?_) (a':=?_) #[true,true,true,true,true,true,true,true] rfl rfl (any_of HT_.out (by kernel_rfl)) (fun _ _ _ h=>h) (Or.inl ⟨by rfl,?_⟩) ?_ ?_
   rotate_left
   ·intro w'
    go_simp
    with_reducible rfl
   rotate_left
   ·simp only [Act.put,sA_,s0_,s1_,i64_w,i32_w]
    rfl
   refine done_ (done_of HT_.out (by kernel_rfl)) ?_
   try go_wp2
   go_ret
   exact ⟨by first | rfl | (simp [errW_none,errW_some] <;> rfl) | (simp [*,errW_none,errW_some] <;> rfl),by repeat (first | (with_reducible first | exact HB.out | apply bA | apply bN | apply bD | refine below_set ?_ GE176.out) | exact HB.out)⟩
  ·rw [if_neg c24] at H
   exact absurd H (by simp)

/-! ### strings_Index: function 70 -/
def strings_Index.f (a0 : ByteArray) (a1 : ByteArray) : Option (Int):=(stringslite_Index.f a0 a1).bind fun t194=>(some t194)
theorem strings_Index.calls (a0 : ByteArray) (a1 : ByteArray) (r : Int) (w : World) (h : strings_Index.f a0 a1=some r) :
  Calls Tryd.prog 70 #[.string a0, .string a1] w fun e w'=>e = .returned (.int .i64 r)∧Drawn0 w w':=by
 have H : ((stringslite_Index.f a0 a1).bind fun t194=>(some t194))=some r:=h
 clear h
 replace H:=Option.bind_eq_some_iff.mp H
 obtain ⟨t194,A30,H⟩:=H
 replace H : (some t194)=some r:=H
 have A3:=Aside0.mk A30
 clear A30
 obtain rfl:=Option.some.inj H
 go_enter Tryd.func70,Tryd.ntmps70
 go_wp2_with (first | ((with_reducible refine gate_callee (f:=76) rfl ?_); refine goesL_ (some 7) rfl rfl Tryd.func76 (by kernel_rfl) rfl #[.string a0, .string a1] rfl (by (try simp only [List.map_toArray,List.map_cons,List.map_nil]); first | done | rfl | (simp only [List.length_drop,List.length_take]; rfl)) ?_; (with_reducible refine (stringslite_Index.calls a0 a1 t194 _ A3.out).mono ?_); rintro e w' ⟨rfl,⟨nd,rfl⟩⟩; refine ⟨_,rfl,?_⟩))
 go_ret
 exact ⟨by first | rfl | (simp; done) | (simp [*]; done),by repeat (first | exact Drawn0.refl _ | apply Drawn0.step)⟩

/-! ### strings_Contains: function 58 -/
def strings_Contains.f (a0 : ByteArray) (a1 : ByteArray) : Option (Bool):=(strings_Index.f a0 a1).bind fun t195=>(some (decide (t195 ≥ 0)))
theorem strings_Contains.calls (a0 : ByteArray) (a1 : ByteArray) (r : Bool) (w : World) (h : strings_Contains.f a0 a1=some r) :
  Calls Tryd.prog 58 #[.string a0, .string a1] w fun e w'=>e = .returned (.bool r)∧Drawn0 w w':=by
 have H : ((strings_Index.f a0 a1).bind fun t195=>(some (decide (t195 ≥ 0))))=some r:=h
 clear h
 replace H:=Option.bind_eq_some_iff.mp H
 obtain ⟨t195,A30,H⟩:=H
 replace H : (some (decide (t195 ≥ 0)))=some r:=H
 have A3:=Aside0.mk A30
 clear A30
 obtain rfl:=Option.some.inj H
 go_enter Tryd.func58,Tryd.ntmps58
 go_wp2_with (first | ((with_reducible refine gate_callee (f:=70) rfl ?_); refine goesL_ (some 7) rfl rfl Tryd.func70 (by kernel_rfl) rfl #[.string a0, .string a1] rfl (by (try simp only [List.map_toArray,List.map_cons,List.map_nil]); first | done | rfl | (simp only [List.length_drop,List.length_take]; rfl)) ?_; (with_reducible refine (strings_Index.calls a0 a1 t195 _ A3.out).mono ?_); rintro e w' ⟨rfl,⟨nd,rfl⟩⟩; refine ⟨_,rfl,?_⟩))
 go_ret
 exact ⟨by first | rfl | (simp; done) | (simp [*]; done),by repeat (first | exact Drawn0.refl _ | apply Drawn0.step)⟩

end Go.Proofs.YtljdbphojcglgaaDoor.PF
