import Derived.Test.YtljdbphojcglgaaDoorPFx0
namespace Go.Proofs.YtljdbphojcglgaaDoor.PF
open Go.RowKit Go.Proofs.YtljdbphojcglgaaDoorW.PrintWords Go.Proofs.YtljdbphojcglgaaDoorW.PrintLast Go.Proofs.YtljdbphojcglgaaDoorW.PrintMore
set_option maxHeartbeats 8000000
set_option maxRecDepth 100000
attribute [local go_sem] max2_int min2_int max_two min_two max_three min_three max_four min_four
set_option linter.unusedVariables false
set_option linter.unusedSimpArgs false




/-! ### stringslite_IndexByte: function 80 -/
def stringslite_IndexByte.f (a0 : ByteArray) (a1 : Int) : Option (Int):=some (Lib.indexByte a0.data.toList a1.toNat.toUInt8)
theorem stringslite_IndexByte.calls (a0 : ByteArray) (a1 : Int) (r : Int) (w : World) (h : stringslite_IndexByte.f a0 a1=some r) :
  Calls Tryd.prog 80 #[.string a0, .int .u8 a1] w fun e w'=>e = .returned (.int .i64 r)∧Drawn0 w w':=by
 obtain rfl:=Option.some.inj h
 clear h
 go_enter Tryd.func80,Tryd.ntmps80
 go_wp2
 rw [run_callFunc_extern Tryd.func85 (by kernel_rfl) (by kernel_rfl) (by kernel_rfl) (e:=Extern.BytealgIndexByte.indexByte) (by kernel_rfl),Lib.run_indexByteString]
 simp only [Result.andThen]
 rw [Oper.upon_value]
 go_wp2
 go_ret
 exact ⟨rfl,Drawn0.refl _⟩





/-! ### stringslite_Index: function 76 -/
def stringslite_Index.f (a0 : ByteArray) (a1 : ByteArray) : Option (Int):=if a1.size=1 then stringslite_IndexByte.f a0 (bt a1 0) else none
theorem stringslite_Index.calls (a0 : ByteArray) (a1 : ByteArray) (r : Int) (w : World) (h : stringslite_Index.f a0 a1=some r) :
  Calls Tryd.prog 76 #[.string a0, .string a1] w fun e w'=>e = .returned (.int .i64 r)∧Drawn0 w w':=by
 unfold stringslite_Index.f at h
 by_cases h1 : a1.size=1
 ·rw [if_pos h1] at h
  obtain ⟨c,rfl⟩:=Lib.one_byte a1 h1
  have e:bt ⟨#[c]⟩ 0=(c.toNat : Int):=rfl
  rw [e] at h
  have HH:=Lib.hid h
  clear h h1 e
  go_enter Tryd.func76,Tryd.ntmps76
  go_wp2_with (go_at_call 80; refine (stringslite_IndexByte.calls _ _ _ _ HH.out).mono ?_; rintro e w' ⟨rfl,⟨nd,rfl⟩⟩)
  ·have h : ([c] == a0.toList)=true:=by assumption
   have hr:r=0:=by
    have h2:=HH.out
    have e:a0.data.toList=[c]:=by rw [← Lib.toList_data]; exact (beq_iff_eq.1 h).symm
    unfold stringslite_IndexByte.f at h2
    rw [e] at h2
    simpa [Lib.indexByte] using h2.symm
   go_ret
   exact ⟨by rw [hr]; rfl,by repeat (first | exact Drawn0.refl _ | apply Drawn0.step)⟩
  ·go_ret
   exact ⟨rfl,by repeat (first | exact Drawn0.refl _ | apply Drawn0.step)⟩
 ·rw [if_neg h1] at h
  cases h


/-! ### stringslite_Cut: function 74 -/
def stringslite_Cut.f (a0 : ByteArray) (a1 : ByteArray) : Option (ByteArray × ByteArray × Bool):=(stringslite_Index.f a0 a1).bind fun t101=>(if t101 ≥ 0 then (if 0≤t101 then (if t101≤(a0.size : Int) then (if 0≤(wrap64 (t101 + (a1.size : Int))) then (if (wrap64 (t101 + (a1.size : Int)))≤(a0.size : Int) then (some (a0.extract 0 (t101 : Int).toNat,a0.extract ((wrap64 (t101 + (a1.size : Int))) : Int).toNat a0.size,true)) else (none)) else (none)) else (none)) else (none)) else (some (a0,(⟨#[]⟩ : ByteArray),false)))
theorem stringslite_Cut.calls (a0 : ByteArray) (a1 : ByteArray) (r1 : ByteArray) (r2 : ByteArray) (r3 : Bool) (w : World) (h : stringslite_Cut.f a0 a1=some (r1,r2,r3)) :
  Calls Tryd.prog 74 #[.string a0, .string a1] w fun e w'=>e = .returned (.tuple #[.string r1, .string r2, .bool r3])∧Drawn0 w w':=by
 have H : ((stringslite_Index.f a0 a1).bind fun t101=>(if t101 ≥ 0 then (if 0≤t101 then (if t101≤(a0.size : Int) then (if 0≤(wrap64 (t101 + (a1.size : Int))) then (if (wrap64 (t101 + (a1.size : Int)))≤(a0.size : Int) then (some (a0.extract 0 (t101 : Int).toNat,a0.extract ((wrap64 (t101 + (a1.size : Int))) : Int).toNat a0.size,true)) else (none)) else (none)) else (none)) else (none)) else (some (a0,(⟨#[]⟩ : ByteArray),false))))=some (r1,r2,r3):=h
 clear h
 replace H:=Option.bind_eq_some_iff.mp H
 obtain ⟨t101,A30,H⟩:=H
 replace H : (if t101 ≥ 0 then (if 0≤t101 then (if t101≤(a0.size : Int) then (if 0≤(wrap64 (t101 + (a1.size : Int))) then (if (wrap64 (t101 + (a1.size : Int)))≤(a0.size : Int) then (some (a0.extract 0 (t101 : Int).toNat,a0.extract ((wrap64 (t101 + (a1.size : Int))) : Int).toNat a0.size,true)) else (none)) else (none)) else (none)) else (none)) else (some (a0,(⟨#[]⟩ : ByteArray),false)))=some (r1,r2,r3):=H
 have A3:=Aside0.mk A30
 clear A30
 by_cases c4 : t101 ≥ 0
 ·rw [if_pos c4] at H
  have c4b0:decide (0≤t101)=true:=decide_eq_true c4
  clear c4
  by_cases c5 : 0≤t101
  ·rw [if_pos c5] at H
   have c5b0:=eq_true c5
   have c5b1:decide (0≤t101)=true:=decide_eq_true c5
   clear c5
   by_cases c6 : t101≤(a0.size : Int)
   ·rw [if_pos c6] at H
    have c6b0:=eq_true c6
    have c6b1:decide (t101≤(a0.size : Int))=true:=decide_eq_true c6
    clear c6
    obtain ⟨ji7,hji7⟩ : ∃ j_ : Int,(wrap64 (t101 + (a1.size : Int)))=j_:=⟨_,rfl⟩
    replace H : (if 0≤(ji7) then (if (ji7)≤(a0.size : Int) then (some (a0.extract 0 (t101 : Int).toNat,a0.extract ((ji7) : Int).toNat a0.size,true)) else (none)) else (none))=some (r1,r2,r3):=by first | (rw [hji7] at H; exact H) | (simp only [hji7] at H ⊢; exact H)
    (try rw [hji7] at A3)
    have hji7w : (IntKind.i64.wrap (t101 + (a1.size : Int)))=ji7:=(i64_w _).trans hji7
    by_cases c8 : 0≤(ji7)
    ·rw [if_pos c8] at H
     have c8b0:=eq_true c8
     have c8b1:decide (0≤(ji7))=true:=decide_eq_true c8
     clear c8
     by_cases c9 : (ji7)≤(a0.size : Int)
     ·rw [if_pos c9] at H
      have c9b0:=eq_true c9
      have c9b1:decide ((ji7)≤(a0.size : Int))=true:=decide_eq_true c9
      clear c9
      simp only [Option.some.injEq,Prod.mk.injEq] at H
      obtain ⟨rfl,rfl,rfl⟩:=H
      go_enter Tryd.func74,Tryd.ntmps74
      go_wp2_with (first | (go_at_call 76; (with_reducible refine (stringslite_Index.calls a0 a1 t101 _ A3.out).mono ?_); rintro e w' ⟨rfl,⟨nd,rfl⟩⟩; (try first | exact ⟨rfl,_,World.drewN_drewN _ _ _⟩ | exact ⟨rfl,_,Eq.trans (World.drewN_drewN _ _ _) (congrArg (World.drewN _) (Nat.add_assoc _ _ _))⟩)))
      repeat (go_quiet (first | (go_at_call 76; (with_reducible refine (stringslite_Index.calls a0 a1 t101 _ A3.out).mono ?_); rintro e w' ⟨rfl,⟨nd,rfl⟩⟩; (try first | exact ⟨rfl,_,World.drewN_drewN _ _ _⟩ | exact ⟨rfl,_,Eq.trans (World.drewN_drewN _ _ _) (congrArg (World.drewN _) (Nat.add_assoc _ _ _))⟩))); try go_wp2_with (first | (go_at_call 76; (with_reducible refine (stringslite_Index.calls a0 a1 t101 _ A3.out).mono ?_); rintro e w' ⟨rfl,⟨nd,rfl⟩⟩; (try first | exact ⟨rfl,_,World.drewN_drewN _ _ _⟩ | exact ⟨rfl,_,Eq.trans (World.drewN_drewN _ _ _) (congrArg (World.drewN _) (Nat.add_assoc _ _ _))⟩))))
      go_ret3
      exact ⟨by first | rfl | (simp; done) | (simp only [← hji7] <;> (first | rfl | simp)) | (simp [*]; done),by repeat (first | exact Drawn0.refl _ | apply Drawn0.step)⟩
     ·rw [if_neg c9] at H
      exact absurd H (by simp)
    ·rw [if_neg c8] at H
     exact absurd H (by simp)
   ·rw [if_neg c6] at H
    exact absurd H (by simp)
  ·rw [if_neg c5] at H
   exact absurd H (by simp)
 ·rw [if_neg c4] at H
  have c4b0:decide (0≤t101)=false:=decide_eq_false c4
  clear c4
  simp only [Option.some.injEq,Prod.mk.injEq] at H
  obtain ⟨rfl,rfl,rfl⟩:=H
  go_enter Tryd.func74,Tryd.ntmps74
  go_wp2_with (first | (go_at_call 76; (with_reducible refine (stringslite_Index.calls a0 a1 t101 _ A3.out).mono ?_); rintro e w' ⟨rfl,⟨nd,rfl⟩⟩; (try first | exact ⟨rfl,_,World.drewN_drewN _ _ _⟩ | exact ⟨rfl,_,Eq.trans (World.drewN_drewN _ _ _) (congrArg (World.drewN _) (Nat.add_assoc _ _ _))⟩)))
  repeat (go_quiet (first | (go_at_call 76; (with_reducible refine (stringslite_Index.calls a0 a1 t101 _ A3.out).mono ?_); rintro e w' ⟨rfl,⟨nd,rfl⟩⟩; (try first | exact ⟨rfl,_,World.drewN_drewN _ _ _⟩ | exact ⟨rfl,_,Eq.trans (World.drewN_drewN _ _ _) (congrArg (World.drewN _) (Nat.add_assoc _ _ _))⟩))); try go_wp2_with (first | (go_at_call 76; (with_reducible refine (stringslite_Index.calls a0 a1 t101 _ A3.out).mono ?_); rintro e w' ⟨rfl,⟨nd,rfl⟩⟩; (try first | exact ⟨rfl,_,World.drewN_drewN _ _ _⟩ | exact ⟨rfl,_,Eq.trans (World.drewN_drewN _ _ _) (congrArg (World.drewN _) (Nat.add_assoc _ _ _))⟩))))
  go_ret3
  exact ⟨by first | rfl | (simp; done) | (simp [*]; done),by repeat (first | exact Drawn0.refl _ | apply Drawn0.step)⟩

/-! ### strings_Cut: function 62 -/
def strings_Cut.f (a0 : ByteArray) (a1 : ByteArray) : Option (ByteArray × ByteArray × Bool):=(stringslite_Cut.f a0 a1).bind fun bt102=>(some (bt102.1,bt102.2.1,bt102.2.2))
theorem strings_Cut.calls (a0 : ByteArray) (a1 : ByteArray) (r1 : ByteArray) (r2 : ByteArray) (r3 : Bool) (w : World) (h : strings_Cut.f a0 a1=some (r1,r2,r3)) :
  Calls Tryd.prog 62 #[.string a0, .string a1] w fun e w'=>e = .returned (.tuple #[.string r1, .string r2, .bool r3])∧Drawn0 w w':=by
 have H : ((stringslite_Cut.f a0 a1).bind fun bt102=>(some (bt102.1,bt102.2.1,bt102.2.2)))=some (r1,r2,r3):=h
 clear h
 replace H:=Option.bind_eq_some_iff.mp H
 obtain ⟨⟨t102,t103,t104⟩,A30,H⟩:=H
 replace H : (some (t102,t103,t104))=some (r1,r2,r3):=H
 have A3:=Aside0.mk A30
 clear A30
 simp only [Option.some.injEq,Prod.mk.injEq] at H
 obtain ⟨rfl,rfl,rfl⟩:=H
 go_enter Tryd.func62,Tryd.ntmps62
 go_wp2_with (first | ((with_reducible refine gate_callee (f:=74) rfl ?_); refine goesL_ (some 9) rfl rfl Tryd.func74 (by kernel_rfl) rfl #[.string a0, .string a1] rfl (by (try simp only [List.map_toArray,List.map_cons,List.map_nil]); first | done | rfl | (simp only [List.length_drop,List.length_take]; rfl)) ?_; (with_reducible refine (stringslite_Cut.calls a0 a1 t102 t103 t104 _ A3.out).mono ?_); rintro e w' ⟨rfl,⟨nd,rfl⟩⟩; refine ⟨_,rfl,?_⟩))
 go_ret3
 exact ⟨by first | rfl | (simp; done) | (simp [*]; done),by repeat (first | exact Drawn0.refl _ | apply Drawn0.step)⟩

/-! ### segment_nth: function 63 -/
def segment_nth.f (a0 : ByteArray) (a1 : Int) (a2 : Int) : Option (ByteArray × Int) :=
 if a0.size≤140737488355328 then
  if 0≤a1∧a1≤255 then
   some (strOf (if 1≤a2 then (cutL (UInt8.ofNat a1.toNat) a0.data.toList).getD (a2 - 1).toNat [] else []),((cutL (UInt8.ofNat a1.toNat) a0.data.toList).length : Int))
  else none
 else none
theorem heap_set1 {W : World} {g : Nat} {u : Value} {t : TypeId} (h : W.heap[g]?=some (.cells #[u] t (0,0))) (v : Value) : (W.setCell ⟨g,0,none⟩ v).heap[g]?=some (.cells #[v] t (0,0)):=by
 simp [World.setCell,Array.getElem?_modify,h]
theorem grownBy_set1 (W : World) (g : Nat) (v : Value) : W.grownBy (W.setCell ⟨g,0,none⟩ v) (some g) :=
 ⟨rfl,rfl,rfl,by simp [World.setCell],fun i _ hne=>Below.heap_setCell W _ v i (fun e=>hne (by rw [e]))⟩
/-- What is left to go through, read off the world. -/
def leftIn (b : Nat) (W : World) : Nat:=match W.cell? ⟨b,0,none⟩ with
 | some (.string s)=>s.size
 | _=>0
theorem cut_contract (s : ByteArray) (c : UInt8) (hs : s.size≤140737488355328) : ∃ x rest found,strings_Cut.f s ⟨#[c]⟩=some (x,rest,found)∧(found=true→cutL c s.data.toList=x.data.toList :: cutL c rest.data.toList∧rest.size < s.size)∧(found=false→cutL c s.data.toList=[x.data.toList]):=by
 have h1 : (⟨#[c]⟩ : ByteArray).size=1:=rfl
 have hb:bt ⟨#[c]⟩ 0=(c.toNat : Int):=rfl
 have hi:stringslite_Index.f s ⟨#[c]⟩=some (Lib.indexByte s.data.toList c):=by
  unfold stringslite_Index.f stringslite_IndexByte.f
  rw [if_pos h1,hb]
  simp
 have hl:s.data.toList.length=s.size:=by rw [Array.length_toList]; rfl
 by_cases hc : c ∈ s.data.toList
 ·obtain ⟨a,b,e,ha⟩:=first_hit hc
  have hk:Lib.indexByte s.data.toList c=(a.length : Int):=by rw [e]; exact indexByte_hit ha b
  have hlen:a.length + 1 + b.length=s.size:=by rw [← hl,e]; simp; omega
  have hw:wrap64 ((a.length : Int) + ((⟨#[c]⟩ : ByteArray).size : Int))=(a.length : Int) + 1:=by rw [h1]; unfold wrap64; omega
  refine ⟨s.extract 0 a.length,s.extract (a.length + 1) s.size,true,?_,fun _=>⟨?_,?_⟩,fun h=>by cases h⟩
  ·unfold strings_Cut.f stringslite_Cut.f
   rw [hi,hk]
   simp only [Option.bind_some]
   rw [if_pos (by omega),if_pos (by omega),if_pos (by omega),hw,if_pos (by omega),if_pos (by omega)]
   have e1 : ((a.length : Int) + 1).toNat=a.length + 1:=by omega
   simp [e1]
  ·rw [Lib.extract_data,Lib.extract_data,e,cutL_append_hit ha]
   have e1:List.drop (a.length + 1) (a ++ c :: b)=b:=by
    rw [show a ++ c :: b=(a ++ [c]) ++ b by simp]
    exact List.drop_left' (by simp)
   simp only [List.drop_zero,Nat.sub_zero,List.take_left',e1]
   rw [List.take_of_length_le (by omega)]
  ·rw [ByteArray.size_extract]; omega
 ·refine ⟨s,⟨#[]⟩,false,?_,(fun h=>by cases h),fun _=>cutL_clean hc⟩
  unfold strings_Cut.f stringslite_Cut.f
  rw [hi,indexByte_miss hc]
  rfl
section
attribute [local go_sem] Oper.semAt_some alloc_dN setCell_dN shape_dN
theorem between_in (l Bs Bc : Nat) (c : UInt8) (J : List ByteArray→World→Prop) (xs0 : ByteArray) (hsz : xs0.size≤140737488355328)
  (hJ : ∀ pre W W',J pre W→W.grownBy W' (some Bs)→J pre W')
  (hY : ∀ pre x W,(∃ t,(pre ++ [x]).map (·.data.toList) ++ t=cutL c xs0.data.toList)→J pre W→YieldAt Fence.wide 0 Tryd.prog l #[.string x] W fun e W'=>e = .returned (.bool true)∧J (pre ++ [x]) W'∧W'.heap[Bs]?=W.heap[Bs]?∧W'.heap[Bc]?=W.heap[Bc]?)
  (W : World) (hs : W.heap[Bs]?=some (.cells #[.string xs0] 9 (0,0))) (hc : W.heap[Bc]?=some (.cells #[.int .u8 c.toNat] 5 (0,0))) (hne : Bs ≠ Bc) (h0 : J [] W) :
  CallsIn Fence.wide 1 Tryd.prog 61 #[.func (.yield l) #[] #[], .pointer (some ⟨Bs,0,none⟩), .pointer (some ⟨Bc,0,none⟩)] W fun e W'=>(∃ v,e = .returned v)∧∃ ys,ys.map (·.data.toList)=cutL c xs0.data.toList∧J ys W':=by
 refine callsIn_of_wp Tryd.func61 rfl trivial ?_ rfl
 simp only [Tryd.ntmps61,List.size_toArray,List.length_cons,List.length_nil,Nat.reduceAdd,Nat.reduceSub,Array.replicate_succ,Array.replicate_zero,List.push_toArray,List.append_toArray,List.nil_append,List.cons_append]
 gi_wp2
 gi_loopw [4] (fun p wr => ∃ (pre : List ByteArray) (rest : ByteArray),pre.map (·.data.toList) ++ cutL c rest.data.toList=cutL c xs0.data.toList∧rest.size≤140737488355328∧wr.heap[Bs]?=some (.cells #[.string rest] 9 (0,0))∧wr.heap[Bc]?=some (.cells #[.int .u8 c.toNat] 5 (0,0))∧J pre wr)
  (fun p wr=>leftIn Bs wr)
 case atStart =>
  exact ⟨[],xs0,rfl,hsz,hs,hc,h0⟩
 case round =>
  obtain ⟨pre,rest,hcut,hrs,hs1,hc1,hJs⟩:=hrel
  obtain ⟨x,rest2,found,hf,hyes,hno⟩:=cut_contract rest c hrs
  have hok : ∃ t,(pre ++ [x]).map (·.data.toList) ++ t=cutL c xs0.data.toList:=by
   cases found with
   | true=>exact ⟨cutL c rest2.data.toList,by rw [← hcut,(hyes rfl).1]; simp⟩
   | false=>exact ⟨[],by rw [← hcut,hno rfl]; simp⟩
  have HOK:=Lib.hid hok
  clear hok
  have HF:=Lib.hid hf
  have HY:=Lib.hid hyes
  have HN:=Lib.hid hno
  have HC:=Lib.hid hcut
  have HS:=Lib.hid hs1
  have HC1:=Lib.hid hc1
  have HJ:=Lib.hid hJs
  have k1:=cell_of_cells hs1 0
  have k2:=cell_of_cells hc1 0
  have f1:=frozen_of_cells hs1 0
  clear hf hyes hno hcut hs1 hc1 hJs hs hc h0
  have hst:strOfNums [(c.toNat : Int)]=⟨#[c]⟩:=by simp [strOfNums]
  have hconv : ∀ cap,(convert 22 9 (.slice (some ⟨wr.heap.size,0,none⟩) 1 cap)).run Tryd.prog (wr.alloc (.cells #[.int .u8 c.toNat] 5)) = .ok (.string ⟨#[c]⟩) (wr.alloc (.cells #[.int .u8 c.toNat] 5)):=fun cap=>by
   rw [← hst]
   exact Kd.C_string (P:=Tryd.prog) Tryd.underlying22 Tryd.underlying5 Tryd.underlying9 (C_block (xs:=[(c.toNat : Int)]) (by simp) (heap_new wr _))
  clear hst
  gi_wp2_with (first | (refine ⟨trivial,?_⟩; gi_at_call 62; refine (callsIn_wide.2 (strings_Cut.calls _ _ _ _ _ _ HF.out)).mono ?_; rintro e w' ⟨rfl,⟨nd,rfl⟩⟩) | (refine ⟨trivial,?_⟩; fail))
  have hg:wr.grownBy ((wr.alloc (.cells #[.int .u8 c.toNat] 5)).drewN nd) (some Bs):=by
   have h1:=World.grownBy_alloc wr (.cells #[.int .u8 c.toNat] 5) (some Bs)
   exact ⟨h1.os,h1.tape,h1.output,h1.size,h1.block⟩
  have hB2 : (((wr.alloc (.cells #[.int .u8 c.toNat] 5)).drewN nd)).heap[Bs]?=some (.cells #[.string rest] 9 (0,0)):=heap_old _ HS.out
  have hC2 : (((wr.alloc (.cells #[.int .u8 c.toNat] 5)).drewN nd)).heap[Bc]?=some (.cells #[.int .u8 c.toNat] 5 (0,0)):=heap_old _ HC1.out
  obtain ⟨fn,tmps,assign,body,hy,hR⟩:=hY pre x _ HOK.out (hJ pre wr _ HJ.out hg)
  have HB2:=Lib.hid hB2
  have HC2:=Lib.hid hC2
  clear hB2 hC2 hg hconv
  rw [hy,Oper.uponIn_round]
  refine ⟨fun _=>Nat.le_refl _,hR.mono ?_⟩
  rintro e W' ⟨rfl,hJ',hb1,hb2⟩
  have hs3:=hb1.trans HB2.out
  have hc3:=hb2.trans HC2.out
  have HS3:=Lib.hid hs3
  have HC3:=Lib.hid hc3
  have HJ3:=Lib.hid hJ'
  have k3:=cell_of_cells hs3 0
  have f3:=frozen_of_cells hs3 0
  clear hs3 hc3 hJ' hb1 hb2 hR hy k1 k2 f1
  cases found with
  | true =>
   gi_wp2
   refine ⟨⟨pre ++ [x],rest2,?_,Nat.le_trans (Nat.le_of_lt (HY.out trivial).2) hrs,heap_set1 HS3.out _,(Below.heap_setCell W' ⟨Bs,0,none⟩ _ Bc (fun e=>hne e.symm)).trans HC3.out,hJ _ W' _ HJ3.out (grownBy_set1 W' Bs _)⟩,?_⟩
   ·rw [← HC.out,(HY.out trivial).1]
    simp
   ·have e1:=cell_of_cells (heap_set1 HS3.out (.string rest2)) 0
    have e2:=cell_of_cells HS.out 0
    unfold leftIn
    rw [e1,e2]
    exact (HY.out trivial).2
  | false =>
   gi_wp2
   refine bodyPost_ret (results_none rfl _ _ _) rfl ?_
   refine ⟨⟨_,rfl⟩,pre ++ [x],?_,HJ3.out⟩
   rw [← HC.out,HN.out trivial]
   simp
end
def foundOf (n : Int) (pre : List ByteArray) : ByteArray:=if 1≤n∧n≤(pre.length : Int) then pre.getD (n - 1).toNat ⟨#[]⟩ else ⟨#[]⟩
theorem foundOf_hit {n : Int} {pre : List ByteArray} (x : ByteArray) (h : n=(pre.length : Int) + 1) : foundOf n (pre ++ [x])=x:=by
 subst h
 have e : ((pre.length : Int) + 1 - 1).toNat=pre.length:=by omega
 unfold foundOf
 rw [if_pos ⟨by omega,by simp⟩,e]
 simp
theorem foundOf_miss {n : Int} {pre : List ByteArray} (x : ByteArray) (h : n ≠ (pre.length : Int) + 1) : foundOf n (pre ++ [x])=foundOf n pre:=by
 unfold foundOf
 by_cases h1 : 1≤n∧n≤(pre.length : Int)
 ·rw [if_pos h1,if_pos ⟨h1.1,by simp; omega⟩,List.getD_eq_getElem?_getD,List.getD_eq_getElem?_getD,List.getElem?_append_left (by omega)]
 ·rw [if_neg h1,if_neg (by simp; omega)]
section
attribute [local go_sem] Oper.semAt_some alloc_dN setCell_dN shape_dN
theorem between_calls (a0 : ByteArray) (c : Int) (w : World) : Calls Tryd.prog 38 #[.string a0, .int .u8 c] w fun e w'=>e = .returned (.func (.func 61) #[] #[.pointer (some ⟨w.heap.size,0,none⟩), .pointer (some ⟨w.heap.size + 1,0,none⟩)])∧(w.alloc (.cells #[.string a0] 9)).alloc (.cells #[.int .u8 c] 5)=w':=by
 go_enter Tryd.func38,Tryd.ntmps38
 go_wp2
 go_ret
 exact ⟨rfl,rfl⟩
theorem nth_in (a0 : ByteArray) (c : UInt8) (a2 : Int) (w : World) (hs : a0.size≤140737488355328) :
  CallsIn Fence.wide 2 Tryd.prog 63 #[.string a0, .int .u8 c.toNat, .int .i64 a2] w fun e w'=>(∃ ys : List ByteArray,ys.map (·.data.toList)=cutL c a0.data.toList∧e = .returned (.tuple #[.string (foundOf a2 ys), .int .i64 ys.length]))∧Below w.heap.size w w':=by
 refine callsIn_of_wp_marks Tryd.func63 rfl trivial ?_ rfl
 simp only [Tryd.ntmps63,List.size_toArray,List.length_cons,List.length_nil,Nat.reduceAdd,Nat.reduceSub,Array.replicate_succ,Array.replicate_zero,List.push_toArray,List.append_toArray,List.nil_append,List.cons_append]
 gi_wp2_with (refine ⟨trivial,?_⟩; gi_at_call 38; refine (callsIn_wide.2 (between_calls _ _ _)).mono ?_; rintro e w' ⟨rfl,rfl⟩)
 refine at_worldIn (fun W=>W.heap[w.heap.size]?=some (.cells #[.int .i64 a2] 3 (0,0))∧W.heap[w.heap.size + 1]?=some (.cells #[.string ⟨#[]⟩] 9 (0,0))∧W.heap[w.heap.size + 1 + 1]?=some (.cells #[.int .i64 0] 3 (0,0)) ∧
   W.heap[w.heap.size + 1 + 1 + 1]?=some (.cells #[.string a0] 9 (0,0))∧W.heap[w.heap.size + 1 + 1 + 1 + 1]?=some (.cells #[.int .u8 c.toNat] 5 (0,0))∧Below w.heap.size w W∧W.heap.size=w.heap.size + 5) ?_ ?_
 ·have n1:=heap_new w (.cells #[.int .i64 a2] 3)
  have n2:=heap_new (w.alloc (.cells #[.int .i64 a2] 3)) (.cells #[.string ⟨#[]⟩] 9)
  have n3:=heap_new ((w.alloc (.cells #[.int .i64 a2] 3)).alloc (.cells #[.string ⟨#[]⟩] 9)) (.cells #[.int .i64 0] 3)
  have n4:=heap_new (((w.alloc (.cells #[.int .i64 a2] 3)).alloc (.cells #[.string ⟨#[]⟩] 9)).alloc (.cells #[.int .i64 0] 3)) (.cells #[.string a0] 9)
  have n5:=heap_new ((((w.alloc (.cells #[.int .i64 a2] 3)).alloc (.cells #[.string ⟨#[]⟩] 9)).alloc (.cells #[.int .i64 0] 3)).alloc (.cells #[.string a0] 9)) (.cells #[.int .u8 c.toNat] 5)
  simp only [World.size_alloc] at n2 n3 n4 n5
  exact ⟨heap_old _ (heap_old _ (heap_old _ (heap_old _ n1))),heap_old _ (heap_old _ (heap_old _ n2)),heap_old _ (heap_old _ n3),heap_old _ n4,n5,
   (((((Below.refl _ w).alloc (Nat.le_refl _) _).alloc (by simp) _).alloc (by simp; omega) _).alloc (by simp; omega) _).alloc (by simp; omega) _,by simp⟩
 rintro W ⟨g0,g1,g2,gs,gc,gB,gz⟩
 refine range_all (Bs:=w.heap.size + 1 + 1 + 1) (Bc:=w.heap.size + 1 + 1 + 1 + 1) (gf:=61) (lb:=#[.pointer (some ⟨w.heap.size + 1 + 1 + 1,0,none⟩), .pointer (some ⟨w.heap.size + 1 + 1 + 1 + 1,0,none⟩)]) rfl (enters_of Tryd.func61 (by kernel_rfl) rfl) Value.string rfl (by omega) (by omega)
  (fun ys=>ys.map (·.data.toList)=cutL c a0.data.toList) (fun p => ∃ t,p.map (·.data.toList) ++ t=cutL c a0.data.toList)
  (fun pre W=>W.heap[w.heap.size]?=some (.cells #[.int .i64 a2] 3 (0,0))∧W.heap[w.heap.size + 1]?=some (.cells #[.string (foundOf a2 pre)] 9 (0,0))∧W.heap[w.heap.size + 1 + 1]?=some (.cells #[.int .i64 (pre.length : Int)] 3 (0,0))∧Below w.heap.size w W∧w.heap.size + 5≤W.heap.size)
  ?steady ?start ?iter (fun x=>{ tmps:=#[.string a0, .int .u8 c.toNat, .int .i64 a2,undef,undef, .pointer (some ⟨w.heap.size,0,none⟩), .string ⟨#[]⟩, .int .i64 0, .pointer (some ⟨w.heap.size + 1,0,none⟩), .pointer (some ⟨w.heap.size + 1 + 1,0,none⟩), .string x, .string a0, .int .u8 c.toNat,
   .func (.func 61) #[] #[.pointer (some ⟨w.heap.size + 1 + 1 + 1,0,none⟩), .pointer (some ⟨w.heap.size + 1 + 1 + 1 + 1,0,none⟩)], .string x,undef,undef,undef,undef,undef,undef,undef,undef],defers:=[] }) ?assign ?body ?done
 case steady =>
  rintro pre V V' row ⟨h0,h1,h2,hB,hz⟩ hg hr
  have same : ∀ k cs t,k < w.heap.size + 1 + 1 + 1→V.heap[k]?=some (.cells cs t (0,0))→V'.heap[k]?=some (.cells cs t (0,0)):=fun k cs t hk h =>
   (hg.block k (Array.getElem?_eq_some_iff.1 h).1 (fun e=>by
    rcases hr k e.symm with rfl | ⟨_,o,ho,hc⟩
    ·omega
    ·rw [h] at ho; cases ho; cases hc)).trans h
  exact ⟨same _ _ _ (by omega) h0,same _ _ _ (by omega) h1,same _ _ _ (by omega) h2,hB.grown hg (by omega) (fun k e=>by
   rcases hr k e with rfl | ⟨hk,_⟩ <;> omega),Nat.le_trans hz hg.size⟩
 case start =>
  have e:foundOf a2 []=⟨#[]⟩:=if_neg (by simp; omega)
  exact ⟨g0,by rw [e]; exact g1,g2,gB,by omega⟩
 case iter =>
  intro l J V e1 e2 hJ hY h0
  exact between_in l _ _ c J a0 hs hJ hY V (e1.trans gs) (e2.trans gc) (by omega) h0
 case assign =>
  intro l x V K hK
  gi_wp2
  exact hK
 case body =>
  rintro l pre x V ⟨t,ht⟩ ⟨h0,h1,h2,hB,hz⟩
  have hlen:pre.length + 1≤140737488355329:=by
   have h1:=congrArg List.length ht
   have h2:=cutL_length c a0.data.toList
   have h3:=List.count_le_length (a:=c) (l:=a0.data.toList)
   have h4:a0.data.toList.length=a0.size:=by rw [Array.length_toList]; rfl
   simp only [List.length_append,List.length_map,List.length_cons,List.length_nil] at h1
   omega
  have k0:=cell_of_cells h0 0
  have k1:=cell_of_cells h1 0
  have k2:=cell_of_cells h2 0
  have f1:=frozen_of_cells h1 0
  have f2:=frozen_of_cells h2 0
  have H0:=Lib.hid h0
  have H1:=Lib.hid h1
  have H2:=Lib.hid h2
  have HB:=Lib.hid hB
  clear ht h0 h1 h2 hB g0 g1 g2 gs gc gB
  by_cases hn : a2=(pre.length : Int) + 1
  ·gi_wp2
   refine ⟨(KeepsOthers.setCell _ _ _).trans (KeepsOthers.setCell _ _ _),?_,?_,?_,?_,?_,?_,?_⟩
   ·exact (Below.heap_setCell _ _ _ _ (by simp; omega)).trans (Below.heap_setCell _ _ _ _ (by simp))
   ·exact (Below.heap_setCell _ _ _ _ (by simp; omega)).trans (Below.heap_setCell _ _ _ _ (by simp; omega))
   ·exact ((Below.heap_setCell _ _ _ _ (by simp)).trans (Below.heap_setCell _ _ _ _ (by simp; omega))).trans H0.out
   ·rw [foundOf_hit x hn]
    exact heap_set1 ((Below.heap_setCell _ _ _ _ (by simp)).trans H1.out) _
   ·refine (Below.heap_setCell _ _ _ _ (by simp)).trans ((heap_set1 H2.out _).trans ?_)
    simp
   ·exact (HB.out.setCell (p:=⟨w.heap.size + 1 + 1,0,none⟩) (by simp; omega) _).setCell (p:=⟨w.heap.size + 1,0,none⟩) (by simp) _
   ·simpa [World.setCell] using hz
  ·gi_wp2
   refine ⟨KeepsOthers.setCell _ _ _,?_,?_,?_,?_,?_,?_,?_⟩
   ·exact Below.heap_setCell _ _ _ _ (by simp)
   ·exact Below.heap_setCell _ _ _ _ (by simp; omega)
   ·exact (Below.heap_setCell _ _ _ _ (by simp; omega)).trans H0.out
   ·rw [foundOf_miss x hn]
    exact (Below.heap_setCell _ _ _ _ (by simp)).trans H1.out
   ·refine (heap_set1 H2.out _).trans ?_
    simp
   ·exact HB.out.setCell (p:=⟨w.heap.size + 1 + 1,0,none⟩) (by simp; omega) _
   ·simpa [World.setCell] using hz
 case done =>
  rintro D ys V hS ⟨h0,h1,h2,hB,hz⟩ hD hK
  have k1:=cell_of_cells h1 0
  have k2:=cell_of_cells h2 0
  have HB:=Lib.hid hB
  have HK:=Lib.hid hK
  clear h0 h1 h2 hB hK g0 g1 g2 gs gc gB
  gi_wp2
  gi_region
  all_goals gi_wp2
  all_goals
   refine ⟨by simp, .inl ⟨_,_,rfl,run_takeDeferred (w:=V.drew) HK.out,?_⟩⟩
   refine ⟨_,results_tmp2 rfl _ _ _,⟨ys,hS,rfl⟩,?_⟩
   exact (HB.out.drew).grown (grownBy_putObj' _ D _) (by show w.heap.size≤V.heap.size; omega) (fun k e=>by cases e; omega)
end
theorem segment_nth.calls (a0 : ByteArray) (a1 : Int) (a2 : Int) (r1 : ByteArray) (r2 : Int) (w : World) (h : segment_nth.f a0 a1 a2=some (r1,r2)) :
  Calls Tryd.prog 63 #[.string a0, .int .u8 a1, .int .i64 a2] w fun e w'=>e = .returned (.tuple #[.string r1, .int .i64 r2])∧Below w.heap.size w w':=by
 unfold segment_nth.f at h
 by_cases hs : a0.size≤140737488355328
 ·rw [if_pos hs] at h
  by_cases hb : 0≤a1∧a1≤255
  ·rw [if_pos hb] at h
   simp only [Option.some.injEq,Prod.mk.injEq] at h
   obtain ⟨rfl,rfl⟩:=h
   obtain ⟨c,rfl⟩ : ∃ c : UInt8,a1=(c.toNat : Int):=⟨UInt8.ofNat a1.toNat,by simp; omega⟩
   refine (callsIn_wide.1 (nth_in a0 c a2 w hs)).mono ?_
   rintro e w' ⟨⟨ys,hys,rfl⟩,hB⟩
   have ec:UInt8.ofNat (c.toNat : Int).toNat=c:=by simp
   rw [ec,← hys]
   refine ⟨?_,hB⟩
   have e1:foundOf a2 ys=strOf (if 1≤a2 then (ys.map (·.data.toList)).getD (a2 - 1).toNat [] else []):=by
    unfold foundOf strOf
    by_cases h1 : 1≤a2
    ·by_cases h2 : a2≤(ys.length : Int)
     ·have hl : (a2 - 1).toNat < ys.length:=by omega
      rw [if_pos ⟨h1,h2⟩,if_pos h1,List.getD_eq_getElem?_getD,List.getD_eq_getElem?_getD,List.getElem?_map,List.getElem?_eq_getElem hl]
      simp
     ·have hl:ys.length≤(a2 - 1).toNat:=by omega
      rw [if_neg (by omega),if_pos h1,List.getD_eq_getElem?_getD,List.getElem?_map,List.getElem?_eq_none hl]
      simp
    ·rw [if_neg (by omega),if_neg h1]
   rw [e1,List.length_map]
  ·rw [if_neg hb] at h
   cases h
 ·rw [if_neg hs] at h
  cases h


/-! ### segment_Split: function 21 -/
/-- The segments of a message's bytes. -/
def segsOf (b : List UInt8) : List (List UInt8):=if (cutL 13 b).getLast?=some [] then (cutL 13 b).dropLast else cutL 13 b
def segment_Split.f (l0 : List Int) : Option (List ByteArray):=if l0.length≤1000000000000 then some ((segsOf (Lib.bytesOf l0)).map strOf) else none
theorem infoStr : (Tryd.prog.info? 9).map (fun i=>(i.zero,i.size,i.bytes))=some (some (Value.string ⟨#[]⟩),1,16):=by kernel_rfl
/-- An append to a row that is held by a box below the row's base: what stays. -/
theorem boxed_appended {W w1 : World} {n0 m0 B : Nat} {t e : TypeId} {size : Nat} {v v' : Value} {k m : Nat} {xs ys : List Value} {tmp : Obj}
  (hv : Boxed W B t v) (hte : t ≠ e) (hrow : W.ownsRow n0 e size v k xs) (hn0 : n0≤W.heap.size) (hm : m0≤n0) (hB : m0≤B)
  (hown' : w1.ownsRow n0 e size v' m ys) (hgrow : (W.alloc tmp).grownBy w1 v.ownBlock) :
  Boxed w1 B t v∧Boxed (w1.setCell ⟨B,0,none⟩ v') B t v'∧(w1.setCell ⟨B,0,none⟩ v').ownsRow n0 e size v' m ys∧KeepsOthers W (w1.setCell ⟨B,0,none⟩ v')∧Below m0 W (w1.setCell ⟨B,0,none⟩ v') ∧
   (∀ j,j < n0→j ≠ B→(w1.setCell ⟨B,0,none⟩ v').heap[j]?=W.heap[j]?)∧W.heap.size≤(w1.setCell ⟨B,0,none⟩ v').heap.size:=by
 obtain ⟨h1,h2,h3,h4,h5⟩:=hv.appended hte (own_weaken hrow hm) (by omega) hB (own_weaken hown' hm) hgrow
 refine ⟨h1,h2,hown'.kept (grownBy_setCell' w1 B v') (.inr (h1.not_row hte hown').symm),h4,h5,fun j hj hne=>?_,h5.size⟩
 refine (Below.heap_setCell w1 ⟨B,0,none⟩ v' j hne).trans ((hgrow.block j (by simp; omega) (fun e=>?_)).trans (Below.heap_alloc W tmp j (by omega)))
 have:=(hrow.lt j e.symm).1
 omega
section
attribute [local go_sem] Oper.semAt_some alloc_dN setCell_dN shape_dN
theorem split_in (A0 : Option Addr) (c0 : Nat) (l0 : List Int) (w : World) (hr0 : Kd.C (Kd.int .u8) w A0 l0.length l0) (hc0 : l0.length≤c0) (hsz : l0.length≤1000000000000) :
  CallsIn Fence.wide 2 Tryd.prog 21 #[.slice A0 l0.length c0] w fun e w'=>(∃ (v : Value) (ys : List ByteArray) (B : Nat),e = .returned v∧ys.map (·.data.toList)=cutL 13 (Lib.bytesOf l0)∧w.heap.size≤B ∧
   w'.ownsRow B 9 1 v (if ys.getLast?=some ⟨#[]⟩ then ys.dropLast else ys).length (encs Value.string (if ys.getLast?=some ⟨#[]⟩ then ys.dropLast else ys)))∧Below w.heap.size w w':=by
 have hsd : (strOfNums l0).data.toList=Lib.bytesOf l0:=str_data l0
 have hss : (strOfNums l0).size=l0.length:=by simp [strOfNums,ByteArray.size]
 have hconv : ∀ o,(convert 22 9 (.slice A0 l0.length c0)).run Tryd.prog (w.alloc o) = .ok (.string (strOfNums l0)) (w.alloc o):=fun o=>by
  exact Kd.C_string (P:=Tryd.prog) Tryd.underlying22 Tryd.underlying5 Tryd.underlying9 (Kd.C_below hr0 ((Below.refl _ w).alloc (Nat.le_refl _) o))
 refine callsIn_of_wp_marks Tryd.func21 rfl trivial ?_ rfl
 simp only [Tryd.ntmps21,List.size_toArray,List.length_cons,List.length_nil,Nat.reduceAdd,Nat.reduceSub,Array.replicate_succ,Array.replicate_zero,List.push_toArray,List.append_toArray,List.nil_append,List.cons_append]
 gi_wp2_with (refine ⟨trivial,?_⟩; gi_at_call 38; refine (callsIn_wide.2 (between_calls _ _ _)).mono ?_; rintro e w' ⟨rfl,rfl⟩)
 refine at_worldIn (fun W=>W.heap[w.heap.size]?=some (.cells #[.slice none 0 0] 53 (0,0)) ∧
   W.heap[w.heap.size + 1]?=some (.cells #[.string (strOfNums l0)] 9 (0,0))∧W.heap[w.heap.size + 1 + 1]?=some (.cells #[.int .u8 13] 5 (0,0))∧Below w.heap.size w W∧W.heap.size=w.heap.size + 3) ?_ ?_
 ·have n1:=heap_new w (.cells #[.slice none 0 0] 53)
  have n2:=heap_new (w.alloc (.cells #[.slice none 0 0] 53)) (.cells #[.string (strOfNums l0)] 9)
  have n3:=heap_new ((w.alloc (.cells #[.slice none 0 0] 53)).alloc (.cells #[.string (strOfNums l0)] 9)) (.cells #[.int .u8 13] 5)
  simp only [World.size_alloc] at n2 n3
  exact ⟨heap_old _ (heap_old _ n1),heap_old _ n2,n3,
   ((((Below.refl _ w).alloc (Nat.le_refl _) _).alloc (by simp) _).alloc (by simp; omega) _),by simp⟩
 rintro W ⟨g0,gs,gc,gB,gz⟩
 obtain ⟨i0,hi,hz0,hz1,hz2⟩:=info_parts infoStr
 refine range_all (Bs:=w.heap.size + 1) (Bc:=w.heap.size + 1 + 1) (gf:=61) (lb:=#[.pointer (some ⟨w.heap.size + 1,0,none⟩), .pointer (some ⟨w.heap.size + 1 + 1,0,none⟩)]) rfl (enters_of Tryd.func61 (by kernel_rfl) rfl) Value.string rfl (by omega) (by omega)
  (fun ys=>ys.map (·.data.toList)=cutL 13 (Lib.bytesOf l0)) (fun p => ∃ t,p.map (·.data.toList) ++ t=cutL 13 (Lib.bytesOf l0))
  (fun pre W => ∃ v,W.heap[w.heap.size]?=some (.cells #[v] 53 (0,0))∧W.ownsRow (w.heap.size + 3) 9 1 v pre.length (encs Value.string pre)∧Below w.heap.size w W∧w.heap.size + 3≤W.heap.size)
  ?steady ?start ?iter (fun x=>{ tmps:=#[.slice A0 l0.length c0,undef, .slice none 0 0, .pointer (some ⟨w.heap.size,0,none⟩), .string x,undef, .slice A0 l0.length c0, .string (strOfNums l0), .func (.func 61) #[] #[.pointer (some ⟨w.heap.size + 1,0,none⟩), .pointer (some ⟨w.heap.size + 1 + 1,0,none⟩)], .string x,undef,undef,undef,undef,undef,undef,undef,undef,undef,undef,undef,undef,undef,undef,undef,undef],defers:=[] }) ?assign ?body ?done
 case steady =>
  rintro pre V V' row ⟨v,h0,ho,hB,hz⟩ hg hr
  refine ⟨v,?_,ho.kept hg ?_,hB.grown hg (by omega) (fun k e=>by
   rcases hr k e with rfl | ⟨hk,_⟩ <;> omega),Nat.le_trans hz hg.size⟩
  ·exact (hg.block _ (Array.getElem?_eq_some_iff.1 h0).1 (fun e=>by
    rcases hr _ e.symm with h | ⟨_,o,ho,hc⟩
    ·omega
    ·rw [h0] at ho; cases ho; cases hc)).trans h0
  ·rcases ho.2 with ⟨rfl,_⟩ | ⟨g,cap,cur,rfl,hgb,hgc,_⟩
   ·exact .inl rfl
   ·refine .inr (fun e=>?_)
    rcases hr g (by rw [← e]; rfl) with h | ⟨_,o,ho,hc⟩
    ·omega
    ·rw [hgc] at ho; cases ho; cases hc
 case start =>
  exact ⟨_,g0,World.ownsRow_nil _ _ _ _,gB,by omega⟩
 case iter =>
  intro l J V e1 e2 hJ hY h0
  rw [← hsd]
  exact between_in l _ _ 13 J (strOfNums l0) (by rw [hss]; omega) hJ (by rw [hsd]; exact hY) V (e1.trans gs) (e2.trans gc) (by omega) h0
 case assign =>
  intro l x V K hK
  gi_wp2
  exact hK
 case body =>
  rintro l pre x V ⟨t,ht⟩ ⟨v,h0,ho,hB,hz⟩
  have hlen:pre.length + 1≤1000000000001:=by
   have h1:=congrArg List.length ht
   have h2:=cutL_length 13 (Lib.bytesOf l0)
   have h3:=List.count_le_length (a:=13) (l:=Lib.bytesOf l0)
   have h4 : (Lib.bytesOf l0).length=l0.length:=by simp [Lib.bytesOf]
   simp only [List.length_append,List.length_map,List.length_cons,List.length_nil] at h1
   omega
  have hv:Boxed V w.heap.size 53 v:=h0
  have k0:=hv.cell
  have hne:=hv.not_row (by decide) ho
  have HB:=Lib.hid hB
  have HT:=Lib.hid ht
  have H0:=Lib.hid h0
  clear h0 hB ht g0 gs gc gB
  have f0:=hv.frozen
  gi_wp2_with (first
   | (gi_at_builtin; refine wpListIn_append_own _ rfl _ _ 53 rfl (w.heap.size + 3) 9 i0 (Value.string ⟨#[]⟩) 1 16 Tryd.underlying53 hi hz0 hz1 hz2 rfl (by decide) v pre.length (encs Value.string pre) rfl (ho.alloc _) ⟨V.heap.size,0,none⟩ 1 1 [Value.string x] rfl rfl (cell_one_new _ _ _) (by intro u hu; simp at hu; subst hu; rfl) (by unfold maxLen; omega) (by omega) (by simp; omega) ?_; intro v' w1 hown' hgrow _; obtain ⟨g',cap',rfl⟩:=ownsRow_succ hown'; obtain ⟨hv1,hv2,hr2,hk2,hb2,hfar,hz2⟩:=boxed_appended (m0:=w.heap.size) hv (by decide) ho hz (by omega) (Nat.le_refl _) hown' hgrow; have hc1:=hv1.cell; have hf1:=hv1.frozen)
   | gi_in)
  refine ⟨hk2,hfar _ (by omega) (by omega),hfar _ (by omega) (by omega),_,hv2,?_,HB.out.trans hb2,by omega⟩
  rw [encs_append,List.length_append]
  exact hr2
 case done =>
  rintro D ys V hS ⟨v,h0,ho,hB,hz⟩ hD hK
  obtain ⟨zs,x,rfl⟩ : ∃ zs x,ys=zs ++ [x]:=by
   rcases List.eq_nil_or_concat ys with rfl | ⟨zs,x,rfl⟩
   ·exact absurd hS.symm (cutL_ne 13 _)
   ·exact ⟨zs,x,by simp⟩
  have hll : (zs ++ [x]).getLast?=some x:=by simp
  have hdl : (zs ++ [x]).dropLast=zs:=by simp
  rw [List.length_append,List.length_singleton] at ho
  obtain ⟨g,cap,rfl⟩:=ownsRow_succ ho
  have hv:Boxed V w.heap.size 53 _:=h0
  have k0:=hv.cell
  have f0:=hv.frozen
  have kx:V.cell? ⟨g,zs.length,none⟩=some (.string x):=by
   rw [ho.cellAt zs.length (by omega)]
   simp [encs]
  have hcl:zs.length + 1≤cap∧zs.length≤1000000000001:=by
   have h1:=congrArg List.length hS
   have h2:=cutL_length 13 (Lib.bytesOf l0)
   have h3:=List.count_le_length (a:=13) (l:=Lib.bytesOf l0)
   have h4 : (Lib.bytesOf l0).length=l0.length:=by simp [Lib.bytesOf]
   simp only [List.length_append,List.length_map,List.length_cons,List.length_nil] at h1
   rcases ho.2 with ⟨h,_⟩ | ⟨g',cap',cur,h,_,_,h2,h3,_⟩
   ·cases h
   ·cases h; omega
  have HB:=Lib.hid hB
  have HS:=Lib.hid hS
  have HO:=Lib.hid ho
  have HV:=Lib.hid hv
  have HK:=Lib.hid hK
  clear h0 hB hS ho hv hK g0 gs gc gB
  gi_wp2
  ·have hx:x=⟨#[]⟩:=by
    have h1:x.toList.isEmpty=true:=by assumption
    have h2:x.data.toList=[]:=by rw [← Lib.toList_data]; exact List.isEmpty_iff.1 h1
    cases x with
    | mk d=>cases d; simp_all
   subst hx
   refine ⟨by simp, .inl ⟨_,_,rfl,run_takeDeferred (w:=(V.setCell ⟨w.heap.size,0,none⟩ _)) ((KeepsOthers.setCell _ _ _).same D _ HK.out rfl),?_⟩⟩
   refine ⟨_,results_tmp rfl _ _ _,⟨_,zs ++ [⟨#[]⟩],w.heap.size + 3,rfl,HS.out,by omega,?_⟩,?_⟩
   ·rw [hll,hdl,if_pos rfl]
    refine ownsRow_putObj ?_ _ ((KeepsOthers.setCell _ _ _).same D _ HK.out rfl) rfl
    refine World.ownsRow.kept ?_ (grownBy_setCell' V w.heap.size _) (.inr ?_)
    ·have h1:=own_take (m:=zs.length) HO.out (by omega)
     rw [Nat.mul_one,show (encs Value.string (zs ++ [(⟨#[]⟩ : ByteArray)])).take zs.length=encs Value.string zs by simp [encs]] at h1
     exact h1
    ·exact (HV.out.not_row (by decide) HO.out).symm
   ·exact ((HB.out.setCell (p:=⟨w.heap.size,0,none⟩) (Nat.le_refl _) _).grown (grownBy_putObj' _ D _) (by show w.heap.size≤(V.setCell _ _).heap.size; simp; omega) (fun k e=>by cases e; omega))
  ·have hx:x ≠ ⟨#[]⟩:=by
    have h1:x.toList.isEmpty=false:=by assumption
    rintro rfl
    rw [Lib.toList_data] at h1
    cases h1
   refine ⟨by simp, .inl ⟨_,_,rfl,run_takeDeferred (w:=V) HK.out,?_⟩⟩
   refine ⟨_,results_tmp rfl _ _ _,⟨_,zs ++ [x],w.heap.size + 3,rfl,HS.out,by omega,?_⟩,?_⟩
   ·rw [hll,if_neg (fun e=>hx (Option.some.inj e))]
    refine ownsRow_putObj ?_ _ HK.out rfl
    rw [List.length_append,List.length_singleton]
    exact HO.out
   ·exact HB.out.grown (grownBy_putObj' _ D _) (by omega) (fun k e=>by cases e; omega)
end
theorem segsOf_map {ys : List ByteArray} {b : List UInt8} (h : ys.map (·.data.toList)=cutL 13 b) : (segsOf b).map strOf=(if ys.getLast?=some ⟨#[]⟩ then ys.dropLast else ys):=by
 have hback : ∀ zs : List ByteArray,(zs.map (·.data.toList)).map strOf=zs:=fun zs=>by
  rw [List.map_map]
  conv=>rhs; rw [← List.map_id zs]
  exact List.map_congr_left (fun z _=>by simp [strOf])
 have hl : ((cutL 13 b).getLast?=some []) ↔ (ys.getLast?=some ⟨#[]⟩):=by
  rw [← h,List.getLast?_map]
  cases hy : ys.getLast? with
  | none=>simp
  | some x =>
   simp only [Option.map_some,Option.some.injEq]
   constructor
   ·intro e; cases x with
    | mk d=>cases d; simp_all
   ·rintro rfl; rfl
 unfold segsOf
 by_cases hc : ys.getLast?=some ⟨#[]⟩
 ·rw [if_pos (hl.2 hc),if_pos hc,← h,← List.map_dropLast,hback]
 ·rw [if_neg (fun e=>hc (hl.1 e)),if_neg hc,← h,hback]
theorem segment_Split.calls (A0 : Option Addr) (c0 : Nat) (l0 : List Int) (r : List ByteArray) (w : World) (hr0 : Kd.C (Kd.int .u8) w A0 l0.length l0) (hc0 : l0.length≤c0) (h : segment_Split.f l0=some r) :
  Calls Tryd.prog 21 #[.slice A0 l0.length c0] w fun e w' => ∃ v0_ : Value,e = .returned (v0_)∧Kd.R Kd.string 9 w' w.heap.size (fun _=>True) v0_ r∧Below w.heap.size w w':=by
 unfold segment_Split.f at h
 by_cases hs : l0.length≤1000000000000
 ·rw [if_pos hs] at h
  obtain rfl:=Option.some.inj h
  refine (callsIn_wide.1 (split_in A0 c0 l0 w hr0 hc0 hs)).mono ?_
  rintro e w' ⟨⟨v,ys,B,rfl,hys,hB,ho⟩,hb⟩
  rw [segsOf_map hys]
  exact ⟨v,rfl,Kd.R_of_own (own_weaken ho hB) (fun _ _=>trivial),hb⟩
 ·rw [if_neg hs] at h
  cases h


/-! ### segment_Name: function 22 -/
def segment_Name.f (a0 : ByteArray) : Option (ByteArray):=if 0≤(mn (a0.size : Int) 3) then (if (mn (a0.size : Int) 3)≤(a0.size : Int) then (some (a0.extract 0 ((mn (a0.size : Int) 3) : Int).toNat)) else (none)) else (none)
theorem segment_Name.calls (a0 : ByteArray) (r : ByteArray) (w : World) (h : segment_Name.f a0=some r) :
  Calls Tryd.prog 22 #[.string a0] w fun e w'=>e = .returned (.string r)∧Below w.heap.size w w':=by
 have HB:=Aside0.mk (Below.refl w.heap.size w)
 have H : (if 0≤(mn (a0.size : Int) 3) then (if (mn (a0.size : Int) 3)≤(a0.size : Int) then (some (a0.extract 0 ((mn (a0.size : Int) 3) : Int).toNat)) else (none)) else (none))=some r:=h
 clear h
 obtain ⟨ji2,hji2⟩ : ∃ j_ : Int,(mn (a0.size : Int) 3)=j_:=⟨_,rfl⟩
 replace H : (if 0≤(ji2) then (if (ji2)≤(a0.size : Int) then (some (a0.extract 0 ((ji2) : Int).toNat)) else (none)) else (none))=some r:=by first | (rw [hji2] at H; exact H) | (simp only [hji2] at H ⊢; exact H)
 (try (have hji2h:ji2≤3:=by (rw [← hji2]; unfold mn; (repeat' split) <;> omega)))
 (try (have hji2g:ji2≤64:=by omega))
 (try (have hji2l:0≤ji2:=by (rw [← hji2]; unfold mn; (repeat' split) <;> omega)))
 (try (have hji2m:0≤ji2:=by omega))
 have hji2_ : (if 3 < (a0.size : Int) then 3 else (a0.size : Int))=ji2:=hji2
 by_cases c3 : 0≤(ji2)
 ·rw [if_pos c3] at H
  have c3b0:=eq_true c3
  have c3b1:decide (0≤(ji2))=true:=decide_eq_true c3
  clear c3
  by_cases c4 : (ji2)≤(a0.size : Int)
  ·rw [if_pos c4] at H
   have c4b0:=eq_true c4
   have c4b1:decide ((ji2)≤(a0.size : Int))=true:=decide_eq_true c4
   clear c4
   obtain rfl:=Option.some.inj H
   go_enter Tryd.func22,Tryd.ntmps22
   go_wp2
   go_ret
   exact ⟨by first | rfl | (simp [errW_none,errW_some] <;> rfl) | (simp only [← hji2]; first | rfl | (simp [errW_none,errW_some] <;> rfl)) | (simp [*,errW_none,errW_some] <;> rfl),by repeat (first | (with_reducible first | exact HB.out | apply bA | apply bN | apply bD) | exact HB.out)⟩
  ·rw [if_neg c4] at H
   exact absurd H (by simp)
 ·rw [if_neg c3] at H
  exact absurd H (by simp)

/-! ### stringslite_HasPrefix: function 79 -/
def stringslite_HasPrefix.f (a0 : ByteArray) (a1 : ByteArray) : Option (Bool):=if (a0.size : Int) ≥ (a1.size : Int) then (if 0≤(a1.size : Int) then (if (a1.size : Int)≤(a0.size : Int) then (some ((a0.extract 0 ((a1.size : Int) : Int).toNat).toList == a1.toList)) else (none)) else (none)) else (some false)
theorem stringslite_HasPrefix.calls (a0 : ByteArray) (a1 : ByteArray) (r : Bool) (w : World) (h : stringslite_HasPrefix.f a0 a1=some r) :
  Calls Tryd.prog 79 #[.string a0, .string a1] w fun e w'=>e = .returned (.bool r)∧Drawn0 w w':=by
 have H : (if (a0.size : Int) ≥ (a1.size : Int) then (if 0≤(a1.size : Int) then (if (a1.size : Int)≤(a0.size : Int) then (some ((a0.extract 0 ((a1.size : Int) : Int).toNat).toList == a1.toList)) else (none)) else (none)) else (some false))=some r:=h
 clear h
 by_cases c3 : (a0.size : Int) ≥ (a1.size : Int)
 ·rw [if_pos c3] at H
  have c3b0:decide ((a1.size : Int)≤(a0.size : Int))=true:=decide_eq_true c3
  have c3b1:decide (a1.size≤a0.size)=true:=decide_eq_true (Int.ofNat_le.mp c3)
  clear c3
  by_cases c4 : 0≤(a1.size : Int)
  ·rw [if_pos c4] at H
   have c4b0:=eq_true c4
   have c4b1:decide (0≤(a1.size : Int))=true:=decide_eq_true c4
   clear c4
   by_cases c5 : (a1.size : Int)≤(a0.size : Int)
   ·rw [if_pos c5] at H
    have c5b0:=eq_true c5
    have c5b1:decide ((a1.size : Int)≤(a0.size : Int))=true:=decide_eq_true c5
    clear c5
    obtain rfl:=Option.some.inj H
    go_enter Tryd.func79,Tryd.ntmps79
    go_wp2
    go_ret
    exact ⟨by first | rfl | (simp; done) | (simp [*]; done),by repeat (first | exact Drawn0.refl _ | apply Drawn0.step)⟩
   ·rw [if_neg c5] at H
    exact absurd H (by simp)
  ·rw [if_neg c4] at H
   exact absurd H (by simp)
 ·rw [if_neg c3] at H
  have c3b0:decide ((a1.size : Int)≤(a0.size : Int))=false:=decide_eq_false c3
  have c3b1:decide (a1.size≤a0.size)=false:=decide_eq_false (fun h=>c3 (Int.ofNat_le.mpr h))
  clear c3
  obtain rfl:=Option.some.inj H
  go_enter Tryd.func79,Tryd.ntmps79
  go_wp2
  go_ret
  exact ⟨by first | rfl | (simp; done) | (simp [*]; done),by repeat (first | exact Drawn0.refl _ | apply Drawn0.step)⟩

/-! ### stringslite_CutPrefix: function 75 -/
def stringslite_CutPrefix.f (a0 : ByteArray) (a1 : ByteArray) : Option (ByteArray × Bool):=(stringslite_HasPrefix.f a0 a1).bind fun t105=>(if t105=true then (if 0≤(a1.size : Int) then (if (a1.size : Int)≤(a0.size : Int) then (some (a0.extract ((a1.size : Int) : Int).toNat a0.size,true)) else (none)) else (none)) else (some (a0,false)))
theorem stringslite_CutPrefix.calls (a0 : ByteArray) (a1 : ByteArray) (r1 : ByteArray) (r2 : Bool) (w : World) (h : stringslite_CutPrefix.f a0 a1=some (r1,r2)) :
  Calls Tryd.prog 75 #[.string a0, .string a1] w fun e w'=>e = .returned (.tuple #[.string r1, .bool r2])∧Drawn0 w w':=by
 have H : ((stringslite_HasPrefix.f a0 a1).bind fun t105=>(if t105=true then (if 0≤(a1.size : Int) then (if (a1.size : Int)≤(a0.size : Int) then (some (a0.extract ((a1.size : Int) : Int).toNat a0.size,true)) else (none)) else (none)) else (some (a0,false))))=some (r1,r2):=h
 clear h
 replace H:=Option.bind_eq_some_iff.mp H
 obtain ⟨t105,A30,H⟩:=H
 replace H : (if t105=true then (if 0≤(a1.size : Int) then (if (a1.size : Int)≤(a0.size : Int) then (some (a0.extract ((a1.size : Int) : Int).toNat a0.size,true)) else (none)) else (none)) else (some (a0,false)))=some (r1,r2):=H
 have A3:=Aside0.mk A30
 clear A30
 by_cases c4 : t105=true
 ·subst c4
  have H1 : (if 0≤(a1.size : Int) then (if (a1.size : Int)≤(a0.size : Int) then (some (a0.extract ((a1.size : Int) : Int).toNat a0.size,true)) else (none)) else (none))=some (r1,r2):=by rw [if_pos rfl] at H; exact H
  clear H
  have H:=H1
  clear H1
  by_cases c5 : 0≤(a1.size : Int)
  ·rw [if_pos c5] at H
   have c5b0:=eq_true c5
   have c5b1:decide (0≤(a1.size : Int))=true:=decide_eq_true c5
   clear c5
   by_cases c6 : (a1.size : Int)≤(a0.size : Int)
   ·rw [if_pos c6] at H
    have c6b0:=eq_true c6
    have c6b1:decide ((a1.size : Int)≤(a0.size : Int))=true:=decide_eq_true c6
    clear c6
    simp only [Option.some.injEq,Prod.mk.injEq] at H
    obtain ⟨rfl,rfl⟩:=H
    go_enter Tryd.func75,Tryd.ntmps75
    go_wp2_with (first | ((with_reducible refine gate_callee (f:=79) rfl ?_); refine goesL_ (some 8) rfl rfl Tryd.func79 (by kernel_rfl) rfl #[.string a0, .string a1] rfl (by (try simp only [List.map_toArray,List.map_cons,List.map_nil]); first | done | rfl | (simp only [List.length_drop,List.length_take]; rfl)) ?_; (with_reducible refine (stringslite_HasPrefix.calls a0 a1 true _ A3.out).mono ?_); rintro e w' ⟨rfl,⟨nd,rfl⟩⟩; refine ⟨_,rfl,?_⟩))
    go_ret2
    exact ⟨by first | rfl | (simp; done) | (simp [*]; done),by repeat (first | exact Drawn0.refl _ | apply Drawn0.step)⟩
   ·rw [if_neg c6] at H
    exact absurd H (by simp)
  ·rw [if_neg c5] at H
   exact absurd H (by simp)
 ·replace c4:=Bool.eq_false_iff.mpr c4
  subst c4
  have H1 : (some (a0,false))=some (r1,r2):=by rw [if_neg (show ¬ (false=true) by decide)] at H; exact H
  clear H
  have H:=H1
  clear H1
  simp only [Option.some.injEq,Prod.mk.injEq] at H
  obtain ⟨rfl,rfl⟩:=H
  go_enter Tryd.func75,Tryd.ntmps75
  go_wp2_with (first | ((with_reducible refine gate_callee (f:=79) rfl ?_); refine goesL_ (some 8) rfl rfl Tryd.func79 (by kernel_rfl) rfl #[.string a0, .string a1] rfl (by (try simp only [List.map_toArray,List.map_cons,List.map_nil]); first | done | rfl | (simp only [List.length_drop,List.length_take]; rfl)) ?_; (with_reducible refine (stringslite_HasPrefix.calls a0 a1 false _ A3.out).mono ?_); rintro e w' ⟨rfl,⟨nd,rfl⟩⟩; refine ⟨_,rfl,?_⟩))
  go_ret2
  exact ⟨by first | rfl | (simp; done) | (simp [*]; done),by repeat (first | exact Drawn0.refl _ | apply Drawn0.step)⟩

/-! ### strings_CutPrefix: function 64 -/
def strings_CutPrefix.f (a0 : ByteArray) (a1 : ByteArray) : Option (ByteArray × Bool):=(stringslite_CutPrefix.f a0 a1).bind fun bt106=>(some (bt106.1,bt106.2))
theorem strings_CutPrefix.calls (a0 : ByteArray) (a1 : ByteArray) (r1 : ByteArray) (r2 : Bool) (w : World) (h : strings_CutPrefix.f a0 a1=some (r1,r2)) :
  Calls Tryd.prog 64 #[.string a0, .string a1] w fun e w'=>e = .returned (.tuple #[.string r1, .bool r2])∧Drawn0 w w':=by
 have H : ((stringslite_CutPrefix.f a0 a1).bind fun bt106=>(some (bt106.1,bt106.2)))=some (r1,r2):=h
 clear h
 replace H:=Option.bind_eq_some_iff.mp H
 obtain ⟨⟨t106,t107⟩,A30,H⟩:=H
 replace H : (some (t106,t107))=some (r1,r2):=H
 have A3:=Aside0.mk A30
 clear A30
 simp only [Option.some.injEq,Prod.mk.injEq] at H
 obtain ⟨rfl,rfl⟩:=H
 go_enter Tryd.func64,Tryd.ntmps64
 go_wp2_with (first | ((with_reducible refine gate_callee (f:=75) rfl ?_); refine goesL_ (some 8) rfl rfl Tryd.func75 (by kernel_rfl) rfl #[.string a0, .string a1] rfl (by (try simp only [List.map_toArray,List.map_cons,List.map_nil]); first | done | rfl | (simp only [List.length_drop,List.length_take]; rfl)) ?_; (with_reducible refine (stringslite_CutPrefix.calls a0 a1 t106 t107 _ A3.out).mono ?_); rintro e w' ⟨rfl,⟨nd,rfl⟩⟩; refine ⟨_,rfl,?_⟩))
 go_ret2
 exact ⟨by first | rfl | (simp; done) | (simp [*]; done),by repeat (first | exact Drawn0.refl _ | apply Drawn0.step)⟩

/-! ### segment_field: function 39 -/
def segment_field.f (a0 : ByteArray) (a1 : Int) (a2_0 : Int) (a2_1 : Int) (a2_2 : Int) (a2_3 : Int) (a2_4 : Int) : Option (ByteArray × Int):=(segment_Name.f a0).bind fun t109=>(if t109.toList=([77,83,72] : List UInt8) then ((some (([a2_0] : List Int) : List Int)).bind fun y118=>(if 3 + (strOfNums y118).size≤9223372036854775807 then ((strings_CutPrefix.f a0 ((⟨#[77,83,72]⟩ : ByteArray) ++ (strOfNums y118))).bind fun bt121=>(if bt121.2=true then ((segment_nth.f bt121.1 a2_0 (wrap64 (a1 - 1))).bind fun bt123=>(if a1=1 then (some (strOfNums (([a2_0] : List Int)),wrap64 (bt123.2 + 1))) else (some (bt123.1,wrap64 (bt123.2 + 1))))) else (some ((⟨#[]⟩ : ByteArray),0)))) else (none))) else ((strings_Cut.f a0 (strOfNums (([a2_0] : List Int)))).bind fun bt113=>(if bt113.2.2=true then ((segment_nth.f bt113.2.1 a2_0 a1).bind fun bt116=>(some (bt116.1,bt116.2))) else (some ((⟨#[]⟩ : ByteArray),0)))))
theorem segment_field.calls (a0 : ByteArray) (a1 : Int) (a2_0 : Int) (a2_1 : Int) (a2_2 : Int) (a2_3 : Int) (a2_4 : Int) (r1 : ByteArray) (r2 : Int) (w : World) (h : segment_field.f a0 a1 a2_0 a2_1 a2_2 a2_3 a2_4=some (r1,r2)) :
  Calls Tryd.prog 39 #[.string a0, .int .i64 a1, .agg #[.int .u8 a2_0, .int .u8 a2_1, .int .u8 a2_2, .int .u8 a2_3, .int .u8 a2_4]] w fun e w'=>e = .returned (.tuple #[.string r1, .int .i64 r2])∧Below w.heap.size w w':=by
 have hu25:=Tryd.underlying25
 have HB:=Aside0.mk (Below.refl w.heap.size w)
 have H : ((segment_Name.f a0).bind fun t109=>(if t109.toList=([77,83,72] : List UInt8) then ((some (([a2_0] : List Int) : List Int)).bind fun y118=>(if 3 + (strOfNums y118).size≤9223372036854775807 then ((strings_CutPrefix.f a0 ((⟨#[77,83,72]⟩ : ByteArray) ++ (strOfNums y118))).bind fun bt121=>(if bt121.2=true then ((segment_nth.f bt121.1 a2_0 (wrap64 (a1 - 1))).bind fun bt123=>(if a1=1 then (some (strOfNums (([a2_0] : List Int)),wrap64 (bt123.2 + 1))) else (some (bt123.1,wrap64 (bt123.2 + 1))))) else (some ((⟨#[]⟩ : ByteArray),0)))) else (none))) else ((strings_Cut.f a0 (strOfNums (([a2_0] : List Int)))).bind fun bt113=>(if bt113.2.2=true then ((segment_nth.f bt113.2.1 a2_0 a1).bind fun bt116=>(some (bt116.1,bt116.2))) else (some ((⟨#[]⟩ : ByteArray),0))))))=some (r1,r2):=h
 clear h
 replace H:=Option.bind_eq_some_iff.mp H
 obtain ⟨t109,A40,H⟩:=H
 replace H : (if t109.toList=([77,83,72] : List UInt8) then ((some (([a2_0] : List Int) : List Int)).bind fun y118=>(if 3 + (strOfNums y118).size≤9223372036854775807 then ((strings_CutPrefix.f a0 ((⟨#[77,83,72]⟩ : ByteArray) ++ (strOfNums y118))).bind fun bt121=>(if bt121.2=true then ((segment_nth.f bt121.1 a2_0 (wrap64 (a1 - 1))).bind fun bt123=>(if a1=1 then (some (strOfNums (([a2_0] : List Int)),wrap64 (bt123.2 + 1))) else (some (bt123.1,wrap64 (bt123.2 + 1))))) else (some ((⟨#[]⟩ : ByteArray),0)))) else (none))) else ((strings_Cut.f a0 (strOfNums (([a2_0] : List Int)))).bind fun bt113=>(if bt113.2.2=true then ((segment_nth.f bt113.2.1 a2_0 a1).bind fun bt116=>(some (bt116.1,bt116.2))) else (some ((⟨#[]⟩ : ByteArray),0)))))=some (r1,r2):=H
 have A4:=Aside0.mk A40
 clear A40
 by_cases c5 : t109.toList=([77,83,72] : List UInt8)
 ·rw [if_pos c5] at H
  have c5b0 : (t109.toList == ([77,83,72] : List UInt8))=true:=beq_iff_eq.mpr c5
  have c5b1 : (t109.toList != ([77,83,72] : List UInt8))=false:=bne_eq_false_iff_eq.mpr c5
  clear c5
  obtain ⟨y118,hy118⟩ : ∃ y_ : List Int,y_=(([a2_0] : List Int)):=⟨_,rfl⟩
  replace H : (if 3 + (strOfNums y118).size≤9223372036854775807 then ((strings_CutPrefix.f a0 ((⟨#[77,83,72]⟩ : ByteArray) ++ (strOfNums y118))).bind fun bt121=>(if bt121.2=true then ((segment_nth.f bt121.1 a2_0 (wrap64 (a1 - 1))).bind fun bt123=>(if a1=1 then (some (strOfNums (([a2_0] : List Int)),wrap64 (bt123.2 + 1))) else (some (bt123.1,wrap64 (bt123.2 + 1))))) else (some ((⟨#[]⟩ : ByteArray),0)))) else (none))=some (r1,r2):=by first | (rw [hy118]; with_reducible exact H) | (have H2_:=(Option.bind_some _ _).symm.trans H; rw [hy118]; with_reducible exact H2_) | (have H2_:=(Option.bind_some _ _).symm.trans H; with_reducible exact H2_) | with_reducible exact H | (rw [hy118]; exact H) | exact H
  have Ny118:=Aside0.mk hy118
  clear hy118
  by_cases c6 : 3 + (strOfNums y118).size≤9223372036854775807
  ·rw [if_pos c6] at H
   have c6b0:=eq_true c6
   have c6b1:decide (3 + (strOfNums y118).size≤9223372036854775807)=true:=decide_eq_true c6
   try have c6b2 : (9223372036854775807 < 3 + (strOfNums y118).size)=False:=eq_false (Nat.not_lt.2 c6)
   try (have c6b4:=c6b2; simp only [ByteArray.size_append] at c6b4)
   replace H:=Option.bind_eq_some_iff.mp H
   obtain ⟨⟨t121,t122⟩,A70,H⟩:=H
   replace H : (if t122=true then ((segment_nth.f t121 a2_0 (wrap64 (a1 - 1))).bind fun bt123=>(if a1=1 then (some (strOfNums (([a2_0] : List Int)),wrap64 (bt123.2 + 1))) else (some (bt123.1,wrap64 (bt123.2 + 1))))) else (some ((⟨#[]⟩ : ByteArray),0)))=some (r1,r2):=H
   have A7:=Aside0.mk A70
   clear A70
   by_cases c8 : t122=true
   ·subst c8
    have H1 : ((segment_nth.f t121 a2_0 (wrap64 (a1 - 1))).bind fun bt123=>(if a1=1 then (some (strOfNums (([a2_0] : List Int)),wrap64 (bt123.2 + 1))) else (some (bt123.1,wrap64 (bt123.2 + 1)))))=some (r1,r2):=by rw [if_pos rfl] at H; exact H
    clear H
    have H:=H1
    clear H1
    replace H:=Option.bind_eq_some_iff.mp H
    obtain ⟨⟨t123,t124⟩,A90,H⟩:=H
    replace H : (if a1=1 then (some (strOfNums (([a2_0] : List Int)),wrap64 (t124 + 1))) else (some (t123,wrap64 (t124 + 1))))=some (r1,r2):=H
    have A9:=Aside0.mk A90
    clear A90
    by_cases c10 : a1=1
    ·rw [if_pos c10] at H
     have c10b0 : (a1 == 1)=true:=beq_iff_eq.mpr c10
     have c10b1 : (a1 != 1)=false:=bne_eq_false_iff_eq.mpr c10
     clear c10
     obtain ⟨y125,hy125⟩ : ∃ y_ : List Int,y_=(([a2_0] : List Int)):=⟨_,rfl⟩
     replace H : (some (strOfNums y125,wrap64 (t124 + 1)))=some (r1,r2):=by first | (rw [hy125]; with_reducible exact H) | (have H2_:=(Option.bind_some _ _).symm.trans H; rw [hy125]; with_reducible exact H2_) | (have H2_:=(Option.bind_some _ _).symm.trans H; with_reducible exact H2_) | with_reducible exact H | (rw [hy125]; exact H) | exact H
     have Ny125:=Aside0.mk hy125
     clear hy125
     simp only [Option.some.injEq,Prod.mk.injEq] at H
     obtain ⟨rfl,rfl⟩:=H
     go_enter Tryd.func39,Tryd.ntmps39
     go_wp2_with (first | ((with_reducible refine gate_dst (N:=5) rfl ?_); refine box_event ?hg (N:=5) ?hd (cs:=#[.int .u8 a2_0, .int .u8 a2_1, .int .u8 a2_2, .int .u8 a2_3, .int .u8 a2_4]) (t:=25) ?hr ?_; (case hd=>rfl); (case hg=>rfl); (case hr=>first | (go_simp; done) | (go_simp; rfl)); intro gb108 hg w11 hbox hb; have n0_:=Aside0.mk (below_step (by repeat (first | (with_reducible first | exact HB.out | apply bA | apply bN | apply bD) | exact HB.out)) hb); have n1_:=Aside0.mk (hbox); have n2_:=Aside0.mk ((by rw [hg]; exact (below_size (by repeat (first | (with_reducible first | exact HB.out | apply bA | apply bN | apply bD) | exact HB.out))) : w.heap.size≤gb108)); have n3_:=Aside0.mk ((by rw [hg]; exact (below_size (by repeat (first | (with_reducible first | exact HB.out | apply bA | apply bN | apply bD) | exact HB.out))) : w.heap.size≤gb108)); clear HB; have HB:=n0_; have BK108:=n1_; have GW108:=n2_; have GE108:=n3_; clear n0_ n1_ n2_ n3_; clear hb hbox hg) | ((with_reducible refine gate_callee (f:=22) rfl ?_); refine goesL_ (some 16) rfl rfl Tryd.func22 (by kernel_rfl) rfl #[.string a0] rfl (by (try simp only [List.map_toArray,List.map_cons,List.map_nil]); first | done | rfl | (simp only [List.length_drop,List.length_take]; rfl)) ?_; (with_reducible refine (segment_Name.calls a0 t109 _ A4.out).mono ?_); rintro e w12 ⟨rfl,hb⟩; refine ⟨_,rfl,?_⟩; have n0_:=Aside0.mk (blk_below (g:=gb108) (o := .cells #[.int .u8 a2_0, .int .u8 a2_1, .int .u8 a2_2, .int .u8 a2_3, .int .u8 a2_4] 25 (0,0)) (by (with_reducible repeat (first | refine kN ?_ _ | refine kD ?_ | refine kA ?_ _)); exact BK108.out) hb); have n1_:=Aside0.mk (below_step (by repeat (first | (with_reducible first | exact HB.out | apply bA | apply bN | apply bD | refine below_set ?_ GE108.out) | exact HB.out)) hb); clear BK108; clear HB; have BK108:=n0_; have HB:=n1_; clear n0_ n1_; (try clear hb); have hcz13_0:w12.cell? ⟨gb108,0,none⟩=some (.int .u8 a2_0):=blk_cell BK108.out 0; have hcz13_1:w12.cell? ⟨gb108,1,none⟩=some (.int .u8 a2_1):=blk_cell BK108.out 1; have hcz13_2:w12.cell? ⟨gb108,2,none⟩=some (.int .u8 a2_2):=blk_cell BK108.out 2; have hcz13_3:w12.cell? ⟨gb108,3,none⟩=some (.int .u8 a2_3):=blk_cell BK108.out 3; have hcz13_4:w12.cell? ⟨gb108,4,none⟩=some (.int .u8 a2_4):=blk_cell BK108.out 4; have hfz13_0:=blk_frozen BK108.out 0; have hfz13_1:=blk_frozen BK108.out 1; have hfz13_2:=blk_frozen BK108.out 2; have hfz13_3:=blk_frozen BK108.out 3; have hfz13_4:=blk_frozen BK108.out 4) | ((with_reducible refine gate_dst (N:=41) rfl ?_); refine Kd.R_lit (Kd.int .u8) _ 5 ?hg (N:=41) ?hd (xs:=([a2_0] : List Int)) (inner:=[.int .u8 a2_0]) (ok:=fun _=>True) (okp:=fun _=>True) ?hr ?hp (fun _ hk=>hk) trivial (Below.refl _ _) (Nat.le_refl _) (by simp) ?_; (case hd=>rfl); (case hg=>rfl); (case hr=>first | (go_simp; done) | (go_simp; rfl)); (case hp=>exact (Reps.one (show Kd.M (Kd.int .u8) _ _ _ a2_0 [.int .u8 a2_0] from rfl) (Reps.none _ _))); intro v119 w14 ho15 hb hg_ hnew_; clear hg_ hnew_; (first | rw [← Ny118.out] at ho15 | (simp only [Int.reduceToNat] at ho15; rw [← Ny118.out] at ho15)); have n0_:=Aside0.mk (Kd.R_lower ho15 (below_size (by repeat (first | (with_reducible first | exact HB.out | apply bA | apply bN | apply bD | refine below_set ?_ GE108.out) | exact HB.out)))); have n1_:=Aside0.mk (blk_below (g:=gb108) (o := .cells #[.int .u8 a2_0, .int .u8 a2_1, .int .u8 a2_2, .int .u8 a2_3, .int .u8 a2_4] 25 (0,0)) (by (with_reducible repeat (first | refine kN ?_ _ | refine kD ?_ | refine kA ?_ _)); exact BK108.out) hb); have n2_:=Aside0.mk (below_step (by repeat (first | (with_reducible first | exact HB.out | apply bA | apply bN | apply bD | refine below_set ?_ GE108.out) | exact HB.out)) hb); clear BK108; clear HB; have HO120:=n0_; have BK108:=n1_; have HB:=n2_; clear n0_ n1_ n2_; clear hb ho15; have hcv16:=own_string (P:=Tryd.prog) Tryd.underlying22 Tryd.underlying5 Tryd.underlying9 (Kd.own_of_R HO120.out)) | ((with_reducible refine gate_callee (f:=64) rfl ?_); refine goesL_ (some 44) rfl rfl Tryd.func64 (by kernel_rfl) rfl #[.string a0, .string ((⟨#[77,83,72]⟩ : ByteArray) ++ (strOfNums y118))] rfl (by (try simp only [List.map_toArray,List.map_cons,List.map_nil]); first | done | rfl | (simp only [List.length_drop,List.length_take]; rfl)) ?_; (with_reducible refine (strings_CutPrefix.calls a0 ((⟨#[77,83,72]⟩ : ByteArray) ++ (strOfNums y118)) t121 true _ A7.out).mono ?_); rintro e w' ⟨rfl,⟨nd,rfl⟩⟩; refine ⟨_,rfl,?_⟩; have hcz17_0:w14.cell? ⟨gb108,0,none⟩=some (.int .u8 a2_0):=blk_cell BK108.out 0; have hcz17_1:w14.cell? ⟨gb108,1,none⟩=some (.int .u8 a2_1):=blk_cell BK108.out 1; have hcz17_2:w14.cell? ⟨gb108,2,none⟩=some (.int .u8 a2_2):=blk_cell BK108.out 2; have hcz17_3:w14.cell? ⟨gb108,3,none⟩=some (.int .u8 a2_3):=blk_cell BK108.out 3; have hcz17_4:w14.cell? ⟨gb108,4,none⟩=some (.int .u8 a2_4):=blk_cell BK108.out 4; have hfz17_0:=blk_frozen BK108.out 0; have hfz17_1:=blk_frozen BK108.out 1; have hfz17_2:=blk_frozen BK108.out 2; have hfz17_3:=blk_frozen BK108.out 3; have hfz17_4:=blk_frozen BK108.out 4) | ((with_reducible refine gate_callee (f:=63) rfl ?_); refine goesL_ (some 55) rfl rfl Tryd.func63 (by kernel_rfl) rfl #[.string t121, .int .u8 a2_0, .int .i64 (wrap64 (a1 - 1))] rfl (by (try simp only [List.map_toArray,List.map_cons,List.map_nil]); first | done | rfl | (simp only [List.length_drop,List.length_take]; rfl)) ?_; (with_reducible refine (segment_nth.calls t121 a2_0 (wrap64 (a1 - 1)) t123 t124 _ A9.out).mono ?_); rintro e w18 ⟨rfl,hb⟩; refine ⟨_,rfl,?_⟩; have n0_:=Aside0.mk (Kd.R_below (by (with_reducible repeat (first | apply Kd.R_alloc | apply Kd.R_drewN | apply Kd.R_drew)); exact HO120.out) hb); have n1_:=Aside0.mk (blk_below (g:=gb108) (o := .cells #[.int .u8 a2_0, .int .u8 a2_1, .int .u8 a2_2, .int .u8 a2_3, .int .u8 a2_4] 25 (0,0)) (by (with_reducible repeat (first | refine kN ?_ _ | refine kD ?_ | refine kA ?_ _)); exact BK108.out) hb); have n2_:=Aside0.mk (below_step (by repeat (first | (with_reducible first | exact HB.out | apply bA | apply bN | apply bD | refine below_set ?_ GE108.out) | exact HB.out)) hb); clear HO120; clear BK108; clear HB; have HO120:=n0_; have BK108:=n1_; have HB:=n2_; clear n0_ n1_ n2_; (try clear hb); have hcz19_0:w18.cell? ⟨gb108,0,none⟩=some (.int .u8 a2_0):=blk_cell BK108.out 0; have hcz19_1:w18.cell? ⟨gb108,1,none⟩=some (.int .u8 a2_1):=blk_cell BK108.out 1; have hcz19_2:w18.cell? ⟨gb108,2,none⟩=some (.int .u8 a2_2):=blk_cell BK108.out 2; have hcz19_3:w18.cell? ⟨gb108,3,none⟩=some (.int .u8 a2_3):=blk_cell BK108.out 3; have hcz19_4:w18.cell? ⟨gb108,4,none⟩=some (.int .u8 a2_4):=blk_cell BK108.out 4; have hfz19_0:=blk_frozen BK108.out 0; have hfz19_1:=blk_frozen BK108.out 1; have hfz19_2:=blk_frozen BK108.out 2; have hfz19_3:=blk_frozen BK108.out 3; have hfz19_4:=blk_frozen BK108.out 4) | ((with_reducible refine gate_dst (N:=62) rfl ?_); refine Kd.R_lit (Kd.int .u8) _ 5 ?hg (N:=62) ?hd (xs:=([a2_0] : List Int)) (inner:=[.int .u8 a2_0]) (ok:=fun _=>True) (okp:=fun _=>True) ?hr ?hp (fun _ hk=>hk) trivial (Below.refl _ _) (Nat.le_refl _) (by simp) ?_; (case hd=>rfl); (case hg=>rfl); (case hr=>first | (go_simp; done) | (go_simp; rfl)); (case hp=>exact (Reps.one (show Kd.M (Kd.int .u8) _ _ _ a2_0 [.int .u8 a2_0] from rfl) (Reps.none _ _))); intro v126 w20 ho21 hb hg_ hnew_; clear hg_ hnew_; (first | rw [← Ny125.out] at ho21 | (simp only [Int.reduceToNat] at ho21; rw [← Ny125.out] at ho21)); have n0_:=Aside0.mk (Kd.R_elder' (by (with_reducible repeat (first | apply Kd.R_alloc | apply Kd.R_drewN | apply Kd.R_drew)); exact HO120.out) (Kd.R_base ho21) hb); have n1_:=Aside0.mk (Kd.R_lower (Kd.R_new' ho21 (Kd.R_lt (by (with_reducible repeat (first | apply Kd.R_alloc | apply Kd.R_drewN | apply Kd.R_drew)); exact HO120.out))) (below_size (by repeat (first | (with_reducible first | exact HB.out | apply bA | apply bN | apply bD | refine below_set ?_ GE108.out) | exact HB.out)))); have n2_:=Aside0.mk (blk_below (g:=gb108) (o := .cells #[.int .u8 a2_0, .int .u8 a2_1, .int .u8 a2_2, .int .u8 a2_3, .int .u8 a2_4] 25 (0,0)) (by (with_reducible repeat (first | refine kN ?_ _ | refine kD ?_ | refine kA ?_ _)); exact BK108.out) hb); have n3_:=Aside0.mk (below_step (by repeat (first | (with_reducible first | exact HB.out | apply bA | apply bN | apply bD | refine below_set ?_ GE108.out) | exact HB.out)) hb); clear HO120; clear BK108; clear HB; have HO120:=n0_; have HO127:=n1_; have BK108:=n2_; have HB:=n3_; clear n0_ n1_ n2_ n3_; clear hb ho21; have hcv22:=own_string (P:=Tryd.prog) Tryd.underlying22 Tryd.underlying5 Tryd.underlying9 (Kd.own_of_R HO127.out)))
     go_ret2
     exact ⟨by first | rfl | (simp [errW_none,errW_some] <;> rfl) | (simp [*,errW_none,errW_some] <;> rfl),by repeat (first | (with_reducible first | exact HB.out | apply bA | apply bN | apply bD | refine below_set ?_ GE108.out) | exact HB.out)⟩
    ·rw [if_neg c10] at H
     have c10b0 : (a1 == 1)=false:=beq_eq_false_iff_ne.mpr c10
     have c10b1 : (a1 != 1)=true:=bne_iff_ne.mpr c10
     simp only [Option.some.injEq,Prod.mk.injEq] at H
     obtain ⟨rfl,rfl⟩:=H
     go_enter Tryd.func39,Tryd.ntmps39
     go_wp2_with (first | ((with_reducible refine gate_dst (N:=5) rfl ?_); refine box_event ?hg (N:=5) ?hd (cs:=#[.int .u8 a2_0, .int .u8 a2_1, .int .u8 a2_2, .int .u8 a2_3, .int .u8 a2_4]) (t:=25) ?hr ?_; (case hd=>rfl); (case hg=>rfl); (case hr=>first | (go_simp; done) | (go_simp; rfl)); intro gb108 hg w23 hbox hb; have n0_:=Aside0.mk (below_step (by repeat (first | (with_reducible first | exact HB.out | apply bA | apply bN | apply bD) | exact HB.out)) hb); have n1_:=Aside0.mk (hbox); have n2_:=Aside0.mk ((by rw [hg]; exact (below_size (by repeat (first | (with_reducible first | exact HB.out | apply bA | apply bN | apply bD) | exact HB.out))) : w.heap.size≤gb108)); have n3_:=Aside0.mk ((by rw [hg]; exact (below_size (by repeat (first | (with_reducible first | exact HB.out | apply bA | apply bN | apply bD) | exact HB.out))) : w.heap.size≤gb108)); clear HB; have HB:=n0_; have BK108:=n1_; have GW108:=n2_; have GE108:=n3_; clear n0_ n1_ n2_ n3_; clear hb hbox hg) | ((with_reducible refine gate_callee (f:=22) rfl ?_); refine goesL_ (some 16) rfl rfl Tryd.func22 (by kernel_rfl) rfl #[.string a0] rfl (by (try simp only [List.map_toArray,List.map_cons,List.map_nil]); first | done | rfl | (simp only [List.length_drop,List.length_take]; rfl)) ?_; (with_reducible refine (segment_Name.calls a0 t109 _ A4.out).mono ?_); rintro e w24 ⟨rfl,hb⟩; refine ⟨_,rfl,?_⟩; have n0_:=Aside0.mk (blk_below (g:=gb108) (o := .cells #[.int .u8 a2_0, .int .u8 a2_1, .int .u8 a2_2, .int .u8 a2_3, .int .u8 a2_4] 25 (0,0)) (by (with_reducible repeat (first | refine kN ?_ _ | refine kD ?_ | refine kA ?_ _)); exact BK108.out) hb); have n1_:=Aside0.mk (below_step (by repeat (first | (with_reducible first | exact HB.out | apply bA | apply bN | apply bD | refine below_set ?_ GE108.out) | exact HB.out)) hb); clear BK108; clear HB; have BK108:=n0_; have HB:=n1_; clear n0_ n1_; (try clear hb); have hcz25_0:w24.cell? ⟨gb108,0,none⟩=some (.int .u8 a2_0):=blk_cell BK108.out 0; have hcz25_1:w24.cell? ⟨gb108,1,none⟩=some (.int .u8 a2_1):=blk_cell BK108.out 1; have hcz25_2:w24.cell? ⟨gb108,2,none⟩=some (.int .u8 a2_2):=blk_cell BK108.out 2; have hcz25_3:w24.cell? ⟨gb108,3,none⟩=some (.int .u8 a2_3):=blk_cell BK108.out 3; have hcz25_4:w24.cell? ⟨gb108,4,none⟩=some (.int .u8 a2_4):=blk_cell BK108.out 4; have hfz25_0:=blk_frozen BK108.out 0; have hfz25_1:=blk_frozen BK108.out 1; have hfz25_2:=blk_frozen BK108.out 2; have hfz25_3:=blk_frozen BK108.out 3; have hfz25_4:=blk_frozen BK108.out 4) | ((with_reducible refine gate_dst (N:=41) rfl ?_); refine Kd.R_lit (Kd.int .u8) _ 5 ?hg (N:=41) ?hd (xs:=([a2_0] : List Int)) (inner:=[.int .u8 a2_0]) (ok:=fun _=>True) (okp:=fun _=>True) ?hr ?hp (fun _ hk=>hk) trivial (Below.refl _ _) (Nat.le_refl _) (by simp) ?_; (case hd=>rfl); (case hg=>rfl); (case hr=>first | (go_simp; done) | (go_simp; rfl)); (case hp=>exact (Reps.one (show Kd.M (Kd.int .u8) _ _ _ a2_0 [.int .u8 a2_0] from rfl) (Reps.none _ _))); intro v119 w26 ho27 hb hg_ hnew_; clear hg_ hnew_; (first | rw [← Ny118.out] at ho27 | (simp only [Int.reduceToNat] at ho27; rw [← Ny118.out] at ho27)); have n0_:=Aside0.mk (Kd.R_lower ho27 (below_size (by repeat (first | (with_reducible first | exact HB.out | apply bA | apply bN | apply bD | refine below_set ?_ GE108.out) | exact HB.out)))); have n1_:=Aside0.mk (blk_below (g:=gb108) (o := .cells #[.int .u8 a2_0, .int .u8 a2_1, .int .u8 a2_2, .int .u8 a2_3, .int .u8 a2_4] 25 (0,0)) (by (with_reducible repeat (first | refine kN ?_ _ | refine kD ?_ | refine kA ?_ _)); exact BK108.out) hb); have n2_:=Aside0.mk (below_step (by repeat (first | (with_reducible first | exact HB.out | apply bA | apply bN | apply bD | refine below_set ?_ GE108.out) | exact HB.out)) hb); clear BK108; clear HB; have HO120:=n0_; have BK108:=n1_; have HB:=n2_; clear n0_ n1_ n2_; clear hb ho27; have hcv28:=own_string (P:=Tryd.prog) Tryd.underlying22 Tryd.underlying5 Tryd.underlying9 (Kd.own_of_R HO120.out)) | ((with_reducible refine gate_callee (f:=64) rfl ?_); refine goesL_ (some 44) rfl rfl Tryd.func64 (by kernel_rfl) rfl #[.string a0, .string ((⟨#[77,83,72]⟩ : ByteArray) ++ (strOfNums y118))] rfl (by (try simp only [List.map_toArray,List.map_cons,List.map_nil]); first | done | rfl | (simp only [List.length_drop,List.length_take]; rfl)) ?_; (with_reducible refine (strings_CutPrefix.calls a0 ((⟨#[77,83,72]⟩ : ByteArray) ++ (strOfNums y118)) t121 true _ A7.out).mono ?_); rintro e w' ⟨rfl,⟨nd,rfl⟩⟩; refine ⟨_,rfl,?_⟩; have hcz29_0:w26.cell? ⟨gb108,0,none⟩=some (.int .u8 a2_0):=blk_cell BK108.out 0; have hcz29_1:w26.cell? ⟨gb108,1,none⟩=some (.int .u8 a2_1):=blk_cell BK108.out 1; have hcz29_2:w26.cell? ⟨gb108,2,none⟩=some (.int .u8 a2_2):=blk_cell BK108.out 2; have hcz29_3:w26.cell? ⟨gb108,3,none⟩=some (.int .u8 a2_3):=blk_cell BK108.out 3; have hcz29_4:w26.cell? ⟨gb108,4,none⟩=some (.int .u8 a2_4):=blk_cell BK108.out 4; have hfz29_0:=blk_frozen BK108.out 0; have hfz29_1:=blk_frozen BK108.out 1; have hfz29_2:=blk_frozen BK108.out 2; have hfz29_3:=blk_frozen BK108.out 3; have hfz29_4:=blk_frozen BK108.out 4) | ((with_reducible refine gate_callee (f:=63) rfl ?_); refine goesL_ (some 55) rfl rfl Tryd.func63 (by kernel_rfl) rfl #[.string t121, .int .u8 a2_0, .int .i64 (wrap64 (a1 - 1))] rfl (by (try simp only [List.map_toArray,List.map_cons,List.map_nil]); first | done | rfl | (simp only [List.length_drop,List.length_take]; rfl)) ?_; (with_reducible refine (segment_nth.calls t121 a2_0 (wrap64 (a1 - 1)) t123 t124 _ A9.out).mono ?_); rintro e w30 ⟨rfl,hb⟩; refine ⟨_,rfl,?_⟩; have n0_:=Aside0.mk (Kd.R_below (by (with_reducible repeat (first | apply Kd.R_alloc | apply Kd.R_drewN | apply Kd.R_drew)); exact HO120.out) hb); have n1_:=Aside0.mk (blk_below (g:=gb108) (o := .cells #[.int .u8 a2_0, .int .u8 a2_1, .int .u8 a2_2, .int .u8 a2_3, .int .u8 a2_4] 25 (0,0)) (by (with_reducible repeat (first | refine kN ?_ _ | refine kD ?_ | refine kA ?_ _)); exact BK108.out) hb); have n2_:=Aside0.mk (below_step (by repeat (first | (with_reducible first | exact HB.out | apply bA | apply bN | apply bD | refine below_set ?_ GE108.out) | exact HB.out)) hb); clear HO120; clear BK108; clear HB; have HO120:=n0_; have BK108:=n1_; have HB:=n2_; clear n0_ n1_ n2_; (try clear hb)))
     go_ret2
     exact ⟨by first | rfl | (simp [errW_none,errW_some] <;> rfl) | (simp [*,errW_none,errW_some] <;> rfl),by repeat (first | (with_reducible first | exact HB.out | apply bA | apply bN | apply bD | refine below_set ?_ GE108.out) | exact HB.out)⟩
   ·replace c8:=Bool.eq_false_iff.mpr c8
    subst c8
    have H1 : (some ((⟨#[]⟩ : ByteArray),0))=some (r1,r2):=by rw [if_neg (show ¬ (false=true) by decide)] at H; exact H
    clear H
    have H:=H1
    clear H1
    simp only [Option.some.injEq,Prod.mk.injEq] at H
    obtain ⟨rfl,rfl⟩:=H
    go_enter Tryd.func39,Tryd.ntmps39
    go_wp2_with (first | ((with_reducible refine gate_dst (N:=5) rfl ?_); refine box_event ?hg (N:=5) ?hd (cs:=#[.int .u8 a2_0, .int .u8 a2_1, .int .u8 a2_2, .int .u8 a2_3, .int .u8 a2_4]) (t:=25) ?hr ?_; (case hd=>rfl); (case hg=>rfl); (case hr=>first | (go_simp; done) | (go_simp; rfl)); intro gb108 hg w31 hbox hb; have n0_:=Aside0.mk (below_step (by repeat (first | (with_reducible first | exact HB.out | apply bA | apply bN | apply bD) | exact HB.out)) hb); have n1_:=Aside0.mk (hbox); have n2_:=Aside0.mk ((by rw [hg]; exact (below_size (by repeat (first | (with_reducible first | exact HB.out | apply bA | apply bN | apply bD) | exact HB.out))) : w.heap.size≤gb108)); have n3_:=Aside0.mk ((by rw [hg]; exact (below_size (by repeat (first | (with_reducible first | exact HB.out | apply bA | apply bN | apply bD) | exact HB.out))) : w.heap.size≤gb108)); clear HB; have HB:=n0_; have BK108:=n1_; have GW108:=n2_; have GE108:=n3_; clear n0_ n1_ n2_ n3_; clear hb hbox hg) | ((with_reducible refine gate_callee (f:=22) rfl ?_); refine goesL_ (some 16) rfl rfl Tryd.func22 (by kernel_rfl) rfl #[.string a0] rfl (by (try simp only [List.map_toArray,List.map_cons,List.map_nil]); first | done | rfl | (simp only [List.length_drop,List.length_take]; rfl)) ?_; (with_reducible refine (segment_Name.calls a0 t109 _ A4.out).mono ?_); rintro e w32 ⟨rfl,hb⟩; refine ⟨_,rfl,?_⟩; have n0_:=Aside0.mk (blk_below (g:=gb108) (o := .cells #[.int .u8 a2_0, .int .u8 a2_1, .int .u8 a2_2, .int .u8 a2_3, .int .u8 a2_4] 25 (0,0)) (by (with_reducible repeat (first | refine kN ?_ _ | refine kD ?_ | refine kA ?_ _)); exact BK108.out) hb); have n1_:=Aside0.mk (below_step (by repeat (first | (with_reducible first | exact HB.out | apply bA | apply bN | apply bD | refine below_set ?_ GE108.out) | exact HB.out)) hb); clear BK108; clear HB; have BK108:=n0_; have HB:=n1_; clear n0_ n1_; (try clear hb); have hcz33_0:w32.cell? ⟨gb108,0,none⟩=some (.int .u8 a2_0):=blk_cell BK108.out 0; have hcz33_1:w32.cell? ⟨gb108,1,none⟩=some (.int .u8 a2_1):=blk_cell BK108.out 1; have hcz33_2:w32.cell? ⟨gb108,2,none⟩=some (.int .u8 a2_2):=blk_cell BK108.out 2; have hcz33_3:w32.cell? ⟨gb108,3,none⟩=some (.int .u8 a2_3):=blk_cell BK108.out 3; have hcz33_4:w32.cell? ⟨gb108,4,none⟩=some (.int .u8 a2_4):=blk_cell BK108.out 4; have hfz33_0:=blk_frozen BK108.out 0; have hfz33_1:=blk_frozen BK108.out 1; have hfz33_2:=blk_frozen BK108.out 2; have hfz33_3:=blk_frozen BK108.out 3; have hfz33_4:=blk_frozen BK108.out 4) | ((with_reducible refine gate_dst (N:=41) rfl ?_); refine Kd.R_lit (Kd.int .u8) _ 5 ?hg (N:=41) ?hd (xs:=([a2_0] : List Int)) (inner:=[.int .u8 a2_0]) (ok:=fun _=>True) (okp:=fun _=>True) ?hr ?hp (fun _ hk=>hk) trivial (Below.refl _ _) (Nat.le_refl _) (by simp) ?_; (case hd=>rfl); (case hg=>rfl); (case hr=>first | (go_simp; done) | (go_simp; rfl)); (case hp=>exact (Reps.one (show Kd.M (Kd.int .u8) _ _ _ a2_0 [.int .u8 a2_0] from rfl) (Reps.none _ _))); intro v119 w34 ho35 hb hg_ hnew_; clear hg_ hnew_; (first | rw [← Ny118.out] at ho35 | (simp only [Int.reduceToNat] at ho35; rw [← Ny118.out] at ho35)); have n0_:=Aside0.mk (Kd.R_lower ho35 (below_size (by repeat (first | (with_reducible first | exact HB.out | apply bA | apply bN | apply bD | refine below_set ?_ GE108.out) | exact HB.out)))); have n1_:=Aside0.mk (blk_below (g:=gb108) (o := .cells #[.int .u8 a2_0, .int .u8 a2_1, .int .u8 a2_2, .int .u8 a2_3, .int .u8 a2_4] 25 (0,0)) (by (with_reducible repeat (first | refine kN ?_ _ | refine kD ?_ | refine kA ?_ _)); exact BK108.out) hb); have n2_:=Aside0.mk (below_step (by repeat (first | (with_reducible first | exact HB.out | apply bA | apply bN | apply bD | refine below_set ?_ GE108.out) | exact HB.out)) hb); clear BK108; clear HB; have HO120:=n0_; have BK108:=n1_; have HB:=n2_; clear n0_ n1_ n2_; clear hb ho35; have hcv36:=own_string (P:=Tryd.prog) Tryd.underlying22 Tryd.underlying5 Tryd.underlying9 (Kd.own_of_R HO120.out)) | ((with_reducible refine gate_callee (f:=64) rfl ?_); refine goesL_ (some 44) rfl rfl Tryd.func64 (by kernel_rfl) rfl #[.string a0, .string ((⟨#[77,83,72]⟩ : ByteArray) ++ (strOfNums y118))] rfl (by (try simp only [List.map_toArray,List.map_cons,List.map_nil]); first | done | rfl | (simp only [List.length_drop,List.length_take]; rfl)) ?_; (with_reducible refine (strings_CutPrefix.calls a0 ((⟨#[77,83,72]⟩ : ByteArray) ++ (strOfNums y118)) t121 false _ A7.out).mono ?_); rintro e w' ⟨rfl,⟨nd,rfl⟩⟩; refine ⟨_,rfl,?_⟩))
    go_ret2
    exact ⟨by first | rfl | (simp [errW_none,errW_some] <;> rfl) | (simp [*,errW_none,errW_some] <;> rfl),by repeat (first | (with_reducible first | exact HB.out | apply bA | apply bN | apply bD | refine below_set ?_ GE108.out) | exact HB.out)⟩
  ·rw [if_neg c6] at H
   exact absurd H (by simp)
 ·rw [if_neg c5] at H
  have c5b0 : (t109.toList == ([77,83,72] : List UInt8))=false:=beq_eq_false_iff_ne.mpr c5
  have c5b1 : (t109.toList != ([77,83,72] : List UInt8))=true:=bne_iff_ne.mpr c5
  obtain ⟨y110,hy110⟩ : ∃ y_ : List Int,y_=(([a2_0] : List Int)):=⟨_,rfl⟩
  replace H : ((strings_Cut.f a0 (strOfNums y110)).bind fun bt113=>(if bt113.2.2=true then ((segment_nth.f bt113.2.1 a2_0 a1).bind fun bt116=>(some (bt116.1,bt116.2))) else (some ((⟨#[]⟩ : ByteArray),0))))=some (r1,r2):=by first | (rw [hy110]; with_reducible exact H) | (have H2_:=(Option.bind_some _ _).symm.trans H; rw [hy110]; with_reducible exact H2_) | (have H2_:=(Option.bind_some _ _).symm.trans H; with_reducible exact H2_) | with_reducible exact H | (rw [hy110]; exact H) | exact H
  have Ny110:=Aside0.mk hy110
  clear hy110
  replace H:=Option.bind_eq_some_iff.mp H
  obtain ⟨⟨t113,t114,t115⟩,A370,H⟩:=H
  replace H : (if t115=true then ((segment_nth.f t114 a2_0 a1).bind fun bt116=>(some (bt116.1,bt116.2))) else (some ((⟨#[]⟩ : ByteArray),0)))=some (r1,r2):=H
  have A37:=Aside0.mk A370
  clear A370
  by_cases c38 : t115=true
  ·subst c38
   have H1 : ((segment_nth.f t114 a2_0 a1).bind fun bt116=>(some (bt116.1,bt116.2)))=some (r1,r2):=by rw [if_pos rfl] at H; exact H
   clear H
   have H:=H1
   clear H1
   replace H:=Option.bind_eq_some_iff.mp H
   obtain ⟨⟨t116,t117⟩,A390,H⟩:=H
   replace H : (some (t116,t117))=some (r1,r2):=H
   have A39:=Aside0.mk A390
   clear A390
   simp only [Option.some.injEq,Prod.mk.injEq] at H
   obtain ⟨rfl,rfl⟩:=H
   go_enter Tryd.func39,Tryd.ntmps39
   go_wp2_with (first | ((with_reducible refine gate_dst (N:=5) rfl ?_); refine box_event ?hg (N:=5) ?hd (cs:=#[.int .u8 a2_0, .int .u8 a2_1, .int .u8 a2_2, .int .u8 a2_3, .int .u8 a2_4]) (t:=25) ?hr ?_; (case hd=>rfl); (case hg=>rfl); (case hr=>first | (go_simp; done) | (go_simp; rfl)); intro gb108 hg w40 hbox hb; have n0_:=Aside0.mk (below_step (by repeat (first | (with_reducible first | exact HB.out | apply bA | apply bN | apply bD) | exact HB.out)) hb); have n1_:=Aside0.mk (hbox); have n2_:=Aside0.mk ((by rw [hg]; exact (below_size (by repeat (first | (with_reducible first | exact HB.out | apply bA | apply bN | apply bD) | exact HB.out))) : w.heap.size≤gb108)); have n3_:=Aside0.mk ((by rw [hg]; exact (below_size (by repeat (first | (with_reducible first | exact HB.out | apply bA | apply bN | apply bD) | exact HB.out))) : w.heap.size≤gb108)); clear HB; have HB:=n0_; have BK108:=n1_; have GW108:=n2_; have GE108:=n3_; clear n0_ n1_ n2_ n3_; clear hb hbox hg) | ((with_reducible refine gate_callee (f:=22) rfl ?_); refine goesL_ (some 16) rfl rfl Tryd.func22 (by kernel_rfl) rfl #[.string a0] rfl (by (try simp only [List.map_toArray,List.map_cons,List.map_nil]); first | done | rfl | (simp only [List.length_drop,List.length_take]; rfl)) ?_; (with_reducible refine (segment_Name.calls a0 t109 _ A4.out).mono ?_); rintro e w41 ⟨rfl,hb⟩; refine ⟨_,rfl,?_⟩; have n0_:=Aside0.mk (blk_below (g:=gb108) (o := .cells #[.int .u8 a2_0, .int .u8 a2_1, .int .u8 a2_2, .int .u8 a2_3, .int .u8 a2_4] 25 (0,0)) (by (with_reducible repeat (first | refine kN ?_ _ | refine kD ?_ | refine kA ?_ _)); exact BK108.out) hb); have n1_:=Aside0.mk (below_step (by repeat (first | (with_reducible first | exact HB.out | apply bA | apply bN | apply bD | refine below_set ?_ GE108.out) | exact HB.out)) hb); clear BK108; clear HB; have BK108:=n0_; have HB:=n1_; clear n0_ n1_; (try clear hb); have hcz42_0:w41.cell? ⟨gb108,0,none⟩=some (.int .u8 a2_0):=blk_cell BK108.out 0; have hcz42_1:w41.cell? ⟨gb108,1,none⟩=some (.int .u8 a2_1):=blk_cell BK108.out 1; have hcz42_2:w41.cell? ⟨gb108,2,none⟩=some (.int .u8 a2_2):=blk_cell BK108.out 2; have hcz42_3:w41.cell? ⟨gb108,3,none⟩=some (.int .u8 a2_3):=blk_cell BK108.out 3; have hcz42_4:w41.cell? ⟨gb108,4,none⟩=some (.int .u8 a2_4):=blk_cell BK108.out 4; have hfz42_0:=blk_frozen BK108.out 0; have hfz42_1:=blk_frozen BK108.out 1; have hfz42_2:=blk_frozen BK108.out 2; have hfz42_3:=blk_frozen BK108.out 3; have hfz42_4:=blk_frozen BK108.out 4) | ((with_reducible refine gate_dst (N:=22) rfl ?_); refine Kd.R_lit (Kd.int .u8) _ 5 ?hg (N:=22) ?hd (xs:=([a2_0] : List Int)) (inner:=[.int .u8 a2_0]) (ok:=fun _=>True) (okp:=fun _=>True) ?hr ?hp (fun _ hk=>hk) trivial (Below.refl _ _) (Nat.le_refl _) (by simp) ?_; (case hd=>rfl); (case hg=>rfl); (case hr=>first | (go_simp; done) | (go_simp; rfl)); (case hp=>exact (Reps.one (show Kd.M (Kd.int .u8) _ _ _ a2_0 [.int .u8 a2_0] from rfl) (Reps.none _ _))); intro v111 w43 ho44 hb hg_ hnew_; clear hg_ hnew_; (first | rw [← Ny110.out] at ho44 | (simp only [Int.reduceToNat] at ho44; rw [← Ny110.out] at ho44)); have n0_:=Aside0.mk (Kd.R_lower ho44 (below_size (by repeat (first | (with_reducible first | exact HB.out | apply bA | apply bN | apply bD | refine below_set ?_ GE108.out) | exact HB.out)))); have n1_:=Aside0.mk (blk_below (g:=gb108) (o := .cells #[.int .u8 a2_0, .int .u8 a2_1, .int .u8 a2_2, .int .u8 a2_3, .int .u8 a2_4] 25 (0,0)) (by (with_reducible repeat (first | refine kN ?_ _ | refine kD ?_ | refine kA ?_ _)); exact BK108.out) hb); have n2_:=Aside0.mk (below_step (by repeat (first | (with_reducible first | exact HB.out | apply bA | apply bN | apply bD | refine below_set ?_ GE108.out) | exact HB.out)) hb); clear BK108; clear HB; have HO112:=n0_; have BK108:=n1_; have HB:=n2_; clear n0_ n1_ n2_; clear hb ho44; have hcv45:=own_string (P:=Tryd.prog) Tryd.underlying22 Tryd.underlying5 Tryd.underlying9 (Kd.own_of_R HO112.out)) | ((with_reducible refine gate_callee (f:=62) rfl ?_); refine goesL_ (some 24) rfl rfl Tryd.func62 (by kernel_rfl) rfl #[.string a0, .string (strOfNums y110)] rfl (by (try simp only [List.map_toArray,List.map_cons,List.map_nil]); first | done | rfl | (simp only [List.length_drop,List.length_take]; rfl)) ?_; (with_reducible refine (strings_Cut.calls a0 (strOfNums y110) t113 t114 true _ A37.out).mono ?_); rintro e w' ⟨rfl,⟨nd,rfl⟩⟩; refine ⟨_,rfl,?_⟩; have hcz46_0:w43.cell? ⟨gb108,0,none⟩=some (.int .u8 a2_0):=blk_cell BK108.out 0; have hcz46_1:w43.cell? ⟨gb108,1,none⟩=some (.int .u8 a2_1):=blk_cell BK108.out 1; have hcz46_2:w43.cell? ⟨gb108,2,none⟩=some (.int .u8 a2_2):=blk_cell BK108.out 2; have hcz46_3:w43.cell? ⟨gb108,3,none⟩=some (.int .u8 a2_3):=blk_cell BK108.out 3; have hcz46_4:w43.cell? ⟨gb108,4,none⟩=some (.int .u8 a2_4):=blk_cell BK108.out 4; have hfz46_0:=blk_frozen BK108.out 0; have hfz46_1:=blk_frozen BK108.out 1; have hfz46_2:=blk_frozen BK108.out 2; have hfz46_3:=blk_frozen BK108.out 3; have hfz46_4:=blk_frozen BK108.out 4) | ((with_reducible refine gate_callee (f:=63) rfl ?_); refine goesL_ (some 34) rfl rfl Tryd.func63 (by kernel_rfl) rfl #[.string t114, .int .u8 a2_0, .int .i64 a1] rfl (by (try simp only [List.map_toArray,List.map_cons,List.map_nil]); first | done | rfl | (simp only [List.length_drop,List.length_take]; rfl)) ?_; (with_reducible refine (segment_nth.calls t114 a2_0 a1 t116 t117 _ A39.out).mono ?_); rintro e w47 ⟨rfl,hb⟩; refine ⟨_,rfl,?_⟩; have n0_:=Aside0.mk (Kd.R_below (by (with_reducible repeat (first | apply Kd.R_alloc | apply Kd.R_drewN | apply Kd.R_drew)); exact HO112.out) hb); have n1_:=Aside0.mk (blk_below (g:=gb108) (o := .cells #[.int .u8 a2_0, .int .u8 a2_1, .int .u8 a2_2, .int .u8 a2_3, .int .u8 a2_4] 25 (0,0)) (by (with_reducible repeat (first | refine kN ?_ _ | refine kD ?_ | refine kA ?_ _)); exact BK108.out) hb); have n2_:=Aside0.mk (below_step (by repeat (first | (with_reducible first | exact HB.out | apply bA | apply bN | apply bD | refine below_set ?_ GE108.out) | exact HB.out)) hb); clear HO112; clear BK108; clear HB; have HO112:=n0_; have BK108:=n1_; have HB:=n2_; clear n0_ n1_ n2_; (try clear hb)))
   go_ret2
   exact ⟨by first | rfl | (simp [errW_none,errW_some] <;> rfl) | (simp [*,errW_none,errW_some] <;> rfl),by repeat (first | (with_reducible first | exact HB.out | apply bA | apply bN | apply bD | refine below_set ?_ GE108.out) | exact HB.out)⟩
  ·replace c38:=Bool.eq_false_iff.mpr c38
   subst c38
   have H1 : (some ((⟨#[]⟩ : ByteArray),0))=some (r1,r2):=by rw [if_neg (show ¬ (false=true) by decide)] at H; exact H
   clear H
   have H:=H1
   clear H1
   simp only [Option.some.injEq,Prod.mk.injEq] at H
   obtain ⟨rfl,rfl⟩:=H
   go_enter Tryd.func39,Tryd.ntmps39
   go_wp2_with (first | ((with_reducible refine gate_dst (N:=5) rfl ?_); refine box_event ?hg (N:=5) ?hd (cs:=#[.int .u8 a2_0, .int .u8 a2_1, .int .u8 a2_2, .int .u8 a2_3, .int .u8 a2_4]) (t:=25) ?hr ?_; (case hd=>rfl); (case hg=>rfl); (case hr=>first | (go_simp; done) | (go_simp; rfl)); intro gb108 hg w48 hbox hb; have n0_:=Aside0.mk (below_step (by repeat (first | (with_reducible first | exact HB.out | apply bA | apply bN | apply bD) | exact HB.out)) hb); have n1_:=Aside0.mk (hbox); have n2_:=Aside0.mk ((by rw [hg]; exact (below_size (by repeat (first | (with_reducible first | exact HB.out | apply bA | apply bN | apply bD) | exact HB.out))) : w.heap.size≤gb108)); have n3_:=Aside0.mk ((by rw [hg]; exact (below_size (by repeat (first | (with_reducible first | exact HB.out | apply bA | apply bN | apply bD) | exact HB.out))) : w.heap.size≤gb108)); clear HB; have HB:=n0_; have BK108:=n1_; have GW108:=n2_; have GE108:=n3_; clear n0_ n1_ n2_ n3_; clear hb hbox hg) | ((with_reducible refine gate_callee (f:=22) rfl ?_); refine goesL_ (some 16) rfl rfl Tryd.func22 (by kernel_rfl) rfl #[.string a0] rfl (by (try simp only [List.map_toArray,List.map_cons,List.map_nil]); first | done | rfl | (simp only [List.length_drop,List.length_take]; rfl)) ?_; (with_reducible refine (segment_Name.calls a0 t109 _ A4.out).mono ?_); rintro e w49 ⟨rfl,hb⟩; refine ⟨_,rfl,?_⟩; have n0_:=Aside0.mk (blk_below (g:=gb108) (o := .cells #[.int .u8 a2_0, .int .u8 a2_1, .int .u8 a2_2, .int .u8 a2_3, .int .u8 a2_4] 25 (0,0)) (by (with_reducible repeat (first | refine kN ?_ _ | refine kD ?_ | refine kA ?_ _)); exact BK108.out) hb); have n1_:=Aside0.mk (below_step (by repeat (first | (with_reducible first | exact HB.out | apply bA | apply bN | apply bD | refine below_set ?_ GE108.out) | exact HB.out)) hb); clear BK108; clear HB; have BK108:=n0_; have HB:=n1_; clear n0_ n1_; (try clear hb); have hcz50_0:w49.cell? ⟨gb108,0,none⟩=some (.int .u8 a2_0):=blk_cell BK108.out 0; have hcz50_1:w49.cell? ⟨gb108,1,none⟩=some (.int .u8 a2_1):=blk_cell BK108.out 1; have hcz50_2:w49.cell? ⟨gb108,2,none⟩=some (.int .u8 a2_2):=blk_cell BK108.out 2; have hcz50_3:w49.cell? ⟨gb108,3,none⟩=some (.int .u8 a2_3):=blk_cell BK108.out 3; have hcz50_4:w49.cell? ⟨gb108,4,none⟩=some (.int .u8 a2_4):=blk_cell BK108.out 4; have hfz50_0:=blk_frozen BK108.out 0; have hfz50_1:=blk_frozen BK108.out 1; have hfz50_2:=blk_frozen BK108.out 2; have hfz50_3:=blk_frozen BK108.out 3; have hfz50_4:=blk_frozen BK108.out 4) | ((with_reducible refine gate_dst (N:=22) rfl ?_); refine Kd.R_lit (Kd.int .u8) _ 5 ?hg (N:=22) ?hd (xs:=([a2_0] : List Int)) (inner:=[.int .u8 a2_0]) (ok:=fun _=>True) (okp:=fun _=>True) ?hr ?hp (fun _ hk=>hk) trivial (Below.refl _ _) (Nat.le_refl _) (by simp) ?_; (case hd=>rfl); (case hg=>rfl); (case hr=>first | (go_simp; done) | (go_simp; rfl)); (case hp=>exact (Reps.one (show Kd.M (Kd.int .u8) _ _ _ a2_0 [.int .u8 a2_0] from rfl) (Reps.none _ _))); intro v111 w51 ho52 hb hg_ hnew_; clear hg_ hnew_; (first | rw [← Ny110.out] at ho52 | (simp only [Int.reduceToNat] at ho52; rw [← Ny110.out] at ho52)); have n0_:=Aside0.mk (Kd.R_lower ho52 (below_size (by repeat (first | (with_reducible first | exact HB.out | apply bA | apply bN | apply bD | refine below_set ?_ GE108.out) | exact HB.out)))); have n1_:=Aside0.mk (blk_below (g:=gb108) (o := .cells #[.int .u8 a2_0, .int .u8 a2_1, .int .u8 a2_2, .int .u8 a2_3, .int .u8 a2_4] 25 (0,0)) (by (with_reducible repeat (first | refine kN ?_ _ | refine kD ?_ | refine kA ?_ _)); exact BK108.out) hb); have n2_:=Aside0.mk (below_step (by repeat (first | (with_reducible first | exact HB.out | apply bA | apply bN | apply bD | refine below_set ?_ GE108.out) | exact HB.out)) hb); clear BK108; clear HB; have HO112:=n0_; have BK108:=n1_; have HB:=n2_; clear n0_ n1_ n2_; clear hb ho52; have hcv53:=own_string (P:=Tryd.prog) Tryd.underlying22 Tryd.underlying5 Tryd.underlying9 (Kd.own_of_R HO112.out)) | ((with_reducible refine gate_callee (f:=62) rfl ?_); refine goesL_ (some 24) rfl rfl Tryd.func62 (by kernel_rfl) rfl #[.string a0, .string (strOfNums y110)] rfl (by (try simp only [List.map_toArray,List.map_cons,List.map_nil]); first | done | rfl | (simp only [List.length_drop,List.length_take]; rfl)) ?_; (with_reducible refine (strings_Cut.calls a0 (strOfNums y110) t113 t114 false _ A37.out).mono ?_); rintro e w' ⟨rfl,⟨nd,rfl⟩⟩; refine ⟨_,rfl,?_⟩))
   go_ret2
   exact ⟨by first | rfl | (simp [errW_none,errW_some] <;> rfl) | (simp [*,errW_none,errW_some] <;> rfl),by repeat (first | (with_reducible first | exact HB.out | apply bA | apply bN | apply bD | refine below_set ?_ GE108.out) | exact HB.out)⟩

end Go.Proofs.YtljdbphojcglgaaDoor.PF
