import Derived.Test.YtljdbphojcglgaaDoorPFx0
import Derived.Test.YtljdbphojcglgaaDoorPFx3
import Derived.Test.YtljdbphojcglgaaDoorPFx5
import Derived.Test.YtljdbphojcglgaaDoorPFx6
import Derived.Maps.OwnOps
import Derived.Maps.StringElems
import Derived.Maps.Views
namespace Go.Proofs.YtljdbphojcglgaaDoor.PF
open Go.RowKit Go.Proofs.YtljdbphojcglgaaDoorW.PrintWords Go.Proofs.YtljdbphojcglgaaDoorW.PrintLast Go.Proofs.YtljdbphojcglgaaDoorW.PrintMore
set_option maxHeartbeats 8000000
set_option maxRecDepth 100000
attribute [local go_sem] max2_int min2_int max_two min_two max_three min_three max_four min_four
set_option linter.unusedVariables false
set_option linter.unusedSimpArgs false

/-! ### accept_Verdict: function 5 -/
def codeOf (c : Int) : ByteArray:=if c=0 then ⟨#[65,65]⟩ else if c=14 then ⟨#[65,69]⟩ else if c=12 then ⟨#[65,82]⟩ else if c=13 then ⟨#[65,82]⟩ else ⟨#[]⟩
/-- What stands ahead of the first byte 13. -/
def firstL (l : List Int) : List Int:=if 0≤Lib.indexByte (Lib.bytesOf l) 13 then l.take (Lib.indexByte (Lib.bytesOf l) 13).toNat else l
def accept_Verdict.f (k : Nat) (l0 : List Int) : Option (Int × Int × Int × Int × Int × ByteArray × ByteArray × ByteArray × ByteArray × ByteArray × ByteArray × ByteArray × ByteArray × ByteArray × ByteArray × ByteArray × Int) :=
 if l0.length < 4294967281 then
  (msh_Read.f k l0).bind fun d =>
   if d.2.2.2.2.2.2.2.2.2.2.2.2.2.2.2=0 then
    if 0≤Lib.indexByte (Lib.bytesOf (firstL l0)) 28 then some (0,0,0,0,0,⟨#[]⟩,⟨#[]⟩,⟨#[]⟩,⟨#[]⟩,⟨#[]⟩,⟨#[]⟩,⟨#[]⟩,⟨#[]⟩,⟨#[]⟩,⟨#[]⟩,⟨#[]⟩,10)
    else (msh_Check.f k d.1 d.2.1 d.2.2.1 d.2.2.2.1 d.2.2.2.2.1 d.2.2.2.2.2.1 d.2.2.2.2.2.2.1 d.2.2.2.2.2.2.2.1 d.2.2.2.2.2.2.2.2.1 d.2.2.2.2.2.2.2.2.2.1 d.2.2.2.2.2.2.2.2.2.2.1 d.2.2.2.2.2.2.2.2.2.2.2.1 d.2.2.2.2.2.2.2.2.2.2.2.2.1 d.2.2.2.2.2.2.2.2.2.2.2.2.2.1 d.2.2.2.2.2.2.2.2.2.2.2.2.2.2.1).bind fun c=>some (d.1,d.2.1,d.2.2.1,d.2.2.2.1,d.2.2.2.2.1,d.2.2.2.2.2.1,d.2.2.2.2.2.2.1,d.2.2.2.2.2.2.2.1,d.2.2.2.2.2.2.2.2.1,d.2.2.2.2.2.2.2.2.2.1,d.2.2.2.2.2.2.2.2.2.2.1,d.2.2.2.2.2.2.2.2.2.2.2.1,d.2.2.2.2.2.2.2.2.2.2.2.2.1,d.2.2.2.2.2.2.2.2.2.2.2.2.2.1,d.2.2.2.2.2.2.2.2.2.2.2.2.2.2.1,codeOf c,c)
   else some (0,0,0,0,0,⟨#[]⟩,⟨#[]⟩,⟨#[]⟩,⟨#[]⟩,⟨#[]⟩,⟨#[]⟩,⟨#[]⟩,⟨#[]⟩,⟨#[]⟩,⟨#[]⟩,⟨#[]⟩,d.2.2.2.2.2.2.2.2.2.2.2.2.2.2.2)
 else none
theorem accept_Verdict.mono : ∀ a0 k,LeO (accept_Verdict.f k a0) (accept_Verdict.f (k + 1) a0):=by
 intro a0 k
 unfold accept_Verdict.f
 repeat' first
   | (with_reducible exact msh_Read.mono _ _)
   | (with_reducible exact msh_Check.mono _ _ _ _ _ _ _ _ _ _ _ _ _ _ _ _)
   | (with_reducible exact LeO.refl _)
   | (with_reducible refine LeO.ite ?_ ?_)
   | (with_reducible refine LeO.bind ?_ (fun _=>?_))
theorem ix_range (l : List UInt8) (c : UInt8) : -1≤Lib.indexByte l c∧Lib.indexByte l c < (l.length : Int):=by
 by_cases h : c ∈ l
 ·obtain ⟨a,b,rfl,ha⟩:=first_hit h
  rw [indexByte_hit ha b]
  simp only [List.length_append,List.length_cons]
  omega
 ·rw [indexByte_miss h]
  omega
theorem first_le (l : List Int) : (firstL l).length≤l.length:=by
 unfold firstL
 by_cases h : 0≤Lib.indexByte (Lib.bytesOf l) 13
 ·rw [if_pos h,List.length_take]
  omega
 ·rw [if_neg h]
  omega
theorem first_C {w : World} {A0 : Option Addr} {l0 : List Int} (hr0 : Kd.C (Kd.int .u8) w A0 l0.length l0) : Kd.C (Kd.int .u8) w A0 (firstL l0).length (firstL l0):=by
 unfold firstL
 by_cases h : 0≤Lib.indexByte (Lib.bytesOf l0) 13
 ·rw [if_pos h]
  have h2:=(ix_range (Lib.bytesOf l0) 13).2
  have h3 : (Lib.bytesOf l0).length=l0.length:=by simp [Lib.bytesOf]
  exact C_take hr0 (by omega)
 ·rw [if_neg h]
  exact hr0
theorem index_tail (A0 : Option Addr) (c0 : Nat) (l0 : List Int) (b : Nat) (w : World) (hr0 : Kd.C (Kd.int .u8) w A0 l0.length l0) (hc0 : l0.length≤c0) (hc : w.cell? ⟨b,0,none⟩=some (.int .u8 13)) :
  Calls Tryd.prog 28 #[.slice A0 l0.length c0, .slice (some ⟨b,0,none⟩) 1 1] w fun e w'=>e = .returned (.int .i64 (Lib.indexByte (Lib.bytesOf l0) 13))∧∃ q,w'=w.drewN q:=by
 obtain ⟨ix,hix⟩ : ∃ ix,Lib.indexByte (Lib.bytesOf l0) 13=ix:=⟨_,rfl⟩
 have HX:=Lib.hid (show bytes_IndexByte.f l0 13=some ix from congrArg some hix)
 rw [hix]
 have HR:=Lib.hid hr0
 have HC:=Lib.hid hc0
 clear hr0 hc0 hix
 go_enter Tryd.func28,Tryd.ntmps28
 go_wp2_with fail
 refine (bytes_IndexByte.calls A0 c0 l0 13 ix _ (by repeat (first | exact HR.out | refine Kd.C_drewN ?_ _ | refine Kd.C_drew ?_)) HC.out HX.out).mono ?_
 rintro e w2 ⟨rfl,n2,rfl⟩
 go_wp2_with fail
 go_ret
 exact ⟨rfl,_,rfl⟩
theorem cut_tail (A0 : Option Addr) (c0 : Nat) (l0 : List Int) (b : Nat) (w : World) (hr0 : Kd.C (Kd.int .u8) w A0 l0.length l0) (hc0 : l0.length≤c0) (hl : l0.length < 4294967281) (hc : w.cell? ⟨b,0,none⟩=some (.int .u8 13)) :
  Calls Tryd.prog 12 #[.slice A0 l0.length c0, .slice (some ⟨b,0,none⟩) 1 1] w fun e w' => ∃ v2 fl,e = .returned (.tuple #[.slice A0 (firstL l0).length c0,v2, .bool fl])∧∃ q,w'=w.drewN q:=by
 have h2:=ix_range (Lib.bytesOf l0) 13
 have h3 : (Lib.bytesOf l0).length=l0.length:=by simp [Lib.bytesOf]
 refine (Tryd.bytes_Cut_of A0 (some ⟨b,0,none⟩) l0.length c0 1 1 (Lib.indexByte (Lib.bytesOf l0) 13) w hc0 h2.1 (by omega) (by omega) (index_tail A0 c0 l0 b w hr0 hc0 hc)).mono ?_
 rintro e w' ⟨rfl,hq⟩
 unfold Lib.cutV firstL
 by_cases h : 0≤Lib.indexByte (Lib.bytesOf l0) 13
 ·rw [if_pos h,if_pos h]
  refine ⟨Lib.fromV A0 l0.length c0 ((Lib.indexByte (Lib.bytesOf l0) 13).toNat + 1),true,?_,hq⟩
  rw [List.length_take,Nat.min_eq_left (by omega)]
 ·rw [if_neg h,if_neg h]
  exact ⟨_,_,rfl,hq⟩
open Go.Maps in
theorem ins_own {H : Type} {P : Program} (w : World) {ops : Array Oper} {rest : List Oper} {o : Oper} {a : Act} {Q : Exit→Act→World→Prop}
  (hg : o.guard=none) (m x v : Operand) (t : TypeId) (hop : o.op=Op.insert t m x v)
  (k e : TypeId) (K : Keyed P k) (ht : P.underlying t=some (.map k e)) (R : Value→Option (DataW H × List MemPlace)) (b n : Nat) (D : DataW H)
  (hm : a.eval m = .map (some b)) (hown : w.ownsMap P k R b n D) (hn : n < maxLen) (key val : Value) (kl : Lit) (hx : a.eval x=key) (hv : a.eval v=val) (hkey : keyOf P k key=some kl)
  (d : DataW H) (ps : List MemPlace) (hval : R val=some (d,ps))
  (hK : ∀ w',w'.ownsMap P k R b (n + 1) (D.put kl d)→w.grownBy w' (some b)→wpList P ops Q rest (a.put o.dst undef) w') :
  wpList P ops Q (o :: rest) a w:=by
 refine wpList_plain hg fun K' hK'=>?_
 obtain ⟨w',hrun,r1,r2⟩:=hown.update K ht hn hkey hval
 unfold Oper.wp
 simp [execOp,hop,hm,hx,hv,hrun,Result.andThen]
 exact hK' _ _ (hK w' r1 r2)
/-- The codes by what is wrong, as a datum. -/
def codesD : DataW Unit:=((((DataW.map []).put (.int .i64 0) (.lit (.string [65,65]))).put (.int .i64 14) (.lit (.string [65,69]))).put (.int .i64 12) (.lit (.string [65,82]))).put (.int .i64 13) (.lit (.string [65,82]))
section
attribute [local go_sem] run_makeMap
theorem answers_calls (w : World) : Calls Tryd.prog 15 #[] w fun e w'=>e = .returned (.map (some w.heap.size))∧(∃ n,w'.ownsMap Tryd.prog 28 (plainElem Tryd.prog 9) w.heap.size n codesD)∧Below w.heap.size w w':=by
 have K:=Go.Maps.int_keyed (P:=Tryd.prog) (k:=28) (q := .i64) Tryd.underlying28
 have ST : ∀ s : ByteArray,s.size≤2→plainElem (H:=Unit) Tryd.prog 9 (.string s)=some (.lit (.string s.data.toList),[]):=fun s hs=>plainElem_string Tryd.underlying9 (by unfold maxLen; omega)
 have HO0:=World.ownsMap_made (H:=Unit) w Tryd.prog 28 (plainElem Tryd.prog 9)
 have HB0:=(Below.refl w.heap.size w).alloc (Nat.le_refl _) (.map #[] 0)
 go_enter Tryd.func15,Tryd.ntmps15
 go_wp2_with (first
  | (refine ins_own _ rfl _ _ _ 47 rfl 28 9 K Tryd.underlying47 (plainElem Tryd.prog 9) w.heap.size _ _ rfl HO0 (by decide) (.int .i64 0) (.string ⟨#[65,65]⟩) _ rfl rfl (Go.Maps.keyOf_int_mk Tryd.underlying28 (by decide)) _ _ (ST _ (by decide)) ?_; intro w1 HO1 hg1; have HB1:=HB0.grown hg1 (by simp) (fun k e=>by cases e; simp))
  | (refine ins_own _ rfl _ _ _ 47 rfl 28 9 K Tryd.underlying47 (plainElem Tryd.prog 9) w.heap.size _ _ rfl HO1 (by decide) (.int .i64 14) (.string ⟨#[65,69]⟩) _ rfl rfl (Go.Maps.keyOf_int_mk Tryd.underlying28 (by decide)) _ _ (ST _ (by decide)) ?_; intro w2 HO2 hg2; have HB2:=HB1.grown hg2 HB1.size (fun k e=>by cases e; simp))
  | (refine ins_own _ rfl _ _ _ 47 rfl 28 9 K Tryd.underlying47 (plainElem Tryd.prog 9) w.heap.size _ _ rfl HO2 (by decide) (.int .i64 12) (.string ⟨#[65,82]⟩) _ rfl rfl (Go.Maps.keyOf_int_mk Tryd.underlying28 (by decide)) _ _ (ST _ (by decide)) ?_; intro w3 HO3 hg3; have HB3:=HB2.grown hg3 HB2.size (fun k e=>by cases e; simp))
  | (refine ins_own _ rfl _ _ _ 47 rfl 28 9 K Tryd.underlying47 (plainElem Tryd.prog 9) w.heap.size _ _ rfl HO3 (by decide) (.int .i64 13) (.string ⟨#[65,82]⟩) _ rfl rfl (Go.Maps.keyOf_int_mk Tryd.underlying28 (by decide)) _ _ (ST _ (by decide)) ?_; intro w4 HO4 hg4; have HB4:=HB3.grown hg4 HB3.size (fun k e=>by cases e; simp))
  | fail)
 go_ret
 exact ⟨rfl,⟨_,HO4⟩,HB4⟩
end
theorem codes_at (c : Int) : (codesD.atKey (.int .i64 c) (.lit (.string []))) = .lit (.string (codeOf c).data.toList):=by
 unfold codesD codeOf
 by_cases h13 : c=13
 ·subst h13
  rfl
 rw [Go.Maps.atKey_put_other (by simpa using h13)]
 by_cases h12 : c=12
 ·subst h12
  rfl
 rw [Go.Maps.atKey_put_other (by simpa using h12)]
 by_cases h14 : c=14
 ·subst h14
  rfl
 rw [Go.Maps.atKey_put_other (by simpa using h14)]
 by_cases h0 : c=0
 ·subst h0
  rfl
 rw [Go.Maps.atKey_put_other (by simpa using h0),if_neg h0,if_neg h14,if_neg h12,if_neg h13]
 rfl
theorem codes_look {w : World} {n b : Nat} (h : w.ownsMap Tryd.prog 28 (plainElem Tryd.prog 9) b n codesD) (c : Int) (hc : (Lit.int .i64 c).wf=true) : (Instr.lookup 47 (.map (some b)) (.int .i64 c) false).run Tryd.prog w = .ok (.string (codeOf c)) w:=by
 obtain ⟨v,ps,hrun,hv⟩:=h.lookup (Go.Maps.int_keyed Tryd.underlying28) Tryd.underlying47 (z := .string ⟨#[]⟩) (by kernel_rfl) (plainElem_string Tryd.underlying9 (s:=⟨#[]⟩) (by decide)) (Go.Maps.keyOf_int_mk Tryd.underlying28 hc)
 obtain ⟨s,rfl,hz,_⟩:=plainElem_string_inv Tryd.underlying9 hv
 have h1:=congrArg Prod.fst hz
 have h2:=(codes_at c).symm.trans h1
 simp only [DataW.lit.injEq,Lit.string.injEq] at h2
 have h3:codeOf c=s:=by
  apply ByteArray.ext
  exact Array.toList_inj.1 h2
 rw [h3]
 exact hrun
theorem look_run {P : Program} {o : Oper} {a : Act} {w : World} {m x : Operand} {t : TypeId} (hop : o.op=Op.lookup t m x false) {mv key v : Value} (hm : a.eval m=mv) (hx : a.eval x=key)
  (hrun : (Instr.lookup t mv key false).run P w = .ok v w) : (execOp a.eval o).run P w = .ok (.value v) w:=by
 unfold execOp
 simp [hop,hm,hx,hrun,Result.andThen]
theorem own_same {P : Program} {k : TypeId} {R : Value→Option (DataW Unit × List MemPlace)} {b n : Nat} {D : DataW Unit} {w W : World} (h : w.ownsMap P k R b n D) (e : W.heap[b]?=w.heap[b]?) : W.ownsMap P k R b n D:=by
 obtain ⟨es,clock,hb,r⟩:=h
 exact ⟨es,clock,e.trans hb,r⟩
theorem store_exec {P : Program} {o : Oper} {a : Act} {W : World} (t : TypeId) (p x : Operand) (ho : o.op = .store t p x) {g : Nat} {e : TypeId} {cur cs' : Array Value} {u : Value}
  (haddr : a.eval p = .pointer (some ⟨g,0,none⟩)) (hx : a.eval x=u) (hu : u.cells=cs') (hh : W.heap[g]?=some (.cells cur e (0,0))) (ht : (P.info? t).map (·.size)=some cs'.size) (hsz : cur.size=cs'.size) (h1 : ∀ q ∈ cs'.toList,q.oneCell'=true) :
  ∃ W',(execOp a.eval o).run P W = .ok .skip W'∧W'.heap[g]?=some (.cells cs' e (0,0))∧(∀ j,j ≠ g→W'.heap[j]?=W.heap[j]?)∧W'.heap.size=W.heap.size∧(∀ (B : Nat) (w : World),B≤g→Below B w W→Below B w W'):=by
 have hrun : (Instr.storeAt t (.pointer (some ⟨g,0,none⟩)) u).run P W = .ok () (W.setCells g 0 cs'.toList) :=
  run_store_run t u cs'.toList hh (by rw [hu]) (by rw [ht,Array.length_toList]) (by rw [Array.length_toList]; omega) h1
 refine ⟨W.setCells g 0 cs'.toList,?_,?_⟩
 ·unfold execOp
  simp only [ho,haddr,hx,Sem.run_bind,Sem.run_pure,Result.andThen_ok,hrun]
 obtain ⟨cur',r1,r2,r3⟩:=setCells_row cs'.toList 0 W cur hh (by rw [Array.length_toList]; omega)
 obtain ⟨s1,s2,s3,s4⟩:=setCells_same g cs'.toList 0 W
 have hc:cur'=cs':=by
  apply Array.toList_inj.1
  rw [r3,List.take_zero,List.nil_append,Nat.zero_add,List.drop_of_length_le (by rw [Array.length_toList,Array.length_toList]; omega),List.append_nil]
 rw [hc] at r1
 exact ⟨r1,fun j hj=>setCells_far _ _ j hj,s4,fun B w hB hb=>hb.trans ⟨s1,s2,s3,by rw [s4]; exact Nat.le_refl _,fun k hk=>setCells_far _ _ k (by omega)⟩⟩
theorem store_skip {P : Program} {ops : Array Oper} {o : Oper} {a : Act} {W : World} {K : Act→World→Prop} {Q : Exit→Act→World→Prop} (hw : Region.wanted o (yielded ops a.tmps)=true) (hN : o.dst=none) (t : TypeId) (p x : Operand) (ho : o.op = .store t p x) {g : Nat} {e : TypeId} {cur cs' : Array Value} {u : Value}
  (haddr : a.eval p = .pointer (some ⟨g,0,none⟩)) (hx : a.eval x=u) (hu : u.cells=cs') (hh : W.heap[g]?=some (.cells cur e (0,0))) (ht : (P.info? t).map (·.size)=some cs'.size) (hsz : cur.size=cs'.size) (h1 : ∀ q ∈ cs'.toList,q.oneCell'=true)
  (h : ∀ W',W'.heap[g]?=some (.cells cs' e (0,0))→(∀ j,j ≠ g→W'.heap[j]?=W.heap[j]?)→W'.heap.size=W.heap.size→(∀ (B : Nat) (w : World),B≤g→Below B w W→Below B w W')→K a W') : if Region.wanted o (yielded ops a.tmps)=true then Oper.wp P o a W K Q else K (a.put none undef) W:=by
 obtain ⟨W9,hrun,p1,p2,p3,p4⟩:=store_exec t p x ho haddr hx hu hh ht hsz h1
 exact skip_ hw hN hrun (h W9 p1 p2 p3 p4)
section
variable {P : Program} {ops : Array Oper} {Q : Exit→Act→World→Prop} {md : Region.Mode}
theorem last_more {S S' : World→Prop} (hi : ∀ w,S' w→S w) : ∀ (fuel : Nat) (l : Array Bool) (a : Act) (w : World),S' w→wpAnyLast P md ops Q S' [] fuel l a w→wpAnyLast P md ops Q S [] fuel l a w
 | 0,_,_,_,_,h=>h
 | fuel + 1,_,_,_,hs,h=>⟨h.1,fun i hm=>wpOp_mono (fun a' w' h'=>⟨fun _ _=>hi _ (h'.1 (by simp) hs),last_more hi fuel _ a' w' (h'.1 (by simp) hs) h'.2⟩) (h.2 i hm)⟩
end
theorem look_ {P : Program} (w : World) {ops : Array Oper} {rest : List Oper} {o : Oper} {a : Act} {Q : Exit→Act→World→Prop}
  (hg : o.guard=none) (m x : Operand) (t : TypeId) (hop : o.op=Op.lookup t m x false) {mv key v : Value} (hm : a.eval m=mv) (hx : a.eval x=key)
  (hrun : (Instr.lookup t mv key false).run P w = .ok v w) (hK : wpList P ops Q rest (a.put o.dst v) w) : wpList P ops Q (o :: rest) a w:=by
 refine wpList_plain hg fun K' hK'=>?_
 unfold Oper.wp
 simp [execOp,hop,hm,hx,hrun,Result.andThen]
 exact hK' _ _ hK
theorem tail_cell (w1 : World) (o : Obj) : ((w1.alloc o).alloc (.cells #[.int .u8 13] 5)).cell? ⟨w1.heap.size + 1,0,none⟩=some (.int .u8 13):=by
 have h:=cell_of_cells (heap_new (w1.alloc o) (.cells #[.int .u8 13] 5)) 0
 rw [World.size_alloc] at h
 exact h
theorem verdict_loads {W : World} {g : Nat} {cs : Array Value} (tmps : Array Value) (p u v : Tmp) (hp : tmps.getD p undef = .pointer (some ⟨g,0,none⟩)) (hg : W.heap[g]?=some (.cells cs 27 (0,0))) (hsz : cs.size=15) {fn : Func} (h : fn.results=#[.cell p 27, .tmp u, .tmp v]) :
  (results fn tmps).run Tryd.prog W = .ok (.tuple #[.agg cs,tmps.getD u undef,tmps.getD v undef]) W:=by
 have hp' : tmps[p]?.getD undef = .pointer (some ⟨g,0,none⟩):=by simpa using hp
 have h1:=run_loadVar_row (P:=Tryd.prog) W g 27 27 cs (0,0) _ hg Tryd.underlying27 rfl (by rw [hsz]; kernel_rfl)
 simp [results,h,hp',asAddr,h1]
theorem check_range {k : Nat} {a0_0 a0_1 a0_2 a0_3 a0_4 : Int} {a0_5 a0_6 a0_7 a0_8 a0_9 a0_10 a0_11 a0_12 a0_13 a0_14 : ByteArray} {c : Int} (h : msh_Check.f k a0_0 a0_1 a0_2 a0_3 a0_4 a0_5 a0_6 a0_7 a0_8 a0_9 a0_10 a0_11 a0_12 a0_13 a0_14=some c) : 0≤c∧c≤14:=by
 unfold msh_Check.f at h
 split at h
 ·cases h; decide
 split at h
 ·cases h; decide
 split at h
 ·cases h; decide
 obtain ⟨v,_,h⟩:=Option.bind_eq_some_iff.1 h
 obtain ⟨t,_,h⟩:=Option.bind_eq_some_iff.1 h
 split at h
 ·obtain ⟨p,_,h⟩:=Option.bind_eq_some_iff.1 h
  obtain ⟨u,_,h⟩:=Option.bind_eq_some_iff.1 h
  split at h
  ·cases h; decide
  ·cases h; decide
 ·cases h; decide
theorem accept_Verdict.calls (k : Nat) (A0 : Option Addr) (c0 : Nat) (l0 : List Int) (r1 r2 r3 r4 r5 : Int) (r6 r7 r8 r9 r10 r11 r12 r13 r14 r15 : ByteArray) (r16 : ByteArray) (r17 : Int) (w : World) (hr0 : Kd.C (Kd.int .u8) w A0 l0.length l0) (hc0 : l0.length≤c0) (h : accept_Verdict.f k l0=some (r1,r2,r3,r4,r5,r6,r7,r8,r9,r10,r11,r12,r13,r14,r15,r16,r17)) (hG : GlobOK w) :
  Calls Tryd.prog 5 #[.slice A0 l0.length c0] w fun e w'=>e = .returned (.tuple #[.agg #[.int .u8 r1, .int .u8 r2, .int .u8 r3, .int .u8 r4, .int .u8 r5, .string r6, .string r7, .string r8, .string r9, .string r10, .string r11, .string r12, .string r13, .string r14, .string r15], .string r16, .int .i64 r17])∧Below w.heap.size w w':=by
 have HG:=Lib.hid hG
 have HR:=Lib.hid hr0
 have HC:=Lib.hid hc0
 clear hG hr0 hc0
 unfold accept_Verdict.f at h
 by_cases hl : l0.length < 4294967281
 case neg=>rw [if_neg hl] at h; cases h
 rw [if_pos hl] at h
 have HL:=Lib.hid hl
 clear hl
 obtain ⟨⟨x1,x2,x3,x4,x5,x6,x7,x8,x9,x10,x11,x12,x13,x14,x15,er⟩,hm,h1⟩:=Option.bind_eq_some_iff.1 h
 dsimp only at h1
 have HM:=Lib.hid hm
 clear h hm
 by_cases her : er=0
 ·subst her
  rw [if_pos rfl] at h1
  obtain ⟨ix,hix⟩ : ∃ ix,Lib.indexByte (Lib.bytesOf (firstL l0)) 28=ix:=⟨_,rfl⟩
  rw [hix] at h1
  have HX:=Lib.hid (show bytes_IndexByte.f (firstL l0) 28=some ix from congrArg some hix)
  clear hix
  by_cases hpos : 0≤ix
  ·rw [if_pos hpos] at h1
   simp only [Option.some.injEq,Prod.mk.injEq] at h1
   obtain ⟨rfl,rfl,rfl,rfl,rfl,rfl,rfl,rfl,rfl,rfl,rfl,rfl,rfl,rfl,rfl,rfl,rfl⟩:=h1
   have hd1:decide (0≤ix)=true:=decide_eq_true hpos
   have hd2:decide (ix ≥ 0)=true:=decide_eq_true hpos
   go_enter Tryd.func5,Tryd.ntmps5
   go_wp2_with fail
   with_reducible refine (msh_Read.calls k A0 c0 l0 x1 x2 x3 x4 x5 x6 x7 x8 x9 x10 x11 x12 x13 x14 x15 0 _ (Kd.C_below HR.out ((Below.refl _ w).alloc (Nat.le_refl _) _)) HC.out HM.out).mono ?_
   rintro e w1 ⟨rfl,hb1⟩
   have Z1:=Lib.hid (blk_below (heap_new w (.cells (headCells 0 0 0 0 0 ⟨#[]⟩ ⟨#[]⟩ ⟨#[]⟩ ⟨#[]⟩ ⟨#[]⟩ ⟨#[]⟩ ⟨#[]⟩ ⟨#[]⟩ ⟨#[]⟩ ⟨#[]⟩) 27)) hb1)
   have B1:=Lib.hid (below_step ((Below.refl _ w).alloc (Nat.le_refl _) (.cells (headCells 0 0 0 0 0 ⟨#[]⟩ ⟨#[]⟩ ⟨#[]⟩ ⟨#[]⟩ ⟨#[]⟩ ⟨#[]⟩ ⟨#[]⟩ ⟨#[]⟩ ⟨#[]⟩ ⟨#[]⟩) 27)) hb1)
   clear hb1
   go_wp2_with fail
   have B2:=Lib.hid (B1.out.alloc B1.out.size (.cells (headCells x1 x2 x3 x4 x5 x6 x7 x8 x9 x10 x11 x12 x13 x14 x15) 27))
   have B3:=Lib.hid (B2.out.alloc B2.out.size (.cells #[.int .u8 13] 5))
   refine (cut_tail A0 c0 l0 (w1.heap.size + 1) _ (Kd.C_below HR.out B3.out) HC.out HL.out (tail_cell w1 _)).mono ?_
   rintro e w3 ⟨v2,fl,rfl,n3,h3⟩
   have Z3:=Lib.hid (show w3.heap[w.heap.size]?=some (.cells (headCells 0 0 0 0 0 ⟨#[]⟩ ⟨#[]⟩ ⟨#[]⟩ ⟨#[]⟩ ⟨#[]⟩ ⟨#[]⟩ ⟨#[]⟩ ⟨#[]⟩ ⟨#[]⟩ ⟨#[]⟩) 27 (0,0)) by rw [h3]; exact blk_drewN (heap_old _ (heap_old _ Z1.out)) n3)
   have S3:=Lib.hid (show w3.heap[w1.heap.size]?=some (.cells (headCells x1 x2 x3 x4 x5 x6 x7 x8 x9 x10 x11 x12 x13 x14 x15) 27 (0,0)) by rw [h3]; exact blk_drewN (heap_old _ (heap_new w1 _)) n3)
   have B4:=Lib.hid (show Below w.heap.size w w3 by rw [h3]; exact pw_below_drewN B3.out n3)
   have HNE:=Lib.hid (Nat.ne_of_lt (blk_lt Z1.out))
   clear h3 B2 B3 B1 Z1
   go_wp2_with fail
   refine (bytes_IndexByte.calls A0 c0 (firstL l0) 28 ix _ (first_C (Kd.C_below HR.out B4.out)) (Nat.le_trans (first_le l0) HC.out) HX.out).mono ?_
   rintro e w4 ⟨rfl,n4,h4⟩
   have Z4:=Lib.hid (show w4.heap[w.heap.size]?=some (.cells (headCells 0 0 0 0 0 ⟨#[]⟩ ⟨#[]⟩ ⟨#[]⟩ ⟨#[]⟩ ⟨#[]⟩ ⟨#[]⟩ ⟨#[]⟩ ⟨#[]⟩ ⟨#[]⟩ ⟨#[]⟩) 27 (0,0)) by rw [h4]; exact blk_drewN Z3.out n4)
   have S4:=Lib.hid (show w4.heap[w1.heap.size]?=some (.cells (headCells x1 x2 x3 x4 x5 x6 x7 x8 x9 x10 x11 x12 x13 x14 x15) 27 (0,0)) by rw [h4]; exact blk_drewN S3.out n4)
   have B5:=Lib.hid (show Below w.heap.size w w4 by rw [h4]; exact pw_below_drewN B4.out n4)
   clear h4 Z3 S3 B4
   have B4:=B5
   clear B5
   go_wp2_with (first
    | (refine gate_store (t:=27) rfl ?_; refine store_whole rfl rfl 27 (.tmp 2) _ rfl (g:=w.heap.size) (e:=27) (cs':=headCells 0 0 0 0 0 ⟨#[]⟩ ⟨#[]⟩ ⟨#[]⟩ ⟨#[]⟩ ⟨#[]⟩ ⟨#[]⟩ ⟨#[]⟩ ⟨#[]⟩ ⟨#[]⟩ ⟨#[]⟩) rfl rfl rfl Z4.out (by kernel_rfl) rfl head_one ?_; intro W9 p1 p2 p3 p4)
    | fail)
   exact bodyPost_ret (verdict_loads _ 2 3 4 rfl p1 rfl rfl) rfl ⟨rfl,p4 _ _ (Nat.le_refl _) B4.out⟩
  ·rw [if_neg hpos] at h1
   obtain ⟨c,hck,h2⟩:=Option.bind_eq_some_iff.1 h1
   simp only [Option.some.injEq,Prod.mk.injEq] at h2
   obtain ⟨rfl,rfl,rfl,rfl,rfl,rfl,rfl,rfl,rfl,rfl,rfl,rfl,rfl,rfl,rfl,rfl,rfl⟩:=h2
   have hcr:=check_range hck
   have HK:=Lib.hid hck
   have HCW:=Lib.hid (show (Lit.int .i64 c).wf=true by simp [Lit.wf,IntKind.min,IntKind.max,IntKind.signed,IntKind.bits]; omega)
   have hd1:decide (0≤ix)=false:=decide_eq_false hpos
   have hd2:decide (ix ≥ 0)=false:=decide_eq_false hpos
   clear hcr hck h1
   go_enter Tryd.func5,Tryd.ntmps5
   go_wp2_with fail
   with_reducible refine (msh_Read.calls k A0 c0 l0 x1 x2 x3 x4 x5 x6 x7 x8 x9 x10 x11 x12 x13 x14 x15 0 _ (Kd.C_below HR.out ((Below.refl _ w).alloc (Nat.le_refl _) _)) HC.out HM.out).mono ?_
   rintro e w1 ⟨rfl,hb1⟩
   have Z1:=Lib.hid (blk_below (heap_new w (.cells (headCells 0 0 0 0 0 ⟨#[]⟩ ⟨#[]⟩ ⟨#[]⟩ ⟨#[]⟩ ⟨#[]⟩ ⟨#[]⟩ ⟨#[]⟩ ⟨#[]⟩ ⟨#[]⟩ ⟨#[]⟩) 27)) hb1)
   have B1:=Lib.hid (below_step ((Below.refl _ w).alloc (Nat.le_refl _) (.cells (headCells 0 0 0 0 0 ⟨#[]⟩ ⟨#[]⟩ ⟨#[]⟩ ⟨#[]⟩ ⟨#[]⟩ ⟨#[]⟩ ⟨#[]⟩ ⟨#[]⟩ ⟨#[]⟩ ⟨#[]⟩) 27)) hb1)
   clear hb1
   go_wp2_with fail
   have B2:=Lib.hid (B1.out.alloc B1.out.size (.cells (headCells x1 x2 x3 x4 x5 x6 x7 x8 x9 x10 x11 x12 x13 x14 x15) 27))
   have B3:=Lib.hid (B2.out.alloc B2.out.size (.cells #[.int .u8 13] 5))
   refine (cut_tail A0 c0 l0 (w1.heap.size + 1) _ (Kd.C_below HR.out B3.out) HC.out HL.out (tail_cell w1 _)).mono ?_
   rintro e w3 ⟨v2,fl,rfl,n3,h3⟩
   have Z3:=Lib.hid (show w3.heap[w.heap.size]?=some (.cells (headCells 0 0 0 0 0 ⟨#[]⟩ ⟨#[]⟩ ⟨#[]⟩ ⟨#[]⟩ ⟨#[]⟩ ⟨#[]⟩ ⟨#[]⟩ ⟨#[]⟩ ⟨#[]⟩ ⟨#[]⟩) 27 (0,0)) by rw [h3]; exact blk_drewN (heap_old _ (heap_old _ Z1.out)) n3)
   have S3:=Lib.hid (show w3.heap[w1.heap.size]?=some (.cells (headCells x1 x2 x3 x4 x5 x6 x7 x8 x9 x10 x11 x12 x13 x14 x15) 27 (0,0)) by rw [h3]; exact blk_drewN (heap_old _ (heap_new w1 _)) n3)
   have B4:=Lib.hid (show Below w.heap.size w w3 by rw [h3]; exact pw_below_drewN B3.out n3)
   have HNE:=Lib.hid (Nat.ne_of_lt (blk_lt Z1.out))
   clear h3 B2 B3 B1 Z1
   go_wp2_with fail
   refine (bytes_IndexByte.calls A0 c0 (firstL l0) 28 ix _ (first_C (Kd.C_below HR.out B4.out)) (Nat.le_trans (first_le l0) HC.out) HX.out).mono ?_
   rintro e w4 ⟨rfl,n4,h4⟩
   have Z4:=Lib.hid (show w4.heap[w.heap.size]?=some (.cells (headCells 0 0 0 0 0 ⟨#[]⟩ ⟨#[]⟩ ⟨#[]⟩ ⟨#[]⟩ ⟨#[]⟩ ⟨#[]⟩ ⟨#[]⟩ ⟨#[]⟩ ⟨#[]⟩ ⟨#[]⟩) 27 (0,0)) by rw [h4]; exact blk_drewN Z3.out n4)
   have S4:=Lib.hid (show w4.heap[w1.heap.size]?=some (.cells (headCells x1 x2 x3 x4 x5 x6 x7 x8 x9 x10 x11 x12 x13 x14 x15) 27 (0,0)) by rw [h4]; exact blk_drewN S3.out n4)
   have B5:=Lib.hid (show Below w.heap.size w w4 by rw [h4]; exact pw_below_drewN B4.out n4)
   clear h4 Z3 S3 B4
   have B4:=B5
   clear B5
   have e0:=cell_of_cells S4.out 0
   have e1:=cell_of_cells S4.out 1
   have e2:=cell_of_cells S4.out 2
   have e3:=cell_of_cells S4.out 3
   have e4:=cell_of_cells S4.out 4
   have e5:=cell_of_cells S4.out 5
   have e6:=cell_of_cells S4.out 6
   have e7:=cell_of_cells S4.out 7
   have e8:=cell_of_cells S4.out 8
   have e9:=cell_of_cells S4.out 9
   have e10:=cell_of_cells S4.out 10
   have e11:=cell_of_cells S4.out 11
   have e12:=cell_of_cells S4.out 12
   have e13:=cell_of_cells S4.out 13
   have e14:=cell_of_cells S4.out 14
   simp only [headCells,List.getElem?_toArray,List.getElem?_cons_zero,List.getElem?_cons_succ] at e0 e1 e2 e3 e4 e5 e6 e7 e8 e9 e10 e11 e12 e13 e14
   go_wp2_with fail
   refine (msh_Check.calls k x1 x2 x3 x4 x5 x6 x7 x8 x9 x10 x11 x12 x13 x14 x15 c _ HK.out (glob_below HG.out B4.out)).mono ?_
   rintro e w5 ⟨rfl,hb5⟩
   have Z5:=Lib.hid (blk_below Z4.out hb5)
   have S5:=Lib.hid (blk_below S4.out hb5)
   have B5:=Lib.hid (below_step B4.out hb5)
   clear hb5 e0 e1 e2 e3 e4 e5 e6 e7 e8 e9 e10 e11 e12 e13 e14 Z4 S4 B4
   have e0:=cell_of_cells S5.out 0
   have e1:=cell_of_cells S5.out 1
   have e2:=cell_of_cells S5.out 2
   have e3:=cell_of_cells S5.out 3
   have e4:=cell_of_cells S5.out 4
   have e5:=cell_of_cells S5.out 5
   have e6:=cell_of_cells S5.out 6
   have e7:=cell_of_cells S5.out 7
   have e8:=cell_of_cells S5.out 8
   have e9:=cell_of_cells S5.out 9
   have e10:=cell_of_cells S5.out 10
   have e11:=cell_of_cells S5.out 11
   have e12:=cell_of_cells S5.out 12
   have e13:=cell_of_cells S5.out 13
   have e14:=cell_of_cells S5.out 14
   simp only [headCells,List.getElem?_toArray,List.getElem?_cons_zero,List.getElem?_cons_succ] at e0 e1 e2 e3 e4 e5 e6 e7 e8 e9 e10 e11 e12 e13 e14
   go_wp2_with fail
   refine start_ (n:=8) (S:=fun w'=>w'.heap[w1.heap.size]?=some (.cells (headCells x1 x2 x3 x4 x5 x6 x7 x8 x9 x10 x11 x12 x13 x14 x15) 27 (0,0))) (ds:=[]) #[false,false,false,false,false,false,false,false] (by kernel_rfl) rfl rfl (blk_drew S5.out) (fun hHeld=>?_)
   refine pure_ (i:=2) (N:=some 34) (v:=?_) (a':=?_) #[false,false,true,false,false,false,false,false] rfl rfl (by kernel_rfl) (fun _ _ _ h=>h) (Or.inl ⟨by rfl,?_⟩) ?_ ?_
   rotate_left
   ·intro w'
    go_simp
    with_reducible rfl
   rotate_left
   ·simp only [Act.put,sA_,s0_,s1_]
    rfl
   refine pure_ (i:=4) (N:=some 36) (v:=?_) (a':=?_) #[false,false,true,false,true,false,false,false] rfl rfl (by kernel_rfl) (fun _ _ _ h=>h) (Or.inl ⟨by rfl,?_⟩) ?_ ?_
   rotate_left
   ·intro w'
    go_simp
    with_reducible rfl
   rotate_left
   ·simp only [Act.put,sA_,s0_,s1_]
    rfl
   refine take_ (i:=0) (N:=some 32) (v:=?_) (a':=?_) #[true,false,true,false,true,false,false,false] rfl rfl (by kernel_rfl) (fun _ _ _ h=>h) (Or.inl ⟨by rfl,?_⟩) hHeld ?_ ?_
   rotate_left
   ·intro w' hs
    have e0:=cell_of_cells hs 0
    have e1:=cell_of_cells hs 1
    have e2:=cell_of_cells hs 2
    have e3:=cell_of_cells hs 3
    have e4:=cell_of_cells hs 4
    have e5:=cell_of_cells hs 5
    have e6:=cell_of_cells hs 6
    have e7:=cell_of_cells hs 7
    have e8:=cell_of_cells hs 8
    have e9:=cell_of_cells hs 9
    have e10:=cell_of_cells hs 10
    have e11:=cell_of_cells hs 11
    have e12:=cell_of_cells hs 12
    have e13:=cell_of_cells hs 13
    have e14:=cell_of_cells hs 14
    simp only [headCells,List.getElem?_toArray,List.getElem?_cons_zero,List.getElem?_cons_succ] at e0 e1 e2 e3 e4 e5 e6 e7 e8 e9 e10 e11 e12 e13 e14
    go_simp
    with_reducible rfl
   rotate_left
   ·simp only [Act.put,sA_,s0_,s1_]
    rfl
   refine one_ (i:=1) (N:=some 33) #[true,true,true,false,true,false,false,false] rfl rfl (by kernel_rfl) (by decide) (fun K hK=>?_)
   refine goes_ Tryd.func15 (by kernel_rfl) rfl #[] (by rfl) rfl rfl (by (try simp only [List.map_toArray,List.map_cons,List.map_nil]); first | done | rfl) ?_
   refine (answers_calls _).mono ?_
   rintro e w6 ⟨rfl,⟨nm,hown⟩,hb6⟩
   have Z6:=Lib.hid (blk_below (blk_drew Z5.out) hb6)
   have B6:=Lib.hid (below_step (below_drew1 B5.out) hb6)
   have hne:w.heap.size ≠ w5.heap.size:=Nat.ne_of_lt (blk_lt Z5.out)
   have hne1:w.heap.size ≠ w1.heap.size:=HNE.out
   refine ⟨_,rfl,?_⟩
   refine hK.out _ _ (blk_below hHeld hb6) (fun hHeld=>?_)
   clear hK K
   refine norm_ (a':=?_) ?_ ?_
   rotate_left
   ·show Act.put _ (some 33) _=_
    simp only [Act.put,sA_,s0_,s1_]
    rfl
   refine last_more (S':=fun w'=>w'.heap[w1.heap.size]?=some (.cells (headCells x1 x2 x3 x4 x5 x6 x7 x8 x9 x10 x11 x12 x13 x14 x15) 27 (0,0))∧∃ n,w'.ownsMap Tryd.prog 28 (plainElem Tryd.prog 9) w5.heap.size n codesD) (fun _ h=>h.1) _ _ _ _ ⟨hHeld,nm,hown⟩ ?_
   refine take_ (i:=3) (N:=some 35) (v := .string (codeOf c)) #[true,true,true,true,true,false,false,false] rfl rfl (by kernel_rfl) (fun _ _ _ h=>h) (Or.inl ⟨by rfl,?_⟩) ⟨hHeld,nm,hown⟩ rfl ?_
   ·rintro w' ⟨_,n,ho⟩
    exact look_run rfl rfl rfl (codes_look ho c HCW.out)
   refine norm_ (a':=?_) ?_ ?_
   rotate_left
   ·show Act.put _ (some 35) _=_
    simp only [Act.put,sA_,s0_,s1_]
    rfl
   refine one_ (i:=5) (N:=none) #[true,true,true,true,true,true,false,false] rfl rfl (by kernel_rfl) (by decide) (fun K hK=>?_)
   refine store_skip (by rfl) rfl 27 (.tmp 2) (.tmp 32) rfl (g:=w.heap.size) (e:=27) (cs':=headCells x1 x2 x3 x4 x5 x6 x7 x8 x9 x10 x11 x12 x13 x14 x15) rfl rfl rfl Z6.out (by kernel_rfl) rfl head_one ?_
   intro W9 p1 p2 p3 p4
   refine hK.out _ _ ⟨(p2 _ hne1.symm).trans hHeld,nm,own_same hown (p2 _ hne.symm)⟩ (fun hHeld=>?_)
   clear hK K
   refine pure_ (i:=6) (N:=some 3) (v:=?_) (a':=?_) #[true,true,true,true,true,true,true,false] rfl rfl (by kernel_rfl) (fun _ _ _ h=>h) (Or.inl ⟨by rfl,?_⟩) ?_ ?_
   rotate_left
   ·intro w'
    go_simp
    with_reducible rfl
   rotate_left
   ·simp only [Act.put,sA_,s0_,s1_]
    rfl
   refine pure_ (i:=7) (N:=some 4) (v:=?_) (a':=?_) #[true,true,true,true,true,true,true,true] rfl rfl (by kernel_rfl) (fun _ _ _ h=>h) (Or.inl ⟨by rfl,?_⟩) ?_ ?_
   rotate_left
   ·intro w'
    go_simp
    with_reducible rfl
   rotate_left
   ·simp only [Act.put,sA_,s0_,s1_]
    rfl
   refine done_ (by kernel_rfl) ?_
   go_wp2_with fail
   exact bodyPost_ret (verdict_loads _ 2 3 4 rfl p1 rfl rfl) rfl ⟨rfl,p4 _ _ (Nat.le_refl _) B6.out⟩
 ·rw [if_neg her] at h1
  have hne : (er == 0)=false:=beq_eq_false_iff_ne.2 her
  have hne2 : (er != 0)=true:=bne_iff_ne.2 her
  simp only [Option.some.injEq,Prod.mk.injEq] at h1
  obtain ⟨rfl,rfl,rfl,rfl,rfl,rfl,rfl,rfl,rfl,rfl,rfl,rfl,rfl,rfl,rfl,rfl,rfl⟩:=h1
  go_enter Tryd.func5,Tryd.ntmps5
  go_wp2_with fail
  with_reducible refine (msh_Read.calls k A0 c0 l0 x1 x2 x3 x4 x5 x6 x7 x8 x9 x10 x11 x12 x13 x14 x15 er _ (Kd.C_below HR.out ((Below.refl _ w).alloc (Nat.le_refl _) _)) HC.out HM.out).mono ?_
  rintro e w1 ⟨rfl,hb1⟩
  have Z1:=Lib.hid (blk_below (heap_new w (.cells (headCells 0 0 0 0 0 ⟨#[]⟩ ⟨#[]⟩ ⟨#[]⟩ ⟨#[]⟩ ⟨#[]⟩ ⟨#[]⟩ ⟨#[]⟩ ⟨#[]⟩ ⟨#[]⟩ ⟨#[]⟩) 27)) hb1)
  have B1:=Lib.hid (below_step ((Below.refl _ w).alloc (Nat.le_refl _) (.cells (headCells 0 0 0 0 0 ⟨#[]⟩ ⟨#[]⟩ ⟨#[]⟩ ⟨#[]⟩ ⟨#[]⟩ ⟨#[]⟩ ⟨#[]⟩ ⟨#[]⟩ ⟨#[]⟩ ⟨#[]⟩) 27)) hb1)
  clear hb1
  go_wp2_with (first
   | (refine gate_store (t:=27) rfl ?_; refine store_whole rfl rfl 27 (.tmp 2) _ rfl (g:=w.heap.size) (e:=27) (cs':=headCells 0 0 0 0 0 ⟨#[]⟩ ⟨#[]⟩ ⟨#[]⟩ ⟨#[]⟩ ⟨#[]⟩ ⟨#[]⟩ ⟨#[]⟩ ⟨#[]⟩ ⟨#[]⟩ ⟨#[]⟩) rfl rfl rfl (heap_old _ Z1.out) (by kernel_rfl) rfl head_one ?_; intro W9 p1 p2 p3 p4)
   | fail)
  exact bodyPost_ret (verdict_loads _ 2 3 4 rfl p1 rfl rfl) rfl ⟨rfl,p4 _ _ (Nat.le_refl _) (B1.out.alloc B1.out.size _)⟩


end Go.Proofs.YtljdbphojcglgaaDoor.PF
