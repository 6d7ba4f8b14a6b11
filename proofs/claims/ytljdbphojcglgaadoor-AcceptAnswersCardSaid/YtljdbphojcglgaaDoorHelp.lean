/- Small lemmas that the contracts of this seat's functions use: rows of bytes that the code has just laid; no conditions. -/
import Derived.Test.YtljdbphojcglgaaDoorV
import Derived.Lib.SlBytesConst
import Derived.Lib.Hide
import Derived.Shelf.Bytes.SlIndexAt
import Derived.Lib.ConvBytes
import Derived.Lib.SplitLaws
import Derived.RangeFuncNested
import Derived.RangeFuncBound
import Derived.RangeFuncCalls
import Derived.RangeFuncLeaves
import Derived.Shelf.Abstract
import Derived.Shelf.RegionOpen
import Derived.WalkKit
import Derived.OwnWalkIn
import Derived.TacticsInMore
import Derived.LoopNIn
import Derived.LoopIn
import Derived.Test.YtljdbphojcglgaaDoorCut
namespace Go.Proofs.YtljdbphojcglgaaDoor
open Go Go.RowKit Go.Proofs.YtljdbphojcglgaaDoorW.PrintWords Go.Proofs.YtljdbphojcglgaaDoorW.PrintLast Go.Proofs.YtljdbphojcglgaaDoorW.PrintMore

/-- A text of some bytes. -/
def strOf (l : List UInt8) : ByteArray:=⟨l.toArray⟩
theorem indexByte_miss {c : UInt8} {l : List UInt8} (h : c ∉ l) : Lib.indexByte l c = -1:=by
  induction l with
  | nil=>rfl
  | cons x r ih =>
    have hx : (x == c)=false:=beq_eq_false_iff_ne.2 (fun e=>h (by simp [e]))
    unfold Lib.indexByte
    rw [hx,ih (fun e=>h (List.mem_cons_of_mem _ e))]; rfl
theorem indexByte_hit {c : UInt8} {a : List UInt8} (h : c ∉ a) (b : List UInt8) : Lib.indexByte (a ++ c :: b) c=a.length:=by
  induction a with
  | nil=>simp [Lib.indexByte]
  | cons x a ih =>
    have hx : (x == c)=false:=beq_eq_false_iff_ne.2 (fun e=>h (by simp [e]))
    rw [List.cons_append]
    unfold Lib.indexByte
    rw [hx,ih (fun e=>h (List.mem_cons_of_mem _ e))]
    have hn : ((a.length : Int) == -1)=false:=by rw [beq_eq_false_iff_ne]; omega
    rw [hn]; simp
theorem cell_of_cells {W : World} {g : Nat} {cs : Array Value} {t : TypeId} {fr : Nat × Nat} (h : W.heap[g]?=some (.cells cs t fr)) (i : Nat) : W.cell? ⟨g,i,none⟩=cs[i]?:=cell_of_row W g i cs t fr h
theorem heap_new (w : World) (o : Obj) : (w.alloc o).heap[w.heap.size]?=some o:=by
  show (w.heap.push o)[w.heap.size]?=_
  simp
theorem nums_get (xs : List Int) (j : Nat) (h : j < xs.length) : ((nums .u8 xs).toArray)[j]?=some (.int .u8 (xs.getD j 0)):=by
  simp [nums,h]
/-- A row of bytes at a block's head. -/
theorem C_block {W : World} {g : Nat} {t : TypeId} {fr : Nat × Nat} {xs : List Int} (hl : xs.length≤9223372036854775807) (h : W.heap[g]?=some (.cells (nums .u8 xs).toArray t fr)) :
    Kd.C (Kd.int .u8) W (some ⟨g,0,none⟩) xs.length xs:=by
  refine Kd.C_of_reads (enc:=Value.int .u8) (d:=(0 : Int)) (h1:=fun _=>rfl) ⟨rfl,hl,fun _=>⟨_,rfl,fun j hj=>?_⟩⟩
  rw [add_plain,cell_of_cells h,nums_get xs j hj]
/-- What is cut from the front of a row that reads, up to m. -/
theorem C_take {W : World} {A : Option Addr} {xs : List Int} (h : Kd.C (Kd.int .u8) W A xs.length xs) {m : Nat} (hm : m≤xs.length) : Kd.C (Kd.int .u8) W A (xs.take m).length (xs.take m):=by
  have hr:=Kd.reads_of_C (enc:=Value.int .u8) (d:=(0 : Int)) (h1:=fun _=>rfl) h
  obtain ⟨_,h2,h3⟩:=hr
  have hlen : (xs.take m).length=m:=by rw [List.length_take]; omega
  refine Kd.C_of_reads (enc:=Value.int .u8) (d:=(0 : Int)) (h1:=fun _=>rfl) ⟨rfl,by omega,fun hp=>?_⟩
  rw [hlen] at hp ⊢
  obtain ⟨ad,e,hc⟩:=h3 (by omega)
  refine ⟨ad,e,fun j hj=>?_⟩
  rw [hc j (by omega)]
  simp [hj]
/-- The cells of a row that reads. -/
theorem C_cell {W : World} {A : Option Addr} {n : Nat} {xs : List Int} (h : Kd.C (Kd.int .u8) W A n xs) {j : Nat} (hj : j < n) : ∃ ad,A=some ad∧W.cell? (ad.add j)=some (.int .u8 (rd xs j)):=by
  obtain ⟨ad,e,hc⟩:=Kd.at_int h (j : Int) (by omega) (by omega)
  exact ⟨ad,e,by simpa using hc⟩
theorem cell_alloc_old {w : World} {a : Addr} {v : Value} (o : Obj) (h : w.cell? a=some v) : (w.alloc o).cell? a=some v :=
  (World.cell?_alloc_lt w o a (World.block_lt_of_cell? w a h)).trans h
theorem str_list (xs : List Int) : (strOfNums xs).toList=Lib.bytesOf xs:=by
  rw [Lib.toList_data]
  simp [strOfNums,Lib.bytesOf]
theorem str_data (xs : List Int) : (strOfNums xs).data.toList=Lib.bytesOf xs:=by simp [strOfNums,Lib.bytesOf]
/-- What a call that makes memory leaves as it was, as rules for the walk. -/
theorem below_reads {W w1 : World} (hb : Below W.heap.size W w1) : (∀ b o,b < W.heap.size→w1.cell? ⟨b,o,none⟩=W.cell? ⟨b,o,none⟩)∧(∀ b o,b < W.heap.size→w1.frozen? ⟨b,o,none⟩=W.frozen? ⟨b,o,none⟩) :=
  ⟨fun b o h=>hb.cell (p:=⟨b,o,none⟩) h,fun b o h=>hb.frozen (p:=⟨b,o,none⟩) h⟩
theorem alloc_dN (w : World) (n : Nat) (o : Obj) : (w.drewN n).alloc o=(w.alloc o).drewN n:=rfl
theorem setCell_dN (w : World) (n : Nat) (a : Addr) (v : Value) : (w.drewN n).setCell a v=(w.setCell a v).drewN n:=rfl
theorem shape_dN (w : World) (n : Nat) (r : Nat) : (w.drewN n).shape? r=w.shape? r:=rfl
/-- The walk goes on from a world of which only S is known. -/
theorem at_world {P : Program} {c : Code} {Q : Exit→Act→World→Prop} {a : Act} {W0 : World} (S : World→Prop) (h0 : S W0) (h : ∀ W,S W→c.wp P Q a W) : c.wp P Q a W0:=h W0 h0
theorem heap_old {w : World} {g : Nat} {x : Obj} (o : Obj) (h : w.heap[g]?=some x) : (w.alloc o).heap[g]?=some x :=
  (Below.heap_alloc w o g (Array.getElem?_eq_some_iff.1 h).1).trans h
theorem frozen_of_cells {W : World} {g : Nat} {cs : Array Value} {t : TypeId} (h : W.heap[g]?=some (.cells cs t (0,0))) (i : Nat) : W.frozen? ⟨g,i,none⟩=false:=by
  simp [World.frozen?,h]
/-! ### Conversions to bytes, in the form of a call's contract -/
def ConvLit (P : Program) (t e : TypeId) (C : Array Value) (n : Nat) (W : World) (R : Ending→World→Prop) : Prop :=
  ∃ v w',(convert t t (.slice (some ⟨W.heap.size,0,none⟩) n n)).run P (W.alloc (.cells C e)) = .ok v w'∧R (.returned v) w'
theorem ConvLit.mono {P : Program} {t e : TypeId} {C : Array Value} {n : Nat} {W : World} {R R' : Ending→World→Prop} (h : ConvLit P t e C n W R) (hr : ∀ x w',R x w'→R' x w') : ConvLit P t e C n W R':=by
  obtain ⟨v,w',h1,h2⟩:=h
  exact ⟨v,w',h1,hr _ _ h2⟩
def ConvStr (P : Program) (s t : TypeId) (x : ByteArray) (W : World) (R : Ending→World→Prop) : Prop :=
  ∃ v w',(convert s t (.string x)).run P W = .ok v w'∧R (.returned v) w'
theorem ConvStr.mono {P : Program} {s t : TypeId} {x : ByteArray} {W : World} {R R' : Ending→World→Prop} (h : ConvStr P s t x W R) (hr : ∀ x w',R x w'→R' x w') : ConvStr P s t x W R':=by
  obtain ⟨v,w',h1,h2⟩:=h
  exact ⟨v,w',h1,hr _ _ h2⟩
theorem V_block {W w' : World} {g : Nat} {t : TypeId} {c : Nat} {cs : Array Value} {e : TypeId} {fr : Nat × Nat} {xs : List Int} (hl : xs.length≤9223372036854775807) (hc : xs.length≤c)
    (h : w'.heap[g]?=some (.cells cs e fr)) (hcs : ∀ j,j < xs.length→cs[j]?=some (.int .u8 (xs.getD j 0))) (hg : W.heap.size≤g) :
    Kd.V (Kd.int .u8) t w' W.heap.size (fun k_=>W.heap.size≤k_) (.slice (some ⟨g,0,none⟩) xs.length c) xs:=by
  refine Kd.V_mk hc (fun W' hW=>?_)
  refine Kd.C_of_reads (enc:=Value.int .u8) (d:=(0 : Int)) (h1:=fun _=>rfl) ⟨rfl,hl,fun _=>⟨_,rfl,fun j hj=>?_⟩⟩
  have hW' : W'.heap[g]?=w'.heap[g]?:=hW g hg (Array.getElem?_eq_some_iff.1 h).1
  rw [add_plain,cell_of_cells (hW'.trans h),hcs j hj]
theorem conv_lit {P : Program} {t e : TypeId} (ht : P.underlying t=some (.slice e)) (he : P.underlying e=some (.int .u8)) (xs : List Int) (hl : xs.length≤9223372036854775807) {w : World} :
    ConvLit P t e (nums .u8 xs).toArray xs.length w fun x w' => ∃ v0_ : Value,x = .returned v0_∧Kd.V (Kd.int .u8) e w' w.heap.size (fun k_=>w.heap.size≤k_) v0_ xs∧Below w.heap.size w w' :=
  ⟨_,_,Lib.run_convert_bytes_const w t e _ _ _ ht he,_,rfl,V_block hl (Nat.le_refl _) (heap_new w _) (fun j hj=>nums_get xs j hj) (Nat.le_refl _),(Below.refl _ w).alloc (Nat.le_refl _) _⟩
theorem conv_str {P : Program} {s t e : TypeId} (hs : P.underlying s=some .string) (ht : P.underlying t=some (.slice e)) (he : P.underlying e=some (.int .u8)) (x : ByteArray) (hl : x.size≤9223372036854775807) {w : World} :
    ConvStr P s t x w fun y w' => ∃ v0_ : Value,y = .returned v0_∧Kd.V (Kd.int .u8) e w' w.heap.size (fun k_=>w.heap.size≤k_) v0_ (bytesOf x)∧Below w.heap.size w w':=by
  have hsz : (bytesOf x).length=x.size:=by simp [bytesOf]
  refine ⟨_,_,Lib.run_convert_string_bytes w s t e x hs ht he,_,rfl,?_,?_⟩
  · have hcell : ∀ j,j < (bytesOf x).length→(Lib.bytesCells w e x)[j]?=some (.int .u8 ((bytesOf x).getD j 0)):=fun j hj=>by
      have h1:=Lib.bytesWorld_cell w e x j (by omega)
      rw [cell_of_cells (Lib.bytesWorld_at_new w e x)] at h1
      rw [h1]
      have hj' : j < x.data.size:=by rw [hsz] at hj; exact hj
      have hg:x.data[j]?=some (x.data[j]'hj'):=Array.getElem?_eq_getElem hj'
      simp only [bytesOf,List.getD_eq_getElem?_getD,List.getElem?_map,Array.getElem?_toList,hg]
      rfl
    have:=V_block (W:=w) (w':=Lib.bytesWorld w e x) (t:=e) (c:=grownCap w x.size 0 e) (xs:=bytesOf x) (by omega) (by rw [hsz]; exact grownCap_ge _ _ _ _) (Lib.bytesWorld_at_new w e x) hcell (Nat.le_refl _)
    rwa [hsz] at this
  · exact ⟨rfl,rfl,rfl,by rw [Lib.bytesWorld_size]; omega,fun k hk=>Lib.bytesWorld_at_old w e x k hk⟩
section
variable {P : Program} {ops : Array Oper} {Q : Exit→Act→World→Prop} {rest : List Oper} {o : Oper} {a : Act}
theorem goesLit_ {W : World} {t e : TypeId} {C : Array Value} {n g : Nat} {x : Operand} {N : Option Tmp} (hgd : o.guard=none) (hd : o.dst=N) (hop : o.op = .convert t t x) (hx : a.eval x = .slice (some ⟨g,0,none⟩) n n) (hg : g=W.heap.size)
    (h : ConvLit P t e C n W fun y w' => ∃ v,y = .returned v∧wpList P ops Q rest (a.put N v) w') : wpList P ops Q (o :: rest) a (W.alloc (.cells C e)):=by
  obtain ⟨v,w',h1,v',hv,h2⟩:=h
  cases hv
  subst hg hd
  refine Kd.event_run hgd ?_ h2
  unfold execOp
  simp only [hop,hx,Sem.run_bind,h1]
  simp [Result.andThen]
theorem goesStr_ {W : World} {s t : TypeId} {b : ByteArray} {x : Operand} {N : Option Tmp} (hgd : o.guard=none) (hd : o.dst=N) (hop : o.op = .convert s t x) (hx : a.eval x = .string b)
    (h : ConvStr P s t b W fun y w' => ∃ v,y = .returned v∧wpList P ops Q rest (a.put N v) w') : wpList P ops Q (o :: rest) a W:=by
  obtain ⟨v,w',h1,v',hv,h2⟩:=h
  cases hv
  subst hd
  refine Kd.event_run hgd ?_ h2
  unfold execOp
  simp only [hop,hx,Sem.run_bind,h1]
  simp [Result.andThen]
end
/-- A row of bytes of the call's own read as a string, behind draws too. -/
theorem own_string_dN {P : Program} {w : World} {base n : Nat} {e' src dst e : TypeId} {v : Value} {xs : List Int} (hs : P.underlying src=some (.slice e)) (he : P.underlying e=some (.int .u8)) (hd : P.underlying dst=some .string)
    (h : w.ownsRow base e' 1 v n (nums .u8 xs)) : (convert src dst v).run P w = .ok (.string (strOfNums xs)) w∧∀ m : Nat,(convert src dst v).run P (w.drewN m) = .ok (.string (strOfNums xs)) (w.drewN m) :=
  ⟨own_string hs he hd h,fun m=>own_string (w:=w.drewN m) hs he hd h⟩
/-! ### Short names, for the printed texts -/
theorem sA_ {α : Type} (l : List α) (i : Nat) (a : α) : l.toArray.setIfInBounds i a=(l.set i a).toArray:=List.setIfInBounds_toArray ..
theorem s0_ {α : Type} (x : α) (l : List α) (a : α) : (x :: l).set 0 a=a :: l:=rfl
theorem s1_ {α : Type} (x : α) (l : List α) (n : Nat) (a : α) : (x :: l).set (n + 1) a=x :: l.set n a:=rfl
theorem kN {w : World} {g : Nat} {o : Obj} (h : w.heap[g]?=some o) (n : Nat) : (w.drewN n).heap[g]?=some o:=blk_drewN h n
theorem kD {w : World} {g : Nat} {o : Obj} (h : w.heap[g]?=some o) : w.drew.heap[g]?=some o:=blk_drew h
theorem kA {w : World} {g : Nat} {o : Obj} (h : w.heap[g]?=some o) (o' : Obj) : (w.alloc o').heap[g]?=some o:=blk_alloc h o'
theorem bA {w W : World} (h : Below w.heap.size w W) (o : Obj) : Below w.heap.size w (W.alloc o):=below_alloc h o
theorem bN {B : Nat} {w W : World} (h : Below B w W) (n : Nat) : Below B w (W.drewN n):=pw_below_drewN h n
theorem bD {base : Nat} {w W : World} (h : Below base w W) : Below base w W.drew:=below_drew1 h
theorem cF {W : World} {p a : Addr} (h : a.block ≠ p.block) (u : Value) : (W.setCell p u).cell? a=W.cell? a:=Go.Proofs.YtljdbphojcglgaaDoorW.PrintWords.cell_far h u
end Go.Proofs.YtljdbphojcglgaaDoor
