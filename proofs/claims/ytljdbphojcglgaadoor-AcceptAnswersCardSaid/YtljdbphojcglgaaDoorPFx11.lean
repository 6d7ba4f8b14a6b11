import Derived.Test.YtljdbphojcglgaaDoorPFx0
import Derived.Test.YtljdbphojcglgaaDoorPFx2
import Derived.Test.YtljdbphojcglgaaDoorPFx3
import Derived.Test.YtljdbphojcglgaaDoorPFx4
import Derived.Test.YtljdbphojcglgaaDoorPFx5
import Derived.Test.YtljdbphojcglgaaDoorPFx10
namespace Go.Proofs.YtljdbphojcglgaaDoor.PF
open Go.RowKit Go.Proofs.YtljdbphojcglgaaDoorW.PrintWords Go.Proofs.YtljdbphojcglgaaDoorW.PrintLast Go.Proofs.YtljdbphojcglgaaDoorW.PrintMore
set_option maxHeartbeats 20000000
set_option maxRecDepth 100000
attribute [local go_sem] max2_int min2_int max_two min_two max_three min_three max_four min_four
set_option linter.unusedVariables false
set_option linter.unusedSimpArgs false

/-! ### msh_Write: function 34 -/
theorem drawn_heap {W w7 : World} (h : Drawn0 W w7) : w7.heap=W.heap:=by obtain ⟨n,rfl⟩:=h; rfl
theorem drawn_below {W w7 : World} (h : Drawn0 W w7) {B : Nat} {w0 : World} (hb : Below B w0 W) : Below B w0 w7:=by obtain ⟨n,rfl⟩:=h; exact pw_below_drewN hb n
theorem drawn_owns {W w7 : World} (h : Drawn0 W w7) {b : Nat} {e : TypeId} {s n : Nat} {v : Value} {xs : List Value} (hb : W.ownsRow b e s v n xs) : w7.ownsRow b e s v n xs:=by obtain ⟨n,rfl⟩:=h; exact hb
theorem row_cap {W : World} {base : Nat} {e : TypeId} {size g k cap : Nat} {xs : List Value} (h : W.ownsRow base e size (.slice (some ⟨g,0,none⟩) k cap) k xs) : k≤cap:=by
 rcases h.2 with ⟨h0,_⟩ | ⟨g',cap',cur,h1,_,_,h2,_⟩
 ·cases h0
 ·cases h1
  exact h2
theorem row_take {W : World} {base : Nat} {e : TypeId} {g n cap : Nat} {l : List ByteArray} (h : W.ownsRow base e 1 (.slice (some ⟨g,0,none⟩) n cap) n (encs Value.string l)) (hl : l.length=n) (hn : n≤1000) (m : Nat) (hm : m≤n) :
  Kd.C Kd.string W (some ⟨g,0,none⟩) (l.take m).length (l.take m):=by
 have hlen : (l.take m).length=m:=by rw [List.length_take]; omega
 refine Kd.C_of_reads (d:=ByteArray.empty) (h1:=fun _=>rfl) ⟨rfl,by omega,fun _=>⟨_,rfl,fun j hj=>?_⟩⟩
 rw [Go.Proofs.YtljdbphojcglgaaDoorW.PrintWords.add_plain,h.cellAt j (by omega)]
 unfold encs
 rw [List.getElem?_map,List.getD_eq_getElem?_getD,List.getElem?_take,if_pos (by omega),List.getElem?_eq_getElem (by omega : j < l.length)]
 rfl
/-- A head's texts, one by one: none, if one has a byte that may not be; else what is gathered, and how much of it is not empty at its end. -/
def wloop (field : ByteArray) : List ByteArray→List ByteArray→Nat→Option (Option (List ByteArray × Nat))
 | [],l,n=>some (some (l,n))
 | s :: r,l,n=>(strings_Contains.f s field).bind fun a=>if a=true then some none else (strings_Contains.f s ⟨#[13]⟩).bind fun b=>if b=true then some none else wloop field r (l ++ [s]) (if s.toList.isEmpty=true then n else l.length + 1)
def msh_Write.f (k : Nat) (a0_0 : Int) (a0_1 : Int) (a0_2 : Int) (a0_3 : Int) (a0_4 : Int) (a0_5 : ByteArray) (a0_6 : ByteArray) (a0_7 : ByteArray) (a0_8 : ByteArray) (a0_9 : ByteArray) (a0_10 : ByteArray) (a0_11 : ByteArray) (a0_12 : ByteArray) (a0_13 : ByteArray) (a0_14 : ByteArray) : Option (ByteArray × Int) :=
 (delim_Right.f k a0_0 a0_1 a0_2 a0_3 a0_4).bind fun ok=>if ok=true then
  (msh_others.f a0_0 a0_1 a0_2 a0_3 a0_4).bind fun o=>(wloop (strOfNums [a0_0]) [a0_5,a0_6,a0_7,a0_8,a0_9,a0_10,a0_11,a0_12,a0_13,a0_14] [strOfNums [a0_0],o] 2).bind fun res=>match res with
   | none=>some (⟨#[]⟩,10)
   | some (l,n)=>(segment_Make.f a0_0 a0_1 a0_2 a0_3 a0_4 ⟨#[77,83,72]⟩ (l.take n)).bind fun s=>some (s,0)
 else some (⟨#[]⟩,11)
section
attribute [local go_sem] alloc_dN setCell_dN shape_dN
theorem msh_Write.calls (k : Nat) (a0_0 : Int) (a0_1 : Int) (a0_2 : Int) (a0_3 : Int) (a0_4 : Int) (a0_5 : ByteArray) (a0_6 : ByteArray) (a0_7 : ByteArray) (a0_8 : ByteArray) (a0_9 : ByteArray) (a0_10 : ByteArray) (a0_11 : ByteArray) (a0_12 : ByteArray) (a0_13 : ByteArray) (a0_14 : ByteArray) (r1 : ByteArray) (r2 : Int) (w : World) (h : msh_Write.f k a0_0 a0_1 a0_2 a0_3 a0_4 a0_5 a0_6 a0_7 a0_8 a0_9 a0_10 a0_11 a0_12 a0_13 a0_14=some (r1,r2)) :
  Calls Tryd.prog 34 #[.agg #[.int .u8 a0_0, .int .u8 a0_1, .int .u8 a0_2, .int .u8 a0_3, .int .u8 a0_4, .string a0_5, .string a0_6, .string a0_7, .string a0_8, .string a0_9, .string a0_10, .string a0_11, .string a0_12, .string a0_13, .string a0_14]] w fun e w'=>e = .returned (.tuple #[.string r1, .int .i64 r2])∧Below w.heap.size w w':=by
 unfold msh_Write.f at h
 obtain ⟨ok,hok,h1⟩:=Option.bind_eq_some_iff.1 h
 clear h
 have HOK:=Lib.hid hok
 clear hok
 have hz1:=Lib.hid (heap_new w (.cells #[.int .u8 a0_0, .int .u8 a0_1, .int .u8 a0_2, .int .u8 a0_3, .int .u8 a0_4, .string a0_5, .string a0_6, .string a0_7, .string a0_8, .string a0_9, .string a0_10, .string a0_11, .string a0_12, .string a0_13, .string a0_14] 27))
 have hB1:=Lib.hid ((Below.refl w.heap.size w).alloc (Nat.le_refl _) (.cells #[.int .u8 a0_0, .int .u8 a0_1, .int .u8 a0_2, .int .u8 a0_3, .int .u8 a0_4, .string a0_5, .string a0_6, .string a0_7, .string a0_8, .string a0_9, .string a0_10, .string a0_11, .string a0_12, .string a0_13, .string a0_14] 27))
 have e0:=blk_cell hz1.out 0
 have e1:=blk_cell hz1.out 1
 have e2:=blk_cell hz1.out 2
 have e3:=blk_cell hz1.out 3
 have e4:=blk_cell hz1.out 4
 simp only [List.getElem?_toArray,List.getElem?_cons_zero,List.getElem?_cons_succ] at e0 e1 e2 e3 e4
 cases ok with
 | false =>
  rw [if_neg (by decide)] at h1
  simp only [Option.some.injEq,Prod.mk.injEq] at h1
  obtain ⟨rfl,rfl⟩:=h1
  go_enter Tryd.func34,Tryd.ntmps34
  go_wp2_with fail
  with_reducible refine (delim_Right.calls k a0_0 a0_1 a0_2 a0_3 a0_4 false _ HOK.out).mono ?_
  rintro e w2 ⟨rfl,hb2⟩
  have hB2:=below_step hB1.out hb2
  clear hb2
  go_wp2_with fail
  exact bodyPost_ret (v := .tuple #[.string ⟨#[]⟩, .int .i64 11]) (by simp [results,Tryd.results34,go_sem]) rfl ⟨rfl,hB2⟩
 | true =>
  rw [if_pos rfl] at h1
  obtain ⟨o,ho,h2⟩:=Option.bind_eq_some_iff.1 h1
  obtain ⟨res,hres,h3⟩:=Option.bind_eq_some_iff.1 h2
  clear h1 h2
  have HO:=Lib.hid ho
  have HRES:=Lib.hid hres
  have H3:=Lib.hid h3
  clear ho hres h3
  go_enter Tryd.func34,Tryd.ntmps34
  go_wp2_with fail
  with_reducible refine (delim_Right.calls k a0_0 a0_1 a0_2 a0_3 a0_4 true _ HOK.out).mono ?_
  rintro e w2 ⟨rfl,hb2⟩
  have hB2:=Lib.hid (below_step hB1.out hb2)
  have hz2:=Lib.hid (blk_below hz1.out hb2)
  clear hb2 hB1 hz1 e0 e1 e2 e3 e4
  have s2:=blk_lt hz2.out
  have e0:=blk_cell hz2.out 0
  have e1:=blk_cell hz2.out 1
  have e2:=blk_cell hz2.out 2
  have e3:=blk_cell hz2.out 3
  have e4:=blk_cell hz2.out 4
  simp only [List.getElem?_toArray,List.getElem?_cons_zero,List.getElem?_cons_succ] at e0 e1 e2 e3 e4
  have hst:strOfNums [a0_0]=strOfNums [a0_0]:=rfl
  have hconv : ∀ cap,(convert 22 9 (.slice (some ⟨w2.heap.size,0,none⟩) 1 cap)).run Tryd.prog (w2.alloc (.cells #[.int .u8 a0_0] 5)) = .ok (.string (strOfNums [a0_0])) (w2.alloc (.cells #[.int .u8 a0_0] 5)):=fun cap =>
   Kd.C_string (P:=Tryd.prog) Tryd.underlying22 Tryd.underlying5 Tryd.underlying9 (C_block (xs:=[a0_0]) (by simp) (heap_new w2 _))
  go_wp2_with fail
  with_reducible refine (msh_others.calls a0_0 a0_1 a0_2 a0_3 a0_4 o _ HO.out).mono ?_
  rintro e w3 ⟨rfl,hb3⟩
  have hz3:=Lib.hid (blk_below (heap_old _ hz2.out) hb3)
  have hB3:=Lib.hid (below_step (hB2.out.alloc hB2.out.size _) hb3)
  clear hb3 hz2 hB2 hconv hst s2 e0 e1 e2 e3 e4
  go_wp2_with fail
  refine (texts_calls _).mono ?_
  rintro e w5 ⟨rfl,hb5⟩
  have hz5:=Lib.hid (blk_below (heap_old _ hz3.out) hb5)
  have hB5:=Lib.hid (below_step (hB3.out.alloc hB3.out.size (.cells #[.string (strOfNums [a0_0]), .string o] 9)) hb5)
  have s3:w.heap.size + 1≤w3.heap.size:=blk_lt hz3.out
  have ho5:=Lib.hid ((World.ownsRow_lit (base:=w.heap.size + 1) (e:=9) (size:=1) w3 #[.string (strOfNums [a0_0]), .string o] 2 s3 (by decide) rfl).kept (grown_of_below hb5 none) (by simp [Value.ownBlock]))
  clear hb5 hz3 hB3
  obtain ⟨i0,hi,hy0,hy1,hy2⟩:=info_parts infoStr
  go_wp2
  go_loopw [27,5,6] (fun i v full wr => ∃ (n : Nat) (l : List ByteArray) (m : Nat),n≤10∧i = .int .i64 n∧full = .int .i64 (m : Int)∧m≤l.length∧l.length=n + 2∧wr.ownsRow (w.heap.size + 1) 9 1 v l.length (encs Value.string l)∧Go.RowKit.Hid (wloop (strOfNums [a0_0]) (([a0_5,a0_6,a0_7,a0_8,a0_9,a0_10,a0_11,a0_12,a0_13,a0_14] : List ByteArray).drop n) l m=some res) ∧
   wr.heap[w.heap.size]?=some (.cells #[.int .u8 a0_0, .int .u8 a0_1, .int .u8 a0_2, .int .u8 a0_3, .int .u8 a0_4, .string a0_5, .string a0_6, .string a0_7, .string a0_8, .string a0_9, .string a0_10, .string a0_11, .string a0_12, .string a0_13, .string a0_14] 27 (0,0))∧Below w.heap.size w wr) (fun i _ _ _=>10 - (Go.RowKit.intOf i).toNat)
  case atStart =>
   exact ⟨0,[strOfNums [a0_0],o],2,by omega,rfl,rfl,by simp,rfl,ho5.out,HRES,hz5.out,hB5.out⟩
  case round =>
   obtain ⟨n,l,m,hn,rfl,rfl,hml,hln,hown,HL,hz,hB⟩:=hrel
   have hcs:n=0∨n=1∨n=2∨n=3∨n=4∨n=5∨n=6∨n=7∨n=8∨n=9∨n=10:=by omega
   have GO:=Lib.hid hown
   have GZ:=Lib.hid hz
   have GB:=Lib.hid hB
   clear hn hown hz hB ho5 hz5 hB5 HRES
   have s1:=blk_lt GZ.out
   rcases hcs with rfl | rfl | rfl | rfl | rfl | rfl | rfl | rfl | rfl | rfl | rfl
   ·have hw:wloop (strOfNums [a0_0]) (a0_5 :: [a0_6,a0_7,a0_8,a0_9,a0_10,a0_11,a0_12,a0_13,a0_14]) l m=some res:=HL.out
    unfold wloop at hw
    obtain ⟨ca,ha,hw2⟩:=Option.bind_eq_some_iff.1 hw
    clear hw
    have HA:=Lib.hid ha
    clear ha
    have ix:=texts_at0
    have cy:=blk_cell GZ.out 5
    simp only [List.getElem?_toArray,List.getElem?_cons_zero,List.getElem?_cons_succ] at cy
    have bW:=Lib.hid (GB.out.alloc GB.out.size (.cells #[.func (.func 42) #[] #[]] 64))
    cases ca with
    | true =>
     have hw3:some none=some res:=hw2
     obtain rfl:=Option.some.inj hw3
     have h3:=H3.out
     simp only [Option.some.injEq,Prod.mk.injEq] at h3
     obtain ⟨rfl,rfl⟩:=h3
     clear hw2 hw3
     go_wp2_with (first | (go_at_call 42; with_reducible refine (text_1 _ _).mono ?_; rintro e w6 ⟨rfl,rfl⟩) | (go_at_call 58; with_reducible refine (strings_Contains.calls a0_5 (strOfNums [a0_0]) true _ HA.out).mono ?_; rintro e w7 ⟨rfl,hdw7⟩))
     exact bodyPost_ret (v := .tuple #[.string ⟨#[]⟩, .int .i64 10]) (by simp [results,Tryd.results34,go_sem]) rfl ⟨rfl,drawn_below hdw7 bW.out⟩
    | false =>
     rw [if_neg (by decide)] at hw2
     obtain ⟨cb,hb,hw3⟩:=Option.bind_eq_some_iff.1 hw2
     clear hw2
     have HBB:=Lib.hid hb
     clear hb
     cases cb with
     | true =>
      have hw4:some none=some res:=hw3
      obtain rfl:=Option.some.inj hw4
      have h3:=H3.out
      simp only [Option.some.injEq,Prod.mk.injEq] at h3
      obtain ⟨rfl,rfl⟩:=h3
      clear hw3 hw4
      go_wp2_with (first | (go_at_call 42; with_reducible refine (text_1 _ _).mono ?_; rintro e w6 ⟨rfl,rfl⟩) | (go_at_call 58; with_reducible refine (strings_Contains.calls a0_5 (strOfNums [a0_0]) false _ HA.out).mono ?_; rintro e w7 ⟨rfl,hdw7⟩) | (go_at_call 58; with_reducible refine (strings_Contains.calls a0_5 ⟨#[13]⟩ true _ HBB.out).mono ?_; rintro e w8 ⟨rfl,hdw8⟩))
      exact bodyPost_ret (v := .tuple #[.string ⟨#[]⟩, .int .i64 10]) (by simp [results,Tryd.results34,go_sem]) rfl ⟨rfl,drawn_below hdw8 (drawn_below hdw7 bW.out)⟩
     | false =>
      rw [if_neg (by decide)] at hw3
      have HW:=Lib.hid hw3
      clear hw3
      go_wp2_with (first
       | (go_at_call 42; with_reducible refine (text_1 _ _).mono ?_; rintro e w6 ⟨rfl,rfl⟩)
       | (go_at_call 58; with_reducible refine (strings_Contains.calls a0_5 (strOfNums [a0_0]) false _ HA.out).mono ?_; rintro e w7 ⟨rfl,hdw7⟩)
       | (go_at_call 58; with_reducible refine (strings_Contains.calls a0_5 ⟨#[13]⟩ false _ HBB.out).mono ?_; rintro e w8 ⟨rfl,hdw8⟩; have z8:=Lib.hid (show w8.heap[w.heap.size]?=some (.cells #[.int .u8 a0_0, .int .u8 a0_1, .int .u8 a0_2, .int .u8 a0_3, .int .u8 a0_4, .string a0_5, .string a0_6, .string a0_7, .string a0_8, .string a0_9, .string a0_10, .string a0_11, .string a0_12, .string a0_13, .string a0_14] 27 (0,0)) by rw [drawn_heap hdw8,drawn_heap hdw7]; exact heap_old _ GZ.out); have b8:=Lib.hid (drawn_below hdw8 (drawn_below hdw7 bW.out)); have o8:=Lib.hid (drawn_owns hdw8 (drawn_owns hdw7 (GO.out.alloc _))); clear hdw8 hdw7 cy)
       | (at_builtin; go_loud (refine wpList_append_own _ rfl _ _ 53 rfl (w.heap.size + 1) 9 i0 (Value.string ⟨#[]⟩) 1 16 Tryd.underlying53 hi hy0 hy1 hy2 rfl (by decide) u5 l.length (encs Value.string l) rfl (o8.out.alloc _) ⟨w8.heap.size,0,none⟩ 1 1 [Value.string a0_5] rfl rfl (cell_one_new _ _ _) (by intro u hu; simp at hu; subst hu; rfl) (by unfold maxLen; omega) (by omega) (by have:=blk_lt z8.out; simp; omega) ?_); intro v' w9 hown' hgrow _; obtain ⟨g',cap',rfl⟩:=ownsRow_succ hown'; have z9:=Lib.hid ((hgrow.block w.heap.size (by have:=blk_lt z8.out; simp; omega) (fun e=>by have:=(o8.out.lt _ e.symm).1; omega)).trans (heap_old _ z8.out)); have b9:=Lib.hid ((b8.out.alloc b8.out.size _).grown hgrow (by have:=b8.out.size; simp; omega) (fun k e=>by have:=(o8.out.lt _ e).1; omega)); have O9:=Lib.hid hown'; clear hown' hgrow))
      all_goals
       rename_i hem
       have hn3:l.length=2:=hln
       refine ⟨⟨1,l ++ [a0_5],(if a0_5.toList.isEmpty=true then m else l.length + 1),by decide,rfl,?_,?_,by rw [List.length_append,hn3]; rfl,?_,HW.out,z9.out,b9.out⟩,by simp [Go.RowKit.intOf]⟩
       ·first
        | (have he:a0_5.toList.isEmpty=true:=(by simpa using hem); rw [if_pos he])
        | (have he:a0_5.toList.isEmpty=false:=(by simpa using hem); rw [if_neg (by rw [he]; decide),hn3]; rfl)
       ·rw [List.length_append,List.length_singleton]; split <;> omega
       ·have O:=O9.out
        rw [hn3] at O
        rw [List.length_append,hn3,encs_append]
        exact O
   ·have hw:wloop (strOfNums [a0_0]) (a0_6 :: [a0_7,a0_8,a0_9,a0_10,a0_11,a0_12,a0_13,a0_14]) l m=some res:=HL.out
    unfold wloop at hw
    obtain ⟨ca,ha,hw2⟩:=Option.bind_eq_some_iff.1 hw
    clear hw
    have HA:=Lib.hid ha
    clear ha
    have ix:=texts_at1
    have cy:=blk_cell GZ.out 6
    simp only [List.getElem?_toArray,List.getElem?_cons_zero,List.getElem?_cons_succ] at cy
    have bW:=Lib.hid (GB.out.alloc GB.out.size (.cells #[.func (.func 43) #[] #[]] 64))
    cases ca with
    | true =>
     have hw3:some none=some res:=hw2
     obtain rfl:=Option.some.inj hw3
     have h3:=H3.out
     simp only [Option.some.injEq,Prod.mk.injEq] at h3
     obtain ⟨rfl,rfl⟩:=h3
     clear hw2 hw3
     go_wp2_with (first | (go_at_call 43; with_reducible refine (text_2 _ _).mono ?_; rintro e w6 ⟨rfl,rfl⟩) | (go_at_call 58; with_reducible refine (strings_Contains.calls a0_6 (strOfNums [a0_0]) true _ HA.out).mono ?_; rintro e w7 ⟨rfl,hdw7⟩))
     exact bodyPost_ret (v := .tuple #[.string ⟨#[]⟩, .int .i64 10]) (by simp [results,Tryd.results34,go_sem]) rfl ⟨rfl,drawn_below hdw7 bW.out⟩
    | false =>
     rw [if_neg (by decide)] at hw2
     obtain ⟨cb,hb,hw3⟩:=Option.bind_eq_some_iff.1 hw2
     clear hw2
     have HBB:=Lib.hid hb
     clear hb
     cases cb with
     | true =>
      have hw4:some none=some res:=hw3
      obtain rfl:=Option.some.inj hw4
      have h3:=H3.out
      simp only [Option.some.injEq,Prod.mk.injEq] at h3
      obtain ⟨rfl,rfl⟩:=h3
      clear hw3 hw4
      go_wp2_with (first | (go_at_call 43; with_reducible refine (text_2 _ _).mono ?_; rintro e w6 ⟨rfl,rfl⟩) | (go_at_call 58; with_reducible refine (strings_Contains.calls a0_6 (strOfNums [a0_0]) false _ HA.out).mono ?_; rintro e w7 ⟨rfl,hdw7⟩) | (go_at_call 58; with_reducible refine (strings_Contains.calls a0_6 ⟨#[13]⟩ true _ HBB.out).mono ?_; rintro e w8 ⟨rfl,hdw8⟩))
      exact bodyPost_ret (v := .tuple #[.string ⟨#[]⟩, .int .i64 10]) (by simp [results,Tryd.results34,go_sem]) rfl ⟨rfl,drawn_below hdw8 (drawn_below hdw7 bW.out)⟩
     | false =>
      rw [if_neg (by decide)] at hw3
      have HW:=Lib.hid hw3
      clear hw3
      go_wp2_with (first
       | (go_at_call 43; with_reducible refine (text_2 _ _).mono ?_; rintro e w6 ⟨rfl,rfl⟩)
       | (go_at_call 58; with_reducible refine (strings_Contains.calls a0_6 (strOfNums [a0_0]) false _ HA.out).mono ?_; rintro e w7 ⟨rfl,hdw7⟩)
       | (go_at_call 58; with_reducible refine (strings_Contains.calls a0_6 ⟨#[13]⟩ false _ HBB.out).mono ?_; rintro e w8 ⟨rfl,hdw8⟩; have z8:=Lib.hid (show w8.heap[w.heap.size]?=some (.cells #[.int .u8 a0_0, .int .u8 a0_1, .int .u8 a0_2, .int .u8 a0_3, .int .u8 a0_4, .string a0_5, .string a0_6, .string a0_7, .string a0_8, .string a0_9, .string a0_10, .string a0_11, .string a0_12, .string a0_13, .string a0_14] 27 (0,0)) by rw [drawn_heap hdw8,drawn_heap hdw7]; exact heap_old _ GZ.out); have b8:=Lib.hid (drawn_below hdw8 (drawn_below hdw7 bW.out)); have o8:=Lib.hid (drawn_owns hdw8 (drawn_owns hdw7 (GO.out.alloc _))); clear hdw8 hdw7 cy)
       | (at_builtin; go_loud (refine wpList_append_own _ rfl _ _ 53 rfl (w.heap.size + 1) 9 i0 (Value.string ⟨#[]⟩) 1 16 Tryd.underlying53 hi hy0 hy1 hy2 rfl (by decide) u5 l.length (encs Value.string l) rfl (o8.out.alloc _) ⟨w8.heap.size,0,none⟩ 1 1 [Value.string a0_6] rfl rfl (cell_one_new _ _ _) (by intro u hu; simp at hu; subst hu; rfl) (by unfold maxLen; omega) (by omega) (by have:=blk_lt z8.out; simp; omega) ?_); intro v' w9 hown' hgrow _; obtain ⟨g',cap',rfl⟩:=ownsRow_succ hown'; have z9:=Lib.hid ((hgrow.block w.heap.size (by have:=blk_lt z8.out; simp; omega) (fun e=>by have:=(o8.out.lt _ e.symm).1; omega)).trans (heap_old _ z8.out)); have b9:=Lib.hid ((b8.out.alloc b8.out.size _).grown hgrow (by have:=b8.out.size; simp; omega) (fun k e=>by have:=(o8.out.lt _ e).1; omega)); have O9:=Lib.hid hown'; clear hown' hgrow))
      all_goals
       rename_i hem
       have hn3:l.length=3:=hln
       refine ⟨⟨2,l ++ [a0_6],(if a0_6.toList.isEmpty=true then m else l.length + 1),by decide,rfl,?_,?_,by rw [List.length_append,hn3]; rfl,?_,HW.out,z9.out,b9.out⟩,by simp [Go.RowKit.intOf]⟩
       ·first
        | (have he:a0_6.toList.isEmpty=true:=(by simpa using hem); rw [if_pos he])
        | (have he:a0_6.toList.isEmpty=false:=(by simpa using hem); rw [if_neg (by rw [he]; decide),hn3]; rfl)
       ·rw [List.length_append,List.length_singleton]; split <;> omega
       ·have O:=O9.out
        rw [hn3] at O
        rw [List.length_append,hn3,encs_append]
        exact O
   ·have hw:wloop (strOfNums [a0_0]) (a0_7 :: [a0_8,a0_9,a0_10,a0_11,a0_12,a0_13,a0_14]) l m=some res:=HL.out
    unfold wloop at hw
    obtain ⟨ca,ha,hw2⟩:=Option.bind_eq_some_iff.1 hw
    clear hw
    have HA:=Lib.hid ha
    clear ha
    have ix:=texts_at2
    have cy:=blk_cell GZ.out 7
    simp only [List.getElem?_toArray,List.getElem?_cons_zero,List.getElem?_cons_succ] at cy
    have bW:=Lib.hid (GB.out.alloc GB.out.size (.cells #[.func (.func 44) #[] #[]] 64))
    cases ca with
    | true =>
     have hw3:some none=some res:=hw2
     obtain rfl:=Option.some.inj hw3
     have h3:=H3.out
     simp only [Option.some.injEq,Prod.mk.injEq] at h3
     obtain ⟨rfl,rfl⟩:=h3
     clear hw2 hw3
     go_wp2_with (first | (go_at_call 44; with_reducible refine (text_3 _ _).mono ?_; rintro e w6 ⟨rfl,rfl⟩) | (go_at_call 58; with_reducible refine (strings_Contains.calls a0_7 (strOfNums [a0_0]) true _ HA.out).mono ?_; rintro e w7 ⟨rfl,hdw7⟩))
     exact bodyPost_ret (v := .tuple #[.string ⟨#[]⟩, .int .i64 10]) (by simp [results,Tryd.results34,go_sem]) rfl ⟨rfl,drawn_below hdw7 bW.out⟩
    | false =>
     rw [if_neg (by decide)] at hw2
     obtain ⟨cb,hb,hw3⟩:=Option.bind_eq_some_iff.1 hw2
     clear hw2
     have HBB:=Lib.hid hb
     clear hb
     cases cb with
     | true =>
      have hw4:some none=some res:=hw3
      obtain rfl:=Option.some.inj hw4
      have h3:=H3.out
      simp only [Option.some.injEq,Prod.mk.injEq] at h3
      obtain ⟨rfl,rfl⟩:=h3
      clear hw3 hw4
      go_wp2_with (first | (go_at_call 44; with_reducible refine (text_3 _ _).mono ?_; rintro e w6 ⟨rfl,rfl⟩) | (go_at_call 58; with_reducible refine (strings_Contains.calls a0_7 (strOfNums [a0_0]) false _ HA.out).mono ?_; rintro e w7 ⟨rfl,hdw7⟩) | (go_at_call 58; with_reducible refine (strings_Contains.calls a0_7 ⟨#[13]⟩ true _ HBB.out).mono ?_; rintro e w8 ⟨rfl,hdw8⟩))
      exact bodyPost_ret (v := .tuple #[.string ⟨#[]⟩, .int .i64 10]) (by simp [results,Tryd.results34,go_sem]) rfl ⟨rfl,drawn_below hdw8 (drawn_below hdw7 bW.out)⟩
     | false =>
      rw [if_neg (by decide)] at hw3
      have HW:=Lib.hid hw3
      clear hw3
      go_wp2_with (first
       | (go_at_call 44; with_reducible refine (text_3 _ _).mono ?_; rintro e w6 ⟨rfl,rfl⟩)
       | (go_at_call 58; with_reducible refine (strings_Contains.calls a0_7 (strOfNums [a0_0]) false _ HA.out).mono ?_; rintro e w7 ⟨rfl,hdw7⟩)
       | (go_at_call 58; with_reducible refine (strings_Contains.calls a0_7 ⟨#[13]⟩ false _ HBB.out).mono ?_; rintro e w8 ⟨rfl,hdw8⟩; have z8:=Lib.hid (show w8.heap[w.heap.size]?=some (.cells #[.int .u8 a0_0, .int .u8 a0_1, .int .u8 a0_2, .int .u8 a0_3, .int .u8 a0_4, .string a0_5, .string a0_6, .string a0_7, .string a0_8, .string a0_9, .string a0_10, .string a0_11, .string a0_12, .string a0_13, .string a0_14] 27 (0,0)) by rw [drawn_heap hdw8,drawn_heap hdw7]; exact heap_old _ GZ.out); have b8:=Lib.hid (drawn_below hdw8 (drawn_below hdw7 bW.out)); have o8:=Lib.hid (drawn_owns hdw8 (drawn_owns hdw7 (GO.out.alloc _))); clear hdw8 hdw7 cy)
       | (at_builtin; go_loud (refine wpList_append_own _ rfl _ _ 53 rfl (w.heap.size + 1) 9 i0 (Value.string ⟨#[]⟩) 1 16 Tryd.underlying53 hi hy0 hy1 hy2 rfl (by decide) u5 l.length (encs Value.string l) rfl (o8.out.alloc _) ⟨w8.heap.size,0,none⟩ 1 1 [Value.string a0_7] rfl rfl (cell_one_new _ _ _) (by intro u hu; simp at hu; subst hu; rfl) (by unfold maxLen; omega) (by omega) (by have:=blk_lt z8.out; simp; omega) ?_); intro v' w9 hown' hgrow _; obtain ⟨g',cap',rfl⟩:=ownsRow_succ hown'; have z9:=Lib.hid ((hgrow.block w.heap.size (by have:=blk_lt z8.out; simp; omega) (fun e=>by have:=(o8.out.lt _ e.symm).1; omega)).trans (heap_old _ z8.out)); have b9:=Lib.hid ((b8.out.alloc b8.out.size _).grown hgrow (by have:=b8.out.size; simp; omega) (fun k e=>by have:=(o8.out.lt _ e).1; omega)); have O9:=Lib.hid hown'; clear hown' hgrow))
      all_goals
       rename_i hem
       have hn3:l.length=4:=hln
       refine ⟨⟨3,l ++ [a0_7],(if a0_7.toList.isEmpty=true then m else l.length + 1),by decide,rfl,?_,?_,by rw [List.length_append,hn3]; rfl,?_,HW.out,z9.out,b9.out⟩,by simp [Go.RowKit.intOf]⟩
       ·first
        | (have he:a0_7.toList.isEmpty=true:=(by simpa using hem); rw [if_pos he])
        | (have he:a0_7.toList.isEmpty=false:=(by simpa using hem); rw [if_neg (by rw [he]; decide),hn3]; rfl)
       ·rw [List.length_append,List.length_singleton]; split <;> omega
       ·have O:=O9.out
        rw [hn3] at O
        rw [List.length_append,hn3,encs_append]
        exact O
   ·have hw:wloop (strOfNums [a0_0]) (a0_8 :: [a0_9,a0_10,a0_11,a0_12,a0_13,a0_14]) l m=some res:=HL.out
    unfold wloop at hw
    obtain ⟨ca,ha,hw2⟩:=Option.bind_eq_some_iff.1 hw
    clear hw
    have HA:=Lib.hid ha
    clear ha
    have ix:=texts_at3
    have cy:=blk_cell GZ.out 8
    simp only [List.getElem?_toArray,List.getElem?_cons_zero,List.getElem?_cons_succ] at cy
    have bW:=Lib.hid (GB.out.alloc GB.out.size (.cells #[.func (.func 45) #[] #[]] 64))
    cases ca with
    | true =>
     have hw3:some none=some res:=hw2
     obtain rfl:=Option.some.inj hw3
     have h3:=H3.out
     simp only [Option.some.injEq,Prod.mk.injEq] at h3
     obtain ⟨rfl,rfl⟩:=h3
     clear hw2 hw3
     go_wp2_with (first | (go_at_call 45; with_reducible refine (text_4 _ _).mono ?_; rintro e w6 ⟨rfl,rfl⟩) | (go_at_call 58; with_reducible refine (strings_Contains.calls a0_8 (strOfNums [a0_0]) true _ HA.out).mono ?_; rintro e w7 ⟨rfl,hdw7⟩))
     exact bodyPost_ret (v := .tuple #[.string ⟨#[]⟩, .int .i64 10]) (by simp [results,Tryd.results34,go_sem]) rfl ⟨rfl,drawn_below hdw7 bW.out⟩
    | false =>
     rw [if_neg (by decide)] at hw2
     obtain ⟨cb,hb,hw3⟩:=Option.bind_eq_some_iff.1 hw2
     clear hw2
     have HBB:=Lib.hid hb
     clear hb
     cases cb with
     | true =>
      have hw4:some none=some res:=hw3
      obtain rfl:=Option.some.inj hw4
      have h3:=H3.out
      simp only [Option.some.injEq,Prod.mk.injEq] at h3
      obtain ⟨rfl,rfl⟩:=h3
      clear hw3 hw4
      go_wp2_with (first | (go_at_call 45; with_reducible refine (text_4 _ _).mono ?_; rintro e w6 ⟨rfl,rfl⟩) | (go_at_call 58; with_reducible refine (strings_Contains.calls a0_8 (strOfNums [a0_0]) false _ HA.out).mono ?_; rintro e w7 ⟨rfl,hdw7⟩) | (go_at_call 58; with_reducible refine (strings_Contains.calls a0_8 ⟨#[13]⟩ true _ HBB.out).mono ?_; rintro e w8 ⟨rfl,hdw8⟩))
      exact bodyPost_ret (v := .tuple #[.string ⟨#[]⟩, .int .i64 10]) (by simp [results,Tryd.results34,go_sem]) rfl ⟨rfl,drawn_below hdw8 (drawn_below hdw7 bW.out)⟩
     | false =>
      rw [if_neg (by decide)] at hw3
      have HW:=Lib.hid hw3
      clear hw3
      go_wp2_with (first
       | (go_at_call 45; with_reducible refine (text_4 _ _).mono ?_; rintro e w6 ⟨rfl,rfl⟩)
       | (go_at_call 58; with_reducible refine (strings_Contains.calls a0_8 (strOfNums [a0_0]) false _ HA.out).mono ?_; rintro e w7 ⟨rfl,hdw7⟩)
       | (go_at_call 58; with_reducible refine (strings_Contains.calls a0_8 ⟨#[13]⟩ false _ HBB.out).mono ?_; rintro e w8 ⟨rfl,hdw8⟩; have z8:=Lib.hid (show w8.heap[w.heap.size]?=some (.cells #[.int .u8 a0_0, .int .u8 a0_1, .int .u8 a0_2, .int .u8 a0_3, .int .u8 a0_4, .string a0_5, .string a0_6, .string a0_7, .string a0_8, .string a0_9, .string a0_10, .string a0_11, .string a0_12, .string a0_13, .string a0_14] 27 (0,0)) by rw [drawn_heap hdw8,drawn_heap hdw7]; exact heap_old _ GZ.out); have b8:=Lib.hid (drawn_below hdw8 (drawn_below hdw7 bW.out)); have o8:=Lib.hid (drawn_owns hdw8 (drawn_owns hdw7 (GO.out.alloc _))); clear hdw8 hdw7 cy)
       | (at_builtin; go_loud (refine wpList_append_own _ rfl _ _ 53 rfl (w.heap.size + 1) 9 i0 (Value.string ⟨#[]⟩) 1 16 Tryd.underlying53 hi hy0 hy1 hy2 rfl (by decide) u5 l.length (encs Value.string l) rfl (o8.out.alloc _) ⟨w8.heap.size,0,none⟩ 1 1 [Value.string a0_8] rfl rfl (cell_one_new _ _ _) (by intro u hu; simp at hu; subst hu; rfl) (by unfold maxLen; omega) (by omega) (by have:=blk_lt z8.out; simp; omega) ?_); intro v' w9 hown' hgrow _; obtain ⟨g',cap',rfl⟩:=ownsRow_succ hown'; have z9:=Lib.hid ((hgrow.block w.heap.size (by have:=blk_lt z8.out; simp; omega) (fun e=>by have:=(o8.out.lt _ e.symm).1; omega)).trans (heap_old _ z8.out)); have b9:=Lib.hid ((b8.out.alloc b8.out.size _).grown hgrow (by have:=b8.out.size; simp; omega) (fun k e=>by have:=(o8.out.lt _ e).1; omega)); have O9:=Lib.hid hown'; clear hown' hgrow))
      all_goals
       rename_i hem
       have hn3:l.length=5:=hln
       refine ⟨⟨4,l ++ [a0_8],(if a0_8.toList.isEmpty=true then m else l.length + 1),by decide,rfl,?_,?_,by rw [List.length_append,hn3]; rfl,?_,HW.out,z9.out,b9.out⟩,by simp [Go.RowKit.intOf]⟩
       ·first
        | (have he:a0_8.toList.isEmpty=true:=(by simpa using hem); rw [if_pos he])
        | (have he:a0_8.toList.isEmpty=false:=(by simpa using hem); rw [if_neg (by rw [he]; decide),hn3]; rfl)
       ·rw [List.length_append,List.length_singleton]; split <;> omega
       ·have O:=O9.out
        rw [hn3] at O
        rw [List.length_append,hn3,encs_append]
        exact O
   ·have hw:wloop (strOfNums [a0_0]) (a0_9 :: [a0_10,a0_11,a0_12,a0_13,a0_14]) l m=some res:=HL.out
    unfold wloop at hw
    obtain ⟨ca,ha,hw2⟩:=Option.bind_eq_some_iff.1 hw
    clear hw
    have HA:=Lib.hid ha
    clear ha
    have ix:=texts_at4
    have cy:=blk_cell GZ.out 9
    simp only [List.getElem?_toArray,List.getElem?_cons_zero,List.getElem?_cons_succ] at cy
    have bW:=Lib.hid (GB.out.alloc GB.out.size (.cells #[.func (.func 46) #[] #[]] 64))
    cases ca with
    | true =>
     have hw3:some none=some res:=hw2
     obtain rfl:=Option.some.inj hw3
     have h3:=H3.out
     simp only [Option.some.injEq,Prod.mk.injEq] at h3
     obtain ⟨rfl,rfl⟩:=h3
     clear hw2 hw3
     go_wp2_with (first | (go_at_call 46; with_reducible refine (text_5 _ _).mono ?_; rintro e w6 ⟨rfl,rfl⟩) | (go_at_call 58; with_reducible refine (strings_Contains.calls a0_9 (strOfNums [a0_0]) true _ HA.out).mono ?_; rintro e w7 ⟨rfl,hdw7⟩))
     exact bodyPost_ret (v := .tuple #[.string ⟨#[]⟩, .int .i64 10]) (by simp [results,Tryd.results34,go_sem]) rfl ⟨rfl,drawn_below hdw7 bW.out⟩
    | false =>
     rw [if_neg (by decide)] at hw2
     obtain ⟨cb,hb,hw3⟩:=Option.bind_eq_some_iff.1 hw2
     clear hw2
     have HBB:=Lib.hid hb
     clear hb
     cases cb with
     | true =>
      have hw4:some none=some res:=hw3
      obtain rfl:=Option.some.inj hw4
      have h3:=H3.out
      simp only [Option.some.injEq,Prod.mk.injEq] at h3
      obtain ⟨rfl,rfl⟩:=h3
      clear hw3 hw4
      go_wp2_with (first | (go_at_call 46; with_reducible refine (text_5 _ _).mono ?_; rintro e w6 ⟨rfl,rfl⟩) | (go_at_call 58; with_reducible refine (strings_Contains.calls a0_9 (strOfNums [a0_0]) false _ HA.out).mono ?_; rintro e w7 ⟨rfl,hdw7⟩) | (go_at_call 58; with_reducible refine (strings_Contains.calls a0_9 ⟨#[13]⟩ true _ HBB.out).mono ?_; rintro e w8 ⟨rfl,hdw8⟩))
      exact bodyPost_ret (v := .tuple #[.string ⟨#[]⟩, .int .i64 10]) (by simp [results,Tryd.results34,go_sem]) rfl ⟨rfl,drawn_below hdw8 (drawn_below hdw7 bW.out)⟩
     | false =>
      rw [if_neg (by decide)] at hw3
      have HW:=Lib.hid hw3
      clear hw3
      go_wp2_with (first
       | (go_at_call 46; with_reducible refine (text_5 _ _).mono ?_; rintro e w6 ⟨rfl,rfl⟩)
       | (go_at_call 58; with_reducible refine (strings_Contains.calls a0_9 (strOfNums [a0_0]) false _ HA.out).mono ?_; rintro e w7 ⟨rfl,hdw7⟩)
       | (go_at_call 58; with_reducible refine (strings_Contains.calls a0_9 ⟨#[13]⟩ false _ HBB.out).mono ?_; rintro e w8 ⟨rfl,hdw8⟩; have z8:=Lib.hid (show w8.heap[w.heap.size]?=some (.cells #[.int .u8 a0_0, .int .u8 a0_1, .int .u8 a0_2, .int .u8 a0_3, .int .u8 a0_4, .string a0_5, .string a0_6, .string a0_7, .string a0_8, .string a0_9, .string a0_10, .string a0_11, .string a0_12, .string a0_13, .string a0_14] 27 (0,0)) by rw [drawn_heap hdw8,drawn_heap hdw7]; exact heap_old _ GZ.out); have b8:=Lib.hid (drawn_below hdw8 (drawn_below hdw7 bW.out)); have o8:=Lib.hid (drawn_owns hdw8 (drawn_owns hdw7 (GO.out.alloc _))); clear hdw8 hdw7 cy)
       | (at_builtin; go_loud (refine wpList_append_own _ rfl _ _ 53 rfl (w.heap.size + 1) 9 i0 (Value.string ⟨#[]⟩) 1 16 Tryd.underlying53 hi hy0 hy1 hy2 rfl (by decide) u5 l.length (encs Value.string l) rfl (o8.out.alloc _) ⟨w8.heap.size,0,none⟩ 1 1 [Value.string a0_9] rfl rfl (cell_one_new _ _ _) (by intro u hu; simp at hu; subst hu; rfl) (by unfold maxLen; omega) (by omega) (by have:=blk_lt z8.out; simp; omega) ?_); intro v' w9 hown' hgrow _; obtain ⟨g',cap',rfl⟩:=ownsRow_succ hown'; have z9:=Lib.hid ((hgrow.block w.heap.size (by have:=blk_lt z8.out; simp; omega) (fun e=>by have:=(o8.out.lt _ e.symm).1; omega)).trans (heap_old _ z8.out)); have b9:=Lib.hid ((b8.out.alloc b8.out.size _).grown hgrow (by have:=b8.out.size; simp; omega) (fun k e=>by have:=(o8.out.lt _ e).1; omega)); have O9:=Lib.hid hown'; clear hown' hgrow))
      all_goals
       rename_i hem
       have hn3:l.length=6:=hln
       refine ⟨⟨5,l ++ [a0_9],(if a0_9.toList.isEmpty=true then m else l.length + 1),by decide,rfl,?_,?_,by rw [List.length_append,hn3]; rfl,?_,HW.out,z9.out,b9.out⟩,by simp [Go.RowKit.intOf]⟩
       ·first
        | (have he:a0_9.toList.isEmpty=true:=(by simpa using hem); rw [if_pos he])
        | (have he:a0_9.toList.isEmpty=false:=(by simpa using hem); rw [if_neg (by rw [he]; decide),hn3]; rfl)
       ·rw [List.length_append,List.length_singleton]; split <;> omega
       ·have O:=O9.out
        rw [hn3] at O
        rw [List.length_append,hn3,encs_append]
        exact O
   ·have hw:wloop (strOfNums [a0_0]) (a0_10 :: [a0_11,a0_12,a0_13,a0_14]) l m=some res:=HL.out
    unfold wloop at hw
    obtain ⟨ca,ha,hw2⟩:=Option.bind_eq_some_iff.1 hw
    clear hw
    have HA:=Lib.hid ha
    clear ha
    have ix:=texts_at5
    have cy:=blk_cell GZ.out 10
    simp only [List.getElem?_toArray,List.getElem?_cons_zero,List.getElem?_cons_succ] at cy
    have bW:=Lib.hid (GB.out.alloc GB.out.size (.cells #[.func (.func 47) #[] #[]] 64))
    cases ca with
    | true =>
     have hw3:some none=some res:=hw2
     obtain rfl:=Option.some.inj hw3
     have h3:=H3.out
     simp only [Option.some.injEq,Prod.mk.injEq] at h3
     obtain ⟨rfl,rfl⟩:=h3
     clear hw2 hw3
     go_wp2_with (first | (go_at_call 47; with_reducible refine (text_6 _ _).mono ?_; rintro e w6 ⟨rfl,rfl⟩) | (go_at_call 58; with_reducible refine (strings_Contains.calls a0_10 (strOfNums [a0_0]) true _ HA.out).mono ?_; rintro e w7 ⟨rfl,hdw7⟩))
     exact bodyPost_ret (v := .tuple #[.string ⟨#[]⟩, .int .i64 10]) (by simp [results,Tryd.results34,go_sem]) rfl ⟨rfl,drawn_below hdw7 bW.out⟩
    | false =>
     rw [if_neg (by decide)] at hw2
     obtain ⟨cb,hb,hw3⟩:=Option.bind_eq_some_iff.1 hw2
     clear hw2
     have HBB:=Lib.hid hb
     clear hb
     cases cb with
     | true =>
      have hw4:some none=some res:=hw3
      obtain rfl:=Option.some.inj hw4
      have h3:=H3.out
      simp only [Option.some.injEq,Prod.mk.injEq] at h3
      obtain ⟨rfl,rfl⟩:=h3
      clear hw3 hw4
      go_wp2_with (first | (go_at_call 47; with_reducible refine (text_6 _ _).mono ?_; rintro e w6 ⟨rfl,rfl⟩) | (go_at_call 58; with_reducible refine (strings_Contains.calls a0_10 (strOfNums [a0_0]) false _ HA.out).mono ?_; rintro e w7 ⟨rfl,hdw7⟩) | (go_at_call 58; with_reducible refine (strings_Contains.calls a0_10 ⟨#[13]⟩ true _ HBB.out).mono ?_; rintro e w8 ⟨rfl,hdw8⟩))
      exact bodyPost_ret (v := .tuple #[.string ⟨#[]⟩, .int .i64 10]) (by simp [results,Tryd.results34,go_sem]) rfl ⟨rfl,drawn_below hdw8 (drawn_below hdw7 bW.out)⟩
     | false =>
      rw [if_neg (by decide)] at hw3
      have HW:=Lib.hid hw3
      clear hw3
      go_wp2_with (first
       | (go_at_call 47; with_reducible refine (text_6 _ _).mono ?_; rintro e w6 ⟨rfl,rfl⟩)
       | (go_at_call 58; with_reducible refine (strings_Contains.calls a0_10 (strOfNums [a0_0]) false _ HA.out).mono ?_; rintro e w7 ⟨rfl,hdw7⟩)
       | (go_at_call 58; with_reducible refine (strings_Contains.calls a0_10 ⟨#[13]⟩ false _ HBB.out).mono ?_; rintro e w8 ⟨rfl,hdw8⟩; have z8:=Lib.hid (show w8.heap[w.heap.size]?=some (.cells #[.int .u8 a0_0, .int .u8 a0_1, .int .u8 a0_2, .int .u8 a0_3, .int .u8 a0_4, .string a0_5, .string a0_6, .string a0_7, .string a0_8, .string a0_9, .string a0_10, .string a0_11, .string a0_12, .string a0_13, .string a0_14] 27 (0,0)) by rw [drawn_heap hdw8,drawn_heap hdw7]; exact heap_old _ GZ.out); have b8:=Lib.hid (drawn_below hdw8 (drawn_below hdw7 bW.out)); have o8:=Lib.hid (drawn_owns hdw8 (drawn_owns hdw7 (GO.out.alloc _))); clear hdw8 hdw7 cy)
       | (at_builtin; go_loud (refine wpList_append_own _ rfl _ _ 53 rfl (w.heap.size + 1) 9 i0 (Value.string ⟨#[]⟩) 1 16 Tryd.underlying53 hi hy0 hy1 hy2 rfl (by decide) u5 l.length (encs Value.string l) rfl (o8.out.alloc _) ⟨w8.heap.size,0,none⟩ 1 1 [Value.string a0_10] rfl rfl (cell_one_new _ _ _) (by intro u hu; simp at hu; subst hu; rfl) (by unfold maxLen; omega) (by omega) (by have:=blk_lt z8.out; simp; omega) ?_); intro v' w9 hown' hgrow _; obtain ⟨g',cap',rfl⟩:=ownsRow_succ hown'; have z9:=Lib.hid ((hgrow.block w.heap.size (by have:=blk_lt z8.out; simp; omega) (fun e=>by have:=(o8.out.lt _ e.symm).1; omega)).trans (heap_old _ z8.out)); have b9:=Lib.hid ((b8.out.alloc b8.out.size _).grown hgrow (by have:=b8.out.size; simp; omega) (fun k e=>by have:=(o8.out.lt _ e).1; omega)); have O9:=Lib.hid hown'; clear hown' hgrow))
      all_goals
       rename_i hem
       have hn3:l.length=7:=hln
       refine ⟨⟨6,l ++ [a0_10],(if a0_10.toList.isEmpty=true then m else l.length + 1),by decide,rfl,?_,?_,by rw [List.length_append,hn3]; rfl,?_,HW.out,z9.out,b9.out⟩,by simp [Go.RowKit.intOf]⟩
       ·first
        | (have he:a0_10.toList.isEmpty=true:=(by simpa using hem); rw [if_pos he])
        | (have he:a0_10.toList.isEmpty=false:=(by simpa using hem); rw [if_neg (by rw [he]; decide),hn3]; rfl)
       ·rw [List.length_append,List.length_singleton]; split <;> omega
       ·have O:=O9.out
        rw [hn3] at O
        rw [List.length_append,hn3,encs_append]
        exact O
   ·have hw:wloop (strOfNums [a0_0]) (a0_11 :: [a0_12,a0_13,a0_14]) l m=some res:=HL.out
    unfold wloop at hw
    obtain ⟨ca,ha,hw2⟩:=Option.bind_eq_some_iff.1 hw
    clear hw
    have HA:=Lib.hid ha
    clear ha
    have ix:=texts_at6
    have cy:=blk_cell GZ.out 11
    simp only [List.getElem?_toArray,List.getElem?_cons_zero,List.getElem?_cons_succ] at cy
    have bW:=Lib.hid (GB.out.alloc GB.out.size (.cells #[.func (.func 48) #[] #[]] 64))
    cases ca with
    | true =>
     have hw3:some none=some res:=hw2
     obtain rfl:=Option.some.inj hw3
     have h3:=H3.out
     simp only [Option.some.injEq,Prod.mk.injEq] at h3
     obtain ⟨rfl,rfl⟩:=h3
     clear hw2 hw3
     go_wp2_with (first | (go_at_call 48; with_reducible refine (text_7 _ _).mono ?_; rintro e w6 ⟨rfl,rfl⟩) | (go_at_call 58; with_reducible refine (strings_Contains.calls a0_11 (strOfNums [a0_0]) true _ HA.out).mono ?_; rintro e w7 ⟨rfl,hdw7⟩))
     exact bodyPost_ret (v := .tuple #[.string ⟨#[]⟩, .int .i64 10]) (by simp [results,Tryd.results34,go_sem]) rfl ⟨rfl,drawn_below hdw7 bW.out⟩
    | false =>
     rw [if_neg (by decide)] at hw2
     obtain ⟨cb,hb,hw3⟩:=Option.bind_eq_some_iff.1 hw2
     clear hw2
     have HBB:=Lib.hid hb
     clear hb
     cases cb with
     | true =>
      have hw4:some none=some res:=hw3
      obtain rfl:=Option.some.inj hw4
      have h3:=H3.out
      simp only [Option.some.injEq,Prod.mk.injEq] at h3
      obtain ⟨rfl,rfl⟩:=h3
      clear hw3 hw4
      go_wp2_with (first | (go_at_call 48; with_reducible refine (text_7 _ _).mono ?_; rintro e w6 ⟨rfl,rfl⟩) | (go_at_call 58; with_reducible refine (strings_Contains.calls a0_11 (strOfNums [a0_0]) false _ HA.out).mono ?_; rintro e w7 ⟨rfl,hdw7⟩) | (go_at_call 58; with_reducible refine (strings_Contains.calls a0_11 ⟨#[13]⟩ true _ HBB.out).mono ?_; rintro e w8 ⟨rfl,hdw8⟩))
      exact bodyPost_ret (v := .tuple #[.string ⟨#[]⟩, .int .i64 10]) (by simp [results,Tryd.results34,go_sem]) rfl ⟨rfl,drawn_below hdw8 (drawn_below hdw7 bW.out)⟩
     | false =>
      rw [if_neg (by decide)] at hw3
      have HW:=Lib.hid hw3
      clear hw3
      go_wp2_with (first
       | (go_at_call 48; with_reducible refine (text_7 _ _).mono ?_; rintro e w6 ⟨rfl,rfl⟩)
       | (go_at_call 58; with_reducible refine (strings_Contains.calls a0_11 (strOfNums [a0_0]) false _ HA.out).mono ?_; rintro e w7 ⟨rfl,hdw7⟩)
       | (go_at_call 58; with_reducible refine (strings_Contains.calls a0_11 ⟨#[13]⟩ false _ HBB.out).mono ?_; rintro e w8 ⟨rfl,hdw8⟩; have z8:=Lib.hid (show w8.heap[w.heap.size]?=some (.cells #[.int .u8 a0_0, .int .u8 a0_1, .int .u8 a0_2, .int .u8 a0_3, .int .u8 a0_4, .string a0_5, .string a0_6, .string a0_7, .string a0_8, .string a0_9, .string a0_10, .string a0_11, .string a0_12, .string a0_13, .string a0_14] 27 (0,0)) by rw [drawn_heap hdw8,drawn_heap hdw7]; exact heap_old _ GZ.out); have b8:=Lib.hid (drawn_below hdw8 (drawn_below hdw7 bW.out)); have o8:=Lib.hid (drawn_owns hdw8 (drawn_owns hdw7 (GO.out.alloc _))); clear hdw8 hdw7 cy)
       | (at_builtin; go_loud (refine wpList_append_own _ rfl _ _ 53 rfl (w.heap.size + 1) 9 i0 (Value.string ⟨#[]⟩) 1 16 Tryd.underlying53 hi hy0 hy1 hy2 rfl (by decide) u5 l.length (encs Value.string l) rfl (o8.out.alloc _) ⟨w8.heap.size,0,none⟩ 1 1 [Value.string a0_11] rfl rfl (cell_one_new _ _ _) (by intro u hu; simp at hu; subst hu; rfl) (by unfold maxLen; omega) (by omega) (by have:=blk_lt z8.out; simp; omega) ?_); intro v' w9 hown' hgrow _; obtain ⟨g',cap',rfl⟩:=ownsRow_succ hown'; have z9:=Lib.hid ((hgrow.block w.heap.size (by have:=blk_lt z8.out; simp; omega) (fun e=>by have:=(o8.out.lt _ e.symm).1; omega)).trans (heap_old _ z8.out)); have b9:=Lib.hid ((b8.out.alloc b8.out.size _).grown hgrow (by have:=b8.out.size; simp; omega) (fun k e=>by have:=(o8.out.lt _ e).1; omega)); have O9:=Lib.hid hown'; clear hown' hgrow))
      all_goals
       rename_i hem
       have hn3:l.length=8:=hln
       refine ⟨⟨7,l ++ [a0_11],(if a0_11.toList.isEmpty=true then m else l.length + 1),by decide,rfl,?_,?_,by rw [List.length_append,hn3]; rfl,?_,HW.out,z9.out,b9.out⟩,by simp [Go.RowKit.intOf]⟩
       ·first
        | (have he:a0_11.toList.isEmpty=true:=(by simpa using hem); rw [if_pos he])
        | (have he:a0_11.toList.isEmpty=false:=(by simpa using hem); rw [if_neg (by rw [he]; decide),hn3]; rfl)
       ·rw [List.length_append,List.length_singleton]; split <;> omega
       ·have O:=O9.out
        rw [hn3] at O
        rw [List.length_append,hn3,encs_append]
        exact O
   ·have hw:wloop (strOfNums [a0_0]) (a0_12 :: [a0_13,a0_14]) l m=some res:=HL.out
    unfold wloop at hw
    obtain ⟨ca,ha,hw2⟩:=Option.bind_eq_some_iff.1 hw
    clear hw
    have HA:=Lib.hid ha
    clear ha
    have ix:=texts_at7
    have cy:=blk_cell GZ.out 12
    simp only [List.getElem?_toArray,List.getElem?_cons_zero,List.getElem?_cons_succ] at cy
    have bW:=Lib.hid (GB.out.alloc GB.out.size (.cells #[.func (.func 49) #[] #[]] 64))
    cases ca with
    | true =>
     have hw3:some none=some res:=hw2
     obtain rfl:=Option.some.inj hw3
     have h3:=H3.out
     simp only [Option.some.injEq,Prod.mk.injEq] at h3
     obtain ⟨rfl,rfl⟩:=h3
     clear hw2 hw3
     go_wp2_with (first | (go_at_call 49; with_reducible refine (text_8 _ _).mono ?_; rintro e w6 ⟨rfl,rfl⟩) | (go_at_call 58; with_reducible refine (strings_Contains.calls a0_12 (strOfNums [a0_0]) true _ HA.out).mono ?_; rintro e w7 ⟨rfl,hdw7⟩))
     exact bodyPost_ret (v := .tuple #[.string ⟨#[]⟩, .int .i64 10]) (by simp [results,Tryd.results34,go_sem]) rfl ⟨rfl,drawn_below hdw7 bW.out⟩
    | false =>
     rw [if_neg (by decide)] at hw2
     obtain ⟨cb,hb,hw3⟩:=Option.bind_eq_some_iff.1 hw2
     clear hw2
     have HBB:=Lib.hid hb
     clear hb
     cases cb with
     | true =>
      have hw4:some none=some res:=hw3
      obtain rfl:=Option.some.inj hw4
      have h3:=H3.out
      simp only [Option.some.injEq,Prod.mk.injEq] at h3
      obtain ⟨rfl,rfl⟩:=h3
      clear hw3 hw4
      go_wp2_with (first | (go_at_call 49; with_reducible refine (text_8 _ _).mono ?_; rintro e w6 ⟨rfl,rfl⟩) | (go_at_call 58; with_reducible refine (strings_Contains.calls a0_12 (strOfNums [a0_0]) false _ HA.out).mono ?_; rintro e w7 ⟨rfl,hdw7⟩) | (go_at_call 58; with_reducible refine (strings_Contains.calls a0_12 ⟨#[13]⟩ true _ HBB.out).mono ?_; rintro e w8 ⟨rfl,hdw8⟩))
      exact bodyPost_ret (v := .tuple #[.string ⟨#[]⟩, .int .i64 10]) (by simp [results,Tryd.results34,go_sem]) rfl ⟨rfl,drawn_below hdw8 (drawn_below hdw7 bW.out)⟩
     | false =>
      rw [if_neg (by decide)] at hw3
      have HW:=Lib.hid hw3
      clear hw3
      go_wp2_with (first
       | (go_at_call 49; with_reducible refine (text_8 _ _).mono ?_; rintro e w6 ⟨rfl,rfl⟩)
       | (go_at_call 58; with_reducible refine (strings_Contains.calls a0_12 (strOfNums [a0_0]) false _ HA.out).mono ?_; rintro e w7 ⟨rfl,hdw7⟩)
       | (go_at_call 58; with_reducible refine (strings_Contains.calls a0_12 ⟨#[13]⟩ false _ HBB.out).mono ?_; rintro e w8 ⟨rfl,hdw8⟩; have z8:=Lib.hid (show w8.heap[w.heap.size]?=some (.cells #[.int .u8 a0_0, .int .u8 a0_1, .int .u8 a0_2, .int .u8 a0_3, .int .u8 a0_4, .string a0_5, .string a0_6, .string a0_7, .string a0_8, .string a0_9, .string a0_10, .string a0_11, .string a0_12, .string a0_13, .string a0_14] 27 (0,0)) by rw [drawn_heap hdw8,drawn_heap hdw7]; exact heap_old _ GZ.out); have b8:=Lib.hid (drawn_below hdw8 (drawn_below hdw7 bW.out)); have o8:=Lib.hid (drawn_owns hdw8 (drawn_owns hdw7 (GO.out.alloc _))); clear hdw8 hdw7 cy)
       | (at_builtin; go_loud (refine wpList_append_own _ rfl _ _ 53 rfl (w.heap.size + 1) 9 i0 (Value.string ⟨#[]⟩) 1 16 Tryd.underlying53 hi hy0 hy1 hy2 rfl (by decide) u5 l.length (encs Value.string l) rfl (o8.out.alloc _) ⟨w8.heap.size,0,none⟩ 1 1 [Value.string a0_12] rfl rfl (cell_one_new _ _ _) (by intro u hu; simp at hu; subst hu; rfl) (by unfold maxLen; omega) (by omega) (by have:=blk_lt z8.out; simp; omega) ?_); intro v' w9 hown' hgrow _; obtain ⟨g',cap',rfl⟩:=ownsRow_succ hown'; have z9:=Lib.hid ((hgrow.block w.heap.size (by have:=blk_lt z8.out; simp; omega) (fun e=>by have:=(o8.out.lt _ e.symm).1; omega)).trans (heap_old _ z8.out)); have b9:=Lib.hid ((b8.out.alloc b8.out.size _).grown hgrow (by have:=b8.out.size; simp; omega) (fun k e=>by have:=(o8.out.lt _ e).1; omega)); have O9:=Lib.hid hown'; clear hown' hgrow))
      all_goals
       rename_i hem
       have hn3:l.length=9:=hln
       refine ⟨⟨8,l ++ [a0_12],(if a0_12.toList.isEmpty=true then m else l.length + 1),by decide,rfl,?_,?_,by rw [List.length_append,hn3]; rfl,?_,HW.out,z9.out,b9.out⟩,by simp [Go.RowKit.intOf]⟩
       ·first
        | (have he:a0_12.toList.isEmpty=true:=(by simpa using hem); rw [if_pos he])
        | (have he:a0_12.toList.isEmpty=false:=(by simpa using hem); rw [if_neg (by rw [he]; decide),hn3]; rfl)
       ·rw [List.length_append,List.length_singleton]; split <;> omega
       ·have O:=O9.out
        rw [hn3] at O
        rw [List.length_append,hn3,encs_append]
        exact O
   ·have hw:wloop (strOfNums [a0_0]) (a0_13 :: [a0_14]) l m=some res:=HL.out
    unfold wloop at hw
    obtain ⟨ca,ha,hw2⟩:=Option.bind_eq_some_iff.1 hw
    clear hw
    have HA:=Lib.hid ha
    clear ha
    have ix:=texts_at8
    have cy:=blk_cell GZ.out 13
    simp only [List.getElem?_toArray,List.getElem?_cons_zero,List.getElem?_cons_succ] at cy
    have bW:=Lib.hid (GB.out.alloc GB.out.size (.cells #[.func (.func 50) #[] #[]] 64))
    cases ca with
    | true =>
     have hw3:some none=some res:=hw2
     obtain rfl:=Option.some.inj hw3
     have h3:=H3.out
     simp only [Option.some.injEq,Prod.mk.injEq] at h3
     obtain ⟨rfl,rfl⟩:=h3
     clear hw2 hw3
     go_wp2_with (first | (go_at_call 50; with_reducible refine (text_9 _ _).mono ?_; rintro e w6 ⟨rfl,rfl⟩) | (go_at_call 58; with_reducible refine (strings_Contains.calls a0_13 (strOfNums [a0_0]) true _ HA.out).mono ?_; rintro e w7 ⟨rfl,hdw7⟩))
     exact bodyPost_ret (v := .tuple #[.string ⟨#[]⟩, .int .i64 10]) (by simp [results,Tryd.results34,go_sem]) rfl ⟨rfl,drawn_below hdw7 bW.out⟩
    | false =>
     rw [if_neg (by decide)] at hw2
     obtain ⟨cb,hb,hw3⟩:=Option.bind_eq_some_iff.1 hw2
     clear hw2
     have HBB:=Lib.hid hb
     clear hb
     cases cb with
     | true =>
      have hw4:some none=some res:=hw3
      obtain rfl:=Option.some.inj hw4
      have h3:=H3.out
      simp only [Option.some.injEq,Prod.mk.injEq] at h3
      obtain ⟨rfl,rfl⟩:=h3
      clear hw3 hw4
      go_wp2_with (first | (go_at_call 50; with_reducible refine (text_9 _ _).mono ?_; rintro e w6 ⟨rfl,rfl⟩) | (go_at_call 58; with_reducible refine (strings_Contains.calls a0_13 (strOfNums [a0_0]) false _ HA.out).mono ?_; rintro e w7 ⟨rfl,hdw7⟩) | (go_at_call 58; with_reducible refine (strings_Contains.calls a0_13 ⟨#[13]⟩ true _ HBB.out).mono ?_; rintro e w8 ⟨rfl,hdw8⟩))
      exact bodyPost_ret (v := .tuple #[.string ⟨#[]⟩, .int .i64 10]) (by simp [results,Tryd.results34,go_sem]) rfl ⟨rfl,drawn_below hdw8 (drawn_below hdw7 bW.out)⟩
     | false =>
      rw [if_neg (by decide)] at hw3
      have HW:=Lib.hid hw3
      clear hw3
      go_wp2_with (first
       | (go_at_call 50; with_reducible refine (text_9 _ _).mono ?_; rintro e w6 ⟨rfl,rfl⟩)
       | (go_at_call 58; with_reducible refine (strings_Contains.calls a0_13 (strOfNums [a0_0]) false _ HA.out).mono ?_; rintro e w7 ⟨rfl,hdw7⟩)
       | (go_at_call 58; with_reducible refine (strings_Contains.calls a0_13 ⟨#[13]⟩ false _ HBB.out).mono ?_; rintro e w8 ⟨rfl,hdw8⟩; have z8:=Lib.hid (show w8.heap[w.heap.size]?=some (.cells #[.int .u8 a0_0, .int .u8 a0_1, .int .u8 a0_2, .int .u8 a0_3, .int .u8 a0_4, .string a0_5, .string a0_6, .string a0_7, .string a0_8, .string a0_9, .string a0_10, .string a0_11, .string a0_12, .string a0_13, .string a0_14] 27 (0,0)) by rw [drawn_heap hdw8,drawn_heap hdw7]; exact heap_old _ GZ.out); have b8:=Lib.hid (drawn_below hdw8 (drawn_below hdw7 bW.out)); have o8:=Lib.hid (drawn_owns hdw8 (drawn_owns hdw7 (GO.out.alloc _))); clear hdw8 hdw7 cy)
       | (at_builtin; go_loud (refine wpList_append_own _ rfl _ _ 53 rfl (w.heap.size + 1) 9 i0 (Value.string ⟨#[]⟩) 1 16 Tryd.underlying53 hi hy0 hy1 hy2 rfl (by decide) u5 l.length (encs Value.string l) rfl (o8.out.alloc _) ⟨w8.heap.size,0,none⟩ 1 1 [Value.string a0_13] rfl rfl (cell_one_new _ _ _) (by intro u hu; simp at hu; subst hu; rfl) (by unfold maxLen; omega) (by omega) (by have:=blk_lt z8.out; simp; omega) ?_); intro v' w9 hown' hgrow _; obtain ⟨g',cap',rfl⟩:=ownsRow_succ hown'; have z9:=Lib.hid ((hgrow.block w.heap.size (by have:=blk_lt z8.out; simp; omega) (fun e=>by have:=(o8.out.lt _ e.symm).1; omega)).trans (heap_old _ z8.out)); have b9:=Lib.hid ((b8.out.alloc b8.out.size _).grown hgrow (by have:=b8.out.size; simp; omega) (fun k e=>by have:=(o8.out.lt _ e).1; omega)); have O9:=Lib.hid hown'; clear hown' hgrow))
      all_goals
       rename_i hem
       have hn3:l.length=10:=hln
       refine ⟨⟨9,l ++ [a0_13],(if a0_13.toList.isEmpty=true then m else l.length + 1),by decide,rfl,?_,?_,by rw [List.length_append,hn3]; rfl,?_,HW.out,z9.out,b9.out⟩,by simp [Go.RowKit.intOf]⟩
       ·first
        | (have he:a0_13.toList.isEmpty=true:=(by simpa using hem); rw [if_pos he])
        | (have he:a0_13.toList.isEmpty=false:=(by simpa using hem); rw [if_neg (by rw [he]; decide),hn3]; rfl)
       ·rw [List.length_append,List.length_singleton]; split <;> omega
       ·have O:=O9.out
        rw [hn3] at O
        rw [List.length_append,hn3,encs_append]
        exact O
   ·have hw:wloop (strOfNums [a0_0]) (a0_14 :: []) l m=some res:=HL.out
    unfold wloop at hw
    obtain ⟨ca,ha,hw2⟩:=Option.bind_eq_some_iff.1 hw
    clear hw
    have HA:=Lib.hid ha
    clear ha
    have ix:=texts_at9
    have cy:=blk_cell GZ.out 14
    simp only [List.getElem?_toArray,List.getElem?_cons_zero,List.getElem?_cons_succ] at cy
    have bW:=Lib.hid (GB.out.alloc GB.out.size (.cells #[.func (.func 51) #[] #[]] 64))
    cases ca with
    | true =>
     have hw3:some none=some res:=hw2
     obtain rfl:=Option.some.inj hw3
     have h3:=H3.out
     simp only [Option.some.injEq,Prod.mk.injEq] at h3
     obtain ⟨rfl,rfl⟩:=h3
     clear hw2 hw3
     go_wp2_with (first | (go_at_call 51; with_reducible refine (text_10 _ _).mono ?_; rintro e w6 ⟨rfl,rfl⟩) | (go_at_call 58; with_reducible refine (strings_Contains.calls a0_14 (strOfNums [a0_0]) true _ HA.out).mono ?_; rintro e w7 ⟨rfl,hdw7⟩))
     exact bodyPost_ret (v := .tuple #[.string ⟨#[]⟩, .int .i64 10]) (by simp [results,Tryd.results34,go_sem]) rfl ⟨rfl,drawn_below hdw7 bW.out⟩
    | false =>
     rw [if_neg (by decide)] at hw2
     obtain ⟨cb,hb,hw3⟩:=Option.bind_eq_some_iff.1 hw2
     clear hw2
     have HBB:=Lib.hid hb
     clear hb
     cases cb with
     | true =>
      have hw4:some none=some res:=hw3
      obtain rfl:=Option.some.inj hw4
      have h3:=H3.out
      simp only [Option.some.injEq,Prod.mk.injEq] at h3
      obtain ⟨rfl,rfl⟩:=h3
      clear hw3 hw4
      go_wp2_with (first | (go_at_call 51; with_reducible refine (text_10 _ _).mono ?_; rintro e w6 ⟨rfl,rfl⟩) | (go_at_call 58; with_reducible refine (strings_Contains.calls a0_14 (strOfNums [a0_0]) false _ HA.out).mono ?_; rintro e w7 ⟨rfl,hdw7⟩) | (go_at_call 58; with_reducible refine (strings_Contains.calls a0_14 ⟨#[13]⟩ true _ HBB.out).mono ?_; rintro e w8 ⟨rfl,hdw8⟩))
      exact bodyPost_ret (v := .tuple #[.string ⟨#[]⟩, .int .i64 10]) (by simp [results,Tryd.results34,go_sem]) rfl ⟨rfl,drawn_below hdw8 (drawn_below hdw7 bW.out)⟩
     | false =>
      rw [if_neg (by decide)] at hw3
      have HW:=Lib.hid hw3
      clear hw3
      go_wp2_with (first
       | (go_at_call 51; with_reducible refine (text_10 _ _).mono ?_; rintro e w6 ⟨rfl,rfl⟩)
       | (go_at_call 58; with_reducible refine (strings_Contains.calls a0_14 (strOfNums [a0_0]) false _ HA.out).mono ?_; rintro e w7 ⟨rfl,hdw7⟩)
       | (go_at_call 58; with_reducible refine (strings_Contains.calls a0_14 ⟨#[13]⟩ false _ HBB.out).mono ?_; rintro e w8 ⟨rfl,hdw8⟩; have z8:=Lib.hid (show w8.heap[w.heap.size]?=some (.cells #[.int .u8 a0_0, .int .u8 a0_1, .int .u8 a0_2, .int .u8 a0_3, .int .u8 a0_4, .string a0_5, .string a0_6, .string a0_7, .string a0_8, .string a0_9, .string a0_10, .string a0_11, .string a0_12, .string a0_13, .string a0_14] 27 (0,0)) by rw [drawn_heap hdw8,drawn_heap hdw7]; exact heap_old _ GZ.out); have b8:=Lib.hid (drawn_below hdw8 (drawn_below hdw7 bW.out)); have o8:=Lib.hid (drawn_owns hdw8 (drawn_owns hdw7 (GO.out.alloc _))); clear hdw8 hdw7 cy)
       | (at_builtin; go_loud (refine wpList_append_own _ rfl _ _ 53 rfl (w.heap.size + 1) 9 i0 (Value.string ⟨#[]⟩) 1 16 Tryd.underlying53 hi hy0 hy1 hy2 rfl (by decide) u5 l.length (encs Value.string l) rfl (o8.out.alloc _) ⟨w8.heap.size,0,none⟩ 1 1 [Value.string a0_14] rfl rfl (cell_one_new _ _ _) (by intro u hu; simp at hu; subst hu; rfl) (by unfold maxLen; omega) (by omega) (by have:=blk_lt z8.out; simp; omega) ?_); intro v' w9 hown' hgrow _; obtain ⟨g',cap',rfl⟩:=ownsRow_succ hown'; have z9:=Lib.hid ((hgrow.block w.heap.size (by have:=blk_lt z8.out; simp; omega) (fun e=>by have:=(o8.out.lt _ e.symm).1; omega)).trans (heap_old _ z8.out)); have b9:=Lib.hid ((b8.out.alloc b8.out.size _).grown hgrow (by have:=b8.out.size; simp; omega) (fun k e=>by have:=(o8.out.lt _ e).1; omega)); have O9:=Lib.hid hown'; clear hown' hgrow))
      all_goals
       rename_i hem
       have hn3:l.length=11:=hln
       refine ⟨⟨10,l ++ [a0_14],(if a0_14.toList.isEmpty=true then m else l.length + 1),by decide,rfl,?_,?_,by rw [List.length_append,hn3]; rfl,?_,HW.out,z9.out,b9.out⟩,by simp [Go.RowKit.intOf]⟩
       ·first
        | (have he:a0_14.toList.isEmpty=true:=(by simpa using hem); rw [if_pos he])
        | (have he:a0_14.toList.isEmpty=false:=(by simpa using hem); rw [if_neg (by rw [he]; decide),hn3]; rfl)
       ·rw [List.length_append,List.length_singleton]; split <;> omega
       ·have O:=O9.out
        rw [hn3] at O
        rw [List.length_append,hn3,encs_append]
        exact O
   ·have hl12:l.length=11 + 1:=hln
    have GO2:=GO.out
    rw [hl12] at GO2
    obtain ⟨g',cap',rfl⟩:=ownsRow_succ GO2
    have hc12:12≤cap':=row_cap GO2
    have hw:some (some (l,m))=some res:=HL.out
    obtain rfl:=Option.some.inj hw
    obtain ⟨s,hs,hs2⟩:=Option.bind_eq_some_iff.1 H3.out
    simp only [Option.some.injEq,Prod.mk.injEq] at hs2
    obtain ⟨rfl,rfl⟩:=hs2
    have HS:=Lib.hid hs
    have CT:=Lib.hid (row_take GO2 hl12 (by decide) m (by omega))
    clear hs hw HL H3
    have ht : (l.take m).length=m:=by rw [List.length_take]; omega
    have hmc:m≤cap':=by omega
    have e0:=blk_cell GZ.out 0
    have e1:=blk_cell GZ.out 1
    have e2:=blk_cell GZ.out 2
    have e3:=blk_cell GZ.out 3
    have e4:=blk_cell GZ.out 4
    simp only [List.getElem?_toArray,List.getElem?_cons_zero,List.getElem?_cons_succ] at e0 e1 e2 e3 e4
    go_wp2_with fail
    refine start_ (n:=8) (S:=fun w'=>w'.cell? ⟨w.heap.size,0,none⟩=some (.int .u8 a0_0)∧w'.cell? ⟨w.heap.size,1,none⟩=some (.int .u8 a0_1)∧w'.cell? ⟨w.heap.size,2,none⟩=some (.int .u8 a0_2)∧w'.cell? ⟨w.heap.size,3,none⟩=some (.int .u8 a0_3)∧w'.cell? ⟨w.heap.size,4,none⟩=some (.int .u8 a0_4)) (ds:=[]) #[false,false,false,false,false,false,false,false] (by kernel_rfl) rfl rfl ⟨e0,e1,e2,e3,e4⟩ (fun hHeld=>?_)
    refine pure_ (i:=0) (N:=some 51) (v:=?_) (a':=?_) #[true,false,false,false,false,false,false,false] rfl rfl (by kernel_rfl) (fun _ _ _ h=>h) (Or.inl ⟨by rfl,?_⟩) ?_ ?_
    rotate_left
    ·intro w'
     go_simp
     with_reducible rfl
    rotate_left
    ·simp only [Act.put,sA_,s0_,s1_]
     rfl
    refine take_ (i:=1) (N:=some 52) (v:=?_) (a':=?_) #[true,true,false,false,false,false,false,false] rfl rfl (by kernel_rfl) (fun _ _ _ h=>h) (Or.inl ⟨by rfl,?_⟩) hHeld ?_ ?_
    rotate_left
    ·rintro w' ⟨s0,s1,s2,s3,s4⟩
     go_simp
     with_reducible rfl
    rotate_left
    ·simp only [Act.put,sA_,s0_,s1_]
     rfl
    refine pure_ (i:=2) (N:=some 53) (v:=?_) (a':=?_) #[true,true,true,false,false,false,false,false] rfl rfl (by kernel_rfl) (fun _ _ _ h=>h) (Or.inl ⟨by rfl,?_⟩) ?_ ?_
    rotate_left
    ·intro w'
     go_simp
     with_reducible rfl
    rotate_left
    ·simp only [Act.put,sA_,s0_,s1_]
     rfl
    refine pure_ (i:=3) (N:=some 54) (v:=?_) (a':=?_) #[true,true,true,true,false,false,false,false] rfl rfl (by kernel_rfl) (fun _ _ _ h=>h) (Or.inl ⟨by rfl,?_⟩) ?_ ?_
    rotate_left
    ·intro w'
     go_simp
     with_reducible rfl
    rotate_left
    ·simp only [Act.put,sA_,s0_,s1_]
     rfl
    refine pure_ (i:=4) (N:=some 55) (v:=?_) (a':=?_) #[true,true,true,true,true,false,false,false] rfl rfl (by kernel_rfl) (fun _ _ _ h=>h) (Or.inl ⟨by rfl,?_⟩) ?_ ?_
    rotate_left
    ·intro w'
     go_simp
     with_reducible rfl
    rotate_left
    ·simp only [Act.put,sA_,s0_,s1_]
     rfl
    refine one_ (i:=5) (N:=some 56) #[true,true,true,true,true,true,false,false] rfl rfl (by kernel_rfl) (by decide) (fun K hK=>?_)
    refine goes_ Tryd.func36 (by kernel_rfl) rfl #[.agg #[.int .u8 a0_0, .int .u8 a0_1, .int .u8 a0_2, .int .u8 a0_3, .int .u8 a0_4], .string ⟨#[77,83,72]⟩, .slice (some ⟨g',0,none⟩) m cap'] (by rfl) rfl rfl (by (try simp only [List.map_toArray,List.map_cons,List.map_nil]); first | done | rfl) ?_
    have CALL:=segment_Make.calls a0_0 a0_1 a0_2 a0_3 a0_4 ⟨#[77,83,72]⟩ _ cap' (l.take m) s _ (Kd.C_drew CT.out) (by omega) HS.out
    rw [ht] at CALL
    with_reducible refine CALL.mono ?_
    clear CALL
    rintro e w7 ⟨rfl,hb7⟩
    obtain ⟨hc,hf⟩:=below_reads hb7
    refine ⟨_,rfl,?_⟩
    refine hK.out _ _ ⟨(hc _ _ s1).trans e0,(hc _ _ s1).trans e1,(hc _ _ s1).trans e2,(hc _ _ s1).trans e3,(hc _ _ s1).trans e4⟩ (fun hHeld=>?_)
    clear hK K
    refine norm_ (a':=?_) ?_ ?_
    rotate_left
    ·show Act.put _ (some 56) _=_
     simp only [Act.put,sA_,s0_,s1_]
     rfl
    refine pure_ (i:=6) (N:=some 2) (v:=?_) (a':=?_) #[true,true,true,true,true,true,true,false] rfl rfl (by kernel_rfl) (fun _ _ _ h=>h) (Or.inl ⟨by rfl,?_⟩) ?_ ?_
    rotate_left
    ·intro w'
     go_simp
     with_reducible rfl
    rotate_left
    ·simp only [Act.put,sA_,s0_,s1_]
     rfl
    refine pure_ (i:=7) (N:=some 3) (v:=?_) (a':=?_) #[true,true,true,true,true,true,true,true] rfl rfl (by kernel_rfl) (fun _ _ _ h=>h) (Or.inl ⟨by rfl,?_⟩) ?_ ?_
    rotate_left
    ·intro w'
     go_simp
     with_reducible rfl
    rotate_left
    ·simp only [Act.put,sA_,s0_,s1_]
     rfl
    refine done_ (by kernel_rfl) ?_
    go_wp2_with fail
    exact bodyPost_ret (v := .tuple #[.string s, .int .i64 0]) (by simp [results,Tryd.results34,go_sem]) rfl ⟨rfl,below_step (below_drew1 GB.out) hb7⟩
end
theorem msh_Write.mono : ∀ a0_0 a0_1 a0_2 a0_3 a0_4 a0_5 a0_6 a0_7 a0_8 a0_9 a0_10 a0_11 a0_12 a0_13 a0_14 k,LeO (msh_Write.f k a0_0 a0_1 a0_2 a0_3 a0_4 a0_5 a0_6 a0_7 a0_8 a0_9 a0_10 a0_11 a0_12 a0_13 a0_14) (msh_Write.f (k + 1) a0_0 a0_1 a0_2 a0_3 a0_4 a0_5 a0_6 a0_7 a0_8 a0_9 a0_10 a0_11 a0_12 a0_13 a0_14):=by
 intro a0_0 a0_1 a0_2 a0_3 a0_4 a0_5 a0_6 a0_7 a0_8 a0_9 a0_10 a0_11 a0_12 a0_13 a0_14 k
 unfold msh_Write.f
 exact LeO.bind (delim_Right.mono _ _ _ _ _ k) (fun _=>LeO.refl _)


end Go.Proofs.YtljdbphojcglgaaDoor.PF
