import Derived.Test.YtljdbphojcglgaaDoorPFx0
import Derived.Test.YtljdbphojcglgaaDoorPFx3
namespace Go.Proofs.YtljdbphojcglgaaDoor.PF
open Go.RowKit Go.Proofs.YtljdbphojcglgaaDoorW.PrintWords Go.Proofs.YtljdbphojcglgaaDoorW.PrintLast Go.Proofs.YtljdbphojcglgaaDoorW.PrintMore
set_option maxHeartbeats 8000000
set_option maxRecDepth 100000
attribute [local go_sem] max2_int min2_int max_two min_two max_three min_three max_four min_four
set_option linter.unusedVariables false
set_option linter.unusedSimpArgs false

/-! ### delim_Read: function 25 -/
def delim_Read.f (k : Nat) (l0 : List Int) : Option (Int × Int × Int × Int × Int × Int) :=
 if (l0.length : Int) < 9 then some (0,0,0,0,0,7)
 else if Lib.bytesOf (l0.take 3)=[77,83,72] then
  (delim_Right.f k (rd l0 3) (rd l0 4) (rd l0 5) (rd l0 6) (rd l0 7)).bind fun t =>
   if t=true then (if rd l0 8=rd l0 3 then some (rd l0 3,rd l0 4,rd l0 5,rd l0 6,rd l0 7,0) else if rd l0 8=13 then some (rd l0 3,rd l0 4,rd l0 5,rd l0 6,rd l0 7,0) else some (0,0,0,0,0,11))
   else some (0,0,0,0,0,11)
 else some (0,0,0,0,0,11)
theorem delim_Read.mono : ∀ a0 k,LeO (delim_Read.f k a0) (delim_Read.f (k + 1) a0):=by
 intro a0 k
 unfold delim_Read.f
 repeat' first
   | (with_reducible exact delim_Right.mono _ _ _ _ _ _)
   | (with_reducible exact LeO.refl _)
   | (with_reducible exact LeO.none _)
   | (with_reducible refine LeO.ite ?_ ?_)
   | (with_reducible refine LeO.bind ?_ (fun _=>?_))
section
attribute [local go_sem] alloc_dN setCell_dN shape_dN
theorem delim_Read.calls (k : Nat) (A0 : Option Addr) (c0 : Nat) (l0 : List Int) (r1 : Int) (r2 : Int) (r3 : Int) (r4 : Int) (r5 : Int) (r6 : Int) (w : World) (hr0 : Kd.C (Kd.int .u8) w A0 l0.length l0) (hc0 : l0.length≤c0) (h : delim_Read.f k l0=some (r1,r2,r3,r4,r5,r6)) :
  Calls Tryd.prog 25 #[.slice A0 l0.length c0] w fun e w'=>e = .returned (.tuple #[.agg #[.int .u8 r1, .int .u8 r2, .int .u8 r3, .int .u8 r4, .int .u8 r5], .int .i64 r6])∧Below w.heap.size w w':=by
 unfold delim_Read.f at h
 by_cases hl : (l0.length : Int) < 9
 ·rw [if_pos hl] at h
  simp only [Option.some.injEq,Prod.mk.injEq] at h
  obtain ⟨rfl,rfl,rfl,rfl,rfl,rfl⟩:=h
  have hd:decide ((l0.length : Int) < 9)=true:=decide_eq_true hl
  clear hl
  go_enter Tryd.func25,Tryd.ntmps25
  go_wp2_with fail
  exact bodyPost_ret (v := .tuple #[.agg #[.int .u8 0, .int .u8 0, .int .u8 0, .int .u8 0, .int .u8 0], .int .i64 7]) (by simp [results,Tryd.results25,go_sem]) rfl ⟨rfl,(Below.refl _ _).alloc (Nat.le_refl _) _⟩
 ·rw [if_neg hl] at h
  have hd:decide ((l0.length : Int) < 9)=false:=decide_eq_false hl
  have hl9:9≤l0.length:=by omega
  have hlen : (l0.take 9).length=9:=by rw [List.length_take]; omega
  have ht:=C_take hr0 hl9
  rw [hlen] at ht
  have hX : ((w.alloc (.cells #[.int .u8 0, .int .u8 0, .int .u8 0, .int .u8 0, .int .u8 0] 25)).alloc (.cells (nums .u8 [77,83,72]).toArray 5 (3,4))).heap[w.heap.size + 1]?=some (.cells (nums .u8 [77,83,72]).toArray 5 (3,4)):=by
   have:=heap_new (w.alloc (.cells #[.int .u8 0, .int .u8 0, .int .u8 0, .int .u8 0, .int .u8 0] 25)) (.cells (nums .u8 [77,83,72]).toArray 5 (3,4))
   rwa [World.size_alloc] at this
  have hC3:=C_block (xs:=[77,83,72]) (by decide) hX
  have hbel:Below w.heap.size w ((w.alloc (.cells #[.int .u8 0, .int .u8 0, .int .u8 0, .int .u8 0, .int .u8 0] 25)).alloc (.cells (nums .u8 [77,83,72]).toArray 5 (3,4))):=((Below.refl _ w).alloc (Nat.le_refl _) _).alloc (by simp) _
  have hT:=Kd.C_below ht hbel
  have hcall:=bytes_HasPrefix.calls A0 c0 (l0.take 9) _ 3 [77,83,72] _ _ (by rw [hlen]; exact hT) (by omega) hC3 (by decide) rfl
  rw [hlen] at hcall
  have kc:=Lib.run_convert_bytes_const (P:=Tryd.prog) (w.alloc (.cells #[.int .u8 0, .int .u8 0, .int .u8 0, .int .u8 0, .int .u8 0] 25)) 22 5 #[.int .u8 77, .int .u8 83, .int .u8 72] 3 3 Tryd.underlying22 Tryd.underlying5
  rw [World.size_alloc] at kc
  have e33 : (if ([77,83,72] : List Int).length≤(l0.take 9).length then (strOfNums ((l0.take 9).take ([77,83,72] : List Int).length)).toList == (strOfNums [77,83,72]).toList else false)=(Lib.bytesOf (l0.take 3) == [77,83,72]):=by
   rw [if_pos (show ([77,83,72] : List Int).length≤(l0.take 9).length by rw [hlen]; decide),List.take_take,str_list,str_list]
   rfl
  have hnums : (nums .u8 [77,83,72]).toArray=#[.int .u8 77, .int .u8 83, .int .u8 72]:=rfl
  rw [hlen] at e33
  rw [hnums] at hcall hbel
  have hcall:Calls Tryd.prog 65 #[.slice A0 9 c0, .slice (some ⟨w.heap.size + 1,0,none⟩) 3 3] ((w.alloc (.cells #[.int .u8 0, .int .u8 0, .int .u8 0, .int .u8 0, .int .u8 0] 25)).alloc (.cells #[.int .u8 77, .int .u8 83, .int .u8 72] 5 (3,4))) fun e w'=>e = .returned (.bool (Lib.bytesOf (l0.take 3) == [77,83,72]))∧Drawn0 ((w.alloc (.cells #[.int .u8 0, .int .u8 0, .int .u8 0, .int .u8 0, .int .u8 0] 25)).alloc (.cells #[.int .u8 77, .int .u8 83, .int .u8 72] 5 (3,4))) w' :=
   hcall.mono fun e w' ⟨he,hd⟩=>⟨he.trans (by rw [e33]),hd⟩
  obtain ⟨ad,rfl,hc3⟩:=C_cell hr0 (j:=3) (by omega)
  have cells : ∀ j,j < l0.length→∀ o1 o2,((w.alloc o1).alloc o2).cell? (ad.add j)=some (.int .u8 (rd l0 j)):=fun j hj o1 o2=>by
   obtain ⟨ad',e,hc⟩:=C_cell hr0 (j:=j) hj
   cases e
   exact cell_alloc_old _ (cell_alloc_old _ hc)
  have k3:=cells 3 (by omega)
  have k4:=cells 4 (by omega)
  have k5:=cells 5 (by omega)
  have k6:=cells 6 (by omega)
  have k7:=cells 7 (by omega)
  have k8:=cells 8 (by omega)
  simp only [Addr.add,Nat.reduceEqDiff,if_false] at k3 k4 k5 k6 k7 k8
  have HBEL:=Lib.hid hbel
  clear hT hC3 hX ht hlen hr0 hbel hl cells e33 hnums
  have hc9:9≤c0:=by omega
  have hu:=Tryd.underlying25
  have HADB:=Lib.hid (World.block_lt_of_cell? w _ hc3)
  clear hc3
  by_cases h3 : Lib.bytesOf (l0.take 3)=[77,83,72]
  ·rw [if_pos h3] at h
   rw [beq_iff_eq.2 h3] at hcall
   have HH:=Lib.hid h
   have HC:=Lib.hid hcall
   clear hcall h h3
   go_enter Tryd.func25,Tryd.ntmps25
   go_wp2_with (first | (go_at_call 40; go_in))
   refine HC.out.mono ?_
   rintro e w' ⟨rfl,⟨nd,rfl⟩⟩
   go_wp2_with fail
   go_region_held3 (fun w'=>w'.cell? ⟨ad.block,ad.off + 3,none⟩=some (.int .u8 (rd l0 3))∧w'.cell? ⟨ad.block,ad.off + 3 + 1,none⟩=some (.int .u8 (rd l0 4))∧w'.cell? ⟨ad.block,ad.off + 3 + 2,none⟩=some (.int .u8 (rd l0 5))∧w'.cell? ⟨ad.block,ad.off + 3 + 3,none⟩=some (.int .u8 (rd l0 6))∧w'.cell? ⟨ad.block,ad.off + 3 + 4,none⟩=some (.int .u8 (rd l0 7))) (first | exact ⟨k3 _ _,k4 _ _,k5 _ _,k6 _ _,k7 _ _⟩ | exact ⟨cell_alloc_old _ (k3 _ _),cell_alloc_old _ (k4 _ _),cell_alloc_old _ (k5 _ _),cell_alloc_old _ (k6 _ _),cell_alloc_old _ (k7 _ _)⟩ | go_keep) (fail)
   have h:=HH.out
   replace h:=Option.bind_eq_some_iff.mp h
   obtain ⟨t,ht,h⟩:=h
   have HT:=Lib.hid ht
   have H3:=Lib.hid h
   clear HH ht h
   cases t with
   | false =>
    replace H3:=Lib.hid (show some ((0 : Int),(0 : Int),(0 : Int),(0 : Int),(0 : Int),(11 : Int))=some (r1,r2,r3,r4,r5,r6) from by have:=H3.out; rw [if_neg (by decide)] at this; exact this)
    go_wp2_with fail
    refine at_world (fun W=>W.heap[w.heap.size]?=some (.cells #[.int .u8 0, .int .u8 0, .int .u8 0, .int .u8 0, .int .u8 0] 25 (0,0))∧W.heap[w.heap.size + 1 + 1]?=some (.cells #[.int .u8 (rd l0 3), .int .u8 (rd l0 4), .int .u8 (rd l0 5), .int .u8 (rd l0 6), .int .u8 (rd l0 7)] 25 (0,0))∧W.cell? ⟨ad.block,ad.off + 3 + 5,none⟩=some (.int .u8 (rd l0 8))∧Below w.heap.size w W∧w.heap.size + 1 + 1 < W.heap.size∧ad.block < w.heap.size) ?_ ?_
    ·exact ⟨heap_old _ (heap_old _ (heap_new _ _)),by have:=heap_new ((w.alloc (.cells #[.int .u8 0, .int .u8 0, .int .u8 0, .int .u8 0, .int .u8 0] 25)).alloc (.cells #[.int .u8 77, .int .u8 83, .int .u8 72] 5 (3,4))) (.cells #[.int .u8 (rd l0 3), .int .u8 (rd l0 4), .int .u8 (rd l0 5), .int .u8 (rd l0 6), .int .u8 (rd l0 7)] 25 (0,0)); rw [World.size_alloc,World.size_alloc] at this; exact this,cell_alloc_old _ (k8 _ _),pw_below_drewN (HBEL.out.alloc (by simp; omega) _) _,by simp,HADB.out⟩
    rintro W ⟨g0,g2,g8,gB,gS,gA⟩
    have c0:=cell_of_cells g2 0
    have c1:=cell_of_cells g2 1
    have c2:=cell_of_cells g2 2
    have c3:=cell_of_cells g2 3
    have c4:=cell_of_cells g2 4
    have gA8:ad.block < W.heap.size:=by omega
    have GB:=Lib.hid gB
    have G0:=Lib.hid g0
    have G2:=Lib.hid g2
    clear gB g0 g2 k3 k4 k5 k6 k7 k8 kc
    refine start_ (n:=17) (S:=fun w'=>w'.cell? ⟨w.heap.size + 1 + 1,0,none⟩=some (.int .u8 (rd l0 3))∧w'.cell? ⟨w.heap.size + 1 + 1,1,none⟩=some (.int .u8 (rd l0 4))∧w'.cell? ⟨w.heap.size + 1 + 1,2,none⟩=some (.int .u8 (rd l0 5))∧w'.cell? ⟨w.heap.size + 1 + 1,3,none⟩=some (.int .u8 (rd l0 6))∧w'.cell? ⟨w.heap.size + 1 + 1,4,none⟩=some (.int .u8 (rd l0 7))∧w'.cell? ⟨ad.block,ad.off + 3 + 5,none⟩=some (.int .u8 (rd l0 8))) (ds:=[]) #[false,false,false,false,false,false,false,false,false,false,false,false,false,false,false,false,false] (by kernel_rfl) rfl rfl ⟨c0,c1,c2,c3,c4,g8⟩ (fun hHeld=>?_)
    refine take_ (i:=0) (N:=some 38) (v:=?_) (a':=?_) #[true,false,false,false,false,false,false,false,false,false,false,false,false,false,false,false,false] rfl rfl (by kernel_rfl) (fun _ _ _ h=>h) (Or.inl ⟨by rfl,?_⟩) hHeld ?_ ?_
    rotate_left
    ·rintro w' ⟨s0,s1,s2,s3,s4,s5⟩
     go_simp
     with_reducible rfl
    rotate_left
    ·simp only [Act.put,sA_,s0_,s1_]
     rfl
    refine one_ (i:=1) (N:=some 39) #[true,true,false,false,false,false,false,false,false,false,false,false,false,false,false,false,false] rfl rfl (by kernel_rfl) (by decide) (fun K hK=>?_)
    refine goes_ Tryd.func41 (by kernel_rfl) rfl #[.agg #[.int .u8 (rd l0 3), .int .u8 (rd l0 4), .int .u8 (rd l0 5), .int .u8 (rd l0 6), .int .u8 (rd l0 7)]] (by rfl) rfl rfl (by (try simp only [List.map_toArray,List.map_cons,List.map_nil]); first | done | rfl) ?_
    with_reducible refine (delim_Right.calls k (rd l0 3) (rd l0 4) (rd l0 5) (rd l0 6) (rd l0 7) false _ HT.out).mono ?_
    rintro e w1 ⟨rfl,hb⟩
    obtain ⟨hc,hf⟩:=below_reads hb
    refine ⟨_,rfl,?_⟩
    refine hK.out _ _ ⟨(hc _ _ gS).trans c0,(hc _ _ gS).trans c1,(hc _ _ gS).trans c2,(hc _ _ gS).trans c3,(hc _ _ gS).trans c4,(hc _ _ gA8).trans g8⟩ (fun hHeld=>?_)
    clear hK K
    refine norm_ (a':=?_) ?_ ?_
    rotate_left
    ·show Act.put _ (some 39) _=_
     simp only [Act.put,sA_,s0_,s1_]
     rfl
    refine pure_ (i:=2) (N:=some 40) (v:=?_) (a':=?_) #[true,true,true,false,false,false,false,false,false,false,false,false,false,false,false,false,false] rfl rfl (by kernel_rfl) (fun _ _ _ h=>h) (Or.inl ⟨by rfl,?_⟩) ?_ ?_
    rotate_left
    ·intro w'
     go_simp
     with_reducible rfl
    rotate_left
    ·simp only [Act.put,sA_,s0_,s1_]
     rfl
    refine pure_ (i:=3) (N:=some 41) (v:=?_) (a':=?_) #[true,true,true,true,false,false,false,false,false,false,false,false,false,false,false,false,false] rfl rfl (by kernel_rfl) (fun _ _ _ h=>h) (Or.inl ⟨by rfl,?_⟩) ?_ ?_
    rotate_left
    ·intro w'
     go_simp
     with_reducible rfl
    rotate_left
    ·simp only [Act.put,sA_,s0_,s1_]
     rfl
    refine pure_ (i:=4) (N:=some 42) (v:=undef) (a':=?_) #[true,true,true,true,true,false,false,false,false,false,false,false,false,false,false,false,false] rfl rfl (by kernel_rfl) (fun _ _ _ h=>h) (Or.inr ⟨by rfl,rfl⟩) ?_ ?_
    rotate_left
    ·simp only [Act.put,sA_,s0_,s1_]
     rfl
    refine pure_ (i:=5) (N:=some 43) (v:=undef) (a':=?_) #[true,true,true,true,true,true,false,false,false,false,false,false,false,false,false,false,false] rfl rfl (by kernel_rfl) (fun _ _ _ h=>h) (Or.inr ⟨by rfl,rfl⟩) ?_ ?_
    rotate_left
    ·simp only [Act.put,sA_,s0_,s1_]
     rfl
    refine pure_ (i:=6) (N:=some 44) (v:=undef) (a':=?_) #[true,true,true,true,true,true,true,false,false,false,false,false,false,false,false,false,false] rfl rfl (by kernel_rfl) (fun _ _ _ h=>h) (Or.inr ⟨by rfl,rfl⟩) ?_ ?_
    rotate_left
    ·simp only [Act.put,sA_,s0_,s1_]
     rfl
    refine pure_ (i:=7) (N:=some 45) (v:=undef) (a':=?_) #[true,true,true,true,true,true,true,true,false,false,false,false,false,false,false,false,false] rfl rfl (by kernel_rfl) (fun _ _ _ h=>h) (Or.inr ⟨by rfl,rfl⟩) ?_ ?_
    rotate_left
    ·simp only [Act.put,sA_,s0_,s1_]
     rfl
    refine pure_ (i:=8) (N:=some 46) (v:=undef) (a':=?_) #[true,true,true,true,true,true,true,true,true,false,false,false,false,false,false,false,false] rfl rfl (by kernel_rfl) (fun _ _ _ h=>h) (Or.inr ⟨by rfl,rfl⟩) ?_ ?_
    rotate_left
    ·simp only [Act.put,sA_,s0_,s1_]
     rfl
    refine pure_ (i:=9) (N:=some 47) (v:=undef) (a':=?_) #[true,true,true,true,true,true,true,true,true,true,false,false,false,false,false,false,false] rfl rfl (by kernel_rfl) (fun _ _ _ h=>h) (Or.inr ⟨by rfl,rfl⟩) ?_ ?_
    rotate_left
    ·simp only [Act.put,sA_,s0_,s1_]
     rfl
    refine pure_ (i:=10) (N:=some 48) (v:=undef) (a':=?_) #[true,true,true,true,true,true,true,true,true,true,true,false,false,false,false,false,false] rfl rfl (by kernel_rfl) (fun _ _ _ h=>h) (Or.inr ⟨by rfl,rfl⟩) ?_ ?_
    rotate_left
    ·simp only [Act.put,sA_,s0_,s1_]
     rfl
    refine pure_ (i:=11) (N:=some 49) (v:=undef) (a':=?_) #[true,true,true,true,true,true,true,true,true,true,true,true,false,false,false,false,false] rfl rfl (by kernel_rfl) (fun _ _ _ h=>h) (Or.inr ⟨by rfl,rfl⟩) ?_ ?_
    rotate_left
    ·simp only [Act.put,sA_,s0_,s1_]
     rfl
    refine pure_ (i:=12) (N:=some 50) (v:=undef) (a':=?_) #[true,true,true,true,true,true,true,true,true,true,true,true,true,false,false,false,false] rfl rfl (by kernel_rfl) (fun _ _ _ h=>h) (Or.inr ⟨by rfl,rfl⟩) ?_ ?_
    rotate_left
    ·simp only [Act.put,sA_,s0_,s1_]
     rfl
    refine pure_ (i:=13) (N:=some 51) (v:=undef) (a':=?_) #[true,true,true,true,true,true,true,true,true,true,true,true,true,true,false,false,false] rfl rfl (by kernel_rfl) (fun _ _ _ h=>h) (Or.inr ⟨by rfl,rfl⟩) ?_ ?_
    rotate_left
    ·simp only [Act.put,sA_,s0_,s1_]
     rfl
    refine pure_ (i:=14) (N:=some 52) (v:=undef) (a':=?_) #[true,true,true,true,true,true,true,true,true,true,true,true,true,true,true,false,false] rfl rfl (by kernel_rfl) (fun _ _ _ h=>h) (Or.inr ⟨by rfl,rfl⟩) ?_ ?_
    rotate_left
    ·simp only [Act.put,sA_,s0_,s1_]
     rfl
    refine pure_ (i:=15) (N:=some 53) (v:=undef) (a':=?_) #[true,true,true,true,true,true,true,true,true,true,true,true,true,true,true,true,false] rfl rfl (by kernel_rfl) (fun _ _ _ h=>h) (Or.inr ⟨by rfl,rfl⟩) ?_ ?_
    rotate_left
    ·simp only [Act.put,sA_,s0_,s1_]
     rfl
    refine pure_ (i:=16) (N:=some 54) (v:=?_) (a':=?_) #[true,true,true,true,true,true,true,true,true,true,true,true,true,true,true,true,true] rfl rfl (by kernel_rfl) (fun _ _ _ h=>h) (Or.inl ⟨by rfl,?_⟩) ?_ ?_
    rotate_left
    ·intro w'
     go_simp
     with_reducible rfl
    rotate_left
    ·simp only [Act.put,sA_,s0_,s1_]
     rfl
    refine done_ (by kernel_rfl) ?_
    have z0:=blk_below (w:=W.drew) (g:=w.heap.size) G0.out hb
    have z2:=blk_below (w:=W.drew) (g:=w.heap.size + 1 + 1) G2.out hb
    have HB:=Lib.hid (below_step (below_drew1 GB.out) hb)
    clear hb hc hf HT
    have y0:=blk_cell z0 0
    have y1:=blk_cell z0 1
    have y2:=blk_cell z0 2
    have y3:=blk_cell z0 3
    have y4:=blk_cell z0 4
    have f0:=blk_frozen z0 0
    have f1:=blk_frozen z0 1
    have f2:=blk_frozen z0 2
    have f3:=blk_frozen z0 3
    have f4:=blk_frozen z0 4
    simp only [List.getElem?_toArray,List.getElem?_cons_zero,List.getElem?_cons_succ] at y0 y1 y2 y3 y4
    go_wp2_with fail
    have h:=H3.out
    simp only [Option.some.injEq,Prod.mk.injEq] at h
    obtain ⟨rfl,rfl,rfl,rfl,rfl,rfl⟩:=h
    exact bodyPost_ret (results_ct rfl _ _ w.heap.size 25 #[.int .u8 0, .int .u8 0, .int .u8 0, .int .u8 0, .int .u8 0] (0,0) _ rfl (by refine blk_put (cs:=#[.int .u8 0, .int .u8 0, .int .u8 0, .int .u8 0, .int .u8 0]) ?_ 4 _ rfl; refine blk_put (cs:=#[.int .u8 0, .int .u8 0, .int .u8 0, .int .u8 0, .int .u8 0]) ?_ 3 _ rfl; refine blk_put (cs:=#[.int .u8 0, .int .u8 0, .int .u8 0, .int .u8 0, .int .u8 0]) ?_ 2 _ rfl; refine blk_put (cs:=#[.int .u8 0, .int .u8 0, .int .u8 0, .int .u8 0, .int .u8 0]) ?_ 1 _ rfl; refine blk_put (cs:=#[.int .u8 0, .int .u8 0, .int .u8 0, .int .u8 0, .int .u8 0]) ?_ 0 _ rfl; exact z0) Tryd.underlying25 rfl (by kernel_rfl)) rfl ⟨rfl,by repeat (first | exact HB.out | refine below_set ?_ (Nat.le_refl _))⟩
   | true =>
    go_wp2_with fail
    refine at_world (fun W=>W.heap[w.heap.size]?=some (.cells #[.int .u8 0, .int .u8 0, .int .u8 0, .int .u8 0, .int .u8 0] 25 (0,0))∧W.heap[w.heap.size + 1 + 1]?=some (.cells #[.int .u8 (rd l0 3), .int .u8 (rd l0 4), .int .u8 (rd l0 5), .int .u8 (rd l0 6), .int .u8 (rd l0 7)] 25 (0,0))∧W.cell? ⟨ad.block,ad.off + 3 + 5,none⟩=some (.int .u8 (rd l0 8))∧Below w.heap.size w W∧w.heap.size + 1 + 1 < W.heap.size∧ad.block < w.heap.size) ?_ ?_
    ·exact ⟨heap_old _ (heap_old _ (heap_new _ _)),by have:=heap_new ((w.alloc (.cells #[.int .u8 0, .int .u8 0, .int .u8 0, .int .u8 0, .int .u8 0] 25)).alloc (.cells #[.int .u8 77, .int .u8 83, .int .u8 72] 5 (3,4))) (.cells #[.int .u8 (rd l0 3), .int .u8 (rd l0 4), .int .u8 (rd l0 5), .int .u8 (rd l0 6), .int .u8 (rd l0 7)] 25 (0,0)); rw [World.size_alloc,World.size_alloc] at this; exact this,cell_alloc_old _ (k8 _ _),pw_below_drewN (HBEL.out.alloc (by simp; omega) _) _,by simp,HADB.out⟩
    rintro W ⟨g0,g2,g8,gB,gS,gA⟩
    have c0:=cell_of_cells g2 0
    have c1:=cell_of_cells g2 1
    have c2:=cell_of_cells g2 2
    have c3:=cell_of_cells g2 3
    have c4:=cell_of_cells g2 4
    have gA8:ad.block < W.heap.size:=by omega
    have GB:=Lib.hid gB
    have G0:=Lib.hid g0
    have G2:=Lib.hid g2
    clear gB g0 g2 k3 k4 k5 k6 k7 k8 kc
    have h8 : (if rd l0 8=rd l0 3 then some (rd l0 3,rd l0 4,rd l0 5,rd l0 6,rd l0 7,(0 : Int)) else if rd l0 8=13 then some (rd l0 3,rd l0 4,rd l0 5,rd l0 6,rd l0 7,(0 : Int)) else some ((0 : Int),(0 : Int),(0 : Int),(0 : Int),(0 : Int),(11 : Int)))=some (r1,r2,r3,r4,r5,r6):=H3.out
    by_cases e8 : rd l0 8=rd l0 3
    ·rw [if_pos e8] at h8
     have H3:=Lib.hid h8
     have q1 : ((rd l0 8) == (rd l0 3))=true:=beq_iff_eq.mpr e8
     have q2 : ((rd l0 8) != (rd l0 3))=false:=bne_eq_false_iff_eq.mpr e8
     clear h8 e8
     refine start_ (n:=17) (S:=fun w'=>w'.cell? ⟨w.heap.size + 1 + 1,0,none⟩=some (.int .u8 (rd l0 3))∧w'.cell? ⟨w.heap.size + 1 + 1,1,none⟩=some (.int .u8 (rd l0 4))∧w'.cell? ⟨w.heap.size + 1 + 1,2,none⟩=some (.int .u8 (rd l0 5))∧w'.cell? ⟨w.heap.size + 1 + 1,3,none⟩=some (.int .u8 (rd l0 6))∧w'.cell? ⟨w.heap.size + 1 + 1,4,none⟩=some (.int .u8 (rd l0 7))∧w'.cell? ⟨ad.block,ad.off + 3 + 5,none⟩=some (.int .u8 (rd l0 8))) (ds:=[]) #[false,false,false,false,false,false,false,false,false,false,false,false,false,false,false,false,false] (by kernel_rfl) rfl rfl ⟨c0,c1,c2,c3,c4,g8⟩ (fun hHeld=>?_)
     refine take_ (i:=0) (N:=some 38) (v:=?_) (a':=?_) #[true,false,false,false,false,false,false,false,false,false,false,false,false,false,false,false,false] rfl rfl (by kernel_rfl) (fun _ _ _ h=>h) (Or.inl ⟨by rfl,?_⟩) hHeld ?_ ?_
     rotate_left
     ·rintro w' ⟨s0,s1,s2,s3,s4,s5⟩
      go_simp
      with_reducible rfl
     rotate_left
     ·simp only [Act.put,sA_,s0_,s1_]
      rfl
     refine one_ (i:=1) (N:=some 39) #[true,true,false,false,false,false,false,false,false,false,false,false,false,false,false,false,false] rfl rfl (by kernel_rfl) (by decide) (fun K hK=>?_)
     refine goes_ Tryd.func41 (by kernel_rfl) rfl #[.agg #[.int .u8 (rd l0 3), .int .u8 (rd l0 4), .int .u8 (rd l0 5), .int .u8 (rd l0 6), .int .u8 (rd l0 7)]] (by rfl) rfl rfl (by (try simp only [List.map_toArray,List.map_cons,List.map_nil]); first | done | rfl) ?_
     with_reducible refine (delim_Right.calls k (rd l0 3) (rd l0 4) (rd l0 5) (rd l0 6) (rd l0 7) true _ HT.out).mono ?_
     rintro e w1 ⟨rfl,hb⟩
     obtain ⟨hc,hf⟩:=below_reads hb
     refine ⟨_,rfl,?_⟩
     refine hK.out _ _ ⟨(hc _ _ gS).trans c0,(hc _ _ gS).trans c1,(hc _ _ gS).trans c2,(hc _ _ gS).trans c3,(hc _ _ gS).trans c4,(hc _ _ gA8).trans g8⟩ (fun hHeld=>?_)
     clear hK K
     refine norm_ (a':=?_) ?_ ?_
     rotate_left
     ·show Act.put _ (some 39) _=_
      simp only [Act.put,sA_,s0_,s1_]
      rfl
     refine pure_ (i:=2) (N:=some 40) (v:=?_) (a':=?_) #[true,true,true,false,false,false,false,false,false,false,false,false,false,false,false,false,false] rfl rfl (by kernel_rfl) (fun _ _ _ h=>h) (Or.inl ⟨by rfl,?_⟩) ?_ ?_
     rotate_left
     ·intro w'
      go_simp
      with_reducible rfl
     rotate_left
     ·simp only [Act.put,sA_,s0_,s1_]
      rfl
     refine pure_ (i:=3) (N:=some 41) (v:=?_) (a':=?_) #[true,true,true,true,false,false,false,false,false,false,false,false,false,false,false,false,false] rfl rfl (by kernel_rfl) (fun _ _ _ h=>h) (Or.inl ⟨by rfl,?_⟩) ?_ ?_
     rotate_left
     ·intro w'
      go_simp
      with_reducible rfl
     rotate_left
     ·simp only [Act.put,sA_,s0_,s1_]
      rfl
     refine pure_ (i:=4) (N:=some 42) (v:=?_) (a':=?_) #[true,true,true,true,true,false,false,false,false,false,false,false,false,false,false,false,false] rfl rfl (by kernel_rfl) (fun _ _ _ h=>h) (Or.inl ⟨by rfl,?_⟩) ?_ ?_
     rotate_left
     ·intro w'
      go_simp
      with_reducible rfl
     rotate_left
     ·simp only [Act.put,sA_,s0_,s1_]
      rfl
     refine pure_ (i:=5) (N:=some 43) (v:=?_) (a':=?_) #[true,true,true,true,true,true,false,false,false,false,false,false,false,false,false,false,false] rfl rfl (by kernel_rfl) (fun _ _ _ h=>h) (Or.inl ⟨by rfl,?_⟩) ?_ ?_
     rotate_left
     ·intro w'
      go_simp
      with_reducible rfl
     rotate_left
     ·simp only [Act.put,sA_,s0_,s1_]
      rfl
     refine take_ (i:=6) (N:=some 44) (v:=?_) (a':=?_) #[true,true,true,true,true,true,true,false,false,false,false,false,false,false,false,false,false] rfl rfl (by kernel_rfl) (fun _ _ _ h=>h) (Or.inl ⟨by rfl,?_⟩) hHeld ?_ ?_
     rotate_left
     ·rintro w' ⟨s0,s1,s2,s3,s4,s5⟩
      go_simp
      with_reducible rfl
     rotate_left
     ·simp only [Act.put,sA_,s0_,s1_]
      rfl
     refine pure_ (i:=7) (N:=some 45) (v:=?_) (a':=?_) #[true,true,true,true,true,true,true,true,false,false,false,false,false,false,false,false,false] rfl rfl (by kernel_rfl) (fun _ _ _ h=>h) (Or.inl ⟨by rfl,?_⟩) ?_ ?_
     rotate_left
     ·intro w'
      go_simp
      with_reducible rfl
     rotate_left
     ·simp only [Act.put,sA_,s0_,s1_]
      rfl
     refine take_ (i:=8) (N:=some 46) (v:=?_) (a':=?_) #[true,true,true,true,true,true,true,true,true,false,false,false,false,false,false,false,false] rfl rfl (by kernel_rfl) (fun _ _ _ h=>h) (Or.inl ⟨by rfl,?_⟩) hHeld ?_ ?_
     rotate_left
     ·rintro w' ⟨s0,s1,s2,s3,s4,s5⟩
      go_simp
      with_reducible rfl
     rotate_left
     ·simp only [Act.put,sA_,s0_,s1_]
      rfl
     refine pure_ (i:=9) (N:=some 47) (v:=?_) (a':=?_) #[true,true,true,true,true,true,true,true,true,true,false,false,false,false,false,false,false] rfl rfl (by kernel_rfl) (fun _ _ _ h=>h) (Or.inl ⟨by rfl,?_⟩) ?_ ?_
     rotate_left
     ·intro w'
      go_simp
      with_reducible rfl
     rotate_left
     ·simp only [Act.put,sA_,s0_,s1_]
      rfl
     refine pure_ (i:=10) (N:=some 48) (v:=?_) (a':=?_) #[true,true,true,true,true,true,true,true,true,true,true,false,false,false,false,false,false] rfl rfl (by kernel_rfl) (fun _ _ _ h=>h) (Or.inl ⟨by rfl,?_⟩) ?_ ?_
     rotate_left
     ·intro w'
      go_simp
      with_reducible rfl
     rotate_left
     ·simp only [Act.put,sA_,s0_,s1_]
      rfl
     refine pure_ (i:=11) (N:=some 49) (v:=undef) (a':=?_) #[true,true,true,true,true,true,true,true,true,true,true,true,false,false,false,false,false] rfl rfl (by kernel_rfl) (fun _ _ _ h=>h) (Or.inr ⟨by rfl,rfl⟩) ?_ ?_
     rotate_left
     ·simp only [Act.put,sA_,s0_,s1_]
      rfl
     refine pure_ (i:=12) (N:=some 50) (v:=undef) (a':=?_) #[true,true,true,true,true,true,true,true,true,true,true,true,true,false,false,false,false] rfl rfl (by kernel_rfl) (fun _ _ _ h=>h) (Or.inr ⟨by rfl,rfl⟩) ?_ ?_
     rotate_left
     ·simp only [Act.put,sA_,s0_,s1_]
      rfl
     refine pure_ (i:=13) (N:=some 51) (v:=undef) (a':=?_) #[true,true,true,true,true,true,true,true,true,true,true,true,true,true,false,false,false] rfl rfl (by kernel_rfl) (fun _ _ _ h=>h) (Or.inr ⟨by rfl,rfl⟩) ?_ ?_
     rotate_left
     ·simp only [Act.put,sA_,s0_,s1_]
      rfl
     refine pure_ (i:=14) (N:=some 52) (v:=undef) (a':=?_) #[true,true,true,true,true,true,true,true,true,true,true,true,true,true,true,false,false] rfl rfl (by kernel_rfl) (fun _ _ _ h=>h) (Or.inr ⟨by rfl,rfl⟩) ?_ ?_
     rotate_left
     ·simp only [Act.put,sA_,s0_,s1_]
      rfl
     refine pure_ (i:=15) (N:=some 53) (v:=?_) (a':=?_) #[true,true,true,true,true,true,true,true,true,true,true,true,true,true,true,true,false] rfl rfl (by kernel_rfl) (fun _ _ _ h=>h) (Or.inl ⟨by rfl,?_⟩) ?_ ?_
     rotate_left
     ·intro w'
      go_simp
      with_reducible rfl
     rotate_left
     ·simp only [Act.put,sA_,s0_,s1_]
      rfl
     refine pure_ (i:=16) (N:=some 54) (v:=?_) (a':=?_) #[true,true,true,true,true,true,true,true,true,true,true,true,true,true,true,true,true] rfl rfl (by kernel_rfl) (fun _ _ _ h=>h) (Or.inl ⟨by rfl,?_⟩) ?_ ?_
     rotate_left
     ·intro w'
      go_simp
      with_reducible rfl
     rotate_left
     ·simp only [Act.put,sA_,s0_,s1_]
      rfl
     refine done_ (by kernel_rfl) ?_
     have z0:=blk_below (w:=W.drew) (g:=w.heap.size) G0.out hb
     have z2:=blk_below (w:=W.drew) (g:=w.heap.size + 1 + 1) G2.out hb
     have HB:=Lib.hid (below_step (below_drew1 GB.out) hb)
     clear hb hc hf HT
     have d0:=blk_cell z2 0
     have d1:=blk_cell z2 1
     have d2:=blk_cell z2 2
     have d3:=blk_cell z2 3
     have d4:=blk_cell z2 4
     have y0:=blk_cell z0 0
     have y1:=blk_cell z0 1
     have y2:=blk_cell z0 2
     have y3:=blk_cell z0 3
     have y4:=blk_cell z0 4
     have f0:=blk_frozen z0 0
     have f1:=blk_frozen z0 1
     have f2:=blk_frozen z0 2
     have f3:=blk_frozen z0 3
     have f4:=blk_frozen z0 4
     simp only [List.getElem?_toArray,List.getElem?_cons_zero,List.getElem?_cons_succ] at d0 d1 d2 d3 d4 y0 y1 y2 y3 y4
     go_wp2_with fail
     have h:=H3.out
     simp only [Option.some.injEq,Prod.mk.injEq] at h
     obtain ⟨rfl,rfl,rfl,rfl,rfl,rfl⟩:=h
     exact bodyPost_ret (results_ct rfl _ _ w.heap.size 25 #[.int .u8 (rd l0 3), .int .u8 (rd l0 4), .int .u8 (rd l0 5), .int .u8 (rd l0 6), .int .u8 (rd l0 7)] (0,0) _ rfl (by refine blk_put (cs:=#[.int .u8 (rd l0 3), .int .u8 (rd l0 4), .int .u8 (rd l0 5), .int .u8 (rd l0 6), .int .u8 0]) ?_ 4 _ rfl; refine blk_put (cs:=#[.int .u8 (rd l0 3), .int .u8 (rd l0 4), .int .u8 (rd l0 5), .int .u8 0, .int .u8 0]) ?_ 3 _ rfl; refine blk_put (cs:=#[.int .u8 (rd l0 3), .int .u8 (rd l0 4), .int .u8 0, .int .u8 0, .int .u8 0]) ?_ 2 _ rfl; refine blk_put (cs:=#[.int .u8 (rd l0 3), .int .u8 0, .int .u8 0, .int .u8 0, .int .u8 0]) ?_ 1 _ rfl; refine blk_put (cs:=#[.int .u8 0, .int .u8 0, .int .u8 0, .int .u8 0, .int .u8 0]) ?_ 0 _ rfl; exact z0) Tryd.underlying25 rfl (by kernel_rfl)) rfl ⟨rfl,by repeat (first | exact HB.out | refine below_set ?_ (Nat.le_refl _))⟩
    ·rw [if_neg e8] at h8
     have q1 : ((rd l0 8) == (rd l0 3))=false:=beq_eq_false_iff_ne.mpr e8
     have q2 : ((rd l0 8) != (rd l0 3))=true:=bne_iff_ne.mpr e8
     clear e8
     by_cases e9 : rd l0 8=13
     ·rw [if_pos e9] at h8
      have H3:=Lib.hid h8
      have q3 : ((rd l0 8) == 13)=true:=beq_iff_eq.mpr e9
      have q4 : ((rd l0 8) != 13)=false:=bne_eq_false_iff_eq.mpr e9
      clear h8 e9
      refine start_ (n:=17) (S:=fun w'=>w'.cell? ⟨w.heap.size + 1 + 1,0,none⟩=some (.int .u8 (rd l0 3))∧w'.cell? ⟨w.heap.size + 1 + 1,1,none⟩=some (.int .u8 (rd l0 4))∧w'.cell? ⟨w.heap.size + 1 + 1,2,none⟩=some (.int .u8 (rd l0 5))∧w'.cell? ⟨w.heap.size + 1 + 1,3,none⟩=some (.int .u8 (rd l0 6))∧w'.cell? ⟨w.heap.size + 1 + 1,4,none⟩=some (.int .u8 (rd l0 7))∧w'.cell? ⟨ad.block,ad.off + 3 + 5,none⟩=some (.int .u8 (rd l0 8))) (ds:=[]) #[false,false,false,false,false,false,false,false,false,false,false,false,false,false,false,false,false] (by kernel_rfl) rfl rfl ⟨c0,c1,c2,c3,c4,g8⟩ (fun hHeld=>?_)
      refine take_ (i:=0) (N:=some 38) (v:=?_) (a':=?_) #[true,false,false,false,false,false,false,false,false,false,false,false,false,false,false,false,false] rfl rfl (by kernel_rfl) (fun _ _ _ h=>h) (Or.inl ⟨by rfl,?_⟩) hHeld ?_ ?_
      rotate_left
      ·rintro w' ⟨s0,s1,s2,s3,s4,s5⟩
       go_simp
       with_reducible rfl
      rotate_left
      ·simp only [Act.put,sA_,s0_,s1_]
       rfl
      refine one_ (i:=1) (N:=some 39) #[true,true,false,false,false,false,false,false,false,false,false,false,false,false,false,false,false] rfl rfl (by kernel_rfl) (by decide) (fun K hK=>?_)
      refine goes_ Tryd.func41 (by kernel_rfl) rfl #[.agg #[.int .u8 (rd l0 3), .int .u8 (rd l0 4), .int .u8 (rd l0 5), .int .u8 (rd l0 6), .int .u8 (rd l0 7)]] (by rfl) rfl rfl (by (try simp only [List.map_toArray,List.map_cons,List.map_nil]); first | done | rfl) ?_
      with_reducible refine (delim_Right.calls k (rd l0 3) (rd l0 4) (rd l0 5) (rd l0 6) (rd l0 7) true _ HT.out).mono ?_
      rintro e w1 ⟨rfl,hb⟩
      obtain ⟨hc,hf⟩:=below_reads hb
      refine ⟨_,rfl,?_⟩
      refine hK.out _ _ ⟨(hc _ _ gS).trans c0,(hc _ _ gS).trans c1,(hc _ _ gS).trans c2,(hc _ _ gS).trans c3,(hc _ _ gS).trans c4,(hc _ _ gA8).trans g8⟩ (fun hHeld=>?_)
      clear hK K
      refine norm_ (a':=?_) ?_ ?_
      rotate_left
      ·show Act.put _ (some 39) _=_
       simp only [Act.put,sA_,s0_,s1_]
       rfl
      refine pure_ (i:=2) (N:=some 40) (v:=?_) (a':=?_) #[true,true,true,false,false,false,false,false,false,false,false,false,false,false,false,false,false] rfl rfl (by kernel_rfl) (fun _ _ _ h=>h) (Or.inl ⟨by rfl,?_⟩) ?_ ?_
      rotate_left
      ·intro w'
       go_simp
       with_reducible rfl
      rotate_left
      ·simp only [Act.put,sA_,s0_,s1_]
       rfl
      refine pure_ (i:=3) (N:=some 41) (v:=?_) (a':=?_) #[true,true,true,true,false,false,false,false,false,false,false,false,false,false,false,false,false] rfl rfl (by kernel_rfl) (fun _ _ _ h=>h) (Or.inl ⟨by rfl,?_⟩) ?_ ?_
      rotate_left
      ·intro w'
       go_simp
       with_reducible rfl
      rotate_left
      ·simp only [Act.put,sA_,s0_,s1_]
       rfl
      refine pure_ (i:=4) (N:=some 42) (v:=?_) (a':=?_) #[true,true,true,true,true,false,false,false,false,false,false,false,false,false,false,false,false] rfl rfl (by kernel_rfl) (fun _ _ _ h=>h) (Or.inl ⟨by rfl,?_⟩) ?_ ?_
      rotate_left
      ·intro w'
       go_simp
       with_reducible rfl
      rotate_left
      ·simp only [Act.put,sA_,s0_,s1_]
       rfl
      refine pure_ (i:=5) (N:=some 43) (v:=?_) (a':=?_) #[true,true,true,true,true,true,false,false,false,false,false,false,false,false,false,false,false] rfl rfl (by kernel_rfl) (fun _ _ _ h=>h) (Or.inl ⟨by rfl,?_⟩) ?_ ?_
      rotate_left
      ·intro w'
       go_simp
       with_reducible rfl
      rotate_left
      ·simp only [Act.put,sA_,s0_,s1_]
       rfl
      refine take_ (i:=6) (N:=some 44) (v:=?_) (a':=?_) #[true,true,true,true,true,true,true,false,false,false,false,false,false,false,false,false,false] rfl rfl (by kernel_rfl) (fun _ _ _ h=>h) (Or.inl ⟨by rfl,?_⟩) hHeld ?_ ?_
      rotate_left
      ·rintro w' ⟨s0,s1,s2,s3,s4,s5⟩
       go_simp
       with_reducible rfl
      rotate_left
      ·simp only [Act.put,sA_,s0_,s1_]
       rfl
      refine pure_ (i:=7) (N:=some 45) (v:=?_) (a':=?_) #[true,true,true,true,true,true,true,true,false,false,false,false,false,false,false,false,false] rfl rfl (by kernel_rfl) (fun _ _ _ h=>h) (Or.inl ⟨by rfl,?_⟩) ?_ ?_
      rotate_left
      ·intro w'
       go_simp
       with_reducible rfl
      rotate_left
      ·simp only [Act.put,sA_,s0_,s1_]
       rfl
      refine take_ (i:=8) (N:=some 46) (v:=?_) (a':=?_) #[true,true,true,true,true,true,true,true,true,false,false,false,false,false,false,false,false] rfl rfl (by kernel_rfl) (fun _ _ _ h=>h) (Or.inl ⟨by rfl,?_⟩) hHeld ?_ ?_
      rotate_left
      ·rintro w' ⟨s0,s1,s2,s3,s4,s5⟩
       go_simp
       with_reducible rfl
      rotate_left
      ·simp only [Act.put,sA_,s0_,s1_]
       rfl
      refine pure_ (i:=9) (N:=some 47) (v:=?_) (a':=?_) #[true,true,true,true,true,true,true,true,true,true,false,false,false,false,false,false,false] rfl rfl (by kernel_rfl) (fun _ _ _ h=>h) (Or.inl ⟨by rfl,?_⟩) ?_ ?_
      rotate_left
      ·intro w'
       go_simp
       with_reducible rfl
      rotate_left
      ·simp only [Act.put,sA_,s0_,s1_]
       rfl
      refine pure_ (i:=10) (N:=some 48) (v:=?_) (a':=?_) #[true,true,true,true,true,true,true,true,true,true,true,false,false,false,false,false,false] rfl rfl (by kernel_rfl) (fun _ _ _ h=>h) (Or.inl ⟨by rfl,?_⟩) ?_ ?_
      rotate_left
      ·intro w'
       go_simp
       with_reducible rfl
      rotate_left
      ·simp only [Act.put,sA_,s0_,s1_]
       rfl
      refine pure_ (i:=11) (N:=some 49) (v:=?_) (a':=?_) #[true,true,true,true,true,true,true,true,true,true,true,true,false,false,false,false,false] rfl rfl (by kernel_rfl) (fun _ _ _ h=>h) (Or.inl ⟨by rfl,?_⟩) ?_ ?_
      rotate_left
      ·intro w'
       go_simp
       with_reducible rfl
      rotate_left
      ·simp only [Act.put,sA_,s0_,s1_]
       rfl
      refine pure_ (i:=12) (N:=some 50) (v:=?_) (a':=?_) #[true,true,true,true,true,true,true,true,true,true,true,true,true,false,false,false,false] rfl rfl (by kernel_rfl) (fun _ _ _ h=>h) (Or.inl ⟨by rfl,?_⟩) ?_ ?_
      rotate_left
      ·intro w'
       go_simp
       with_reducible rfl
      rotate_left
      ·simp only [Act.put,sA_,s0_,s1_]
       rfl
      refine take_ (i:=13) (N:=some 51) (v:=?_) (a':=?_) #[true,true,true,true,true,true,true,true,true,true,true,true,true,true,false,false,false] rfl rfl (by kernel_rfl) (fun _ _ _ h=>h) (Or.inl ⟨by rfl,?_⟩) hHeld ?_ ?_
      rotate_left
      ·rintro w' ⟨s0,s1,s2,s3,s4,s5⟩
       go_simp
       with_reducible rfl
      rotate_left
      ·simp only [Act.put,sA_,s0_,s1_]
       rfl
      refine pure_ (i:=14) (N:=some 52) (v:=?_) (a':=?_) #[true,true,true,true,true,true,true,true,true,true,true,true,true,true,true,false,false] rfl rfl (by kernel_rfl) (fun _ _ _ h=>h) (Or.inl ⟨by rfl,?_⟩) ?_ ?_
      rotate_left
      ·intro w'
       go_simp
       with_reducible rfl
      rotate_left
      ·simp only [Act.put,sA_,s0_,s1_]
       rfl
      refine pure_ (i:=15) (N:=some 53) (v:=?_) (a':=?_) #[true,true,true,true,true,true,true,true,true,true,true,true,true,true,true,true,false] rfl rfl (by kernel_rfl) (fun _ _ _ h=>h) (Or.inl ⟨by rfl,?_⟩) ?_ ?_
      rotate_left
      ·intro w'
       go_simp
       with_reducible rfl
      rotate_left
      ·simp only [Act.put,sA_,s0_,s1_]
       rfl
      refine pure_ (i:=16) (N:=some 54) (v:=?_) (a':=?_) #[true,true,true,true,true,true,true,true,true,true,true,true,true,true,true,true,true] rfl rfl (by kernel_rfl) (fun _ _ _ h=>h) (Or.inl ⟨by rfl,?_⟩) ?_ ?_
      rotate_left
      ·intro w'
       go_simp
       with_reducible rfl
      rotate_left
      ·simp only [Act.put,sA_,s0_,s1_]
       rfl
      refine done_ (by kernel_rfl) ?_
      have z0:=blk_below (w:=W.drew) (g:=w.heap.size) G0.out hb
      have z2:=blk_below (w:=W.drew) (g:=w.heap.size + 1 + 1) G2.out hb
      have HB:=Lib.hid (below_step (below_drew1 GB.out) hb)
      clear hb hc hf HT
      have d0:=blk_cell z2 0
      have d1:=blk_cell z2 1
      have d2:=blk_cell z2 2
      have d3:=blk_cell z2 3
      have d4:=blk_cell z2 4
      have y0:=blk_cell z0 0
      have y1:=blk_cell z0 1
      have y2:=blk_cell z0 2
      have y3:=blk_cell z0 3
      have y4:=blk_cell z0 4
      have f0:=blk_frozen z0 0
      have f1:=blk_frozen z0 1
      have f2:=blk_frozen z0 2
      have f3:=blk_frozen z0 3
      have f4:=blk_frozen z0 4
      simp only [List.getElem?_toArray,List.getElem?_cons_zero,List.getElem?_cons_succ] at d0 d1 d2 d3 d4 y0 y1 y2 y3 y4
      go_wp2_with fail
      have h:=H3.out
      simp only [Option.some.injEq,Prod.mk.injEq] at h
      obtain ⟨rfl,rfl,rfl,rfl,rfl,rfl⟩:=h
      exact bodyPost_ret (results_ct rfl _ _ w.heap.size 25 #[.int .u8 (rd l0 3), .int .u8 (rd l0 4), .int .u8 (rd l0 5), .int .u8 (rd l0 6), .int .u8 (rd l0 7)] (0,0) _ rfl (by refine blk_put (cs:=#[.int .u8 (rd l0 3), .int .u8 (rd l0 4), .int .u8 (rd l0 5), .int .u8 (rd l0 6), .int .u8 0]) ?_ 4 _ rfl; refine blk_put (cs:=#[.int .u8 (rd l0 3), .int .u8 (rd l0 4), .int .u8 (rd l0 5), .int .u8 0, .int .u8 0]) ?_ 3 _ rfl; refine blk_put (cs:=#[.int .u8 (rd l0 3), .int .u8 (rd l0 4), .int .u8 0, .int .u8 0, .int .u8 0]) ?_ 2 _ rfl; refine blk_put (cs:=#[.int .u8 (rd l0 3), .int .u8 0, .int .u8 0, .int .u8 0, .int .u8 0]) ?_ 1 _ rfl; refine blk_put (cs:=#[.int .u8 0, .int .u8 0, .int .u8 0, .int .u8 0, .int .u8 0]) ?_ 0 _ rfl; exact z0) Tryd.underlying25 rfl (by kernel_rfl)) rfl ⟨rfl,by repeat (first | exact HB.out | refine below_set ?_ (Nat.le_refl _))⟩
     ·rw [if_neg e9] at h8
      have H3:=Lib.hid h8
      have q3 : ((rd l0 8) == 13)=false:=beq_eq_false_iff_ne.mpr e9
      have q4 : ((rd l0 8) != 13)=true:=bne_iff_ne.mpr e9
      clear h8 e9
      refine start_ (n:=17) (S:=fun w'=>w'.cell? ⟨w.heap.size + 1 + 1,0,none⟩=some (.int .u8 (rd l0 3))∧w'.cell? ⟨w.heap.size + 1 + 1,1,none⟩=some (.int .u8 (rd l0 4))∧w'.cell? ⟨w.heap.size + 1 + 1,2,none⟩=some (.int .u8 (rd l0 5))∧w'.cell? ⟨w.heap.size + 1 + 1,3,none⟩=some (.int .u8 (rd l0 6))∧w'.cell? ⟨w.heap.size + 1 + 1,4,none⟩=some (.int .u8 (rd l0 7))∧w'.cell? ⟨ad.block,ad.off + 3 + 5,none⟩=some (.int .u8 (rd l0 8))) (ds:=[]) #[false,false,false,false,false,false,false,false,false,false,false,false,false,false,false,false,false] (by kernel_rfl) rfl rfl ⟨c0,c1,c2,c3,c4,g8⟩ (fun hHeld=>?_)
      refine take_ (i:=0) (N:=some 38) (v:=?_) (a':=?_) #[true,false,false,false,false,false,false,false,false,false,false,false,false,false,false,false,false] rfl rfl (by kernel_rfl) (fun _ _ _ h=>h) (Or.inl ⟨by rfl,?_⟩) hHeld ?_ ?_
      rotate_left
      ·rintro w' ⟨s0,s1,s2,s3,s4,s5⟩
       go_simp
       with_reducible rfl
      rotate_left
      ·simp only [Act.put,sA_,s0_,s1_]
       rfl
      refine one_ (i:=1) (N:=some 39) #[true,true,false,false,false,false,false,false,false,false,false,false,false,false,false,false,false] rfl rfl (by kernel_rfl) (by decide) (fun K hK=>?_)
      refine goes_ Tryd.func41 (by kernel_rfl) rfl #[.agg #[.int .u8 (rd l0 3), .int .u8 (rd l0 4), .int .u8 (rd l0 5), .int .u8 (rd l0 6), .int .u8 (rd l0 7)]] (by rfl) rfl rfl (by (try simp only [List.map_toArray,List.map_cons,List.map_nil]); first | done | rfl) ?_
      with_reducible refine (delim_Right.calls k (rd l0 3) (rd l0 4) (rd l0 5) (rd l0 6) (rd l0 7) true _ HT.out).mono ?_
      rintro e w1 ⟨rfl,hb⟩
      obtain ⟨hc,hf⟩:=below_reads hb
      refine ⟨_,rfl,?_⟩
      refine hK.out _ _ ⟨(hc _ _ gS).trans c0,(hc _ _ gS).trans c1,(hc _ _ gS).trans c2,(hc _ _ gS).trans c3,(hc _ _ gS).trans c4,(hc _ _ gA8).trans g8⟩ (fun hHeld=>?_)
      clear hK K
      refine norm_ (a':=?_) ?_ ?_
      rotate_left
      ·show Act.put _ (some 39) _=_
       simp only [Act.put,sA_,s0_,s1_]
       rfl
      refine pure_ (i:=2) (N:=some 40) (v:=?_) (a':=?_) #[true,true,true,false,false,false,false,false,false,false,false,false,false,false,false,false,false] rfl rfl (by kernel_rfl) (fun _ _ _ h=>h) (Or.inl ⟨by rfl,?_⟩) ?_ ?_
      rotate_left
      ·intro w'
       go_simp
       with_reducible rfl
      rotate_left
      ·simp only [Act.put,sA_,s0_,s1_]
       rfl
      refine pure_ (i:=3) (N:=some 41) (v:=?_) (a':=?_) #[true,true,true,true,false,false,false,false,false,false,false,false,false,false,false,false,false] rfl rfl (by kernel_rfl) (fun _ _ _ h=>h) (Or.inl ⟨by rfl,?_⟩) ?_ ?_
      rotate_left
      ·intro w'
       go_simp
       with_reducible rfl
      rotate_left
      ·simp only [Act.put,sA_,s0_,s1_]
       rfl
      refine pure_ (i:=4) (N:=some 42) (v:=?_) (a':=?_) #[true,true,true,true,true,false,false,false,false,false,false,false,false,false,false,false,false] rfl rfl (by kernel_rfl) (fun _ _ _ h=>h) (Or.inl ⟨by rfl,?_⟩) ?_ ?_
      rotate_left
      ·intro w'
       go_simp
       with_reducible rfl
      rotate_left
      ·simp only [Act.put,sA_,s0_,s1_]
       rfl
      refine pure_ (i:=5) (N:=some 43) (v:=?_) (a':=?_) #[true,true,true,true,true,true,false,false,false,false,false,false,false,false,false,false,false] rfl rfl (by kernel_rfl) (fun _ _ _ h=>h) (Or.inl ⟨by rfl,?_⟩) ?_ ?_
      rotate_left
      ·intro w'
       go_simp
       with_reducible rfl
      rotate_left
      ·simp only [Act.put,sA_,s0_,s1_]
       rfl
      refine take_ (i:=6) (N:=some 44) (v:=?_) (a':=?_) #[true,true,true,true,true,true,true,false,false,false,false,false,false,false,false,false,false] rfl rfl (by kernel_rfl) (fun _ _ _ h=>h) (Or.inl ⟨by rfl,?_⟩) hHeld ?_ ?_
      rotate_left
      ·rintro w' ⟨s0,s1,s2,s3,s4,s5⟩
       go_simp
       with_reducible rfl
      rotate_left
      ·simp only [Act.put,sA_,s0_,s1_]
       rfl
      refine pure_ (i:=7) (N:=some 45) (v:=?_) (a':=?_) #[true,true,true,true,true,true,true,true,false,false,false,false,false,false,false,false,false] rfl rfl (by kernel_rfl) (fun _ _ _ h=>h) (Or.inl ⟨by rfl,?_⟩) ?_ ?_
      rotate_left
      ·intro w'
       go_simp
       with_reducible rfl
      rotate_left
      ·simp only [Act.put,sA_,s0_,s1_]
       rfl
      refine take_ (i:=8) (N:=some 46) (v:=?_) (a':=?_) #[true,true,true,true,true,true,true,true,true,false,false,false,false,false,false,false,false] rfl rfl (by kernel_rfl) (fun _ _ _ h=>h) (Or.inl ⟨by rfl,?_⟩) hHeld ?_ ?_
      rotate_left
      ·rintro w' ⟨s0,s1,s2,s3,s4,s5⟩
       go_simp
       with_reducible rfl
      rotate_left
      ·simp only [Act.put,sA_,s0_,s1_]
       rfl
      refine pure_ (i:=9) (N:=some 47) (v:=?_) (a':=?_) #[true,true,true,true,true,true,true,true,true,true,false,false,false,false,false,false,false] rfl rfl (by kernel_rfl) (fun _ _ _ h=>h) (Or.inl ⟨by rfl,?_⟩) ?_ ?_
      rotate_left
      ·intro w'
       go_simp
       with_reducible rfl
      rotate_left
      ·simp only [Act.put,sA_,s0_,s1_]
       rfl
      refine pure_ (i:=10) (N:=some 48) (v:=?_) (a':=?_) #[true,true,true,true,true,true,true,true,true,true,true,false,false,false,false,false,false] rfl rfl (by kernel_rfl) (fun _ _ _ h=>h) (Or.inl ⟨by rfl,?_⟩) ?_ ?_
      rotate_left
      ·intro w'
       go_simp
       with_reducible rfl
      rotate_left
      ·simp only [Act.put,sA_,s0_,s1_]
       rfl
      refine pure_ (i:=11) (N:=some 49) (v:=?_) (a':=?_) #[true,true,true,true,true,true,true,true,true,true,true,true,false,false,false,false,false] rfl rfl (by kernel_rfl) (fun _ _ _ h=>h) (Or.inl ⟨by rfl,?_⟩) ?_ ?_
      rotate_left
      ·intro w'
       go_simp
       with_reducible rfl
      rotate_left
      ·simp only [Act.put,sA_,s0_,s1_]
       rfl
      refine pure_ (i:=12) (N:=some 50) (v:=?_) (a':=?_) #[true,true,true,true,true,true,true,true,true,true,true,true,true,false,false,false,false] rfl rfl (by kernel_rfl) (fun _ _ _ h=>h) (Or.inl ⟨by rfl,?_⟩) ?_ ?_
      rotate_left
      ·intro w'
       go_simp
       with_reducible rfl
      rotate_left
      ·simp only [Act.put,sA_,s0_,s1_]
       rfl
      refine take_ (i:=13) (N:=some 51) (v:=?_) (a':=?_) #[true,true,true,true,true,true,true,true,true,true,true,true,true,true,false,false,false] rfl rfl (by kernel_rfl) (fun _ _ _ h=>h) (Or.inl ⟨by rfl,?_⟩) hHeld ?_ ?_
      rotate_left
      ·rintro w' ⟨s0,s1,s2,s3,s4,s5⟩
       go_simp
       with_reducible rfl
      rotate_left
      ·simp only [Act.put,sA_,s0_,s1_]
       rfl
      refine pure_ (i:=14) (N:=some 52) (v:=?_) (a':=?_) #[true,true,true,true,true,true,true,true,true,true,true,true,true,true,true,false,false] rfl rfl (by kernel_rfl) (fun _ _ _ h=>h) (Or.inl ⟨by rfl,?_⟩) ?_ ?_
      rotate_left
      ·intro w'
       go_simp
       with_reducible rfl
      rotate_left
      ·simp only [Act.put,sA_,s0_,s1_]
       rfl
      refine pure_ (i:=15) (N:=some 53) (v:=?_) (a':=?_) #[true,true,true,true,true,true,true,true,true,true,true,true,true,true,true,true,false] rfl rfl (by kernel_rfl) (fun _ _ _ h=>h) (Or.inl ⟨by rfl,?_⟩) ?_ ?_
      rotate_left
      ·intro w'
       go_simp
       with_reducible rfl
      rotate_left
      ·simp only [Act.put,sA_,s0_,s1_]
       rfl
      refine pure_ (i:=16) (N:=some 54) (v:=?_) (a':=?_) #[true,true,true,true,true,true,true,true,true,true,true,true,true,true,true,true,true] rfl rfl (by kernel_rfl) (fun _ _ _ h=>h) (Or.inl ⟨by rfl,?_⟩) ?_ ?_
      rotate_left
      ·intro w'
       go_simp
       with_reducible rfl
      rotate_left
      ·simp only [Act.put,sA_,s0_,s1_]
       rfl
      refine done_ (by kernel_rfl) ?_
      have z0:=blk_below (w:=W.drew) (g:=w.heap.size) G0.out hb
      have z2:=blk_below (w:=W.drew) (g:=w.heap.size + 1 + 1) G2.out hb
      have HB:=Lib.hid (below_step (below_drew1 GB.out) hb)
      clear hb hc hf HT
      have y0:=blk_cell z0 0
      have y1:=blk_cell z0 1
      have y2:=blk_cell z0 2
      have y3:=blk_cell z0 3
      have y4:=blk_cell z0 4
      have f0:=blk_frozen z0 0
      have f1:=blk_frozen z0 1
      have f2:=blk_frozen z0 2
      have f3:=blk_frozen z0 3
      have f4:=blk_frozen z0 4
      simp only [List.getElem?_toArray,List.getElem?_cons_zero,List.getElem?_cons_succ] at y0 y1 y2 y3 y4
      go_wp2_with fail
      have h:=H3.out
      simp only [Option.some.injEq,Prod.mk.injEq] at h
      obtain ⟨rfl,rfl,rfl,rfl,rfl,rfl⟩:=h
      exact bodyPost_ret (results_ct rfl _ _ w.heap.size 25 #[.int .u8 0, .int .u8 0, .int .u8 0, .int .u8 0, .int .u8 0] (0,0) _ rfl (by refine blk_put (cs:=#[.int .u8 0, .int .u8 0, .int .u8 0, .int .u8 0, .int .u8 0]) ?_ 4 _ rfl; refine blk_put (cs:=#[.int .u8 0, .int .u8 0, .int .u8 0, .int .u8 0, .int .u8 0]) ?_ 3 _ rfl; refine blk_put (cs:=#[.int .u8 0, .int .u8 0, .int .u8 0, .int .u8 0, .int .u8 0]) ?_ 2 _ rfl; refine blk_put (cs:=#[.int .u8 0, .int .u8 0, .int .u8 0, .int .u8 0, .int .u8 0]) ?_ 1 _ rfl; refine blk_put (cs:=#[.int .u8 0, .int .u8 0, .int .u8 0, .int .u8 0, .int .u8 0]) ?_ 0 _ rfl; exact z0) Tryd.underlying25 rfl (by kernel_rfl)) rfl ⟨rfl,by repeat (first | exact HB.out | refine below_set ?_ (Nat.le_refl _))⟩
  ·rw [if_neg h3] at h
   rw [beq_eq_false_iff_ne.2 h3] at hcall
   have HH:=Lib.hid h
   have HC:=Lib.hid hcall
   clear hcall h h3
   go_enter Tryd.func25,Tryd.ntmps25
   go_wp2_with (first | (go_at_call 40; go_in))
   refine HC.out.mono ?_
   rintro e w' ⟨rfl,⟨nd,rfl⟩⟩
   go_wp2_with fail
   have h:=HH.out
   simp only [Option.some.injEq,Prod.mk.injEq] at h
   obtain ⟨rfl,rfl,rfl,rfl,rfl,rfl⟩:=h
   exact bodyPost_ret (v := .tuple #[.agg #[.int .u8 0, .int .u8 0, .int .u8 0, .int .u8 0, .int .u8 0], .int .i64 11]) (by simp [results,Tryd.results25,go_sem]) rfl ⟨rfl,pw_below_drewN HBEL.out _⟩
end


/-! ### msh_others: function 26 -/
def msh_others.f (a0_0 : Int) (a0_1 : Int) (a0_2 : Int) (a0_3 : Int) (a0_4 : Int) : Option (ByteArray):=some (strOfNums (([a0_1,a0_2,a0_3,a0_4] : List Int)))
theorem msh_others.calls (a0_0 : Int) (a0_1 : Int) (a0_2 : Int) (a0_3 : Int) (a0_4 : Int) (r : ByteArray) (w : World) (h : msh_others.f a0_0 a0_1 a0_2 a0_3 a0_4=some r) :
  Calls Tryd.prog 26 #[.agg #[.int .u8 a0_0, .int .u8 a0_1, .int .u8 a0_2, .int .u8 a0_3, .int .u8 a0_4]] w fun e w'=>e = .returned (.string r)∧Below w.heap.size w w':=by
 have hu25:=Tryd.underlying25
 have HB:=Aside0.mk (Below.refl w.heap.size w)
 have H : (some (strOfNums (([a0_1,a0_2,a0_3,a0_4] : List Int))))=some r:=h
 clear h
 obtain ⟨y151,hy151⟩ : ∃ y_ : List Int,y_=(([a0_1,a0_2,a0_3,a0_4] : List Int)):=⟨_,rfl⟩
 replace H : (some (strOfNums y151))=some r:=by first | (rw [hy151]; with_reducible exact H) | (have H2_:=(Option.bind_some _ _).symm.trans H; rw [hy151]; with_reducible exact H2_) | (have H2_:=(Option.bind_some _ _).symm.trans H; with_reducible exact H2_) | with_reducible exact H | (rw [hy151]; exact H) | exact H
 have Ny151:=Aside0.mk hy151
 clear hy151
 obtain rfl:=Option.some.inj H
 go_enter Tryd.func26,Tryd.ntmps26
 go_wp2_with (first | ((with_reducible refine gate_dst (N:=1) rfl ?_); refine box_event ?hg (N:=1) ?hd (cs:=#[.int .u8 a0_0, .int .u8 a0_1, .int .u8 a0_2, .int .u8 a0_3, .int .u8 a0_4]) (t:=25) ?hr ?_; (case hd=>rfl); (case hg=>rfl); (case hr=>first | (go_simp; done) | (go_simp; rfl)); intro gb150 hg w2 hbox hb; have n0_:=Aside0.mk (below_step (by repeat (first | (with_reducible first | exact HB.out | apply bA | apply bN | apply bD) | exact HB.out)) hb); have n1_:=Aside0.mk (hbox); have n2_:=Aside0.mk ((by rw [hg]; exact (below_size (by repeat (first | (with_reducible first | exact HB.out | apply bA | apply bN | apply bD) | exact HB.out))) : w.heap.size≤gb150)); have n3_:=Aside0.mk ((by rw [hg]; exact (below_size (by repeat (first | (with_reducible first | exact HB.out | apply bA | apply bN | apply bD) | exact HB.out))) : w.heap.size≤gb150)); clear HB; have HB:=n0_; have BK150:=n1_; have GW150:=n2_; have GE150:=n3_; clear n0_ n1_ n2_ n3_; clear hb hbox hg; have hcz3_0:w2.cell? ⟨gb150,0,none⟩=some (.int .u8 a0_0):=blk_cell BK150.out 0; have hcz3_1:w2.cell? ⟨gb150,1,none⟩=some (.int .u8 a0_1):=blk_cell BK150.out 1; have hcz3_2:w2.cell? ⟨gb150,2,none⟩=some (.int .u8 a0_2):=blk_cell BK150.out 2; have hcz3_3:w2.cell? ⟨gb150,3,none⟩=some (.int .u8 a0_3):=blk_cell BK150.out 3; have hcz3_4:w2.cell? ⟨gb150,4,none⟩=some (.int .u8 a0_4):=blk_cell BK150.out 4; have hfz3_0:=blk_frozen BK150.out 0; have hfz3_1:=blk_frozen BK150.out 1; have hfz3_2:=blk_frozen BK150.out 2; have hfz3_3:=blk_frozen BK150.out 3; have hfz3_4:=blk_frozen BK150.out 4) | ((with_reducible refine gate_dst (N:=11) rfl ?_); refine Kd.R_lit (Kd.int .u8) _ 5 ?hg (N:=11) ?hd (xs:=([a0_1,a0_2,a0_3,a0_4] : List Int)) (inner:=[.int .u8 a0_1, .int .u8 a0_2, .int .u8 a0_3, .int .u8 a0_4]) (ok:=fun _=>True) (okp:=fun _=>True) ?hr ?hp (fun _ hk=>hk) trivial (Below.refl _ _) (Nat.le_refl _) (by simp) ?_; (case hd=>rfl); (case hg=>rfl); (case hr=>first | (go_simp; done) | (go_simp; rfl)); (case hp=>exact (Reps.one (show Kd.M (Kd.int .u8) _ _ _ a0_1 [.int .u8 a0_1] from rfl) (Reps.one (show Kd.M (Kd.int .u8) _ _ _ a0_2 [.int .u8 a0_2] from rfl) (Reps.one (show Kd.M (Kd.int .u8) _ _ _ a0_3 [.int .u8 a0_3] from rfl) (Reps.one (show Kd.M (Kd.int .u8) _ _ _ a0_4 [.int .u8 a0_4] from rfl) (Reps.none _ _)))))); intro v152 w4 ho5 hb hg_ hnew_; clear hg_ hnew_; (first | rw [← Ny151.out] at ho5 | (simp only [Int.reduceToNat] at ho5; rw [← Ny151.out] at ho5)); have n0_:=Aside0.mk (Kd.R_lower ho5 (below_size (by repeat (first | (with_reducible first | exact HB.out | apply bA | apply bN | apply bD | refine below_set ?_ GE150.out) | exact HB.out)))); have n1_:=Aside0.mk (blk_below (g:=gb150) (o := .cells #[.int .u8 a0_0, .int .u8 a0_1, .int .u8 a0_2, .int .u8 a0_3, .int .u8 a0_4] 25 (0,0)) (by (with_reducible repeat (first | refine kN ?_ _ | refine kD ?_ | refine kA ?_ _)); exact BK150.out) hb); have n2_:=Aside0.mk (below_step (by repeat (first | (with_reducible first | exact HB.out | apply bA | apply bN | apply bD | refine below_set ?_ GE150.out) | exact HB.out)) hb); clear BK150; clear HB; have HO153:=n0_; have BK150:=n1_; have HB:=n2_; clear n0_ n1_ n2_; clear hb ho5; have hcv6:=own_string (P:=Tryd.prog) Tryd.underlying22 Tryd.underlying5 Tryd.underlying9 (Kd.own_of_R HO153.out)))
 go_ret
 exact ⟨by first | rfl | (simp [errW_none,errW_some] <;> rfl) | (simp [*,errW_none,errW_some] <;> rfl),by repeat (first | (with_reducible first | exact HB.out | apply bA | apply bN | apply bD | refine below_set ?_ GE150.out) | exact HB.out)⟩


end Go.Proofs.YtljdbphojcglgaaDoor.PF
