import Derived.Test.YtljdbphojcglgaaDoorPFx0
import Derived.Test.YtljdbphojcglgaaDoorPFx7
namespace Go.Proofs.YtljdbphojcglgaaDoor.PF
open Go.RowKit Go.Proofs.YtljdbphojcglgaaDoorW.PrintWords Go.Proofs.YtljdbphojcglgaaDoorW.PrintLast Go.Proofs.YtljdbphojcglgaaDoorW.PrintMore
set_option maxHeartbeats 8000000
set_option maxRecDepth 100000
attribute [local go_sem] max2_int min2_int max_two min_two max_three min_three max_four min_four
set_option linter.unusedVariables false
set_option linter.unusedSimpArgs false

/-! ### accept_Stored: function 10 -/
def accept_Stored.f (k : Nat) (l0 : List Int) : Option (Bool):=(accept_Verdict.f k l0).bind fun bt285=>(some (bt285.2.2.2.2.2.2.2.2.2.2.2.2.2.2.2.1.toList == ([65,65] : List UInt8)))
theorem accept_Stored.mono : ∀ a0 k,LeO (accept_Stored.f k a0) (accept_Stored.f (k + 1) a0):=by
 intro a0 k
 unfold accept_Stored.f
 repeat' first
   | (with_reducible exact accept_Verdict.mono _ _)
   | (with_reducible exact LeO.refl _)
   | (with_reducible exact LeO.none _)
   | (with_reducible refine LeO.ite ?_ ?_)
   | (with_reducible refine LeO.bind ?_ (fun _=>?_))
   | exact accept_Verdict.mono _ _
   | exact LeO.none _
   | refine LeO.ite ?_ ?_
   | refine LeO.bind ?_ (fun _=>?_)
theorem accept_Stored.calls (k : Nat) (A0 : Option Addr) (c0 : Nat) (l0 : List Int) (r : Bool) (w : World) (hr0 : Kd.C (Kd.int .u8) w A0 l0.length l0) (hc0 : l0.length≤c0) (h : accept_Stored.f k l0=some r) (hG : GlobOK w) :
  Calls Tryd.prog 10 #[.slice A0 l0.length c0] w fun e w'=>e = .returned (.bool r)∧Below w.heap.size w w':=by
 have HGLOB:=Lib.hid hG
 clear hG
 have hu27:=Tryd.underlying27
 have HR0:=Aside0.mk hr0
 have HC0:=Aside0.mk hc0
 clear hr0 hc0
 have HB:=Aside0.mk (Below.refl w.heap.size w)
 have H : ((accept_Verdict.f k l0).bind fun bt285=>(some (bt285.2.2.2.2.2.2.2.2.2.2.2.2.2.2.2.1.toList == ([65,65] : List UInt8))))=some r:=h
 clear h
 replace H:=Option.bind_eq_some_iff.mp H
 obtain ⟨⟨t285,t286,t287,t288,t289,t290,t291,t292,t293,t294,t295,t296,t297,t298,t299,t300,t301⟩,A20,H⟩:=H
 replace H : (some (t300.toList == ([65,65] : List UInt8)))=some r:=H
 have A2:=Aside0.mk A20
 clear A20
 obtain rfl:=Option.some.inj H
 go_enter Tryd.func10,Tryd.ntmps10
 go_wp2_with (first | ((with_reducible refine gate_callee (f:=5) rfl ?_); refine goesL_ (some 8) rfl rfl Tryd.func5 (by kernel_rfl) rfl #[.slice A0 l0.length c0] rfl (by (try simp only [List.map_toArray,List.map_cons,List.map_nil]); first | done | rfl | (simp only [List.length_drop,List.length_take]; rfl)) ?_; (with_reducible refine (accept_Verdict.calls k _ _ l0 t285 t286 t287 t288 t289 t290 t291 t292 t293 t294 t295 t296 t297 t298 t299 t300 t301 _ ?side1 ?side2 A2.out (glob_below HGLOB.out (by repeat (first | (with_reducible first | exact HB.out | apply bA | apply bN | apply bD) | exact HB.out)))).mono ?_); (case side1=>repeat (first | exact HR0.out | (with_reducible refine Kd.C_alloc ?_ _) | (with_reducible refine Kd.C_drewN ?_ _) | (with_reducible refine Kd.C_drew ?_))); (case side2=>exact HC0.out); rintro e w3 ⟨rfl,hb⟩; refine ⟨_,rfl,?_⟩; have n0_:=Aside0.mk (below_step (by repeat (first | (with_reducible first | exact HB.out | apply bA | apply bN | apply bD) | exact HB.out)) hb); clear HB; have HB:=n0_; clear n0_; (try clear hb)) | ((with_reducible refine gate_dst (N:=3) rfl ?_); refine box_event ?hg (N:=3) ?hd (cs:=#[.int .u8 0, .int .u8 0, .int .u8 0, .int .u8 0, .int .u8 0, .string (⟨#[]⟩ : ByteArray), .string (⟨#[]⟩ : ByteArray), .string (⟨#[]⟩ : ByteArray), .string (⟨#[]⟩ : ByteArray), .string (⟨#[]⟩ : ByteArray), .string (⟨#[]⟩ : ByteArray), .string (⟨#[]⟩ : ByteArray), .string (⟨#[]⟩ : ByteArray), .string (⟨#[]⟩ : ByteArray), .string (⟨#[]⟩ : ByteArray)]) (t:=27) ?hr ?_; (case hd=>rfl); (case hg=>rfl); (case hr=>first | (go_simp; done) | (go_simp; rfl)); intro gb302 hg w4 hbox hb; have n0_:=Aside0.mk (below_step (by repeat (first | (with_reducible first | exact HB.out | apply bA | apply bN | apply bD) | exact HB.out)) hb); have n1_:=Aside0.mk (hbox); have n2_:=Aside0.mk ((by rw [hg]; exact (below_size (by repeat (first | (with_reducible first | exact HB.out | apply bA | apply bN | apply bD) | exact HB.out))) : w.heap.size≤gb302)); have n3_:=Aside0.mk ((by rw [hg]; exact (below_size (by repeat (first | (with_reducible first | exact HB.out | apply bA | apply bN | apply bD) | exact HB.out))) : w.heap.size≤gb302)); clear HB; have HB:=n0_; have BK302:=n1_; have GW302:=n2_; have GE302:=n3_; clear n0_ n1_ n2_ n3_; clear hb hbox hg; have hcz5_0:w4.cell? ⟨gb302,0,none⟩=some (.int .u8 0):=blk_cell BK302.out 0; have hcz5_1:w4.cell? ⟨gb302,1,none⟩=some (.int .u8 0):=blk_cell BK302.out 1; have hcz5_2:w4.cell? ⟨gb302,2,none⟩=some (.int .u8 0):=blk_cell BK302.out 2; have hcz5_3:w4.cell? ⟨gb302,3,none⟩=some (.int .u8 0):=blk_cell BK302.out 3; have hcz5_4:w4.cell? ⟨gb302,4,none⟩=some (.int .u8 0):=blk_cell BK302.out 4; have hcz5_5:w4.cell? ⟨gb302,5,none⟩=some (.string (⟨#[]⟩ : ByteArray)):=blk_cell BK302.out 5; have hcz5_6:w4.cell? ⟨gb302,6,none⟩=some (.string (⟨#[]⟩ : ByteArray)):=blk_cell BK302.out 6; have hcz5_7:w4.cell? ⟨gb302,7,none⟩=some (.string (⟨#[]⟩ : ByteArray)):=blk_cell BK302.out 7; have hcz5_8:w4.cell? ⟨gb302,8,none⟩=some (.string (⟨#[]⟩ : ByteArray)):=blk_cell BK302.out 8; have hcz5_9:w4.cell? ⟨gb302,9,none⟩=some (.string (⟨#[]⟩ : ByteArray)):=blk_cell BK302.out 9; have hcz5_10:w4.cell? ⟨gb302,10,none⟩=some (.string (⟨#[]⟩ : ByteArray)):=blk_cell BK302.out 10; have hcz5_11:w4.cell? ⟨gb302,11,none⟩=some (.string (⟨#[]⟩ : ByteArray)):=blk_cell BK302.out 11; have hcz5_12:w4.cell? ⟨gb302,12,none⟩=some (.string (⟨#[]⟩ : ByteArray)):=blk_cell BK302.out 12; have hcz5_13:w4.cell? ⟨gb302,13,none⟩=some (.string (⟨#[]⟩ : ByteArray)):=blk_cell BK302.out 13; have hcz5_14:w4.cell? ⟨gb302,14,none⟩=some (.string (⟨#[]⟩ : ByteArray)):=blk_cell BK302.out 14; have hfz5_0:=blk_frozen BK302.out 0; have hfz5_1:=blk_frozen BK302.out 1; have hfz5_2:=blk_frozen BK302.out 2; have hfz5_3:=blk_frozen BK302.out 3; have hfz5_4:=blk_frozen BK302.out 4; have hfz5_5:=blk_frozen BK302.out 5; have hfz5_6:=blk_frozen BK302.out 6; have hfz5_7:=blk_frozen BK302.out 7; have hfz5_8:=blk_frozen BK302.out 8; have hfz5_9:=blk_frozen BK302.out 9; have hfz5_10:=blk_frozen BK302.out 10; have hfz5_11:=blk_frozen BK302.out 11; have hfz5_12:=blk_frozen BK302.out 12; have hfz5_13:=blk_frozen BK302.out 13; have hfz5_14:=blk_frozen BK302.out 14))
 go_ret
 exact ⟨by first | rfl | (simp [errW_none,errW_some] <;> rfl) | (simp [*,errW_none,errW_some] <;> rfl),by repeat (first | (with_reducible first | exact HB.out | apply bA | apply bN | apply bD | refine below_set ?_ GE302.out) | exact HB.out)⟩

end Go.Proofs.YtljdbphojcglgaaDoor.PF
