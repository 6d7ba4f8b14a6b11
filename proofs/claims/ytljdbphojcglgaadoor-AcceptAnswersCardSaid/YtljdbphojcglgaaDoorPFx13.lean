import Derived.Test.YtljdbphojcglgaaDoorPFx0
import Derived.Test.YtljdbphojcglgaaDoorPFx9
import Derived.Test.YtljdbphojcglgaaDoorPFx12
namespace Go.Proofs.YtljdbphojcglgaaDoor.PF
open Go.RowKit Go.Proofs.YtljdbphojcglgaaDoorW.PrintWords Go.Proofs.YtljdbphojcglgaaDoorW.PrintLast Go.Proofs.YtljdbphojcglgaaDoorW.PrintMore
set_option maxHeartbeats 4000000
set_option maxRecDepth 100000
attribute [local go_sem] max2_int min2_int max_two min_two max_three min_three max_four min_four
set_option linter.unusedVariables false
set_option linter.unusedSimpArgs false

/-! ### frame_Wrap: function 18 -/
def frame_Wrap.f (l0 : List Int) : Option (List Int × Int):=(frame_Good.f l0).bind fun g=>if g=true then some ((([] ++ [11]) ++ l0) ++ [28,13],0) else some ([],10)
theorem ends_row {w : World} (hG : GlobE w) : Kd.C (Kd.int .u8) w (some ⟨0,0,none⟩) [(28 : Int),13].length [28,13] :=
 Kd.C_of_reads (d:=(0 : Int)) (h1:=fun _=>rfl) ⟨rfl,by decide,fun _=>⟨_,rfl,fun j hj=>globe_at hG j hj⟩⟩
theorem frame_Wrap.calls (A0 : Option Addr) (c0 : Nat) (l0 : List Int) (r1 : List Int) (r2 : Int) (w : World) (hr0 : Kd.C (Kd.int .u8) w A0 l0.length l0) (hc0 : l0.length≤c0) (h : frame_Wrap.f l0=some (r1,r2)) (hGE : GlobE w) :
  Calls Tryd.prog 18 #[.slice A0 l0.length c0] w fun e w' => ∃ v0_ : Value,e = .returned (.tuple #[v0_, .int .i64 r2])∧Kd.R (Kd.int .u8) 5 w' w.heap.size (fun _=>True) v0_ r1∧Below w.heap.size w w':=by
 have HG:=Lib.hid hGE
 have HR:=Lib.hid hr0
 have HC:=Lib.hid hc0
 clear hGE hr0 hc0
 unfold frame_Wrap.f at h
 obtain ⟨g,hg,h1⟩:=Option.bind_eq_some_iff.1 h
 have HGD:=Lib.hid hg
 cases g with
 | false =>
  obtain ⟨rfl,rfl⟩ : []=r1∧10=r2:=by simpa using h1
  clear h h1 hg
  go_enter Tryd.func18,Tryd.ntmps18
  go_wp2_with fail
  refine (frame_Good.calls A0 c0 l0 false _ HR.out HC.out HGD.out HG.out).mono ?_
  rintro e w1 ⟨rfl,n1,rfl⟩
  go_wp2_with fail
  exact bodyPost_ret (v := .tuple #[.slice none 0 0, .int .i64 10]) (by simp [results,Tryd.results18,go_sem]) rfl ⟨_,rfl,Kd.R_nil _ _ _ _ _,pw_below_drewN (Below.refl _ _) _⟩
 | true =>
  have hlen:l0.length < 4294967281:=by
   unfold frame_Good.f at hg
   by_cases q : (∀ x ∈ l0,0≤x∧x < 256)∧l0.length < 4294967281
   ·exact q.2
   ·rw [if_neg q] at hg
    cases hg
  obtain ⟨rfl,rfl⟩ : (([] ++ [11]) ++ l0) ++ [28,13]=r1∧0=r2:=by
   have h2:some ((([] ++ [11]) ++ l0) ++ [28,13],(0 : Int))=some (r1,r2):=h1
   exact ⟨congrArg Prod.fst (Option.some.inj h2),congrArg Prod.snd (Option.some.inj h2)⟩
  clear h h1 hg
  have hcount:frame_Count.f (l0.length : Int)=some ((l0.length + 3 : Nat) : Int):=by
   unfold frame_Count.f
   rw [if_neg (by omega)]
   have e:wrap64 ((l0.length : Int) + 3)=((l0.length + 3 : Nat) : Int):=by unfold wrap64; omega
   rw [e]
  have HCT:=Lib.hid hcount
  clear hcount
  go_enter Tryd.func18,Tryd.ntmps18
  go_wp2_with fail
  refine (frame_Good.calls A0 c0 l0 true _ HR.out HC.out HGD.out HG.out).mono ?_
  rintro e w1 ⟨rfl,n1,rfl⟩
  go_wp2_with fail
  refine (frame_Count.calls (l0.length : Int) _ _ HCT.out).mono ?_
  rintro e w2 ⟨rfl,n2,rfl⟩
  have HB:=Lib.hid (pw_below_drewN (pw_below_drewN (Below.refl w.heap.size w) n1) n2)
  obtain ⟨i5,hi5,hz5,hs5,hb5⟩:=info_parts info5
  go_wp2_with (first
   | ((with_reducible refine gate_dst (N:=11) rfl ?_); refine wpList_make_own _ rfl _ _ 22 rfl w.heap.size 5 i5 (.int .u8 0) 1 Tryd.underlying22 hi5 hz5 hs5 .i64 .i64 _ (l0.length + 3) rfl rfl rfl (by rw [hb5]; omega) (by unfold maxLen; omega) (below_size (by repeat (first | exact HB.out | apply bA | apply bN | apply bD | exact Below.refl _ _))) ?_; intro w3 ho3 hg3; have HO:=Lib.hid (show Kd.R (Kd.int .u8) 5 w3 w.heap.size (fun _=>True) _ [] from Kd.R_of_own ho3 (fun _ _=>trivial)); have HB3:=Lib.hid ((show Below w.heap.size w _ from (by repeat (first | exact HB.out | apply bA | apply bN | apply bD | exact Below.refl _ _))).grown hg3 (below_size (by repeat (first | exact HB.out | apply bA | apply bN | apply bD | exact Below.refl _ _))) (fun k e=>by cases e)); clear HB; have HB:=HB3; clear HB3 hg3 ho3)
   | ((with_reducible refine gate_builtin (b := .append) (xs:=#[.tmp 12, .tmp 13]) rfl ?_); at_builtin; refine Kd.R_append (Kd.int .u8) (w0:=w) w.heap.size rfl (.tmp 12) (.tmp 13) 22 5 (.int .u8 0) 1 rfl Tryd.underlying22 info5 rfl (by decide) (by decide) _ [] 11 [.int .u8 11] (fun _=>True) (fun _=>False) rfl rfl rfl (fun _ hk=>hk.elim) (fun _ _=>trivial) (by (with_reducible repeat (first | apply Kd.R_alloc | apply Kd.R_drewN | apply Kd.R_drew)); exact HO.out) (by repeat (first | exact HB.out | apply bA | apply bN | apply bD | exact Below.refl _ _)) (below_size (by repeat (first | exact HB.out | apply bA | apply bN | apply bD | exact Below.refl _ _))) (by simp) ?_; intro v1 w5 ho hb hg hat; have n0_:=Lib.hid hb; have n1_:=Lib.hid ho; clear HB; clear HO; have HB:=n0_; have HO:=n1_; clear n0_ n1_; clear ho hb hg hat)
   | ((with_reducible refine gate_builtin (b := .append) (xs:=#[.tmp 15, .tmp 16]) rfl ?_); at_builtin; refine Kd.R_append_rows (Kd.int .u8) (w0:=w) w.heap.size rfl (.tmp 15) (.tmp 16) 22 5 (.int .u8 0) 1 rfl Tryd.underlying22 info5 rfl (by decide) (by decide) _ ([] ++ [11]) l0 _ _ _ (fun _=>True) (fun _=>False) rfl rfl (by (with_reducible repeat (first | apply Kd.R_alloc | apply Kd.R_drewN | apply Kd.R_drew)); exact HO.out) (by repeat (first | exact Kd.C_below HR.out HB.out | (with_reducible refine Kd.C_alloc ?_ _) | (with_reducible refine Kd.C_drewN ?_ _) | (with_reducible refine Kd.C_drew ?_))) (fun _ _ h=>h) (fun _ h=>h.elim) (fun _ _=>trivial) (by repeat (first | exact HB.out | apply bA | apply bN | apply bD | exact Below.refl _ _)) (below_size (by repeat (first | exact HB.out | apply bA | apply bN | apply bD | exact Below.refl _ _))) (by simp; omega) ?_; intro v1 w5 ho hb hg hat; have n0_:=Lib.hid hb; have n1_:=Lib.hid ho; clear HB; clear HO; have HB:=n0_; have HO:=n1_; clear n0_ n1_; clear ho hb hg hat)
   | ((with_reducible refine gate_builtin (b := .append) (xs:=#[.tmp 18, .tmp 19]) rfl ?_); at_builtin; refine Kd.R_append_rows (Kd.int .u8) (w0:=w) w.heap.size rfl (.tmp 18) (.tmp 19) 22 5 (.int .u8 0) 1 rfl Tryd.underlying22 info5 rfl (by decide) (by decide) _ (([] ++ [11]) ++ l0) [28,13] _ _ _ (fun _=>True) (fun _=>False) rfl rfl (by (with_reducible repeat (first | apply Kd.R_alloc | apply Kd.R_drewN | apply Kd.R_drew)); exact HO.out) (ends_row (globe_below HG.out (by repeat (first | exact HB.out | apply bA | apply bN | apply bD | exact Below.refl _ _)))) (fun _ _ h=>h) (fun _ h=>h.elim) (fun _ _=>trivial) (by repeat (first | exact HB.out | apply bA | apply bN | apply bD | exact Below.refl _ _)) (below_size (by repeat (first | exact HB.out | apply bA | apply bN | apply bD | exact Below.refl _ _))) (by simp; omega) ?_; intro v1 w5 ho hb hg hat; have n0_:=Lib.hid hb; have n1_:=Lib.hid ho; clear HB; clear HO; have HB:=n0_; have HO:=n1_; clear n0_ n1_; clear ho hb hg hat)
   | fail)
  exact bodyPost_ret (v := .tuple #[_, .int .i64 0]) (by simp [results,Tryd.results18,go_sem]; rfl) rfl ⟨_,rfl,(by (with_reducible repeat (first | apply Kd.R_alloc | apply Kd.R_drewN | apply Kd.R_drew)); exact HO.out),(by repeat (first | exact HB.out | apply bA | apply bN | apply bD | exact Below.refl _ _))⟩


end Go.Proofs.YtljdbphojcglgaaDoor.PF
