import Derived.Test.YtljdbphojcglgaaDoorPFx0
import Derived.Test.YtljdbphojcglgaaDoorPFx9
namespace Go.Proofs.YtljdbphojcglgaaDoor.PF
open Go.RowKit Go.Proofs.YtljdbphojcglgaaDoorW.PrintWords Go.Proofs.YtljdbphojcglgaaDoorW.PrintLast Go.Proofs.YtljdbphojcglgaaDoorW.PrintMore
set_option maxHeartbeats 4000000
set_option maxRecDepth 100000
attribute [local go_sem] max2_int min2_int max_two min_two max_three min_three max_four min_four
set_option linter.unusedVariables false
set_option linter.unusedSimpArgs false

/-! ### frame_Unwrap: function 8 -/
def innerOf (l0 : List Int) : List Int:=(l0.drop 1).take (l0.length - 3)
def frame_Unwrap.f (l0 : List Int) : Option (List Int × Int):=if (3≤l0.length∧l0=(11 : Int) :: (innerOf l0 ++ [28,13])∧l0.length < 4294967281)∧frame_Good.f (innerOf l0)=some true then some (innerOf l0,0) else none
theorem frame_cell {w : World} {A0 : Option Addr} {l0 : List Int} (hr0 : Kd.C (Kd.int .u8) w A0 l0.length l0) (h : 0 < l0.length) : ∃ a : Addr,A0=some a∧∀ i,i < l0.length→w.cell? (a.add i)=some (.int .u8 (l0.getD i 0)):=by
  rcases bytes_at hr0 with ⟨_,rfl⟩ | h1
  · simp at h
  · exact h1
set_option maxHeartbeats 4000000 in
set_option maxRecDepth 100000 in
theorem frame_Unwrap.calls (A0 : Option Addr) (c0 : Nat) (l0 : List Int) (r1 : List Int) (r2 : Int) (w : World) (hr0 : Kd.C (Kd.int .u8) w A0 l0.length l0) (hc0 : l0.length≤c0) (h : frame_Unwrap.f l0=some (r1,r2)) (hGE : GlobE w) :
    Calls Tryd.prog 8 #[.slice A0 l0.length c0] w fun e w' => ∃ v0_ : Value,e = .returned (.tuple #[v0_, .int .i64 r2])∧Kd.R (Kd.int .u8) 5 w' w.heap.size (fun _=>True) v0_ r1∧Below w.heap.size w w':=by
  have HG:=Lib.hid hGE
  unfold frame_Unwrap.f at h
  by_cases q : (3≤l0.length∧l0=(11 : Int) :: (innerOf l0 ++ [28,13])∧l0.length < 4294967281)∧frame_Good.f (innerOf l0)=some true
  · rw [if_pos q] at h
    obtain ⟨hr1,hr2⟩:=Prod.mk.inj (Option.some.inj h)
    obtain ⟨⟨h3,hl0,hbig⟩,hgood⟩:=q
    obtain ⟨x,hx⟩ : ∃ x,x=innerOf l0:=⟨_,rfl⟩
    rw [← hx] at hl0 hgood hr1
    subst hr1 hr2
    clear h hx hGE
    have hxl:l0.length=x.length + 3:=by rw [hl0]; simp
    obtain ⟨a,rfl,hcell⟩:=frame_cell hr0 (by omega)
    obtain ⟨b,o,rfl⟩ : ∃ b o,a=⟨b,o,none⟩:=⟨_,_,by
      have e:=hcell 0 (by omega)
      have e1:a.add 0=a:=by unfold Addr.add; simp
      rw [e1] at e
      exact Lib.plain_of_cell e⟩
    obtain ⟨m,rfl⟩ : ∃ m,c0=m + 2:=⟨c0 - 2,by omega⟩
    have hcells : ∀ i,i < x.length→w.cell? ((⟨b,o + 1,none⟩ : Addr).add i)=some (.int .u8 (x.getD i 0)):=by
      intro i hi
      have e:=hcell (i + 1) (by omega)
      have e1 : (⟨b,o + 1,none⟩ : Addr).add i=(⟨b,o,none⟩ : Addr).add (i + 1):=by
        have e:o + 1 + i=o + (i + 1):=by omega
        rw [WideShapes.add_plain,WideShapes.add_plain,e]
      have e2:l0.getD (i + 1) 0=x.getD i 0:=by
        rw [hl0,List.getD_eq_getElem?_getD,List.getD_eq_getElem?_getD,List.getElem?_cons_succ,List.getElem?_append_left hi]
      rw [e1,e,e2]
    have hc1:w.cell? ⟨b,o,none⟩=some (.int .u8 11):=by
      have e:=hcell 0 (by omega)
      have e1 : (⟨b,o,none⟩ : Addr).add 0=⟨b,o,none⟩:=by unfold Addr.add; simp
      have e2:l0.getD 0 0=11:=by rw [hl0]; rfl
      rw [e1,e2] at e
      exact e
    have hCx:Kd.C (Kd.int .u8) w (some ⟨b,o + 1,none⟩) x.length x:=Kd.C_of_reads (d:=(0 : Int)) (h1:=fun _=>rfl) ⟨rfl,by omega,fun _=>⟨_,rfl,fun j hj=>hcells j hj⟩⟩
    have HCX:=Lib.hid hCx
    have HGD:=Lib.hid hgood
    have HCS:=Lib.hid hcells
    have hcut:=Tryd.bytes_CutSuffix_all (some ⟨b,o,none⟩) (some ⟨0,0,none⟩) l0.length (m + 2) 2 2 l0 [28,13] w rfl rfl hc0 (by omega) (Lib.BytesIn.of_cells hcell) (Lib.BytesIn.of_cells fun i hi=>globe_at HG.out i hi)
    have hsuf:Lib.hasSuffix (Lib.bytesOf l0) (Lib.bytesOf [28,13])=true:=by
      unfold Lib.hasSuffix
      rw [List.isSuffixOf_iff_suffix,hl0]
      refine ⟨Lib.bytesOf (11 :: x),?_⟩
      simp [Lib.bytesOf]
    have htrim:Lib.trimSuffixV (some ⟨b,o,none⟩) l0.length (m + 2) l0 [28,13] = .slice (some ⟨b,o,none⟩) (x.length + 1) (m + 2):=by
      have e3:l0.length - [(28 : Int),13].length=x.length + 1:=by simp only [List.length_cons,List.length_nil]; omega
      show Lib.bytesTrimSuffix b o l0.length (m + 2) l0 [28,13]=_
      unfold Lib.bytesTrimSuffix
      rw [if_pos hsuf,e3]
      rfl
    rw [htrim,hsuf] at hcut
    have HCUT:=Lib.hid hcut
    have n1 : ¬ (l0.length : Int) < 3:=by omega
    have c1:x.length + 1≤m + 2:=by omega
    have c2 : (1 : Int)≤(x.length : Int) + 1:=by omega
    have HC1:=Lib.hid (show x.length≤m + 1 from by omega)
    have HXB:=Lib.hid (show x.length≤140737488355328 from by omega)
    clear hcut hsuf htrim hcell hcells hCx hgood hl0 hr0 hxl hc0 h3 hbig
    go_enter Tryd.func8,Tryd.ntmps8
    go_wp2_with fail
    refine HCUT.out.mono ?_
    rintro e w1 ⟨rfl,hw1⟩
    subst hw1
    go_wp2_with fail
    refine (frame_Good.calls (some ⟨b,o + 1,none⟩) (m + 1) x true _ HCX.out HC1.out HGD.out HG.out).mono ?_
    rintro e w2 ⟨rfl,hdr⟩
    have HB2:=Lib.hid hdr.below
    have hc2 : ∀ i,i < x.length→w2.cell? ((⟨b,o + 1,none⟩ : Addr).add i)=some (.int .u8 (x.getD i 0)):=fun i hi=>(hdr.below.cell (World.block_lt_of_cell? _ _ (HCS.out i hi))).trans (HCS.out i hi)
    have HC2:=Lib.hid hc2
    clear hdr hc2
    go_wp2_with fail
    refine (Tryd.bytes_Clone_at ⟨b,o + 1,none⟩ x.length (m + 1) x _ rfl HXB.out HC2.out).mono ?_
    rintro e w3 ⟨v0,rfl,ho,_,hb3⟩
    have HO:=Lib.hid ho
    have HB3:=Lib.hid (below_step HB2.out hb3)
    clear ho hb3
    go_wp2_with fail
    exact bodyPost_ret (v := .tuple #[v0, .int .i64 0]) (by simp [results,Tryd.results8,go_sem]) rfl ⟨_,rfl,Kd.R_lower (Kd.R_of_own HO.out (fun _ _=>trivial)) HB2.out.size,HB3.out⟩
  · rw [if_neg q] at h
    cases h

end Go.Proofs.YtljdbphojcglgaaDoor.PF
