import Derived.Test.YtljdbphojcglgaaDoorPFx0
import Derived.Test.YtljdbphojcglgaaDoorPFx3
namespace Go.Proofs.YtljdbphojcglgaaDoor.PF
open Go.RowKit Go.Proofs.YtljdbphojcglgaaDoorW.PrintWords Go.Proofs.YtljdbphojcglgaaDoorW.PrintLast Go.Proofs.YtljdbphojcglgaaDoorW.PrintMore
set_option maxHeartbeats 4000000
set_option maxRecDepth 100000
attribute [local go_sem] max2_int min2_int max_two min_two max_three min_three max_four min_four
set_option linter.unusedVariables false
set_option linter.unusedSimpArgs false

/-! ### frame_Good: function 16 -/
def goodB (l : List Int) : Bool:=(decide (Lib.indexByte (Lib.bytesOf l) 11 < 0) && !Lib.contains (Lib.bytesOf l) [28,13]) && !Lib.hasSuffix (Lib.bytesOf l) [28]
def frame_Good.f (l0 : List Int) : Option (Bool):=if (∀ x ∈ l0,0≤x∧x < 256)∧l0.length < 4294967281 then some (goodB l0) else none
theorem globe_drewN {w : World} (h : GlobE w) (n : Nat) : GlobE (w.drewN n):=h
theorem globe_drew {w : World} (h : GlobE w) : GlobE w.drew:=h
/-- A slice of bytes: nil, or all its cells. -/
theorem bytes_at {w : World} {A0 : Option Addr} {l0 : List Int} (hr0 : Kd.C (Kd.int .u8) w A0 l0.length l0) : (A0=none∧l0=[])∨∃ a,A0=some a∧∀ i,i < l0.length→w.cell? (a.add i)=some (.int .u8 (l0.getD i 0)):=by
 cases A0 with
 | none =>
  refine Or.inl ⟨rfl,List.eq_nil_of_length_eq_zero ?_⟩
  rcases Nat.eq_zero_or_pos l0.length with h0 | h0
  ·exact h0
  ·obtain ⟨ad,e,_⟩:=Kd.at_int hr0 0 (by omega) (by omega)
   cases e
 | some a =>
  refine Or.inr ⟨a,rfl,fun i hi=>?_⟩
  obtain ⟨ad,e,hc⟩:=Kd.at_int hr0 (i : Int) (by omega) (by omega)
  cases e
  simpa [rd] using hc
theorem contains_ends (A0 : Option Addr) (c0 : Nat) (l0 : List Int) (w : World) (hr0 : Kd.C (Kd.int .u8) w A0 l0.length l0) (hc0 : l0.length≤c0) (hb : ∀ x ∈ l0,0≤x∧x < 256) (hl : l0.length < 4294967281) (hE : GlobE w) :
  Calls Tryd.prog 32 #[.slice A0 l0.length c0, .slice (some ⟨0,0,none⟩) 2 2] w fun e w'=>e = .returned (.bool (Lib.contains (Lib.bytesOf l0) [28,13]))∧∃ q,w'=w.drewN q:=by
 obtain ⟨_,_,m,hm⟩:=id hE
 rcases bytes_at hr0 with ⟨rfl,rfl⟩ | ⟨a,rfl,hc⟩
 ·refine (Any.bytes_Contains_longer { Tryd.laysM186 with } none (some ⟨0,0,none⟩) 0 c0 2 2 w (by decide) (by decide) (by decide)).mono ?_
  rintro e w' ⟨rfl,rfl⟩
  exact ⟨rfl,0,rfl⟩
 ·exact Any.bytes_Contains_at { Tryd.laysM186 with } a ⟨0,0,none⟩ l0.length c0 2 2 l0 [28,13] m w rfl rfl hb (by decide) hc (globe_at hE) hc0 hl (by decide) hm
theorem suffix_end (A0 : Option Addr) (c0 : Nat) (l0 : List Int) (w : World) (hr0 : Kd.C (Kd.int .u8) w A0 l0.length l0) (hc0 : l0.length≤c0) (hl : l0.length < 4294967281) (hE : GlobE w) :
  Calls Tryd.prog 33 #[.slice A0 l0.length c0, .slice (some ⟨0,0,none⟩) 1 2] w fun e w'=>e = .returned (.bool (Lib.hasSuffix (Lib.bytesOf l0) [28]))∧w'=w:=by
 refine Tryd.bytes_HasSuffix_all A0 (some ⟨0,0,none⟩) l0.length c0 1 2 l0 [28] w rfl rfl hc0 (by omega) ?_ (Lib.BytesIn.of_cells fun i hi=>?_)
 ·rcases bytes_at hr0 with ⟨rfl,rfl⟩ | ⟨a,rfl,hc⟩
  ·exact Lib.BytesIn.nil w none []
  ·exact Lib.BytesIn.of_cells hc
 ·obtain rfl : i=0:=by omega
  exact globe_at hE 0 (by decide)
theorem frame_Good.calls (A0 : Option Addr) (c0 : Nat) (l0 : List Int) (r : Bool) (w : World) (hr0 : Kd.C (Kd.int .u8) w A0 l0.length l0) (hc0 : l0.length≤c0) (h : frame_Good.f l0=some r) (hGE : GlobE w) :
  Calls Tryd.prog 16 #[.slice A0 l0.length c0] w fun e w'=>e = .returned (.bool r)∧Drawn0 w w':=by
 have HG:=Lib.hid hGE
 have HR:=Lib.hid hr0
 have HC:=Lib.hid hc0
 clear hGE hr0 hc0
 unfold frame_Good.f at h
 by_cases q : (∀ x ∈ l0,0≤x∧x < 256)∧l0.length < 4294967281
 ·rw [if_pos q] at h
  obtain rfl:=Option.some.inj h
  clear h
  have HB:=Lib.hid q.1
  have HL:=Lib.hid q.2
  clear q
  obtain ⟨ix,hix⟩ : ∃ ix,Lib.indexByte (Lib.bytesOf l0) 11=ix:=⟨_,rfl⟩
  have HX:=Lib.hid (show bytes_IndexByte.f l0 11=some ix from congrArg some hix)
  obtain ⟨cn,hcon⟩ : ∃ cn,Lib.contains (Lib.bytesOf l0) [28,13]=cn:=⟨_,rfl⟩
  obtain ⟨sf,hsf⟩ : ∃ sf,Lib.hasSuffix (Lib.bytesOf l0) [28]=sf:=⟨_,rfl⟩
  have hr:goodB l0=(decide (ix < 0) && !cn && !sf):=by unfold goodB; rw [hix,hcon,hsf]
  rw [hr]
  clear hr hix
  by_cases hd0 : ix < 0
  ·have hd:decide (ix < 0)=true:=decide_eq_true hd0
   rw [hd]
   cases cn with
   | true =>
    go_enter Tryd.func16,Tryd.ntmps16
    go_wp2_with fail
    refine (bytes_IndexByte.calls A0 c0 l0 11 ix _ (by repeat (first | exact HR.out | refine Kd.C_drewN ?_ _ | refine Kd.C_drew ?_)) HC.out HX.out).mono ?_
    rintro e w2 ⟨rfl,n2,rfl⟩
    go_wp2_with fail
    refine (contains_ends A0 c0 l0 _ (by repeat (first | exact HR.out | refine Kd.C_drewN ?_ _ | refine Kd.C_drew ?_)) HC.out HB.out HL.out (by repeat (first | exact HG.out | refine globe_drewN ?_ _ | refine globe_drew ?_))).mono ?_
    rintro e w3 ⟨rfl,n3,rfl⟩
    rw [hcon]
    go_wp2_with fail
    go_ret
    exact ⟨rfl,_,rfl⟩
   | false =>
    go_enter Tryd.func16,Tryd.ntmps16
    go_wp2_with fail
    refine (bytes_IndexByte.calls A0 c0 l0 11 ix _ (by repeat (first | exact HR.out | refine Kd.C_drewN ?_ _ | refine Kd.C_drew ?_)) HC.out HX.out).mono ?_
    rintro e w2 ⟨rfl,n2,rfl⟩
    go_wp2_with fail
    refine (contains_ends A0 c0 l0 _ (by repeat (first | exact HR.out | refine Kd.C_drewN ?_ _ | refine Kd.C_drew ?_)) HC.out HB.out HL.out (by repeat (first | exact HG.out | refine globe_drewN ?_ _ | refine globe_drew ?_))).mono ?_
    rintro e w3 ⟨rfl,n3,rfl⟩
    rw [hcon]
    go_wp2_with fail
    refine (suffix_end A0 c0 l0 _ (by repeat (first | exact HR.out | refine Kd.C_drewN ?_ _ | refine Kd.C_drew ?_)) HC.out HL.out (by repeat (first | exact HG.out | refine globe_drewN ?_ _ | refine globe_drew ?_))).mono ?_
    rintro e w4 ⟨rfl,rfl⟩
    rw [hsf]
    go_wp2_with fail
    go_ret
    exact ⟨rfl,_,rfl⟩
  ·have hd:decide (ix < 0)=false:=decide_eq_false hd0
   rw [hd]
   go_enter Tryd.func16,Tryd.ntmps16
   go_wp2_with fail
   refine (bytes_IndexByte.calls A0 c0 l0 11 ix _ (by repeat (first | exact HR.out | refine Kd.C_drewN ?_ _ | refine Kd.C_drew ?_)) HC.out HX.out).mono ?_
   rintro e w2 ⟨rfl,n2,rfl⟩
   go_wp2_with fail
   go_ret
   exact ⟨rfl,_,rfl⟩
 ·rw [if_neg q] at h
  cases h


end Go.Proofs.YtljdbphojcglgaaDoor.PF
