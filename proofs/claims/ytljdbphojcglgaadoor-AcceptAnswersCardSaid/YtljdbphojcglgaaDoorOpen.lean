/- A slice of bytes as an argument: what it holds, and that its reading stays while the memory that was there stays; condition: it reads at its type. -/
import Derived.Test.YtljdbphojcglgaaDoorProg
import Derived.Test.YtljdbphojcglgaaDoorV
import Derived.WalkKit
import Derived.ProofKit
import Derived.OpenShut
import Derived.ChangeOld
import Derived.Below
import Derived.Carry
import Derived.ChangeSlices
namespace Go.Proofs.YtljdbphojcglgaaDoor.Open
open Go Go.ChangeShapes Go.WideShapes Go.ChangeAt Go.RowKit Go.Proofs.YtljdbphojcglgaaDoorW.PrintWords Go.Proofs.YtljdbphojcglgaaDoorW.PrintLast

theorem laidOut : laidOutB Tryd.prog=true:=by kernel_rfl
set_option maxRecDepth 100000 in
theorem open_bytes {H : Type} {enc : TypeId × Value→H} {W : World} {base : Nat} {v : Value} {d : DataW H} {p : List MemPlace} (hv : Value.okWide Tryd.prog W .any base 22 v) (h : DataW.Trod enc Tryd.prog W 0 (fun _=>true) true 22 v d p) :
    ∃ (A : Option Addr) (l : List Int) (c : Nat),v = .slice A l.length c∧l.length≤c∧Kd.C (Kd.int .u8) W A l.length l∧(∀ x ∈ l,(Lit.int .u8 x).wf=true)∧l.length≤maxLen ∧
      ∀ W',Below W.heap.size W W'→DataW.Trod enc Tryd.prog W' 0 (fun b=>decide (b < W.heap.size)) true 22 v d p:=by
  obtain ⟨a,len,cap,rfl⟩:=okWide_slice Tryd.underlying22 hv
  have k:=h
  have lt : ∀ x ∈ p,x.block < W.heap.size:=by obtain ⟨m,hm⟩:=k; exact DataW.trod_lt m _ _ _ hm
  obtain ⟨fuel,hf⟩:=h
  have row : ∃ zs : List Int,(a=none∧len=0∧cap=0∧zs=[])∨∃ x,a=some x∧len≤cap∧cap≤maxLen∧zs.length=cap∧(∀ i,i < zs.length→W.cell? (x.add i)=some (.int .u8 (zs.getD i 0)))∧∀ n ∈ zs,(Lit.int .u8 n).wf=true:=by
    rcases open_ints Tryd.underlying22 Tryd.underlying5 (by kernel_rfl) hf with ⟨hcs,_⟩ | ⟨x,l,c,zs,hcs,_,hl,hm,hz,_,hcell,hwz⟩
    · simp [Value.cells] at hcs
      obtain ⟨rfl,rfl,rfl⟩:=hcs
      exact ⟨[], .inl ⟨rfl,rfl,rfl,rfl⟩⟩
    · simp [Value.cells] at hcs
      obtain ⟨rfl,rfl,rfl⟩:=hcs
      exact ⟨zs, .inr ⟨_,rfl,hl,hm,by simpa using hz,hcell,hwz⟩⟩
  obtain ⟨zs,hz⟩:=row
  obtain ⟨l,rfl,hr,hm,hw,hc⟩:=ReadsInt.ofRowC hz
  exact ⟨a,l,cap,rfl,hc,Kd.C_of_reads (d:=(0 : Int)) (h1:=fun _=>rfl) hr,hw,hm,fun W' bel=>Below.trod laidOut (by kernel_rfl) (of_decide_eq_true (by kernel_rfl)) k bel lt⟩
theorem byte_wf {a : Int} (ha : (Lit.int .u8 a).wf=true) : 0≤a∧a≤255:=by simpa [Lit.wf,IntKind.min,IntKind.max,IntKind.signed,IntKind.bits] using ha
end Go.Proofs.YtljdbphojcglgaaDoor.Open
