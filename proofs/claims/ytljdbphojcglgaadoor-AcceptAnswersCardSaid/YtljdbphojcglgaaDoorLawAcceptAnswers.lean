/- The law lamplighterlaw11_AcceptAnswers, proved for every input of its parameters' types; no condition; package-level tables of the library lie as the program's text lays them. -/
import Derived.Test.YtljdbphojcglgaaDoorCards
import Derived.Test.YtljdbphojcglgaaDoorTie
import Derived.Test.YtljdbphojcglgaaDoorPFx20
import Derived.Test.YtljdbphojcglgaaDoorPureAcceptAnswers
import Derived.Test.YtljdbphojcglgaaDoorOpen
import Derived.Test.YtljdbphojcglgaaDoorLaidC
import Derived.Test.YtljdbphojcglgaaDoorGlob
import Derived.Test.YtljdbphojcglgaaDoorGlobC
import Derived.Test.YtljdbphojcglgaaDoorGlobE
import Derived.WalkKit
import Derived.ProofKit
import Derived.OpenShut
import Derived.ShutString
import Derived.ChangeOld
import Derived.Below
import Derived.SizedLaws
import Derived.Deep.DeepHandedRow
import Derived.Lib.LaidTab
import Derived.JoinedCond
namespace Go.Proofs.YtljdbphojcglgaaDoor.acceptAnswers
open Go.ChangeShapes Go.WideShapes Go.ChangeAt Go.RowKit
open Go.ChangeMaps (open_string shut_string)
set_option linter.unusedVariables false
theorem own : ownKnob Tryd.prog.godebug=none:=by kernel_rfl
theorem byte_wf {a : Int} (ha : (Lit.int .u8 a).wf=true) : 0≤a∧a≤255:=by simpa [Lit.wf,IntKind.min,IntKind.max,IntKind.signed,IntKind.bits] using ha
theorem word_wf {a : Int} (ha : (Lit.int .u16 a).wf=true) : 0≤a∧a≤65535:=by simpa [Lit.wf,IntKind.min,IntKind.max,IntKind.signed,IntKind.bits] using ha
set_option maxRecDepth 100000 in
/-- What the walk gives, for every argument. -/
theorem contract (H : Type) (enc : TypeId × Value→H) (W : World) (base : Nat) (args : Array Value) (ds gs : List (DataW H)) (before : List MemPlace)
    (hval0 : ∀ (j : Nat) t v,Tryd.f3.params[j]?=some t→args[j]?=some v→Value.okWide Tryd.prog W .any base t v)
    (hW : DataW.Whole enc Tryd.prog Tryd.f3.params.toList Rows.acceptAnswersSpec.vars false W args.toList ds gs before)
    (hsz0 : (DataW.weightsEach Tryd.prog (Tryd.f3.params.toList ++ Rows.acceptAnswersSpec.plain.varTypes Tryd.prog) (ds ++ gs)).all (·≤reachBytes)=true)
    (hL : laidMetH Tryd.prog Rows.acceptAnswersRow.laid W)
    (hS : W.ShapedOpen Tryd.prog)
    : Calls Tryd.prog 3 args W fun e W' => ∃ v,e = .returned v∧Rows.acceptAnswersSpec.post enc Tryd.prog Tryd.f3 false true false false W args v W':=by
  have hsz:=hsz0
  have hval : ∀ (j : Nat) t v,Tryd.f3.params[j]?=some t→args[j]?=some v→Value.okWide Tryd.prog W .any base t v:=hval0
  have hW':=hW
  obtain ⟨p,q,hA0,hV,rfl,hfz,hnd⟩:=hW
  have hA:DataW.TrodAll enc Tryd.prog W 0 (fun _=>true) true Tryd.f3.params.toList args.toList ds p:=hA0
  rw [Tryd.params3] at hA hval hsz
  obtain ⟨v0,vs0,d0,ds0,p0,q0,hargs,rfl,rfl,h0,r0⟩:=trodAll_cons hA
  obtain ⟨v1,vs1,d1,ds1,p1,q1,rfl,rfl,rfl,h1,r1⟩:=trodAll_cons r0
  obtain ⟨rfl,rfl,rfl⟩:=trodAll_nil r1
  obtain rfl : args=#[v0,v1]:=by cases args; simp_all
  obtain ⟨rfl,rfl⟩:=trodVars_none hV
  obtain ⟨A0,l0,c0,rfl,n0,r0',w0,m0,b0⟩:=Open.open_bytes (hval 0 22 v0 rfl rfl) h0
  obtain ⟨a1,rfl,rfl,rfl⟩:=open_bool Tryd.underlying4 (hval 1 4 v1 rfl rfl) h1
  clear hA0 hval0 hsz0
  obtain ⟨k,hk'⟩:=Pure.AcceptAnswers l0 a1 (fun x hx=>byte_wf (w0 x hx))
  refine (PF.lamplighterlaw11_AcceptAnswers.calls k A0 c0 l0 a1 true W r0' n0 hk' rfl (glob_laid hL) (globc_laid hL) (globe_laid hL hS)).mono fun e W' ⟨he,bel⟩=>?_
  subst he
  exact ⟨_,rfl,_,_,_,[],_,[],hW',trodAll_mk1 (shut_bool Tryd.underlying4 _),(trodAll_cons_mk (b0 _ bel) (trodAll_cons_mk (shut_bool Tryd.underlying4 _) trodAll_mk0)),rfl,bel.frame _,fun h=>by cases h⟩
set_option maxRecDepth 100000 in
theorem lifted (os : Os) (started : os.Started) (H : Type) (enc : TypeId × Value→H) (F : Stop.Interp) :
    ReturnsInHanded {} Tryd.checked os 3 .any ((OpenSpec.ofChange Rows.acceptAnswersSpec).preRow enc Tryd.prog Tryd.f3 Rows.acceptAnswersRow.domain false Rows.acceptAnswersRow.laid) (((OpenSpec.ofChange Rows.acceptAnswersSpec).at F).post enc Tryd.prog Tryd.f3 false true false false):=by
  refine returnsInHanded_of_row (C:=Tryd.checked) (s:=(OpenSpec.ofChange Rows.acceptAnswersSpec)) own started (by kernel_rfl) Tryd.func3
    (witness_row_at (enc:=enc) (C:=Tryd.checked) false (LaidC.laidWorld os) #[.slice none 0 0, .bool false] rfl (by kernel_rfl) (by kernel_rfl) (by kernel_rfl)
      (OpenSpec.preRow_of_cond 8 (x:=([.nil, .lit (.bool false)],[],[])) (by kernel_rfl) (by kernel_rfl) (fun k hk=>by cases hk) (by kernel_rfl) (LaidC.laid_met os _))) ?_
  intro W base args ds gs before hval hW _ hcond hsz hL hS _
  exact contract H enc W base args ds gs before hval hW hsz hL hS
theorem over : Rows.acceptAnswersRow.holds Tryd.pinned (OpenSpec.ofChange Rows.acceptAnswersSpec) :=
  OpenClaim.holds_of_cond 3 Tryd.f3 rfl rfl rfl rfl rfl rfl rfl ⟨rfl,rfl,rfl,rfl,rfl⟩ rfl rfl rfl rfl rfl (by kernel_rfl) Tryd.func3 (by kernel_rfl)
    (of_decide_eq_true (by kernel_rfl)) (by unfold Func.isWrapper; first | (rw [if_pos (by decide +kernel)]; kernel_rfl) | (rw [if_neg (by decide +kernel)]; exact ⟨rfl,rfl⟩))
    (fun os started H enc _ F=>by rw [OpenClaim.pre_eq_preRow]; exact lifted os started H enc F)
theorem proved : Rows.AcceptAnswersSaid:=over
/-- No parameter wants a stand-in; the program's own looks are off. -/
theorem plain (f : FuncId) (fn : Func) (hf : Tryd.pinned.checked.prog.funcNamed "lamplighter/lamplighterlaw11.AcceptAnswers" = some f) (hfn : Tryd.pinned.checked.prog.funcs[f]?=some fn) :
    false=Tryd.pinned.checked.prog.looks []∧∀ (j : Nat) t,fn.params[j]?=some t→Tryd.pinned.checked.prog.wantsStandIn t=false:=by
  obtain rfl : f=3:=Option.some.inj ((show Tryd.prog.funcNamed "lamplighter/lamplighterlaw11.AcceptAnswers" = some 3 by kernel_rfl).symm.trans hf) |>.symm
  obtain rfl : fn=Tryd.f3:=(Option.some.inj (Tryd.func3.symm.trans hfn)).symm
  refine ⟨by kernel_rfl,fun j t ht=>?_⟩
  rw [Tryd.params3] at ht
  have hall : (#[22,4] : Array TypeId).all (fun t => !(Tryd.prog.wantsStandIn t))=true:=by kernel_rfl
  have hm:=(Array.all_eq_true_iff_forall_mem.1 hall) t (Array.mem_of_getElem? ht)
  have hm2:Tryd.prog.wantsStandIn t=false:=by simpa using hm
  exact hm2
theorem card : Rows.AcceptAnswersCardSaid :=
  Claim7.holds_tied_plain_at .later [] _ _ _ _ proved (fun _ h=>by cases h) (by kernel_rfl) (fun _ h=>by cases h) acceptAnswers_row_tie rfl ⟨rfl,rfl⟩ (by kernel_rfl) rfl plain (by kernel_rfl)
#print axioms card
end Go.Proofs.YtljdbphojcglgaaDoor.acceptAnswers
namespace Go.Proofs.YtljdbphojcglgaaDoor
/-- The statement, under a short name, for the claim. -/
theorem acceptAnswers_holds : Rows.AcceptAnswersCardSaid:=acceptAnswers.card
end Go.Proofs.YtljdbphojcglgaaDoor
