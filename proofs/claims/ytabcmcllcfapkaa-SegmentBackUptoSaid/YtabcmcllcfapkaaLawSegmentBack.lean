/- The law lamplighterlaw08_SegmentBack, proved for every input of its parameters' types; where the arguments count at most 1048576 together. -/
import Derived.Test.YtabcmcllcfapkaaRows
import Derived.Test.YtabcmcllcfapkaaPFx5
import Derived.Test.YtabcmcllcfapkaaPureSegmentBack
import Derived.Test.YtabcmcllcfapkaaOpen
import Derived.Test.YtabcmcllcfapkaaOpenStrs
import Derived.WalkKit
import Derived.ProofKit
import Derived.OpenShut
import Derived.ShutString
import Derived.ChangeOld
import Derived.Below
import Derived.SizedLaws
import Derived.JoinedCond
import Derived.Deep.CondSized
namespace Go.Proofs.Ytabcmcllcfapkaa.segmentBack
open Go.ChangeShapes Go.WideShapes Go.ChangeAt Go.RowKit
open Go.ChangeMaps (open_string shut_string)
set_option linter.unusedVariables false
theorem own : ownKnob Try.prog.godebug = none := by kernel_rfl
theorem byte_wf {a : Int} (ha : (Lit.int .u8 a).wf = true) : 0 ≤ a ∧ a ≤ 255 := by simpa [Lit.wf, IntKind.min, IntKind.max, IntKind.signed, IntKind.bits] using ha
theorem word_wf {a : Int} (ha : (Lit.int .u16 a).wf = true) : 0 ≤ a ∧ a ≤ 65535 := by simpa [Lit.wf, IntKind.min, IntKind.max, IntKind.signed, IntKind.bits] using ha
set_option maxRecDepth 100000 in
/-- What the walk gives, for every argument. -/
theorem contract (H : Type) (enc : TypeId × Value → H) (W : World) (base : Nat) (args : Array Value) (ds gs : List (DataW H)) (before : List MemPlace)
    (hval0 : ∀ (j : Nat) t v, Try.f10.params[j]? = some t → args[j]? = some v → Value.okWide Try.prog W .any base t v)
    (hW : DataW.Whole enc Try.prog Try.f10.params.toList Rows.segmentBackSpec.vars false W args.toList ds gs before)
    (hk : Rows.uptoSmall H (ds ++ gs) = true)
    (hsz0 : (DataW.weightsEach Try.prog (Try.f10.params.toList ++ Rows.segmentBackSpec.plain.varTypes Try.prog) (ds ++ gs)).all (· ≤ reachBytes) = true)
    : Calls Try.prog 10 args W fun e W' => ∃ v, e = .returned v ∧ Rows.segmentBackSpec.post enc Try.prog Try.f10 false true false false W args v W' := by
  have hsz := hsz0
  have hval : ∀ (j : Nat) t v, Try.f10.params[j]? = some t → args[j]? = some v → Value.okWide Try.prog W .any base t v := hval0
  have hW' := hW
  obtain ⟨p, q, hA0, hV, rfl, hfz, hnd⟩ := hW
  have hA : DataW.TrodAll enc Try.prog W 0 (fun _ => true) true Try.f10.params.toList args.toList ds p := hA0
  rw [Try.params10] at hA hval hsz
  obtain ⟨v0, vs0, d0, ds0, p0, q0, hargs, rfl, rfl, h0, r0⟩ := trodAll_cons hA
  obtain ⟨v1, vs1, d1, ds1, p1, q1, rfl, rfl, rfl, h1, r1⟩ := trodAll_cons r0
  obtain ⟨rfl, rfl, rfl⟩ := trodAll_nil r1
  obtain rfl : args = #[v0, v1] := by cases args; simp_all
  obtain ⟨rfl, rfl⟩ := trodVars_none hV
  have hkb : Rows.uptoBulkAll ([d0, d1] : List (DataW H)) ≤ 1048576 := by
    have h : Rows.uptoBulkAll ([d0, d1] ++ ([] : List (DataW H))) ≤ 1048576 := of_decide_eq_true hk
    simpa using h
  simp only [Rows.uptoBulkAll] at hkb
  obtain ⟨A0, l0, c0, rfl, n0, r0', w0, m0, u0, b0⟩ := OpenS.open_strs (hval 0 44 v0 rfl rfl) h0
  obtain ⟨A1, l1, c1, rfl, n1, r1', w1, m1, b1⟩ := Open.open_bytes (hval 1 27 v1 rfl rfl) h1
  clear hA0 hval0 hsz0
  obtain ⟨k, hk'⟩ := Pure.SegmentBack l0 l1 (show bulkOf l0 ≤ 1048576 by unfold bulkOf; omega) (fun x hx => byte_wf (w1 x hx))
  refine (PF.lamplighterlaw08_SegmentBack.calls k A0 c0 l0 A1 c1 l1 true W r0' n0 r1' n1 hk').mono fun e W' ⟨he, bel⟩ => ?_
  subst he
  exact ⟨_, rfl, _, _, _, [], _, [], hW', trodAll_mk1 (shut_bool Try.underlying4 _), (trodAll_cons_mk (b0 _ bel) (trodAll_cons_mk (b1 _ bel) trodAll_mk0)), rfl, bel.frame _, fun h => by cases h⟩
set_option maxRecDepth 100000 in
theorem lifted (os : Os) (started : os.Started) (H : Type) (enc : TypeId × Value → H) (F : Stop.Interp) :
    ReturnsInHanded {} Try.checked os 10 .any ((Rows.OpenSpec.upto Rows.segmentBackSpec).pre6 enc Try.prog Try.f10 Rows.segmentBackUptoRow.domain false) (((Rows.OpenSpec.upto Rows.segmentBackSpec).at F).post enc Try.prog Try.f10 false true false false) := by
  refine returnsInHanded_of_cond_sized (C := Try.checked) (s := (Rows.OpenSpec.upto Rows.segmentBackSpec)) (k := Rows.uptoSmall) rfl own started (by kernel_rfl) Try.func10
    (OpenSpec.witness (enc := enc) (C := Try.checked) (s := (Rows.OpenSpec.upto Rows.segmentBackSpec)) (k := Rows.uptoSmall) rfl false ⟨#[], #[.slice none 0 0, .slice none 0 0], []⟩ 8 (by kernel_rfl) (by kernel_rfl) (by kernel_rfl)
      (x := ([.nil, .nil], [], [])) (by kernel_rfl) rfl (by kernel_rfl)) ?_
  intro W base args ds gs before hval hW _ hk hsz _
  exact contract H enc W base args ds gs before hval hW hk hsz
theorem over : Rows.segmentBackUptoRow.holds Try.pinned (Rows.OpenSpec.upto Rows.segmentBackSpec) :=
  OpenClaim.holds_of_cond 10 Try.f10 rfl rfl rfl rfl rfl rfl rfl ⟨rfl, rfl, rfl, rfl, rfl⟩ rfl rfl rfl rfl rfl (by kernel_rfl) Try.func10 (by kernel_rfl)
    (of_decide_eq_true (by kernel_rfl)) (by unfold Func.isWrapper; first | (rw [if_pos (by decide +kernel)]; kernel_rfl) | (rw [if_neg (by decide +kernel)]; exact ⟨rfl, rfl⟩))
    (fun os started H enc _ F => lifted os started H enc F)
theorem proved : Rows.SegmentBackUptoSaid := over
#print axioms proved
end Go.Proofs.Ytabcmcllcfapkaa.segmentBack
namespace Go.Proofs.Ytabcmcllcfapkaa
/-- The statement, under a short name, for the claim. -/
theorem segmentBack_holds : Rows.SegmentBackUptoSaid := segmentBack.proved
end Go.Proofs.Ytabcmcllcfapkaa
