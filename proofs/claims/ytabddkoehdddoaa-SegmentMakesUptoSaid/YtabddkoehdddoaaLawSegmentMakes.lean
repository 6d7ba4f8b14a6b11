/- The law lamplighterlaw08_SegmentMakes, proved for every input of its parameters' types; where the arguments count at most 1048576 together. -/
import Derived.Test.YtabddkoehdddoaaRows
import Derived.Test.YtabddkoehdddoaaPureSegmentMakes
import Derived.Test.YtabddkoehdddoaaOpenStrs
import Derived.Test.YtabddkoehdddoaaOpenArr
import Derived.WalkKit
import Derived.ProofKit
import Derived.OpenShut
import Derived.ShutString
import Derived.ChangeOld
import Derived.Below
import Derived.SizedLaws
import Derived.JoinedCond
import Derived.Deep.CondSized
namespace Go.Proofs.Ytabddkoehdddoaa.segmentMakes
open Go.ChangeShapes Go.WideShapes Go.ChangeAt Go.RowKit
open Go.ChangeMaps (open_string shut_string)
set_option linter.unusedVariables false
theorem own : ownKnob Try.prog.godebug = none := by kernel_rfl
theorem byte_wf {a : Int} (ha : (Lit.int .u8 a).wf = true) : 0 ≤ a ∧ a ≤ 255 := by simpa [Lit.wf, IntKind.min, IntKind.max, IntKind.signed, IntKind.bits] using ha
theorem word_wf {a : Int} (ha : (Lit.int .u16 a).wf = true) : 0 ≤ a ∧ a ≤ 65535 := by simpa [Lit.wf, IntKind.min, IntKind.max, IntKind.signed, IntKind.bits] using ha
set_option maxRecDepth 100000 in
/-- What the walk gives, for every argument. -/
theorem contract (H : Type) (enc : TypeId × Value → H) (W : World) (base : Nat) (args : Array Value) (ds gs : List (DataW H)) (before : List MemPlace)
    (hval0 : ∀ (j : Nat) t v, Try.f5.params[j]? = some t → args[j]? = some v → Value.okWide Try.prog W .any base t v)
    (hW : DataW.Whole enc Try.prog Try.f5.params.toList Rows.segmentMakesSpec.vars false W args.toList ds gs before)
    (hk : Rows.uptoSmall H (ds ++ gs) = true)
    (hsz0 : (DataW.weightsEach Try.prog (Try.f5.params.toList ++ Rows.segmentMakesSpec.plain.varTypes Try.prog) (ds ++ gs)).all (· ≤ reachBytes) = true)
    : Calls Try.prog 5 args W fun e W' => ∃ v, e = .returned v ∧ Rows.segmentMakesSpec.post enc Try.prog Try.f5 false true false false W args v W' := by
  have hsz := hsz0
  have hval : ∀ (j : Nat) t v, Try.f5.params[j]? = some t → args[j]? = some v → Value.okWide Try.prog W .any base t v := hval0
  have hW' := hW
  obtain ⟨p, q, hA0, hV, rfl, hfz, hnd⟩ := hW
  have hA : DataW.TrodAll enc Try.prog W 0 (fun _ => true) true Try.f5.params.toList args.toList ds p := hA0
  rw [Try.params5] at hA hval hsz
  obtain ⟨v0, vs0, d0, ds0, p0, q0, hargs, rfl, rfl, h0, r0⟩ := trodAll_cons hA
  obtain ⟨v1, vs1, d1, ds1, p1, q1, rfl, rfl, rfl, h1, r1⟩ := trodAll_cons r0
  obtain ⟨rfl, rfl, rfl⟩ := trodAll_nil r1
  obtain rfl : args = #[v0, v1] := by cases args; simp_all
  obtain ⟨rfl, rfl⟩ := trodVars_none hV
  have hkb : Rows.uptoBulkAll ([d0, d1] : List (DataW H)) ≤ 1048576 := by
    have h : Rows.uptoBulkAll ([d0, d1] ++ ([] : List (DataW H))) ≤ 1048576 := of_decide_eq_true hk
    simpa using h
  simp only [Rows.uptoBulkAll] at hkb
  obtain ⟨x0_0, x0_1, x0_2, rfl, rfl, rfl, w0_0, w0_1, w0_2⟩ := OpenA.open_three (hval 0 40 v0 rfl rfl) h0
  obtain ⟨A1, l1, c1, rfl, n1, r1', w1, m1, u1, b1⟩ := OpenS.open_strs (hval 1 34 v1 rfl rfl) h1
  clear hA0 hval0 hsz0
  refine (Pure.SegmentMakes x0_0 x0_1 x0_2 l1 (byte_wf w0_0) (byte_wf w0_1) (byte_wf w0_2) (show bulkOf l1 ≤ 1048576 by unfold bulkOf; omega) W r1' n1).mono fun e W' ⟨he, bel⟩ => ?_
  subst he
  exact ⟨_, rfl, _, _, _, [], _, [], hW', trodAll_mk1 (shut_bool Try.underlying4 _), (trodAll_cons_mk (OpenA.shut_three w0_0 w0_1 w0_2) (trodAll_cons_mk (b1 _ bel) trodAll_mk0)), rfl, bel.frame _, fun h => by cases h⟩
set_option maxRecDepth 100000 in
theorem lifted (os : Os) (started : os.Started) (H : Type) (enc : TypeId × Value → H) (F : Stop.Interp) :
    ReturnsInHanded {} Try.checked os 5 .any ((Rows.OpenSpec.upto Rows.segmentMakesSpec).pre6 enc Try.prog Try.f5 Rows.segmentMakesUptoRow.domain false) (((Rows.OpenSpec.upto Rows.segmentMakesSpec).at F).post enc Try.prog Try.f5 false true false false) := by
  refine returnsInHanded_of_cond_sized (C := Try.checked) (s := (Rows.OpenSpec.upto Rows.segmentMakesSpec)) (k := Rows.uptoSmall) rfl own started (by kernel_rfl) Try.func5
    (OpenSpec.witness (enc := enc) (C := Try.checked) (s := (Rows.OpenSpec.upto Rows.segmentMakesSpec)) (k := Rows.uptoSmall) rfl false ⟨#[], #[.agg #[.int .u8 0, .int .u8 0, .int .u8 0], .slice none 0 0], []⟩ 8 (by kernel_rfl) (by kernel_rfl) (by kernel_rfl)
      (x := ([.agg [.lit (.int .u8 0), .lit (.int .u8 0), .lit (.int .u8 0)], .nil], [], [])) (by kernel_rfl) rfl (by kernel_rfl)) ?_
  intro W base args ds gs before hval hW _ hk hsz _
  exact contract H enc W base args ds gs before hval hW hk hsz
theorem over : Rows.segmentMakesUptoRow.holds Try.pinned (Rows.OpenSpec.upto Rows.segmentMakesSpec) :=
  OpenClaim.holds_of_cond 5 Try.f5 rfl rfl rfl rfl rfl rfl rfl ⟨rfl, rfl, rfl, rfl, rfl⟩ rfl rfl rfl rfl rfl (by kernel_rfl) Try.func5 (by kernel_rfl)
    (of_decide_eq_true (by kernel_rfl)) (by unfold Func.isWrapper; first | (rw [if_pos (by decide +kernel)]; kernel_rfl) | (rw [if_neg (by decide +kernel)]; exact ⟨rfl, rfl⟩))
    (fun os started H enc _ F => lifted os started H enc F)
theorem proved : Rows.SegmentMakesUptoSaid := over
#print axioms proved
end Go.Proofs.Ytabddkoehdddoaa.segmentMakes
namespace Go.Proofs.Ytabddkoehdddoaa
/-- The statement, under a short name, for the claim. -/
theorem segmentMakes_holds : Rows.SegmentMakesUptoSaid := segmentMakes.proved
end Go.Proofs.Ytabddkoehdddoaa
