/- The law lamplighterlaw08_SegmentFields, proved for every input of its parameters' types; where the arguments count at most 1048576 together. -/
import Derived.Test.YtabcmcllcfapkaaRows
import Derived.Test.YtabcmcllcfapkaaPFx8
import Derived.Test.YtabcmcllcfapkaaPureSegmentFields
import Derived.Test.YtabcmcllcfapkaaSigns
import Derived.Test.YtabcmcllcfapkaaOpenStrs
import Derived.WalkKit
import Derived.ProofKit
import Derived.OpenShut
import Derived.ShutString
import Derived.ChangeOld
import Derived.Below
import Derived.SizedLaws
import Derived.JoinedCond
import Derived.Deep.CondSized
namespace Go.Proofs.Ytabcmcllcfapkaa.segmentFields
open Go.ChangeShapes Go.WideShapes Go.ChangeAt Go.RowKit
open Go.ChangeMaps (open_string shut_string)
set_option linter.unusedVariables false
theorem own : ownKnob Try.prog.godebug = none := by kernel_rfl
theorem byte_wf {a : Int} (ha : (Lit.int .u8 a).wf = true) : 0 ≤ a ∧ a ≤ 255 := by simpa [Lit.wf, IntKind.min, IntKind.max, IntKind.signed, IntKind.bits] using ha
theorem word_wf {a : Int} (ha : (Lit.int .u16 a).wf = true) : 0 ≤ a ∧ a ≤ 65535 := by simpa [Lit.wf, IntKind.min, IntKind.max, IntKind.signed, IntKind.bits] using ha
set_option maxRecDepth 100000 in
/-- What the walk gives, for every argument. -/
theorem contract (H : Type) (enc : TypeId × Value → H) (W : World) (base : Nat) (args : Array Value) (ds gs : List (DataW H)) (before : List MemPlace)
    (hval0 : ∀ (j : Nat) t v, Try.f11.params[j]? = some t → args[j]? = some v → Value.okWide Try.prog W .any base t v)
    (hW : DataW.Whole enc Try.prog Try.f11.params.toList Rows.segmentFieldsSpec.vars false W args.toList ds gs before)
    (hk : Rows.uptoSmall H (ds ++ gs) = true)
    (hsz0 : (DataW.weightsEach Try.prog (Try.f11.params.toList ++ Rows.segmentFieldsSpec.plain.varTypes Try.prog) (ds ++ gs)).all (· ≤ reachBytes) = true)
    : Calls Try.prog 11 args W fun e W' => ∃ v, e = .returned v ∧ Rows.segmentFieldsSpec.post enc Try.prog Try.f11 false true false false W args v W' := by
  have hsz := hsz0
  have hval : ∀ (j : Nat) t v, Try.f11.params[j]? = some t → args[j]? = some v → Value.okWide Try.prog W .any base t v := hval0
  have hW' := hW
  obtain ⟨p, q, hA0, hV, rfl, hfz, hnd⟩ := hW
  have hA : DataW.TrodAll enc Try.prog W 0 (fun _ => true) true Try.f11.params.toList args.toList ds p := hA0
  rw [Try.params11] at hA hval hsz
  obtain ⟨v0, vs0, d0, ds0, p0, q0, hargs, rfl, rfl, h0, r0⟩ := trodAll_cons hA
  obtain ⟨v1, vs1, d1, ds1, p1, q1, rfl, rfl, rfl, h1, r1⟩ := trodAll_cons r0
  obtain ⟨v2, vs2, d2, ds2, p2, q2, rfl, rfl, rfl, h2, r2⟩ := trodAll_cons r1
  obtain ⟨rfl, rfl, rfl⟩ := trodAll_nil r2
  obtain rfl : args = #[v0, v1, v2] := by cases args; simp_all
  obtain ⟨rfl, rfl⟩ := trodVars_none hV
  have hkb : Rows.uptoBulkAll ([d0, d1, d2] : List (DataW H)) ≤ 1048576 := by
    have h : Rows.uptoBulkAll ([d0, d1, d2] ++ ([] : List (DataW H))) ≤ 1048576 := of_decide_eq_true hk
    simpa using h
  simp only [Rows.uptoBulkAll] at hkb
  obtain ⟨a0, rfl, rfl, rfl, y0⟩ := open_string Try.underlying9 (hval 0 9 v0 rfl rfl) h0
  have w0 : a0.size ≤ 1048576 := by
    have e : a0.data.toList.length = a0.size := by rw [Array.length_toList]; rfl
    simp only [Rows.uptoBulk] at hkb
    omega
  obtain ⟨x1_0, x1_1, x1_2, x1_3, x1_4, rfl, rfl, rfl, w1_0, w1_1, w1_2, w1_3, w1_4⟩ := Signs.open_signs (hval 1 23 v1 rfl rfl) h1
  obtain ⟨A2, l2, c2, rfl, n2, r2', w2, m2, u2, b2⟩ := OpenS.open_strs (hval 2 44 v2 rfl rfl) h2
  clear hA0 hval0 hsz0
  obtain ⟨k, hk'⟩ := Pure.SegmentFields a0 x1_0 x1_1 x1_2 x1_3 x1_4 l2 w0 (byte_wf w1_0) (byte_wf w1_1) (byte_wf w1_2) (byte_wf w1_3) (byte_wf w1_4) (show bulkOf l2 ≤ 1048576 by unfold bulkOf; omega)
  refine (PF.lamplighterlaw08_SegmentFields.calls k a0 x1_0 x1_1 x1_2 x1_3 x1_4 A2 c2 l2 true W r2' n2 hk').mono fun e W' ⟨he, bel⟩ => ?_
  subst he
  exact ⟨_, rfl, _, _, _, [], _, [], hW', trodAll_mk1 (shut_bool Try.underlying4 _), (trodAll_cons_mk (shut_string Try.underlying9 y0) (trodAll_cons_mk (Signs.shut_signs w1_0 w1_1 w1_2 w1_3 w1_4) (trodAll_cons_mk (b2 _ bel) trodAll_mk0))), rfl, bel.frame _, fun h => by cases h⟩
set_option maxRecDepth 100000 in
theorem lifted (os : Os) (started : os.Started) (H : Type) (enc : TypeId × Value → H) (F : Stop.Interp) :
    ReturnsInHanded {} Try.checked os 11 .any ((Rows.OpenSpec.upto Rows.segmentFieldsSpec).pre6 enc Try.prog Try.f11 Rows.segmentFieldsUptoRow.domain false) (((Rows.OpenSpec.upto Rows.segmentFieldsSpec).at F).post enc Try.prog Try.f11 false true false false) := by
  refine returnsInHanded_of_cond_sized (C := Try.checked) (s := (Rows.OpenSpec.upto Rows.segmentFieldsSpec)) (k := Rows.uptoSmall) rfl own started (by kernel_rfl) Try.func11
    (OpenSpec.witness (enc := enc) (C := Try.checked) (s := (Rows.OpenSpec.upto Rows.segmentFieldsSpec)) (k := Rows.uptoSmall) rfl false ⟨#[], #[.string ByteArray.empty, .agg #[.int .u8 0, .int .u8 0, .int .u8 0, .int .u8 0, .int .u8 0], .slice none 0 0], []⟩ 8 (by kernel_rfl) (by kernel_rfl) (by kernel_rfl)
      (x := ([.lit (.string []), .agg [.lit (.int .u8 0), .lit (.int .u8 0), .lit (.int .u8 0), .lit (.int .u8 0), .lit (.int .u8 0)], .nil], [], [])) (by kernel_rfl) rfl (by kernel_rfl)) ?_
  intro W base args ds gs before hval hW _ hk hsz _
  exact contract H enc W base args ds gs before hval hW hk hsz
theorem over : Rows.segmentFieldsUptoRow.holds Try.pinned (Rows.OpenSpec.upto Rows.segmentFieldsSpec) :=
  OpenClaim.holds_of_cond 11 Try.f11 rfl rfl rfl rfl rfl rfl rfl ⟨rfl, rfl, rfl, rfl, rfl⟩ rfl rfl rfl rfl rfl (by kernel_rfl) Try.func11 (by kernel_rfl)
    (of_decide_eq_true (by kernel_rfl)) (by unfold Func.isWrapper; first | (rw [if_pos (by decide +kernel)]; kernel_rfl) | (rw [if_neg (by decide +kernel)]; exact ⟨rfl, rfl⟩))
    (fun os started H enc _ F => lifted os started H enc F)
theorem proved : Rows.SegmentFieldsUptoSaid := over
#print axioms proved
end Go.Proofs.Ytabcmcllcfapkaa.segmentFields
namespace Go.Proofs.Ytabcmcllcfapkaa
/-- The statement, under a short name, for the claim. -/
theorem segmentFields_holds : Rows.SegmentFieldsUptoSaid := segmentFields.proved
end Go.Proofs.Ytabcmcllcfapkaa
