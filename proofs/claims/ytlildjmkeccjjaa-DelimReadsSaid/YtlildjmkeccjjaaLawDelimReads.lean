/- The law lamplighterlaw06_DelimReads, proved for every input of its parameters' types; no condition. -/
import Derived.Test.YtlildjmkeccjjaaRows
import Derived.Test.YtlildjmkeccjjaaPEx8
import Derived.Test.YtlildjmkeccjjaaPureDelimReads
import Derived.Test.YtlildjmkeccjjaaSigns
import Derived.Test.YtlildjmkeccjjaaOpen
import Derived.WalkKit
import Derived.ProofKit
import Derived.OpenShut
import Derived.ShutString
import Derived.ChangeOld
import Derived.Below
import Derived.SizedLaws
namespace Go.Proofs.Ytlildjmkeccjjaa.delimReads
open Go.ChangeShapes Go.WideShapes Go.ChangeAt Go.RowKit
open Go.ChangeMaps (open_string shut_string)
set_option linter.unusedVariables false
theorem own : ownKnob Try.prog.godebug = none := by kernel_rfl
theorem byte_wf {a : Int} (ha : (Lit.int .u8 a).wf = true) : 0 ≤ a ∧ a ≤ 255 := by simpa [Lit.wf, IntKind.min, IntKind.max, IntKind.signed, IntKind.bits] using ha
set_option maxRecDepth 100000 in
theorem lifted (os : Os) (started : os.Started) (H : Type) (enc : TypeId × Value → H) :
    ReturnsInHanded {} Try.checked os 4 .any (Rows.delimReadsSpec.pre6 enc Try.prog Try.f4 Rows.delimReadsRow.domain false) (Rows.delimReadsSpec.post enc Try.prog Try.f4 false true false false) := by
  refine returnsInHanded_of_change_sized (C := Try.checked) own started (by kernel_rfl) Try.func4
    (ChangeSpec.witness6 (enc := enc) (C := Try.checked) false ⟨#[], #[.slice none 0 0, .agg #[.int .u8 0, .int .u8 0, .int .u8 0, .int .u8 0, .int .u8 0]], []⟩ 8 (by kernel_rfl) (by kernel_rfl) (by kernel_rfl) (by kernel_rfl)) ?_
  intro W base args ds gs before hval0 hW hcnd hsz0 _
  have hsz : (DataW.weightsEach Try.prog (Try.f4.params.toList ++ Rows.delimReadsSpec.plain.varTypes Try.prog) (ds ++ gs)).all (· ≤ reachBytes) = true := hsz0
  have hval : ∀ (j : Nat) t v, Try.f4.params[j]? = some t → args[j]? = some v → Value.okWide Try.prog W .any base t v := hval0
  have hW' := hW
  obtain ⟨p, q, hA0, hV, rfl, hfz, hnd⟩ := hW
  have hA : DataW.TrodAll enc Try.prog W 0 (fun _ => true) true Try.f4.params.toList args.toList ds p := hA0
  rw [Try.params4] at hA hval hsz
  obtain ⟨v0, vs0, d0, ds0, p0, q0, hargs, rfl, rfl, h0, r0⟩ := trodAll_cons hA
  obtain ⟨v1, vs1, d1, ds1, p1, q1, rfl, rfl, rfl, h1, r1⟩ := trodAll_cons r0
  obtain ⟨rfl, rfl, rfl⟩ := trodAll_nil r1
  obtain rfl : args = #[v0, v1] := by cases args; simp_all
  obtain ⟨rfl, rfl⟩ := trodVars_none hV
  obtain ⟨A0, l0, c0, rfl, n0, r0', w0, m0, b0⟩ := Open.open_bytes (hval 0 27 v0 rfl rfl) h0
  obtain ⟨x1_0, x1_1, x1_2, x1_3, x1_4, rfl, rfl, rfl, w1_0, w1_1, w1_2, w1_3, w1_4⟩ := Signs.open_signs (hval 1 23 v1 rfl rfl) h1
  clear hA0 hval0 hsz0
  obtain ⟨k, hk⟩ := Pure.DelimReads l0 x1_0 x1_1 x1_2 x1_3 x1_4 (fun x hx => byte_wf (w0 x hx)) (byte_wf w1_0) (byte_wf w1_1) (byte_wf w1_2) (byte_wf w1_3) (byte_wf w1_4)
  refine (PE.lamplighterlaw06_DelimReads.calls k A0 c0 l0 x1_0 x1_1 x1_2 x1_3 x1_4 true W r0' n0 hk).mono fun e W' ⟨he, bel⟩ => ?_
  subst he
  exact ⟨_, rfl, _, _, _, [], _, [], hW', trodAll_mk1 (shut_bool Try.underlying4 _), (trodAll_cons_mk (b0 _ bel) (trodAll_cons_mk (Signs.shut_signs w1_0 w1_1 w1_2 w1_3 w1_4) trodAll_mk0)), rfl, bel.frame _, fun h => by cases h⟩
theorem over : Rows.delimReadsRow.holds Try.pinned (OpenSpec.ofChange Rows.delimReadsSpec) :=
  OpenClaim.holds_of_wide 4 Try.f4 rfl rfl rfl rfl rfl rfl rfl ⟨rfl, rfl, rfl, rfl, rfl⟩ rfl rfl rfl rfl rfl (by kernel_rfl) Try.func4 (by kernel_rfl)
    (of_decide_eq_true (by kernel_rfl)) (by unfold Func.isWrapper; first | (rw [if_pos (by decide +kernel)]; kernel_rfl) | (rw [if_neg (by decide +kernel)]; exact ⟨rfl, rfl⟩))
    (fun os started H enc _ => lifted os started H enc)
theorem proved : Rows.DelimReadsSaid := over
#print axioms proved
end Go.Proofs.Ytlildjmkeccjjaa.delimReads
namespace Go.Proofs.Ytlildjmkeccjjaa
/-- The row, under a short name, for the claim. -/
theorem delimReads_holds : Rows.DelimReadsSaid := delimReads.proved
end Go.Proofs.Ytlildjmkeccjjaa
