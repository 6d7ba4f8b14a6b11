/- The law lamplighterlaw09_MshCuts, proved for every input of its parameters' types; no condition; package-level tables of the library lie as the program's text lays them. -/
import Derived.Test.YteaehlkpghpnkaaDoorCards
import Derived.Test.YteaehlkpghpnkaaDoorTie
import Derived.Test.YteaehlkpghpnkaaDoorPureMshCuts
import Derived.Test.YteaehlkpghpnkaaDoorOpenHead
import Derived.Test.YteaehlkpghpnkaaDoorLaid
import Derived.Test.YteaehlkpghpnkaaDoorGlob
import Derived.WalkKit
import Derived.ProofKit
import Derived.OpenShut
import Derived.ShutString
import Derived.ChangeOld
import Derived.Below
import Derived.SizedLaws
import Derived.Deep.DeepHandedRow
import Derived.Lib.LaidTab
import Derived.JoinedCond
namespace Go.Proofs.YteaehlkpghpnkaaDoor.mshCuts
open Go.ChangeShapes Go.WideShapes Go.ChangeAt Go.RowKit
open Go.ChangeMaps (open_string shut_string)
set_option linter.unusedVariables false
theorem own : ownKnob Tryd.prog.godebug = none := by kernel_rfl
theorem byte_wf {a : Int} (ha : (Lit.int .u8 a).wf = true) : 0 ≤ a ∧ a ≤ 255 := by simpa [Lit.wf, IntKind.min, IntKind.max, IntKind.signed, IntKind.bits] using ha
theorem word_wf {a : Int} (ha : (Lit.int .u16 a).wf = true) : 0 ≤ a ∧ a ≤ 65535 := by simpa [Lit.wf, IntKind.min, IntKind.max, IntKind.signed, IntKind.bits] using ha
set_option maxRecDepth 100000 in
/-- What the walk gives, for every argument. -/
theorem contract (H : Type) (enc : TypeId × Value → H) (W : World) (base : Nat) (args : Array Value) (ds gs : List (DataW H)) (before : List MemPlace)
    (hval0 : ∀ (j : Nat) t v, Tryd.f3.params[j]? = some t → args[j]? = some v → Value.okWide Tryd.prog W .any base t v)
    (hW : DataW.Whole enc Tryd.prog Tryd.f3.params.toList Rows.mshCutsSpec.vars false W args.toList ds gs before)
    (hsz0 : (DataW.weightsEach Tryd.prog (Tryd.f3.params.toList ++ Rows.mshCutsSpec.plain.varTypes Tryd.prog) (ds ++ gs)).all (· ≤ reachBytes) = true)
    (hL : laidMetH Tryd.prog Rows.mshCutsRow.laid W)
    : Calls Tryd.prog 3 args W fun e W' => ∃ v, e = .returned v ∧ Rows.mshCutsSpec.post enc Tryd.prog Tryd.f3 false true false false W args v W' := by
  have hsz := hsz0
  have hval : ∀ (j : Nat) t v, Tryd.f3.params[j]? = some t → args[j]? = some v → Value.okWide Tryd.prog W .any base t v := hval0
  have hW' := hW
  obtain ⟨p, q, hA0, hV, rfl, hfz, hnd⟩ := hW
  have hA : DataW.TrodAll enc Tryd.prog W 0 (fun _ => true) true Tryd.f3.params.toList args.toList ds p := hA0
  rw [Tryd.params3] at hA hval hsz
  obtain ⟨v0, vs0, d0, ds0, p0, q0, hargs, rfl, rfl, h0, r0⟩ := trodAll_cons hA
  obtain ⟨v1, vs1, d1, ds1, p1, q1, rfl, rfl, rfl, h1, r1⟩ := trodAll_cons r0
  obtain ⟨rfl, rfl, rfl⟩ := trodAll_nil r1
  obtain rfl : args = #[v0, v1] := by cases args; simp_all
  obtain ⟨rfl, rfl⟩ := trodVars_none hV
  obtain ⟨x0_0, x0_1, x0_2, x0_3, x0_4, s0_5, s0_6, s0_7, s0_8, s0_9, s0_10, s0_11, s0_12, s0_13, s0_14, rfl, rfl, rfl, w0_0, w0_1, w0_2, w0_3, w0_4, y0_5, y0_6, y0_7, y0_8, y0_9, y0_10, y0_11, y0_12, y0_13, y0_14⟩ := OpenH.open_head (hval 0 25 v0 rfl rfl) h0
  have hp0 := OpenH.sized_parts hsz (j := 0) (t := 25) rfl rfl Tryd.underlying25
  have z0_5 : s0_5.size ≤ 140737488351232 := by
    have z := sized_string hp0 (j := 1) (t := 9) rfl rfl
    rw [Array.length_toList] at z
    exact z
  have z0_6 : s0_6.size ≤ 140737488351232 := by
    have z := sized_string hp0 (j := 2) (t := 9) rfl rfl
    rw [Array.length_toList] at z
    exact z
  have z0_7 : s0_7.size ≤ 140737488351232 := by
    have z := sized_string hp0 (j := 3) (t := 9) rfl rfl
    rw [Array.length_toList] at z
    exact z
  have z0_8 : s0_8.size ≤ 140737488351232 := by
    have z := sized_string hp0 (j := 4) (t := 9) rfl rfl
    rw [Array.length_toList] at z
    exact z
  have z0_9 : s0_9.size ≤ 140737488351232 := by
    have z := sized_string hp0 (j := 5) (t := 9) rfl rfl
    rw [Array.length_toList] at z
    exact z
  have z0_10 : s0_10.size ≤ 140737488351232 := by
    have z := sized_string hp0 (j := 6) (t := 9) rfl rfl
    rw [Array.length_toList] at z
    exact z
  have z0_11 : s0_11.size ≤ 140737488351232 := by
    have z := sized_string hp0 (j := 7) (t := 9) rfl rfl
    rw [Array.length_toList] at z
    exact z
  have z0_12 : s0_12.size ≤ 140737488351232 := by
    have z := sized_string hp0 (j := 8) (t := 9) rfl rfl
    rw [Array.length_toList] at z
    exact z
  have z0_13 : s0_13.size ≤ 140737488351232 := by
    have z := sized_string hp0 (j := 9) (t := 9) rfl rfl
    rw [Array.length_toList] at z
    exact z
  have z0_14 : s0_14.size ≤ 140737488351232 := by
    have z := sized_string hp0 (j := 10) (t := 9) rfl rfl
    rw [Array.length_toList] at z
    exact z
  obtain ⟨a1, rfl, rfl, rfl, w1⟩ := open_int Tryd.underlying3 (hval 1 3 v1 rfl rfl) h1
  clear hA0 hval0 hsz0
  refine (Pure.MshCuts x0_0 x0_1 x0_2 x0_3 x0_4 s0_5 s0_6 s0_7 s0_8 s0_9 s0_10 s0_11 s0_12 s0_13 s0_14 a1 (byte_wf w0_0) (byte_wf w0_1) (byte_wf w0_2) (byte_wf w0_3) (byte_wf w0_4) z0_5 z0_6 z0_7 z0_8 z0_9 z0_10 z0_11 z0_12 z0_13 z0_14 w1 W (glob_laid hL)).mono fun e W' ⟨he, bel⟩ => ?_
  subst he
  exact ⟨_, rfl, _, _, _, [], _, [], hW', trodAll_mk1 (shut_bool Tryd.underlying4 _), (trodAll_cons_mk (OpenH.shut_head w0_0 w0_1 w0_2 w0_3 w0_4 y0_5 y0_6 y0_7 y0_8 y0_9 y0_10 y0_11 y0_12 y0_13 y0_14) (trodAll_cons_mk (shut_int Tryd.underlying3 w1) trodAll_mk0)), rfl, bel.frame _, fun h => by cases h⟩
set_option maxRecDepth 100000 in
theorem lifted (os : Os) (started : os.Started) (H : Type) (enc : TypeId × Value → H) (F : Stop.Interp) :
    ReturnsInHanded {} Tryd.checked os 3 .any ((OpenSpec.ofChange Rows.mshCutsSpec).preRow enc Tryd.prog Tryd.f3 Rows.mshCutsRow.domain false Rows.mshCutsRow.laid) (((OpenSpec.ofChange Rows.mshCutsSpec).at F).post enc Tryd.prog Tryd.f3 false true false false) := by
  refine returnsInHanded_of_row (C := Tryd.checked) (s := (OpenSpec.ofChange Rows.mshCutsSpec)) own started (by kernel_rfl) Tryd.func3
    (witness_row_at (enc := enc) (C := Tryd.checked) false (Laid.laidWorld os) #[.agg #[.int .u8 0, .int .u8 0, .int .u8 0, .int .u8 0, .int .u8 0, .string ByteArray.empty, .string ByteArray.empty, .string ByteArray.empty, .string ByteArray.empty, .string ByteArray.empty, .string ByteArray.empty, .string ByteArray.empty, .string ByteArray.empty, .string ByteArray.empty, .string ByteArray.empty], .int .i64 0] rfl (by kernel_rfl) (by kernel_rfl) (by kernel_rfl)
      (OpenSpec.preRow_of_cond 8 (x := ([.agg [.agg [.lit (.int .u8 0), .lit (.int .u8 0), .lit (.int .u8 0), .lit (.int .u8 0), .lit (.int .u8 0)], .lit (.string []), .lit (.string []), .lit (.string []), .lit (.string []), .lit (.string []), .lit (.string []), .lit (.string []), .lit (.string []), .lit (.string []), .lit (.string [])], .lit (.int .i64 0)], [], [])) (by kernel_rfl) (by kernel_rfl) (fun k hk => by cases hk) (by kernel_rfl) (Laid.laid_met os _))) ?_
  intro W base args ds gs before hval hW _ hcond hsz hL _ _
  exact contract H enc W base args ds gs before hval hW hsz hL
theorem over : Rows.mshCutsRow.holds Tryd.pinned (OpenSpec.ofChange Rows.mshCutsSpec) :=
  OpenClaim.holds_of_cond 3 Tryd.f3 rfl rfl rfl rfl rfl rfl rfl ⟨rfl, rfl, rfl, rfl, rfl⟩ rfl rfl rfl rfl rfl (by kernel_rfl) Tryd.func3 (by kernel_rfl)
    (of_decide_eq_true (by kernel_rfl)) (by unfold Func.isWrapper; first | (rw [if_pos (by decide +kernel)]; kernel_rfl) | (rw [if_neg (by decide +kernel)]; exact ⟨rfl, rfl⟩))
    (fun os started H enc _ F => by rw [OpenClaim.pre_eq_preRow]; exact lifted os started H enc F)
theorem proved : Rows.MshCutsSaid := over
/-- No parameter wants a stand-in; the program's own looks are off. -/
theorem plain (f : FuncId) (fn : Func) (hf : Tryd.pinned.checked.prog.funcNamed "lamplighter/lamplighterlaw09.MshCuts" = some f) (hfn : Tryd.pinned.checked.prog.funcs[f]? = some fn) :
    false = Tryd.pinned.checked.prog.looks [] ∧ ∀ (j : Nat) t, fn.params[j]? = some t → Tryd.pinned.checked.prog.wantsStandIn t = false := by
  obtain rfl : f = 3 := Option.some.inj ((show Tryd.prog.funcNamed "lamplighter/lamplighterlaw09.MshCuts" = some 3 by kernel_rfl).symm.trans hf) |>.symm
  obtain rfl : fn = Tryd.f3 := (Option.some.inj (Tryd.func3.symm.trans hfn)).symm
  refine ⟨by kernel_rfl, fun j t ht => ?_⟩
  rw [Tryd.params3] at ht
  have hall : (#[25, 3] : Array TypeId).all (fun t => !(Tryd.prog.wantsStandIn t)) = true := by kernel_rfl
  have hm := (Array.all_eq_true_iff_forall_mem.1 hall) t (Array.mem_of_getElem? ht)
  have hm2 : Tryd.prog.wantsStandIn t = false := by simpa using hm
  exact hm2
theorem card : Rows.MshCutsCardSaid :=
  Claim7.holds_tied_plain_at .later [] _ _ _ _ proved (fun _ h => by cases h) (by kernel_rfl) (fun _ h => by cases h) mshCuts_row_tie rfl ⟨rfl, rfl⟩ (by kernel_rfl) rfl plain (by kernel_rfl)
#print axioms card
end Go.Proofs.YteaehlkpghpnkaaDoor.mshCuts
namespace Go.Proofs.YteaehlkpghpnkaaDoor
/-- The statement, under a short name, for the claim. -/
theorem mshCuts_holds : Rows.MshCutsCardSaid := mshCuts.card
end Go.Proofs.YteaehlkpghpnkaaDoor
