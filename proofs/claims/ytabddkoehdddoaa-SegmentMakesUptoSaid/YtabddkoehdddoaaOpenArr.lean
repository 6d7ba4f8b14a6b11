/- Three bytes as an argument: what such an argument is, and that its reading stays; conditions: it reads at its type. -/
import Derived.Test.YtabddkoehdddoaaProg
import Derived.WalkKit
import Derived.ProofKit
import Derived.ChangeOld
import Derived.Laws.IdiomArrays
namespace Go.Proofs.Ytabddkoehdddoaa.OpenA
open Go Go.ChangeShapes Go.WideShapes Go.RowKit

set_option maxRecDepth 100000
theorem list_three {α : Type} {l : List α} (h : l.length = 3) : ∃ a b c, l = [a, b, c] := by
  match l, h with
  | [a, b, c], _ => exact ⟨a, b, c, rfl⟩
section
variable {H : Type} {enc : TypeId × Value → H} {w : World} {base : Nat} {spare : Nat → Bool} {held : Bool}
theorem cells_three : Try.prog.cellsOf 40 = 3 := by kernel_rfl
theorem cells_byte : Try.prog.cellsOf 5 = 1 := by kernel_rfl
/-- Three bytes as an argument. -/
theorem open_three {r : Reach} {b0 : Nat} {v : Value} {d : DataW H} {p : List MemPlace} (hv : Value.okWide Try.prog w r b0 40 v) (h : DataW.Trod enc Try.prog w base spare held 40 v d p) :
    ∃ x0 x1 x2 : Int, v = .agg #[.int .u8 x0, .int .u8 x1, .int .u8 x2] ∧ d = .agg [.lit (.int .u8 x0), .lit (.int .u8 x1), .lit (.int .u8 x2)] ∧ p = [] ∧
      (Lit.int .u8 x0).wf = true ∧ (Lit.int .u8 x1).wf = true ∧ (Lit.int .u8 x2).wf = true := by
  have hv' : ∃ xs : Array Value, v = .agg xs ∧ xs.size = 3 := by
    simp only [Value.okWide, Try.underlying40] at hv
    obtain ⟨cs, h1, h2, _⟩ := hv
    exact ⟨cs, h1, by rw [h2, cells_three]⟩
  obtain ⟨⟨l⟩, rfl, hsz⟩ := hv'
  obtain ⟨a, b, c, rfl⟩ := list_three hsz
  obtain ⟨fuel, hf⟩ := h
  obtain ⟨y0, y1, y2, n, rfl', h0, h1, h2⟩ := trod_array3 Try.underlying40 cells_byte (show DataW.trod enc Try.prog w base spare held fuel 40 [a, b, c] = some (d, p) from hf)
  obtain ⟨m0, c0, e0, w0⟩ := DataW.trod_int (x := y0) Try.underlying5 h0
  obtain ⟨m1, c1, e1, w1⟩ := DataW.trod_int (x := y1) Try.underlying5 h1
  obtain ⟨m2, c2, e2, w2⟩ := DataW.trod_int (x := y2) Try.underlying5 h2
  simp only [List.cons.injEq, and_true] at c0 c1 c2
  subst c0 c1 c2 e0 e1 e2
  obtain ⟨hd, hp⟩ := Prod.mk.inj rfl'
  exact ⟨m0, m1, m2, rfl, hd, hp, w0, w1, w2⟩
/-- Three bytes read as they are, in every memory. -/
theorem shut_three {x0 x1 x2 : Int} (w0 : (Lit.int .u8 x0).wf = true) (w1 : (Lit.int .u8 x1).wf = true) (w2 : (Lit.int .u8 x2).wf = true) :
    DataW.Trod enc Try.prog w base spare held 40 (.agg #[.int .u8 x0, .int .u8 x1, .int .u8 x2]) (.agg [.lit (.int .u8 x0), .lit (.int .u8 x1), .lit (.int .u8 x2)]) [] := by
  have one : ∀ x : Int, (Lit.int .u8 x).wf = true → DataW.trod enc Try.prog w base spare held 1 5 [.int .u8 x] = some (.lit (.int .u8 x), []) := fun x hx => by
    simp [DataW.trod, Try.underlying5, hx]
  refine ⟨2, ?_⟩
  have r3 : List.range 3 = [0, 1, 2] := rfl
  rw [DataW.trod_step]
  unfold DataW.trodStep
  simp only [Try.underlying40, Value.cells]
  rw [if_pos (by rw [cells_three]; rfl), r3]
  simp [cells_byte, one _ w0, one _ w1, one _ w2]
end
end Go.Proofs.Ytabddkoehdddoaa.OpenA
