/- The five signs as an argument: what such an argument is, and that its reading stays; conditions: it reads at its type. -/
import Derived.Test.YteaehlkpghpnkaaDoorProg
import Derived.WalkKit
import Derived.ProofKit
import Derived.ChangeOld
import Derived.Deep.Fields
import Derived.Lib.SmallJoins
namespace Go.Proofs.YteaehlkpghpnkaaDoor.Signs
open Go Go.ChangeShapes Go.WideShapes Go.RowKit Go.Deep

set_option maxRecDepth 100000
theorem list_five {α : Type} {l : List α} (h : l.length = 5) : ∃ a b c d e, l = [a, b, c, d, e] := by
  match l, h with
  | [a, b, c, d, e], _ => exact ⟨a, b, c, d, e, rfl⟩
section
variable {H : Type} {enc : TypeId × Value → H} {w : World} {base : Nat} {spare : Nat → Bool} {held : Bool}
theorem cells_signs : Tryd.prog.cellsOf 23 = 5 := by kernel_rfl
theorem cells_byte : Tryd.prog.cellsOf 5 = 1 := by kernel_rfl
/-- Five signs as an argument. -/
theorem open_signs {r : Reach} {b0 : Nat} {v : Value} {d : DataW H} {p : List MemPlace} (hv : Value.okWide Tryd.prog w r b0 23 v) (h : DataW.Trod enc Tryd.prog w base spare held 23 v d p) :
    ∃ x0 x1 x2 x3 x4 : Int, v = .agg #[.int .u8 x0, .int .u8 x1, .int .u8 x2, .int .u8 x3, .int .u8 x4] ∧ d = .agg [.lit (.int .u8 x0), .lit (.int .u8 x1), .lit (.int .u8 x2), .lit (.int .u8 x3), .lit (.int .u8 x4)] ∧ p = [] ∧
      (Lit.int .u8 x0).wf = true ∧ (Lit.int .u8 x1).wf = true ∧ (Lit.int .u8 x2).wf = true ∧ (Lit.int .u8 x3).wf = true ∧ (Lit.int .u8 x4).wf = true := by
  obtain ⟨⟨l⟩, rfl, hsz⟩ := okWide_struct Tryd.underlying23 hv
  obtain ⟨a, b, c, e, f, rfl⟩ := list_five (hsz.trans cells_signs)
  obtain ⟨fuel, hf⟩ := h
  obtain ⟨xs, n, _, hx, _, hlen, hg⟩ := DataW.trod_struct Tryd.underlying23 hf
  obtain ⟨z0, z1, z2, z3, z4, rfl⟩ := list_five hlen
  have g0 : DataW.trod enc Tryd.prog w base spare held n 5 ((([a, b, c, e, f] : List Value).drop 0).take (Tryd.prog.cellsOf 5)) = some z0 := hg 0 _ rfl
  have g1 : DataW.trod enc Tryd.prog w base spare held n 5 ((([a, b, c, e, f] : List Value).drop 1).take (Tryd.prog.cellsOf 5)) = some z1 := hg 1 _ rfl
  have g2 : DataW.trod enc Tryd.prog w base spare held n 5 ((([a, b, c, e, f] : List Value).drop 2).take (Tryd.prog.cellsOf 5)) = some z2 := hg 2 _ rfl
  have g3 : DataW.trod enc Tryd.prog w base spare held n 5 ((([a, b, c, e, f] : List Value).drop 3).take (Tryd.prog.cellsOf 5)) = some z3 := hg 3 _ rfl
  have g4 : DataW.trod enc Tryd.prog w base spare held n 5 ((([a, b, c, e, f] : List Value).drop 4).take (Tryd.prog.cellsOf 5)) = some z4 := hg 4 _ rfl
  rw [cells_byte] at g0 g1 g2 g3 g4
  obtain ⟨m0, c0, e0, w0⟩ := DataW.trod_int (x := z0) Tryd.underlying5 g0
  obtain ⟨m1, c1, e1, w1⟩ := DataW.trod_int (x := z1) Tryd.underlying5 g1
  obtain ⟨m2, c2, e2, w2⟩ := DataW.trod_int (x := z2) Tryd.underlying5 g2
  obtain ⟨m3, c3, e3, w3⟩ := DataW.trod_int (x := z3) Tryd.underlying5 g3
  obtain ⟨m4, c4, e4, w4⟩ := DataW.trod_int (x := z4) Tryd.underlying5 g4
  simp only [List.drop, List.take, List.cons.injEq, and_true] at c0 c1 c2 c3 c4
  subst c0 c1 c2 c3 c4 e0 e1 e2 e3 e4
  simp only [Prod.mk.injEq] at hx
  exact ⟨m0, m1, m2, m3, m4, rfl, hx.1, hx.2, w0, w1, w2, w3, w4⟩
/-- Five signs read as they are, in every memory. -/
theorem shut_signs {x0 x1 x2 x3 x4 : Int} (w0 : (Lit.int .u8 x0).wf = true) (w1 : (Lit.int .u8 x1).wf = true) (w2 : (Lit.int .u8 x2).wf = true) (w3 : (Lit.int .u8 x3).wf = true) (w4 : (Lit.int .u8 x4).wf = true) :
    DataW.Trod enc Tryd.prog w base spare held 23 (.agg #[.int .u8 x0, .int .u8 x1, .int .u8 x2, .int .u8 x3, .int .u8 x4]) (.agg [.lit (.int .u8 x0), .lit (.int .u8 x1), .lit (.int .u8 x2), .lit (.int .u8 x3), .lit (.int .u8 x4)]) [] := by
  have one : ∀ x : Int, (Lit.int .u8 x).wf = true → DataW.trod enc Tryd.prog w base spare held 1 5 [.int .u8 x] = some (.lit (.int .u8 x), []) := fun x hx => by
    simp [DataW.trod, Tryd.underlying5, hx]
  refine ⟨2, ?_⟩
  have := trod_struct_mk (enc := enc) (w := w) (base := base) (spare := spare) (held := held) (n := 1) (cs := [.int .u8 x0, .int .u8 x1, .int .u8 x2, .int .u8 x3, .int .u8 x4])
    (xs := [(.lit (.int .u8 x0), []), (.lit (.int .u8 x1), []), (.lit (.int .u8 x2), []), (.lit (.int .u8 x3), []), (.lit (.int .u8 x4), [])]) Tryd.underlying23 cells_signs.symm
    (by simp [cells_byte, one _ w0, one _ w1, one _ w2, one _ w3, one _ w4])
  simpa [Value.cells] using this
end
end Go.Proofs.YteaehlkpghpnkaaDoor.Signs
