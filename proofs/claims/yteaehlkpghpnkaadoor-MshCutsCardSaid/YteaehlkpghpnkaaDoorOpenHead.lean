/- A head as an argument (five signs, ten texts): what such an argument is, that its reading stays, and how long its texts may be; conditions: it reads at its type. -/
import Derived.Test.YteaehlkpghpnkaaDoorProg
import Derived.Test.YteaehlkpghpnkaaDoorSigns
import Derived.WalkKit
import Derived.ProofKit
import Derived.ChangeOld
import Derived.Deep.Fields
import Derived.Lib.SmallJoins
import Derived.SizedLaws
namespace Go.Proofs.YteaehlkpghpnkaaDoor.OpenH
open Go Go.ChangeShapes Go.WideShapes Go.RowKit Go.Deep

set_option maxRecDepth 100000
theorem sized_parts {H : Type} {P : Program} {ts : List TypeId} {ds : List (DataW H)} (h : (DataW.weightsEach P ts ds).all (· ≤ reachBytes) = true) {j : Nat} {t : TypeId} {fs : Array Field} {parts : List (DataW H)} (ht : ts[j]? = some t) (hd : ds[j]? = some (.agg parts)) (hu : P.underlying t = some (.struct fs)) :
    (DataW.weightsEach P (fs.toList.map (·.type)) parts).all (· ≤ reachBytes) = true := by
  rw [List.all_eq_true]
  intro n hn
  exact List.all_eq_true.1 h n (DataW.weights_mem_each ht hd n (by simp only [DataW.weights, hu]; exact hn))
theorem list_eleven {α : Type} {l : List α} (h : l.length = 11) : ∃ z0 z1 z2 z3 z4 z5 z6 z7 z8 z9 z10, l = [z0, z1, z2, z3, z4, z5, z6, z7, z8, z9, z10] := by
  match l, h with
  | [z0, z1, z2, z3, z4, z5, z6, z7, z8, z9, z10], _ => exact ⟨z0, z1, z2, z3, z4, z5, z6, z7, z8, z9, z10, rfl⟩
theorem list_fifteen {α : Type} {l : List α} (h : l.length = 15) : ∃ c0 c1 c2 c3 c4 c5 c6 c7 c8 c9 c10 c11 c12 c13 c14, l = [c0, c1, c2, c3, c4, c5, c6, c7, c8, c9, c10, c11, c12, c13, c14] := by
  match l, h with
  | [c0, c1, c2, c3, c4, c5, c6, c7, c8, c9, c10, c11, c12, c13, c14], _ => exact ⟨c0, c1, c2, c3, c4, c5, c6, c7, c8, c9, c10, c11, c12, c13, c14, rfl⟩
section
variable {H : Type} {enc : TypeId × Value → H} {w : World} {base : Nat} {spare : Nat → Bool} {held : Bool}
theorem cells_head : Tryd.prog.cellsOf 25 = 15 := by kernel_rfl
theorem cells_text : Tryd.prog.cellsOf 9 = 1 := by kernel_rfl
theorem trod_signs {n : Nat} {c0 c1 c2 c3 c4 : Value} {x : DataW H × List MemPlace} (hf : DataW.trod enc Tryd.prog w base spare held n 23 [c0, c1, c2, c3, c4] = some x) :
    ∃ x0 x1 x2 x3 x4 : Int, c0 = .int .u8 x0 ∧ c1 = .int .u8 x1 ∧ c2 = .int .u8 x2 ∧ c3 = .int .u8 x3 ∧ c4 = .int .u8 x4 ∧ x = (.agg [.lit (.int .u8 x0), .lit (.int .u8 x1), .lit (.int .u8 x2), .lit (.int .u8 x3), .lit (.int .u8 x4)], []) ∧
      (Lit.int .u8 x0).wf = true ∧ (Lit.int .u8 x1).wf = true ∧ (Lit.int .u8 x2).wf = true ∧ (Lit.int .u8 x3).wf = true ∧ (Lit.int .u8 x4).wf = true := by
  obtain ⟨xs, n, _, hx, _, hlen, hg⟩ := DataW.trod_struct Tryd.underlying23 hf
  obtain ⟨z0, z1, z2, z3, z4, rfl⟩ := Signs.list_five hlen
  have g0 : DataW.trod enc Tryd.prog w base spare held n 5 ((([c0, c1, c2, c3, c4] : List Value).drop 0).take (Tryd.prog.cellsOf 5)) = some z0 := hg 0 _ rfl
  have g1 : DataW.trod enc Tryd.prog w base spare held n 5 ((([c0, c1, c2, c3, c4] : List Value).drop 1).take (Tryd.prog.cellsOf 5)) = some z1 := hg 1 _ rfl
  have g2 : DataW.trod enc Tryd.prog w base spare held n 5 ((([c0, c1, c2, c3, c4] : List Value).drop 2).take (Tryd.prog.cellsOf 5)) = some z2 := hg 2 _ rfl
  have g3 : DataW.trod enc Tryd.prog w base spare held n 5 ((([c0, c1, c2, c3, c4] : List Value).drop 3).take (Tryd.prog.cellsOf 5)) = some z3 := hg 3 _ rfl
  have g4 : DataW.trod enc Tryd.prog w base spare held n 5 ((([c0, c1, c2, c3, c4] : List Value).drop 4).take (Tryd.prog.cellsOf 5)) = some z4 := hg 4 _ rfl
  rw [Signs.cells_byte] at g0 g1 g2 g3 g4
  obtain ⟨m0, d0, e0, w0⟩ := DataW.trod_int (x := z0) Tryd.underlying5 g0
  obtain ⟨m1, d1, e1, w1⟩ := DataW.trod_int (x := z1) Tryd.underlying5 g1
  obtain ⟨m2, d2, e2, w2⟩ := DataW.trod_int (x := z2) Tryd.underlying5 g2
  obtain ⟨m3, d3, e3, w3⟩ := DataW.trod_int (x := z3) Tryd.underlying5 g3
  obtain ⟨m4, d4, e4, w4⟩ := DataW.trod_int (x := z4) Tryd.underlying5 g4
  simp only [List.drop, List.take, List.cons.injEq, and_true] at d0 d1 d2 d3 d4
  subst d0 d1 d2 d3 d4 e0 e1 e2 e3 e4
  exact ⟨m0, m1, m2, m3, m4, rfl, rfl, rfl, rfl, rfl, hx, w0, w1, w2, w3, w4⟩
theorem open_head {r : Reach} {b0 : Nat} {v : Value} {d : DataW H} {p : List MemPlace} (hv : Value.okWide Tryd.prog w r b0 25 v) (h : DataW.Trod enc Tryd.prog w base spare held 25 v d p) :
    ∃ (x0 x1 x2 x3 x4 : Int) (s5 s6 s7 s8 s9 s10 s11 s12 s13 s14 : ByteArray), v = .agg #[.int .u8 x0, .int .u8 x1, .int .u8 x2, .int .u8 x3, .int .u8 x4, .string s5, .string s6, .string s7, .string s8, .string s9, .string s10, .string s11, .string s12, .string s13, .string s14] ∧ d = .agg [.agg [.lit (.int .u8 x0), .lit (.int .u8 x1), .lit (.int .u8 x2), .lit (.int .u8 x3), .lit (.int .u8 x4)], .lit (.string s5.data.toList), .lit (.string s6.data.toList), .lit (.string s7.data.toList), .lit (.string s8.data.toList), .lit (.string s9.data.toList), .lit (.string s10.data.toList), .lit (.string s11.data.toList), .lit (.string s12.data.toList), .lit (.string s13.data.toList), .lit (.string s14.data.toList)] ∧ p = [] ∧ (Lit.int .u8 x0).wf = true ∧ (Lit.int .u8 x1).wf = true ∧ (Lit.int .u8 x2).wf = true ∧ (Lit.int .u8 x3).wf = true ∧ (Lit.int .u8 x4).wf = true ∧ s5.size ≤ maxLen ∧ s6.size ≤ maxLen ∧ s7.size ≤ maxLen ∧ s8.size ≤ maxLen ∧ s9.size ≤ maxLen ∧ s10.size ≤ maxLen ∧ s11.size ≤ maxLen ∧ s12.size ≤ maxLen ∧ s13.size ≤ maxLen ∧ s14.size ≤ maxLen := by
  obtain ⟨⟨l⟩, rfl, hsz⟩ := okWide_struct Tryd.underlying25 hv
  obtain ⟨c0, c1, c2, c3, c4, c5, c6, c7, c8, c9, c10, c11, c12, c13, c14, rfl⟩ := list_fifteen (hsz.trans cells_head)
  obtain ⟨fuel, hf⟩ := h
  obtain ⟨xs, n, _, hx, _, hlen, hg⟩ := DataW.trod_struct Tryd.underlying25 hf
  obtain ⟨z0, z1, z2, z3, z4, z5, z6, z7, z8, z9, z10, rfl⟩ := list_eleven hlen
  have g0 : DataW.trod enc Tryd.prog w base spare held n 23 ((([c0, c1, c2, c3, c4, c5, c6, c7, c8, c9, c10, c11, c12, c13, c14] : List Value).drop 0).take (Tryd.prog.cellsOf 23)) = some z0 := hg 0 _ rfl
  have g1 : DataW.trod enc Tryd.prog w base spare held n 9 ((([c0, c1, c2, c3, c4, c5, c6, c7, c8, c9, c10, c11, c12, c13, c14] : List Value).drop 5).take (Tryd.prog.cellsOf 9)) = some z1 := hg 1 _ rfl
  have g2 : DataW.trod enc Tryd.prog w base spare held n 9 ((([c0, c1, c2, c3, c4, c5, c6, c7, c8, c9, c10, c11, c12, c13, c14] : List Value).drop 6).take (Tryd.prog.cellsOf 9)) = some z2 := hg 2 _ rfl
  have g3 : DataW.trod enc Tryd.prog w base spare held n 9 ((([c0, c1, c2, c3, c4, c5, c6, c7, c8, c9, c10, c11, c12, c13, c14] : List Value).drop 7).take (Tryd.prog.cellsOf 9)) = some z3 := hg 3 _ rfl
  have g4 : DataW.trod enc Tryd.prog w base spare held n 9 ((([c0, c1, c2, c3, c4, c5, c6, c7, c8, c9, c10, c11, c12, c13, c14] : List Value).drop 8).take (Tryd.prog.cellsOf 9)) = some z4 := hg 4 _ rfl
  have g5 : DataW.trod enc Tryd.prog w base spare held n 9 ((([c0, c1, c2, c3, c4, c5, c6, c7, c8, c9, c10, c11, c12, c13, c14] : List Value).drop 9).take (Tryd.prog.cellsOf 9)) = some z5 := hg 5 _ rfl
  have g6 : DataW.trod enc Tryd.prog w base spare held n 9 ((([c0, c1, c2, c3, c4, c5, c6, c7, c8, c9, c10, c11, c12, c13, c14] : List Value).drop 10).take (Tryd.prog.cellsOf 9)) = some z6 := hg 6 _ rfl
  have g7 : DataW.trod enc Tryd.prog w base spare held n 9 ((([c0, c1, c2, c3, c4, c5, c6, c7, c8, c9, c10, c11, c12, c13, c14] : List Value).drop 11).take (Tryd.prog.cellsOf 9)) = some z7 := hg 7 _ rfl
  have g8 : DataW.trod enc Tryd.prog w base spare held n 9 ((([c0, c1, c2, c3, c4, c5, c6, c7, c8, c9, c10, c11, c12, c13, c14] : List Value).drop 12).take (Tryd.prog.cellsOf 9)) = some z8 := hg 8 _ rfl
  have g9 : DataW.trod enc Tryd.prog w base spare held n 9 ((([c0, c1, c2, c3, c4, c5, c6, c7, c8, c9, c10, c11, c12, c13, c14] : List Value).drop 13).take (Tryd.prog.cellsOf 9)) = some z9 := hg 9 _ rfl
  have g10 : DataW.trod enc Tryd.prog w base spare held n 9 ((([c0, c1, c2, c3, c4, c5, c6, c7, c8, c9, c10, c11, c12, c13, c14] : List Value).drop 14).take (Tryd.prog.cellsOf 9)) = some z10 := hg 10 _ rfl
  rw [Signs.cells_signs] at g0
  rw [cells_text] at g1 g2 g3 g4 g5 g6 g7 g8 g9 g10
  obtain ⟨m0, m1, m2, m3, m4, rfl, rfl, rfl, rfl, rfl, e0, w0, w1, w2, w3, w4⟩ := trod_signs g0
  obtain ⟨m5, d5, e5, w5⟩ := DataW.trod_string (x := z1) Tryd.underlying9 g1
  obtain ⟨m6, d6, e6, w6⟩ := DataW.trod_string (x := z2) Tryd.underlying9 g2
  obtain ⟨m7, d7, e7, w7⟩ := DataW.trod_string (x := z3) Tryd.underlying9 g3
  obtain ⟨m8, d8, e8, w8⟩ := DataW.trod_string (x := z4) Tryd.underlying9 g4
  obtain ⟨m9, d9, e9, w9⟩ := DataW.trod_string (x := z5) Tryd.underlying9 g5
  obtain ⟨m10, d10, e10, w10⟩ := DataW.trod_string (x := z6) Tryd.underlying9 g6
  obtain ⟨m11, d11, e11, w11⟩ := DataW.trod_string (x := z7) Tryd.underlying9 g7
  obtain ⟨m12, d12, e12, w12⟩ := DataW.trod_string (x := z8) Tryd.underlying9 g8
  obtain ⟨m13, d13, e13, w13⟩ := DataW.trod_string (x := z9) Tryd.underlying9 g9
  obtain ⟨m14, d14, e14, w14⟩ := DataW.trod_string (x := z10) Tryd.underlying9 g10
  simp only [List.drop, List.take, List.cons.injEq, and_true] at d5 d6 d7 d8 d9 d10 d11 d12 d13 d14
  subst e0 d5 d6 d7 d8 d9 d10 d11 d12 d13 d14 e5 e6 e7 e8 e9 e10 e11 e12 e13 e14
  simp only [Prod.mk.injEq] at hx
  exact ⟨m0, m1, m2, m3, m4, m5, m6, m7, m8, m9, m10, m11, m12, m13, m14, rfl, hx.1, hx.2, w0, w1, w2, w3, w4, w5, w6, w7, w8, w9, w10, w11, w12, w13, w14⟩
theorem shut_head {x0 x1 x2 x3 x4 : Int} {s5 s6 s7 s8 s9 s10 s11 s12 s13 s14 : ByteArray} (w0 : (Lit.int .u8 x0).wf = true) (w1 : (Lit.int .u8 x1).wf = true) (w2 : (Lit.int .u8 x2).wf = true) (w3 : (Lit.int .u8 x3).wf = true) (w4 : (Lit.int .u8 x4).wf = true) (y5 : s5.size ≤ maxLen) (y6 : s6.size ≤ maxLen) (y7 : s7.size ≤ maxLen) (y8 : s8.size ≤ maxLen) (y9 : s9.size ≤ maxLen) (y10 : s10.size ≤ maxLen) (y11 : s11.size ≤ maxLen) (y12 : s12.size ≤ maxLen) (y13 : s13.size ≤ maxLen) (y14 : s14.size ≤ maxLen) :
    DataW.Trod enc Tryd.prog w base spare held 25 (.agg #[.int .u8 x0, .int .u8 x1, .int .u8 x2, .int .u8 x3, .int .u8 x4, .string s5, .string s6, .string s7, .string s8, .string s9, .string s10, .string s11, .string s12, .string s13, .string s14]) (.agg [.agg [.lit (.int .u8 x0), .lit (.int .u8 x1), .lit (.int .u8 x2), .lit (.int .u8 x3), .lit (.int .u8 x4)], .lit (.string s5.data.toList), .lit (.string s6.data.toList), .lit (.string s7.data.toList), .lit (.string s8.data.toList), .lit (.string s9.data.toList), .lit (.string s10.data.toList), .lit (.string s11.data.toList), .lit (.string s12.data.toList), .lit (.string s13.data.toList), .lit (.string s14.data.toList)]) [] := by
  have one : ∀ x : Int, (Lit.int .u8 x).wf = true → DataW.trod enc Tryd.prog w base spare held 1 5 [.int .u8 x] = some (.lit (.int .u8 x), []) := fun x hx => by
    simp [DataW.trod, Tryd.underlying5, hx]
  have two : ∀ s : ByteArray, s.size ≤ maxLen → DataW.trod enc Tryd.prog w base spare held 2 9 [.string s] = some (.lit (.string s.data.toList), []) := fun s hs => by
    simp [DataW.trod, Tryd.underlying9, hs]
  have sg := trod_struct_mk (enc := enc) (w := w) (base := base) (spare := spare) (held := held) (n := 1) (cs := [.int .u8 x0, .int .u8 x1, .int .u8 x2, .int .u8 x3, .int .u8 x4])
    (xs := [(.lit (.int .u8 x0), []), (.lit (.int .u8 x1), []), (.lit (.int .u8 x2), []), (.lit (.int .u8 x3), []), (.lit (.int .u8 x4), [])]) Tryd.underlying23 Signs.cells_signs.symm
    (by simp [Signs.cells_byte, one _ w0, one _ w1, one _ w2, one _ w3, one _ w4])
  have sg2 : DataW.trod enc Tryd.prog w base spare held 2 23 [.int .u8 x0, .int .u8 x1, .int .u8 x2, .int .u8 x3, .int .u8 x4] = some (.agg [.lit (.int .u8 x0), .lit (.int .u8 x1), .lit (.int .u8 x2), .lit (.int .u8 x3), .lit (.int .u8 x4)], []) := by simpa using sg
  refine ⟨3, ?_⟩
  have := trod_struct_mk (enc := enc) (w := w) (base := base) (spare := spare) (held := held) (n := 2) (cs := [.int .u8 x0, .int .u8 x1, .int .u8 x2, .int .u8 x3, .int .u8 x4, .string s5, .string s6, .string s7, .string s8, .string s9, .string s10, .string s11, .string s12, .string s13, .string s14])
    (xs := [(.agg [.lit (.int .u8 x0), .lit (.int .u8 x1), .lit (.int .u8 x2), .lit (.int .u8 x3), .lit (.int .u8 x4)], []), (.lit (.string s5.data.toList), []), (.lit (.string s6.data.toList), []), (.lit (.string s7.data.toList), []), (.lit (.string s8.data.toList), []), (.lit (.string s9.data.toList), []), (.lit (.string s10.data.toList), []), (.lit (.string s11.data.toList), []), (.lit (.string s12.data.toList), []), (.lit (.string s13.data.toList), []), (.lit (.string s14.data.toList), [])]) Tryd.underlying25 cells_head.symm
    (by simp [Signs.cells_signs, cells_text, sg2, two _ y5, two _ y6, two _ y7, two _ y8, two _ y9, two _ y10, two _ y11, two _ y12, two _ y13, two _ y14])
  simpa [Value.cells] using this
end
end Go.Proofs.YteaehlkpghpnkaaDoor.OpenH
