/- Words for a map from bytes to texts that a call has made, for a text's builder and for a world that has grown; no program in sight. -/
import Derived.Test.YtokpkdmkdolmdaaDoorEsc
import Derived.Maps.OwnSet
import Derived.Maps.RangeWalk
import Derived.Maps.StringElems
import Derived.Maps.Views
import Derived.Lib.OthersKept
namespace Go.Proofs.YtokpkdmkdolmdaaDoor
open Go Go.RowKit Go.Maps

theorem byte_lit {c : Int} (h : 0 ≤ c ∧ c ≤ 255) : (Lit.int .u8 c).wf = true := by simpa [Lit.wf, IntKind.min, IntKind.max, IntKind.signed, IntKind.bits] using h
theorem lit_byte {c : Int} (h : (Lit.int .u8 c).wf = true) : 0 ≤ c ∧ c ≤ 255 := by simpa [Lit.wf, IntKind.min, IntKind.max, IntKind.signed, IntKind.bits] using h
/-- What a map holds, by its keys. -/
def InsD (D : DataW Unit) (g : Int → Option (List UInt8)) : Prop := ∀ c, 0 ≤ c → c ≤ 255 → Maps.has D (.int .u8 c) = (g c).isSome ∧ ∀ x, g c = some x → ∀ z, D.atKey (.int .u8 c) z = .lit (.string x)
def insStr : Option (List UInt8) → ByteArray
  | none => ⟨#[]⟩
  | some x => ⟨x.toArray⟩
def OwnsIns (P : Program) (k e : TypeId) (w : World) (b n : Nat) (g : Int → Option (List UInt8)) : Prop := ∃ D, w.ownsMap P k (plainElem P e) b n D ∧ InsD D g
theorem OwnsIns.same {P : Program} {k e : TypeId} {w W : World} {b n : Nat} {g : Int → Option (List UInt8)} (h : OwnsIns P k e w b n g) (he : W.heap[b]? = w.heap[b]?) : OwnsIns P k e W b n g := by
  obtain ⟨D, ⟨es, clock, hb, r⟩, hD⟩ := h
  exact ⟨D, ⟨es, clock, he.trans hb, r⟩, hD⟩
theorem OwnsIns.block {P : Program} {k e : TypeId} {w : World} {b n : Nat} {g : Int → Option (List UInt8)} (h : OwnsIns P k e w b n g) : ∃ es clock, w.heap[b]? = some (.map es clock) := by
  obtain ⟨D, ⟨es, clock, hb, r⟩, hD⟩ := h
  exact ⟨es, clock, hb⟩
theorem OwnsIns.lt {P : Program} {k e : TypeId} {w : World} {b n : Nat} {g : Int → Option (List UInt8)} (h : OwnsIns P k e w b n g) : b < w.heap.size := by
  obtain ⟨es, clock, hb⟩ := h.block
  exact (Array.getElem?_eq_some_iff.1 hb).1
theorem OwnsIns.kept {P : Program} {k e t : TypeId} {w W : World} {b n : Nat} {B : Option Nat} {g : Int → Option (List UInt8)} (h : OwnsIns P k e w b n g) (hk : Lib.OthersKept t B w W) (hB : some b ≠ B) : OwnsIns P k e W b n g := by
  obtain ⟨es, clock, hb⟩ := h.block
  exact h.same ((hk b _ hb hB (fun _ _ e => by cases e)).trans hb.symm)
theorem OwnsIns.below {P : Program} {k e : TypeId} {w W : World} {b n : Nat} {g : Int → Option (List UInt8)} (h : OwnsIns P k e w b n g) (hb : Below w.heap.size w W) : OwnsIns P k e W b n g := h.same (hb.block b h.lt)
theorem OwnsIns.ext {P : Program} {k e : TypeId} {w : World} {b n : Nat} {g g' : Int → Option (List UInt8)} (h : OwnsIns P k e w b n g) (hg : ∀ c, 0 ≤ c → c ≤ 255 → g c = g' c) : OwnsIns P k e w b n g' := by
  obtain ⟨D, ho, hD⟩ := h
  exact ⟨D, ho, fun c h0 h1 => by rw [← hg c h0 h1]; exact hD c h0 h1⟩
theorem insD_put {D : DataW Unit} {g : Int → Option (List UInt8)} (hD : InsD D g) (hm : IsMap D) (c : Int) (x : List UInt8) : InsD (D.put (.int .u8 c) (.lit (.string x))) (fun c' => if c' = c then some x else g c') := by
  intro c' h0 h1
  by_cases e : c' = c
  · subst e
    dsimp only
    rw [if_pos rfl]
    refine ⟨has_put_same hm (show WideAt.IsKeyLit (.int .u8 c') from trivial) _, fun y hy z => ?_⟩
    obtain rfl := Option.some.inj hy
    exact atKey_put_same hm (show WideAt.IsKeyLit (.int .u8 c') from trivial) _ _
  · have hne : (Lit.int .u8 c') ≠ (Lit.int .u8 c) := fun h => e (by simpa using h)
    dsimp only
    rw [if_neg e]
    refine ⟨by rw [has_put_other hne]; exact (hD c' h0 h1).1, fun y hy z => ?_⟩
    rw [atKey_put_other hne]
    exact (hD c' h0 h1).2 y hy z
theorem OwnsIns.made (w : World) (P : Program) (k e : TypeId) : OwnsIns P k e (w.alloc (.map #[] 0)) w.heap.size 0 (fun _ => none) :=
  ⟨_, World.ownsMap_made (H := Unit) w P k (plainElem P e), fun c _ _ => ⟨rfl, fun x hx => by cases hx⟩⟩
section
variable {P : Program} (w : World) {ops : Array Oper} {rest : List Oper} {o : Oper} {a : Act} {Q : Exit → Act → World → Prop}
/-- An entry of a map's literal. -/
theorem ins_lit (hg : o.guard = none) (m x v : Operand) (t : TypeId) (hop : o.op = Op.insert t m x v)
    (k e : TypeId) (hk : P.underlying k = some (.int .u8)) (he : P.underlying e = some .string) (ht : P.underlying t = some (.map k e)) (b n : Nat) (g : Int → Option (List UInt8))
    (hm : a.eval m = .map (some b)) (hown : OwnsIns P k e w b n g) (hn : n < 1000) (c : Int) (y : ByteArray) (hx : a.eval x = .int .u8 c) (hv : a.eval v = .string y) (hc : 0 ≤ c ∧ c ≤ 255) (hy : y.size ≤ 1000)
    (hK : ∀ w', OwnsIns P k e w' b (n + 1) (fun c' => if c' = c then some y.data.toList else g c') → w.grownBy w' (some b) → wpList P ops Q rest (a.put o.dst undef) w') :
    wpList P ops Q (o :: rest) a w := by
  refine wpList_plain hg fun K' hK' => ?_
  obtain ⟨D, ho, hD⟩ := hown
  have K := int_keyed (P := P) (k := k) (q := .u8) hk
  obtain ⟨w', hrun, r1, r2⟩ := ho.update K ht (by unfold maxLen; omega) (keyOf_int_mk hk (byte_lit hc)) (plainElem_string (H := Unit) he (s := y) (by unfold maxLen; omega))
  unfold Oper.wp
  simp [execOp, hop, hm, hx, hv, hrun, Result.andThen]
  exact hK' _ _ (hK w' ⟨_, r1, insD_put hD ho.isMap c _⟩ r2)
/-- 'm[c] = y'. -/
theorem ins_put (hg : o.guard = none) (m x v : Operand) (t : TypeId) (hop : o.op = Op.mapUpdate t m x v)
    (k e : TypeId) (hk : P.underlying k = some (.int .u8)) (he : P.underlying e = some .string) (ht : P.underlying t = some (.map k e)) (b n : Nat) (g : Int → Option (List UInt8))
    (hm : a.eval m = .map (some b)) (hown : OwnsIns P k e w b n g) (hn : n < 1000) (c : Int) (y : ByteArray) (hx : a.eval x = .int .u8 c) (hv : a.eval v = .string y) (hc : 0 ≤ c ∧ c ≤ 255) (hy : y.size ≤ 1000)
    (hK : ∀ w', OwnsIns P k e w' b (n + 1) (fun c' => if c' = c then some y.data.toList else g c') → w.mapTurned w' b → wpList P ops Q rest (a.put o.dst undef) w') :
    wpList P ops Q (o :: rest) a w := by
  obtain ⟨D, ho, hD⟩ := hown
  refine wpList_mapUpdate_in w hg m x v t hop k e (int_keyed (P := P) (k := k) (q := .u8) hk) ht (plainElem P e) b n D hm ho (by unfold maxLen; omega) (.int .u8 c) (.string y) _ hx hv (keyOf_int_mk hk (byte_lit hc)) _ _ (plainElem_string (H := Unit) he (s := y) (by unfold maxLen; omega)) ?_
  intro w' r1 r2
  exact hK w' ⟨_, r1, insD_put hD ho.isMap c _⟩ r2
/-- 'x, ok := m[c]'. -/
theorem ins_look (hg : o.guard = none) (m x : Operand) (t : TypeId) (hop : o.op = Op.lookup t m x true)
    (k e : TypeId) (hk : P.underlying k = some (.int .u8)) (he : P.underlying e = some .string) (ht : P.underlying t = some (.map k e)) (hz : (zeroValue e).run P w = .ok (.string ⟨#[]⟩) w) (b n : Nat) (g : Int → Option (List UInt8))
    (hm : a.eval m = .map (some b)) (hown : OwnsIns P k e w b n g) (c : Int) (hx : a.eval x = .int .u8 c) (hc : 0 ≤ c ∧ c ≤ 255)
    (hK : wpList P ops Q rest (a.put o.dst (.tuple #[.string (insStr (g c)), .bool (g c).isSome])) w) :
    wpList P ops Q (o :: rest) a w := by
  obtain ⟨D, ho, hD⟩ := hown
  obtain ⟨h1, h2⟩ := hD c hc.1 hc.2
  refine wpList_lookup_own_ok w hg m x t hop k e (int_keyed (P := P) (k := k) (q := .u8) hk) ht (plainElem P e) hz (.lit (.string [])) [] (plainElem_string (H := Unit) he (s := ⟨#[]⟩) (by unfold maxLen; decide)) b n D hm ho (.int .u8 c) _ hx (keyOf_int_mk hk (byte_lit hc)) ?_
  intro v ps hv
  obtain ⟨s, rfl, hz', _⟩ := plainElem_string_inv he hv
  rw [h1]
  have h3 := congrArg Prod.fst hz'
  have e2 : s = insStr (g c) := by
    cases hgc : g c with
    | none =>
      have h4 : Maps.has D (.int .u8 c) = false := by rw [h1, hgc]; rfl
      rw [atKey_of_not_has h4] at h3
      simp only [DataW.lit.injEq, Lit.string.injEq] at h3
      exact ByteArray.ext (Array.toList_inj.1 h3.symm)
    | some y =>
      rw [h2 y hgc] at h3
      simp only [DataW.lit.injEq, Lit.string.injEq] at h3
      apply ByteArray.ext
      apply Array.toList_inj.1
      show s.data.toList = y.toArray.toList
      rw [← h3]
  rw [e2]
  exact hK
end
end Go.Proofs.YtokpkdmkdolmdaaDoor
