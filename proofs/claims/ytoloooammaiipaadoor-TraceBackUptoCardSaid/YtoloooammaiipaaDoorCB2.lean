/- Texts of this work merged in their order (a claim may hold 60 files): WMore, WTab, WFour, WFootNe, WAt, WEqStruct, WRepsOne, WInv, WInvWords, WGuard. No conditions of its own. -/
import Derived.Test.YtoloooammaiipaaDoorCB1
import Derived.Laws.StructEq
-- PRINTED BY print.sh 35421559b90ae4d0a3588c463048766b98c2df88dd9212a6774a882060cdf62d: not written by this session
-- PRINTED WORDS (module Derived/Print/More.lean): go-gate-2's additions: an AI agent of Go's test side, Tue Nov 17 2026; no person has read it. Lean checks it.
namespace Go.Proofs.YtoloooammaiipaaDoorW.PrintMore
open Go.RowKit Go.Proofs.YtoloooammaiipaaDoorW.PrintWords
namespace Kd
open Go.Proofs.YtoloooammaiipaaDoorW.PrintWords.Kd
/-- Element i of a row of one's own, lent: its cells and what it leads to, as the row has them. -/
theorem R_get {α : Type} {d : Kd α} {e base n cap : Nat} {ok : Nat → Prop} {W : World} {ad : Addr} {xs : List α} (h : d.R e W base ok (.slice (some ad) n cap) xs) (z : α) (i : Int) (h0 : 0 ≤ i) (h1 : i < n) :
    ∃ c, c.length = d.sz ∧ d.M W base (fun k => ok k ∧ some k ≠ (Value.slice (some ad) n cap).ownBlock) (xs.getD i.toNat z) c ∧ ∀ j u, c[j]? = some u → W.cell? (ad.add (i.toNat * d.sz + j)) = some u := by
  obtain ⟨g, hg⟩ : ∃ g, ad = ⟨g, 0, none⟩ := by
    obtain ⟨_, inner, ho, _⟩ := h
    rcases ho.2 with ⟨hv, _⟩ | ⟨g, cap', cur, hv, _⟩
    · cases hv
    · injection hv with ha _ _
      injection ha with ha
      exact ⟨g, ha⟩
  subst hg
  obtain ⟨c, hcl, hM, hcc, _⟩ := R_elem h z i h0 h1
  refine ⟨c, hcl, d.M_mono (fun k hk => ⟨hk.1, fun he => hk.2 ?_⟩) hM, fun j u hu => ?_⟩
  · rw [add_at, Nat.zero_add]
    exact hcc j u hu
  · simpa [Value.ownBlock] using he
end Kd

namespace Kd
open Go.Proofs.YtoloooammaiipaaDoorW.PrintWords.Kd
section
variable {α : Type} {d : Kd α} {e base g N : Nat} {ok : Nat → Prop} {W w1 : World} {u v : Value} {xs : List α}
/-- An elder row over an event that only makes: its blocks are elder than what was made. -/
theorem R_old (hu : d.R e W base ok u xs) (hb : Below W.heap.size W w1) : d.R e w1 base (fun k => ok k ∧ k < W.heap.size) u xs :=
  R_mono (R_below (R_bound hu) hb) (fun _ h => ⟨h.1, h.2.2.1⟩)
/-- The same over a state's call. -/
theorem R_oldK (hu : d.R e W base (fun k => ok k ∧ k ≠ g) u xs) (hk : KeepBut W w1 g none) : d.R e w1 base (fun k => ok k ∧ k < W.heap.size) u xs :=
  R_mono (R_keep (R_bound hu) hk (fun _ h => h.1.2)) (fun _ h => ⟨h.1.1, h.2.2.1⟩)
/-- It is none of the rows made since. -/
theorem R_told (h : d.R e w1 base (fun k => ok k ∧ k < N) u xs) (hbase : ∀ k, v.ownBlock = some k → N ≤ k) : d.R e w1 base (fun k => (ok k ∧ some k ≠ v.ownBlock) ∧ k < N) u xs :=
  R_mono h (fun k hk => ⟨⟨hk.1, fun e => Nat.lt_irrefl _ (Nat.lt_of_lt_of_le hk.2 (hbase k e.symm))⟩, hk.2⟩)
end
end Kd
/-- 'max' and 'min' of two whole numbers. -/
theorem max2_int (k k' : IntKind) (x y : Int) : Builtin.max2 (.int k x) (.int k' y) = pure (.int k (if x < y then y else x)) := by simp only [Builtin.max2, gt_iff_lt]
theorem min2_int (k k' : IntKind) (x y : Int) : Builtin.min2 (.int k x) (.int k' y) = pure (.int k (if y < x then y else x)) := by simp only [Builtin.min2]
theorem max_two (ats : Array TypeId) (ty : TypeId) (a b : Value) : Builtin.max_ ats ty #[a, b] = (Builtin.max2 a b >>= fun s => pure s) := by simp only [Builtin.max_, List.foldlM_cons, List.foldlM_nil]
theorem min_two (ats : Array TypeId) (ty : TypeId) (a b : Value) : Builtin.min_ ats ty #[a, b] = (Builtin.min2 a b >>= fun s => pure s) := by simp only [Builtin.min_, List.foldlM_cons, List.foldlM_nil]
theorem max_three (ats : Array TypeId) (ty : TypeId) (a b c : Value) : Builtin.max_ ats ty #[a, b, c] = (Builtin.max2 a b >>= fun s => Builtin.max2 s c >>= fun s => pure s) := by simp only [Builtin.max_, List.foldlM_cons, List.foldlM_nil]
theorem min_three (ats : Array TypeId) (ty : TypeId) (a b c : Value) : Builtin.min_ ats ty #[a, b, c] = (Builtin.min2 a b >>= fun s => Builtin.min2 s c >>= fun s => pure s) := by simp only [Builtin.min_, List.foldlM_cons, List.foldlM_nil]
theorem max_four (ats : Array TypeId) (ty : TypeId) (a b c d : Value) : Builtin.max_ ats ty #[a, b, c, d] = (Builtin.max2 a b >>= fun s => Builtin.max2 s c >>= fun s => Builtin.max2 s d >>= fun s => pure s) := by simp only [Builtin.max_, List.foldlM_cons, List.foldlM_nil]
theorem min_four (ats : Array TypeId) (ty : TypeId) (a b c d : Value) : Builtin.min_ ats ty #[a, b, c, d] = (Builtin.min2 a b >>= fun s => Builtin.min2 s c >>= fun s => Builtin.min2 s d >>= fun s => pure s) := by simp only [Builtin.min_, List.foldlM_cons, List.foldlM_nil]
end Go.Proofs.YtoloooammaiipaaDoorW.PrintMore
namespace Go.Proofs.YtoloooammaiipaaDoorW.PrintWords
open Go.RowKit
section
variable {P : Program} {ops : Array Oper} {rest : List Oper} {o : Oper} {a : Act} {Q : Exit → Act → World → Prop} {W : World}
/-- The operation is a call of this function (a cheap look ahead of a dear step). -/
theorem gate_callee {f : FuncId} {as : Array Operand} {ts : Array TypeId} (_ho : o.op = .call { callee := .value (.func f), args := as, argTypes := ts }) (h : wpList P ops Q (o :: rest) a W) : wpList P ops Q (o :: rest) a W := h
/-- The operation is a builtin over these places. -/
theorem gate_builtin {b : Builtin} {xs : Array Operand} {ts : Array TypeId} (_ho : o.op = .call { callee := .builtin b, args := xs, argTypes := ts }) (h : wpList P ops Q (o :: rest) a W) : wpList P ops Q (o :: rest) a W := h
end
/-- A call's arguments, spelled otherwise. -/
theorem calls_of_args {P : Program} {f : FuncId} {args args' : Array Value} {w : World} {Q : Ending → World → Prop} (h : args = args') (hc : Calls P f args' w Q) : Calls P f args w Q := h ▸ hc
/-- The greater of two whole numbers, as Go's max tells it. -/
def mx (a b : Int) : Int := if a < b then b else a
/-- The smaller of two whole numbers, as Go's min tells it. -/
def mn (a b : Int) : Int := if b < a then b else a
/-- A shift to the left, as Go tells it: a count beyond the width leaves nothing. -/
def shl (k : IntKind) (x y : Int) : Int := k.wrap (x * 2 ^ min y.toNat k.bits)
/-- A shift to the right: a count beyond the width leaves the sign. -/
def shr (k : IntKind) (x y : Int) : Int := x / 2 ^ min y.toNat k.bits
theorem shl_small {k : IntKind} {x y j : Int} (h : shl k x y = j) (hy : y ≤ k.bits) : k.wrap (x * 2 ^ y.toNat) = j := by rw [← h]; unfold shl; rw [Nat.min_eq_left (by omega)]
theorem shr_small {k : IntKind} {x y j : Int} (h : shr k x y = j) (hy : y ≤ k.bits) : x / 2 ^ y.toNat = j := by rw [← h]; unfold shr; rw [Nat.min_eq_left (by omega)]
/-- It says x = x, and that is its use: 'rw [drewN_self w]' fails where the world was not drawn, and the row behind it is skipped. -/
theorem drewN_self (w : World) (n : Nat) : w.drewN n = w.drewN n := rfl
theorem cell_unalloc {W : World} {o : Obj} {a : Addr} {v : Value} (h : (W.alloc o).cell? a = some v) (hlt : a.block < W.heap.size) : W.cell? a = some v := (World.cell?_alloc_lt _ _ _ hlt).symm.trans h
/-- A cell of a block that an event leaves alone. -/
theorem cell_grown {W w1 : World} {row : Option Nat} (hg : W.grownBy w1 row) {a : Addr} {v : Value} (h : W.cell? a = some v) (hne : some a.block ≠ row) : w1.cell? a = some v := by
  have := hg.block a.block (World.block_lt_of_cell? W a h) hne
  simpa [World.cell?, this] using h
namespace Kd
section
variable {α : Type} {d : Kd α} {e base : Nat} {ok : Nat → Prop} {W w1 : World} {v : Value} {xs : List α}
/-- A row of scalars beside a block that is not its own: written. -/
theorem R_grown1 (h : d.R e W base ok v xs) (hE : d.E = []) {row : Option Nat} (hg : W.grownBy w1 row) (hne : row ≠ v.ownBlock) : d.R e w1 base ok v xs :=
  R_mono (R_grown (R_tight hE h) hg (fun _ hk e_ => hne (e_.symm.trans hk))) (fun k hk => h.1 k hk.symm)
/-- The same, told: its block is not that one. -/
theorem R_far1 (h : d.R e W base ok v xs) (hE : d.E = []) {g : Nat} (hne : some g ≠ v.ownBlock) : d.R e W base (fun k => ok k ∧ k ≠ g) v xs :=
  R_mono (R_tight hE h) (fun k hk => ⟨h.1 k hk.symm, fun e_ => hne (by rw [← e_]; exact hk)⟩)
/-- The same, where the row that was written may be none. -/
theorem R_grown2 (h : d.R e W base ok v xs) (hE : d.E = []) {row : Option Nat} (hg : W.grownBy w1 row) (hne : ∀ k, row = some k → some k ≠ v.ownBlock) : d.R e w1 base ok v xs :=
  R_mono (R_grown (R_tight hE h) hg (fun k hk e_ => hne k e_.symm hk)) (fun k hk => h.1 k hk.symm)
end
section
variable {α : Type} {d : Kd α} {e base g n cap : Nat} {ok oki okp : Nat → Prop} {W : World} {xs : List α} {i : Int} {c : List Value}
/-- The place where an element's row comes back: its cells are there, and may be written. -/
theorem H_at (h : H d e W base ok (.slice (some ⟨g, 0, none⟩) n cap) xs i oki c) (h0 : 0 ≤ i) (h1 : i < n) : (∀ j u, c[j]? = some u → W.cell? ⟨g, i.toNat * d.sz + j, none⟩ = some u) ∧ ∀ j, W.frozen? ⟨g, i.toNat * d.sz + j, none⟩ = false := by
  obtain ⟨rows, _, hraw, _, _, hcc, _⟩ := H_raw h h0 h1
  obtain ⟨_, _, _, _, hfr⟩ := R_elem hraw [] i h0 h1
  exact ⟨hcc, hfr⟩
theorem S_seg0 (hH : H d e W base ok (.slice (some ⟨g, 0, none⟩) n cap) xs i oki c) (h0 : 0 ≤ i) (h1 : i < n) {seg : List Value} {j : Nat} (hj : j + seg.length ≤ d.sz)
    {x' : α} (hM : d.M W base okp x' (c.take j ++ seg ++ c.drop (j + seg.length))) (hokp : ∀ k, okp k → oki k) :
    S d e (W.setCells g (i.toNat * d.sz + j) seg) base ok (.slice (some ⟨g, 0, none⟩) n cap) (xs.set i.toNat x') ∧ W.grownBy (W.setCells g (i.toNat * d.sz + j) seg) (some g) :=
  S_seg (okg := fun _ => False) (H_mono hH (fun _ hk => ⟨hk, fun h => h⟩)) h0 h1 hj hM (fun k hk => .inl (hokp k hk)) (fun _ hk => hk.elim)
end
section
variable {α : Type} {d : Kd α} {e base b b' g N : Nat} {ok ok1 : Nat → Prop} {W W2 w1 : World} {u v : Value} {xs ys : List α} {S : Nat → Prop}
theorem Q_tight (hE : d.E = []) (h : d.Q e W base ok v xs) : d.Q e W base (fun k => some k = v.ownBlock) v xs := by
  obtain ⟨h0, inner, ho, hr⟩ := h
  refine ⟨fun k hk => hk.symm, inner, ho, hr.imp_ (fun p c hp => d.M_mono (fun k hk => ?_) (d.M_bound hp))⟩
  obtain ⟨_, _, _, q, hq, _⟩ := hk
  rw [hE] at hq
  cases hq
theorem Q_ok (h : d.Q e W base ok v xs) : ∀ k, v.ownBlock = some k → ok k := h.1
theorem Q_grown1 (h : d.Q e W base ok v xs) (hE : d.E = []) {row : Option Nat} (hg : W.grownBy w1 row) (hne : row ≠ v.ownBlock) : d.Q e w1 base ok v xs :=
  Q_mono (Q_grown (Q_tight hE h) hg (fun _ hk e_ => hne (e_.symm.trans hk))) (fun k hk => h.1 k hk.symm)
theorem Q_grown2 (h : d.Q e W base ok v xs) (hE : d.E = []) {row : Option Nat} (hg : W.grownBy w1 row) (hne : ∀ k, row = some k → some k ≠ v.ownBlock) : d.Q e w1 base ok v xs :=
  Q_mono (Q_grown (Q_tight hE h) hg (fun k hk e_ => hne k e_.symm hk)) (fun k hk => h.1 k hk.symm)
theorem Q_far1 (h : d.Q e W base ok v xs) (hE : d.E = []) {g : Nat} (hne : some g ≠ v.ownBlock) : d.Q e W base (fun k => ok k ∧ k ≠ g) v xs :=
  Q_mono (Q_tight hE h) (fun k hk => ⟨h.1 k hk.symm, fun e_ => hne (by rw [← e_]; exact hk)⟩)
theorem R_tight2 (hE : d.E = []) (h : d.R e W base ok v xs) : d.R e W base (fun k => some k = v.ownBlock ∧ ok k) v xs := R_mono (R_tight hE h) (fun k hk => ⟨hk, h.1 k hk.symm⟩)
theorem R_reok (hE : d.E = []) (h : d.R e W base ok1 v xs) (hok : ∀ k, v.ownBlock = some k → ok k) : d.R e W base ok v xs := R_mono (R_tight hE h) (fun k hk => hok k hk.symm)
theorem own_raise {n size : Nat} {cs : List Value} (h : W.ownsRow b e size v n cs) (hb : ∀ k, v.ownBlock = some k → b' ≤ k) : W.ownsRow b' e size v n cs := by
  obtain ⟨h1, h2⟩ := h
  refine ⟨h1, ?_⟩
  rcases h2 with h2 | ⟨g, cap, cur, rfl, _, r⟩
  · exact .inl h2
  · exact .inr ⟨g, cap, cur, rfl, hb g (by simp [Value.ownBlock]), r⟩
/-- A row whose elements lead to nothing, and whose block is younger than was told. -/
theorem R_raise (hM : ∀ w ok x cs, d.M w b ok x cs → d.M w b' ok x cs) (h : d.R e W b ok v xs) (hb : ∀ k, v.ownBlock = some k → b' ≤ k) : d.R e W b' ok v xs := by
  obtain ⟨h0, inner, ho, hr⟩ := h
  exact ⟨h0, inner, own_raise ho hb, hr.imp_ (fun _ _ hp => hM _ _ _ _ hp)⟩
theorem R_keptB (h : d.R e W base ok v xs) (hk : Kept W W2 S) (hne : ∀ k, ok k → ¬ S k) : d.R e W2 base (fun k => ok k ∧ (¬ S k ∧ k < W.heap.size)) v xs :=
  R_kept (R_mono (R_bound h) (fun k hk => ⟨hk.1, hne k hk.1, hk.2.2.1⟩)) hk (fun _ hk => hk.2.1)
theorem Q_keptB (h : d.Q e W base ok v xs) (hk : Kept W W2 S) (hne : ∀ k, ok k → ¬ S k) : d.Q e W2 base (fun k => ok k ∧ (¬ S k ∧ k < W.heap.size)) v xs :=
  Q_kept (Q_mono (Q_bound h) (fun k hk => ⟨hk.1, hne k hk.1, hk.2.2.1⟩)) hk (fun _ hk => hk.2.1)
theorem S_keptB (h : Kd.S d e W base ok v xs) (hk : Kept W W2 S) (hne : ∀ k, ok k → ¬ S k) : Kd.S d e W2 base (fun k => ok k ∧ (¬ S k ∧ k < W.heap.size)) v xs :=
  S_kept (S_mono (S_bound h) (fun k hk => ⟨hk.1, hne k hk.1, hk.2.2.1⟩)) hk (fun _ hk => hk.2.1)
theorem Q_old (hu : d.Q e W base ok u xs) (hb : Below W.heap.size W w1) : d.Q e w1 base (fun k => ok k ∧ k < W.heap.size) u xs := Q_mono (Q_below (Q_bound hu) hb) (fun _ h => ⟨h.1, h.2.2.1⟩)
theorem Q_oldK (hu : d.Q e W base (fun k => ok k ∧ k ≠ g) u xs) (hk : KeepBut W w1 g none) : d.Q e w1 base (fun k => ok k ∧ k < W.heap.size) u xs := Q_mono (Q_keep (Q_bound hu) hk (fun _ h => h.1.2)) (fun _ h => ⟨h.1.1, h.2.2.1⟩)
theorem Q_apart_nil (h : d.Q e W base ok u xs) : d.Q e W base (fun k => ok k ∧ some k ≠ (Value.slice none 0 0).ownBlock) u xs := Q_mono h (fun k hk => ⟨hk, by simp [Value.ownBlock]⟩)
theorem Q_told (h : d.Q e w1 base (fun k => ok k ∧ k < N) u xs) (hbase : ∀ k, v.ownBlock = some k → N ≤ k) : d.Q e w1 base (fun k => (ok k ∧ some k ≠ v.ownBlock) ∧ k < N) u xs :=
  Q_mono h (fun k hk => ⟨⟨hk.1, fun e => Nat.lt_irrefl _ (Nat.lt_of_lt_of_le hk.2 (hbase k e.symm))⟩, hk.2⟩)
end
end Kd
end Go.Proofs.YtoloooammaiipaaDoorW.PrintWords
namespace Go.Proofs.YtoloooammaiipaaDoorW.PrintWords
open Go.RowKit
/-- Beside a state: what was written is the state's, or new since. -/
theorem Kept.keepG {w W W2 : World} {S2 : Nat → Prop} {g : Nat} (h : KeepBut w W g none) (k : Kept W W2 S2) (hs : ∀ k, S2 k → k = g ∨ w.heap.size ≤ k) : KeepBut w W2 g none :=
  ⟨Nat.le_trans h.1 k.1, fun i hi hg hr => (k.2 i (Nat.lt_of_lt_of_le hi h.1) (fun h2 => (hs i h2).elim hg (fun h3 => by omega))).trans (h.2 i hi hg hr)⟩
namespace Kd
/-- A row that is only read, told by its value: its form, its length, what it leads to (in ok). e and base say nothing; they make it as the others are. -/
def V {α : Type} (d : Kd α) (_e : Nat) (W : World) (_base : Nat) (ok : Nat → Prop) (v : Value) (xs : List α) : Prop := ∃ A c, v = .slice A xs.length c ∧ xs.length ≤ c ∧ F d W ok A xs.length xs
section
variable {α β : Type} {d : Kd α} {e base base' n m c g N' lo hi : Nat} {ok ok' S : Nat → Prop} {w W w1 : World} {A : Option Addr} {ad : Addr} {u v v1 : Value} {xs : List α}
theorem V_map (h : V d e W base ok v xs) (hF : ∀ A, F d W ok A xs.length xs → F d w1 ok' A xs.length xs) : V d e w1 base' ok' v xs := by
  obtain ⟨A, c, hv, hl, hf⟩ := h
  exact ⟨A, c, hv, hl, hF A hf⟩
theorem V_mk (hl : xs.length ≤ c) (hf : F d W ok A xs.length xs) : V d e W base ok (.slice A xs.length c) xs := ⟨A, c, rfl, hl, hf⟩
theorem V_slice (h : V d e W base ok v xs) : ∃ A c, v = .slice A xs.length c := by
  obtain ⟨A, c, hv, _⟩ := h
  exact ⟨A, c, hv⟩
theorem V_at (h : V d e W base ok (.slice A n c) xs) : n = xs.length ∧ n ≤ c ∧ F d W ok A xs.length xs := by
  obtain ⟨A', c', hv, hl, hf⟩ := h
  injection hv with ha hn hc
  subst ha; subst hc
  exact ⟨hn, by rw [hn]; exact hl, hf⟩
theorem V_reads' (h : V d e W base ok (.slice A n c) xs) : n = xs.length ∧ n ≤ c ∧ d.C W A xs.length xs := ⟨(V_at h).1, (V_at h).2.1, F_now (V_at h).2.2⟩
theorem V_F (h : V d e W base ok (.slice A n c) xs) : F d W ok A n xs := by
  obtain ⟨hn, _, hf⟩ := V_at h
  rw [hn]
  exact hf
theorem V_nil (d : Kd α) (e : Nat) (W : World) (base : Nat) (ok : Nat → Prop) : V d e W base ok (.slice none 0 0) [] := ⟨none, 0, rfl, Nat.le_refl _, F_nil d W ok⟩
theorem R_V (h : d.R e W base ok v xs) : V d e W base' ok v xs := by
  obtain ⟨A, c, rfl⟩ := R_slice h
  exact ⟨A, c, rfl, (R_reads' h).2.1, R_F h⟩
theorem Q_V (h : d.Q e W base ok v xs) : V d e W base' ok v xs := by
  obtain ⟨A, c, rfl, hl⟩ := Q_slice h
  exact ⟨A, c, rfl, hl, Q_F h⟩
theorem S_V (h : Kd.S d e W base ok v xs) : V d e W base' ok v xs := R_V (S_R h)
theorem N_V (h : N d e W base ok v xs) : V d e W base' ok v xs := by
  obtain ⟨A, c, rfl⟩ := N_slice h
  exact ⟨A, c, rfl, (N_reads' h).2.1, N_F h⟩
theorem V_mono (h : V d e W base ok v xs) (hok : ∀ k, ok k → ok' k) : V d e W base ok' v xs := V_map h (fun _ hf => F_mono hf hok)
theorem V_bound (h : V d e W base ok v xs) : V d e W base (fun k => ok k ∧ k < W.heap.size) v xs := V_map h (fun _ hf => F_bound hf)
theorem V_lower (h : V d e W base ok v xs) (_ : base' ≤ base) : V d e W base' ok v xs := h
theorem V_step (h : V d e W base ok v xs) (hm : ∀ k, ok k → k < W.heap.size → w1.heap[k]? = W.heap[k]?) : V d e w1 base ok v xs := V_map h (fun _ hf => F_step hf hm)
theorem V_below (h : V d e W base ok v xs) (hb : Below W.heap.size W w1) : V d e w1 base ok v xs := V_map h (fun _ hf => F_below hf hb)
theorem V_alloc (h : V d e W base ok v xs) (o : Obj) : V d e (W.alloc o) base ok v xs := V_map h (fun _ hf => F_alloc hf o)
theorem V_drew (h : V d e W base ok v xs) : V d e W.drew base ok v xs := V_map h (fun _ hf => F_drew hf)
theorem V_drewN (h : V d e W base ok v xs) (m : Nat) : V d e (W.drewN m) base ok v xs := V_map h (fun _ hf => F_drewN hf m)
theorem V_grown (h : V d e W base ok v xs) {row : Option Nat} (hg : W.grownBy w1 row) (hok : ∀ k, ok k → some k ≠ row) : V d e w1 base ok v xs := V_map h (fun _ hf => F_grown hf hg hok)
theorem V_far (h : V d e W base ok v xs) {p : Addr} (hok : ∀ k, ok k → k ≠ p.block) (u : Value) : V d e (W.setCell p u) base ok v xs := V_map h (fun _ hf => F_far hf hok u)
theorem V_keep (h : V d e W base ok v xs) (hk : KeepBut W w1 g none) (hok : ∀ k, ok k → k ≠ g) : V d e w1 base ok v xs := V_map h (fun _ hf => F_keep hf hk hok)
theorem V_kept (h : V d e W base ok v xs) (hk : Kept W w1 S) (hok : ∀ k, ok k → ¬ S k) : V d e w1 base ok v xs := V_map h (fun _ hf => F_kept hf hk hok)
theorem V_after (h : V d e W base (fun k => ok k ∧ some k ≠ u.ownBlock) v xs) (hg : W.grownBy w1 u.ownBlock) (hat : v1.ownBlock = u.ownBlock ∨ ∃ b, v1.ownBlock = some b ∧ W.heap.size ≤ b) : V d e w1 base (fun k => ok k ∧ some k ≠ v1.ownBlock) v xs := V_map h (fun _ hf => F_after hf hg hat)
theorem V_afterv (h : V d e W base (fun k => ok k ∧ some k ≠ v.ownBlock) u xs) (hg : W.grownBy w1 v.ownBlock) (hat : v1.ownBlock = v.ownBlock ∨ ∃ b, v1.ownBlock = some b ∧ W.heap.size ≤ b) : V d e w1 base (fun k => ok k ∧ some k ≠ v1.ownBlock) u xs := V_after h hg hat
theorem N_afterv (h : N d e W base (fun k => ok k ∧ some k ≠ v.ownBlock) u xs) (hg : W.grownBy w1 v.ownBlock) (hat : v1.ownBlock = v.ownBlock ∨ ∃ b, v1.ownBlock = some b ∧ W.heap.size ≤ b) : N d e w1 base (fun k => ok k ∧ some k ≠ v1.ownBlock) u xs := N_after h hg hat
theorem V_apart_nil (h : V d e W base ok v xs) : V d e W base (fun k => ok k ∧ some k ≠ (Value.slice none 0 0).ownBlock) v xs := V_map h (fun _ hf => F_apart_nil hf)
theorem V_elder' (h : V d e W base ok v xs) (hbase : ∀ k, u.ownBlock = some k → W.heap.size ≤ k) (hb : Below W.heap.size W w1) : V d e w1 base (fun k => ok k ∧ some k ≠ u.ownBlock) v xs := V_map h (fun _ hf => F_elder' hf hbase hb)
theorem V_elderB (h : V d e W base ok v xs) (a : Nat) (ha : W.heap.size ≤ a) : V d e W base (fun k => ok k ∧ k ≠ a) v xs := V_map h (fun _ hf => F_elderB hf a ha)
theorem V_old (h : V d e W base ok v xs) (hb : Below W.heap.size W w1) : V d e w1 base (fun k => ok k ∧ k < W.heap.size) v xs := V_map h (fun _ hf => F_old hf hb)
theorem V_oldK (h : V d e W base (fun k => ok k ∧ k ≠ g) v xs) (hk : KeepBut W w1 g none) : V d e w1 base (fun k => ok k ∧ k < W.heap.size) v xs := V_map h (fun _ hf => F_oldK hf hk)
theorem V_told (h : V d e w1 base (fun k => ok k ∧ k < N') v xs) (hbase : ∀ k, u.ownBlock = some k → N' ≤ k) : V d e w1 base (fun k => (ok k ∧ some k ≠ u.ownBlock) ∧ k < N') v xs := V_map h (fun _ hf => F_told hf hbase)
theorem V_keptB (h : V d e W base ok v xs) (hk : Kept W w1 S) (hne : ∀ k, ok k → ¬ S k) : V d e w1 base (fun k => ok k ∧ (¬ S k ∧ k < W.heap.size)) v xs :=
  V_kept (V_mono (V_bound h) (fun k hk => ⟨hk.1, hne k hk.1, hk.2⟩)) hk (fun _ hk => hk.2.1)
theorem N_keptB (h : N d e W base ok v xs) (hk : Kept W w1 S) (hne : ∀ k, ok k → ¬ S k) : N d e w1 base (fun k => ok k ∧ (¬ S k ∧ k < W.heap.size)) v xs :=
  N_kept (N_mono (N_bound h) (fun k hk => ⟨hk.1, hne k hk.1, hk.2⟩)) hk (fun _ hk => hk.2.1)
theorem V_get (h : V d e W base ok (.slice (some ad) n c) xs) (z : α) (i : Int) (h0 : 0 ≤ i) (h1 : i < n) :
    ∃ cs, cs.length = d.sz ∧ FK d W ok (xs.getD i.toNat z) cs ∧ ∀ j u, cs[j]? = some u → W.cell? (ad.add (i.toNat * d.sz + j)) = some u := by
  obtain ⟨ad', cs, he, hcl, hK, hcc, _⟩ := F_get (V_F h) z i h0 h1
  injection he with he
  subst he
  exact ⟨cs, hcl, hK, hcc⟩
theorem F_take (h : F d W ok A xs.length xs) (hm : m ≤ xs.length) : F d W ok A (xs.take m).length (xs.take m) := F_imp h (fun _ hC => C_take hC hm)
theorem F_cut (h : F d W ok A xs.length xs) (hm : m ≤ xs.length) (hc : xs.length ≤ c) : F d W ok (if c = m then A else A.map (·.add (m * d.sz))) (xs.drop m).length (xs.drop m) := F_imp h (fun _ hC => C_drop hC hm hc)
theorem F_mid (h : F d W ok A xs.length xs) (h1 : lo ≤ hi) (h2 : hi ≤ xs.length) (hc : xs.length ≤ c) : F d W ok (if c = lo then A else A.map (·.add (lo * d.sz))) ((xs.take hi).drop lo).length ((xs.take hi).drop lo) := F_imp h (fun _ hC => C_mid hC h1 h2 hc)
/-- An element that is itself a row: its one cell. -/
theorem FK_slice_open {l : List α} {cs : List Value} (h : FK (Kd.slice e d) W ok l cs) : ∃ A c, cs = [.slice A l.length c] ∧ l.length ≤ c ∧ F d W ok A l.length l := by
  obtain ⟨A, c, rfl, hl, _⟩ := FK_now h
  refine ⟨A, c, rfl, hl, fun W' hW => ?_⟩
  obtain ⟨A', c', he, _, g'⟩ := h W' hW
  injection he with he _
  injection he with ha _ _
  rw [ha]
  exact g'
theorem FK_slice_mk {l : List α} (hl : l.length ≤ c) (hf : F d W ok A l.length l) : FK (Kd.slice e d) W ok l [.slice A l.length c] := fun W' hW => ⟨A, c, rfl, hl, hf W' hW⟩
theorem foot_int {k : IntKind} {l : List Int} (h : (Kd.int k).C w (some ad) n l) (i : Int) (h0 : 0 ≤ i) (h1 : i < n) : w.cell? (ad.add i.toNat) = some (.int k (rd l i)) := by
  obtain ⟨ad', he, hc⟩ := at_int h i h0 h1
  injection he with he
  subst he
  exact hc
theorem foot_bool {l : List Bool} (h : Kd.bool.C w (some ad) n l) (i : Int) (h0 : 0 ≤ i) (h1 : i < n) : w.cell? (ad.add i.toNat) = some (.bool (rdOf false l i)) := by
  obtain ⟨ad', he, hc⟩ := at_bool h i h0 h1
  injection he with he
  subst he
  exact hc
theorem foot_string {l : List ByteArray} (h : Kd.string.C w (some ad) n l) (i : Int) (h0 : 0 ≤ i) (h1 : i < n) : w.cell? (ad.add i.toNat) = some (.string (rdOf ByteArray.empty l i)) := by
  obtain ⟨ad', he, hc⟩ := at_string h i h0 h1
  injection he with he
  subst he
  exact hc
theorem C_kept_keep {l : List α} (h : ∀ W', Kept w W' S → d.C W' A n l) (hk : Kept w W S) (hg : S g ∨ w.heap.size ≤ g) : ∀ W', KeepBut W W' g none → d.C W' A n l := fun W' k => h W' (hk.of_keep k hg)
theorem C_kept_ownV (h : V d e W base ok (.slice A n c) xs) (hok : ∀ k, ok k → ¬ S k) : ∀ W', Kept W W' S → d.C W' A n xs := fun W' hk => by
  have h2 := V_reads' (V_kept h hk hok)
  rw [h2.1]
  exact h2.2.2
theorem C_foot_ownV (h : V d e W base ok (.slice A n c) xs) (hok : ∀ k, ok k → k ≠ g) : ∀ W', KeepBut W W' g none → d.C W' A n xs := fun W' hk => by
  have h2 := V_reads' (V_keep h hk hok)
  rw [h2.1]
  exact h2.2.2
theorem R_newM {M : Nat → Prop} (h : d.R e w1 W.heap.size ok v xs) (hle : w.heap.size ≤ W.heap.size) (hM : ∀ k, w.heap.size ≤ k → M k) : d.R e w1 W.heap.size (fun k => M k ∧ ok k) v xs := R_mono (R_bound h) (fun k hk => ⟨hM k (Nat.le_trans hle hk.2.1), hk.1⟩)
theorem Q_newM {M : Nat → Prop} (h : d.Q e w1 W.heap.size ok v xs) (hle : w.heap.size ≤ W.heap.size) (hM : ∀ k, w.heap.size ≤ k → M k) : d.Q e w1 W.heap.size (fun k => M k ∧ ok k) v xs := Q_mono (Q_bound h) (fun k hk => ⟨hM k (Nat.le_trans hle hk.2.1), hk.1⟩)
theorem S_newM {M : Nat → Prop} (h : Kd.S d e w1 W.heap.size ok v xs) (hle : w.heap.size ≤ W.heap.size) (hM : ∀ k, w.heap.size ≤ k → M k) : Kd.S d e w1 W.heap.size (fun k => M k ∧ ok k) v xs := S_mono (S_bound h) (fun k hk => ⟨hM k (Nat.le_trans hle hk.2.1), hk.1⟩)
end
end Kd
end Go.Proofs.YtoloooammaiipaaDoorW.PrintWords
-- PRINTED BY print.sh 35421559b90ae4d0a3588c463048766b98c2df88dd9212a6774a882060cdf62d: not written by this session
/-! ### 50. A region's order in a table, made once a region: each step asks the table (numbers alone), not the operations -/
namespace Go.Proofs.YtoloooammaiipaaDoorW.PrintLast
open Go.Proofs.YtoloooammaiipaaDoorW.PrintWords (Aside0)
def needsOf (md : Region.Mode) (o : Oper) : List Nat := (o.after.toList.filter (fun e => Region.binds md e)).map (fun e => e.on)
def clashOf (md : Region.Mode) (ops : Array Oper) (i : Nat) (oi : Oper) : List Nat := (List.range ops.size).filter fun j => !(j == i) && match ops[j]? with
  | some oj => !(oj.after.any (fun e => Region.binds md e && e.on == i) || oi.apart ops oj)
  | none => false
/-- No select in it; for each operation: what must have come up before it, and what may not come up behind it if it is taken first. -/
def rtab (md : Region.Mode) (ops : Array Oper) : Bool × List (List Nat × List Nat) := (Region.noSelect ops, (List.range ops.size).map fun i => match ops[i]? with
  | some o => (needsOf md o, clashOf md ops i o)
  | none => ([], []))
def readyAt (T : List (List Nat × List Nat)) (l : List Bool) (i : Nat) : Bool := !l.getD i true && match T[i]? with
  | some r => r.1.all (fun j => l.getD j false)
  | none => false
def readyT (T : List (List Nat × List Nat)) (l : List Bool) : List Nat := (List.range T.length).filter (readyAt T l)
def freeT (T : List (List Nat × List Nat)) (l : List Bool) (i : Nat) : Bool := match T[i]? with
  | some r => r.2.all (fun j => l.getD j true)
  | none => false
def closedT (T : List (List Nat × List Nat)) (l : List Bool) : Bool := (List.range T.length).all fun j => !l.getD j false || match T[j]? with
  | some r => r.1.all (fun k => l.getD k false)
  | none => true
def reachT (T : List (List Nat × List Nat)) (i : Nat) : Nat → Nat → Bool
  | 0, _ => false
  | fuel + 1, d => match T[d]? with
    | some r => r.1.any fun j => j == i || reachT T i fuel j
    | none => false
def lastT (T : List (List Nat × List Nat)) (l : List Bool) (ds : List Nat) (i : Nat) : Bool := ds.all fun d => l.getD d true || reachT T i T.length d
section
variable {md : Region.Mode} {ops : Array Oper} {T : Bool × List (List Nat × List Nat)} {l l' li lj lk : Array Bool} {ds : List Nat} {i j k : Nat}
theorem gd (l : Array Bool) (j : Nat) (b : Bool) : l.getD j b = l.toList.getD j b := by simp [Array.getD_eq_getD_getElem?, List.getD_eq_getElem?_getD]
theorem needs_all (o : Oper) (p : Nat → Bool) : o.after.all (fun e => !Region.binds md e || p e.on) = (needsOf md o).all p := by
  unfold needsOf
  rw [← Array.all_toList]
  induction o.after.toList with
  | nil => rfl
  | cons e r ih =>
    rw [List.all_cons, ih, List.filter_cons]
    cases h : Region.binds md e <;> simp
theorem needs_any (o : Oper) (p : Nat → Bool) : o.after.any (fun e => Region.binds md e && p e.on) = (needsOf md o).any p := by
  unfold needsOf
  rw [← Array.any_toList]
  induction o.after.toList with
  | nil => rfl
  | cons e r ih =>
    rw [List.any_cons, ih, List.filter_cons]
    cases h : Region.binds md e <;> simp
theorem rtab_length : (rtab md ops).2.length = ops.size := by simp [rtab]
theorem rtab_some {o : Oper} (h : ops[i]? = some o) : (rtab md ops).2[i]? = some (needsOf md o, clashOf md ops i o) := by
  have hi := (Array.getElem?_eq_some_iff.1 h).1
  unfold rtab
  rw [List.getElem?_map, List.getElem?_range hi, Option.map_some, h]
theorem rtab_none (h : ops[i]? = none) : (rtab md ops).2[i]? = none := by
  have hi : ops.size ≤ i := Array.getElem?_eq_none_iff.1 h
  exact List.getElem?_eq_none (by rw [rtab_length]; exact hi)
theorem readyAt_eq : readyAt (rtab md ops).2 l.toList i = (!l.getD i true && ((ops[i]?).map (·.after.all fun e => !Region.binds md e || l.getD e.on false)).getD false) := by
  unfold readyAt
  rw [gd]
  cases h : ops[i]? with
  | none => rw [rtab_none h]; rfl
  | some o =>
    rw [rtab_some h]
    simp only [Option.map_some, Option.getD_some]
    rw [← needs_all]
    simp only [gd]
theorem ready_eq : Region.ready md ops l = readyT (rtab md ops).2 l.toList := by
  unfold Region.ready readyT
  rw [rtab_length]
  refine List.filter_congr (fun i _ => ?_)
  rw [readyAt_eq]
theorem free_eq : Region.free md ops l i = freeT (rtab md ops).2 l.toList i := by
  unfold Region.free freeT
  cases h : ops[i]? with
  | none => rw [rtab_none h]
  | some oi =>
    rw [rtab_some h]
    simp only [clashOf]
    rw [List.all_filter]
    congr 1
    funext j
    rw [gd]
    cases hj : ops[j]? with
    | none => cases (j == i) <;> cases (l.toList.getD j true) <;> simp
    | some oj =>
      cases (j == i) <;> cases (l.toList.getD j true) <;> cases (oj.after.any (fun e => Region.binds md e && e.on == i) || oi.apart ops oj) <;> simp_all
theorem closed_eq : Region.closedB md ops l = closedT (rtab md ops).2 l.toList := by
  unfold Region.closedB closedT
  rw [rtab_length]
  congr 1
  funext j
  rw [gd]
  cases h : ops[j]? with
  | none => rw [rtab_none h]
  | some o =>
    rw [rtab_some h]
    simp only
    rw [← needs_all]
    simp only [gd]
theorem reach_eq : ∀ (fuel d : Nat), Region.reachB md ops i fuel d = reachT (rtab md ops).2 i fuel d
  | 0, _ => rfl
  | fuel + 1, d => by
    unfold Region.reachB reachT
    cases h : ops[d]? with
    | none => rw [rtab_none h]
    | some o =>
      rw [rtab_some h]
      simp only
      rw [← needs_any]
      congr 1
      funext e
      rw [reach_eq fuel]
theorem last_eq : Region.lastB md ops l ds i = lastT (rtab md ops).2 l.toList ds i := by
  unfold Region.lastB lastT
  rw [rtab_length]
  congr 1
  funext d
  rw [gd, reach_eq]
theorem readyAt_mem (h : readyAt T.2 l.toList i = true) (hT : rtab md ops = T) : (Region.ready md ops l).contains i = true := by
  subst hT
  rw [ready_eq]
  unfold readyT
  rw [List.contains_iff_mem, List.mem_filter, List.mem_range]
  refine ⟨?_, h⟩
  unfold readyAt at h
  rw [Bool.and_eq_true] at h
  cases hq : (rtab md ops).2[i]? with
  | none => rw [hq] at h; simp at h
  | some r => exact (List.getElem?_eq_some_iff.1 hq).1
theorem set_of (h : (l.toList.set i true == l'.toList) = true) : (l.setIfInBounds i true == l') = true := by
  rw [beq_iff_eq] at h ⊢
  apply Array.ext'
  rw [Array.toList_setIfInBounds]
  exact h
def anyT (T : Bool × List (List Nat × List Nat)) (l l' : List Bool) (i : Nat) : Bool := T.1 && freeT T.2 l i && readyAt T.2 l i && (l.set i true == l')
/-- pure_'s condition out of the table. -/
theorem any_of (hT : rtab md ops = T) (h : anyT T l.toList l'.toList i = true) : anyB md ops l l' i = true := by
  simp only [anyT, Bool.and_eq_true] at h
  obtain ⟨⟨⟨h1, h2⟩, h3⟩, h4⟩ := h
  have h5 := readyAt_mem h3 hT
  have h6 := set_of h4
  subst hT
  simp only [anyB, Bool.and_eq_true]
  exact ⟨⟨⟨h1, by rw [free_eq]; exact h2⟩, h5⟩, h6⟩
def takeT (T : Bool × List (List Nat × List Nat)) (ds : List Nat) (l l' : List Bool) (i : Nat) : Bool := T.1 && freeT T.2 l i && readyAt T.2 l i && closedT T.2 l && lastT T.2 l ds i && (l.set i true == l')
/-- take_'s. -/
theorem take_of (hT : rtab md ops = T) (h : takeT T ds l.toList l'.toList i = true) : takeB md ops ds l l' i = true := by
  simp only [takeT, Bool.and_eq_true] at h
  obtain ⟨⟨⟨⟨⟨h1, h2⟩, h3⟩, h4⟩, h5⟩, h6⟩ := h
  have h7 := readyAt_mem h3 hT
  have h8 := set_of h6
  subst hT
  simp only [takeB, Bool.and_eq_true]
  exact ⟨⟨⟨⟨⟨h1, by rw [free_eq]; exact h2⟩, h7⟩, by rw [closed_eq]; exact h4⟩, by rw [last_eq]; exact h5⟩, h8⟩
/-- one_'s and last_'s. -/
theorem one_of (hT : rtab md ops = T) (h : (readyT T.2 l.toList == [i] && l.toList.set i true == l'.toList) = true) : readyB md ops l l' i = true := by
  simp only [Bool.and_eq_true] at h
  obtain ⟨h1, h2⟩ := h
  subst hT
  simp only [readyB, Bool.and_eq_true]
  exact ⟨by rw [ready_eq]; exact h1, set_of h2⟩
theorem two_of (hT : rtab md ops = T) (h : (readyT T.2 l.toList == [i, j] && l.toList.set i true == li.toList && l.toList.set j true == lj.toList) = true) : (Region.ready md ops l == [i, j] && l.setIfInBounds i true == li && l.setIfInBounds j true == lj) = true := by
  simp only [Bool.and_eq_true] at h ⊢
  obtain ⟨⟨h1, h2⟩, h3⟩ := h
  subst hT
  exact ⟨⟨by rw [ready_eq]; exact h1, set_of h2⟩, set_of h3⟩
theorem three_of (hT : rtab md ops = T) (h : (readyT T.2 l.toList == [i, j, k] && l.toList.set i true == li.toList && l.toList.set j true == lj.toList && l.toList.set k true == lk.toList) = true) :
    (Region.ready md ops l == [i, j, k] && l.setIfInBounds i true == li && l.setIfInBounds j true == lj && l.setIfInBounds k true == lk) = true := by
  simp only [Bool.and_eq_true] at h ⊢
  obtain ⟨⟨⟨h1, h2⟩, h3⟩, h4⟩ := h
  subst hT
  exact ⟨⟨⟨by rw [ready_eq]; exact h1, set_of h2⟩, set_of h3⟩, set_of h4⟩
/-- done_'s. -/
theorem done_of (hT : rtab md ops = T) (h : (readyT T.2 l.toList == []) = true) : (Region.ready md ops l == []) = true := by
  subst hT
  rw [ready_eq]
  exact h
/-- What d waits for, as_ bits: told in the table (B), checked in one pass: each bit is a need of d, or a bit of an earlier need's. -/
def upM (B : List Nat) (d : Nat) : List Nat → Nat
  | [] => 0
  | n :: r => (2 ^ n ||| (if n < d then B.getD n 0 else 0)) ||| upM B d r
def waitsOk (T : List (List Nat × List Nat)) (B : List Nat) : Bool := (List.range T.length).all fun d => match T[d]? with
  | some r => (B.getD d 0 ||| upM B d r.1) == upM B d r.1
  | none => false
theorem upM_bit {B : List Nat} {d i : Nat} : ∀ {ns : List Nat}, (upM B d ns).testBit i = true → ∃ n ∈ ns, n = i ∨ (n < d ∧ (B.getD n 0).testBit i = true)
  | [], h => by simp [upM] at h
  | n :: r, h => by
    unfold upM at h
    rw [Nat.testBit_or, Nat.testBit_or, Bool.or_eq_true, Bool.or_eq_true] at h
    rcases h with (h | h) | h
    · rw [Nat.testBit_two_pow] at h
      exact ⟨n, List.mem_cons_self, .inl (by simpa using h)⟩
    · by_cases hn : n < d
      · rw [if_pos hn] at h
        exact ⟨n, List.mem_cons_self, .inr ⟨hn, h⟩⟩
      · rw [if_neg hn] at h
        simp at h
    · obtain ⟨m, hm, h2⟩ := upM_bit h
      exact ⟨m, List.mem_cons_of_mem _ hm, h2⟩
theorem reach_bit {T : List (List Nat × List Nat)} {B : List Nat} (hB : waitsOk T B = true) : ∀ (fuel d : Nat), d < fuel → d < T.length → (B.getD d 0).testBit i = true → reachT T i fuel d = true
  | 0, d, h, _, _ => by omega
  | fuel + 1, d, h, hd, hb => by
    have h1 := List.all_eq_true.1 hB d (List.mem_range.2 hd)
    cases hr : T[d]? with
    | none => rw [hr] at h1; simp at h1
    | some r =>
      rw [hr] at h1
      simp only [beq_iff_eq] at h1
      have h2 : (upM B d r.1).testBit i = true := by rw [← h1, Nat.testBit_or, hb, Bool.true_or]
      obtain ⟨n, hn, h3⟩ := upM_bit h2
      unfold reachT
      rw [hr]
      simp only
      rw [List.any_eq_true]
      refine ⟨n, hn, ?_⟩
      rcases h3 with rfl | ⟨h4, h5⟩
      · simp
      · rw [reach_bit hB fuel n (by omega) (by omega) h5, Bool.or_true]
def lastW (T : List (List Nat × List Nat)) (B : List Nat) (l : List Bool) (ds : List Nat) (i : Nat) : Bool := ds.all fun d => l.getD d true || (decide (d < T.length) && (B.getD d 0).testBit i)
def takeW (T : Bool × List (List Nat × List Nat)) (B : List Nat) (ds : List Nat) (l l' : List Bool) (i : Nat) : Bool := T.1 && freeT T.2 l i && readyAt T.2 l i && closedT T.2 l && lastW T.2 B l ds i && (l.set i true == l')
/-- take_'s, by the bits. -/
theorem take_ofW {B : List Nat} (hT : rtab md ops = T) (hB : waitsOk T.2 B = true) (h : takeW T B ds l.toList l'.toList i = true) : takeB md ops ds l l' i = true := by
  refine take_of hT ?_
  simp only [takeW, takeT, Bool.and_eq_true] at h ⊢
  obtain ⟨⟨⟨⟨⟨h1, h2⟩, h3⟩, h4⟩, h5⟩, h6⟩ := h
  refine ⟨⟨⟨⟨⟨h1, h2⟩, h3⟩, h4⟩, ?_⟩, h6⟩
  unfold lastW at h5
  unfold lastT
  rw [List.all_eq_true] at h5 ⊢
  intro d hd
  have h7 := h5 d hd
  rw [Bool.or_eq_true, Bool.and_eq_true, decide_eq_true_eq] at h7
  rcases h7 with h7 | ⟨h8, h9⟩
  · rw [h7, Bool.true_or]
  · rw [reach_bit hB _ d h8 h8 h9, Bool.or_true]
theorem with_tabW {P : Program} {Q : Exit → Act → World → Prop} {S : World → Prop} {n : Nat} {a : Act} {w : World} {B : List Nat} (hT : rtab md ops = T) (hB : waitsOk T.2 B = true) (h : Aside0 (rtab md ops = T) → Aside0 (waitsOk T.2 B = true) → wpAnyLast P md ops Q S ds n l a w) : wpAnyLast P md ops Q S ds n l a w := h ⟨hT⟩ ⟨hB⟩
theorem with_tab {P : Program} {Q : Exit → Act → World → Prop} {S : World → Prop} {n : Nat} {a : Act} {w : World} (hT : rtab md ops = T) (h : Aside0 (rtab md ops = T) → wpAnyLast P md ops Q S ds n l a w) : wpAnyLast P md ops Q S ds n l a w := h ⟨hT⟩
end
/-- The operations of a region, by its number. -/
def opsIn : Code → Nat → Option (Array Oper)
  | .region id ops _, k => if id == k then some ops else none
  | .seq a b, k => match opsIn a k with
    | some o => some o
    | none => opsIn b k
  | .cond _ a b, k => match opsIn a k with
    | some o => some o
    | none => opsIn b k
  | .block _ c, k => opsIn c k
  | .loop c, k => opsIn c k
  | .scope c, k => opsIn c k
  | .rangeFunc _ _ a b, k => match opsIn a k with
    | some o => some o
    | none => opsIn b k
  | _, _ => none
def opsOf (f : Func) (k : Nat) : Array Oper := ((f.body.bind fun c => opsIn c k)).getD #[]
end Go.Proofs.YtoloooammaiipaaDoorW.PrintLast
-- PRINTED BY print.sh 35421559b90ae4d0a3588c463048766b98c2df88dd9212a6774a882060cdf62d: not written by this session
/-! ### 56. Four, five, six operations that may come up next, in any order -/
namespace Go.Proofs.YtoloooammaiipaaDoorW.PrintLast
section
variable {P : Program} {ops : Array Oper} {Q : Exit → Act → World → Prop} {md : Region.Mode} {S : World → Prop} {ds : List Nat} {T : Bool × List (List Nat × List Nat)}
theorem four_ {i j k m : Nat} {Ni Nj Nk Nm : Option Tmp} {oi oj ok om : Oper} {fuel : Nat} {l : Array Bool} {a : Act} {w : World} (li lj lk lm : Array Bool) (hi : ops[i]? = some oi) (hj : ops[j]? = some oj) (hk : ops[k]? = some ok) (hm : ops[m]? = some om) (hNi : oi.dst = Ni) (hNj : oj.dst = Nj) (hNk : ok.dst = Nk) (hNm : om.dst = Nm)
    (hc : (Region.ready md ops l == [i, j, k, m] && l.setIfInBounds i true == li && l.setIfInBounds j true == lj && l.setIfInBounds k true == lk && l.setIfInBounds m true == lm) = true) (hdi : i ∉ ds) (hdj : j ∉ ds) (hdk : k ∉ ds) (hdm : m ∉ ds)
    (hhi : ∀ K : Act → World → Prop, Shut (∀ a' w', S w' → (S w' → wpAnyLast P md ops Q S ds fuel li a' w') → K a' w') → if Region.wanted oi (yielded ops a.tmps) = true then Oper.wp P oi a w K Q else K (a.put Ni undef) w)
    (hhj : ∀ K : Act → World → Prop, Shut (∀ a' w', S w' → (S w' → wpAnyLast P md ops Q S ds fuel lj a' w') → K a' w') → if Region.wanted oj (yielded ops a.tmps) = true then Oper.wp P oj a w K Q else K (a.put Nj undef) w)
    (hhk : ∀ K : Act → World → Prop, Shut (∀ a' w', S w' → (S w' → wpAnyLast P md ops Q S ds fuel lk a' w') → K a' w') → if Region.wanted ok (yielded ops a.tmps) = true then Oper.wp P ok a w K Q else K (a.put Nk undef) w)
    (hhm : ∀ K : Act → World → Prop, Shut (∀ a' w', S w' → (S w' → wpAnyLast P md ops Q S ds fuel lm a' w') → K a' w') → if Region.wanted om (yielded ops a.tmps) = true then Oper.wp P om a w K Q else K (a.put Nm undef) w) :
    wpAnyLast P md ops Q S ds (fuel + 1) l a w := by
  subst hNi
  subst hNj
  subst hNk
  subst hNm
  simp only [Bool.and_eq_true, beq_iff_eq] at hc
  obtain ⟨⟨⟨⟨hr, hsi⟩, hsj⟩, hsk⟩, hsm⟩ := hc
  subst hsi
  subst hsj
  subst hsk
  subst hsm
  exact wpAnyLast_ready hr (by simp) (AllReadyL.cons hi hdi (fun K hK => hhi K hK) (AllReadyL.cons hj hdj (fun K hK => hhj K hK) (AllReadyL.cons hk hdk (fun K hK => hhk K hK) (AllReadyL.cons hm hdm (fun K hK => hhm K hK) AllReadyL.nil))))
theorem four_of {i j k m : Nat} {l li lj lk lm : Array Bool} (hT : rtab md ops = T) (h : (readyT T.2 l.toList == [i, j, k, m] && l.toList.set i true == li.toList && l.toList.set j true == lj.toList && l.toList.set k true == lk.toList && l.toList.set m true == lm.toList) = true) : (Region.ready md ops l == [i, j, k, m] && l.setIfInBounds i true == li && l.setIfInBounds j true == lj && l.setIfInBounds k true == lk && l.setIfInBounds m true == lm) = true := by
  simp only [Bool.and_eq_true] at h ⊢
  obtain ⟨⟨⟨⟨hr, hsi⟩, hsj⟩, hsk⟩, hsm⟩ := h
  subst hT
  exact ⟨⟨⟨⟨by rw [ready_eq]; exact hr, set_of hsi⟩, set_of hsj⟩, set_of hsk⟩, set_of hsm⟩
theorem five_ {i j k m n : Nat} {Ni Nj Nk Nm Nn : Option Tmp} {oi oj ok om on : Oper} {fuel : Nat} {l : Array Bool} {a : Act} {w : World} (li lj lk lm ln : Array Bool) (hi : ops[i]? = some oi) (hj : ops[j]? = some oj) (hk : ops[k]? = some ok) (hm : ops[m]? = some om) (hn : ops[n]? = some on) (hNi : oi.dst = Ni) (hNj : oj.dst = Nj) (hNk : ok.dst = Nk) (hNm : om.dst = Nm) (hNn : on.dst = Nn)
    (hc : (Region.ready md ops l == [i, j, k, m, n] && l.setIfInBounds i true == li && l.setIfInBounds j true == lj && l.setIfInBounds k true == lk && l.setIfInBounds m true == lm && l.setIfInBounds n true == ln) = true) (hdi : i ∉ ds) (hdj : j ∉ ds) (hdk : k ∉ ds) (hdm : m ∉ ds) (hdn : n ∉ ds)
    (hhi : ∀ K : Act → World → Prop, Shut (∀ a' w', S w' → (S w' → wpAnyLast P md ops Q S ds fuel li a' w') → K a' w') → if Region.wanted oi (yielded ops a.tmps) = true then Oper.wp P oi a w K Q else K (a.put Ni undef) w)
    (hhj : ∀ K : Act → World → Prop, Shut (∀ a' w', S w' → (S w' → wpAnyLast P md ops Q S ds fuel lj a' w') → K a' w') → if Region.wanted oj (yielded ops a.tmps) = true then Oper.wp P oj a w K Q else K (a.put Nj undef) w)
    (hhk : ∀ K : Act → World → Prop, Shut (∀ a' w', S w' → (S w' → wpAnyLast P md ops Q S ds fuel lk a' w') → K a' w') → if Region.wanted ok (yielded ops a.tmps) = true then Oper.wp P ok a w K Q else K (a.put Nk undef) w)
    (hhm : ∀ K : Act → World → Prop, Shut (∀ a' w', S w' → (S w' → wpAnyLast P md ops Q S ds fuel lm a' w') → K a' w') → if Region.wanted om (yielded ops a.tmps) = true then Oper.wp P om a w K Q else K (a.put Nm undef) w)
    (hhn : ∀ K : Act → World → Prop, Shut (∀ a' w', S w' → (S w' → wpAnyLast P md ops Q S ds fuel ln a' w') → K a' w') → if Region.wanted on (yielded ops a.tmps) = true then Oper.wp P on a w K Q else K (a.put Nn undef) w) :
    wpAnyLast P md ops Q S ds (fuel + 1) l a w := by
  subst hNi
  subst hNj
  subst hNk
  subst hNm
  subst hNn
  simp only [Bool.and_eq_true, beq_iff_eq] at hc
  obtain ⟨⟨⟨⟨⟨hr, hsi⟩, hsj⟩, hsk⟩, hsm⟩, hsn⟩ := hc
  subst hsi
  subst hsj
  subst hsk
  subst hsm
  subst hsn
  exact wpAnyLast_ready hr (by simp) (AllReadyL.cons hi hdi (fun K hK => hhi K hK) (AllReadyL.cons hj hdj (fun K hK => hhj K hK) (AllReadyL.cons hk hdk (fun K hK => hhk K hK) (AllReadyL.cons hm hdm (fun K hK => hhm K hK) (AllReadyL.cons hn hdn (fun K hK => hhn K hK) AllReadyL.nil)))))
theorem five_of {i j k m n : Nat} {l li lj lk lm ln : Array Bool} (hT : rtab md ops = T) (h : (readyT T.2 l.toList == [i, j, k, m, n] && l.toList.set i true == li.toList && l.toList.set j true == lj.toList && l.toList.set k true == lk.toList && l.toList.set m true == lm.toList && l.toList.set n true == ln.toList) = true) : (Region.ready md ops l == [i, j, k, m, n] && l.setIfInBounds i true == li && l.setIfInBounds j true == lj && l.setIfInBounds k true == lk && l.setIfInBounds m true == lm && l.setIfInBounds n true == ln) = true := by
  simp only [Bool.and_eq_true] at h ⊢
  obtain ⟨⟨⟨⟨⟨hr, hsi⟩, hsj⟩, hsk⟩, hsm⟩, hsn⟩ := h
  subst hT
  exact ⟨⟨⟨⟨⟨by rw [ready_eq]; exact hr, set_of hsi⟩, set_of hsj⟩, set_of hsk⟩, set_of hsm⟩, set_of hsn⟩
theorem six_ {i j k m n q : Nat} {Ni Nj Nk Nm Nn Nq : Option Tmp} {oi oj ok om on oq : Oper} {fuel : Nat} {l : Array Bool} {a : Act} {w : World} (li lj lk lm ln lq : Array Bool) (hi : ops[i]? = some oi) (hj : ops[j]? = some oj) (hk : ops[k]? = some ok) (hm : ops[m]? = some om) (hn : ops[n]? = some on) (hq : ops[q]? = some oq) (hNi : oi.dst = Ni) (hNj : oj.dst = Nj) (hNk : ok.dst = Nk) (hNm : om.dst = Nm) (hNn : on.dst = Nn) (hNq : oq.dst = Nq)
    (hc : (Region.ready md ops l == [i, j, k, m, n, q] && l.setIfInBounds i true == li && l.setIfInBounds j true == lj && l.setIfInBounds k true == lk && l.setIfInBounds m true == lm && l.setIfInBounds n true == ln && l.setIfInBounds q true == lq) = true) (hdi : i ∉ ds) (hdj : j ∉ ds) (hdk : k ∉ ds) (hdm : m ∉ ds) (hdn : n ∉ ds) (hdq : q ∉ ds)
    (hhi : ∀ K : Act → World → Prop, Shut (∀ a' w', S w' → (S w' → wpAnyLast P md ops Q S ds fuel li a' w') → K a' w') → if Region.wanted oi (yielded ops a.tmps) = true then Oper.wp P oi a w K Q else K (a.put Ni undef) w)
    (hhj : ∀ K : Act → World → Prop, Shut (∀ a' w', S w' → (S w' → wpAnyLast P md ops Q S ds fuel lj a' w') → K a' w') → if Region.wanted oj (yielded ops a.tmps) = true then Oper.wp P oj a w K Q else K (a.put Nj undef) w)
    (hhk : ∀ K : Act → World → Prop, Shut (∀ a' w', S w' → (S w' → wpAnyLast P md ops Q S ds fuel lk a' w') → K a' w') → if Region.wanted ok (yielded ops a.tmps) = true then Oper.wp P ok a w K Q else K (a.put Nk undef) w)
    (hhm : ∀ K : Act → World → Prop, Shut (∀ a' w', S w' → (S w' → wpAnyLast P md ops Q S ds fuel lm a' w') → K a' w') → if Region.wanted om (yielded ops a.tmps) = true then Oper.wp P om a w K Q else K (a.put Nm undef) w)
    (hhn : ∀ K : Act → World → Prop, Shut (∀ a' w', S w' → (S w' → wpAnyLast P md ops Q S ds fuel ln a' w') → K a' w') → if Region.wanted on (yielded ops a.tmps) = true then Oper.wp P on a w K Q else K (a.put Nn undef) w)
    (hhq : ∀ K : Act → World → Prop, Shut (∀ a' w', S w' → (S w' → wpAnyLast P md ops Q S ds fuel lq a' w') → K a' w') → if Region.wanted oq (yielded ops a.tmps) = true then Oper.wp P oq a w K Q else K (a.put Nq undef) w) :
    wpAnyLast P md ops Q S ds (fuel + 1) l a w := by
  subst hNi
  subst hNj
  subst hNk
  subst hNm
  subst hNn
  subst hNq
  simp only [Bool.and_eq_true, beq_iff_eq] at hc
  obtain ⟨⟨⟨⟨⟨⟨hr, hsi⟩, hsj⟩, hsk⟩, hsm⟩, hsn⟩, hsq⟩ := hc
  subst hsi
  subst hsj
  subst hsk
  subst hsm
  subst hsn
  subst hsq
  exact wpAnyLast_ready hr (by simp) (AllReadyL.cons hi hdi (fun K hK => hhi K hK) (AllReadyL.cons hj hdj (fun K hK => hhj K hK) (AllReadyL.cons hk hdk (fun K hK => hhk K hK) (AllReadyL.cons hm hdm (fun K hK => hhm K hK) (AllReadyL.cons hn hdn (fun K hK => hhn K hK) (AllReadyL.cons hq hdq (fun K hK => hhq K hK) AllReadyL.nil))))))
theorem six_of {i j k m n q : Nat} {l li lj lk lm ln lq : Array Bool} (hT : rtab md ops = T) (h : (readyT T.2 l.toList == [i, j, k, m, n, q] && l.toList.set i true == li.toList && l.toList.set j true == lj.toList && l.toList.set k true == lk.toList && l.toList.set m true == lm.toList && l.toList.set n true == ln.toList && l.toList.set q true == lq.toList) = true) : (Region.ready md ops l == [i, j, k, m, n, q] && l.setIfInBounds i true == li && l.setIfInBounds j true == lj && l.setIfInBounds k true == lk && l.setIfInBounds m true == lm && l.setIfInBounds n true == ln && l.setIfInBounds q true == lq) = true := by
  simp only [Bool.and_eq_true] at h ⊢
  obtain ⟨⟨⟨⟨⟨⟨hr, hsi⟩, hsj⟩, hsk⟩, hsm⟩, hsn⟩, hsq⟩ := h
  subst hT
  exact ⟨⟨⟨⟨⟨⟨by rw [ready_eq]; exact hr, set_of hsi⟩, set_of hsj⟩, set_of hsk⟩, set_of hsm⟩, set_of hsn⟩, set_of hsq⟩
end
end Go.Proofs.YtoloooammaiipaaDoorW.PrintLast
-- PRINTED BY print.sh 35421559b90ae4d0a3588c463048766b98c2df88dd9212a6774a882060cdf62d: not written by this session
/-! ### 52. A row that stays read whatever happens to a block (a set of blocks) doesn't lie there -/
namespace Go.Proofs.YtoloooammaiipaaDoorW.PrintWords
open Go.RowKit
namespace Kd
/-- A block is emptied, all else stands. -/
theorem emptied_at (W : World) (g : Nat) : ∃ W' : World, W'.heap.size = W.heap.size ∧ (∀ k, k ≠ g → W'.heap[k]? = W.heap[k]?) ∧ ∀ a : Addr, a.block = g → W'.cell? a = none := by
  refine ⟨{ W with heap := W.heap.setIfInBounds g (.cells #[] 0) }, by simp, fun k hk => by simp [Ne.symm hk], fun a ha => ?_⟩
  subst ha
  by_cases hlt : a.block < W.heap.size
  · simp [World.cell?, hlt]
  · simp [World.cell?, hlt]
section
variable {α : Type} {d : Kd α} {W : World} {g n : Nat} {S ok : Nat → Prop} {A : Option Addr} {ad : Addr} {xs : List α}
theorem C_not_empty (h : d.C W (some ad) n xs) (hn : 0 < n) (hs : 0 < d.sz) : W.cell? ad ≠ none := by
  obtain ⟨ad', he, hc⟩ := h.2.2 hn
  injection he with he
  subst he
  obtain ⟨c, hcl, _, hcell⟩ := hc 0 _ (List.getElem?_eq_getElem (by rw [h.1]; exact hn))
  have h1 := hcell 0 _ (List.getElem?_eq_getElem (by omega))
  rw [Nat.zero_mul, Nat.zero_add, Addr.add_zero'] at h1
  rw [h1]
  exact Option.some_ne_none _
/-- Beside a state: the row is none of the state's block. -/
theorem foot_ne (h : ∀ W', KeepBut W W' g none → d.C W' (some ad) n xs) (hn : 0 < n) (hs : 0 < d.sz) : ad.block ≠ g := by
  intro he
  obtain ⟨W', h1, h2, h3⟩ := emptied_at W g
  exact C_not_empty (h W' ⟨Nat.le_of_eq h1.symm, fun i _ hi _ => h2 i hi⟩) hn hs (h3 ad he)
/-- Beside rows that are written: none of theirs. -/
theorem foot_neS (h : ∀ W', Kept W W' S → d.C W' (some ad) n xs) (hn : 0 < n) (hs : 0 < d.sz) : ¬ S ad.block := by
  intro he
  obtain ⟨W', h1, h2, h3⟩ := emptied_at W ad.block
  exact C_not_empty (h W' ⟨Nat.le_of_eq h1.symm, fun i _ hi => h2 i (fun e => hi (e ▸ he))⟩) hn hs (h3 ad rfl)
/-- It lies in a block that stands. -/
theorem C_lt (h : d.C W (some ad) n xs) (hn : 0 < n) (hs : 0 < d.sz) : ad.block < W.heap.size := by
  cases hc : W.cell? ad with
  | none => exact absurd hc (C_not_empty h hn hs)
  | some v => exact World.block_lt_of_cell? W ad hc
theorem foot_lt (h : ∀ W', KeepBut W W' g none → d.C W' (some ad) n xs) (hn : 0 < n) (hs : 0 < d.sz) : ad.block < W.heap.size := C_lt (h W (KeepBut.refl W g none)) hn hs
theorem foot_ltS (h : ∀ W', Kept W W' S → d.C W' (some ad) n xs) (hn : 0 < n) (hs : 0 < d.sz) : ad.block < W.heap.size := C_lt (h W (Kept.refl W S)) hn hs
/-- What is read with its footprint lies in it. -/
theorem F_in (h : F d W ok A n xs) {ad : Addr} (hA : A = some ad) (hn : 0 < n) (hs : 0 < d.sz) : ok ad.block := by
  subst hA
  have hl := F_len h
  cases xs with
  | nil => simp at hl; omega
  | cons x r =>
    obtain ⟨ad', c, he, _, _, _, hin⟩ := F_get h x 0 (by omega) (by omega)
    injection he with he
    subst he
    exact hin hs
end
end Kd
end Go.Proofs.YtoloooammaiipaaDoorW.PrintWords
-- PRINTED BY print.sh 35421559b90ae4d0a3588c463048766b98c2df88dd9212a6774a882060cdf62d: not written by this session
/-! ### 54. Behind orders that were drawn quietly: the same facts at the world's new name; a flat row's foot -/
namespace Go.Proofs.YtoloooammaiipaaDoorW.PrintWords
open Go.RowKit
section
variable {w w' u : World} {m B g : Nat} {o : Obj} {row : Option Nat} {S : Nat → Prop} {a : Addr} {v : Value}
theorem below_at (hq : w.drewN m = w') (h : Below B u w) : Below B u w' := by subst hq; exact pw_below_drewN h m
theorem keep_at (hq : w.drewN m = w') (h : KeepBut u w g row) : KeepBut u w' g row := by subst hq; exact keep_drewN h m
theorem kept_at (hq : w.drewN m = w') (h : Kept u w S) : Kept u w' S := by subst hq; exact Kept.drewN h m
theorem moved_at (hq : w.drewN m = w') (h : u.heap.size ≤ w.heap.size) : u.heap.size ≤ w'.heap.size := by subst hq; exact h
theorem blk_at (hq : w.drewN m = w') (h : w.heap[g]? = some o) : w'.heap[g]? = some o := by subst hq; exact h
theorem cell_at (hq : w.drewN m = w') (h : w.cell? a = some v) : w'.cell? a = some v := by subst hq; exact h
end
namespace Kd
section
variable {α : Type} {d : Kd α} {e base n m : Nat} {ok : Nat → Prop} {w w' : World} {v : Value} {A : Option Addr} {xs : List α}
theorem R_at (hq : w.drewN m = w') (h : d.R e w base ok v xs) : d.R e w' base ok v xs := by subst hq; exact R_drewN h m
theorem Q_at (hq : w.drewN m = w') (h : d.Q e w base ok v xs) : d.Q e w' base ok v xs := by subst hq; exact Q_drewN h m
theorem S_at (hq : w.drewN m = w') (h : Kd.S d e w base ok v xs) : Kd.S d e w' base ok v xs := by subst hq; exact S_drewN h m
theorem N_at (hq : w.drewN m = w') (h : N d e w base ok v xs) : N d e w' base ok v xs := by subst hq; exact N_drewN h m
theorem C_at (hq : w.drewN m = w') (h : d.C w A n xs) : d.C w' A n xs := by subst hq; exact C_drewN h m
theorem F_at (hq : w.drewN m = w') (h : F d w ok A n xs) : F d w' ok A n xs := by subst hq; exact F_drewN h m
/-- A flat row (its elements are told by no world) that lies elsewhere than the state's block stays read whatever happens to that block. hd: 'fun h => h' for whole numbers, bools, strings and structs of such. -/
theorem C_foot_ne {g : Nat} (hd : ∀ {W W' : World} {x : α} {cs : List Value}, d.K W x cs → d.K W' x cs) (h : d.C w A n xs) (hf : ∀ ad, A = some ad → 0 < n → ad.block ≠ g) : ∀ W', KeepBut w W' g none → d.C W' A n xs := by
  intro W' hk
  refine ⟨h.1, h.2.1, fun hn => ?_⟩
  obtain ⟨ad, he, hc⟩ := h.2.2 hn
  refine ⟨ad, he, fun j p hj => ?_⟩
  obtain ⟨cs, h1, h2, h3⟩ := hc j p hj
  exact ⟨cs, h1, hd h2, fun i u hu => keep_cell hk (h3 i u hu) (by rw [add_block]; exact hf ad he hn)⟩
/-- The same beside rows that are written. -/
theorem C_foot_neS {S : Nat → Prop} (hd : ∀ {W W' : World} {x : α} {cs : List Value}, d.K W x cs → d.K W' x cs) (h : d.C w A n xs) (hf : ∀ ad, A = some ad → 0 < n → ¬ S ad.block) : ∀ W', Kept w W' S → d.C W' A n xs := by
  intro W' hk
  refine ⟨h.1, h.2.1, fun hn => ?_⟩
  obtain ⟨ad, he, hc⟩ := h.2.2 hn
  refine ⟨ad, he, fun j p hj => ?_⟩
  obtain ⟨cs, h1, h2, h3⟩ := hc j p hj
  exact ⟨cs, h1, hd h2, fun i u hu => cell_kept (h3 i u hu) hk (by rw [add_block]; exact hf ad he hn)⟩
end
end Kd
end Go.Proofs.YtoloooammaiipaaDoorW.PrintWords
-- PRINTED BY print.sh 35421559b90ae4d0a3588c463048766b98c2df88dd9212a6774a882060cdf62d: not written by this session
/-! ### 53. '==' of structs as_ one Bool -/
namespace Go.Proofs.YtoloooammaiipaaDoorW.PrintWords
open Go.RowKit
section
variable {P : Program} {d : Nat} {xs ys : Array Value} {f : Field} {fs : List Field} {a b : Value} {r s : Bool} {w : World}
/-- The last field that counts. -/
theorem eqf_last (hn : (f.name == "_") = false) (ha : (part f.type xs f.offset).run P w = .ok a w) (hb : (part f.type ys f.offset).run P w = .ok b w) (he : (Op.equalIn d f.type a b).run P w = .ok r w) : (Op.eqFields d xs ys [f]).run P w = .ok r w := by
  have hn' : f.name ≠ "_" := by simpa using hn
  simp only [Op.eqFields, if_pos hn', Sem.run_bind, ha, hb, he, Result.andThen_ok]
  cases r <;> simp
theorem eqf_cons (hn : (f.name == "_") = false) (ha : (part f.type xs f.offset).run P w = .ok a w) (hb : (part f.type ys f.offset).run P w = .ok b w) (he : (Op.equalIn d f.type a b).run P w = .ok r w) (hr : (Op.eqFields d xs ys fs).run P w = .ok s w) : (Op.eqFields d xs ys (f :: fs)).run P w = .ok (r && s) w := by
  have hn' : f.name ≠ "_" := by simpa using hn
  rw [Op.eqFields]
  simp only [if_pos hn', Sem.run_bind, ha, hb, he, Result.andThen_ok]
  cases r
  · simp
  · simpa using hr
/-- The last that counts, behind it such as_ don't. -/
theorem eqf_end (hn : (f.name == "_") = false) (ha : (part f.type xs f.offset).run P w = .ok a w) (hb : (part f.type ys f.offset).run P w = .ok b w) (he : (Op.equalIn d f.type a b).run P w = .ok r w) (hr : (Op.eqFields d xs ys fs).run P w = .ok true w) : (Op.eqFields d xs ys (f :: fs)).run P w = .ok r w := by
  have h := eqf_cons hn ha hb he hr
  rwa [Bool.and_true] at h
/-- A field named _ doesn't count. -/
theorem eqf_skip (hn : (f.name == "_") = true) (hr : (Op.eqFields d xs ys fs).run P w = .ok s w) : (Op.eqFields d xs ys (f :: fs)).run P w = .ok s w := by
  have hn' : ¬ (f.name ≠ "_") := by simpa using hn
  rw [Op.eqFields, if_neg hn']
  exact hr
theorem eqf_nil : (Op.eqFields d xs ys []).run P w = .ok true w := by simp [Op.eqFields]
theorem eqA_of {t : TypeId} {fs : Array Field} (hu : P.underlying t = some (.struct fs)) (hp : P.stoodInHeld t = false) (h : (Op.eqFields d xs ys fs.toList).run P w = .ok r w) : (Op.equalIn (d + 1) t (.agg xs) (.agg ys)).run P w = .ok r w := by
  have hf : P.fieldsOf t = fs := by simp [Program.fieldsOf, hu]
  rw [run_equalIn_struct (P := P) w d t xs ys (by rw [hf]; exact hu) hp, hf]
  exact h
end
end Go.Proofs.YtoloooammaiipaaDoorW.PrintWords
-- PRINTED BY print.sh 35421559b90ae4d0a3588c463048766b98c2df88dd9212a6774a882060cdf62d: not written by this session
/-! ### 55. Reps told from the front, no append: for rows of one-cell elements and of wider ones -/
namespace Go.Proofs.YtoloooammaiipaaDoorW.PrintWords
/-- One cell an element. -/
theorem Reps.one {α : Type} {R : α → List Value → Prop} {ps : List α} {cs : List Value} {p : α} {v : Value} (hp : R p [v]) (h : Reps R 1 ps cs) : Reps R 1 (p :: ps) (v :: cs) := by
  refine ⟨by simp [h.1], fun j q hq => ?_⟩
  cases j with
  | zero =>
    simp only [List.getElem?_cons_zero, Option.some.injEq] at hq
    subst hq
    simpa using hp
  | succ j =>
    simp only [List.getElem?_cons_succ] at hq
    have h1 := h.2 j q hq
    simpa [Nat.mul_one] using h1
/-- More cells an element: told apart by the cells' list. -/
theorem Reps.front {α : Type} {R : α → List Value → Prop} {size : Nat} {ps : List α} {cs c all : List Value} {p : α} (hp : R p c) (hc : c.length = size) (h : Reps R size ps cs) (ha : c ++ cs = all) : Reps R size (p :: ps) all := by
  subst ha
  refine ⟨by rw [List.length_append, hc, h.1, List.length_cons, Nat.succ_mul, Nat.add_comm], fun j q hq => ?_⟩
  cases j with
  | zero =>
    simp only [List.getElem?_cons_zero, Option.some.injEq] at hq
    subst hq
    rw [Nat.zero_mul, List.drop_zero, List.take_append_of_le_length (by omega), List.take_of_length_le (by omega)]
    exact hp
  | succ j =>
    simp only [List.getElem?_cons_succ] at hq
    have h1 := h.2 j q hq
    rw [Nat.succ_mul, List.drop_append, List.drop_of_length_le (by rw [hc]; exact Nat.le_add_left _ _), List.nil_append, hc, Nat.add_sub_cancel]
    exact h1
theorem Reps.c2 {α : Type} {R : α → List Value → Prop} {ps : List α} {cs : List Value} {p : α} {va vb : Value} (hp : R p [va, vb]) (h : Reps R 2 ps cs) : Reps R 2 (p :: ps) (va :: vb :: cs) := Reps.front hp rfl h rfl
theorem Reps.c3 {α : Type} {R : α → List Value → Prop} {ps : List α} {cs : List Value} {p : α} {va vb vc : Value} (hp : R p [va, vb, vc]) (h : Reps R 3 ps cs) : Reps R 3 (p :: ps) (va :: vb :: vc :: cs) := Reps.front hp rfl h rfl
theorem Reps.c4 {α : Type} {R : α → List Value → Prop} {ps : List α} {cs : List Value} {p : α} {va vb vc vd : Value} (hp : R p [va, vb, vc, vd]) (h : Reps R 4 ps cs) : Reps R 4 (p :: ps) (va :: vb :: vc :: vd :: cs) := Reps.front hp rfl h rfl
theorem Reps.c5 {α : Type} {R : α → List Value → Prop} {ps : List α} {cs : List Value} {p : α} {va vb vc vd ve : Value} (hp : R p [va, vb, vc, vd, ve]) (h : Reps R 5 ps cs) : Reps R 5 (p :: ps) (va :: vb :: vc :: vd :: ve :: cs) := Reps.front hp rfl h rfl
theorem Reps.c6 {α : Type} {R : α → List Value → Prop} {ps : List α} {cs : List Value} {p : α} {va vb vc vd ve vf : Value} (hp : R p [va, vb, vc, vd, ve, vf]) (h : Reps R 6 ps cs) : Reps R 6 (p :: ps) (va :: vb :: vc :: vd :: ve :: vf :: cs) := Reps.front hp rfl h rfl
theorem Reps.c7 {α : Type} {R : α → List Value → Prop} {ps : List α} {cs : List Value} {p : α} {va vb vc vd ve vf vg : Value} (hp : R p [va, vb, vc, vd, ve, vf, vg]) (h : Reps R 7 ps cs) : Reps R 7 (p :: ps) (va :: vb :: vc :: vd :: ve :: vf :: vg :: cs) := Reps.front hp rfl h rfl
theorem Reps.c8 {α : Type} {R : α → List Value → Prop} {ps : List α} {cs : List Value} {p : α} {va vb vc vd ve vf vg vh : Value} (hp : R p [va, vb, vc, vd, ve, vf, vg, vh]) (h : Reps R 8 ps cs) : Reps R 8 (p :: ps) (va :: vb :: vc :: vd :: ve :: vf :: vg :: vh :: cs) := Reps.front hp rfl h rfl
theorem Reps.c9 {α : Type} {R : α → List Value → Prop} {ps : List α} {cs : List Value} {p : α} {va vb vc vd ve vf vg vh vi : Value} (hp : R p [va, vb, vc, vd, ve, vf, vg, vh, vi]) (h : Reps R 9 ps cs) : Reps R 9 (p :: ps) (va :: vb :: vc :: vd :: ve :: vf :: vg :: vh :: vi :: cs) := Reps.front hp rfl h rfl
theorem Reps.c10 {α : Type} {R : α → List Value → Prop} {ps : List α} {cs : List Value} {p : α} {va vb vc vd ve vf vg vh vi vj : Value} (hp : R p [va, vb, vc, vd, ve, vf, vg, vh, vi, vj]) (h : Reps R 10 ps cs) : Reps R 10 (p :: ps) (va :: vb :: vc :: vd :: ve :: vf :: vg :: vh :: vi :: vj :: cs) := Reps.front hp rfl h rfl
end Go.Proofs.YtoloooammaiipaaDoorW.PrintWords
-- PRINTED BY print.sh 35421559b90ae4d0a3588c463048766b98c2df88dd9212a6774a882060cdf62d: not written by this session
/-! ### 57. A region of open order by ONE relation over what is listed so far: each operation is shown once, whatever came up before it -/
namespace Go.Proofs.YtoloooammaiipaaDoorW.PrintLast
/-- Number i is listed too. -/
def up (b : Nat → Bool) (i : Nat) : Nat → Bool := fun j => if j = i then true else b j
theorem up_self (b : Nat → Bool) (i : Nat) : up b i i = true := by simp [up]
theorem up_ne {b : Nat → Bool} {i j : Nat} (h : j ≠ i) : up b i j = b j := by simp [up, h]
/-- What is listed: O's operations by b, all else already. -/
def lof (n : Nat) (O : List Nat) (b : Nat → Bool) : List Bool := (List.range n).map fun j => if O.contains j then b j else true
/-- The destinations of what is listed are filled. -/
def putSel (a : Act) (b : Nat → Bool) : List (Nat × Tmp × Value) → Act
  | [] => a
  | e :: r => putSel (if b e.1 = true then a.put (some e.2.1) e.2.2 else a) b r
section
variable {P : Program} {ops : Array Oper} {Q : Exit → Act → World → Prop} {md : Region.Mode} {T : Bool × List (List Nat × List Nat)} {B : List Nat} {O : List Nat} {b : Nat → Bool} {i j n : Nat}
theorem lof_length : (lof n O b).length = n := by simp [lof]
theorem lof_get {d : Bool} (hj : j < n) : (lof n O b).getD j d = if O.contains j then b j else true := by
  simp [lof, List.getD_eq_getElem?_getD, hj]
theorem lof_up (hi : O.contains i = true) : (lof n O b).set i true = lof n O (up b i) := by
  apply List.ext_getElem?
  intro j
  by_cases hj : j < n
  · by_cases hij : i = j
    · subst hij
      have hl : i < (lof n O b).length := by rw [lof_length]; exact hj
      rw [List.getElem?_set_self hl]
      simp only [lof, List.getElem?_map, List.getElem?_range hj, Option.map_some, hi, if_true, up_self]
    · rw [List.getElem?_set_ne hij]
      simp only [lof, List.getElem?_map, List.getElem?_range hj, Option.map_some]
      rw [up_ne (Ne.symm hij)]
  · rw [List.getElem?_eq_none (by simp [lof]; omega), List.getElem?_eq_none (by simp [lof]; omega)]
/-- The step of operation i: out of the relation, it not being listed, all it waits for being so, and nothing that waits for it. -/
def StepAt (P : Program) (ops : Array Oper) (Q : Exit → Act → World → Prop) (B : List Nat) (O : List Nat) (I : (Nat → Bool) → Act → World → Prop) (i : Nat) : Prop :=
  ∀ b a w, I b a w → b i = false → (∀ j, (O.contains j && (B.getD i 0).testBit j) = true → b j = true) → (∀ d, (O.contains d && (B.getD d 0).testBit i) = true → b d = false) →
    ∃ oi, ops[i]? = some oi ∧ ∀ K : Act → World → Prop, Shut (∀ a' w', I (up b i) a' w' → K a' w') → if Region.wanted oi (yielded ops a.tmps) = true then Oper.wp P oi a w K Q else K (a.put oi.dst undef) w
theorem steps_nil {I : (Nat → Bool) → Act → World → Prop} : ∀ i ∈ ([] : List Nat), StepAt P ops Q B O I i := fun _ h => by cases h
theorem steps_cons {I : (Nat → Bool) → Act → World → Prop} {rs : List Nat} (h : StepAt P ops Q B O I i) (hs : ∀ j ∈ rs, StepAt P ops Q B O I j) : ∀ j ∈ i :: rs, StepAt P ops Q B O I j := fun j hj => by
  rcases List.mem_cons.1 hj with rfl | hj
  · exact h
  · exact hs j hj
/-- Every edge goes to an earlier operation; what is listed already waits for nothing of O; O's numbers are the region's, each once. -/
def baseOk (T : List (List Nat × List Nat)) (O : List Nat) : Bool :=
  (List.range T.length).all (fun d => match T[d]? with
    | some r => (O.contains d || r.1.all fun n => !O.contains n) && r.1.all fun n => decide (n < d)
    | none => false) && O.all (fun i => decide (i < T.length)) && decide O.Nodup
theorem baseOk_row {T : List (List Nat × List Nat)} (h : baseOk T O = true) {d : Nat} {r : List Nat × List Nat} (hr : T[d]? = some r) : (O.contains d = false → ∀ n ∈ r.1, O.contains n = false) ∧ ∀ n ∈ r.1, n < d := by
  simp only [baseOk, Bool.and_eq_true] at h
  have h1 := List.all_eq_true.1 h.1.1 d (List.mem_range.2 (List.getElem?_eq_some_iff.1 hr).1)
  rw [hr] at h1
  simp only [Bool.and_eq_true, Bool.or_eq_true, List.all_eq_true, decide_eq_true_eq] at h1
  refine ⟨fun hd n hn => ?_, h1.2⟩
  rcases h1.1 with h2 | h2
  · rw [hd] at h2; cases h2
  · simpa using h2 n hn
theorem baseOk_lt {T : List (List Nat × List Nat)} (h : baseOk T O = true) {i : Nat} (hi : i ∈ O) : i < T.length := by
  simp only [baseOk, Bool.and_eq_true] at h
  simpa using List.all_eq_true.1 h.1.2 i hi
theorem baseOk_nodup {T : List (List Nat × List Nat)} (h : baseOk T O = true) : O.Nodup := by
  simp only [baseOk, Bool.and_eq_true] at h
  exact of_decide_eq_true h.2
def Closed (T : List (List Nat × List Nat)) (O : List Nat) (b : Nat → Bool) : Prop := ∀ d r, T[d]? = some r → O.contains d = true → b d = true → ∀ n ∈ r.1, O.contains n = true → b n = true
/-- What waits for nothing of O has none of it in its bits. -/
theorem bits_out {T : List (List Nat × List Nat)} (hw : waitsOk T B = true) (hk : baseOk T O = true) : ∀ (m d : Nat), d ≤ m → d < T.length → O.contains d = false → ∀ j, (B.getD d 0).testBit j = true → O.contains j = false := by
  intro m
  induction m with
  | zero =>
    intro d hd hl hO j hj
    have hd0 : d = 0 := by omega
    subst hd0
    have hr : T[0]? = some T[0] := List.getElem?_eq_getElem hl
    have h1 := List.all_eq_true.1 hw 0 (List.mem_range.2 hl)
    rw [hr] at h1
    simp only [beq_iff_eq] at h1
    have h2 : (upM B 0 T[0].1).testBit j = true := by rw [← h1, Nat.testBit_or, hj, Bool.true_or]
    obtain ⟨n, hn, h3⟩ := upM_bit h2
    have := (baseOk_row hk hr).2 n hn
    omega
  | succ m ih =>
    intro d hd hl hO j hj
    have hr : T[d]? = some T[d] := List.getElem?_eq_getElem hl
    have h1 := List.all_eq_true.1 hw d (List.mem_range.2 hl)
    rw [hr] at h1
    simp only [beq_iff_eq] at h1
    have h2 : (upM B d T[d].1).testBit j = true := by rw [← h1, Nat.testBit_or, hj, Bool.true_or]
    obtain ⟨n, hn, h3⟩ := upM_bit h2
    have hO2 := (baseOk_row hk hr).1 hO n hn
    rcases h3 with rfl | ⟨h4, h5⟩
    · exact hO2
    · exact ih n (by omega) (by omega) hO2 j h5
theorem closed_bits {T : List (List Nat × List Nat)} (hw : waitsOk T B = true) (hk : baseOk T O = true) (hc : Closed T O b) : ∀ (m d : Nat), d ≤ m → d < T.length → O.contains d = true → b d = true → ∀ j, O.contains j = true → (B.getD d 0).testBit j = true → b j = true := by
  intro m
  induction m with
  | zero =>
    intro d hd hl hO hb j hjO hj
    have hd0 : d = 0 := by omega
    subst hd0
    have hr : T[0]? = some T[0] := List.getElem?_eq_getElem hl
    have h1 := List.all_eq_true.1 hw 0 (List.mem_range.2 hl)
    rw [hr] at h1
    simp only [beq_iff_eq] at h1
    have h2 : (upM B 0 T[0].1).testBit j = true := by rw [← h1, Nat.testBit_or, hj, Bool.true_or]
    obtain ⟨n, hn, h3⟩ := upM_bit h2
    have := (baseOk_row hk hr).2 n hn
    omega
  | succ m ih =>
    intro d hd hl hO hb j hjO hj
    have hr : T[d]? = some T[d] := List.getElem?_eq_getElem hl
    have h1 := List.all_eq_true.1 hw d (List.mem_range.2 hl)
    rw [hr] at h1
    simp only [beq_iff_eq] at h1
    have h2 : (upM B d T[d].1).testBit j = true := by rw [← h1, Nat.testBit_or, hj, Bool.true_or]
    obtain ⟨n, hn, h3⟩ := upM_bit h2
    rcases h3 with rfl | ⟨h4, h5⟩
    · exact hc d _ hr hO hb n hn hjO
    · cases hO2 : O.contains n with
      | true => exact ih n (by omega) (by omega) hO2 (hc d _ hr hO hb n hn hO2) j hjO h5
      | false =>
        have := bits_out hw hk n n (Nat.le_refl _) (by omega) hO2 j h5
        rw [hjO] at this
        cases this
theorem up_count : ∀ {O : List Nat}, O.Nodup → i ∈ O → b i = false → (O.filter fun j => !up b i j).length + 1 = (O.filter fun j => !b j).length
  | [], _, hi, _ => by cases hi
  | x :: r, hn, hi, hb => by
    rw [List.nodup_cons] at hn
    rcases List.mem_cons.1 hi with rfl | hi
    · have h1 : (r.filter fun j => !up b i j) = r.filter fun j => !b j := by
        refine List.filter_congr (fun j hj => ?_)
        rw [up_ne (fun e => hn.1 (by rw [← e]; exact hj))]
      rw [List.filter_cons, List.filter_cons]
      simp [up_self, hb, h1]
    · have hxi : x ≠ i := fun e => hn.1 (e ▸ hi)
      have h1 := up_count hn.2 hi hb
      rw [List.filter_cons, List.filter_cons, up_ne hxi]
      cases hbx : b x
      · simp only [Bool.not_false, if_true, List.length_cons]
        omega
      · simpa using h1
theorem inv_all (hT : rtab md ops = T) (hw : waitsOk T.2 B = true) (hk : baseOk T.2 O = true) (I : (Nat → Bool) → Act → World → Prop) (hs : ∀ i ∈ O, StepAt P ops Q B O I i)
    (hend : ∀ b a w, (∀ j, O.contains j = true → b j = true) → I b a w → Q .normal a w) :
    ∀ (m : Nat) (b : Nat → Bool) (a : Act) (w : World), (O.filter fun j => !b j).length = m → Closed T.2 O b → I b a w → wpAnyLast P md ops Q (fun _ => True) [] m (lof T.2.length O b).toArray a w := by
  subst hT
  have mem_ready' : ∀ {b : Nat → Bool} {i : Nat}, i ∈ Region.ready md ops (lof (rtab md ops).2.length O b).toArray → i < (rtab md ops).2.length ∧ O.contains i = true ∧ b i = false ∧ ∀ r, (rtab md ops).2[i]? = some r → ∀ n ∈ r.1, n < (rtab md ops).2.length → O.contains n = true → b n = true := by
    intro b i hi
    rw [ready_eq] at hi
    unfold readyT at hi
    rw [List.mem_filter, List.mem_range] at hi
    obtain ⟨hl, h1⟩ := hi
    unfold readyAt at h1
    rw [Bool.and_eq_true, lof_get hl] at h1
    obtain ⟨h2, h3⟩ := h1
    have h4 : O.contains i = true := by
      cases h : O.contains i with
      | true => rfl
      | false => rw [h] at h2; simp at h2
    rw [h4] at h2
    refine ⟨hl, h4, by simpa using h2, fun r hr n hn hnl hO => ?_⟩
    rw [hr] at h3
    simp only [List.all_eq_true] at h3
    have h5 := h3 n hn
    rw [lof_get hnl, hO] at h5
    simpa using h5
  intro m
  induction m with
  | zero =>
    intro b a w hm hc hI
    have hall : ∀ j, O.contains j = true → b j = true := by
      intro j hj
      cases hb : b j with
      | true => rfl
      | false =>
        have : j ∈ O.filter fun j => !b j := List.mem_filter.2 ⟨List.contains_iff_mem.1 hj, by simp [hb]⟩
        rw [List.eq_nil_of_length_eq_zero hm] at this
        cases this
    refine ⟨?_, hend b a w hall hI⟩
    refine List.eq_nil_iff_forall_not_mem.2 (fun i hi => ?_)
    obtain ⟨_, h1, h2, _⟩ := mem_ready' hi
    rw [hall i h1] at h2
    cases h2
  | succ m ih =>
    intro b a w hm hc hI
    refine ⟨fun hr => ?_, fun i hi => ?_⟩
    · exfalso
      -- the smallest number that isn't listed is ready
      have hex : ∃ i, O.contains i = true ∧ b i = false := by
        cases hf : O.filter (fun j => !b j) with
        | nil => rw [hf] at hm; simp at hm
        | cons x r =>
          have hx : x ∈ O.filter (fun j => !b j) := by rw [hf]; exact List.mem_cons_self
          rw [List.mem_filter] at hx
          exact ⟨x, List.contains_iff_mem.2 hx.1, by simpa using hx.2⟩
      have hmin : ∀ k, (∃ i, i ≤ k ∧ O.contains i = true ∧ b i = false) → ∃ i, O.contains i = true ∧ b i = false ∧ ∀ j, j < i → O.contains j = true → b j = true := by
        intro k
        induction k with
        | zero =>
          rintro ⟨i, hi, h1, h2⟩
          exact ⟨i, h1, h2, fun j hj => by omega⟩
        | succ k ihk =>
          rintro ⟨i, hi, h1, h2⟩
          by_cases hlow : ∃ j, j ≤ k ∧ O.contains j = true ∧ b j = false
          · exact ihk hlow
          · refine ⟨i, h1, h2, fun j hj hO => ?_⟩
            cases hb : b j with
            | true => rfl
            | false => exact absurd ⟨j, by omega, hO, hb⟩ hlow
      obtain ⟨i0, h1, h2⟩ := hex
      obtain ⟨i, hO, hb, hlow⟩ := hmin i0 ⟨i0, Nat.le_refl _, h1, h2⟩
      have hl := baseOk_lt hk (List.contains_iff_mem.1 hO)
      have hin : i ∈ Region.ready md ops (lof (rtab md ops).2.length O b).toArray := by
        rw [ready_eq]
        unfold readyT
        rw [List.mem_filter, List.mem_range]
        refine ⟨hl, ?_⟩
        unfold readyAt
        rw [lof_get hl, hO, hb]
        have hr2 : (rtab md ops).2[i]? = some (rtab md ops).2[i] := List.getElem?_eq_getElem hl
        rw [hr2]
        simp only [if_true, Bool.not_false, Bool.true_and, List.all_eq_true]
        intro n hn
        have hni := (baseOk_row hk hr2).2 n hn
        rw [lof_get (by omega)]
        cases hOn : O.contains n with
        | true => simpa using hlow n hni hOn
        | false => simp
      rw [hr] at hin
      cases hin
    · obtain ⟨hl, hO, hb, hneed⟩ := mem_ready' hi
      have hon : ∀ j, (O.contains j && (B.getD i 0).testBit j) = true → b j = true := by
        intro j hj
        rw [Bool.and_eq_true] at hj
        have hr2 : (rtab md ops).2[i]? = some (rtab md ops).2[i] := List.getElem?_eq_getElem hl
        have h1 := List.all_eq_true.1 hw i (List.mem_range.2 hl)
        rw [hr2] at h1
        simp only [beq_iff_eq] at h1
        have h2 : (upM B i (rtab md ops).2[i].1).testBit j = true := by rw [← h1, Nat.testBit_or, hj.2, Bool.true_or]
        obtain ⟨n, hn, h3⟩ := upM_bit h2
        have hni := (baseOk_row hk hr2).2 n hn
        rcases h3 with rfl | ⟨h4, h5⟩
        · exact hneed _ hr2 n hn (by omega) hj.1
        · cases hO2 : O.contains n with
          | true => exact closed_bits hw hk hc n n (Nat.le_refl _) (by omega) hO2 (hneed _ hr2 n hn (by omega) hO2) j hj.1 h5
          | false =>
            have := bits_out hw hk n n (Nat.le_refl _) (by omega) hO2 j h5
            rw [hj.1] at this
            cases this
      have hoff : ∀ d, (O.contains d && (B.getD d 0).testBit i) = true → b d = false := by
        intro d hd
        rw [Bool.and_eq_true] at hd
        cases hbd : b d with
        | false => rfl
        | true =>
          have hdl := baseOk_lt hk (List.contains_iff_mem.1 hd.1)
          have := closed_bits hw hk hc d d (Nat.le_refl _) hdl hd.1 hbd i hO hd.2
          rw [hb] at this
          cases this
      obtain ⟨oi, hoi, hK⟩ := hs i (List.contains_iff_mem.1 hO) b a w hI hb hon hoff
      refine wpOp_step hoi (fun K' hK' => hK K' (fun a' w' hI' => hK' a' w' ⟨fun _ _ => trivial, ?_⟩))
      have hset : (lof (rtab md ops).2.length O b).toArray.setIfInBounds i true = (lof (rtab md ops).2.length O (up b i)).toArray := by
        apply Array.ext'
        rw [Array.toList_setIfInBounds]
        exact lof_up hO
      rw [hset]
      refine ih (up b i) a' w' ?_ ?_ hI'
      · have := up_count (baseOk_nodup hk) (List.contains_iff_mem.1 hO) hb
        omega
      · intro d r hr hOd hbd n hn hOn
        by_cases hni : n = i
        · rw [hni, up_self]
        · rw [up_ne hni]
          by_cases hdi : d = i
          · subst hdi
            exact hneed r hr n hn (by have := (baseOk_row hk hr).2 n hn; omega) hOn
          · rw [up_ne hdi] at hbd
            exact hc d r hr hOd hbd n hn hOn
/-! The frame: what is listed has its destination filled. -/
theorem putSel_size (b : Nat → Bool) : ∀ (L : List (Nat × Tmp × Value)) (a : Act), (putSel a b L).tmps.size = a.tmps.size ∧ (putSel a b L).defers = a.defers
  | [], a => ⟨rfl, rfl⟩
  | e :: r, a => by
    unfold putSel
    by_cases h : b e.1 = true
    · rw [if_pos h]
      have := putSel_size b r (a.put (some e.2.1) e.2.2)
      exact ⟨this.1.trans (by simp [Act.put]), this.2.trans rfl⟩
    · rw [if_neg h]
      exact putSel_size b r a
/-- A slot that no operation of the list fills. -/
theorem putSel_off {b : Nat → Bool} {t : Tmp} : ∀ {L : List (Nat × Tmp × Value)} {a : Act}, (L.all fun e => !(e.2.1 == t)) = true → (putSel a b L).tmps[t]? = a.tmps[t]?
  | [], _, _ => rfl
  | e :: r, a, h => by
    rw [List.all_cons, Bool.and_eq_true] at h
    have he : e.2.1 ≠ t := by simpa using h.1
    unfold putSel
    by_cases hb : b e.1 = true
    · rw [if_pos hb, putSel_off h.2]
      simp [Act.put, Array.getElem?_setIfInBounds_ne he]
    · rw [if_neg hb]
      exact putSel_off h.2
/-- A slot of a listed operation: k is its place in the list. -/
theorem putSel_on {b : Nat → Bool} {e : Nat × Tmp × Value} : ∀ {L : List (Nat × Tmp × Value)} {a : Act} (k : Nat), L[k]? = some e → ((L.drop (k + 1)).all fun x => !(x.2.1 == e.2.1)) = true → b e.1 = true → Nat.ble (e.2.1 + 1) a.tmps.size = true → (putSel a b L).tmps[e.2.1]? = some e.2.2
  | [], _, _, h, _, _, _ => by cases h
  | x :: r, a, 0, h, hd, hb, ht => by
    simp only [List.getElem?_cons_zero, Option.some.injEq] at h
    subst h
    unfold putSel
    rw [if_pos hb, putSel_off (by simpa using hd)]
    have ht2 : x.2.1 < a.tmps.size := Nat.le_of_ble_eq_true ht
    simp [Act.put, ht2]
  | x :: r, a, k + 1, h, hd, hb, ht => by
    unfold putSel
    refine putSel_on k (by simpa using h) (by simpa using hd) hb ?_
    by_cases hx : b x.1 = true
    · rw [if_pos hx]
      simpa [Act.put] using ht
    · rw [if_neg hx]
      exact ht
theorem put_comm {a : Act} {s t : Tmp} {u v : Value} (h : s ≠ t) : (a.put (some s) u).put (some t) v = (a.put (some t) v).put (some s) u := by
  simp only [Act.put]
  rw [Array.setIfInBounds_comm _ _ h]
theorem putSel_put {b : Nat → Bool} {t : Tmp} {v : Value} : ∀ {L : List (Nat × Tmp × Value)} {a : Act}, (L.all fun e => !(e.2.1 == t)) = true → (putSel a b L).put (some t) v = putSel (a.put (some t) v) b L
  | [], _, _ => rfl
  | e :: r, a, h => by
    rw [List.all_cons, Bool.and_eq_true] at h
    have he : e.2.1 ≠ t := by simpa using h.1
    unfold putSel
    by_cases hb : b e.1 = true
    · rw [if_pos hb, if_pos hb, putSel_put h.2, put_comm he]
    · rw [if_neg hb, if_neg hb]
      exact putSel_put h.2
theorem putSel_same {b : Nat → Bool} {i : Nat} : ∀ {L : List (Nat × Tmp × Value)} {a : Act}, (L.all fun e => !(e.1 == i)) = true → putSel a (up b i) L = putSel a b L
  | [], _, _ => rfl
  | e :: r, a, h => by
    rw [List.all_cons, Bool.and_eq_true] at h
    have he : e.1 ≠ i := by simpa using h.1
    unfold putSel
    rw [up_ne he]
    exact putSel_same h.2
/-- Operation i (its entry stands between L1 and L2) is listed: its destination is filled with v, whatever stood in its entry. -/
theorem putSel_up {b : Nat → Bool} {i : Nat} {t : Tmp} {v0 v : Value} : ∀ {L1 L2 : List (Nat × Tmp × Value)} {a : Act}, b i = false → ((L1 ++ L2).all fun e => !(e.1 == i) && !(e.2.1 == t)) = true →
    (putSel a b (L1 ++ (i, t, v0) :: L2)).put (some t) v = putSel a (up b i) (L1 ++ (i, t, v) :: L2)
  | [], L2, a, hb, h => by
    simp only [List.nil_append] at h ⊢
    have h1 : (L2.all fun e => !(e.1 == i)) = true := List.all_eq_true.2 (fun e he => by have := List.all_eq_true.1 h e he; simp only [Bool.and_eq_true] at this; exact this.1)
    have h2 : (L2.all fun e => !(e.2.1 == t)) = true := List.all_eq_true.2 (fun e he => by have := List.all_eq_true.1 h e he; simp only [Bool.and_eq_true] at this; exact this.2)
    unfold putSel
    rw [if_neg (by rw [hb]; decide), if_pos (up_self b i), putSel_put h2, putSel_same h1]
  | e :: r, L2, a, hb, h => by
    simp only [List.cons_append, List.all_cons, Bool.and_eq_true] at h
    have he : e.1 ≠ i := by simpa using h.1.1
    simp only [List.cons_append]
    unfold putSel
    rw [up_ne he]
    exact putSel_up hb h.2
/-- The same by its place k in the list. -/
theorem putSel_upk {b : Nat → Bool} {i : Nat} {t : Tmp} {v0 v : Value} {a : Act} {L L' : List (Nat × Tmp × Value)} (k : Nat) (hb : b i = false) (hL : L[k]? = some (i, t, v0)) (hL' : L.set k (i, t, v) = L') (hd : ((L.take k ++ L.drop (k + 1)).all fun e => !(e.1 == i) && !(e.2.1 == t)) = true) :
    (putSel a b L).put (some t) v = putSel a (up b i) L' := by
  have hk := (List.getElem?_eq_some_iff.1 hL).1
  have h1 : L = L.take k ++ (i, t, v0) :: L.drop (k + 1) := by
    have h2 : L[k] = (i, t, v0) := (List.getElem?_eq_some_iff.1 hL).2
    rw [← h2, List.getElem_cons_drop, List.take_append_drop]
  have h3 : L' = L.take k ++ (i, t, v) :: L.drop (k + 1) := by rw [← hL', List.set_eq_take_append_cons_drop, if_pos hk]
  rw [h3]
  conv => lhs; rw [h1]
  exact putSel_up hb hd
/-- An operation without a destination. -/
theorem putSel_none {b : Nat → Bool} {i : Nat} {L : List (Nat × Tmp × Value)} {a : Act} {v : Value} (h : (L.all fun e => !(e.1 == i)) = true) : (putSel a b L).put none v = putSel a (up b i) L := (putSel_same h).symm
/-- THE REGION FROM HERE TO ITS END, by one relation I: l has all listed but O's operations; I holds with none of them listed; each step; with all listed what follows. -/
theorem inv_ {l : Array Bool} {fuel : Nat} {a : Act} {w : World} (O : List Nat) (I : (Nat → Bool) → Act → World → Prop) (hT : rtab md ops = T) (hw : waitsOk T.2 B = true) (hk : baseOk T.2 O = true)
    (hl : (lof T.2.length O (fun _ => false) == l.toList && O.length == fuel) = true) (h0 : I (fun _ => false) a w) (hs : ∀ i ∈ O, StepAt P ops Q B O I i)
    (hend : ∀ b a w, (∀ j, O.contains j = true → b j = true) → I b a w → Q .normal a w) : wpAnyLast P md ops Q (fun _ => True) [] fuel l a w := by
  rw [Bool.and_eq_true, beq_iff_eq, beq_iff_eq] at hl
  have h1 := inv_all hT hw hk I hs hend fuel (fun _ => false) a w (by rw [← hl.2]; simp) (fun d r _ _ hb => by cases hb) h0
  have h2 : (lof T.2.length O (fun _ => false)).toArray = l := by apply Array.ext'; exact hl.1
  rw [h2] at h1
  exact h1
/-- inv_ with the relation told from the frame that stands now (a0_). -/
theorem inv_at {l : Array Bool} {fuel : Nat} {a : Act} {w : World} (O : List Nat) (I : Act → (Nat → Bool) → Act → World → Prop) (hT : rtab md ops = T) (hw : waitsOk T.2 B = true) (hk : baseOk T.2 O = true)
    (hl : (lof T.2.length O (fun _ => false) == l.toList && O.length == fuel) = true) (h0 : I a (fun _ => false) a w) (hs : ∀ i ∈ O, StepAt P ops Q B O (I a) i)
    (hend : ∀ b a' w, (∀ j, O.contains j = true → b j = true) → I a b a' w → Q .normal a' w) : wpAnyLast P md ops Q (fun _ => True) [] fuel l a w := inv_ O (I a) hT hw hk hl h0 hs hend
end
end Go.Proofs.YtoloooammaiipaaDoorW.PrintLast
-- PRINTED BY print.sh 35421559b90ae4d0a3588c463048766b98c2df88dd9212a6774a882060cdf62d: not written by this session
namespace Go.Proofs.YtoloooammaiipaaDoorW.PrintWords
open Go.RowKit
/-- A row that isn't empty: its address. -/
theorem Kd.R_slice1 {α : Type} {d : Kd α} {e base : Nat} {ok : Nat → Prop} {w : World} {v : Value} {xs : List α} (h : d.R e w base ok v xs) (hn : 0 < xs.length) : ∃ (ad : Addr) (c : Nat), v = .slice (some ad) xs.length c := by
  obtain ⟨A, c, rfl⟩ := Kd.R_slice h
  have h2 := (Kd.R_reads' h).2.2
  obtain ⟨ad, he, _⟩ := h2.2.2 hn
  subst he
  exact ⟨ad, c, rfl⟩
/-- A flat row (its elements are told by no ok): ok may be told anew of its own block alone. hd: 'fun h => h'. -/
theorem Kd.R_flat {α : Type} {d : Kd α} {e base : Nat} {ok ok' : Nat → Prop} {w : World} {v : Value} {xs : List α} (hd : ∀ {ok1 ok2 : Nat → Prop} {x : α} {cs : List Value}, d.M w base ok1 x cs → d.M w base ok2 x cs) (h : d.R e w base ok v xs) (hok : ∀ k, v.ownBlock = some k → ok k → ok' k) : d.R e w base ok' v xs := by
  obtain ⟨h0, inner, hown, hr⟩ := h
  exact ⟨fun k hk => hok k hk (h0 k hk), inner, hown, hr.imp_ (fun _ _ hm => hd hm)⟩
/-- Two rows, one made behind the other's standing. -/
theorem own_apart {v1 v2 : Value} {n : Nat} (hlt : ∀ k, v1.ownBlock = some k → k < n) (hge : ∀ k, v2.ownBlock = some k → n ≤ k) : v1.ownBlock = none ∨ v1.ownBlock ≠ v2.ownBlock := by
  cases h : v1.ownBlock with
  | none => exact .inl rfl
  | some k => exact .inr (fun e => by have := hlt k h; have := hge k e.symm; omega)
theorem own_apart' {v1 v2 : Value} {n : Nat} (hge : ∀ k, v1.ownBlock = some k → n ≤ k) (hlt : ∀ k, v2.ownBlock = some k → k < n) : v1.ownBlock = none ∨ v1.ownBlock ≠ v2.ownBlock := by
  cases h : v1.ownBlock with
  | none => exact .inl rfl
  | some k => exact .inr (fun e => by have := hge k h; have := hlt k e.symm; omega)
theorem atom_of {v1 v2 : Value} {k : Nat} (h : v1.ownBlock = none ∨ v1.ownBlock ≠ v2.ownBlock) (hk : v1.ownBlock = some k) : some k ≠ v2.ownBlock := by
  rcases h with h | h
  · rw [h] at hk; cases hk
  · rw [← hk]; exact h
theorem atom_of' {v1 v2 : Value} {k : Nat} (h : v1.ownBlock = none ∨ v1.ownBlock ≠ v2.ownBlock) (hk : v2.ownBlock = some k) : some k ≠ v1.ownBlock := by
  intro e
  rcases h with h | h
  · rw [h] at e; cases e
  · exact h (e.symm.trans hk.symm)
end Go.Proofs.YtoloooammaiipaaDoorW.PrintWords
namespace Go.Proofs.YtoloooammaiipaaDoorW.PrintLast
section
variable {ops : Array Oper} {a : Act} {o og : Oper} {g : Nat} {t : Tmp} {u : Bool}
/-- An operand out of its slot. -/
theorem eval_of {v : Value} (h : a.tmps[t]? = some v) : a.eval (.tmp t) = v := by simp [Act.eval, h]
/-- A slot that operation j will fill, which isn't listed yet. -/
theorem putSel_not {b : Nat → Bool} {j : Nat} (hj : b j = false) : ∀ {L : List (Nat × Tmp × Value)} {a : Act}, (L.all fun e => !(e.2.1 == t) || e.1 == j) = true → (putSel a b L).tmps[t]? = a.tmps[t]?
  | [], _, _ => rfl
  | e :: r, a, h => by
    rw [List.all_cons, Bool.and_eq_true] at h
    unfold putSel
    by_cases hb : b e.1 = true
    · rw [if_pos hb, putSel_not hj h.2]
      have he : e.2.1 ≠ t := by
        intro ht
        rw [Bool.or_eq_true] at h
        rcases h.1 with h1 | h1
        · simp [ht] at h1
        · rw [beq_iff_eq] at h1
          rw [h1, hj] at hb
          cases hb
      simp [Act.put, Array.getElem?_setIfInBounds_ne he]
    · rw [if_neg hb]
      exact putSel_not hj h.2
/-- A guarded operation whose guard has yielded what it wants. -/
theorem wanted_on (hg : o.guard = some (g, u)) (ho : ops[g]? = some og) (hd : og.dst = some t) (hv : a.tmps[t]? = some (.bool u)) : Region.wanted o (yielded ops a.tmps) = true := by
  simp [Region.wanted, hg, yielded, ho, hd, hv]
/-- The other: it isn't carried out. -/
theorem wanted_off (hg : o.guard = some (g, u)) (ho : ops[g]? = some og) (hd : og.dst = some t) (hv : a.tmps[t]? = some (.bool (!u))) : Region.wanted o (yielded ops a.tmps) = false := by
  cases u <;> simp_all [Region.wanted, yielded]
end
end Go.Proofs.YtoloooammaiipaaDoorW.PrintLast
-- PRINTED BY print.sh 35421559b90ae4d0a3588c463048766b98c2df88dd9212a6774a882060cdf62d: not written by this session
/-! ### 58. A guarded operation whose guard is known to want it: the same goal without the guard -/
namespace Go.Proofs.YtoloooammaiipaaDoorW.PrintWords
open Go.RowKit
section
variable {P : Program} {ops : Array Oper} {rest : List Oper} {o : Oper} {a : Act} {Q : Exit → Act → World → Prop} {W : World}
/-- The gate takes the guard off (hw: 'by rfl', 'by kernel_rfl': the guard's slot holds what is wanted). -/
theorem gate_guard (hw : Region.wanted o (yielded ops a.tmps) = true) (h : wpList P ops Q ({ o with guard := none } :: rest) a W) : wpList P ops Q (o :: rest) a W := by
  have h1 : Region.wanted { o with guard := none } (yielded ops a.tmps) = true := rfl
  unfold wpList at h ⊢
  rw [if_pos h1] at h
  rw [if_pos hw]
  exact h
/-- Its guard doesn't want it: it isn't carried out. -/
theorem skip_guard (hw : Region.wanted o (yielded ops a.tmps) = false) (h : wpList P ops Q rest (a.put o.dst undef) W) : wpList P ops Q (o :: rest) a W := by
  unfold wpList
  rw [hw]
  exact h
end
end Go.Proofs.YtoloooammaiipaaDoorW.PrintWords
