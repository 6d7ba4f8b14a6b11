/- Texts of this work merged in their order (a claim may hold 60 files): Cut, Help, Range, Store, PIx0, PMx0, Str, Hex, Bld, BldB, HexW, Split, PIx1, Num, NumW, FillW, TrNum, RefHexW. No conditions of its own. -/
import Derived.Test.YtoloooammaiipaaDoorCB2
import Derived.Lib.SplitLaws
import Derived.Lib.Join
import Derived.Lib.SlBytesConst
import Derived.Lib.Hide
import Derived.Shelf.Bytes.SlIndexAt
import Derived.Lib.ConvBytes
import Derived.RangeFuncNested
import Derived.RangeFuncBound
import Derived.RangeFuncCalls
import Derived.RangeFuncLeaves
import Derived.Shelf.Abstract
import Derived.Shelf.RegionOpen
import Derived.WalkKit
import Derived.OwnWalkIn
import Derived.TacticsInMore
import Derived.LoopNIn
import Derived.LoopIn
import Derived.Laws.EntriesVeiled
import Derived.Test.YtoloooammaiipaaDoorProg
import Derived.Below
import Derived.Deep.Draws
import Derived.Deep.AppendLies
import Derived.Maps.AppendAt
import Derived.OwnWalk
import Derived.Laws.BytesArg
import Derived.Laws.MakeOwn
import Derived.Laws.OwnMore
import Derived.Deep.OwnRows
import Derived.Tactics
import Derived.Laws.Slices
import Derived.KernelRfl
import Derived.RowKit3
import Derived.Deep.LoopGhost
import Derived.Deep.QuietTactic
import Derived.BigQuiet
import Derived.WideLaws
import Derived.Deep.DeepCutAuto
import Derived.Deep.CutBlock
import Derived.Deep.RegionHeld3
import Derived.Laws.Rows
import Derived.Lib.AppendStr
import Derived.ArgAppend
import Derived.Laws.IdiomCopy
import Derived.OrdersHeld
import Derived.Laws.BitsLemmas
import Derived.RowKit
import Derived.RangeFuncBox
import Derived.Shelf.Small.Wraps
import Derived.Shelf.Strings.BuilderK
import Derived.Lib.FrozenHead2
import Derived.Lib.OthersKept
import Derived.BigCall
import Derived.Shelf.Strings.Split
import Derived.Shelf.Strconv.Itoa3
import Derived.Shelf.Strconv.AtoiAll
import Derived.Shelf.Strconv.ErrVarAll
import Derived.Lib.AppendIntMem
import Derived.Lib.AtoiAllCases
import Derived.Lib.SmallJoins
import Derived.StillTailTactics
import Derived.Lib.AtoiTie
import Derived.Lib.ItoaNum
import Derived.Lib.ItoaMem
/- The texts between a byte: plain laws on lists of bytes, no program in sight; no conditions. -/
namespace Go.Proofs.YtoloooammaiipaaDoor
open Go

/-- The texts between the bytes c. -/
def cutL (c : UInt8) : List UInt8 → List (List UInt8)
  | [] => [[]]
  | x :: r => if x = c then [] :: cutL c r else (x :: (cutL c r).headD []) :: (cutL c r).tail

theorem cutL_nil (c : UInt8) : cutL c [] = [[]] := rfl
theorem cutL_hit (c : UInt8) (r : List UInt8) : cutL c (c :: r) = [] :: cutL c r := by simp [cutL]
theorem cutL_miss {c x : UInt8} (h : x ≠ c) (r : List UInt8) : cutL c (x :: r) = (x :: (cutL c r).headD []) :: (cutL c r).tail := by simp [cutL, h]

theorem cutL_form (c : UInt8) (l : List UInt8) : ∃ h t, cutL c l = h :: t := by
  cases l with
  | nil => exact ⟨_, _, rfl⟩
  | cons x r =>
    by_cases h : x = c
    · subst h; exact ⟨_, _, cutL_hit _ _⟩
    · exact ⟨_, _, cutL_miss h _⟩
theorem cutL_ne (c : UInt8) (l : List UInt8) : cutL c l ≠ [] := by
  obtain ⟨h, t, e⟩ := cutL_form c l
  rw [e]; exact List.cons_ne_nil _ _
theorem cutL_length_pos (c : UInt8) (l : List UInt8) : 0 < (cutL c l).length := by
  obtain ⟨h, t, e⟩ := cutL_form c l
  rw [e]; simp

theorem cutL_length (c : UInt8) (l : List UInt8) : (cutL c l).length = l.count c + 1 := by
  induction l with
  | nil => rfl
  | cons x r ih =>
    by_cases h : x = c
    · subst h; rw [cutL_hit, List.length_cons, ih, List.count_cons_self]
    · rw [cutL_miss h, List.length_cons, List.length_tail, ih, List.count_cons_of_ne h]; omega

/-- A text without the byte is one. -/
theorem cutL_clean {c : UInt8} {l : List UInt8} (h : c ∉ l) : cutL c l = [l] := by
  induction l with
  | nil => rfl
  | cons x r ih =>
    have hx : x ≠ c := fun e => h (by simp [e])
    have hr : c ∉ r := fun e => h (List.mem_cons_of_mem _ e)
    rw [cutL_miss hx, ih hr]; rfl

theorem cutL_append_hit {c : UInt8} {a : List UInt8} (h : c ∉ a) (r : List UInt8) : cutL c (a ++ c :: r) = a :: cutL c r := by
  induction a with
  | nil => exact cutL_hit c r
  | cons x a ih =>
    have hx : x ≠ c := fun e => h (by simp [e])
    have hr : c ∉ a := fun e => h (List.mem_cons_of_mem _ e)
    rw [List.cons_append, cutL_miss hx, ih hr]; rfl

/-- No text between has the byte. -/
theorem cutL_clean_parts (c : UInt8) (l : List UInt8) : ∀ x ∈ cutL c l, c ∉ x := by
  induction l with
  | nil => simp [cutL]
  | cons y r ih =>
    obtain ⟨h, t, e⟩ := cutL_form c r
    by_cases hy : y = c
    · subst hy
      rw [cutL_hit]
      intro x hx
      rcases List.mem_cons.1 hx with rfl | hx
      · simp
      · exact ih x hx
    · rw [cutL_miss hy, e]
      rw [e] at ih
      intro x hx
      rcases List.mem_cons.1 hx with rfl | hx
      · have := ih h (List.mem_cons_self ..)
        simp only [List.headD_cons, List.mem_cons, not_or]
        exact ⟨fun e => hy e.symm, this⟩
      · exact ih x (List.mem_cons_of_mem _ hx)

/-- One byte more at the end. -/
theorem cutL_snoc_hit (c : UInt8) (l : List UInt8) : cutL c (l ++ [c]) = cutL c l ++ [[]] := by
  induction l with
  | nil => simp [cutL]
  | cons x r ih =>
    obtain ⟨h, t, e⟩ := cutL_form c r
    by_cases hx : x = c
    · subst hx; rw [List.cons_append, cutL_hit, cutL_hit, ih]; rfl
    · rw [List.cons_append, cutL_miss hx, cutL_miss hx, ih, e]; rfl
theorem cutL_snoc_miss {c x : UInt8} (hx : x ≠ c) (l : List UInt8) : cutL c (l ++ [x]) = (cutL c l).dropLast ++ [(cutL c l).getLastD [] ++ [x]] := by
  induction l with
  | nil => simp [cutL, hx]
  | cons y r ih =>
    obtain ⟨h, t, e⟩ := cutL_form c r
    by_cases hy : y = c
    · subst hy
      rw [List.cons_append, cutL_hit, cutL_hit, ih, e]
      simp
    · rw [List.cons_append, cutL_miss hy, cutL_miss hy, ih, e]
      cases t with
      | nil => simp
      | cons a t => simp

/-- What strings.Cut tells: the first text between, and the rest. -/
theorem cutL_some {c : UInt8} {l a b : List UInt8} (h : l = a ++ c :: b) (ha : c ∉ a) : cutL c l = a :: cutL c b := by
  subst h; exact cutL_append_hit ha b

theorem index_one_none {c : UInt8} {l : List UInt8} (h : c ∉ l) : Lib.index l [c] = -1 := by
  induction l with
  | nil => rfl
  | cons x r ih =>
    have hx : x ≠ c := fun e => h (by simp [e])
    have hr : c ∉ r := fun e => h (List.mem_cons_of_mem _ e)
    unfold Lib.index
    rw [ih hr]
    have hp : List.isPrefixOf [c] (x :: r) = false := by simp [List.isPrefixOf]; exact fun e => hx e.symm
    rw [hp]; rfl
theorem index_one_some {c : UInt8} {a : List UInt8} (h : c ∉ a) (b : List UInt8) : Lib.index (a ++ c :: b) [c] = a.length := by
  induction a with
  | nil => simp [Lib.index, List.isPrefixOf]
  | cons x a ih =>
    have hx : x ≠ c := fun e => h (by simp [e])
    have hr : c ∉ a := fun e => h (List.mem_cons_of_mem _ e)
    rw [List.cons_append]
    unfold Lib.index
    rw [ih hr]
    have hp : List.isPrefixOf [c] (x :: (a ++ c :: b)) = false := by simp [List.isPrefixOf]; exact fun e => hx e.symm
    rw [hp]
    have hn : ((a.length : Int) == -1) = false := by rw [beq_eq_false_iff_ne]; omega
    rw [hn]; simp

theorem first_hit {c : UInt8} {l : List UInt8} (h : c ∈ l) : ∃ a b, l = a ++ c :: b ∧ c ∉ a := by
  induction l with
  | nil => cases h
  | cons x r ih =>
    by_cases hx : x = c
    · exact ⟨[], r, by simp [hx], by simp⟩
    · have hr : c ∈ r := by
        rcases List.mem_cons.1 h with e | e
        · exact absurd e.symm hx
        · exact e
      obtain ⟨a, b, e, ha⟩ := ih hr
      refine ⟨x :: a, b, by rw [e]; rfl, ?_⟩
      simp only [List.mem_cons, not_or]
      exact ⟨fun e => hx e.symm, ha⟩

theorem cut_one_none {c : UInt8} {l : List UInt8} (h : c ∉ l) : Lib.cut l [c] = (l, [], false) := by
  unfold Lib.cut; rw [index_one_none h]; rfl
theorem cut_one_some {c : UInt8} {a : List UInt8} (h : c ∉ a) (b : List UInt8) : Lib.cut (a ++ c :: b) [c] = (a, b, true) := by
  unfold Lib.cut
  rw [index_one_some h, if_pos (by omega)]
  simp

/-- strings.Split at one byte. -/
theorem splitK_one (c : UInt8) : ∀ (n : Nat) (l : List UInt8), l.count c ≤ n → Lib.splitK [c] 0 n l = cutL c l := by
  intro n
  induction n with
  | zero =>
    intro l hl
    have hc : c ∉ l := by
      intro hm
      have := List.count_pos_iff.2 hm
      omega
    rw [cutL_clean hc]; rfl
  | succ n ih =>
    intro l hl
    by_cases hm : c ∈ l
    · obtain ⟨a, b, rfl, ha⟩ := first_hit hm
      unfold Lib.splitK
      rw [index_one_some ha, cutL_append_hit ha]
      have hn : ((a.length : Int) == -1) = false := by rw [beq_eq_false_iff_ne]; omega
      rw [hn]
      have hb : b.count c ≤ n := by
        rw [List.count_append, List.count_cons_self] at hl; omega
      simp [ih b hb]
    · unfold Lib.splitK
      rw [index_one_none hm, cutL_clean hm]; rfl
theorem split_one (c : UInt8) (l : List UInt8) : Lib.split l [c] = cutL c l := by
  unfold Lib.split
  exact splitK_one c _ l (by rw [Lib.count_one]; exact Nat.le_refl _)

/-! ### Joining -/
def joinL (c : UInt8) : List (List UInt8) → List UInt8
  | [] => []
  | [x] => x
  | x :: y :: r => x ++ c :: joinL c (y :: r)
theorem joinL_cons (c : UInt8) (x : List UInt8) {r : List (List UInt8)} (h : r ≠ []) : joinL c (x :: r) = x ++ c :: joinL c r := by
  cases r with
  | nil => exact absurd rfl h
  | cons y r => rfl
theorem join_one_byte (c : UInt8) (l : List (List UInt8)) : Lib.join l [c] = joinL c l := by
  induction l with
  | nil => rfl
  | cons x r ih =>
    cases r with
    | nil => exact Lib.join_one x [c]
    | cons y r =>
      rw [Lib.join_cons]
      rw [Lib.join_cons] at ih
      show _ = x ++ c :: joinL c (y :: r)
      rw [← ih]
      simp [Lib.joinTail]
theorem joinL_cutL (c : UInt8) (l : List UInt8) : joinL c (cutL c l) = l := by
  induction l with
  | nil => rfl
  | cons x r ih =>
    obtain ⟨h, t, e⟩ := cutL_form c r
    by_cases hx : x = c
    · subst hx; rw [cutL_hit, joinL_cons _ _ (cutL_ne _ _), ih]; rfl
    · rw [cutL_miss hx, e]
      rw [e] at ih
      simp only [List.headD_cons, List.tail_cons]
      cases t with
      | nil => simp only [joinL] at ih ⊢; rw [ih]
      | cons a t => rw [joinL_cons _ _ (List.cons_ne_nil _ _)] at ih ⊢; rw [List.cons_append, ih]
theorem cutL_joinL {c : UInt8} {l : List (List UInt8)} (hne : l ≠ []) (h : ∀ x ∈ l, c ∉ x) : cutL c (joinL c l) = l := by
  induction l with
  | nil => exact absurd rfl hne
  | cons x r ih =>
    have hx := h x (List.mem_cons_self ..)
    cases r with
    | nil => exact cutL_clean hx
    | cons y r =>
      rw [joinL_cons _ _ (List.cons_ne_nil _ _), cutL_append_hit hx, ih (List.cons_ne_nil _ _) (fun z hz => h z (List.mem_cons_of_mem _ hz))]
theorem joinL_snoc (c : UInt8) {l : List (List UInt8)} (h : l ≠ []) (x : List UInt8) : joinL c (l ++ [x]) = joinL c l ++ c :: x := by
  induction l with
  | nil => exact absurd rfl h
  | cons y r ih =>
    cases r with
    | nil => rfl
    | cons z r =>
      rw [List.cons_append, joinL_cons _ _ (by simp), ih (List.cons_ne_nil _ _), joinL_cons _ _ (List.cons_ne_nil _ _)]
      simp [List.append_assoc]
theorem joinL_length (c : UInt8) (l : List (List UInt8)) : (joinL c l).length ≤ (l.map fun x => 1 + x.length).sum := by
  induction l with
  | nil => simp [joinL]
  | cons x r ih =>
    cases r with
    | nil => simp only [joinL, List.map_cons, List.map_nil, List.sum_cons, List.sum_nil]; omega
    | cons y r =>
      rw [joinL_cons _ _ (List.cons_ne_nil _ _)]
      rw [List.map_cons, List.sum_cons]
      simp only [List.length_append, List.length_cons] at ih ⊢
      omega
theorem cutL_part_le (c : UInt8) (l : List UInt8) : ∀ x ∈ cutL c l, x.length ≤ l.length := by
  induction l with
  | nil => simp [cutL]
  | cons y r ih =>
    obtain ⟨h, t, e⟩ := cutL_form c r
    rw [e] at ih
    by_cases hy : y = c
    · subst hy
      rw [cutL_hit, e]
      intro x hx
      rcases List.mem_cons.1 hx with rfl | hx
      · simp
      · have := ih x hx; simp only [List.length_cons]; omega
    · rw [cutL_miss hy, e]
      intro x hx
      rcases List.mem_cons.1 hx with rfl | hx
      · have := ih h (List.mem_cons_self ..); simp only [List.headD_cons, List.length_cons]; omega
      · have := ih x (List.mem_cons_of_mem _ hx); simp only [List.length_cons]; omega
end Go.Proofs.YtoloooammaiipaaDoor
/- Small lemmas that the contracts of this seat's functions use: rows of bytes that the code has just laid; no conditions. -/
namespace Go.Proofs.YtoloooammaiipaaDoor
open Go Go.RowKit Go.Proofs.YtoloooammaiipaaDoorW.PrintWords Go.Proofs.YtoloooammaiipaaDoorW.PrintLast Go.Proofs.YtoloooammaiipaaDoorW.PrintMore

/-- A text of some bytes. -/
def strOf (l : List UInt8) : ByteArray := ⟨l.toArray⟩
theorem indexByte_miss {c : UInt8} {l : List UInt8} (h : c ∉ l) : Lib.indexByte l c = -1 := by
  induction l with
  | nil => rfl
  | cons x r ih =>
    have hx : (x == c) = false := beq_eq_false_iff_ne.2 (fun e => h (by simp [e]))
    unfold Lib.indexByte
    rw [hx, ih (fun e => h (List.mem_cons_of_mem _ e))]; rfl
theorem indexByte_hit {c : UInt8} {a : List UInt8} (h : c ∉ a) (b : List UInt8) : Lib.indexByte (a ++ c :: b) c = a.length := by
  induction a with
  | nil => simp [Lib.indexByte]
  | cons x a ih =>
    have hx : (x == c) = false := beq_eq_false_iff_ne.2 (fun e => h (by simp [e]))
    rw [List.cons_append]
    unfold Lib.indexByte
    rw [hx, ih (fun e => h (List.mem_cons_of_mem _ e))]
    have hn : ((a.length : Int) == -1) = false := by rw [beq_eq_false_iff_ne]; omega
    rw [hn]; simp
theorem cell_of_cells {W : World} {g : Nat} {cs : Array Value} {t : TypeId} {fr : Nat × Nat} (h : W.heap[g]? = some (.cells cs t fr)) (i : Nat) : W.cell? ⟨g, i, none⟩ = cs[i]? := cell_of_row W g i cs t fr h
theorem heap_new (w : World) (o : Obj) : (w.alloc o).heap[w.heap.size]? = some o := by
  show (w.heap.push o)[w.heap.size]? = _
  simp
theorem nums_get (xs : List Int) (j : Nat) (h : j < xs.length) : ((nums .u8 xs).toArray)[j]? = some (.int .u8 (xs.getD j 0)) := by
  simp [nums, h]
/-- A row of bytes at a block's head. -/
theorem C_block {W : World} {g : Nat} {t : TypeId} {fr : Nat × Nat} {xs : List Int} (hl : xs.length ≤ 9223372036854775807) (h : W.heap[g]? = some (.cells (nums .u8 xs).toArray t fr)) :
    Kd.C (Kd.int .u8) W (some ⟨g, 0, none⟩) xs.length xs := by
  refine Kd.C_of_reads (enc := Value.int .u8) (d := (0 : Int)) (h1 := fun _ => rfl) ⟨rfl, hl, fun _ => ⟨_, rfl, fun j hj => ?_⟩⟩
  rw [add_plain, cell_of_cells h, nums_get xs j hj]
/-- What is cut from the front of a row that reads, up to m. -/
theorem C_take {W : World} {A : Option Addr} {xs : List Int} (h : Kd.C (Kd.int .u8) W A xs.length xs) {m : Nat} (hm : m ≤ xs.length) : Kd.C (Kd.int .u8) W A (xs.take m).length (xs.take m) := by
  have hr := Kd.reads_of_C (enc := Value.int .u8) (d := (0 : Int)) (h1 := fun _ => rfl) h
  obtain ⟨_, h2, h3⟩ := hr
  have hlen : (xs.take m).length = m := by rw [List.length_take]; omega
  refine Kd.C_of_reads (enc := Value.int .u8) (d := (0 : Int)) (h1 := fun _ => rfl) ⟨rfl, by omega, fun hp => ?_⟩
  rw [hlen] at hp ⊢
  obtain ⟨ad, e, hc⟩ := h3 (by omega)
  refine ⟨ad, e, fun j hj => ?_⟩
  rw [hc j (by omega)]
  simp [hj]
/-- The cells of a row that reads. -/
theorem C_cell {W : World} {A : Option Addr} {n : Nat} {xs : List Int} (h : Kd.C (Kd.int .u8) W A n xs) {j : Nat} (hj : j < n) : ∃ ad, A = some ad ∧ W.cell? (ad.add j) = some (.int .u8 (rd xs j)) := by
  obtain ⟨ad, e, hc⟩ := Kd.at_int h (j : Int) (by omega) (by omega)
  exact ⟨ad, e, by simpa using hc⟩
theorem cell_alloc_old {w : World} {a : Addr} {v : Value} (o : Obj) (h : w.cell? a = some v) : (w.alloc o).cell? a = some v :=
  (World.cell?_alloc_lt w o a (World.block_lt_of_cell? w a h)).trans h
theorem str_list (xs : List Int) : (strOfNums xs).toList = Lib.bytesOf xs := by
  rw [Lib.toList_data]
  simp [strOfNums, Lib.bytesOf]
theorem str_data (xs : List Int) : (strOfNums xs).data.toList = Lib.bytesOf xs := by simp [strOfNums, Lib.bytesOf]
/-- What a call that makes memory leaves as it was, as rules for the walk. -/
theorem below_reads {W w1 : World} (hb : Below W.heap.size W w1) : (∀ b o, b < W.heap.size → w1.cell? ⟨b, o, none⟩ = W.cell? ⟨b, o, none⟩) ∧ (∀ b o, b < W.heap.size → w1.frozen? ⟨b, o, none⟩ = W.frozen? ⟨b, o, none⟩) :=
  ⟨fun b o h => hb.cell (p := ⟨b, o, none⟩) h, fun b o h => hb.frozen (p := ⟨b, o, none⟩) h⟩
theorem alloc_dN (w : World) (n : Nat) (o : Obj) : (w.drewN n).alloc o = (w.alloc o).drewN n := rfl
theorem setCell_dN (w : World) (n : Nat) (a : Addr) (v : Value) : (w.drewN n).setCell a v = (w.setCell a v).drewN n := rfl
theorem shape_dN (w : World) (n : Nat) (r : Nat) : (w.drewN n).shape? r = w.shape? r := rfl
/-- The walk goes on from a world of which only S is known. -/
theorem at_world {P : Program} {c : Code} {Q : Exit → Act → World → Prop} {a : Act} {W0 : World} (S : World → Prop) (h0 : S W0) (h : ∀ W, S W → c.wp P Q a W) : c.wp P Q a W0 := h W0 h0
theorem heap_old {w : World} {g : Nat} {x : Obj} (o : Obj) (h : w.heap[g]? = some x) : (w.alloc o).heap[g]? = some x :=
  (Below.heap_alloc w o g (Array.getElem?_eq_some_iff.1 h).1).trans h
theorem frozen_of_cells {W : World} {g : Nat} {cs : Array Value} {t : TypeId} (h : W.heap[g]? = some (.cells cs t (0, 0))) (i : Nat) : W.frozen? ⟨g, i, none⟩ = false := by
  simp [World.frozen?, h]
/-! ### Conversions to bytes, in the form of a call's contract -/
def ConvLit (P : Program) (t e : TypeId) (C : Array Value) (n : Nat) (W : World) (R : Ending → World → Prop) : Prop :=
  ∃ v w', (convert t t (.slice (some ⟨W.heap.size, 0, none⟩) n n)).run P (W.alloc (.cells C e)) = .ok v w' ∧ R (.returned v) w'
theorem ConvLit.mono {P : Program} {t e : TypeId} {C : Array Value} {n : Nat} {W : World} {R R' : Ending → World → Prop} (h : ConvLit P t e C n W R) (hr : ∀ x w', R x w' → R' x w') : ConvLit P t e C n W R' := by
  obtain ⟨v, w', h1, h2⟩ := h
  exact ⟨v, w', h1, hr _ _ h2⟩
def ConvStr (P : Program) (s t : TypeId) (x : ByteArray) (W : World) (R : Ending → World → Prop) : Prop :=
  ∃ v w', (convert s t (.string x)).run P W = .ok v w' ∧ R (.returned v) w'
theorem ConvStr.mono {P : Program} {s t : TypeId} {x : ByteArray} {W : World} {R R' : Ending → World → Prop} (h : ConvStr P s t x W R) (hr : ∀ x w', R x w' → R' x w') : ConvStr P s t x W R' := by
  obtain ⟨v, w', h1, h2⟩ := h
  exact ⟨v, w', h1, hr _ _ h2⟩
theorem V_block {W w' : World} {g : Nat} {t : TypeId} {c : Nat} {cs : Array Value} {e : TypeId} {fr : Nat × Nat} {xs : List Int} (hl : xs.length ≤ 9223372036854775807) (hc : xs.length ≤ c)
    (h : w'.heap[g]? = some (.cells cs e fr)) (hcs : ∀ j, j < xs.length → cs[j]? = some (.int .u8 (xs.getD j 0))) (hg : W.heap.size ≤ g) :
    Kd.V (Kd.int .u8) t w' W.heap.size (fun k_ => W.heap.size ≤ k_) (.slice (some ⟨g, 0, none⟩) xs.length c) xs := by
  refine Kd.V_mk hc (fun W' hW => ?_)
  refine Kd.C_of_reads (enc := Value.int .u8) (d := (0 : Int)) (h1 := fun _ => rfl) ⟨rfl, hl, fun _ => ⟨_, rfl, fun j hj => ?_⟩⟩
  have hW' : W'.heap[g]? = w'.heap[g]? := hW g hg (Array.getElem?_eq_some_iff.1 h).1
  rw [add_plain, cell_of_cells (hW'.trans h), hcs j hj]
theorem conv_lit {P : Program} {t e : TypeId} (ht : P.underlying t = some (.slice e)) (he : P.underlying e = some (.int .u8)) (xs : List Int) (hl : xs.length ≤ 9223372036854775807) {w : World} :
    ConvLit P t e (nums .u8 xs).toArray xs.length w fun x w' => ∃ v0_ : Value, x = .returned v0_ ∧ Kd.V (Kd.int .u8) e w' w.heap.size (fun k_ => w.heap.size ≤ k_) v0_ xs ∧ Below w.heap.size w w' :=
  ⟨_, _, Lib.run_convert_bytes_const w t e _ _ _ ht he, _, rfl, V_block hl (Nat.le_refl _) (heap_new w _) (fun j hj => nums_get xs j hj) (Nat.le_refl _), (Below.refl _ w).alloc (Nat.le_refl _) _⟩
theorem conv_str {P : Program} {s t e : TypeId} (hs : P.underlying s = some .string) (ht : P.underlying t = some (.slice e)) (he : P.underlying e = some (.int .u8)) (x : ByteArray) (hl : x.size ≤ 9223372036854775807) {w : World} :
    ConvStr P s t x w fun y w' => ∃ v0_ : Value, y = .returned v0_ ∧ Kd.V (Kd.int .u8) e w' w.heap.size (fun k_ => w.heap.size ≤ k_) v0_ (bytesOf x) ∧ Below w.heap.size w w' := by
  have hsz : (bytesOf x).length = x.size := by simp [bytesOf]
  refine ⟨_, _, Lib.run_convert_string_bytes w s t e x hs ht he, _, rfl, ?_, ?_⟩
  · have hcell : ∀ j, j < (bytesOf x).length → (Lib.bytesCells w e x)[j]? = some (.int .u8 ((bytesOf x).getD j 0)) := fun j hj => by
      have h1 := Lib.bytesWorld_cell w e x j (by omega)
      rw [cell_of_cells (Lib.bytesWorld_at_new w e x)] at h1
      rw [h1]
      have hj' : j < x.data.size := by rw [hsz] at hj; exact hj
      have hg : x.data[j]? = some (x.data[j]'hj') := Array.getElem?_eq_getElem hj'
      simp only [bytesOf, List.getD_eq_getElem?_getD, List.getElem?_map, Array.getElem?_toList, hg]
      rfl
    have := V_block (W := w) (w' := Lib.bytesWorld w e x) (t := e) (c := grownCap w x.size 0 e) (xs := bytesOf x) (by omega) (by rw [hsz]; exact grownCap_ge _ _ _ _) (Lib.bytesWorld_at_new w e x) hcell (Nat.le_refl _)
    rwa [hsz] at this
  · exact ⟨rfl, rfl, rfl, by rw [Lib.bytesWorld_size]; omega, fun k hk => Lib.bytesWorld_at_old w e x k hk⟩
section
variable {P : Program} {ops : Array Oper} {Q : Exit → Act → World → Prop} {rest : List Oper} {o : Oper} {a : Act}
theorem goesLit_ {W : World} {t e : TypeId} {C : Array Value} {n g : Nat} {x : Operand} {N : Option Tmp} (hgd : o.guard = none) (hd : o.dst = N) (hop : o.op = .convert t t x) (hx : a.eval x = .slice (some ⟨g, 0, none⟩) n n) (hg : g = W.heap.size)
    (h : ConvLit P t e C n W fun y w' => ∃ v, y = .returned v ∧ wpList P ops Q rest (a.put N v) w') : wpList P ops Q (o :: rest) a (W.alloc (.cells C e)) := by
  obtain ⟨v, w', h1, v', hv, h2⟩ := h
  cases hv
  subst hg hd
  refine Kd.event_run hgd ?_ h2
  unfold execOp
  simp only [hop, hx, Sem.run_bind, h1]
  simp [Result.andThen]
theorem goesStr_ {W : World} {s t : TypeId} {b : ByteArray} {x : Operand} {N : Option Tmp} (hgd : o.guard = none) (hd : o.dst = N) (hop : o.op = .convert s t x) (hx : a.eval x = .string b)
    (h : ConvStr P s t b W fun y w' => ∃ v, y = .returned v ∧ wpList P ops Q rest (a.put N v) w') : wpList P ops Q (o :: rest) a W := by
  obtain ⟨v, w', h1, v', hv, h2⟩ := h
  cases hv
  subst hd
  refine Kd.event_run hgd ?_ h2
  unfold execOp
  simp only [hop, hx, Sem.run_bind, h1]
  simp [Result.andThen]
end
/-- A row of bytes of the call's own read as a string, behind draws too. -/
theorem own_string_dN {P : Program} {w : World} {base n : Nat} {e' src dst e : TypeId} {v : Value} {xs : List Int} (hs : P.underlying src = some (.slice e)) (he : P.underlying e = some (.int .u8)) (hd : P.underlying dst = some .string)
    (h : w.ownsRow base e' 1 v n (nums .u8 xs)) : (convert src dst v).run P w = .ok (.string (strOfNums xs)) w ∧ ∀ m : Nat, (convert src dst v).run P (w.drewN m) = .ok (.string (strOfNums xs)) (w.drewN m) :=
  ⟨own_string hs he hd h, fun m => own_string (w := w.drewN m) hs he hd h⟩
/-! ### Short names, for the printed texts -/
theorem sA_ {α : Type} (l : List α) (i : Nat) (a : α) : l.toArray.setIfInBounds i a = (l.set i a).toArray := List.setIfInBounds_toArray ..
theorem s0_ {α : Type} (x : α) (l : List α) (a : α) : (x :: l).set 0 a = a :: l := rfl
theorem s1_ {α : Type} (x : α) (l : List α) (n : Nat) (a : α) : (x :: l).set (n + 1) a = x :: l.set n a := rfl
theorem kN {w : World} {g : Nat} {o : Obj} (h : w.heap[g]? = some o) (n : Nat) : (w.drewN n).heap[g]? = some o := blk_drewN h n
theorem kD {w : World} {g : Nat} {o : Obj} (h : w.heap[g]? = some o) : w.drew.heap[g]? = some o := blk_drew h
theorem kA {w : World} {g : Nat} {o : Obj} (h : w.heap[g]? = some o) (o' : Obj) : (w.alloc o').heap[g]? = some o := blk_alloc h o'
theorem bA {w W : World} (h : Below w.heap.size w W) (o : Obj) : Below w.heap.size w (W.alloc o) := below_alloc h o
theorem bN {B : Nat} {w W : World} (h : Below B w W) (n : Nat) : Below B w (W.drewN n) := pw_below_drewN h n
theorem bD {base : Nat} {w W : World} (h : Below base w W) : Below base w W.drew := below_drew1 h
theorem cF {W : World} {p a : Addr} (h : a.block ≠ p.block) (u : Value) : (W.setCell p u).cell? a = W.cell? a := Go.Proofs.YtoloooammaiipaaDoorW.PrintWords.cell_far h u
end Go.Proofs.YtoloooammaiipaaDoor
/- A range over a function whose iterator keeps a variable of its own in memory (block Bs) and whose loop body always goes on: what the caller holds between two rounds comes out at the end; the conditions are those of the theorem. -/
namespace Go.Proofs.YtoloooammaiipaaDoor
open Go Go.RowKit

/-- What minds neither the iterator's own variable nor what is no row of cells. -/
def Steady {β : Type} (Bs B : Nat) (I : β → World → Prop) : Prop :=
  ∀ s W W' row, I s W → W.grownBy W' row → (∀ r, row = some r → r = Bs ∨ B ≤ r ∧ ∃ o : Obj, W.heap[r]? = some o ∧ o.isCells = false) → I s W'
theorem Steady.put {β : Type} {Bs B : Nat} {I : β → World → Prop} (h : Steady Bs B I) {s : β} {W : World} {l : Nat} {o : Obj} (o' : Obj) (hs : I s W) (hB : B ≤ l) (hl : W.heap[l]? = some o) (ho : o.isCells = false) : I s (W.putObj l o') :=
  h s W _ (some l) hs (grownBy_putObj' W l o') (fun r e => by cases e; exact .inr ⟨hB, o, hl, ho⟩)
theorem Steady.new {β : Type} {Bs B : Nat} {I : β → World → Prop} (h : Steady Bs B I) {s : β} {W : World} (o : Obj) (hs : I s W) : I s (W.alloc o) :=
  h s W _ none hs (World.grownBy_alloc W o none) (fun r e => by cases e)

/-- How a round's body ends: it goes on. -/
def onward (I : World → Prop) (Bs Bc : Nat) (W : World) : Exit → Act → World → Prop
  | .normal, _, W' => KeepsOthers W W' ∧ W'.heap[Bs]? = W.heap[Bs]? ∧ W'.heap[Bc]? = W.heap[Bc]? ∧ I W'
  | _, _, _ => False

/-- The walk goes on from a world of which only S is known. -/
theorem at_worldIn {F : Fence} {n : Nat} {P : Program} {c : Code} {Q : Exit → Act → World → Prop} {a : Act} {W0 : World} (S : World → Prop) (h0 : S W0) (h : ∀ W, S W → c.wpIn F n P Q a W) : c.wpIn F n P Q a W0 := h W0 h0
theorem range_all {α : Type} {P : Program} {g : Operand} {ps : Array Tmp} {assign body : Code} {Q : Exit → Act → World → Prop} {a : Act} {w : World} {Bs Bc gf : Nat} {lb : Array Value}
    (hg : a.eval g = .func (.func gf) #[] lb) (eg : ∀ args w, (callFunc gf args).run P w = .ok (.enter gf args) w) (enc : α → Value) (hps : ps.size = 1) (hBs : Bs < w.heap.size) (hBc : Bc < w.heap.size)
    (S Ok : List α → Prop) (I : List α → World → Prop) (hI : Steady Bs w.heap.size I) (h0 : I [] w)
    (hiter : ∀ (l : Nat) (J : List α → World → Prop) (W : World), W.heap[Bs]? = w.heap[Bs]? → W.heap[Bc]? = w.heap[Bc]? → (∀ pre W W', J pre W → W.grownBy W' (some Bs) → J pre W') →
      (∀ pre x W, Ok (pre ++ [x]) → J pre W → YieldAt Fence.wide 0 P l #[enc x] W fun e W' => e = .returned (.bool true) ∧ J (pre ++ [x]) W' ∧ W'.heap[Bs]? = W.heap[Bs]? ∧ W'.heap[Bc]? = W.heap[Bc]?) → J [] W →
      CallsIn Fence.wide 1 P gf (#[.func (.yield l) #[] #[]] ++ lb) W fun e W' => (∃ v, e = .returned v) ∧ ∃ ys, S ys ∧ J ys W')
    (a₁ : α → Act)
    (hassign : ∀ (l : Nat) (x : α) (W : World) (K : Act → World → Prop), K (a₁ x) W →
      assign.wpIn (Fence.wide.inRound l) 0 P (Exit.then K (fun _ _ _ => False)) { tmps := (ps.zip #[enc x]).foldl (fun t (p, v) => t.setIfInBounds p v) a.tmps, defers := [] } W)
    (hbody : ∀ (l : Nat) (pre : List α) (x : α) (W : World), Ok (pre ++ [x]) → I pre W → body.wpIn (Fence.wide.inRound l) 0 P (onward (I (pre ++ [x])) Bs Bc W) (a₁ x) W)
    (hdone : ∀ (D : Nat) (xs : List α) (W : World), S xs → I xs W → w.heap.size ≤ D → W.heap[D]? = some (.deferred (some [])) → Q .normal { a with defers := { target := .collected D, args := #[] } :: a.defers } W) :
    (Code.rangeFunc g ps assign body).wpIn Fence.wide 2 P Q a w := by
  refine wpIn_rangeFunc fun fn _ => ?_
  obtain ⟨rec, hrec⟩ : ∃ rec : LoopState → Loop, rec = fun st => { state := st, pending := none, fn, tmps := a.tmps, params := ps, assign, body, defers := w.heap.size } := ⟨_, rfl⟩
  have hnew : ((w.alloc (.deferred (some []))).alloc (.loop (rec .ready))).heap[w.heap.size + 1]? = some (.loop (rec .ready)) := by
    have := heap_new (w.alloc (.deferred (some []))) (.loop (rec .ready))
    rwa [World.size_alloc] at this
  have hdef : ((w.alloc (.deferred (some []))).alloc (.loop (rec .ready))).heap[w.heap.size]? = some (.deferred (some [])) := heap_old _ (heap_new w _)
  refine ⟨w.heap.size + 1, [{ target := .collected w.heap.size, args := #[] }], (w.alloc (.deferred (some []))).alloc (.loop (rec .ready)), { target := .fn (.func gf) lb, args := #[.func (.yield (w.heap.size + 1)) #[] #[]] }, (w.alloc (.deferred (some []))).alloc (.loop (rec .ready)), gf,
    #[.func (.yield (w.heap.size + 1)) #[] #[]] ++ lb, (w.alloc (.deferred (some []))).alloc (.loop (rec .ready)), by rw [hrec]; exact run_enterLoop_outer _ _ _ _ _, by simp only [resolve, hg]; simp [go_sem], fun _ _ => trivial, by simp [invoke, go_sem, eg], fun _ => by decide, ?_⟩
  have hold : ∀ k, k < w.heap.size → ((w.alloc (.deferred (some []))).alloc (.loop (rec .ready))).heap[k]? = w.heap[k]? := fun k hk =>
    (Below.heap_alloc _ _ k (by simp; omega)).trans (Below.heap_alloc w _ k hk)
  refine (hiter (w.heap.size + 1) (fun pre W => I pre W ∧ W.heap[w.heap.size + 1]? = some (.loop (rec .ready)) ∧ W.heap[w.heap.size]? = some (.deferred (some []))) _ (hold Bs hBs) (hold Bc hBc) ?_ ?_ ⟨hI.new _ (hI.new _ h0), hnew, hdef⟩).mono ?_
  · -- a step of the iterator's own
    rintro pre W W' ⟨h1, h2, h3⟩ hgr
    refine ⟨hI _ W W' _ h1 hgr (fun r e => by cases e; exact .inl rfl), ?_, ?_⟩
    · exact (hgr.block _ (Array.getElem?_eq_some_iff.1 h2).1 (fun e => by injection e with e; omega)).trans h2
    · exact (hgr.block _ (Array.getElem?_eq_some_iff.1 h3).1 (fun e => by injection e with e; omega)).trans h3
  · -- one round
    rintro pre x W hok ⟨h1, h2, h3⟩
    have hlt : w.heap.size + 1 < W.heap.size := (Array.getElem?_eq_some_iff.1 h2).1
    have hy := run_yield (P := P) (args := #[enc x]) h2 (by rw [hrec]; exact hps.symm)
    have hbeg := run_beginRound (P := P) h2 (by rw [hrec])
    have hbusy : (W.putObj (w.heap.size + 1) (.loop { rec .ready with state := .busy })).heap[w.heap.size + 1]? = some (.loop { rec .ready with state := .busy }) := World.putObj_heap_same hlt
    have hfar : ∀ (V : World) (o : Obj) (k : Nat), k ≠ w.heap.size + 1 → (V.putObj (w.heap.size + 1) o).heap[k]? = V.heap[k]? := fun V o k hk => World.putObj_heap_other hk
    rw [hrec] at hy
    refine ⟨fn, _, assign, body, hy, roundIn_of_wpIn trivial (hassign _ x W _ ⟨_, hbeg, ?_⟩)⟩
    refine wpIn_mono (hbody _ pre x _ hok (hI.put _ h1 (by omega) h2 rfl)) ?_
    intro e a3 W3 hp
    cases e with
    | normal =>
      obtain ⟨hk, hb1, hb2, hi3⟩ := hp
      have hl3 := hk.same _ _ hbusy rfl
      have hd3 := hk.same _ _ ((hfar _ _ _ (by omega)).trans h3) rfl
      have hend := run_endRound (P := P) none hl3
      refine ⟨_, _, hend, rfl, ⟨hI.put _ hi3 (by omega) hl3 rfl, ?_, (hfar _ _ _ (by omega)).trans hd3⟩, ?_, ?_⟩
      · rw [World.putObj_heap_same (Array.getElem?_eq_some_iff.1 hl3).1, hrec]; rfl
      · rw [hfar _ _ _ (by omega), hb1, hfar _ _ _ (by omega)]
      · rw [hfar _ _ _ (by omega), hb2, hfar _ _ _ (by omega)]
    | ret => exact hp.elim
    | exit id => exact hp.elim
    | goto t => exact hp.elim
    | panic ch => exact hp.elim
    | outgrown => exact hp.elim
  · -- behind the iterator
    rintro e W2 ⟨⟨v, rfl⟩, ys, hS, hi, hl, hd⟩
    have hend := run_endLoop (P := P) hl (by rw [hrec]; simp)
    have hp : (rec .ready).pending = none := by rw [hrec]
    rw [hp] at hend
    refine ⟨none, _, hend, ?_⟩
    exact hdone _ ys _ hS (hI.put _ hi (by omega) hl rfl) (Nat.le_refl _) ((World.putObj_heap_other (by omega)).trans hd)
end Go.Proofs.YtoloooammaiipaaDoor
/- A store of a whole struct into a block of its own, as one step of a walk; no conditions. -/
namespace Go.Proofs.YtoloooammaiipaaDoor
open Go Go.RowKit Go.Proofs.YtoloooammaiipaaDoorW.PrintWords Go.Proofs.YtoloooammaiipaaDoorW.PrintLast Go.Proofs.YtoloooammaiipaaDoorW.PrintMore
theorem store_whole {P : Program} {ops : Array Oper} {rest : List Oper} {o : Oper} {a : Act} {Q : Exit → Act → World → Prop} {W : World} (hgd : o.guard = none) (hN : o.dst = none) (t : TypeId) (p x : Operand) (ho : o.op = .store t p x) {g : Nat} {e : TypeId} {cur cs' : Array Value} {u : Value}
    (haddr : a.eval p = .pointer (some ⟨g, 0, none⟩)) (hx : a.eval x = u) (hu : u.cells = cs') (hh : W.heap[g]? = some (.cells cur e (0, 0))) (ht : (P.info? t).map (·.size) = some cs'.size) (hsz : cur.size = cs'.size) (h1 : ∀ q ∈ cs'.toList, q.oneCell' = true)
    (h : ∀ W', W'.heap[g]? = some (.cells cs' e (0, 0)) → (∀ j, j ≠ g → W'.heap[j]? = W.heap[j]?) → W'.heap.size = W.heap.size → (∀ (B : Nat) (w : World), B ≤ g → Below B w W → Below B w W') → wpList P ops Q rest a W') : wpList P ops Q (o :: rest) a W := by
  refine wpList_plain hgd fun K hK => ?_
  have hrun : (Instr.storeAt t (.pointer (some ⟨g, 0, none⟩)) u).run P W = .ok () (W.setCells g 0 cs'.toList) :=
    run_store_run t u cs'.toList hh (by rw [hu]) (by rw [ht, Array.length_toList]) (by rw [Array.length_toList]; omega) h1
  unfold Oper.wp execOp
  simp only [ho, haddr, hx, Sem.run_bind, Sem.run_pure, Result.andThen_ok, hrun]
  show K (a.put o.dst undef) _
  rw [hN]
  obtain ⟨cur', r1, r2, r3⟩ := setCells_row cs'.toList 0 W cur hh (by rw [Array.length_toList]; omega)
  obtain ⟨s1, s2, s3, s4⟩ := setCells_same g cs'.toList 0 W
  have hc : cur' = cs' := by
    apply Array.toList_inj.1
    rw [r3, List.take_zero, List.nil_append, Nat.zero_add, List.drop_of_length_le (by rw [Array.length_toList, Array.length_toList]; omega), List.append_nil]
  rw [hc] at r1
  refine hK a _ (h _ r1 (fun j hj => setCells_far _ _ j hj) s4 (fun B w hB hb => hb.trans ⟨s1, s2, s3, by rw [s4]; exact Nat.le_refl _, fun k hk => setCells_far _ _ k (by omega)⟩))
theorem cell_far {W : World} {p a : Addr} {x : Option Value} (h : p.block ≠ a.block) (v : Value) (hx : W.cell? a = x) : (W.setCell p v).cell? a = x := (World.cell?_setCell_far W p a v h).trans hx
end Go.Proofs.YtoloooammaiipaaDoor
-- Written by a program of this work (the kit's print, with contracts of this work's own taken in) out of the translation. Not trusted: Lean checks it.
namespace Go.Proofs.YtoloooammaiipaaDoor.PI
open Go.RowKit Go.Proofs.YtoloooammaiipaaDoorW.PrintWords Go.Proofs.YtoloooammaiipaaDoorW.PrintLast Go.Proofs.YtoloooammaiipaaDoorW.PrintMore
attribute [local go_sem] max2_int min2_int max_two min_two max_three min_three max_four min_four   -- for this text's walks alone
set_option linter.unusedVariables false
set_option linter.unusedSimpArgs false



def errW : Option Int → Value
  | none => .nilIface
  | some c => .iface 116 (.int .i64 c)
theorem errW_none : errW none = .nilIface := rfl
theorem errW_some (c : Int) : errW (some c) = .iface 116 (.int .i64 c) := rfl

theorem info5 : (Tryd.prog.info? 5).map (fun i => (i.zero, i.size, i.bytes)) = some (some (.int .u8 0), 1, 1) := by kernel_rfl
theorem info9 : (Tryd.prog.info? 9).map (fun i => (i.zero, i.size, i.bytes)) = some (some (.string ⟨#[]⟩), 1, 16) := by kernel_rfl
-- the values' own types
def rd_L3 (xs : List (List Int)) (i : Int) : (List Int) := xs.getD i.toNat ([] : List Int)
theorem at_L3 {w : World} {A : Option Addr} {n : Nat} {xs : List (List Int)} (h : Kd.C (Kd.slice 5 (Kd.int .u8)) w A n xs) (i : Int) (h0 : 0 ≤ i) (h1 : i < n) : ∃ ad A0 c0, A = some ad ∧ w.cell? (ad.add i.toNat) = some (.slice A0 (rd_L3 xs i).length c0) ∧ (rd_L3 xs i).length ≤ c0 ∧ (Kd.int .u8).C w A0 (rd_L3 xs i).length (rd_L3 xs i) := by
  obtain ⟨ad, c, e, _, hK, hc0⟩ := Kd.C_get h ([] : List Int) i h0 h1
  have hc : ∀ j u, c[j]? = some u → w.cell? (ad.add (i.toNat * 1 + j)) = some u := hc0
  obtain ⟨A0, c0, rfl, l0, g0⟩ := hK
  exact ⟨ad, A0, c0, e, by have hq := hc 0 _ rfl; rwa [Nat.mul_one, Nat.add_zero] at hq, l0, g0⟩

/-! #### struct type 29 -/
structure S29 where
  f0 : Int
  f1 : Int
  f2 : Int
  f3 : (List Int)
def z29 : S29 := ⟨(0 : Int), (0 : Int), (0 : Int), ([] : List Int)⟩
def k29 : Kd S29 := Kd.iso (Kd.pair (Kd.int .i64) (Kd.pair (Kd.int .i64) (Kd.pair (Kd.int .i64) (Kd.slice 5 (Kd.int .u8))))) (fun x : S29 => (x.f0, x.f1, x.f2, x.f3))
theorem k29_open {w : World} {x : S29} {cs : List Value} (h : k29.K w x cs) : ∃ A3 c3, cs = [.int .i64 x.f0, .int .i64 x.f1, .int .i64 x.f2, .slice A3 x.f3.length c3] ∧ x.f3.length ≤ c3 ∧ (Kd.int .u8).C w A3 x.f3.length x.f3 := by
  obtain ⟨_, _, rfl, rfl, ⟨_, _, rfl, rfl, ⟨_, _, rfl, rfl, ⟨A3, c3, rfl, l3, g3⟩⟩⟩⟩ := h
  exact ⟨A3, c3, rfl, l3, g3⟩
theorem k29_openM {w : World} {base : Nat} {ok : Nat → Prop} {x : S29} {cs : List Value} (h : k29.M w base ok x cs) : ∃ v3, cs = [.int .i64 x.f0, .int .i64 x.f1, .int .i64 x.f2, v3] ∧ (Kd.int .u8).R 5 w base ok v3 x.f3 := by
  obtain ⟨_, _, rfl, rfl, ⟨_, _, rfl, rfl, ⟨_, _, rfl, rfl, ⟨v3, rfl, g3⟩⟩⟩⟩ := h
  exact ⟨v3, rfl, g3⟩
theorem k29_mk (w : World) (x : S29) {A3 : Option Addr} {c3 : Nat} (l3 : x.f3.length ≤ c3) (g3 : (Kd.int .u8).C w A3 x.f3.length x.f3) : k29.K w x [.int .i64 x.f0, .int .i64 x.f1, .int .i64 x.f2, .slice A3 x.f3.length c3] := ⟨[.int .i64 x.f0], [.int .i64 x.f1, .int .i64 x.f2, .slice A3 x.f3.length c3], rfl, rfl, ⟨[.int .i64 x.f1], [.int .i64 x.f2, .slice A3 x.f3.length c3], rfl, rfl, ⟨[.int .i64 x.f2], [.slice A3 x.f3.length c3], rfl, rfl, ⟨A3, c3, rfl, l3, g3⟩⟩⟩⟩
theorem k29_mkM (w : World) (base : Nat) (ok : Nat → Prop) (x : S29) {v3 : Value} (g3 : (Kd.int .u8).R 5 w base ok v3 x.f3) : k29.M w base ok x [.int .i64 x.f0, .int .i64 x.f1, .int .i64 x.f2, v3] := ⟨[.int .i64 x.f0], [.int .i64 x.f1, .int .i64 x.f2, v3], rfl, rfl, ⟨[.int .i64 x.f1], [.int .i64 x.f2, v3], rfl, rfl, ⟨[.int .i64 x.f2], [v3], rfl, rfl, ⟨v3, rfl, g3⟩⟩⟩⟩
theorem k29_openF {W : World} {ok : Nat → Prop} {x : S29} {cs : List Value} (h : Kd.FK k29 W ok x cs) : ∃ A3 c3, cs = [.int .i64 x.f0, .int .i64 x.f1, .int .i64 x.f2, .slice A3 x.f3.length c3] ∧ x.f3.length ≤ c3 ∧ Kd.F (Kd.int .u8) W ok A3 x.f3.length x.f3 := by
  obtain ⟨A3, c3, rfl, l3, _⟩ := k29_open (Kd.FK_now h)
  exact ⟨A3, c3, rfl, l3, (fun W' hW => by obtain ⟨A3_, c3_, he, l3_, g3_⟩ := k29_open (h W' hW); injection (Option.some.inj (show some (Value.slice A3 x.f3.length c3) = some (Value.slice A3_ x.f3.length c3_) from congrArg (fun l => l[3]?) he)) with ha_ _ _; rw [ha_]; exact g3_)⟩
theorem k29_mkF (W : World) (ok : Nat → Prop) (x : S29) {A3 : Option Addr} {c3 : Nat} (l3 : x.f3.length ≤ c3) (g3 : Kd.F (Kd.int .u8) W ok A3 x.f3.length x.f3) : Kd.FK k29 W ok x [.int .i64 x.f0, .int .i64 x.f1, .int .i64 x.f2, .slice A3 x.f3.length c3] := fun W2 hW => k29_mk W2 x l3 (g3 W2 hW)
def rd_T29 (xs : List S29) (i : Int) : S29 := xs.getD i.toNat z29
theorem at_T29 {w : World} {A : Option Addr} {n : Nat} {xs : List S29} (h : Kd.C k29 w A n xs) (i : Int) (h0 : 0 ≤ i) (h1 : i < n) : ∃ ad A3 c3, A = some ad ∧ w.cell? (ad.add (i.toNat * 4)) = some (.int .i64 (rd_T29 xs i).f0) ∧ w.cell? ⟨(ad.add (i.toNat * 4)).block, (ad.add (i.toNat * 4)).off + 1, none⟩ = some (.int .i64 (rd_T29 xs i).f1) ∧ w.cell? ⟨(ad.add (i.toNat * 4)).block, (ad.add (i.toNat * 4)).off + 2, none⟩ = some (.int .i64 (rd_T29 xs i).f2) ∧ w.cell? ⟨(ad.add (i.toNat * 4)).block, (ad.add (i.toNat * 4)).off + 3, none⟩ = some (.slice A3 (rd_T29 xs i).f3.length c3) ∧ (rd_T29 xs i).f3.length ≤ c3 ∧ (Kd.int .u8).C w A3 (rd_T29 xs i).f3.length (rd_T29 xs i).f3 := by
  obtain ⟨ad, c, e, _, hK, hc0⟩ := Kd.C_get h z29 i h0 h1
  have hc : ∀ j u, c[j]? = some u → w.cell? (ad.add (i.toNat * 4 + j)) = some u := hc0
  obtain ⟨A3, c3, rfl, l3, g3⟩ := k29_open hK
  exact ⟨ad, A3, c3, e, hc 0 _ rfl, by rw [← add_field _ _ 1 (by omega)]; exact hc 1 _ rfl, by rw [← add_field _ _ 2 (by omega)]; exact hc 2 _ rfl, by rw [← add_field _ _ 3 (by omega)]; exact hc 3 _ rfl, l3, g3⟩

/-! #### struct type 56 -/
structure S56 where
  f0 : Bool
  f1 : (List Int)
def z56 : S56 := ⟨false, ([] : List Int)⟩
def k56 : Kd S56 := Kd.iso (Kd.pair Kd.bool (Kd.slice 5 (Kd.int .u8))) (fun x : S56 => (x.f0, x.f1))
theorem k56_open {w : World} {x : S56} {cs : List Value} (h : k56.K w x cs) : ∃ A1 c1, cs = [.bool x.f0, .slice A1 x.f1.length c1] ∧ x.f1.length ≤ c1 ∧ (Kd.int .u8).C w A1 x.f1.length x.f1 := by
  obtain ⟨_, _, rfl, rfl, ⟨A1, c1, rfl, l1, g1⟩⟩ := h
  exact ⟨A1, c1, rfl, l1, g1⟩
theorem k56_openM {w : World} {base : Nat} {ok : Nat → Prop} {x : S56} {cs : List Value} (h : k56.M w base ok x cs) : ∃ v1, cs = [.bool x.f0, v1] ∧ (Kd.int .u8).R 5 w base ok v1 x.f1 := by
  obtain ⟨_, _, rfl, rfl, ⟨v1, rfl, g1⟩⟩ := h
  exact ⟨v1, rfl, g1⟩
theorem k56_mk (w : World) (x : S56) {A1 : Option Addr} {c1 : Nat} (l1 : x.f1.length ≤ c1) (g1 : (Kd.int .u8).C w A1 x.f1.length x.f1) : k56.K w x [.bool x.f0, .slice A1 x.f1.length c1] := ⟨[.bool x.f0], [.slice A1 x.f1.length c1], rfl, rfl, ⟨A1, c1, rfl, l1, g1⟩⟩
theorem k56_mkM (w : World) (base : Nat) (ok : Nat → Prop) (x : S56) {v1 : Value} (g1 : (Kd.int .u8).R 5 w base ok v1 x.f1) : k56.M w base ok x [.bool x.f0, v1] := ⟨[.bool x.f0], [v1], rfl, rfl, ⟨v1, rfl, g1⟩⟩
theorem k56_openF {W : World} {ok : Nat → Prop} {x : S56} {cs : List Value} (h : Kd.FK k56 W ok x cs) : ∃ A1 c1, cs = [.bool x.f0, .slice A1 x.f1.length c1] ∧ x.f1.length ≤ c1 ∧ Kd.F (Kd.int .u8) W ok A1 x.f1.length x.f1 := by
  obtain ⟨A1, c1, rfl, l1, _⟩ := k56_open (Kd.FK_now h)
  exact ⟨A1, c1, rfl, l1, (fun W' hW => by obtain ⟨A1_, c1_, he, l1_, g1_⟩ := k56_open (h W' hW); injection (Option.some.inj (show some (Value.slice A1 x.f1.length c1) = some (Value.slice A1_ x.f1.length c1_) from congrArg (fun l => l[1]?) he)) with ha_ _ _; rw [ha_]; exact g1_)⟩
theorem k56_mkF (W : World) (ok : Nat → Prop) (x : S56) {A1 : Option Addr} {c1 : Nat} (l1 : x.f1.length ≤ c1) (g1 : Kd.F (Kd.int .u8) W ok A1 x.f1.length x.f1) : Kd.FK k56 W ok x [.bool x.f0, .slice A1 x.f1.length c1] := fun W2 hW => k56_mk W2 x l1 (g1 W2 hW)
def rd_T56 (xs : List S56) (i : Int) : S56 := xs.getD i.toNat z56
theorem at_T56 {w : World} {A : Option Addr} {n : Nat} {xs : List S56} (h : Kd.C k56 w A n xs) (i : Int) (h0 : 0 ≤ i) (h1 : i < n) : ∃ ad A1 c1, A = some ad ∧ w.cell? (ad.add (i.toNat * 2)) = some (.bool (rd_T56 xs i).f0) ∧ w.cell? ⟨(ad.add (i.toNat * 2)).block, (ad.add (i.toNat * 2)).off + 1, none⟩ = some (.slice A1 (rd_T56 xs i).f1.length c1) ∧ (rd_T56 xs i).f1.length ≤ c1 ∧ (Kd.int .u8).C w A1 (rd_T56 xs i).f1.length (rd_T56 xs i).f1 := by
  obtain ⟨ad, c, e, _, hK, hc0⟩ := Kd.C_get h z56 i h0 h1
  have hc : ∀ j u, c[j]? = some u → w.cell? (ad.add (i.toNat * 2 + j)) = some u := hc0
  obtain ⟨A1, c1, rfl, l1, g1⟩ := k56_open hK
  exact ⟨ad, A1, c1, e, hc 0 _ rfl, by rw [← add_field _ _ 1 (by omega)]; exact hc 1 _ rfl, l1, g1⟩

def rd_L7 (xs : List (List S56)) (i : Int) : (List S56) := xs.getD i.toNat ([] : List S56)
theorem at_L7 {w : World} {A : Option Addr} {n : Nat} {xs : List (List S56)} (h : Kd.C (Kd.slice 56 k56) w A n xs) (i : Int) (h0 : 0 ≤ i) (h1 : i < n) : ∃ ad A0 c0, A = some ad ∧ w.cell? (ad.add i.toNat) = some (.slice A0 (rd_L7 xs i).length c0) ∧ (rd_L7 xs i).length ≤ c0 ∧ k56.C w A0 (rd_L7 xs i).length (rd_L7 xs i) := by
  obtain ⟨ad, c, e, _, hK, hc0⟩ := Kd.C_get h ([] : List S56) i h0 h1
  have hc : ∀ j u, c[j]? = some u → w.cell? (ad.add (i.toNat * 1 + j)) = some u := hc0
  obtain ⟨A0, c0, rfl, l0, g0⟩ := hK
  exact ⟨ad, A0, c0, e, by have hq := hc 0 _ rfl; rwa [Nat.mul_one, Nat.add_zero] at hq, l0, g0⟩

/-! #### struct type 42 -/
structure S42 where
  f0 : S29
  f1 : (List S56)
  f2 : Bool
def z42 : S42 := ⟨z29, ([] : List S56), false⟩
def k42 : Kd S42 := Kd.iso (Kd.pair k29 (Kd.pair (Kd.slice 56 k56) Kd.bool)) (fun x : S42 => (x.f0, x.f1, x.f2))
theorem k42_open {w : World} {x : S42} {cs : List Value} (h : k42.K w x cs) : ∃ A3 c3 A4 c4, cs = [.int .i64 x.f0.f0, .int .i64 x.f0.f1, .int .i64 x.f0.f2, .slice A3 x.f0.f3.length c3, .slice A4 x.f1.length c4, .bool x.f2] ∧ x.f0.f3.length ≤ c3 ∧ (Kd.int .u8).C w A3 x.f0.f3.length x.f0.f3 ∧ x.f1.length ≤ c4 ∧ k56.C w A4 x.f1.length x.f1 := by
  obtain ⟨_, _, rfl, s0, ⟨_, _, rfl, ⟨A4, c4, rfl, l4, g4⟩, rfl⟩⟩ := h
  obtain ⟨A3, c3, rfl, l3, g3⟩ := k29_open s0
  exact ⟨A3, c3, A4, c4, rfl, l3, g3, l4, g4⟩
theorem k42_openM {w : World} {base : Nat} {ok : Nat → Prop} {x : S42} {cs : List Value} (h : k42.M w base ok x cs) : ∃ v3 v4, cs = [.int .i64 x.f0.f0, .int .i64 x.f0.f1, .int .i64 x.f0.f2, v3, v4, .bool x.f2] ∧ (Kd.int .u8).R 5 w base ok v3 x.f0.f3 ∧ k56.R 56 w base ok v4 x.f1 := by
  obtain ⟨_, _, rfl, s0, ⟨_, _, rfl, ⟨v4, rfl, g4⟩, rfl⟩⟩ := h
  obtain ⟨v3, rfl, g3⟩ := k29_openM s0
  exact ⟨v3, v4, rfl, g3, g4⟩
theorem k42_mk (w : World) (x : S42) {A3 : Option Addr} {c3 : Nat} (l3 : x.f0.f3.length ≤ c3) (g3 : (Kd.int .u8).C w A3 x.f0.f3.length x.f0.f3) {A4 : Option Addr} {c4 : Nat} (l4 : x.f1.length ≤ c4) (g4 : k56.C w A4 x.f1.length x.f1) : k42.K w x [.int .i64 x.f0.f0, .int .i64 x.f0.f1, .int .i64 x.f0.f2, .slice A3 x.f0.f3.length c3, .slice A4 x.f1.length c4, .bool x.f2] := ⟨[.int .i64 x.f0.f0, .int .i64 x.f0.f1, .int .i64 x.f0.f2, .slice A3 x.f0.f3.length c3], [.slice A4 x.f1.length c4, .bool x.f2], rfl, (k29_mk w x.f0 l3 g3), ⟨[.slice A4 x.f1.length c4], [.bool x.f2], rfl, ⟨A4, c4, rfl, l4, g4⟩, rfl⟩⟩
theorem k42_mkM (w : World) (base : Nat) (ok : Nat → Prop) (x : S42) {v3 : Value} (g3 : (Kd.int .u8).R 5 w base ok v3 x.f0.f3) {v4 : Value} (g4 : k56.R 56 w base ok v4 x.f1) : k42.M w base ok x [.int .i64 x.f0.f0, .int .i64 x.f0.f1, .int .i64 x.f0.f2, v3, v4, .bool x.f2] := ⟨[.int .i64 x.f0.f0, .int .i64 x.f0.f1, .int .i64 x.f0.f2, v3], [v4, .bool x.f2], rfl, (k29_mkM w base ok x.f0 g3), ⟨[v4], [.bool x.f2], rfl, ⟨v4, rfl, g4⟩, rfl⟩⟩
theorem k42_openF {W : World} {ok : Nat → Prop} {x : S42} {cs : List Value} (h : Kd.FK k42 W ok x cs) : ∃ A3 c3 A4 c4, cs = [.int .i64 x.f0.f0, .int .i64 x.f0.f1, .int .i64 x.f0.f2, .slice A3 x.f0.f3.length c3, .slice A4 x.f1.length c4, .bool x.f2] ∧ x.f0.f3.length ≤ c3 ∧ Kd.F (Kd.int .u8) W ok A3 x.f0.f3.length x.f0.f3 ∧ x.f1.length ≤ c4 ∧ Kd.F k56 W ok A4 x.f1.length x.f1 := by
  obtain ⟨A3, c3, A4, c4, rfl, l3, _, l4, _⟩ := k42_open (Kd.FK_now h)
  exact ⟨A3, c3, A4, c4, rfl, l3, (fun W' hW => by obtain ⟨A3_, c3_, A4_, c4_, he, l3_, g3_, l4_, g4_⟩ := k42_open (h W' hW); injection (Option.some.inj (show some (Value.slice A3 x.f0.f3.length c3) = some (Value.slice A3_ x.f0.f3.length c3_) from congrArg (fun l => l[3]?) he)) with ha_ _ _; rw [ha_]; exact g3_), l4, (fun W' hW => by obtain ⟨A3_, c3_, A4_, c4_, he, l3_, g3_, l4_, g4_⟩ := k42_open (h W' hW); injection (Option.some.inj (show some (Value.slice A4 x.f1.length c4) = some (Value.slice A4_ x.f1.length c4_) from congrArg (fun l => l[4]?) he)) with ha_ _ _; rw [ha_]; exact g4_)⟩
theorem k42_mkF (W : World) (ok : Nat → Prop) (x : S42) {A3 : Option Addr} {c3 : Nat} (l3 : x.f0.f3.length ≤ c3) (g3 : Kd.F (Kd.int .u8) W ok A3 x.f0.f3.length x.f0.f3) {A4 : Option Addr} {c4 : Nat} (l4 : x.f1.length ≤ c4) (g4 : Kd.F k56 W ok A4 x.f1.length x.f1) : Kd.FK k42 W ok x [.int .i64 x.f0.f0, .int .i64 x.f0.f1, .int .i64 x.f0.f2, .slice A3 x.f0.f3.length c3, .slice A4 x.f1.length c4, .bool x.f2] := fun W2 hW => k42_mk W2 x l3 (g3 W2 hW) l4 (g4 W2 hW)
def rd_T42 (xs : List S42) (i : Int) : S42 := xs.getD i.toNat z42
theorem at_T42 {w : World} {A : Option Addr} {n : Nat} {xs : List S42} (h : Kd.C k42 w A n xs) (i : Int) (h0 : 0 ≤ i) (h1 : i < n) : ∃ ad A3 c3 A4 c4, A = some ad ∧ w.cell? (ad.add (i.toNat * 6)) = some (.int .i64 (rd_T42 xs i).f0.f0) ∧ w.cell? ⟨(ad.add (i.toNat * 6)).block, (ad.add (i.toNat * 6)).off + 1, none⟩ = some (.int .i64 (rd_T42 xs i).f0.f1) ∧ w.cell? ⟨(ad.add (i.toNat * 6)).block, (ad.add (i.toNat * 6)).off + 2, none⟩ = some (.int .i64 (rd_T42 xs i).f0.f2) ∧ w.cell? ⟨(ad.add (i.toNat * 6)).block, (ad.add (i.toNat * 6)).off + 3, none⟩ = some (.slice A3 (rd_T42 xs i).f0.f3.length c3) ∧ w.cell? ⟨(ad.add (i.toNat * 6)).block, (ad.add (i.toNat * 6)).off + 4, none⟩ = some (.slice A4 (rd_T42 xs i).f1.length c4) ∧ w.cell? ⟨(ad.add (i.toNat * 6)).block, (ad.add (i.toNat * 6)).off + 5, none⟩ = some (.bool (rd_T42 xs i).f2) ∧ (rd_T42 xs i).f0.f3.length ≤ c3 ∧ (Kd.int .u8).C w A3 (rd_T42 xs i).f0.f3.length (rd_T42 xs i).f0.f3 ∧ (rd_T42 xs i).f1.length ≤ c4 ∧ k56.C w A4 (rd_T42 xs i).f1.length (rd_T42 xs i).f1 := by
  obtain ⟨ad, c, e, _, hK, hc0⟩ := Kd.C_get h z42 i h0 h1
  have hc : ∀ j u, c[j]? = some u → w.cell? (ad.add (i.toNat * 6 + j)) = some u := hc0
  obtain ⟨A3, c3, A4, c4, rfl, l3, g3, l4, g4⟩ := k42_open hK
  exact ⟨ad, A3, c3, A4, c4, e, hc 0 _ rfl, by rw [← add_field _ _ 1 (by omega)]; exact hc 1 _ rfl, by rw [← add_field _ _ 2 (by omega)]; exact hc 2 _ rfl, by rw [← add_field _ _ 3 (by omega)]; exact hc 3 _ rfl, by rw [← add_field _ _ 4 (by omega)]; exact hc 4 _ rfl, by rw [← add_field _ _ 5 (by omega)]; exact hc 5 _ rfl, l3, g3, l4, g4⟩

end Go.Proofs.YtoloooammaiipaaDoor.PI
-- Written by a program of this work (the kit's print, with contracts of this work's own taken in) out of the translation. Not trusted: Lean checks it.
namespace Go.Proofs.YtoloooammaiipaaDoor.PM
open Go.Proofs.YtoloooammaiipaaDoor.PI (S29 z29 k29 k29_open k29_openM k29_mk k29_mkM k29_openF k29_mkF rd_T29 at_T29 S56 z56 k56 k56_open k56_openM k56_mk k56_mkM k56_openF k56_mkF rd_T56 at_T56 S42 z42 k42 k42_open k42_openM k42_mk k42_mkM k42_openF k42_mkF rd_T42 at_T42)
open Go.RowKit Go.Proofs.YtoloooammaiipaaDoorW.PrintWords Go.Proofs.YtoloooammaiipaaDoorW.PrintLast Go.Proofs.YtoloooammaiipaaDoorW.PrintMore
attribute [local go_sem] max2_int min2_int max_two min_two max_three min_three max_four min_four   -- for this text's walks alone
set_option linter.unusedVariables false
set_option linter.unusedSimpArgs false



def errW : Option Int → Value
  | none => .nilIface
  | some c => .iface 116 (.int .i64 c)
theorem errW_none : errW none = .nilIface := rfl
theorem errW_some (c : Int) : errW (some c) = .iface 116 (.int .i64 c) := rfl

theorem info5 : (Tryd.prog.info? 5).map (fun i => (i.zero, i.size, i.bytes)) = some (some (.int .u8 0), 1, 1) := by kernel_rfl
theorem info42 : (Tryd.prog.info? 42).map (fun i => (i.zero, i.size, i.bytes)) = some (some (.agg #[(.int .i64 0), (.int .i64 0), (.int .i64 0), (.slice none 0 0), (.slice none 0 0), (.bool false)]), 6, 80) := by kernel_rfl
-- the values' own types
def rd_L2 (xs : List (List Int)) (i : Int) : (List Int) := xs.getD i.toNat ([] : List Int)
theorem at_L2 {w : World} {A : Option Addr} {n : Nat} {xs : List (List Int)} (h : Kd.C (Kd.slice 5 (Kd.int .u8)) w A n xs) (i : Int) (h0 : 0 ≤ i) (h1 : i < n) : ∃ ad A0 c0, A = some ad ∧ w.cell? (ad.add i.toNat) = some (.slice A0 (rd_L2 xs i).length c0) ∧ (rd_L2 xs i).length ≤ c0 ∧ (Kd.int .u8).C w A0 (rd_L2 xs i).length (rd_L2 xs i) := by
  obtain ⟨ad, c, e, _, hK, hc0⟩ := Kd.C_get h ([] : List Int) i h0 h1
  have hc : ∀ j u, c[j]? = some u → w.cell? (ad.add (i.toNat * 1 + j)) = some u := hc0
  obtain ⟨A0, c0, rfl, l0, g0⟩ := hK
  exact ⟨ad, A0, c0, e, by have hq := hc 0 _ rfl; rwa [Nat.mul_one, Nat.add_zero] at hq, l0, g0⟩

/-! #### struct type 29 -/
/-! #### struct type 56 -/
def rd_L6 (xs : List (List S56)) (i : Int) : (List S56) := xs.getD i.toNat ([] : List S56)
theorem at_L6 {w : World} {A : Option Addr} {n : Nat} {xs : List (List S56)} (h : Kd.C (Kd.slice 56 k56) w A n xs) (i : Int) (h0 : 0 ≤ i) (h1 : i < n) : ∃ ad A0 c0, A = some ad ∧ w.cell? (ad.add i.toNat) = some (.slice A0 (rd_L6 xs i).length c0) ∧ (rd_L6 xs i).length ≤ c0 ∧ k56.C w A0 (rd_L6 xs i).length (rd_L6 xs i) := by
  obtain ⟨ad, c, e, _, hK, hc0⟩ := Kd.C_get h ([] : List S56) i h0 h1
  have hc : ∀ j u, c[j]? = some u → w.cell? (ad.add (i.toNat * 1 + j)) = some u := hc0
  obtain ⟨A0, c0, rfl, l0, g0⟩ := hK
  exact ⟨ad, A0, c0, e, by have hq := hc 0 _ rfl; rwa [Nat.mul_one, Nat.add_zero] at hq, l0, g0⟩

/-! #### struct type 42 -/
end Go.Proofs.YtoloooammaiipaaDoor.PM
/- Texts as lists of bytes, and how much texts count: plain laws; no conditions. -/
namespace Go.Proofs.YtoloooammaiipaaDoor
open Go Go.RowKit Go.Proofs.YtoloooammaiipaaDoorW.PrintWords Go.Proofs.YtoloooammaiipaaDoorW.PrintLast

theorem strOf_data (l : List UInt8) : (strOf l).data.toList = l := by simp [strOf]
theorem strOf_list (l : List UInt8) : (strOf l).toList = l := by rw [Lib.toList_data, strOf_data]
theorem strOf_of (s : ByteArray) : strOf s.data.toList = s := by simp [strOf]
theorem len_size (s : ByteArray) : s.data.toList.length = s.size := by rw [Array.length_toList]; rfl
theorem strOf_size (l : List UInt8) : (strOf l).size = l.length := by rw [← len_size, strOf_data]
theorem bytes_eq {s t : ByteArray} (h : s.data.toList = t.data.toList) : s = t := by rw [← strOf_of s, ← strOf_of t, h]
theorem nil_str : (⟨#[]⟩ : ByteArray) = strOf [] := rfl

theorem byte_str (c : Int) : strOfNums [c] = strOf [UInt8.ofNat c.toNat] := by simp [strOfNums, strOf]
theorem wrap_fit {x : Int} (h0 : -9223372036854775808 ≤ x) (h1 : x ≤ 9223372036854775807) : wrap64 x = x := by unfold wrap64; omega
theorem bt_list (s : ByteArray) (i : Nat) (h : i < s.size) (c : Int) (hc : 0 ≤ c ∧ c ≤ 255) : bt s i = c ↔ (s.data.toList[i]'(by rw [len_size]; exact h) = UInt8.ofNat c.toNat) := by
  have e : bt s i = ((s.data.toList[i]'(by rw [len_size]; exact h)).toNat : Int) := by
    unfold bt
    rw [dif_pos (by simpa using h)]
    rfl
  rw [e]
  constructor
  · intro h1
    rw [← h1, Int.toNat_natCast, UInt8.ofNat_toNat]
  · intro h1
    rw [h1, UInt8.toNat_ofNat']
    omega
theorem take_one (l : List UInt8) (i : Nat) (h : i < l.length) : l.take (i + 1) = l.take i ++ [l[i]] := by rw [List.take_succ_eq_append_getElem h]
theorem strOf_snoc (a b : List UInt8) : strOf (a ++ b) = strOf a ++ strOf b := by
  apply bytes_eq
  rw [strOf_data, ByteArray.data_append, Array.toList_append, strOf_data, strOf_data]
/-- How much some texts count. -/
def bulkOf (l : List ByteArray) : Nat := (l.map (fun s => 1 + s.size)).sum
theorem bulk_cons (x : ByteArray) (l : List ByteArray) : bulkOf (x :: l) = 1 + x.size + bulkOf l := by simp [bulkOf]
theorem bulk_append (a b : List ByteArray) : bulkOf (a ++ b) = bulkOf a + bulkOf b := by simp [bulkOf]
theorem bulk_length (l : List ByteArray) : l.length ≤ bulkOf l := by
  induction l with
  | nil => simp
  | cons x l ih => rw [bulk_cons, List.length_cons]; omega
theorem bulk_drop (l : List ByteArray) (i : Nat) : bulkOf (l.drop i) ≤ bulkOf l := by
  have := congrArg bulkOf (List.take_append_drop i l)
  rw [bulk_append] at this
  omega
theorem drop_cons (l : List ByteArray) (i : Nat) (h : i < l.length) : l.drop i = rdOf ByteArray.empty l (i : Int) :: l.drop (i + 1) := by
  rw [List.drop_eq_getElem_cons h]
  simp [rdOf, h]
theorem bytesOf_len (b : List Int) : (Lib.bytesOf b).length = b.length := by simp [Lib.bytesOf]
def numsOf (l : List UInt8) : List Int := l.map (fun b => (b.toNat : Int))
theorem numsOf_bytes (s : ByteArray) : bytesOf s = numsOf s.data.toList := rfl
theorem str_numsOf (l : List UInt8) : strOfNums (numsOf l) = strOf l := by
  apply bytes_eq
  rw [str_data, strOf_data]
  simp [Lib.bytesOf, numsOf, Function.comp_def]
theorem bytesOf_numsOf (l : List UInt8) : Lib.bytesOf (numsOf l) = l := by
  rw [← str_data, str_numsOf, strOf_data]
theorem wrap_succ (i : Nat) (h : i ≤ 1000000000) : wrap64 ((i : Int) + 1) = ((i + 1 : Nat) : Int) := by rw [wrap_fit (by omega) (by omega)]; rfl
end Go.Proofs.YtoloooammaiipaaDoor
/- Bytes as pairs of digits, in plain words: what tells a byte, what a digit tells; no conditions. -/
namespace Go.Proofs.YtoloooammaiipaaDoor
open Go Go.RowKit Go.Proofs.YtoloooammaiipaaDoorW.PrintWords Go.Proofs.YtoloooammaiipaaDoorW.PrintLast

/-- The sixteen digits. -/
def digitsB : ByteArray := ⟨#[48, 49, 50, 51, 52, 53, 54, 55, 56, 57, 97, 98, 99, 100, 101, 102]⟩
/-- A digit of a number below sixteen. -/
def hexD (n : Nat) : UInt8 := if n < 10 then UInt8.ofNat (48 + n) else UInt8.ofNat (87 + n)
/-- What a digit tells. -/
def hexN (c : UInt8) : Option Nat := if 48 ≤ c.toNat ∧ c.toNat ≤ 57 then some (c.toNat - 48) else if 97 ≤ c.toNat ∧ c.toNat ≤ 102 then some (c.toNat - 87) else none
/-- The digits of bytes. -/
def hexL (l : List Int) : List UInt8 := l.flatMap fun c => [hexD (c.toNat / 16), hexD (c.toNat % 16)]
/-- What stands for bytes: a dash, or their digits. -/
def hexT (l : List Int) : List UInt8 := if l = [] then [45] else hexL l
/-- What pairs of digits tell. -/
def unhex : List UInt8 → Option (List Int)
  | [] => some []
  | [_] => none
  | a :: b :: r => match hexN a, hexN b, unhex r with
    | some x, some y, some l => some ((16 * x + y : Nat) :: l)
    | _, _, _ => none
theorem hexN_hexD : ∀ n : Fin 16, hexN (hexD n.1) = some n.1 := by decide
theorem hexL_snoc (l : List Int) (c : Int) : hexL (l ++ [c]) = (hexL l ++ [hexD (c.toNat / 16)]) ++ [hexD (c.toNat % 16)] := by simp [hexL]
theorem hexL_length (l : List Int) : (hexL l).length = 2 * l.length := by
  induction l with
  | nil => rfl
  | cons a r ih =>
    have e : hexL (a :: r) = [hexD (a.toNat / 16), hexD (a.toNat % 16)] ++ hexL r := by simp [hexL]
    rw [e, List.length_append, ih]
    simp only [List.length_cons, List.length_nil]
    omega
/-- What tells bytes, told back. -/
theorem unhex_hexL (l : List Int) (h : ∀ x ∈ l, 0 ≤ x ∧ x ≤ 255) : unhex (hexL l) = some l := by
  induction l with
  | nil => rfl
  | cons a r ih =>
    have ha := h a List.mem_cons_self
    have hr := ih (fun x hx => h x (List.mem_cons_of_mem _ hx))
    have e : hexL (a :: r) = hexD (a.toNat / 16) :: hexD (a.toNat % 16) :: hexL r := by simp [hexL]
    have h1 := hexN_hexD ⟨a.toNat / 16, by omega⟩
    have h2 := hexN_hexD ⟨a.toNat % 16, by omega⟩
    have h3 : ((16 * (a.toNat / 16) + a.toNat % 16 : Nat) : Int) = a := by omega
    rw [e, unhex]
    simp only at h1 h2
    rw [h1, h2, hr]
    simp only
    rw [h3]
end Go.Proofs.YtoloooammaiipaaDoor
/-
  DERIVED: THE SHELF's CONTRACTS AT THIS DUMP, IN PLAIN WORDS (tools/lay-plain.mjs out of 'YtoloooammaiipaaDoorSBld.lean', which tools/lay-shelf.mjs wrote): THE SAME DECLARATIONS UNDER THE SAME NAMES: 'import', 'namespace', 'open', 'def', 'theorem' AND NOTHING ELSE: no command of the shelf's: FOR A HAND-IN. Each laying: the table of numbers ('.._ren') and one theorem, a field a fact of the dump's own or the kernel's comparison; each contract: ONE APPLICATION.
-/
namespace Go.Proofs
open Go.Shelf
def Tryd.lays169_ren : Go.Shelf.Ren := ⟨fun | 169 => 27 | n => n, fun | 70 => 57 | 9 => 9 | 0 => 0 | 72 => 59 | 37 => 22 | 127 => 92 | 3 => 3 | 5 => 5 | n => n, fun | n => n⟩
theorem Tryd.lays169 : Go.Proofs.Lays.n169 Tryd.prog Tryd.lays169_ren := {
  mixed := by kernel_rfl
  f169 := Tryd.func27.trans (congrArg some (by kernel_rfl))
  t0 := Tryd.underlying0
  a0 := Tryd.isAgg0
  z0 := Tryd.sizeOf0
  v0 := Tryd.zeroValue0
  t3 := Tryd.underlying3
  a3 := Tryd.isAgg3
  z3 := Tryd.sizeOf3
  v3 := Tryd.zeroValue3
  t9 := Tryd.underlying9
  a9 := Tryd.isAgg9
  z9 := Tryd.sizeOf9
  v9 := Tryd.zeroValue9
  t37 := Tryd.underlying22
  a37 := Tryd.isAgg22
  z37 := Tryd.sizeOf22
  v37 := Tryd.zeroValue22
  t70 := Tryd.underlying57
  a70 := Tryd.isAgg57
  z70 := Tryd.sizeOf57
  v70 := Tryd.zeroValue57
  t72 := Tryd.underlying59
  a72 := Tryd.isAgg59
  z72 := Tryd.sizeOf59
  v72 := Tryd.zeroValue59
  t127 := Tryd.underlying92
  a127 := Tryd.isAgg92
  z127 := Tryd.sizeOf92
  v127 := Tryd.zeroValue92 }
theorem Tryd.Builder_Extra_169 : Builder.Extra Tryd.prog Tryd.lays169_ren := {
  sizeBuilder := by kernel_rfl
  liesBuilder := by kernel_rfl
  t5 := Tryd.underlying5
  a5 := Tryd.isAgg5
  z5 := Tryd.sizeOf5
  v5 := Tryd.zeroValue5
  infoByte := by kernel_rfl
  cellsByte := by kernel_rfl
  sizeByte := by kernel_rfl
  neB5 := by decide }
def Tryd.lays103_ren : Go.Shelf.Ren := ⟨fun | 103 => 32 | 210 => 46 | 206 => 58 | n => n, fun | 9 => 9 | 4 => 4 | 24 => 71 | 3 => 3 | n => n, fun | n => n⟩
theorem Tryd.lays103 : Go.Proofs.Lays.n103 Tryd.prog Tryd.lays103_ren := {
  mixed := by kernel_rfl
  f103 := Tryd.func32.trans (congrArg some (by kernel_rfl))
  f206 := Tryd.func58.trans (congrArg some (by kernel_rfl))
  f210 := Tryd.func46.trans (congrArg some (by kernel_rfl))
  t3 := Tryd.underlying3
  a3 := Tryd.isAgg3
  z3 := Tryd.sizeOf3
  v3 := Tryd.zeroValue3
  t4 := Tryd.underlying4
  a4 := Tryd.isAgg4
  z4 := Tryd.sizeOf4
  v4 := Tryd.zeroValue4
  t9 := Tryd.underlying9
  a9 := Tryd.isAgg9
  z9 := Tryd.sizeOf9
  v9 := Tryd.zeroValue9
  t24 := Tryd.underlying71
  a24 := Tryd.isAgg71
  z24 := Tryd.sizeOf71
  v24 := Tryd.zeroValue71 }
open Go.RowKit in
/-- strings.CutPrefix: "CutPrefix returns s without the provided leading prefix string and reports whether it found the prefix. If s doesn't start with prefix, CutPrefix returns s, false. If prefix is the empty string, CutPrefix returns s, true.": IT RETURNS '(Lib.trimPrefix s p, Lib.hasPrefix s p)'; the world is as it was. (LAID: no walk: one application.) -/
theorem Tryd.strings_CutPrefix (s p : ByteArray) (w : World) :
    Calls Tryd.prog 32 #[.string s, .string p] w fun e w' => e = .returned (.tuple #[.string ⟨(Lib.trimPrefix s.data.toList p.data.toList).toArray⟩, .bool (Lib.hasPrefix s.data.toList p.data.toList)]) ∧ w' = w := Any.strings_CutPrefix Tryd.lays103 s p w
open Go.RowKit in
/-- (*strings.Builder).String: "String returns the accumulated string.": WHATEVER THE BUILDER HOLDS; THE FORM '_k': OVER 'Lib.IsBuilderF' (a builder that 'String()' may have read), AND WITH THE FRAME THAT REACHES ABOVE THE BUILDER: 'Lib.OthersKept': every block that is not b and is no row of uint8's stands as it stood: the iterator of a range among them. (LAID: no walk: one application.) -/
theorem Tryd.Builder_String_any_k (B b : Nat) (l : List UInt8) (w : World) (h : Lib.IsBuilderF 59 5 B b (Lib.byteCells l) w) (hBw : B ≤ w.heap.size) :
    Calls Tryd.prog 27 #[.pointer (some ⟨b, 0, none⟩)] w fun e w' => e = .returned (.string ⟨l.toArray⟩) ∧ (Lib.IsBuilderF 59 5 B b (Lib.byteCells l) w' ∧ Below B w w' ∧ Lib.OthersKept 5 (some b) w w') := Any.Builder_String_any_k Tryd.lays169 Tryd.Builder_Extra_169 B b l w h hBw
end Go.Proofs
/- A text's builder at this program: what WriteByte writes (the library's copyCheck refuses where the shelf's panics: so these walks are this seat's own, after the shelf's). -/
namespace Go.Proofs.YtoloooammaiipaaDoor
open Go Go.RowKit
set_option linter.unusedVariables false

set_option maxHeartbeats 1000000 in
set_option maxRecDepth 100000 in
theorem copy_used (b : Nat) (w : World) (h0 : w.cell? ⟨b, 0, none⟩ = some (.pointer (some ⟨b, 0, none⟩))) :
    Calls Tryd.prog 43 #[.pointer (some ⟨b, 0, none⟩)] w fun e w' => e = .returned (.tuple #[]) ∧ w' = w := by
  obtain ⟨j, hj, _⟩ := Option.map_eq_some_iff.1 (show (Tryd.prog.info? 59).map (·.size) = some 2 by kernel_rfl)
  go_enter Tryd.func43, Tryd.ntmps43
  go_wp2
  rw [Lib.run_neq_ptr_same w _ Tryd.underlying57 hj]
  go_wp2
  go_end0
  exact ⟨rfl, rfl⟩
set_option maxHeartbeats 1000000 in
set_option maxRecDepth 100000 in
theorem copy_fresh (b : Nat) (w : World) (h0 : w.cell? ⟨b, 0, none⟩ = some (.pointer none)) (hsh : w.shape? b = some (59, 2)) (hfz : w.frozen? ⟨b, 0, none⟩ = false) :
    Calls Tryd.prog 43 #[.pointer (some ⟨b, 0, none⟩)] w fun e w' => e = .returned (.tuple #[]) ∧ w' = w.setCell ⟨b, 0, none⟩ (.pointer (some ⟨b, 0, none⟩)) := by
  obtain ⟨j, hj, hjs⟩ := Option.map_eq_some_iff.1 (show (Tryd.prog.info? 59).map (·.size) = some 2 by kernel_rfl)
  go_enter Tryd.func43, Tryd.ntmps43
  go_wp2
  rw [Lib.run_to_unsafe w ⟨b, 0, none⟩ Tryd.underlying57 Tryd.underlying95 hj (by rw [hjs]; decide) hsh (Nat.zero_lt_succ 1)]
  simp only [Result.andThen]
  rw [Oper.upon_value]
  go_wp2
  rw [run_callFunc_extern Tryd.func55 (by kernel_rfl) (by kernel_rfl) (by kernel_rfl) (e := Extern.AbiNoEscape.same) (by kernel_rfl)]
  rw [Lib.run_noEscape]
  simp only [Result.andThen]
  rw [Oper.upon_value]
  go_wp2
  rw [Lib.run_from_unsafe w ⟨b, 0, none⟩ Tryd.underlying95 Tryd.underlying57 hj hsh (by kernel_rfl)]
  simp only [Result.andThen]
  rw [Oper.upon_value]
  go_wp2
  go_end0
  exact ⟨rfl, rfl⟩
theorem copy_k (B b : Nat) (bs : List Value) (w : World) (h : Lib.IsBuilderF 59 5 B b bs w) :
    Calls Tryd.prog 43 #[.pointer (some ⟨b, 0, none⟩)] w fun e w' => e = .returned (.tuple #[]) ∧ (Lib.BuilderAtF 59 5 B b (.pointer (some ⟨b, 0, none⟩)) bs w' ∧ Below B w w' ∧ Lib.OthersKept 5 (some b) w w') := by
  rcases h with h | h
  · refine (copy_fresh b w h.cell0 h.shape h.frozen0).mono ?_
    rintro e w' ⟨rfl, rfl⟩
    exact ⟨rfl, h.used _, (Below.refl B w).setCell (p := ⟨b, 0, none⟩) h.1 _, (Lib.OthersKept.refl _ _ w).setCell ⟨b, 0, none⟩ rfl _⟩
  · refine (copy_used b w h.cell0).mono ?_
    rintro e w' ⟨rfl, rfl⟩
    exact ⟨rfl, h, Below.refl B _, Lib.OthersKept.refl _ _ _⟩
set_option maxHeartbeats 2000000 in
set_option maxRecDepth 100000 in
theorem write_byte (B b : Nat) (bs : List Value) (c : Int) (w : World) (h : Lib.IsBuilderF 59 5 B b bs w) (hlen : bs.length + 1 ≤ 140737488355328) (hBw : B ≤ w.heap.size) :
    Calls Tryd.prog 26 #[.pointer (some ⟨b, 0, none⟩), .int .u8 c] w fun e w' => e = .returned .nilIface ∧ (Lib.BuilderAtF 59 5 B b (.pointer (some ⟨b, 0, none⟩)) (bs ++ [.int .u8 c]) w' ∧ Below B w w' ∧ Lib.OthersKept 5 (some b) w w') := by
  obtain ⟨i0, hi, hz0, hz1, hz2⟩ := info_parts (show (Tryd.prog.info? 5).map (fun i => (i.zero, i.size, i.bytes)) = some (some (.int .u8 0), 1, 1) by kernel_rfl)
  go_enter Tryd.func26, Tryd.ntmps26
  go_wp2_with (go_at_call 43; refine (copy_k B b bs _ h).mono ?_)
  rintro e w1 ⟨rfl, h1, hb1, hk1⟩
  obtain ⟨hB, v, hbk, hown, hne⟩ := h1
  have c0 : w1.cell? ⟨b, 0, none⟩ = some (.pointer (some ⟨b, 0, none⟩)) := by rw [Lib.cell_of_heap hbk]; rfl
  have c1 : w1.cell? ⟨b, 1, none⟩ = some v := by rw [Lib.cell_of_heap hbk]; rfl
  go_wp2_with (at_builtin; refine wpList_append_ownF _ rfl _ _ 22 rfl B 5 i0 (.int .u8 0) 1 1 Tryd.underlying22 hi hz0 hz1 hz2 rfl (by decide) _ _ _ rfl (hown.alloc _) ⟨w1.heap.size, 0, none⟩ 1 1 [.int .u8 c] rfl rfl ?c1 ?c2 ?c3 ?c4 ?c5 ?_)
  case c1 =>
    intro j u hj
    match j, hj with
    | 0, hj => simp at hj; subst hj; simp [Addr.add]
  case c2 => intro u hu; simp at hu; subst hu; rfl
  case c3 => unfold maxLen; omega
  case c4 => omega
  case c5 => have := hb1.size; simp; omega
  intro v' w2 hown' hgrow _
  have hlt : b < w1.heap.size := by
    rcases Nat.lt_or_ge b w1.heap.size with h' | h'
    · exact h'
    · simp [Array.getElem?_eq_none h'] at hbk
  have hb2 : w2.heap[b]? = some (.cells #[.pointer (some ⟨b, 0, none⟩), v] 59 (0, 0)) := by
    rw [hgrow.block b (by simp; omega) (fun e => hne e.symm), Lib.alloc_old w1 _ b hlt]
    exact hbk
  have d0 : w2.cell? ⟨b, 0, none⟩ = some (.pointer (some ⟨b, 0, none⟩)) := by rw [Lib.cell_of_heap hb2]; rfl
  have d1 : w2.cell? ⟨b, 1, none⟩ = some v := by rw [Lib.cell_of_heap hb2]; rfl
  have f1 : w2.frozen? ⟨b, 1, none⟩ = false := Lib.frozen_of_heap hb2 1
  obtain ⟨g, cap, rfl⟩ : ∃ g cap, v' = .slice (some ⟨g, 0, none⟩) (bs.length + 1) cap := by
    rcases hown'.2 with ⟨_, h0⟩ | ⟨g, cap, cur, fz, hv, _⟩
    · omega
    · exact ⟨g, cap, hv⟩
  go_wp2
  go_ret
  refine ⟨rfl, ?_, ?_, ((hk1.alloc _).grown hgrow (Lib.ownsRowF_kind (hown.alloc _))).setCell ⟨b, 1, none⟩ rfl _⟩
  · exact Lib.BuilderAtF.put (T := 59) (e := 5) hB hb2 (bs' := bs ++ [.int .u8 c]) (by simpa using hown') (by decide)
  · exact ((hb1.alloc (by have := hb1.size; omega) _).grown hgrow (by have := hb1.size; simp; omega) (fun k hk => (hown.lt k hk).1)).setCell (p := ⟨b, 1, none⟩) hB _
end Go.Proofs.YtoloooammaiipaaDoor
/- What trace.Hex gives: a walk; conditions: bytes, at most 1000000 of them. -/
namespace Go.Proofs.YtoloooammaiipaaDoor
open Go Go.RowKit Go.Proofs.YtoloooammaiipaaDoorW.PrintWords Go.Proofs.YtoloooammaiipaaDoorW.PrintLast Go.Proofs.YtoloooammaiipaaDoorW.PrintMore
set_option linter.unusedVariables false
set_option linter.unusedSimpArgs false
theorem cells_digit (l : List UInt8) (c : UInt8) : Lib.byteCells l ++ [.int .u8 (c.toNat : Int)] = Lib.byteCells (l ++ [c]) := by rw [Lib.byteCells_append]; rfl
theorem hnext {j n : Nat} (h : j < n) (hn : n ≤ 1000000) : wrap64 ((j : Int) + 1) = ((j + 1 : Nat) : Int) := by
  have e : (j : Int) + 1 = ((j + 1 : Nat) : Int) := by omega
  rw [e]
  exact wrap_fit (by omega) (by omega)
theorem hmeas {n j : Nat} {v : Int} (h : j < n) (e : v = ((j + 1 : Nat) : Int)) : n - (intOf (.int .i64 v)).toNat < n - (intOf (.int .i64 (j : Int))).toNat := by
  subst e
  simp only [intOf]
  omega
theorem digit_at : ∀ n : Fin 16, (⟨#[48, 49, 50, 51, 52, 53, 54, 55, 56, 57, 97, 98, 99, 100, 101, 102]⟩ : ByteArray)[n.1]'(n.2) = hexD n.1 := by decide
theorem digit_hi {q : Int} (hq : 0 ≤ q ∧ q ≤ 255) {h : (q / 16).toNat < (⟨#[48, 49, 50, 51, 52, 53, 54, 55, 56, 57, 97, 98, 99, 100, 101, 102]⟩ : ByteArray).size} : (⟨#[48, 49, 50, 51, 52, 53, 54, 55, 56, 57, 97, 98, 99, 100, 101, 102]⟩ : ByteArray)[(q / 16).toNat]'h = hexD (q.toNat / 16) := by
  have e : (q / 16).toNat = q.toNat / 16 := by omega
  have d := digit_at ⟨q.toNat / 16, by omega⟩
  simp only at d
  rw [← d]
  congr 1
theorem digit_lo {q : Int} (hq : 0 ≤ q ∧ q ≤ 255) {h : (q % 16).toNat < (⟨#[48, 49, 50, 51, 52, 53, 54, 55, 56, 57, 97, 98, 99, 100, 101, 102]⟩ : ByteArray).size} : (⟨#[48, 49, 50, 51, 52, 53, 54, 55, 56, 57, 97, 98, 99, 100, 101, 102]⟩ : ByteArray)[(q % 16).toNat]'h = hexD (q.toNat % 16) := by
  have e : (q % 16).toNat = q.toNat % 16 := by omega
  have d := digit_at ⟨q.toNat % 16, by omega⟩
  simp only at d
  rw [← d]
  congr 1
set_option maxHeartbeats 8000000 in
set_option maxRecDepth 100000 in
theorem hex_walk (A : Option Addr) (c0 : Nat) (l : List Int) (hb : ∀ x ∈ l, 0 ≤ x ∧ x ≤ 255) (hl : l.length ≤ 1000000) (w : World) (hr : Kd.C (Kd.int .u8) w A l.length l) (hc : l.length ≤ c0) :
    Calls Tryd.prog 11 #[.slice A l.length c0] w fun e w' => e = .returned (.string (strOf (hexT l))) ∧ Below w.heap.size w w' := by
  have HB := Lib.hid hb
  have HL := Lib.hid hl
  have HR := Lib.hid hr
  clear hb hl hr
  go_enter Tryd.func11, Tryd.ntmps11
  by_cases h0 : l.length = 0
  · have hnil : l = [] := List.eq_nil_of_length_eq_zero h0
    subst hnil
    go_wp2_with fail
    go_ret
    exact ⟨rfl, Below.refl _ _⟩
  · have h0' : ¬ (l.length : Int) = 0 := by omega
    have h0b : ((l.length : Int) == 0) = false := beq_eq_false_iff_ne.2 h0'
    go_wp2_with fail
    go_loopw [11] (fun vi wr => ∃ i : Nat, vi = .int .i64 i ∧ i ≤ l.length ∧ Lib.IsBuilderF 59 5 w.heap.size w.heap.size (Lib.byteCells (hexL (l.take i))) wr ∧ Below w.heap.size w wr) (fun vi _ => l.length - (intOf vi).toNat)
    case atStart => exact ⟨0, rfl, by omega, Lib.IsBuilderF.of (Lib.fresh_isBuilder 59 5 w), (Below.refl _ w).alloc (Nat.le_refl _) _⟩
    case round =>
      obtain ⟨i, rfl, hi, hI, hbw⟩ := hrel
      by_cases hin : i < l.length
      · obtain ⟨ad, rfl, hcell⟩ := C_cell (Kd.C_below HR.out hbw) hin
        obtain ⟨q, hq⟩ : ∃ q, q = rd l (i : Int) := ⟨_, rfl⟩
        rw [← hq] at hcell
        have hqb : 0 ≤ q ∧ q ≤ 255 := by
          have e : rd l (i : Int) = l[i]'hin := by
            unfold rd
            rw [Int.toNat_natCast, List.getD_eq_getElem?_getD, List.getElem?_eq_getElem hin]
            rfl
          rw [hq, e]
          exact HB.out _ (List.getElem_mem hin)
        have BI := Lib.hid (hnext hin HL.out)
        have i0 : (0 : Int) ≤ (i : Int) := by omega
        have i1 : (i : Int) < (l.length : Int) := by omega
        have HI := Lib.hid hI
        have HBW := Lib.hid hbw
        have HQ := Lib.hid hq
        have HLI := Lib.hid (show (hexL (l.take i)).length ≤ 2000000 from by
          rw [hexL_length, List.length_take]
          have := HL.out
          omega)
        clear hI hbw hq
        go_wp2_with fail
        refine (write_byte w.heap.size w.heap.size _ _ _ HI.out (by rw [Lib.byteCells_length]; have := HLI.out; omega) HBW.out.size).mono ?_
        rintro e w3 ⟨rfl, h3, hb3, _⟩
        rw [cells_digit, digit_hi hqb] at h3
        have H3 := Lib.hid h3
        have HB3 := Lib.hid (HBW.out.trans hb3)
        clear h3 hb3 HI
        go_wp2_with fail
        refine (write_byte w.heap.size w.heap.size _ _ _ (Or.inr H3.out) (by rw [Lib.byteCells_length, List.length_append]; have := HLI.out; simp only [List.length_cons, List.length_nil]; omega) HB3.out.size).mono ?_
        rintro e w4 ⟨rfl, h4, hb4, _⟩
        rw [cells_digit, digit_lo hqb] at h4
        have HTK := Lib.hid (show hexL (l.take (i + 1)) = (hexL (l.take i) ++ [hexD (q.toNat / 16)]) ++ [hexD (q.toNat % 16)] from by
          have e : l[i]'hin = q := by
            rw [HQ.out]
            unfold rd
            rw [Int.toNat_natCast, List.getD_eq_getElem?_getD, List.getElem?_eq_getElem hin]
            rfl
          rw [List.take_succ_eq_append_getElem hin, hexL_snoc, e])
        rw [← HTK.out] at h4
        have H4 := Lib.hid h4
        have HB4 := Lib.hid (HB3.out.trans hb4)
        clear h4 hb4 H3 HB3
        go_wp2_with fail
        exact ⟨⟨i + 1, by first | rfl | exact congrArg _ BI.out, hin, Or.inr H4.out, HB4.out⟩, by first | exact hmeas hin BI.out | exact hmeas hin rfl⟩
      · have hin' : i = l.length := by omega
        subst hin'
        rw [List.take_length] at hI
        go_wp2_with fail
        refine (Tryd.Builder_String_any_k w.heap.size w.heap.size (hexL l) _ hI hbw.size).mono ?_
        rintro e w3 ⟨rfl, _, hb3, _⟩
        have HB3 := Lib.hid (hbw.trans hb3)
        clear hI hbw hb3
        go_wp2_with fail
        go_ret
        refine ⟨?_, HB3.out⟩
        unfold hexT
        rw [if_neg (fun e => h0 (by rw [e]; rfl))]
        rfl
end Go.Proofs.YtoloooammaiipaaDoor
/-
  DERIVED: THE SHELF's CONTRACTS AT THIS DUMP, IN PLAIN WORDS (tools/lay-plain.mjs out of 'YtoloooammaiipaaDoorSSplit.lean', which tools/lay-shelf.mjs wrote): THE SAME DECLARATIONS UNDER THE SAME NAMES: 'import', 'namespace', 'open', 'def', 'theorem' AND NOTHING ELSE: no command of the shelf's: FOR A HAND-IN. Each laying: the table of numbers ('.._ren') and one theorem, a field a fact of the dump's own or the kernel's comparison; each contract: ONE APPLICATION.
-/
namespace Go.Proofs
open Go.Shelf
def Tryd.lays146_ren : Go.Shelf.Ren := ⟨fun | 146 => 34 | 221 => 49 | 268 => 61 | 138 => 35 | 143 => 52 | 195 => 50 | 197 => 70 | 218 => 51 | 219 => 62 | 260 => 84 | 217 => 44 | 225 => 71 | 224 => 72 | 267 => 73 | 266 => 56 | 314 => 85 | n => n, fun | 9 => 9 | 31 => 75 | 3 => 3 | 4 => 4 | 0 => 0 | 105 => 108 | 21 => 21 | 5 => 5 | 46 => 63 | 119 => 131 | 139 => 134 | 138 => 133 | 146 => 122 | 51 => 113 | n => n, fun | 1 => 1 | 3 => 5 | 4 => 6 | n => n⟩
theorem Tryd.lays146 : Go.Proofs.Lays.n146 Tryd.prog Tryd.lays146_ren := {
  mixed := by kernel_rfl
  f138 := Tryd.func35.trans (congrArg some (by kernel_rfl))
  f143 := Tryd.func52.trans (congrArg some (by kernel_rfl))
  f146 := Tryd.func34.trans (congrArg some (by kernel_rfl))
  f195 := Tryd.func50.trans (congrArg some (by kernel_rfl))
  f197 := Tryd.func70.trans (congrArg some (by kernel_rfl))
  f217 := Tryd.func44.trans (congrArg some (by kernel_rfl))
  f218 := Tryd.func51.trans (congrArg some (by kernel_rfl))
  f219 := Tryd.func62.trans (congrArg some (by kernel_rfl))
  f221 := Tryd.func49.trans (congrArg some (by kernel_rfl))
  f224 := Tryd.func72.trans (congrArg some (by kernel_rfl))
  f225 := Tryd.func71.trans (congrArg some (by kernel_rfl))
  f260 := Tryd.func84.trans (congrArg some (by kernel_rfl))
  f266 := Tryd.func56.trans (congrArg some (by kernel_rfl))
  f267 := Tryd.func73.trans (congrArg some (by kernel_rfl))
  f268 := Tryd.func61.trans (congrArg some (by kernel_rfl))
  f314 := Tryd.func85.trans (congrArg some (by kernel_rfl))
  t0 := Tryd.underlying0
  a0 := Tryd.isAgg0
  z0 := Tryd.sizeOf0
  v0 := Tryd.zeroValue0
  t3 := Tryd.underlying3
  a3 := Tryd.isAgg3
  z3 := Tryd.sizeOf3
  v3 := Tryd.zeroValue3
  t4 := Tryd.underlying4
  a4 := Tryd.isAgg4
  z4 := Tryd.sizeOf4
  v4 := Tryd.zeroValue4
  t5 := Tryd.underlying5
  a5 := Tryd.isAgg5
  z5 := Tryd.sizeOf5
  v5 := Tryd.zeroValue5
  t9 := Tryd.underlying9
  a9 := Tryd.isAgg9
  z9 := Tryd.sizeOf9
  v9 := Tryd.zeroValue9
  t21 := Tryd.underlying21
  a21 := Tryd.isAgg21
  z21 := Tryd.sizeOf21
  v21 := Tryd.zeroValue21
  t31 := Tryd.underlying75
  a31 := Tryd.isAgg75
  z31 := Tryd.sizeOf75
  v31 := Tryd.zeroValue75
  t46 := Tryd.underlying63
  a46 := Tryd.isAgg63
  z46 := Tryd.sizeOf63
  v46 := Tryd.zeroValue63
  t51 := Tryd.underlying113
  a51 := Tryd.isAgg113
  z51 := Tryd.sizeOf113
  v51 := Tryd.zeroValue113
  t105 := Tryd.underlying108
  a105 := Tryd.isAgg108
  z105 := Tryd.sizeOf108
  v105 := Tryd.zeroValue108
  t119 := Tryd.underlying131
  a119 := Tryd.isAgg131
  z119 := Tryd.sizeOf131
  t138 := Tryd.underlying133
  a138 := Tryd.isAgg133
  z138 := Tryd.sizeOf133
  v138 := Tryd.zeroValue133
  t139 := Tryd.underlying134
  a139 := Tryd.isAgg134
  z139 := Tryd.sizeOf134
  v139 := Tryd.zeroValue134
  t146 := Tryd.underlying122
  a146 := Tryd.isAgg122
  z146 := Tryd.sizeOf122
  v146 := Tryd.zeroValue122
  g1 := by kernel_rfl
  g3 := by kernel_rfl
  g4 := by kernel_rfl }
open Go.RowKit Go.Lib in
/-- strings.Split. (LAID: no walk: one application.) -/
theorem Tryd.strings_Split (s sep : ByteArray) (m : Int) (w : World) (hs : s.size < 4294967281) (hm : w.cell? ⟨1, 0, none⟩ = some (.int .i64 m)) (h1 : 1 ≤ sep.size) :
    Calls Tryd.prog 34 #[.string s, .string sep] w fun e w' =>
      e = .returned (.slice (some ⟨w.heap.size, 0, none⟩) (Lib.countB s sep + 1) (Lib.countB s sep + 1)) ∧ w' = w.alloc (.cells ((Lib.splitB sep 0 (Lib.countB s sep) s).map Value.string).toArray 9) := Any.strings_Split Tryd.lays146 (by kernel_rfl) s sep m w hs hm h1
end Go.Proofs
-- Written by a program of this work (the kit's print, with contracts of this work's own taken in) out of the translation. Not trusted: Lean checks it.
namespace Go.Proofs.YtoloooammaiipaaDoor.PI
open Go.RowKit Go.Proofs.YtoloooammaiipaaDoorW.PrintWords Go.Proofs.YtoloooammaiipaaDoorW.PrintLast Go.Proofs.YtoloooammaiipaaDoorW.PrintMore
attribute [local go_sem] max2_int min2_int max_two min_two max_three min_three max_four min_four   -- for this text's walks alone
set_option linter.unusedVariables false
set_option linter.unusedSimpArgs false

/-! ### stringslite_HasPrefix: function 58 -/
def stringslite_HasPrefix.f (a0 : ByteArray) (a1 : ByteArray) : Option (Bool) := if (a0.size : Int) ≥ (a1.size : Int) then (if 0 ≤ (a1.size : Int) then (if (a1.size : Int) ≤ (a0.size : Int) then (some ((a0.extract 0 ((a1.size : Int) : Int).toNat).toList == a1.toList)) else (none)) else (none)) else (some false)
set_option maxHeartbeats 8000000 in
set_option maxRecDepth 100000 in
theorem stringslite_HasPrefix.calls (a0 : ByteArray) (a1 : ByteArray) (r : Bool) (w : World) (h : stringslite_HasPrefix.f a0 a1 = some r) :
    Calls Tryd.prog 58 #[.string a0, .string a1] w fun e w' => e = .returned (.bool r) ∧ Drawn0 w w' := by
  have H : (if (a0.size : Int) ≥ (a1.size : Int) then (if 0 ≤ (a1.size : Int) then (if (a1.size : Int) ≤ (a0.size : Int) then (some ((a0.extract 0 ((a1.size : Int) : Int).toNat).toList == a1.toList)) else (none)) else (none)) else (some false)) = some r := h
  clear h
  by_cases c3 : (a0.size : Int) ≥ (a1.size : Int)
  · rw [if_pos c3] at H
    have c3b0 : decide ((a1.size : Int) ≤ (a0.size : Int)) = true := decide_eq_true c3
    have c3b1 : decide (a1.size ≤ a0.size) = true := decide_eq_true (Int.ofNat_le.mp c3)
    clear c3
    by_cases c4 : 0 ≤ (a1.size : Int)
    · rw [if_pos c4] at H
      have c4b0 := eq_true c4
      have c4b1 : decide (0 ≤ (a1.size : Int)) = true := decide_eq_true c4
      clear c4
      by_cases c5 : (a1.size : Int) ≤ (a0.size : Int)
      · rw [if_pos c5] at H
        have c5b0 := eq_true c5
        have c5b1 : decide ((a1.size : Int) ≤ (a0.size : Int)) = true := decide_eq_true c5
        clear c5
        obtain rfl := Option.some.inj H
        go_enter Tryd.func58, Tryd.ntmps58
        go_wp2
        go_ret
        exact ⟨by first | rfl | (simp; done) | (simp [*]; done), by repeat (first | exact Drawn0.refl _ | apply Drawn0.step)⟩
      · rw [if_neg c5] at H
        exact absurd H (by simp)
    · rw [if_neg c4] at H
      exact absurd H (by simp)
  · rw [if_neg c3] at H
    have c3b0 : decide ((a1.size : Int) ≤ (a0.size : Int)) = false := decide_eq_false c3
    have c3b1 : decide (a1.size ≤ a0.size) = false := decide_eq_false (fun h => c3 (Int.ofNat_le.mpr h))
    clear c3
    obtain rfl := Option.some.inj H
    go_enter Tryd.func58, Tryd.ntmps58
    go_wp2
    go_ret
    exact ⟨by first | rfl | (simp; done) | (simp [*]; done), by repeat (first | exact Drawn0.refl _ | apply Drawn0.step)⟩

/-! ### stringslite_CutPrefix: function 46 -/
def stringslite_CutPrefix.f (a0 : ByteArray) (a1 : ByteArray) : Option (ByteArray × Bool) := (stringslite_HasPrefix.f a0 a1).bind fun t101 => (if t101 = true then (if 0 ≤ (a1.size : Int) then (if (a1.size : Int) ≤ (a0.size : Int) then (some (a0.extract ((a1.size : Int) : Int).toNat a0.size, true)) else (none)) else (none)) else (some (a0, false)))
set_option maxHeartbeats 8000000 in
set_option maxRecDepth 100000 in
theorem stringslite_CutPrefix.calls (a0 : ByteArray) (a1 : ByteArray) (r1 : ByteArray) (r2 : Bool) (w : World) (h : stringslite_CutPrefix.f a0 a1 = some (r1, r2)) :
    Calls Tryd.prog 46 #[.string a0, .string a1] w fun e w' => e = .returned (.tuple #[.string r1, .bool r2]) ∧ Drawn0 w w' := by
  have H : ((stringslite_HasPrefix.f a0 a1).bind fun t101 => (if t101 = true then (if 0 ≤ (a1.size : Int) then (if (a1.size : Int) ≤ (a0.size : Int) then (some (a0.extract ((a1.size : Int) : Int).toNat a0.size, true)) else (none)) else (none)) else (some (a0, false)))) = some (r1, r2) := h
  clear h
  replace H := Option.bind_eq_some_iff.mp H
  obtain ⟨t101, A30, H⟩ := H
  replace H : (if t101 = true then (if 0 ≤ (a1.size : Int) then (if (a1.size : Int) ≤ (a0.size : Int) then (some (a0.extract ((a1.size : Int) : Int).toNat a0.size, true)) else (none)) else (none)) else (some (a0, false))) = some (r1, r2) := H
  have A3 := Aside0.mk A30
  clear A30
  by_cases c4 : t101 = true
  · subst c4
    have H1 : (if 0 ≤ (a1.size : Int) then (if (a1.size : Int) ≤ (a0.size : Int) then (some (a0.extract ((a1.size : Int) : Int).toNat a0.size, true)) else (none)) else (none)) = some (r1, r2) := by rw [if_pos rfl] at H; exact H
    clear H
    have H := H1
    clear H1
    by_cases c5 : 0 ≤ (a1.size : Int)
    · rw [if_pos c5] at H
      have c5b0 := eq_true c5
      have c5b1 : decide (0 ≤ (a1.size : Int)) = true := decide_eq_true c5
      clear c5
      by_cases c6 : (a1.size : Int) ≤ (a0.size : Int)
      · rw [if_pos c6] at H
        have c6b0 := eq_true c6
        have c6b1 : decide ((a1.size : Int) ≤ (a0.size : Int)) = true := decide_eq_true c6
        clear c6
        simp only [Option.some.injEq, Prod.mk.injEq] at H
        obtain ⟨rfl, rfl⟩ := H
        go_enter Tryd.func46, Tryd.ntmps46
        go_wp2_with (first | ((with_reducible refine gate_callee (f := 58) rfl ?_); refine goesL_ (some 8) rfl rfl Tryd.func58 (by kernel_rfl) rfl #[.string a0, .string a1] rfl (by (try simp only [List.map_toArray, List.map_cons, List.map_nil]); first | done | rfl | (simp only [List.length_drop, List.length_take]; rfl)) ?_; (with_reducible refine (stringslite_HasPrefix.calls a0 a1 true _ A3.out).mono ?_); rintro e w' ⟨rfl, ⟨nd, rfl⟩⟩; refine ⟨_, rfl, ?_⟩))
        go_ret2
        exact ⟨by first | rfl | (simp; done) | (simp [*]; done), by repeat (first | exact Drawn0.refl _ | apply Drawn0.step)⟩
      · rw [if_neg c6] at H
        exact absurd H (by simp)
    · rw [if_neg c5] at H
      exact absurd H (by simp)
  · replace c4 := Bool.eq_false_iff.mpr c4
    subst c4
    have H1 : (some (a0, false)) = some (r1, r2) := by rw [if_neg (show ¬ (false = true) by decide)] at H; exact H
    clear H
    have H := H1
    clear H1
    simp only [Option.some.injEq, Prod.mk.injEq] at H
    obtain ⟨rfl, rfl⟩ := H
    go_enter Tryd.func46, Tryd.ntmps46
    go_wp2_with (first | ((with_reducible refine gate_callee (f := 58) rfl ?_); refine goesL_ (some 8) rfl rfl Tryd.func58 (by kernel_rfl) rfl #[.string a0, .string a1] rfl (by (try simp only [List.map_toArray, List.map_cons, List.map_nil]); first | done | rfl | (simp only [List.length_drop, List.length_take]; rfl)) ?_; (with_reducible refine (stringslite_HasPrefix.calls a0 a1 false _ A3.out).mono ?_); rintro e w' ⟨rfl, ⟨nd, rfl⟩⟩; refine ⟨_, rfl, ?_⟩))
    go_ret2
    exact ⟨by first | rfl | (simp; done) | (simp [*]; done), by repeat (first | exact Drawn0.refl _ | apply Drawn0.step)⟩

/-! ### strings_CutPrefix: function 32 -/
def strings_CutPrefix.f (a0 : ByteArray) (a1 : ByteArray) : Option (ByteArray × Bool) := (stringslite_CutPrefix.f a0 a1).bind fun bt102 => (some (bt102.1, bt102.2))
set_option maxHeartbeats 8000000 in
set_option maxRecDepth 100000 in
theorem strings_CutPrefix.calls (a0 : ByteArray) (a1 : ByteArray) (r1 : ByteArray) (r2 : Bool) (w : World) (h : strings_CutPrefix.f a0 a1 = some (r1, r2)) :
    Calls Tryd.prog 32 #[.string a0, .string a1] w fun e w' => e = .returned (.tuple #[.string r1, .bool r2]) ∧ Drawn0 w w' := by
  have H : ((stringslite_CutPrefix.f a0 a1).bind fun bt102 => (some (bt102.1, bt102.2))) = some (r1, r2) := h
  clear h
  replace H := Option.bind_eq_some_iff.mp H
  obtain ⟨⟨t102, t103⟩, A30, H⟩ := H
  replace H : (some (t102, t103)) = some (r1, r2) := H
  have A3 := Aside0.mk A30
  clear A30
  simp only [Option.some.injEq, Prod.mk.injEq] at H
  obtain ⟨rfl, rfl⟩ := H
  go_enter Tryd.func32, Tryd.ntmps32
  go_wp2_with (first | ((with_reducible refine gate_callee (f := 46) rfl ?_); refine goesL_ (some 8) rfl rfl Tryd.func46 (by kernel_rfl) rfl #[.string a0, .string a1] rfl (by (try simp only [List.map_toArray, List.map_cons, List.map_nil]); first | done | rfl | (simp only [List.length_drop, List.length_take]; rfl)) ?_; (with_reducible refine (stringslite_CutPrefix.calls a0 a1 t102 t103 _ A3.out).mono ?_); rintro e w' ⟨rfl, ⟨nd, rfl⟩⟩; refine ⟨_, rfl, ?_⟩))
  go_ret2
  exact ⟨by first | rfl | (simp; done) | (simp [*]; done), by repeat (first | exact Drawn0.refl _ | apply Drawn0.step)⟩

-- NOT PRINTED: function 56 (bytealg_IndexByteString)

/-! ### stringslite_IndexByte: function 44 -/
def stringslite_IndexByte.f (a0 : ByteArray) (a1 : Int) : Option (Int) := some (Lib.indexByte a0.data.toList a1.toNat.toUInt8)
set_option maxHeartbeats 1000000 in
set_option maxRecDepth 100000 in
theorem stringslite_IndexByte.calls (a0 : ByteArray) (a1 : Int) (r : Int) (w : World) (h : stringslite_IndexByte.f a0 a1 = some r) :
    Calls Tryd.prog 44 #[.string a0, .int .u8 a1] w fun e w' => e = .returned (.int .i64 r) ∧ Drawn0 w w' := by
  obtain rfl := Option.some.inj h
  clear h
  go_enter Tryd.func44, Tryd.ntmps44
  go_wp2
  rw [run_callFunc_extern Tryd.func56 (by kernel_rfl) (by kernel_rfl) (by kernel_rfl) (e := Extern.BytealgIndexByte.indexByte) (by kernel_rfl), Lib.run_indexByteString]
  simp only [Result.andThen]
  rw [Oper.upon_value]
  go_wp2
  go_ret
  exact ⟨rfl, Drawn0.refl _⟩


/-! ### strings_IndexByte: function 28 -/
def strings_IndexByte.f (a0 : ByteArray) (a1 : Int) : Option (Int) := (stringslite_IndexByte.f a0 a1).bind fun t104 => (some t104)
set_option maxHeartbeats 8000000 in
set_option maxRecDepth 100000 in
theorem strings_IndexByte.calls (a0 : ByteArray) (a1 : Int) (r : Int) (w : World) (h : strings_IndexByte.f a0 a1 = some r) :
    Calls Tryd.prog 28 #[.string a0, .int .u8 a1] w fun e w' => e = .returned (.int .i64 r) ∧ Drawn0 w w' := by
  have H : ((stringslite_IndexByte.f a0 a1).bind fun t104 => (some t104)) = some r := h
  clear h
  replace H := Option.bind_eq_some_iff.mp H
  obtain ⟨t104, A30, H⟩ := H
  replace H : (some t104) = some r := H
  have A3 := Aside0.mk A30
  clear A30
  obtain rfl := Option.some.inj H
  go_enter Tryd.func28, Tryd.ntmps28
  go_wp2_with (first | ((with_reducible refine gate_callee (f := 44) rfl ?_); refine goesL_ (some 7) rfl rfl Tryd.func44 (by kernel_rfl) rfl #[.string a0, .int .u8 a1] rfl (by (try simp only [List.map_toArray, List.map_cons, List.map_nil]); first | done | rfl | (simp only [List.length_drop, List.length_take]; rfl)) ?_; (with_reducible refine (stringslite_IndexByte.calls a0 a1 t104 _ A3.out).mono ?_); rintro e w' ⟨rfl, ⟨nd, rfl⟩⟩; refine ⟨_, rfl, ?_⟩))
  go_ret
  exact ⟨by first | rfl | (simp; done) | (simp [*]; done), by repeat (first | exact Drawn0.refl _ | apply Drawn0.step)⟩

/-! ### trace_Bytes: function 12 -/
mutual
def trace_Bytes.j0 : Nat → ByteArray → Bool → Option (List Int × Bool)
  | 0, _, _ => none
  | k + 1, x0, x16 => if x16 = true then (some (([] : List Int), false)) else (if 0 ≤ (wrap64 ((x0.size : Int) / 2)) then (if (wrap64 ((x0.size : Int) / 2) : Int).toNat ≤ 281474976710656 then (trace_Bytes.l0 k x0 (List.replicate (wrap64 ((x0.size : Int) / 2) : Int).toNat 0) (x0.size : Int) 0) else (none)) else (none))
def trace_Bytes.l0 : Nat → ByteArray → List Int → Int → Int → Option (List Int × Bool)
  | 0, _, _, _, _ => none
  | k + 1, x0, x4, x22, x23 => if x23 < x22 then (if 0 ≤ x23 then (if x23 < (x0.size : Int) then ((strings_IndexByte.f (⟨#[48, 49, 50, 51, 52, 53, 54, 55, 56, 57, 97, 98, 99, 100, 101, 102]⟩ : ByteArray) (bt x0 x23)).bind fun t108 => (if t108 < 0 then (some (([] : List Int), false)) else (if 0 ≤ (wrap64 (Int.tdiv x23 2)) then (if (wrap64 (Int.tdiv x23 2)) < (x4.length : Int) then (trace_Bytes.l0 k x0 (x4.set ((wrap64 (Int.tdiv x23 2)) : Int).toNat (Go.bits .or .u8 (((rd x4 (wrap64 (Int.tdiv x23 2))) * 16) % 256) ((t108) % 256))) x22 (wrap64 (x23 + 1))) else (none)) else (none)))) else (none)) else (none)) else (some (x4, true))
end
def trace_Bytes.f (k : Nat) (a0 : ByteArray) : Option (List Int × Bool) := if a0.toList = ([45] : List UInt8) then (some (([] : List Int), true)) else (if a0.toList = ([] : List UInt8) then (trace_Bytes.j0 k a0 true) else (trace_Bytes.j0 k a0 (decide ((Go.bits .and .i64 (a0.size : Int) 1) > 0))))
theorem trace_Bytes.mono_l : ∀ k, (∀ y0 y1, LeO (trace_Bytes.j0 k y0 y1) (trace_Bytes.j0 (k + 1) y0 y1)) ∧ (∀ y0 y1 y2 y3, LeO (trace_Bytes.l0 k y0 y1 y2 y3) (trace_Bytes.l0 (k + 1) y0 y1 y2 y3))
  | 0 => ⟨fun _ _ r h => by simp [trace_Bytes.j0] at h, fun _ _ _ _ r h => by simp [trace_Bytes.l0] at h⟩
  | k + 1 => by
    obtain ⟨ih0, ih1⟩ := trace_Bytes.mono_l k
    refine ⟨?_, ?_⟩
    · intro y0 y1
      unfold trace_Bytes.j0
      repeat' first
      | (with_reducible exact ih0 _ _)
      | (with_reducible exact ih1 _ _ _ _)
      | (with_reducible exact LeO.refl _)
      | (with_reducible exact LeO.none _)
      | (with_reducible refine LeO.ite ?_ ?_)
      | (with_reducible refine LeO.bind ?_ (fun _ => ?_))
      | exact ih0 _ _
      | exact ih1 _ _ _ _
      | exact LeO.none _
      | refine LeO.ite ?_ ?_
      | refine LeO.bind ?_ (fun _ => ?_)
    · intro y0 y1 y2 y3
      unfold trace_Bytes.l0
      repeat' first
      | (with_reducible exact ih0 _ _)
      | (with_reducible exact ih1 _ _ _ _)
      | (with_reducible exact LeO.refl _)
      | (with_reducible exact LeO.none _)
      | (with_reducible refine LeO.ite ?_ ?_)
      | (with_reducible refine LeO.bind ?_ (fun _ => ?_))
      | exact ih0 _ _
      | exact ih1 _ _ _ _
      | exact LeO.none _
      | refine LeO.ite ?_ ?_
      | refine LeO.bind ?_ (fun _ => ?_)
theorem trace_Bytes.mono : ∀ a0 k, LeO (trace_Bytes.f k a0) (trace_Bytes.f (k + 1) a0) := by
  intro a0 k
  obtain ⟨ih0, ih1⟩ := trace_Bytes.mono_l k
  unfold trace_Bytes.f
  repeat' first
      | (with_reducible exact ih0 _ _)
      | (with_reducible exact ih1 _ _ _ _)
      | (with_reducible exact LeO.refl _)
      | (with_reducible exact LeO.none _)
      | (with_reducible refine LeO.ite ?_ ?_)
      | (with_reducible refine LeO.bind ?_ (fun _ => ?_))
      | exact ih0 _ _
      | exact ih1 _ _ _ _
      | exact LeO.none _
      | refine LeO.ite ?_ ?_
      | refine LeO.bind ?_ (fun _ => ?_)
set_option maxHeartbeats 8000000 in
set_option maxRecDepth 100000 in
theorem trace_Bytes.calls (k : Nat) (a0 : ByteArray) (r1 : List Int) (r2 : Bool) (w : World) (h : trace_Bytes.f k a0 = some (r1, r2)) :
    Calls Tryd.prog 12 #[.string a0] w fun e w' => ∃ v0_ : Value, e = .returned (.tuple #[v0_, .bool r2]) ∧ Kd.R (Kd.int .u8) 5 w' w.heap.size (fun _ => True) v0_ r1 ∧ Below w.heap.size w w' := by
  have HB := Aside0.mk (Below.refl w.heap.size w)
  have H : (if a0.toList = ([45] : List UInt8) then (some (([] : List Int), true)) else (if a0.toList = ([] : List UInt8) then (trace_Bytes.j0 k a0 true) else (trace_Bytes.j0 k a0 (decide ((Go.bits .and .i64 (a0.size : Int) 1) > 0))))) = some (r1, r2) := h
  clear h
  by_cases c2 : a0.toList = ([45] : List UInt8)
  · rw [if_pos c2] at H
    have c2b0 : (a0.toList == ([45] : List UInt8)) = true := beq_iff_eq.mpr c2
    have c2b1 : (a0.toList != ([45] : List UInt8)) = false := bne_eq_false_iff_eq.mpr c2
    clear c2
    simp only [Option.some.injEq, Prod.mk.injEq] at H
    obtain ⟨rfl, rfl⟩ := H
    go_enter Tryd.func12, Tryd.ntmps12
    go_wp2
    go_ret2
    exact ⟨_, by first | rfl | (simp [errW_none, errW_some] <;> rfl) | (simp [*, errW_none, errW_some] <;> rfl), by first | exact Kd.R_nil _ _ _ _ _ | exact Kd.N_nil _ _ _ _ _ | exact Kd.V_nil _ _ _ _ _ | exact Kd.Q_nil _ _ _ _ _ | exact Kd.S_nil _ _ _ _ _, by repeat (first | (with_reducible first | exact HB.out | apply below_alloc | apply pw_below_drewN | apply below_drew1) | exact HB.out)⟩
  · rw [if_neg c2] at H
    have c2b0 : (a0.toList == ([45] : List UInt8)) = false := beq_eq_false_iff_ne.mpr c2
    have c2b1 : (a0.toList != ([45] : List UInt8)) = true := bne_iff_ne.mpr c2
    have HC3 := Aside0.mk H
    clear H
    go_enter Tryd.func12, Tryd.ntmps12
    go_upto_region 3 with (fail)
    go_cut [16] (fun v16 wc => ∃ (kq : Nat) (x16_2 : Bool), v16 = .bool x16_2 ∧ Aside0 (trace_Bytes.j0 kq a0 x16_2 = some (r1, r2)) ∧ Aside0 (kq ≤ k) ∧ Aside0 (Below w.heap.size w wc))
    case first =>
      have H := HC3.out
      clear HC3
      by_cases c4 : a0.toList = ([] : List UInt8)
      · rw [if_pos c4] at H
        have c4b0 : (a0.toList == ([] : List UInt8)) = true := beq_iff_eq.mpr c4
        have c4b1 : (a0.toList != ([] : List UInt8)) = false := bne_eq_false_iff_eq.mpr c4
        clear c4
        (first | rw [c4b0] | (simp only [i64_w, i32_w]; rw [c4b0]) | skip)
        have H' := Aside0.mk H
        clear H
        go_wp2
        go_meet
        case rel => exact ⟨_, (true), (by first | rfl | (simp; done) | (simp [*]; done)), H', ⟨by first | omega | exact Nat.le_refl _⟩, ⟨by repeat (first | (with_reducible first | exact HB.out | apply below_alloc | apply pw_below_drewN | apply below_drew1) | exact HB.out)⟩⟩
      · rw [if_neg c4] at H
        have c4b0 : (a0.toList == ([] : List UInt8)) = false := beq_eq_false_iff_ne.mpr c4
        have c4b1 : (a0.toList != ([] : List UInt8)) = true := bne_iff_ne.mpr c4
        (first | rw [c4b0] | (simp only [i64_w, i32_w]; rw [c4b0]) | skip)
        have H' := Aside0.mk H
        clear H
        go_wp2
        go_meet
        case rel => exact ⟨_, (decide ((Go.bits .and .i64 (a0.size : Int) 1) > 0)), (by first | rfl | (simp; done) | (simp [*]; done)), H', ⟨by first | omega | exact Nat.le_refl _⟩, ⟨by repeat (first | (with_reducible first | exact HB.out | apply below_alloc | apply pw_below_drewN | apply below_drew1) | exact HB.out)⟩⟩
    case rest =>
      clear HC3
      try clear c1
      try clear c2
      try clear c2b0
      try clear c2b1
      try clear p2
      try clear c4
      try clear c4b0
      try clear c4b1
      obtain ⟨kq, x16_2, rfl, HA, HJ2, HB⟩ := hcut
      cases kq with
      | zero => exact absurd HA.out (by simp [trace_Bytes.j0])
      | succ kj2 =>
        have H := HA.out
        clear HA
        simp only [trace_Bytes.j0] at H
        by_cases c5 : x16_2 = true
        · subst c5
          have H1 : (some (([] : List Int), false)) = some (r1, r2) := by rw [if_pos rfl] at H; exact H
          clear H
          have H := H1
          clear H1
          simp only [Option.some.injEq, Prod.mk.injEq] at H
          obtain ⟨rfl, rfl⟩ := H
          go_wp2
          go_ret2
          exact ⟨_, by first | rfl | (simp [errW_none, errW_some] <;> rfl) | (simp [*, errW_none, errW_some] <;> rfl), by first | exact Kd.R_nil _ _ _ _ _ | exact Kd.N_nil _ _ _ _ _ | exact Kd.V_nil _ _ _ _ _ | exact Kd.Q_nil _ _ _ _ _ | exact Kd.S_nil _ _ _ _ _, by repeat (first | (with_reducible first | exact HB.out | apply below_alloc | apply pw_below_drewN | apply below_drew1) | exact HB.out)⟩
        · replace c5 := Bool.eq_false_iff.mpr c5
          subst c5
          have H1 : (if 0 ≤ (wrap64 ((a0.size : Int) / 2)) then (if (wrap64 ((a0.size : Int) / 2) : Int).toNat ≤ 281474976710656 then (trace_Bytes.l0 kj2 a0 (List.replicate (wrap64 ((a0.size : Int) / 2) : Int).toNat 0) (a0.size : Int) 0) else (none)) else (none)) = some (r1, r2) := by rw [if_neg (show ¬ (false = true) by decide)] at H; exact H
          clear H
          have H := H1
          clear H1
          obtain ⟨ji6, hji6⟩ : ∃ j_ : Int, (wrap64 ((a0.size : Int) / 2)) = j_ := ⟨_, rfl⟩
          replace H : (if 0 ≤ (ji6) then (if (ji6 : Int).toNat ≤ 281474976710656 then (trace_Bytes.l0 kj2 a0 (List.replicate (ji6 : Int).toNat 0) (a0.size : Int) 0) else (none)) else (none)) = some (r1, r2) := by first | (rw [hji6] at H; exact H) | (simp only [hji6] at H ⊢; exact H)
          have hji6w : (IntKind.i64.wrap ((a0.size : Int) / 2)) = ji6 := (i64_w _).trans hji6
          by_cases c7 : 0 ≤ (ji6)
          · rw [if_pos c7] at H
            have c7b0 := eq_true c7
            have c7b1 : decide (0 ≤ (ji6)) = true := decide_eq_true c7
            clear c7
            by_cases c8 : (ji6 : Int).toNat ≤ 281474976710656
            · rw [if_pos c8] at H
              have c8b0 := eq_true c8
              have c8b1 : decide ((ji6 : Int).toNat ≤ 281474976710656) = true := decide_eq_true c8
              clear c8
              obtain ⟨y105, hy105⟩ : ∃ y_ : List Int, y_ = (List.replicate (ji6 : Int).toNat 0) := ⟨_, rfl⟩
              replace H : (trace_Bytes.l0 kj2 a0 y105 (a0.size : Int) 0) = some (r1, r2) := by first | (rw [hy105]; with_reducible exact H) | (have H2_ := (Option.bind_some _ _).symm.trans H; rw [hy105]; with_reducible exact H2_) | (have H2_ := (Option.bind_some _ _).symm.trans H; with_reducible exact H2_) | with_reducible exact H | (rw [hy105]; exact H) | exact H
              have Ny105 := Aside0.mk hy105
              clear hy105
              have H' := Aside0.mk H
              clear H
              go_wp2_with (first | ((with_reducible refine gate_dst (N := 20) rfl ?_); (try (refine gate_guard (by rfl) ?_; dsimp only)); refine Kd.R_make (Kd.int .u8) _ 5 rfl (N := 20) rfl 22 _ _ rfl ji6 rfl rfl Tryd.underlying22 (.int .u8 0) 1 info5 rfl (by decide) (by omega) 0 (ok := fun _ => True) (okp := fun _ => True) rfl (fun _ hk => hk) trivial (of_decide_eq_true (by first | (with_reducible assumption) | assumption)) (Nat.le_trans (Nat.mul_le_mul_right _ (of_decide_eq_true (by first | (with_reducible assumption) | assumption) : ji6.toNat ≤ 281474976710656)) (by omega)) (Below.refl _ _) (Nat.le_refl _) ?_; intro v106 w9 ho10 hb hg_ hnew_; clear hg_ hnew_; (first | rw [← Ny105.out] at ho10 | (simp only [Int.reduceToNat] at ho10; rw [← Ny105.out] at ho10)); have n0_ := Aside0.mk (Kd.R_lower ho10 (below_size (by repeat (first | (with_reducible first | exact HB.out | apply below_alloc | apply pw_below_drewN | apply below_drew1) | exact HB.out)))); have n1_ := Aside0.mk (below_step (by repeat (first | (with_reducible first | exact HB.out | apply below_alloc | apply pw_below_drewN | apply below_drew1) | exact HB.out)) hb); clear HB; have HO107 := n0_; have HB := n1_; clear n0_ n1_; clear hb ho10))
              go_loopg [23] kj2 (fun kq v23 w' => ∃ (x4_2 : List Int) (x23_2 : Int), v23 = .int .i64 x23_2 ∧ Aside0 (trace_Bytes.l0 kq a0 x4_2 (a0.size : Int) x23_2 = some (r1, r2)) ∧ Aside0 (kq ≤ kj2) ∧ Aside0 (Kd.R (Kd.int .u8) 5 w' w.heap.size (fun _ => True) v106 x4_2) ∧ Aside0 (Below w.heap.size w w'))
              case atStart => exact ⟨(y105), (0), (by first | rfl | (simp; done) | (simp [*]; done)), H', ⟨Nat.le_refl _⟩, ⟨by (with_reducible repeat (first | apply Kd.R_alloc | apply Kd.R_drewN | apply Kd.R_drew)); exact HO107.out⟩, ⟨by repeat (first | (with_reducible first | exact HB.out | apply below_alloc | apply pw_below_drewN | apply below_drew1) | exact HB.out)⟩⟩
              case round =>
                clear H'
                try clear c1
                try clear c2
                try clear c2b0
                try clear c2b1
                try clear p2
                try clear c4
                try clear c4b0
                try clear c4b1
                try clear c5
                try clear p6
                try clear c7
                try clear c7b0
                try clear c7b1
                try clear c8
                try clear c8b0
                try clear c8b1
                try clear p2
                obtain ⟨x4_2, x23_2, rfl, HA, HK2, HO_4, HB⟩ := hrel
                cases gk with
                | zero => exact absurd HA.out (by simp [trace_Bytes.l0])
                | succ k2 =>
                  have H := HA.out
                  clear HA
                  simp only [trace_Bytes.l0] at H
                  by_cases c11 : x23_2 < (a0.size : Int)
                  · rw [if_pos c11] at H
                    have c11b0 : decide (x23_2 < (a0.size : Int)) = true := decide_eq_true c11
                    clear c11
                    by_cases c12 : 0 ≤ x23_2
                    · rw [if_pos c12] at H
                      have c12b0 : decide (0 ≤ x23_2) = true := decide_eq_true c12
                      clear c12
                      by_cases c13 : x23_2 < (a0.size : Int)
                      · rw [if_pos c13] at H
                        have c13b0 : decide (x23_2 < (a0.size : Int)) = true := decide_eq_true c13
                        clear c13
                        replace H := Option.bind_eq_some_iff.mp H
                        obtain ⟨t108, A150, H⟩ := H
                        replace H : (if t108 < 0 then (some (([] : List Int), false)) else (if 0 ≤ (wrap64 (Int.tdiv x23_2 2)) then (if (wrap64 (Int.tdiv x23_2 2)) < (x4_2.length : Int) then (trace_Bytes.l0 k2 a0 (x4_2.set ((wrap64 (Int.tdiv x23_2 2)) : Int).toNat (Go.bits .or .u8 (((rd x4_2 (wrap64 (Int.tdiv x23_2 2))) * 16) % 256) ((t108) % 256))) (a0.size : Int) (wrap64 (x23_2 + 1))) else (none)) else (none))) = some (r1, r2) := H
                        have A15 := Aside0.mk A150
                        clear A150
                        by_cases c16 : t108 < 0
                        · rw [if_pos c16] at H
                          have c16b0 : decide (t108 < 0) = true := decide_eq_true c16
                          clear c16
                          simp only [Option.some.injEq, Prod.mk.injEq] at H
                          obtain ⟨rfl, rfl⟩ := H
                          have p14 : 0 ≤ (x23_2 : Int) := of_decide_eq_true (by first | (with_reducible assumption) | assumption)
                          have q14 : x23_2 < (a0.size : Int) := of_decide_eq_true (by first | (with_reducible assumption) | assumption)
                          have hx14 := bt_at a0 x23_2
                          replace p14 := eq_true p14
                          replace q14 := eq_true q14
                          go_wp2_with (first | ((with_reducible refine gate_callee (f := 28) rfl ?_); refine goesL_ (some 29) rfl rfl Tryd.func28 (by kernel_rfl) rfl #[.string (⟨#[48, 49, 50, 51, 52, 53, 54, 55, 56, 57, 97, 98, 99, 100, 101, 102]⟩ : ByteArray), .int .u8 (bt a0 x23_2)] rfl (by (try simp only [List.map_toArray, List.map_cons, List.map_nil]); first | done | rfl | (simp only [List.length_drop, List.length_take]; rfl)) ?_; (with_reducible refine (strings_IndexByte.calls (⟨#[48, 49, 50, 51, 52, 53, 54, 55, 56, 57, 97, 98, 99, 100, 101, 102]⟩ : ByteArray) (bt a0 x23_2) t108 _ A15.out).mono ?_); rintro e w' ⟨rfl, ⟨nd, rfl⟩⟩; refine ⟨_, rfl, ?_⟩))
                          go_ret2
                          exact ⟨_, by first | rfl | (simp [errW_none, errW_some] <;> rfl) | (simp only [← hji6]; first | rfl | (simp [errW_none, errW_some] <;> rfl)) | (simp [*, errW_none, errW_some] <;> rfl), by first | exact Kd.R_nil _ _ _ _ _ | exact Kd.N_nil _ _ _ _ _ | exact Kd.V_nil _ _ _ _ _ | exact Kd.Q_nil _ _ _ _ _ | exact Kd.S_nil _ _ _ _ _, by repeat (first | (with_reducible first | exact HB.out | apply below_alloc | apply pw_below_drewN | apply below_drew1) | exact HB.out)⟩
                        · rw [if_neg c16] at H
                          have c16b0 : decide (t108 < 0) = false := decide_eq_false c16
                          clear c16
                          obtain ⟨ji17, hji17⟩ : ∃ j_ : Int, (wrap64 (Int.tdiv x23_2 2)) = j_ := ⟨_, rfl⟩
                          replace H : (if 0 ≤ (ji17) then (if (ji17) < (x4_2.length : Int) then (trace_Bytes.l0 k2 a0 (x4_2.set ((ji17) : Int).toNat (Go.bits .or .u8 (((rd x4_2 (ji17)) * 16) % 256) ((t108) % 256))) (a0.size : Int) (wrap64 (x23_2 + 1))) else (none)) else (none)) = some (r1, r2) := by first | (rw [hji17] at H; exact H) | (simp only [hji17] at H ⊢; exact H)
                          (try rw [hji17] at A15)
                          have hji17w : (IntKind.i64.wrap (Int.tdiv x23_2 2)) = ji17 := (i64_w _).trans hji17
                          by_cases c18 : 0 ≤ (ji17)
                          · rw [if_pos c18] at H
                            have c18b0 : decide (0 ≤ (ji17)) = true := decide_eq_true c18
                            clear c18
                            by_cases c19 : (ji17) < (x4_2.length : Int)
                            · rw [if_pos c19] at H
                              have c19b0 : decide ((ji17) < (x4_2.length : Int)) = true := decide_eq_true c19
                              clear c19
                              obtain ⟨y110, hy110⟩ : ∃ y_ : List Int, y_ = (x4_2.set ((ji17) : Int).toNat (Go.bits .or .u8 (((rd x4_2 (ji17)) * 16) % 256) ((t108) % 256))) := ⟨_, rfl⟩
                              replace H : (trace_Bytes.l0 k2 a0 y110 (a0.size : Int) (wrap64 (x23_2 + 1))) = some (r1, r2) := by first | (rw [hy110]; with_reducible exact H) | (have H2_ := (Option.bind_some _ _).symm.trans H; rw [hy110]; with_reducible exact H2_) | (have H2_ := (Option.bind_some _ _).symm.trans H; with_reducible exact H2_) | with_reducible exact H | (rw [hy110]; exact H) | exact H
                              have Ny110 := Aside0.mk hy110
                              clear hy110
                              have H' := Aside0.mk H
                              clear H
                              have p14 : 0 ≤ (x23_2 : Int) := of_decide_eq_true (by first | (with_reducible assumption) | assumption)
                              have q14 : x23_2 < (a0.size : Int) := of_decide_eq_true (by first | (with_reducible assumption) | assumption)
                              have hx14 := bt_at a0 x23_2
                              replace p14 := eq_true p14
                              replace q14 := eq_true q14
                              go_wp2_with (first | ((with_reducible refine gate_callee (f := 28) rfl ?_); refine goesL_ (some 29) rfl rfl Tryd.func28 (by kernel_rfl) rfl #[.string (⟨#[48, 49, 50, 51, 52, 53, 54, 55, 56, 57, 97, 98, 99, 100, 101, 102]⟩ : ByteArray), .int .u8 (bt a0 x23_2)] rfl (by (try simp only [List.map_toArray, List.map_cons, List.map_nil]); first | done | rfl | (simp only [List.length_drop, List.length_take]; rfl)) ?_; (with_reducible refine (strings_IndexByte.calls (⟨#[48, 49, 50, 51, 52, 53, 54, 55, 56, 57, 97, 98, 99, 100, 101, 102]⟩ : ByteArray) (bt a0 x23_2) t108 _ A15.out).mono ?_); rintro e w' ⟨rfl, ⟨nd, rfl⟩⟩; refine ⟨_, rfl, ?_⟩; (try (rw [drewN_self wr]; generalize hq_ : World.drewN wr _ = wr; have n0_ : Aside0 (Kd.R (Kd.int .u8) 5 wr w.heap.size (fun _ => True) v106 x4_2) := ⟨by rw [← hq_]; exact (by (with_reducible repeat (first | apply Kd.R_alloc | apply Kd.R_drewN | apply Kd.R_drew)); exact HO_4.out)⟩; have n1_ : Aside0 (Below w.heap.size w wr) := ⟨by rw [← hq_]; exact (by repeat (first | (with_reducible first | exact HB.out | apply below_alloc | apply pw_below_drewN | apply below_drew1) | exact HB.out))⟩; clear HO_4 HB hq_; have HO_4 := n0_; have HB := n1_; clear n0_ n1_)); obtain ⟨Ao21, co21, eo21⟩ := Kd.R_slice HO_4.out; subst eo21; have p109 : 0 ≤ ((ji17) : Int) := of_decide_eq_true (by first | (with_reducible assumption) | assumption); have q109 : (ji17) < (x4_2.length : Int) := of_decide_eq_true (by first | (with_reducible assumption) | assumption); obtain ⟨ad109, e109, hx109_0⟩ := Kd.at_int (Kd.R_reads' HO_4.out).2.2 (ji17) p109 q109; cases e109; replace p109 := eq_true p109; replace q109 := eq_true q109; have p20 : 0 ≤ ((ji17) : Int) := of_decide_eq_true (by first | (with_reducible assumption) | assumption); have q20 : ((ji17) : Int) < ((x4_2.length : Int) : Int) := of_decide_eq_true (by first | (with_reducible assumption) | assumption); obtain ⟨go20, co20, eo20, gb20, gl20, cl20, HG20⟩ := Kd.R_form HO_4.out (by omega); (first | cases eo20 | (injection eo20 with ea_ en_ ec_; (first | subst ea_ | (injection ea_ with ea_; subst ea_)); subst ec_; clear en_)); have GB20 := Aside0.mk gb20; have GG20 := Aside0.mk HG20; clear gb20 gl20 HG20; (first | simp only [add_plain] at hx109_0 | skip); obtain ⟨hx20_0, hf20_0⟩ := Kd.R_celln 0 HO_4.out ((ji17) : Int) p20 q20; replace p20 := eq_true p20; replace q20 := eq_true q20; obtain ⟨hy22_, hz22_⟩ := Kd.R_celln 0 HO_4.out ((ji17) : Int) (of_decide_eq_true (by first | (with_reducible assumption) | assumption)) (of_decide_eq_true (by first | (with_reducible assumption) | assumption)); have HP22 := Kd.R_putg HO_4.out ((ji17) : Int) (Go.bits .or .u8 (((rd x4_2 (ji17)) * 16) % 256) ((t108) % 256))) | ((with_reducible refine gate_store (t := 5) (p := 44) rfl ?_); refine store_event (t := 5) (p := 44) (v := ?vo_w23) (w1 := (wr.setCell ⟨go20, ((ji17) : Int).toNat, none⟩ (.int .u8 (Go.bits .or .u8 (((rd x4_2 (ji17)) * 16) % 256) ((t108) % 256))))) ?hg ?ho ?hn ?hr ?_; (case ho => rfl); (case hg => rfl); (case hn => rfl); (case hr => first | (go_simp; done) | (go_simp; rfl)); intro w23 hw; have hg : wr.grownBy w23 (some go20) := (by rw [hw]; exact HP22.2); have hp_ : Kd.R (Kd.int .u8) 5 w23 w.heap.size (fun _ => True) (.slice (some ⟨go20, 0, none⟩) x4_2.length co21) y110 := (by rw [hw, Ny110.out]; exact HP22.1); clear HP22; have n0_ := Aside0.mk (hp_); have n1_ := Aside0.mk ((by rw [hw]; exact below_set (HB.out) GB20.out : Below w.heap.size w w23)); clear HO_4; clear HB; have HO_4 := n0_; have HB := n1_; clear n0_ n1_; clear hg hw hp_))
                              go_roundg k2
                              case measure => have := HJ2.out; have := HK2.out; omega
                              case rel => exact ⟨(y110), (wrap64 (x23_2 + 1)), (by first | rfl | (simp; done) | (simp [*]; done)), H', ⟨by have := HJ2.out; have := HK2.out; omega⟩, ⟨by (with_reducible repeat (first | apply Kd.R_alloc | apply Kd.R_drewN | apply Kd.R_drew)); exact HO_4.out⟩, ⟨by repeat (first | (with_reducible first | exact HB.out | apply below_alloc | apply pw_below_drewN | apply below_drew1) | exact HB.out)⟩⟩
                            · rw [if_neg c19] at H
                              exact absurd H (by simp)
                          · rw [if_neg c18] at H
                            exact absurd H (by simp)
                      · rw [if_neg c13] at H
                        exact absurd H (by simp)
                    · rw [if_neg c12] at H
                      exact absurd H (by simp)
                  · rw [if_neg c11] at H
                    have c11b0 : decide (x23_2 < (a0.size : Int)) = false := decide_eq_false c11
                    clear c11
                    simp only [Option.some.injEq, Prod.mk.injEq] at H
                    obtain ⟨rfl, rfl⟩ := H
                    go_wp2
                    go_ret2
                    exact ⟨_, by first | rfl | (simp [errW_none, errW_some] <;> rfl) | (simp only [← hji6]; first | rfl | (simp [errW_none, errW_some] <;> rfl)) | (simp [*, errW_none, errW_some] <;> rfl), by (with_reducible repeat (first | apply Kd.R_alloc | apply Kd.R_drewN | apply Kd.R_drew)); exact HO_4.out, by repeat (first | (with_reducible first | exact HB.out | apply below_alloc | apply pw_below_drewN | apply below_drew1) | exact HB.out)⟩
            · rw [if_neg c8] at H
              exact absurd H (by simp)
          · rw [if_neg c7] at H
            exact absurd H (by simp)

-- LEFT OUT: function 63 (strconv_small)

-- LEFT OUT: function 74 (strconv_log10Pow2)

-- LEFT OUT: function 75 (bits_Len64)

-- LEFT OUT: function 76 (strconv_bool2_int)

-- NOT PRINTED: function 64 (strconv_numDigits)

-- NOT PRINTED: function 65 (strconv_formatBase10)

-- LEFT OUT: function 77 (strconv_isPowerOfTwo)

-- NOT PRINTED: function 86 (bits_TrailingZeros32)

-- NOT PRINTED: function 87 (bits_TrailingZeros64)

-- NOT PRINTED: function 78 (bits_TrailingZeros)

-- NOT PRINTED: function 66 (strconv_formatBits)

-- NOT PRINTED: function 57 (strconv_FormatInt)

-- NOT PRINTED: function 45 (strconv_Itoa_45)

-- NOT PRINTED: function 30 (strconv_Itoa_30)

-- LEFT OUT: function 91 (strconv_lower)

-- LEFT OUT: function 92 (strconv_underscoreOK)

-- LEFT OUT: function 88 (strconv_ParseUint)

-- NOT PRINTED: function 79 (strconv_ParseInt)

/-! ### cv_str: stands for a conversion -/
def cv_str.f (a0 : ByteArray) : Option (List Int) := if a0.size ≤ 9223372036854775807 then some (bytesOf a0) else none
theorem cv_str.calls (a0 : ByteArray) (r : List Int) (w : World) (h : cv_str.f a0 = some r) : ConvStr Tryd.prog 9 22 a0 w fun e w' => ∃ v0_ : Value, e = .returned (v0_) ∧ Kd.V (Kd.int .u8) 5 w' w.heap.size (fun k_ => w.heap.size ≤ k_) v0_ r ∧ Below w.heap.size w w' := by
  unfold cv_str.f at h
  split at h
  · obtain rfl := Option.some.inj h
    exact conv_str Tryd.underlying9 Tryd.underlying22 Tryd.underlying5 a0 (by assumption)
  · cases h

-- NOT PRINTED: function 67 (strconv_Atoi_67)

-- NOT PRINTED: function 89 (stringslite_Clone)

-- NOT PRINTED: function 80 (strconv_syntaxError)

-- NOT PRINTED: function 81 (strconv_rangeError)

-- NOT PRINTED: function 90 (errors_New)

-- NOT PRINTED: function 82 (strconv_baseError)

-- NOT PRINTED: function 83 (strconv_bitSizeError)

-- NOT PRINTED: function 68 (strconv_toError)

-- NOT PRINTED: function 59 (strconv_Atoi_59)

/-! ### stringslite_TrimPrefix: function 69 -/
def stringslite_TrimPrefix.f (a0 : ByteArray) (a1 : ByteArray) : Option (ByteArray) := (stringslite_HasPrefix.f a0 a1).bind fun t135 => (if t135 = true then (if 0 ≤ (a1.size : Int) then (if (a1.size : Int) ≤ (a0.size : Int) then (some (a0.extract ((a1.size : Int) : Int).toNat a0.size)) else (none)) else (none)) else (some a0))
set_option maxHeartbeats 8000000 in
set_option maxRecDepth 100000 in
theorem stringslite_TrimPrefix.calls (a0 : ByteArray) (a1 : ByteArray) (r : ByteArray) (w : World) (h : stringslite_TrimPrefix.f a0 a1 = some r) :
    Calls Tryd.prog 69 #[.string a0, .string a1] w fun e w' => e = .returned (.string r) ∧ Drawn0 w w' := by
  have H : ((stringslite_HasPrefix.f a0 a1).bind fun t135 => (if t135 = true then (if 0 ≤ (a1.size : Int) then (if (a1.size : Int) ≤ (a0.size : Int) then (some (a0.extract ((a1.size : Int) : Int).toNat a0.size)) else (none)) else (none)) else (some a0))) = some r := h
  clear h
  replace H := Option.bind_eq_some_iff.mp H
  obtain ⟨t135, A30, H⟩ := H
  replace H : (if t135 = true then (if 0 ≤ (a1.size : Int) then (if (a1.size : Int) ≤ (a0.size : Int) then (some (a0.extract ((a1.size : Int) : Int).toNat a0.size)) else (none)) else (none)) else (some a0)) = some r := H
  have A3 := Aside0.mk A30
  clear A30
  by_cases c4 : t135 = true
  · subst c4
    have H1 : (if 0 ≤ (a1.size : Int) then (if (a1.size : Int) ≤ (a0.size : Int) then (some (a0.extract ((a1.size : Int) : Int).toNat a0.size)) else (none)) else (none)) = some r := by rw [if_pos rfl] at H; exact H
    clear H
    have H := H1
    clear H1
    by_cases c5 : 0 ≤ (a1.size : Int)
    · rw [if_pos c5] at H
      have c5b0 := eq_true c5
      have c5b1 : decide (0 ≤ (a1.size : Int)) = true := decide_eq_true c5
      clear c5
      by_cases c6 : (a1.size : Int) ≤ (a0.size : Int)
      · rw [if_pos c6] at H
        have c6b0 := eq_true c6
        have c6b1 : decide ((a1.size : Int) ≤ (a0.size : Int)) = true := decide_eq_true c6
        clear c6
        obtain rfl := Option.some.inj H
        go_enter Tryd.func69, Tryd.ntmps69
        go_wp2_with (first | ((with_reducible refine gate_callee (f := 58) rfl ?_); refine goesL_ (some 7) rfl rfl Tryd.func58 (by kernel_rfl) rfl #[.string a0, .string a1] rfl (by (try simp only [List.map_toArray, List.map_cons, List.map_nil]); first | done | rfl | (simp only [List.length_drop, List.length_take]; rfl)) ?_; (with_reducible refine (stringslite_HasPrefix.calls a0 a1 true _ A3.out).mono ?_); rintro e w' ⟨rfl, ⟨nd, rfl⟩⟩; refine ⟨_, rfl, ?_⟩))
        go_ret
        exact ⟨by first | rfl | (simp; done) | (simp [*]; done), by repeat (first | exact Drawn0.refl _ | apply Drawn0.step)⟩
      · rw [if_neg c6] at H
        exact absurd H (by simp)
    · rw [if_neg c5] at H
      exact absurd H (by simp)
  · replace c4 := Bool.eq_false_iff.mpr c4
    subst c4
    have H1 : (some a0) = some r := by rw [if_neg (show ¬ (false = true) by decide)] at H; exact H
    clear H
    have H := H1
    clear H1
    obtain rfl := Option.some.inj H
    go_enter Tryd.func69, Tryd.ntmps69
    go_wp2_with (first | ((with_reducible refine gate_callee (f := 58) rfl ?_); refine goesL_ (some 7) rfl rfl Tryd.func58 (by kernel_rfl) rfl #[.string a0, .string a1] rfl (by (try simp only [List.map_toArray, List.map_cons, List.map_nil]); first | done | rfl | (simp only [List.length_drop, List.length_take]; rfl)) ?_; (with_reducible refine (stringslite_HasPrefix.calls a0 a1 false _ A3.out).mono ?_); rintro e w' ⟨rfl, ⟨nd, rfl⟩⟩; refine ⟨_, rfl, ?_⟩))
    go_ret
    exact ⟨by first | rfl | (simp; done) | (simp [*]; done), by repeat (first | exact Drawn0.refl _ | apply Drawn0.step)⟩

/-! ### strings_TrimPrefix: function 60 -/
def strings_TrimPrefix.f (a0 : ByteArray) (a1 : ByteArray) : Option (ByteArray) := (stringslite_TrimPrefix.f a0 a1).bind fun t136 => (some t136)
set_option maxHeartbeats 8000000 in
set_option maxRecDepth 100000 in
theorem strings_TrimPrefix.calls (a0 : ByteArray) (a1 : ByteArray) (r : ByteArray) (w : World) (h : strings_TrimPrefix.f a0 a1 = some r) :
    Calls Tryd.prog 60 #[.string a0, .string a1] w fun e w' => e = .returned (.string r) ∧ Drawn0 w w' := by
  have H : ((stringslite_TrimPrefix.f a0 a1).bind fun t136 => (some t136)) = some r := h
  clear h
  replace H := Option.bind_eq_some_iff.mp H
  obtain ⟨t136, A30, H⟩ := H
  replace H : (some t136) = some r := H
  have A3 := Aside0.mk A30
  clear A30
  obtain rfl := Option.some.inj H
  go_enter Tryd.func60, Tryd.ntmps60
  go_wp2_with (first | ((with_reducible refine gate_callee (f := 69) rfl ?_); refine goesL_ (some 7) rfl rfl Tryd.func69 (by kernel_rfl) rfl #[.string a0, .string a1] rfl (by (try simp only [List.map_toArray, List.map_cons, List.map_nil]); first | done | rfl | (simp only [List.length_drop, List.length_take]; rfl)) ?_; (with_reducible refine (stringslite_TrimPrefix.calls a0 a1 t136 _ A3.out).mono ?_); rintro e w' ⟨rfl, ⟨nd, rfl⟩⟩; refine ⟨_, rfl, ?_⟩))
  go_ret
  exact ⟨by first | rfl | (simp; done) | (simp [*]; done), by repeat (first | exact Drawn0.refl _ | apply Drawn0.step)⟩

-- NOT PRINTED: function 48 (trace_number)

-- NOT PRINTED: function 33 (trace_kind_fill)

-- NOT PRINTED: function 50 (utf8_RuneCountInString)

-- NOT PRINTED: function 51 (bytealg_CountString)

-- NOT PRINTED: function 71 (bytealg_IndexString)

-- LEFT OUT: function 72 (bytealg_Cutover)

-- LEFT OUT: function 85 (bytealg_hashStr_string)

-- LEFT OUT: function 73 (bytealg_IndexRabinKarp_string)

/-! ### stringslite_Index: function 62 -/
def stringslite_Index.f (a0 : ByteArray) (a1 : ByteArray) : Option (Int) := if a1.size = 1 then stringslite_IndexByte.f a0 (bt a1 0) else none
set_option maxHeartbeats 1000000 in
set_option maxRecDepth 100000 in
theorem stringslite_Index.calls (a0 : ByteArray) (a1 : ByteArray) (r : Int) (w : World) (h : stringslite_Index.f a0 a1 = some r) :
    Calls Tryd.prog 62 #[.string a0, .string a1] w fun e w' => e = .returned (.int .i64 r) ∧ Drawn0 w w' := by
  unfold stringslite_Index.f at h
  by_cases h1 : a1.size = 1
  · rw [if_pos h1] at h
    obtain ⟨c, rfl⟩ := Lib.one_byte a1 h1
    have e : bt ⟨#[c]⟩ 0 = (c.toNat : Int) := rfl
    rw [e] at h
    have HH := Lib.hid h
    clear h h1 e
    go_enter Tryd.func62, Tryd.ntmps62
    go_wp2_with (go_at_call 44; refine (stringslite_IndexByte.calls _ _ _ _ HH.out).mono ?_; rintro e w' ⟨rfl, ⟨nd, rfl⟩⟩)
    · have h : ([c] == a0.toList) = true := by assumption
      have hr : r = 0 := by
        have h2 := HH.out
        have e : a0.data.toList = [c] := by rw [← Lib.toList_data]; exact (beq_iff_eq.1 h).symm
        unfold stringslite_IndexByte.f at h2
        rw [e] at h2
        simpa [Lib.indexByte] using h2.symm
      go_ret
      exact ⟨by rw [hr]; rfl, by repeat (first | exact Drawn0.refl _ | apply Drawn0.step)⟩
    · go_ret
      exact ⟨rfl, by repeat (first | exact Drawn0.refl _ | apply Drawn0.step)⟩
  · rw [if_neg h1] at h
    cases h


/-! ### strings_Index: function 52 -/
def strings_Index.f (a0 : ByteArray) (a1 : ByteArray) : Option (Int) := (stringslite_Index.f a0 a1).bind fun t138 => (some t138)
set_option maxHeartbeats 8000000 in
set_option maxRecDepth 100000 in
theorem strings_Index.calls (a0 : ByteArray) (a1 : ByteArray) (r : Int) (w : World) (h : strings_Index.f a0 a1 = some r) :
    Calls Tryd.prog 52 #[.string a0, .string a1] w fun e w' => e = .returned (.int .i64 r) ∧ Drawn0 w w' := by
  have H : ((stringslite_Index.f a0 a1).bind fun t138 => (some t138)) = some r := h
  clear h
  replace H := Option.bind_eq_some_iff.mp H
  obtain ⟨t138, A30, H⟩ := H
  replace H : (some t138) = some r := H
  have A3 := Aside0.mk A30
  clear A30
  obtain rfl := Option.some.inj H
  go_enter Tryd.func52, Tryd.ntmps52
  go_wp2_with (first | ((with_reducible refine gate_callee (f := 62) rfl ?_); refine goesL_ (some 7) rfl rfl Tryd.func62 (by kernel_rfl) rfl #[.string a0, .string a1] rfl (by (try simp only [List.map_toArray, List.map_cons, List.map_nil]); first | done | rfl | (simp only [List.length_drop, List.length_take]; rfl)) ?_; (with_reducible refine (stringslite_Index.calls a0 a1 t138 _ A3.out).mono ?_); rintro e w' ⟨rfl, ⟨nd, rfl⟩⟩; refine ⟨_, rfl, ?_⟩))
  go_ret
  exact ⟨by first | rfl | (simp; done) | (simp [*]; done), by repeat (first | exact Drawn0.refl _ | apply Drawn0.step)⟩

-- NOT PRINTED: function 35 (strings_Count)

-- NOT PRINTED: function 84 (utf8_decodeRuneInStringSlow)

-- NOT PRINTED: function 70 (utf8_DecodeRuneInString)

-- NOT PRINTED: function 61 (strings_explode)

-- NOT PRINTED: function 49 (strings_genSplit)

/-! ### strings_Split: function 34 -/
def strings_Split.f (a0 : ByteArray) (a1 : ByteArray) : Option (List ByteArray) := if a1.size = 1 ∧ a0.size ≤ 4000000000 then some ((cutL (a1.data.toList.headD 0) a0.data.toList).map strOf) else none
theorem split_byte (s : ByteArray) (c : UInt8) (w : World) (hs : s.size < 4294967281) :
    Calls Tryd.prog 34 #[.string s, .string ⟨#[c]⟩] w fun e w' =>
      e = .returned (.slice (some ⟨w.heap.size, 0, none⟩) (Lib.countB s ⟨#[c]⟩ + 1) (Lib.countB s ⟨#[c]⟩ + 1)) ∧ w' = w.alloc (.cells ((Lib.splitB ⟨#[c]⟩ 0 (Lib.countB s ⟨#[c]⟩) s).map Value.string).toArray 9) := by
  have L := Tryd.lays146
  have h1 : 1 ≤ (⟨#[c]⟩ : ByteArray).size := Nat.le_refl _
  have hle := Lib.countB_le ⟨#[c]⟩ h1 s.size s (Nat.le_refl _)
  have hlen := Lib.splitB_all ⟨#[c]⟩ h1 0 _ s rfl
  have hcnt : (Lib.countByte s.data.toList c : Int) = (Lib.countB s ⟨#[c]⟩ : Int) := by
    show _ = ((Lib.count s.data.toList [c] : Nat) : Int)
    rw [Lib.count_one]
    rfl
  have hidx : ∀ x : ByteArray, Lib.indexByte x.data.toList c = Lib.indexB x ⟨#[c]⟩ := fun x => by
    show _ = Lib.index x.data.toList [c]
    by_cases hc : c ∈ x.data.toList
    · obtain ⟨a, b, e, ha⟩ := first_hit hc
      rw [e, index_one_some ha, indexByte_hit ha b]
    · rw [index_one_none hc, indexByte_miss hc]
  have k := Any.strings_genSplit_core (ρ := Tryd.lays146_ren) { L with } (by kernel_rfl) s ⟨#[c]⟩ 0 (-1) (Lib.countB s ⟨#[c]⟩ + 1) w hs h1 (Nat.zero_le _)
    (fun x cs _ => by rw [← hidx]; exact Any.strings_Index_one { L with } x c _) (by rw [← hcnt]; exact Any.strings_Count_one { L with } s c w) (by decide) (by decide) (by rw [if_pos (by decide)]; omega)
  rw [Nat.add_sub_cancel, hlen] at k
  have e2 : Lib.cellsOf (Lib.splitB ⟨#[c]⟩ 0 (Lib.countB s ⟨#[c]⟩) s) (Lib.countB s ⟨#[c]⟩ + 1) = ((Lib.splitB ⟨#[c]⟩ 0 (Lib.countB s ⟨#[c]⟩) s).map Value.string).toArray := by
    have h := Lib.cellsOf_full (Lib.splitB ⟨#[c]⟩ 0 (Lib.countB s ⟨#[c]⟩) s)
    rwa [hlen] at h
  rw [e2] at k
  go_enter Tryd.func34, Tryd.ntmps34
  go_wp2_with (go_at_call 49; refine (show Calls Tryd.prog 49 _ _ _ from k).mono ?_; rintro e w' ⟨rfl, hw⟩; rw [hw])
  go_ret
  exact ⟨rfl, rfl⟩
theorem strings_Split.calls (a0 : ByteArray) (a1 : ByteArray) (r : List ByteArray) (w : World) (h : strings_Split.f a0 a1 = some r) :
    Calls Tryd.prog 34 #[.string a0, .string a1] w fun e w' => ∃ v0_ : Value, e = .returned (v0_) ∧ Kd.R Kd.string 9 w' w.heap.size (fun _ => True) v0_ r ∧ Below w.heap.size w w' := by
  unfold strings_Split.f at h
  split at h
  · rename_i hb
    obtain ⟨h1, hs⟩ := hb
    obtain rfl := Option.some.inj h
    obtain ⟨c, rfl⟩ := Lib.one_byte a1 h1
    refine (split_byte a0 c w (by omega)).mono ?_
    rintro e w' ⟨rfl, rfl⟩
    have hd : (Lib.splitB ⟨#[c]⟩ 0 (Lib.countB a0 ⟨#[c]⟩) a0).map (·.data.toList) = cutL c a0.data.toList := by
      rw [Lib.splitB_data]
      exact splitK_one c _ _ (by
        have : Lib.countB a0 ⟨#[c]⟩ = a0.data.toList.count c := by
          show Lib.count a0.data.toList [c] = _
          rw [Lib.count_one]
        rw [this]; exact Nat.le_refl _)
    have hl : Lib.splitB ⟨#[c]⟩ 0 (Lib.countB a0 ⟨#[c]⟩) a0 = (cutL c a0.data.toList).map strOf := by
      rw [← hd, List.map_map]
      conv => lhs; rw [← List.map_id (Lib.splitB ⟨#[c]⟩ 0 (Lib.countB a0 ⟨#[c]⟩) a0)]
      exact List.map_congr_left (fun z _ => by simp [strOf])
    have hlen := Lib.splitB_all ⟨#[c]⟩ (Nat.le_refl _) 0 _ a0 rfl
    have hle := Lib.countB_le ⟨#[c]⟩ (Nat.le_refl _) a0.size a0 (Nat.le_refl _)
    rw [hl] at hlen ⊢
    have hh : (⟨#[c]⟩ : ByteArray).data.toList.headD 0 = c := rfl
    rw [hh]
    refine ⟨_, rfl, ?_, (Below.refl _ w).alloc (Nat.le_refl _) _⟩
    have ho := World.ownsRow_lit (base := w.heap.size) (e := 9) (size := 1) w (((cutL c a0.data.toList).map strOf).map Value.string).toArray (Lib.countB a0 ⟨#[c]⟩ + 1) (Nat.le_refl _) (by unfold maxLen; omega) (by simp only [List.size_toArray, List.length_map] at hlen ⊢; omega)
    refine Kd.R_of_own ?_ (fun _ _ => trivial)
    rw [hlen]
    exact ho
  · cases h


-- NOT PRINTED: function 17 (trace_Read)

/-! ### stringslite_Cut: function 53 -/
def stringslite_Cut.f (a0 : ByteArray) (a1 : ByteArray) : Option (ByteArray × ByteArray × Bool) := (stringslite_Index.f a0 a1).bind fun t141 => (if t141 ≥ 0 then (if 0 ≤ t141 then (if t141 ≤ (a0.size : Int) then (if 0 ≤ (wrap64 (t141 + (a1.size : Int))) then (if (wrap64 (t141 + (a1.size : Int))) ≤ (a0.size : Int) then (some (a0.extract 0 (t141 : Int).toNat, a0.extract ((wrap64 (t141 + (a1.size : Int))) : Int).toNat a0.size, true)) else (none)) else (none)) else (none)) else (none)) else (some (a0, (⟨#[]⟩ : ByteArray), false)))
set_option maxHeartbeats 8000000 in
set_option maxRecDepth 100000 in
theorem stringslite_Cut.calls (a0 : ByteArray) (a1 : ByteArray) (r1 : ByteArray) (r2 : ByteArray) (r3 : Bool) (w : World) (h : stringslite_Cut.f a0 a1 = some (r1, r2, r3)) :
    Calls Tryd.prog 53 #[.string a0, .string a1] w fun e w' => e = .returned (.tuple #[.string r1, .string r2, .bool r3]) ∧ Drawn0 w w' := by
  have H : ((stringslite_Index.f a0 a1).bind fun t141 => (if t141 ≥ 0 then (if 0 ≤ t141 then (if t141 ≤ (a0.size : Int) then (if 0 ≤ (wrap64 (t141 + (a1.size : Int))) then (if (wrap64 (t141 + (a1.size : Int))) ≤ (a0.size : Int) then (some (a0.extract 0 (t141 : Int).toNat, a0.extract ((wrap64 (t141 + (a1.size : Int))) : Int).toNat a0.size, true)) else (none)) else (none)) else (none)) else (none)) else (some (a0, (⟨#[]⟩ : ByteArray), false)))) = some (r1, r2, r3) := h
  clear h
  replace H := Option.bind_eq_some_iff.mp H
  obtain ⟨t141, A30, H⟩ := H
  replace H : (if t141 ≥ 0 then (if 0 ≤ t141 then (if t141 ≤ (a0.size : Int) then (if 0 ≤ (wrap64 (t141 + (a1.size : Int))) then (if (wrap64 (t141 + (a1.size : Int))) ≤ (a0.size : Int) then (some (a0.extract 0 (t141 : Int).toNat, a0.extract ((wrap64 (t141 + (a1.size : Int))) : Int).toNat a0.size, true)) else (none)) else (none)) else (none)) else (none)) else (some (a0, (⟨#[]⟩ : ByteArray), false))) = some (r1, r2, r3) := H
  have A3 := Aside0.mk A30
  clear A30
  by_cases c4 : t141 ≥ 0
  · rw [if_pos c4] at H
    have c4b0 : decide (0 ≤ t141) = true := decide_eq_true c4
    clear c4
    by_cases c5 : 0 ≤ t141
    · rw [if_pos c5] at H
      have c5b0 := eq_true c5
      have c5b1 : decide (0 ≤ t141) = true := decide_eq_true c5
      clear c5
      by_cases c6 : t141 ≤ (a0.size : Int)
      · rw [if_pos c6] at H
        have c6b0 := eq_true c6
        have c6b1 : decide (t141 ≤ (a0.size : Int)) = true := decide_eq_true c6
        clear c6
        obtain ⟨ji7, hji7⟩ : ∃ j_ : Int, (wrap64 (t141 + (a1.size : Int))) = j_ := ⟨_, rfl⟩
        replace H : (if 0 ≤ (ji7) then (if (ji7) ≤ (a0.size : Int) then (some (a0.extract 0 (t141 : Int).toNat, a0.extract ((ji7) : Int).toNat a0.size, true)) else (none)) else (none)) = some (r1, r2, r3) := by first | (rw [hji7] at H; exact H) | (simp only [hji7] at H ⊢; exact H)
        (try rw [hji7] at A3)
        have hji7w : (IntKind.i64.wrap (t141 + (a1.size : Int))) = ji7 := (i64_w _).trans hji7
        by_cases c8 : 0 ≤ (ji7)
        · rw [if_pos c8] at H
          have c8b0 := eq_true c8
          have c8b1 : decide (0 ≤ (ji7)) = true := decide_eq_true c8
          clear c8
          by_cases c9 : (ji7) ≤ (a0.size : Int)
          · rw [if_pos c9] at H
            have c9b0 := eq_true c9
            have c9b1 : decide ((ji7) ≤ (a0.size : Int)) = true := decide_eq_true c9
            clear c9
            simp only [Option.some.injEq, Prod.mk.injEq] at H
            obtain ⟨rfl, rfl, rfl⟩ := H
            go_enter Tryd.func53, Tryd.ntmps53
            go_wp2_with (first | (go_at_call 62; (with_reducible refine (stringslite_Index.calls a0 a1 t141 _ A3.out).mono ?_); rintro e w' ⟨rfl, ⟨nd, rfl⟩⟩; (try first | exact ⟨rfl, _, World.drewN_drewN _ _ _⟩ | exact ⟨rfl, _, Eq.trans (World.drewN_drewN _ _ _) (congrArg (World.drewN _) (Nat.add_assoc _ _ _))⟩)))
            repeat (go_quiet (first | (go_at_call 62; (with_reducible refine (stringslite_Index.calls a0 a1 t141 _ A3.out).mono ?_); rintro e w' ⟨rfl, ⟨nd, rfl⟩⟩; (try first | exact ⟨rfl, _, World.drewN_drewN _ _ _⟩ | exact ⟨rfl, _, Eq.trans (World.drewN_drewN _ _ _) (congrArg (World.drewN _) (Nat.add_assoc _ _ _))⟩))); try go_wp2_with (first | (go_at_call 62; (with_reducible refine (stringslite_Index.calls a0 a1 t141 _ A3.out).mono ?_); rintro e w' ⟨rfl, ⟨nd, rfl⟩⟩; (try first | exact ⟨rfl, _, World.drewN_drewN _ _ _⟩ | exact ⟨rfl, _, Eq.trans (World.drewN_drewN _ _ _) (congrArg (World.drewN _) (Nat.add_assoc _ _ _))⟩))))
            go_ret3
            exact ⟨by first | rfl | (simp; done) | (simp only [← hji7] <;> (first | rfl | simp)) | (simp [*]; done), by repeat (first | exact Drawn0.refl _ | apply Drawn0.step)⟩
          · rw [if_neg c9] at H
            exact absurd H (by simp)
        · rw [if_neg c8] at H
          exact absurd H (by simp)
      · rw [if_neg c6] at H
        exact absurd H (by simp)
    · rw [if_neg c5] at H
      exact absurd H (by simp)
  · rw [if_neg c4] at H
    have c4b0 : decide (0 ≤ t141) = false := decide_eq_false c4
    clear c4
    simp only [Option.some.injEq, Prod.mk.injEq] at H
    obtain ⟨rfl, rfl, rfl⟩ := H
    go_enter Tryd.func53, Tryd.ntmps53
    go_wp2_with (first | (go_at_call 62; (with_reducible refine (stringslite_Index.calls a0 a1 t141 _ A3.out).mono ?_); rintro e w' ⟨rfl, ⟨nd, rfl⟩⟩; (try first | exact ⟨rfl, _, World.drewN_drewN _ _ _⟩ | exact ⟨rfl, _, Eq.trans (World.drewN_drewN _ _ _) (congrArg (World.drewN _) (Nat.add_assoc _ _ _))⟩)))
    repeat (go_quiet (first | (go_at_call 62; (with_reducible refine (stringslite_Index.calls a0 a1 t141 _ A3.out).mono ?_); rintro e w' ⟨rfl, ⟨nd, rfl⟩⟩; (try first | exact ⟨rfl, _, World.drewN_drewN _ _ _⟩ | exact ⟨rfl, _, Eq.trans (World.drewN_drewN _ _ _) (congrArg (World.drewN _) (Nat.add_assoc _ _ _))⟩))); try go_wp2_with (first | (go_at_call 62; (with_reducible refine (stringslite_Index.calls a0 a1 t141 _ A3.out).mono ?_); rintro e w' ⟨rfl, ⟨nd, rfl⟩⟩; (try first | exact ⟨rfl, _, World.drewN_drewN _ _ _⟩ | exact ⟨rfl, _, Eq.trans (World.drewN_drewN _ _ _) (congrArg (World.drewN _) (Nat.add_assoc _ _ _))⟩))))
    go_ret3
    exact ⟨by first | rfl | (simp; done) | (simp [*]; done), by repeat (first | exact Drawn0.refl _ | apply Drawn0.step)⟩

/-! ### strings_Cut: function 40 -/
def strings_Cut.f (a0 : ByteArray) (a1 : ByteArray) : Option (ByteArray × ByteArray × Bool) := (stringslite_Cut.f a0 a1).bind fun bt142 => (some (bt142.1, bt142.2.1, bt142.2.2))
set_option maxHeartbeats 8000000 in
set_option maxRecDepth 100000 in
theorem strings_Cut.calls (a0 : ByteArray) (a1 : ByteArray) (r1 : ByteArray) (r2 : ByteArray) (r3 : Bool) (w : World) (h : strings_Cut.f a0 a1 = some (r1, r2, r3)) :
    Calls Tryd.prog 40 #[.string a0, .string a1] w fun e w' => e = .returned (.tuple #[.string r1, .string r2, .bool r3]) ∧ Drawn0 w w' := by
  have H : ((stringslite_Cut.f a0 a1).bind fun bt142 => (some (bt142.1, bt142.2.1, bt142.2.2))) = some (r1, r2, r3) := h
  clear h
  replace H := Option.bind_eq_some_iff.mp H
  obtain ⟨⟨t142, t143, t144⟩, A30, H⟩ := H
  replace H : (some (t142, t143, t144)) = some (r1, r2, r3) := H
  have A3 := Aside0.mk A30
  clear A30
  simp only [Option.some.injEq, Prod.mk.injEq] at H
  obtain ⟨rfl, rfl, rfl⟩ := H
  go_enter Tryd.func40, Tryd.ntmps40
  go_wp2_with (first | ((with_reducible refine gate_callee (f := 53) rfl ?_); refine goesL_ (some 9) rfl rfl Tryd.func53 (by kernel_rfl) rfl #[.string a0, .string a1] rfl (by (try simp only [List.map_toArray, List.map_cons, List.map_nil]); first | done | rfl | (simp only [List.length_drop, List.length_take]; rfl)) ?_; (with_reducible refine (stringslite_Cut.calls a0 a1 t142 t143 t144 _ A3.out).mono ?_); rintro e w' ⟨rfl, ⟨nd, rfl⟩⟩; refine ⟨_, rfl, ?_⟩))
  go_ret3
  exact ⟨by first | rfl | (simp; done) | (simp [*]; done), by repeat (first | exact Drawn0.refl _ | apply Drawn0.step)⟩

-- LEFT OUT: function 54 (trace_output)

-- NOT PRINTED: function 41 (trace_parser_line)

-- NOT PRINTED: function 23 (trace_Parse)

-- NOT PRINTED: function 10 (lamplighterlaw19_alive)

-- NOT PRINTED: function 55 (abi_NoEscape)

-- NOT PRINTED: function 43 (strings_Builder_copyCheck)

-- NOT PRINTED: function 26 (strings_Builder_WriteByte)

-- NOT PRINTED: function 27 (strings_Builder_String)

/-! ### trace_Hex: function 11 -/
def trace_Hex.f (l0 : List Int) : Option (ByteArray) := if (∀ x ∈ l0, 0 ≤ x ∧ x ≤ 255) ∧ l0.length ≤ 1000000 then some (strOf (hexT l0)) else none
theorem trace_Hex.calls (A0 : Option Addr) (c0 : Nat) (l0 : List Int) (r : ByteArray) (w : World) (hr0 : Kd.C (Kd.int .u8) w A0 l0.length l0) (hc0 : l0.length ≤ c0) (h : trace_Hex.f l0 = some r) :
    Calls Tryd.prog 11 #[.slice A0 l0.length c0] w fun e w' => e = .returned (.string r) ∧ Below w.heap.size w w' := by
  unfold trace_Hex.f at h
  by_cases q : (∀ x ∈ l0, 0 ≤ x ∧ x ≤ 255) ∧ l0.length ≤ 1000000
  · rw [if_pos q] at h
    obtain rfl := Option.some.inj h
    exact hex_walk A0 c0 l0 q.1 q.2 w hr0 hc0
  · rw [if_neg q] at h
    cases h


/-! ### lamplighterref19_value: function 29 -/
def lamplighterref19_value.j0 : Nat → Int → Bool → Option (Int)
  | 0, _, _ => none
  | k + 1, x0, x8 => if x8 = true then (some (wrap64 ((wrap64 (x0)) - 48))) else (if x0 ≥ 97 then (if x0 ≤ 102 then (some (wrap64 ((wrap64 (x0)) - 87))) else (some (-1))) else (some (-1)))
def lamplighterref19_value.f (k : Nat) (a0 : Int) : Option (Int) := if a0 ≥ 48 then (lamplighterref19_value.j0 k a0 (decide (a0 ≤ 57))) else (lamplighterref19_value.j0 k a0 false)
theorem lamplighterref19_value.mono_l : ∀ k, (∀ y0 y1, LeO (lamplighterref19_value.j0 k y0 y1) (lamplighterref19_value.j0 (k + 1) y0 y1))
  | 0 => fun _ _ r h => by simp [lamplighterref19_value.j0] at h
  | k + 1 => by
    have ih0 := lamplighterref19_value.mono_l k
    · intro y0 y1
      unfold lamplighterref19_value.j0
      repeat' first
      | (with_reducible exact ih0 _ _)
      | (with_reducible exact LeO.refl _)
      | (with_reducible exact LeO.none _)
      | (with_reducible refine LeO.ite ?_ ?_)
      | (with_reducible refine LeO.bind ?_ (fun _ => ?_))
      | exact ih0 _ _
      | exact LeO.none _
      | refine LeO.ite ?_ ?_
      | refine LeO.bind ?_ (fun _ => ?_)
theorem lamplighterref19_value.mono : ∀ a0 k, LeO (lamplighterref19_value.f k a0) (lamplighterref19_value.f (k + 1) a0) := by
  intro a0 k
  have ih0 := lamplighterref19_value.mono_l k
  unfold lamplighterref19_value.f
  repeat' first
      | (with_reducible exact ih0 _ _)
      | (with_reducible exact LeO.refl _)
      | (with_reducible exact LeO.none _)
      | (with_reducible refine LeO.ite ?_ ?_)
      | (with_reducible refine LeO.bind ?_ (fun _ => ?_))
      | exact ih0 _ _
      | exact LeO.none _
      | refine LeO.ite ?_ ?_
      | refine LeO.bind ?_ (fun _ => ?_)
set_option maxHeartbeats 8000000 in
set_option maxRecDepth 100000 in
theorem lamplighterref19_value.calls (k : Nat) (a0 : Int) (r : Int) (w : World) (h : lamplighterref19_value.f k a0 = some r) :
    Calls Tryd.prog 29 #[.int .u8 a0] w fun e w' => e = .returned (.int .i64 r) ∧ Drawn0 w w' := by
  have H : (if a0 ≥ 48 then (lamplighterref19_value.j0 k a0 (decide (a0 ≤ 57))) else (lamplighterref19_value.j0 k a0 false)) = some r := h
  clear h
  have HC2 := Aside0.mk H
  clear H
  go_enter Tryd.func29, Tryd.ntmps29
  go_upto_region 1 with (fail)
  go_cut [8] (fun v8 wc => ∃ (kq : Nat) (x8_1 : Bool), v8 = .bool x8_1 ∧ Aside0 (lamplighterref19_value.j0 kq a0 x8_1 = some r) ∧ Aside0 (kq ≤ k) ∧ Drawn0 w wc)
  case first =>
    have H := HC2.out
    clear HC2
    by_cases c3 : a0 ≥ 48
    · rw [if_pos c3] at H
      have c3b0 : decide (48 ≤ a0) = true := decide_eq_true c3
      clear c3
      (first | rw [c3b0] | (simp only [i64_w, i32_w]; rw [c3b0]) | skip)
      have H' := Aside0.mk H
      clear H
      go_wp2
      go_meet
      case rel => exact ⟨_, (decide (a0 ≤ 57)), (by first | rfl | (simp; done) | (simp [*]; done)), H', ⟨by first | omega | exact Nat.le_refl _⟩, by repeat (first | exact Drawn0.refl _ | apply Drawn0.step)⟩
    · rw [if_neg c3] at H
      have c3b0 : decide (48 ≤ a0) = false := decide_eq_false c3
      clear c3
      (first | rw [c3b0] | (simp only [i64_w, i32_w]; rw [c3b0]) | skip)
      have H' := Aside0.mk H
      clear H
      go_wp2
      go_meet
      case rel => exact ⟨_, (false), (by first | rfl | (simp; done) | (simp [*]; done)), H', ⟨by first | omega | exact Nat.le_refl _⟩, by repeat (first | exact Drawn0.refl _ | apply Drawn0.step)⟩
  case rest =>
    clear HC2
    try clear c2
    try clear p2
    try clear c3
    try clear c3b0
    obtain ⟨kq, x8_1, rfl, HA, HJ1, ⟨mc1, rfl⟩⟩ := hcut
    cases kq with
    | zero => exact absurd HA.out (by simp [lamplighterref19_value.j0])
    | succ kj1 =>
      have H := HA.out
      clear HA
      simp only [lamplighterref19_value.j0] at H
      by_cases c4 : x8_1 = true
      · subst c4
        have H1 : (some (wrap64 ((wrap64 (a0)) - 48))) = some r := by rw [if_pos rfl] at H; exact H
        clear H
        have H := H1
        clear H1
        obtain rfl := Option.some.inj H
        go_wp2
        go_ret
        exact ⟨by first | rfl | (simp; done) | (simp [*]; done), by repeat (first | exact Drawn0.refl _ | apply Drawn0.step)⟩
      · replace c4 := Bool.eq_false_iff.mpr c4
        subst c4
        have H1 : (if a0 ≥ 97 then (if a0 ≤ 102 then (some (wrap64 ((wrap64 (a0)) - 87))) else (some (-1))) else (some (-1))) = some r := by rw [if_neg (show ¬ (false = true) by decide)] at H; exact H
        clear H
        have H := H1
        clear H1
        by_cases c5 : a0 ≥ 97
        · rw [if_pos c5] at H
          have c5b0 : decide (97 ≤ a0) = true := decide_eq_true c5
          clear c5
          by_cases c6 : a0 ≤ 102
          · rw [if_pos c6] at H
            have c6b0 : decide (a0 ≤ 102) = true := decide_eq_true c6
            clear c6
            obtain rfl := Option.some.inj H
            go_wp2
            go_ret
            exact ⟨by first | rfl | (simp; done) | (simp [*]; done), by repeat (first | exact Drawn0.refl _ | apply Drawn0.step)⟩
          · rw [if_neg c6] at H
            have c6b0 : decide (a0 ≤ 102) = false := decide_eq_false c6
            clear c6
            obtain rfl := Option.some.inj H
            go_wp2
            go_ret
            exact ⟨by first | rfl | (simp; done) | (simp [*]; done), by repeat (first | exact Drawn0.refl _ | apply Drawn0.step)⟩
        · rw [if_neg c5] at H
          have c5b0 : decide (97 ≤ a0) = false := decide_eq_false c5
          clear c5
          obtain rfl := Option.some.inj H
          go_wp2
          go_ret
          exact ⟨by first | rfl | (simp; done) | (simp [*]; done), by repeat (first | exact Drawn0.refl _ | apply Drawn0.step)⟩

end Go.Proofs.YtoloooammaiipaaDoor.PI
/-
  DERIVED: THE SHELF's CONTRACTS AT THIS DUMP, IN PLAIN WORDS (tools/lay-plain.mjs out of 'YtoloooammaiipaaDoorSNum.lean', which tools/lay-shelf.mjs wrote): THE SAME DECLARATIONS UNDER THE SAME NAMES: 'import', 'namespace', 'open', 'def', 'theorem' AND NOTHING ELSE: no command of the shelf's: FOR A HAND-IN. Each laying: the table of numbers ('.._ren') and one theorem, a field a fact of the dump's own or the kernel's comparison; each contract: ONE APPLICATION.
-/
namespace Go.Proofs
open Go.Shelf
def Tryd.laysM246_ren : Go.Shelf.Ren := ⟨fun | 246 => 57 | 283 => 63 | 284 => 64 | 285 => 65 | 286 => 66 | 129 => 75 | 317 => 74 | 318 => 76 | 319 => 77 | 320 => 78 | 337 => 86 | 338 => 87 | n => n, fun | 2 => 2 | 3 => 3 | 9 => 9 | 4 => 4 | 171 => 101 | 0 => 0 | 53 => 102 | 37 => 22 | 5 => 5 | 173 => 105 | 212 => 112 | 51 => 113 | 20 => 20 | 213 => 114 | 46 => 63 | 232 => 135 | 233 => 136 | n => n, fun | 17 => 2 | 18 => 7 | 19 => 8 | n => n⟩
theorem Tryd.laysM246 : Go.Proofs.LaysM.n246 Tryd.prog Tryd.laysM246_ren := {
  mixed := by kernel_rfl
  f129 := Tryd.func75.trans (congrArg some (by kernel_rfl))
  f246 := Tryd.func57.trans (congrArg some (by kernel_rfl))
  f283 := Tryd.func63.trans (congrArg some (by kernel_rfl))
  f284 := Tryd.func64.trans (congrArg some (by kernel_rfl))
  f285 := Tryd.func65.trans (congrArg some (by kernel_rfl))
  f286 := Tryd.func66.trans (congrArg some (by kernel_rfl))
  f317 := Tryd.func74.trans (congrArg some (by kernel_rfl))
  f318 := Tryd.func76.trans (congrArg some (by kernel_rfl))
  f319 := Tryd.func77.trans (congrArg some (by kernel_rfl))
  f320 := Tryd.func78.trans (congrArg some (by kernel_rfl))
  f337 := Tryd.func86.trans (congrArg some (by kernel_rfl))
  f338 := Tryd.func87.trans (congrArg some (by kernel_rfl))
  t0 := Tryd.underlying0
  a0 := Tryd.isAgg0
  z0 := Tryd.sizeOf0
  v0 := Tryd.zeroValue0
  t2 := Tryd.underlying2
  a2 := Tryd.isAgg2
  z2 := Tryd.sizeOf2
  v2 := Tryd.zeroValue2
  t3 := Tryd.underlying3
  a3 := Tryd.isAgg3
  z3 := Tryd.sizeOf3
  v3 := Tryd.zeroValue3
  t4 := Tryd.underlying4
  a4 := Tryd.isAgg4
  z4 := Tryd.sizeOf4
  v4 := Tryd.zeroValue4
  t5 := Tryd.underlying5
  a5 := Tryd.isAgg5
  z5 := Tryd.sizeOf5
  v5 := Tryd.zeroValue5
  t9 := Tryd.underlying9
  a9 := Tryd.isAgg9
  z9 := Tryd.sizeOf9
  v9 := Tryd.zeroValue9
  t20 := Tryd.underlying20
  a20 := Tryd.isAgg20
  z20 := Tryd.sizeOf20
  v20 := Tryd.zeroValue20
  t37 := Tryd.underlying22
  a37 := Tryd.isAgg22
  z37 := Tryd.sizeOf22
  v37 := Tryd.zeroValue22
  t46 := Tryd.underlying63
  a46 := Tryd.isAgg63
  z46 := Tryd.sizeOf63
  v46 := Tryd.zeroValue63
  t51 := Tryd.underlying113
  a51 := Tryd.isAgg113
  z51 := Tryd.sizeOf113
  v51 := Tryd.zeroValue113
  t53 := Tryd.underlying102
  a53 := Tryd.isAgg102
  z53 := Tryd.sizeOf102
  v53 := Tryd.zeroValue102
  t171 := Tryd.underlying101
  a171 := Tryd.isAgg101
  z171 := Tryd.sizeOf101
  v171 := Tryd.zeroValue101
  t173 := Tryd.underlying105
  a173 := Tryd.isAgg105
  z173 := Tryd.sizeOf105
  v173 := Tryd.zeroValue105
  t212 := Tryd.underlying112
  a212 := Tryd.isAgg112
  z212 := Tryd.sizeOf112
  v212 := Tryd.zeroValue112
  t213 := Tryd.underlying114
  a213 := Tryd.isAgg114
  z213 := Tryd.sizeOf114
  t232 := Tryd.underlying135
  a232 := Tryd.isAgg135
  z232 := Tryd.sizeOf135
  v232 := Tryd.zeroValue135
  t233 := Tryd.underlying136
  a233 := Tryd.isAgg136
  z233 := Tryd.sizeOf136
  v233 := Tryd.zeroValue136
  g17 := by kernel_rfl
  g18 := by kernel_rfl
  g19 := by kernel_rfl
  i0 := by kernel_rfl
  i2 := by kernel_rfl
  i3 := by kernel_rfl
  i4 := by kernel_rfl
  i5 := by kernel_rfl
  i9 := by kernel_rfl
  i20 := by kernel_rfl
  i37 := by kernel_rfl
  i46 := by kernel_rfl
  i51 := by kernel_rfl
  i53 := by kernel_rfl
  i171 := by kernel_rfl
  i173 := by kernel_rfl
  i212 := by kernel_rfl
  i232 := by kernel_rfl
  i233 := by kernel_rfl
  m17 := by kernel_rfl
  m18 := by kernel_rfl
  m19 := by kernel_rfl }
open Go.RowKit Go.Sort Go.Lib in
/-- internal/strconv.FormatInt: "FormatInt returns the string representation of i in the given base": AT BASE 10: i's decimal numeral, for every int64. The world behind the call: the world before it, new blocks behind the heap, draws. (LAID: no walk: one application.) -/
theorem Tryd.internal_strconv_FormatInt_10 (n : Int) (h0 : -9223372036854775808 ≤ n) (h1 : n ≤ 9223372036854775807) (w : World) (htab : Lib.TabIs Tryd.prog w "internal/strconv.uint64pow10" .u64 Lib.pow10Tab) :
    Calls Tryd.prog 57 #[.int .i64 n, .int .i64 10] w fun e w' => e = .returned (.string ⟨(Lib.itoa n).toArray⟩) ∧ ∃ k os, w' = grow (w.drewN k) os := Any.internal_strconv_FormatInt_10 Tryd.laysM246 n h0 h1 w htab
def Tryd.laysC172_ren : Go.Shelf.Ren := ⟨fun | 172 => 59 | 244 => 67 | 245 => 68 | 247 => 79 | 279 => 80 | 280 => 81 | 281 => 82 | 282 => 83 | 287 => 88 | 316 => 89 | 171 => 30 | 205 => 90 | 321 => 91 | 322 => 92 | 243 => 45 | 246 => 57 | 283 => 63 | 284 => 64 | 285 => 65 | 286 => 66 | 129 => 75 | 317 => 74 | 318 => 76 | 319 => 77 | 320 => 78 | 337 => 86 | 338 => 87 | n => n, fun | 9 => 9 | 3 => 3 | 75 => 61 | 76 => 81 | 4 => 4 | 5 => 5 | 167 => 116 | 37 => 22 | 0 => 0 | 85 => 117 | 2 => 2 | 168 => 119 | 53 => 102 | 175 => 125 | 46 => 63 | 210 => 129 | 127 => 92 | 145 => 140 | 143 => 138 | 21 => 21 | 171 => 101 | 173 => 105 | 212 => 112 | 51 => 113 | 20 => 20 | 213 => 114 | 232 => 135 | 233 => 136 | 80 => 64 | n => n, fun | 15 => 3 | 16 => 4 | 17 => 2 | 18 => 7 | 19 => 8 | n => n⟩
theorem Tryd.laysC172 : Go.Proofs.LaysC.n172 Tryd.prog Tryd.laysC172_ren := {
  mixed := by kernel_rfl
  f129 := Tryd.func75.trans (congrArg some (by kernel_rfl))
  f171 := Tryd.func30.trans (congrArg some (by kernel_rfl))
  f172 := Tryd.func59.trans (congrArg some (by kernel_rfl))
  f205 := Tryd.func90.trans (congrArg some (by kernel_rfl))
  f243 := Tryd.func45.trans (congrArg some (by kernel_rfl))
  f244 := Tryd.func67.trans (congrArg some (by kernel_rfl))
  f245 := Tryd.func68.trans (congrArg some (by kernel_rfl))
  f246 := Tryd.func57.trans (congrArg some (by kernel_rfl))
  f247 := Tryd.func79.trans (congrArg some (by kernel_rfl))
  f279 := Tryd.func80.trans (congrArg some (by kernel_rfl))
  f280 := Tryd.func81.trans (congrArg some (by kernel_rfl))
  f281 := Tryd.func82.trans (congrArg some (by kernel_rfl))
  f282 := Tryd.func83.trans (congrArg some (by kernel_rfl))
  f283 := Tryd.func63.trans (congrArg some (by kernel_rfl))
  f284 := Tryd.func64.trans (congrArg some (by kernel_rfl))
  f285 := Tryd.func65.trans (congrArg some (by kernel_rfl))
  f286 := Tryd.func66.trans (congrArg some (by kernel_rfl))
  f287 := Tryd.func88.trans (congrArg some (by kernel_rfl))
  f316 := Tryd.func89.trans (congrArg some (by kernel_rfl))
  f317 := Tryd.func74.trans (congrArg some (by kernel_rfl))
  f318 := Tryd.func76.trans (congrArg some (by kernel_rfl))
  f319 := Tryd.func77.trans (congrArg some (by kernel_rfl))
  f320 := Tryd.func78.trans (congrArg some (by kernel_rfl))
  f321 := Tryd.func91.trans (congrArg some (by kernel_rfl))
  f322 := Tryd.func92.trans (congrArg some (by kernel_rfl))
  f337 := Tryd.func86.trans (congrArg some (by kernel_rfl))
  f338 := Tryd.func87.trans (congrArg some (by kernel_rfl))
  t0 := Tryd.underlying0
  a0 := Tryd.isAgg0
  z0 := Tryd.sizeOf0
  v0 := Tryd.zeroValue0
  t2 := Tryd.underlying2
  a2 := Tryd.isAgg2
  z2 := Tryd.sizeOf2
  v2 := Tryd.zeroValue2
  t3 := Tryd.underlying3
  a3 := Tryd.isAgg3
  z3 := Tryd.sizeOf3
  v3 := Tryd.zeroValue3
  t4 := Tryd.underlying4
  a4 := Tryd.isAgg4
  z4 := Tryd.sizeOf4
  v4 := Tryd.zeroValue4
  t5 := Tryd.underlying5
  a5 := Tryd.isAgg5
  z5 := Tryd.sizeOf5
  v5 := Tryd.zeroValue5
  t9 := Tryd.underlying9
  a9 := Tryd.isAgg9
  z9 := Tryd.sizeOf9
  v9 := Tryd.zeroValue9
  t20 := Tryd.underlying20
  a20 := Tryd.isAgg20
  z20 := Tryd.sizeOf20
  v20 := Tryd.zeroValue20
  t21 := Tryd.underlying21
  a21 := Tryd.isAgg21
  z21 := Tryd.sizeOf21
  v21 := Tryd.zeroValue21
  t37 := Tryd.underlying22
  a37 := Tryd.isAgg22
  z37 := Tryd.sizeOf22
  v37 := Tryd.zeroValue22
  t46 := Tryd.underlying63
  a46 := Tryd.isAgg63
  z46 := Tryd.sizeOf63
  v46 := Tryd.zeroValue63
  t51 := Tryd.underlying113
  a51 := Tryd.isAgg113
  z51 := Tryd.sizeOf113
  v51 := Tryd.zeroValue113
  t53 := Tryd.underlying102
  a53 := Tryd.isAgg102
  z53 := Tryd.sizeOf102
  v53 := Tryd.zeroValue102
  t75 := Tryd.underlying61
  a75 := Tryd.isAgg61
  z75 := Tryd.sizeOf61
  v75 := Tryd.zeroValue61
  t76 := Tryd.underlying81
  a76 := Tryd.isAgg81
  z76 := Tryd.sizeOf81
  v76 := Tryd.zeroValue81
  t85 := Tryd.underlying117
  a85 := Tryd.isAgg117
  z85 := Tryd.sizeOf117
  v85 := Tryd.zeroValue117
  t127 := Tryd.underlying92
  a127 := Tryd.isAgg92
  z127 := Tryd.sizeOf92
  v127 := Tryd.zeroValue92
  t143 := Tryd.underlying138
  a143 := Tryd.isAgg138
  z143 := Tryd.sizeOf138
  v143 := Tryd.zeroValue138
  t145 := Tryd.underlying140
  a145 := Tryd.isAgg140
  z145 := Tryd.sizeOf140
  v145 := Tryd.zeroValue140
  t167 := Tryd.underlying116
  a167 := Tryd.isAgg116
  z167 := Tryd.sizeOf116
  v167 := Tryd.zeroValue116
  t168 := Tryd.underlying119
  a168 := Tryd.isAgg119
  z168 := Tryd.sizeOf119
  v168 := Tryd.zeroValue119
  t171 := Tryd.underlying101
  a171 := Tryd.isAgg101
  z171 := Tryd.sizeOf101
  v171 := Tryd.zeroValue101
  t173 := Tryd.underlying105
  a173 := Tryd.isAgg105
  z173 := Tryd.sizeOf105
  v173 := Tryd.zeroValue105
  t175 := Tryd.underlying125
  a175 := Tryd.isAgg125
  z175 := Tryd.sizeOf125
  v175 := Tryd.zeroValue125
  t210 := Tryd.underlying129
  a210 := Tryd.isAgg129
  z210 := Tryd.sizeOf129
  v210 := Tryd.zeroValue129
  t212 := Tryd.underlying112
  a212 := Tryd.isAgg112
  z212 := Tryd.sizeOf112
  v212 := Tryd.zeroValue112
  t213 := Tryd.underlying114
  a213 := Tryd.isAgg114
  z213 := Tryd.sizeOf114
  t232 := Tryd.underlying135
  a232 := Tryd.isAgg135
  z232 := Tryd.sizeOf135
  v232 := Tryd.zeroValue135
  t233 := Tryd.underlying136
  a233 := Tryd.isAgg136
  z233 := Tryd.sizeOf136
  v233 := Tryd.zeroValue136
  g15 := by kernel_rfl
  g16 := by kernel_rfl
  g17 := by kernel_rfl
  g18 := by kernel_rfl
  g19 := by kernel_rfl
  t80 := Tryd.underlying64
  a80 := Tryd.isAgg64
  z80 := Tryd.sizeOf64
  v80 := Tryd.zeroValue64
  i0 := by kernel_rfl
  i2 := by kernel_rfl
  i3 := by kernel_rfl
  i4 := by kernel_rfl
  i5 := by kernel_rfl
  i9 := by kernel_rfl
  i20 := by kernel_rfl
  i21 := by kernel_rfl
  i37 := by kernel_rfl
  i46 := by kernel_rfl
  i51 := by kernel_rfl
  i53 := by kernel_rfl
  i75 := by kernel_rfl
  i76 := by kernel_rfl
  i80 := by kernel_rfl
  i85 := by kernel_rfl
  i127 := by kernel_rfl
  i143 := by kernel_rfl
  i145 := by kernel_rfl
  i167 := by kernel_rfl
  i168 := by kernel_rfl
  i171 := by kernel_rfl
  i173 := by kernel_rfl
  i175 := by kernel_rfl
  i210 := by kernel_rfl
  i212 := by kernel_rfl
  i232 := by kernel_rfl
  i233 := by kernel_rfl
  m15 := by kernel_rfl
  m16 := by kernel_rfl
  m17 := by kernel_rfl
  m18 := by kernel_rfl
  m19 := by kernel_rfl
  c0 := by kernel_rfl
  c2 := by kernel_rfl
  c3 := by kernel_rfl
  c4 := by kernel_rfl
  c5 := by kernel_rfl
  c9 := by kernel_rfl
  c20 := by kernel_rfl
  c21 := by kernel_rfl
  c37 := by kernel_rfl
  c46 := by kernel_rfl
  c51 := by kernel_rfl
  c53 := by kernel_rfl
  c75 := by kernel_rfl
  c76 := by kernel_rfl
  c80 := by kernel_rfl
  c85 := by kernel_rfl
  c127 := by kernel_rfl
  c143 := by kernel_rfl
  c145 := by kernel_rfl
  c167 := by kernel_rfl
  c168 := by kernel_rfl
  c171 := by kernel_rfl
  c173 := by kernel_rfl
  c175 := by kernel_rfl
  c210 := by kernel_rfl
  c212 := by kernel_rfl
  c213 := by kernel_rfl
  c232 := by kernel_rfl
  c233 := by kernel_rfl }
open Go.RowKit in
/-- strconv.Atoi, AT EVERY STRING THAT SPELLS AN int ('Lib.atoiAll .. = .ok v'; of whatever length: leading zeros count): v, AND NO ERROR. The world: as it was, or with the one new row that '[]byte(..)' lays. (LAID: no walk: one application.) -/
theorem Tryd.strconv_Atoi_ok (s : ByteArray) (hmax : s.size ≤ 9223372036854775806) (v : Int) (h : Lib.atoiAll s.data.toList = .ok v) (w : World) :
    Calls Tryd.prog 59 #[.string s] w fun e w' => e = .returned (.tuple #[.int .i64 v, .nilIface]) ∧ (w' = w ∨ ∃ t, w' = Lib.bytesWorld w 5 t) := Any.strconv_Atoi_ok Tryd.laysC172 s hmax v h w
open Go.RowKit in
theorem Tryd.strconv_Atoi_syntax_var (s : ByteArray) (hlim : s.size ≤ 281474976710656) (h : Lib.atoiAll s.data.toList = .«syntax») (tp : TypeId) (p : Value) (w : World) (hvar : w.var? Tryd.prog "strconv.ErrSyntax" = some #[.iface tp p]) :
    Calls Tryd.prog 59 #[.string s] w fun e w' => ∃ N, e = .returned (.tuple #[.int .i64 0, .iface 119 (.pointer (some ⟨N, 0, none⟩))]) ∧ w.heap.size ≤ N ∧ w'.heap[N]? = some (.cells #[.string ⟨#[65, 116, 111, 105]⟩, .string s, .iface tp p] 129 (0, 0)) ∧ Below w.heap.size w w' := Any.strconv_Atoi_syntax_var Tryd.laysC172 s hlim h tp p w hvar
open Go.RowKit in
theorem Tryd.strconv_Atoi_range_var (s : ByteArray) (hlim : s.size ≤ 281474976710656) (h : Lib.atoiAll s.data.toList = .range) (tp : TypeId) (p : Value) (w : World) (hvar : w.var? Tryd.prog "strconv.ErrRange" = some #[.iface tp p]) :
    Calls Tryd.prog 59 #[.string s] w fun e w' => ∃ N, e = .returned (.tuple #[.int .i64 (Lib.atoiSat s.data.toList), .iface 119 (.pointer (some ⟨N, 0, none⟩))]) ∧ w.heap.size ≤ N ∧ w'.heap[N]? = some (.cells #[.string ⟨#[65, 116, 111, 105]⟩, .string s, .iface tp p] 129 (0, 0)) ∧ Below w.heap.size w w' := Any.strconv_Atoi_range_var Tryd.laysC172 s hlim h tp p w hvar
end Go.Proofs
/- What trace.number gives: a walk; conditions: the library's two sentinels and its table of powers lie as its text lays them. -/
namespace Go.Proofs.YtoloooammaiipaaDoor
open Go Go.RowKit Go.Proofs.YtoloooammaiipaaDoor.PI Go.Proofs.YtoloooammaiipaaDoorW.PrintWords Go.Proofs.YtoloooammaiipaaDoorW.PrintLast Go.Proofs.YtoloooammaiipaaDoorW.PrintMore
set_option linter.unusedVariables false
set_option linter.unusedSimpArgs false
/-- What a number's text tells: the number, and whether it is one. -/
def numOf (s : ByteArray) : Int × Bool := match Lib.atoiAll s.data.toList with
  | .ok v => if Lib.itoa v = s.data.toList ∧ (if s.data.toList.head? = some 45 then s.size - 1 else s.size) ≤ 18 then (v, true) else (0, false)
  | _ => (0, false)
set_option maxHeartbeats 4000000 in
set_option maxRecDepth 100000 in
theorem itoa_in (v : Int) (h0 : -9223372036854775808 ≤ v) (h1 : v ≤ 9223372036854775807) (w : World) (htab : Lib.TabIs Tryd.prog w "internal/strconv.uint64pow10" .u64 Lib.pow10Tab) :
    Calls Tryd.prog 45 #[.int .i64 v] w fun e w' => e = .returned (.string ⟨(Lib.itoa v).toArray⟩) ∧ Below w.heap.size w w' := by
  have HT := Lib.hid (Tryd.internal_strconv_FormatInt_10 v h0 h1 w htab)
  have HW := Lib.hid (show wrap64 v = v from wrap_fit h0 h1)
  clear htab
  go_enter Tryd.func45, Tryd.ntmps45
  go_wp2_with fail
  try rw [HW.out]
  refine HT.out.mono ?_
  rintro e w1 ⟨rfl, k, os, rfl⟩
  go_wp2_with fail
  go_ret
  exact ⟨rfl, Lib.below_grow _ _ (Nat.le_refl _) _ _⟩
set_option maxHeartbeats 4000000 in
set_option maxRecDepth 100000 in
theorem itoa_walk (v : Int) (h0 : -9223372036854775808 ≤ v) (h1 : v ≤ 9223372036854775807) (w : World) (htab : Lib.TabIs Tryd.prog w "internal/strconv.uint64pow10" .u64 Lib.pow10Tab) :
    Calls Tryd.prog 30 #[.int .i64 v] w fun e w' => e = .returned (.string ⟨(Lib.itoa v).toArray⟩) ∧ Below w.heap.size w w' := by
  have HT := Lib.hid (itoa_in v h0 h1 w htab)
  clear htab
  go_enter Tryd.func30, Tryd.ntmps30
  go_wp2_with fail
  refine HT.out.mono ?_
  rintro e w1 ⟨rfl, hb⟩
  go_wp2_with fail
  go_ret
  exact ⟨rfl, hb⟩
theorem bytes_below (w : World) (e : TypeId) (t : ByteArray) : Below w.heap.size w (Lib.bytesWorld w e t) := ⟨rfl, rfl, rfl, by rw [Lib.bytesWorld_size]; omega, fun k hk => Lib.bytesWorld_at_old w e t k hk⟩
theorem tab_below {w w' : World} (hb : Below w.heap.size w w') (h : Lib.TabIs Tryd.prog w "internal/strconv.uint64pow10" .u64 Lib.pow10Tab) : Lib.TabIs Tryd.prog w' "internal/strconv.uint64pow10" .u64 Lib.pow10Tab := by
  obtain ⟨g, hg⟩ := Option.isSome_iff_exists.1 (show (Tryd.prog.globalNamed "internal/strconv.uint64pow10").isSome = true by kernel_rfl)
  exact Go.Joins.tab_stays hg h hb (Nat.le_refl _)
theorem trim_is (s : ByteArray) : ∃ r : ByteArray, strings_TrimPrefix.f s ⟨#[45]⟩ = some r ∧ r.size = (if s.data.toList.head? = some 45 then s.size - 1 else s.size) := by
  have h1 := len_size s
  have hz : (⟨#[45]⟩ : ByteArray).size = 1 := rfl
  have hp : stringslite_HasPrefix.f s ⟨#[45]⟩ = some (decide (s.data.toList.head? = some 45)) := by
    unfold stringslite_HasPrefix.f
    rw [hz]
    by_cases hl : 1 ≤ s.size
    · rw [if_pos (by omega), if_pos (by omega), if_pos (by omega)]
      congr 1
      rw [Lib.toList_data, Lib.extract_data, List.drop_zero]
      cases hs : s.data.toList with
      | nil => rw [hs] at h1; simp at h1; omega
      | cons x t =>
        have e2 : (⟨#[45]⟩ : ByteArray).toList = [45] := by rw [Lib.toList_data]
        have e3 : List.take ((((1 : Nat) : Int)).toNat - 0) (x :: t) = [x] := rfl
        rw [e2, e3, Bool.eq_iff_iff]
        simp
    · rw [if_neg (by omega)]
      congr 1
      have hs : s.data.toList = [] := List.eq_nil_of_length_eq_zero (by omega)
      rw [hs]
      rfl
  unfold strings_TrimPrefix.f stringslite_TrimPrefix.f
  rw [hp, Option.bind_some]
  by_cases h : s.data.toList.head? = some 45
  · have hl : 1 ≤ s.size := by
      cases hs : s.data.toList with
      | nil => rw [hs] at h; cases h
      | cons x t => rw [hs] at h1; simp at h1; omega
    rw [if_pos (decide_eq_true h), hz, if_pos (by omega), if_pos (by omega), if_pos h]
    refine ⟨_, rfl, ?_⟩
    rw [ByteArray.size_extract]
    show min s.size s.size - 1 = s.size - 1
    omega
  · rw [if_neg (by rw [decide_eq_true_eq]; exact h), if_neg h]
    exact ⟨s, rfl, rfl⟩
set_option maxHeartbeats 4000000 in
set_option maxRecDepth 100000 in
theorem number_walk (s : ByteArray) (hs : s.size ≤ 1000000) (w : World) (htab : Lib.TabIs Tryd.prog w "internal/strconv.uint64pow10" .u64 Lib.pow10Tab) (tp : TypeId) (p : Value) (hES : w.var? Tryd.prog "strconv.ErrSyntax" = some #[.iface tp p]) (tq : TypeId) (q : Value) (hER : w.var? Tryd.prog "strconv.ErrRange" = some #[.iface tq q]) :
    Calls Tryd.prog 48 #[.string s] w fun e w' => e = .returned (.tuple #[.int .i64 (numOf s).1, .bool (numOf s).2]) ∧ Below w.heap.size w w' := by
  have HT := Lib.hid htab
  have HS := Lib.hid hES
  have HR := Lib.hid hER
  clear htab hES hER
  cases hA : Lib.atoiAll s.data.toList with
  | ok v =>
    have hvr := Lib.atoiAll_bounds hA
    have HA := Lib.hid hA
    clear hA
    obtain ⟨r, hr, hrs⟩ := trim_is s
    have HRT := Lib.hid hr
    have HRS := Lib.hid hrs
    clear hr hrs
    go_enter Tryd.func48, Tryd.ntmps48
    go_wp2_with fail
    refine (Tryd.strconv_Atoi_ok s (by omega) v HA.out w).mono ?_
    rintro e w1 ⟨rfl, hw⟩
    have HB1 := Lib.hid (show Below w.heap.size w w1 from by
      rcases hw with rfl | ⟨t, rfl⟩
      · exact Below.refl _ _
      · exact bytes_below _ _ _)
    clear hw
    go_wp2_with fail
    refine (itoa_walk v hvr.1 hvr.2 _ (tab_below HB1.out HT.out)).mono ?_
    rintro e w2 ⟨rfl, hb2⟩
    have HB2 := Lib.hid (below_step HB1.out hb2)
    clear hb2
    by_cases hx : Lib.itoa v = s.data.toList
    · have x1 : (Lib.itoa v == s.toList) = true := by rw [beq_iff_eq, Lib.toList_data]; exact hx
      have HX := Lib.hid hx
      clear hx
      go_wp2_with fail
      refine (strings_TrimPrefix.calls s ⟨#[45]⟩ r _ HRT.out).mono ?_
      rintro e w3 ⟨rfl, hdr⟩
      have HB3 := Lib.hid (below_step HB2.out hdr.below)
      clear hdr
      by_cases h18 : (18 : Int) < (r.size : Int)
      · go_wp2_with fail
        go_ret2
        refine ⟨?_, HB3.out⟩
        unfold numOf
        rw [HA.out]
        simp only
        rw [← HRS.out, if_neg (by omega)]
        rfl
      · go_wp2_with fail
        go_ret2
        refine ⟨?_, HB3.out⟩
        unfold numOf
        rw [HA.out]
        simp only
        rw [← HRS.out, if_pos ⟨HX.out, by omega⟩]
        rfl
    · have x1 : (Lib.itoa v == s.toList) = false := by rw [beq_eq_false_iff_ne, Lib.toList_data]; exact hx
      have HX := Lib.hid hx
      clear hx
      go_wp2_with fail
      go_ret2
      refine ⟨?_, HB2.out⟩
      unfold numOf
      rw [HA.out]
      simp only
      rw [if_neg (fun h => HX.out h.1)]
      rfl
  | range =>
    have HA := Lib.hid hA
    clear hA
    go_enter Tryd.func48, Tryd.ntmps48
    go_wp2_with fail
    refine (Tryd.strconv_Atoi_range_var s (by omega) HA.out tq q w HR.out).mono ?_
    rintro e w1 ⟨N, rfl, _, _, hb⟩
    have HB1 := Lib.hid hb
    clear hb
    go_wp2_with fail
    go_ret2
    refine ⟨?_, HB1.out⟩
    unfold numOf
    rw [HA.out]
    rfl
  | _ =>
    have HA := Lib.hid hA
    clear hA
    go_enter Tryd.func48, Tryd.ntmps48
    go_wp2_with fail
    refine (Tryd.strconv_Atoi_syntax_var s (by omega) HA.out tp p w HS.out).mono ?_
    rintro e w1 ⟨N, rfl, _, _, hb⟩
    have HB1 := Lib.hid hb
    clear hb
    go_wp2_with fail
    go_ret2
    refine ⟨?_, HB1.out⟩
    unfold numOf
    rw [HA.out]
    rfl
end Go.Proofs.YtoloooammaiipaaDoor
/- What trace's (kind).fill gives: a walk (under way). -/
namespace Go.Proofs.YtoloooammaiipaaDoor
open Go Go.RowKit Go.Proofs.YtoloooammaiipaaDoor.PI Go.Proofs.YtoloooammaiipaaDoorW.PrintWords Go.Proofs.YtoloooammaiipaaDoorW.PrintLast Go.Proofs.YtoloooammaiipaaDoorW.PrintMore
set_option linter.unusedVariables false
set_option linter.unusedSimpArgs false
set_option maxHeartbeats 4000000 in
set_option maxRecDepth 100000 in
theorem next_none (b : Nat) (A : Option Addr) (c : Nat) (w : World) (hk : w.heap[b]? = some (.cells #[.slice A 0 c] 75 (0, 0))) :
    Calls Tryd.prog 47 #[.pointer (some ⟨b, 0, none⟩)] w fun e w' => e = .returned (.string ⟨#[]⟩) ∧ w' = w := by
  have e0 := cell_of_cells hk 0
  simp only [List.getElem?_toArray, List.getElem?_cons_zero] at e0
  go_enter Tryd.func47, Tryd.ntmps47
  go_wp2_with fail
  go_ret
  exact ⟨rfl, rfl⟩
set_option maxHeartbeats 4000000 in
set_option maxRecDepth 100000 in
theorem next_some (b ab ao : Nat) (n m : Nat) (x : ByteArray) (w : World) (hk : w.heap[b]? = some (.cells #[.slice (some ⟨ab, ao, none⟩) (n + 1) (m + 1)] 75 (0, 0))) (hx : w.cell? ⟨ab, ao, none⟩ = some (.string x)) (hnm : n ≤ m) (hn : n ≤ 1000000) :
    Calls Tryd.prog 47 #[.pointer (some ⟨b, 0, none⟩)] w fun e w' => e = .returned (.string x) ∧ w' = w.drew.setCell ⟨b, 0, none⟩ (.slice (some ⟨ab, if m = 0 then ao else ao + 1, none⟩) n m) := by
  have e0 := cell_of_cells hk 0
  simp only [List.getElem?_toArray, List.getElem?_cons_zero] at e0
  have hlt := blk_lt hk
  have fz := blk_frozen hk 0
  have n1 : (0 : Int) < (n : Int) + 1 := by omega
  have n2 : (1 : Int) ≤ (n : Int) + 1 := by omega
  go_enter Tryd.func47, Tryd.ntmps47
  go_wp2_with fail
  go_still_tail 6, (by kernel_rfl)
  have hk2 := blk_drew hk
  have hx2 : w.drew.cell? ⟨ab, ao, none⟩ = some (.string x) := hx
  change wpList _ _ _ _ _ w.drew
  clear e0 hlt fz hk hx
  generalize hw2 : w.drew = w2 at hk2 hx2 ⊢
  have HW2 := Lib.hid hw2
  clear hw2
  have e0 := cell_of_cells hk2 0
  simp only [List.getElem?_toArray, List.getElem?_cons_zero] at e0
  have hlt := blk_lt hk2
  have fz := blk_frozen hk2 0
  cases m with
  | zero =>
    obtain rfl : n = 0 := by omega
    go_wp2_with fail
    go_ret
    refine ⟨rfl, ?_⟩
    rw [← HW2.out]
    rfl
  | succ m =>
    go_wp2_with fail
    go_ret
    refine ⟨rfl, ?_⟩
    rw [← HW2.out]
    rfl
end Go.Proofs.YtoloooammaiipaaDoor
/- Numbers' texts, in plain words: what an event's number tells, as the library's two functions give it and as the reference spells it; no conditions. -/
namespace Go.Proofs.YtoloooammaiipaaDoor
open Go Go.Lib
/-- What a number's text tells. -/
def numL (s : List UInt8) : Option Int := match atoiAll s with
  | .ok v => if itoa v = s ∧ (if s.head? = some 45 then s.length - 1 else s.length) ≤ 18 then some v else none
  | _ => none
/-- The digits behind a sign. -/
def unsig (s : List UInt8) : List UInt8 := if s.head? = some 45 then s.tail else s
/-- The same, spelled out. -/
def refNum (s : List UInt8) : Option Int :=
  if unsig s = [] ∨ 18 < (unsig s).length ∨ ((unsig s).head? = some 48 ∧ s ≠ [48]) then none
  else (decFrom 0 (unsig s)).map fun (m : Nat) => if s.head? = some 45 then -(m : Int) else (m : Int)
theorem decFrom_snoc (l : List UInt8) (c : UInt8) : ∀ a, decFrom a (l ++ [c]) = (decFrom a l).bind fun n => (digitVal c).map fun d => n * 10 + d := by
  induction l with
  | nil =>
    intro a
    simp only [List.nil_append, decFrom, Option.bind_some]
    cases digitVal c <;> rfl
  | cons x r ih =>
    intro a
    simp only [List.cons_append, decFrom]
    cases digitVal x with
    | none => rfl
    | some d => exact ih _
theorem digitVal_of {c : UInt8} {d : Nat} (h : digitVal c = some d) : d < 10 ∧ c = UInt8.ofNat (48 + d) := by
  unfold digitVal at h
  split at h
  · rename_i hc
    obtain rfl := Option.some.inj h
    refine ⟨by omega, ?_⟩
    apply UInt8.toNat_inj.1
    simp
    omega
  · cases h
theorem digitVal_mk {d : Nat} (h : d < 10) : digitVal (UInt8.ofNat (48 + d)) = some d := by
  have hn : (UInt8.ofNat (48 + d)).toNat = 48 + d := by simp; omega
  unfold digitVal
  rw [hn, if_pos (by omega)]
  congr 1
  omega
theorem decDigits_step {u : Nat} (h : ¬ u < 10) : decDigits u = decDigits (u / 10) ++ [UInt8.ofNat (48 + u % 10)] := by
  rw [decDigits, dif_neg h]
theorem decFrom_decDigits (u : Nat) : decFrom 0 (decDigits u) = some u := by
  induction u using Nat.strongRecOn with
  | _ u ih =>
    by_cases h : u < 10
    · rw [decDigits_one h]
      simp only [decFrom, digitVal_mk h]
      simp
    · rw [decDigits_step h, decFrom_snoc, ih (u / 10) (by omega), Option.bind_some, digitVal_mk (by omega)]
      simp only [Option.map_some]
      congr 1
      omega
theorem decDigits_ne (u : Nat) : decDigits u ≠ [] := by
  intro h
  have h1 := decDigits_length u
  have h2 := nDigits_pos u
  rw [h] at h1
  simp at h1
  omega
theorem head_append {α : Type} {l : List α} (h : l ≠ []) (r : List α) : (l ++ r).head? = l.head? := by
  cases l with
  | nil => exact absurd rfl h
  | cons => rfl
theorem decDigits_head {u : Nat} (h : 1 ≤ u) : ∃ d, 1 ≤ d ∧ d < 10 ∧ (decDigits u).head? = some (UInt8.ofNat (48 + d)) := by
  induction u using Nat.strongRecOn with
  | _ u ih =>
    by_cases h1 : u < 10
    · exact ⟨u, h, h1, by rw [decDigits_one h1]; rfl⟩
    · obtain ⟨d, a, b, c⟩ := ih (u / 10) (by omega) (by omega)
      exact ⟨d, a, b, by rw [decDigits_step h1, head_append (decDigits_ne _), c]⟩
theorem digit_lit_ne {d : Nat} (h1 : 1 ≤ d) (h2 : d < 10) : UInt8.ofNat (48 + d) ≠ 48 ∧ UInt8.ofNat (48 + d) ≠ 45 ∧ UInt8.ofNat (48 + d) ≠ 43 := by
  have hn : (UInt8.ofNat (48 + d)).toNat = 48 + d := by simp; omega
  refine ⟨fun e => ?_, fun e => ?_, fun e => ?_⟩ <;> · rw [e] at hn; simp at hn; omega
theorem head_ne48 {u : Nat} (h : 1 ≤ u) : (decDigits u).head? ≠ some 48 := by
  obtain ⟨d, a, b, c⟩ := decDigits_head h
  rw [c]
  exact fun e => (digit_lit_ne a b).1 (Option.some.inj e)
theorem digits_any {u : Nat} : (decDigits u).head? ≠ some 45 ∧ (decDigits u).head? ≠ some 43 := by
  rcases Nat.eq_zero_or_pos u with rfl | h
  · rw [decDigits_one (by decide)]
    exact ⟨by decide, by decide⟩
  · obtain ⟨d, a, b, c⟩ := decDigits_head h
    rw [c]
    exact ⟨fun e => (digit_lit_ne a b).2.1 (Option.some.inj e), fun e => (digit_lit_ne a b).2.2 (Option.some.inj e)⟩
theorem zero_digits : decDigits 0 = [48] := by rw [decDigits_one (by decide)]; rfl
/-- Digits are a numeral just if no nought is ahead. -/
theorem numeral_of : ∀ (n : Nat) (t : List UInt8) (m : Nat), t.length = n → t ≠ [] → decFrom 0 t = some m → (t.head? ≠ some 48 ∨ t = [48]) → decDigits m = t
  | 0, t, m, hn, h0, _, _ => absurd (List.eq_nil_of_length_eq_zero hn) h0
  | n + 1, t, m, hn, h0, hd, hh => by
    obtain ⟨l, c, rfl⟩ : ∃ l c, t = l ++ [c] := ⟨t.dropLast, t.getLast h0, (List.dropLast_concat_getLast h0).symm⟩
    rw [decFrom_snoc] at hd
    obtain ⟨m', h1, h2⟩ := Option.bind_eq_some_iff.1 hd
    obtain ⟨d, h3, h4⟩ := Option.map_eq_some_iff.1 h2
    obtain ⟨h5, rfl⟩ := digitVal_of h3
    by_cases hl : l = []
    · subst hl
      simp only [decFrom, Option.some.injEq] at h1
      subst h1
      obtain rfl : d = m := by omega
      rw [decDigits_one h5]
      rfl
    · have hlen : l.length = n := by simpa using hn
      have hh' : l.head? ≠ some 48 := by
        rcases hh with h | h
        · rwa [head_append hl] at h
        · exfalso
          have := congrArg List.length h
          simp at this
          exact hl this
      have ih := numeral_of n l m' hlen hl h1 (Or.inl hh')
      have hm : m' ≠ 0 := by
        rintro rfl
        rw [zero_digits] at ih
        rw [← ih] at hh'
        exact hh' rfl
      subst h4
      rw [decDigits_step (by omega), show (m' * 10 + d) / 10 = m' by omega, show (m' * 10 + d) % 10 = d by omega, ih]
theorem numeral_iff {t : List UInt8} {m : Nat} (h0 : t ≠ []) (hd : decFrom 0 t = some m) : decDigits m = t ↔ (t.head? ≠ some 48 ∨ t = [48]) := by
  constructor
  · intro h
    rcases Nat.eq_zero_or_pos m with rfl | hm
    · right
      rw [← h, zero_digits]
    · left
      rw [← h]
      exact head_ne48 hm
  · exact numeral_of _ t m rfl h0 hd
theorem decNat_ne {t : List UInt8} (h : t ≠ []) : decNat t = decFrom 0 t := by
  cases t with
  | nil => exact absurd rfl h
  | cons => rfl
theorem numL_ref (s : List UInt8) : numL s = refNum s := by
  by_cases hneg : s.head? = some 45
  · obtain ⟨t, rfl⟩ : ∃ t, s = 45 :: t := by
      cases s with
      | nil => cases hneg
      | cons a r => exact ⟨r, by simp at hneg; rw [hneg]⟩
    have hu : unsig (45 :: t) = t := by unfold unsig; rw [if_pos hneg]; rfl
    unfold refNum numL
    rw [hu]
    by_cases hl : t.length ≤ 18
    · by_cases h0 : t = []
      · subst h0
        rfl
      rw [atoiAll_minus, signed_short hl, decNat_ne h0]
      cases hd : decFrom 0 t with
      | none => simp [NumEnd.ofOption]
      | some m =>
        have hi := numeral_iff h0 hd
        have e1 : (if (45 :: t).head? = some 45 then (45 :: t).length - 1 else (45 :: t).length) = t.length := by rw [if_pos hneg]; rfl
        simp only [Option.map_some, NumEnd.ofOption]
        rw [e1]
        by_cases hz : t.head? = some 48
        · rw [if_pos (Or.inr (Or.inr ⟨hz, by simp⟩)), if_neg]
          rintro ⟨h, -⟩
          rcases Nat.eq_zero_or_pos m with rfl | hm
          · have e : itoa (-((0 : Nat) : Int)) = [48] := by
              have := itoa_nonneg 0
              rw [zero_digits] at this
              simpa using this
            rw [e] at h
            simp at h
          · rw [itoa_neg m hm] at h
            have h' : decDigits m = t := by simpa using h
            have := head_ne48 hm
            rw [h'] at this
            exact this hz
        · have hm : 1 ≤ m := by
            rcases Nat.eq_zero_or_pos m with rfl | hm
            · have h9 := hi.2 (Or.inl hz)
              rw [zero_digits] at h9
              exact absurd (by rw [← h9]; rfl) hz
            · exact hm
          have hit : itoa (-(m : Int)) = 45 :: t := by rw [itoa_neg m hm, hi.2 (Or.inl hz)]
          rw [if_pos ⟨hit, hl⟩, if_neg (fun h : t = [] ∨ 18 < t.length ∨ t.head? = some 48 ∧ 45 :: t ≠ [48] => h.elim h0 (fun h => h.elim (fun h => absurd hl (by omega)) (fun h => hz h.1))), if_pos hneg]
    · rw [if_pos (Or.inr (Or.inl (by omega)))]
      split
      · rw [if_neg]
        rintro ⟨-, h⟩
        rw [if_pos hneg] at h
        simp at h
        omega
      · rfl
  · have hu : unsig s = s := by unfold unsig; rw [if_neg hneg]
    unfold refNum numL
    rw [hu]
    by_cases hl : s.length ≤ 18
    · by_cases h0 : s = []
      · subst h0
        rfl
      rw [atoiAll_short s hl]
      by_cases hp : s.head? = some 43
      · obtain ⟨t, rfl⟩ : ∃ t, s = 43 :: t := by
          cases s with
          | nil => cases hp
          | cons a r => exact ⟨r, by simp at hp; rw [hp]⟩
        have hd : decFrom 0 (43 :: t) = none := by simp [decFrom, digitVal]
        rw [hd]
        have h43 : atoi (43 :: t) = (decNat t).map fun (m : Nat) => (m : Int) := by
          rw [atoi]
          rw [if_neg (by decide), if_pos (by decide)]
        rw [h43]
        cases decNat t with
        | none => simp [NumEnd.ofOption]
        | some m =>
          simp only [Option.map_some, NumEnd.ofOption, Option.map_none]
          rw [if_neg, ite_self]
          rintro ⟨h, -⟩
          rw [itoa_nonneg] at h
          have := (digits_any (u := m)).2
          rw [h] at this
          exact this rfl
      · have hat : atoi s = (decFrom 0 s).map fun (m : Nat) => (m : Int) := by
          cases s with
          | nil => exact absurd rfl h0
          | cons a r =>
            have ha : a ≠ 45 := fun e => hneg (by rw [e]; rfl)
            have hb : a ≠ 43 := fun e => hp (by rw [e]; rfl)
            rw [atoi]
            rw [if_neg (by simpa using ha), if_neg (by simpa using hb)]
            rfl
        rw [hat]
        cases hd : decFrom 0 s with
        | none => simp [NumEnd.ofOption]
        | some m =>
          have hi := numeral_iff h0 hd
          simp only [Option.map_some, NumEnd.ofOption]
          rw [if_neg hneg, if_neg hneg, itoa_nonneg]
          by_cases hz : s.head? ≠ some 48 ∨ s = [48]
          · rw [if_pos ⟨hi.2 hz, hl⟩, if_neg]
            rintro (h | h | ⟨h, h'⟩)
            · exact h0 h
            · omega
            · rcases hz with hz | hz
              · exact hz h
              · exact h' hz
          · rw [if_neg (fun h => hz (hi.1 h.1)), if_pos]
            right; right
            refine ⟨Classical.not_not.1 (fun h => hz (Or.inl h)), fun h => hz (Or.inr h)⟩
    · rw [if_pos (Or.inr (Or.inl (by omega)))]
      split
      · rw [if_neg]
        rintro ⟨-, h⟩
        rw [if_neg hneg] at h
        omega
      · rfl
/-- A number of up to 18 digits is told by its text. -/
theorem numL_itoa {v : Int} (h0 : -1000000000000000000 < v) (h1 : v < 1000000000000000000) : numL (itoa v) = some v := by
  have len : ∀ u : Nat, u < 1000000000000000000 → (decDigits u).length ≤ 18 := fun u hu => by
    rw [decDigits_length]
    rcases Nat.lt_or_ge 18 (nDigits u) with h | h
    · exfalso
      have key : ∀ k u, k + 1 ≤ nDigits u → 1 ≤ k → 10 ^ k ≤ u := by
        intro k
        induction k with
        | zero => intro u _ h; omega
        | succ k ih =>
          intro u hu _
          by_cases h10 : u < 10
          · rw [nDigits_small h10] at hu; omega
          · rw [nDigits_big h10] at hu
            rcases Nat.eq_zero_or_pos k with rfl | hk
            · omega
            · have := ih (u / 10) (by omega) hk
              rw [Nat.pow_succ]
              omega
      have := key 18 u h (by decide)
      have e : (10 : Nat) ^ 18 = 1000000000000000000 := by decide
      omega
    · exact h
  rw [numL_ref]
  unfold refNum unsig
  by_cases hv : v < 0
  · obtain ⟨m, rfl⟩ : ∃ m : Nat, v = -(m : Int) := ⟨v.natAbs, by omega⟩
    have hm : 1 ≤ m := by omega
    have hh : (45 :: decDigits m).head? = some 45 := rfl
    rw [itoa_neg m hm, if_pos hh, List.tail_cons, if_neg, decFrom_decDigits, Option.map_some, if_pos hh]
    · rintro (h | h | ⟨h, -⟩)
      · exact decDigits_ne _ h
      · have := len m (by omega); omega
      · exact head_ne48 hm h
  · obtain ⟨m, rfl⟩ : ∃ m : Nat, v = (m : Int) := ⟨v.natAbs, by omega⟩
    have hne : (decDigits m).head? ≠ some 45 := digits_any.1
    rw [itoa_nonneg, if_neg hne, if_neg, decFrom_decDigits, Option.map_some, if_neg hne]
    · rintro (h | h | ⟨h, h'⟩)
      · exact decDigits_ne _ h
      · have := len m (by omega); omega
      · rcases Nat.eq_zero_or_pos m with rfl | hm
        · exact h' zero_digits
        · exact head_ne48 hm h
end Go.Proofs.YtoloooammaiipaaDoor
/- What lamplighterref19.Hex gives: a walk (under way); conditions: bytes, at most 1000000 of them. -/
namespace Go.Proofs.YtoloooammaiipaaDoor
open Go Go.RowKit Go.Proofs.YtoloooammaiipaaDoorW.PrintWords Go.Proofs.YtoloooammaiipaaDoorW.PrintLast Go.Proofs.YtoloooammaiipaaDoorW.PrintMore
set_option linter.unusedVariables false
set_option linter.unusedSimpArgs false
theorem digit_ext : ∀ n : Fin 16, (⟨#[48, 49, 50, 51, 52, 53, 54, 55, 56, 57, 97, 98, 99, 100, 101, 102]⟩ : ByteArray).extract n.1 (n.1 + 1) = ⟨#[hexD n.1]⟩ := by decide
theorem digits_of {q : Int} (h : 0 ≤ q ∧ q ≤ 255) : (⟨#[48, 49, 50, 51, 52, 53, 54, 55, 56, 57, 97, 98, 99, 100, 101, 102]⟩ : ByteArray).extract (q / 16).toNat (q / 16 + 1).toNat = ⟨#[hexD (q.toNat / 16)]⟩ ∧ (⟨#[48, 49, 50, 51, 52, 53, 54, 55, 56, 57, 97, 98, 99, 100, 101, 102]⟩ : ByteArray).extract (q % 16).toNat (q % 16 + 1).toNat = ⟨#[hexD (q.toNat % 16)]⟩ := by
  have e1 : (q / 16).toNat = q.toNat / 16 := by omega
  have e2 : (q / 16 + 1).toNat = q.toNat / 16 + 1 := by omega
  have e3 : (q % 16).toNat = q.toNat % 16 := by omega
  have e4 : (q % 16 + 1).toNat = q.toNat % 16 + 1 := by omega
  rw [e1, e2, e3, e4]
  exact ⟨digit_ext ⟨q.toNat / 16, by omega⟩, digit_ext ⟨q.toNat % 16, by omega⟩⟩
theorem u8_parts {q : Int} (h : 0 ≤ q ∧ q ≤ 255) : IntKind.u8.wrap (q.tdiv 16) = q / 16 ∧ IntKind.u8.wrap (q / 16 + 1) = q / 16 + 1 ∧ IntKind.u8.wrap (q.tmod 16) = q % 16 ∧ IntKind.u8.wrap (q % 16 + 1) = q % 16 + 1 := by
  have e1 : q.tdiv 16 = q / 16 := Int.tdiv_eq_ediv_of_nonneg h.1
  have e2 : q.tmod 16 = q % 16 := Int.tmod_eq_emod_of_nonneg h.1
  rw [e1, e2, IntKind.wrap_u8, IntKind.wrap_u8, IntKind.wrap_u8, IntKind.wrap_u8]
  omega
set_option maxHeartbeats 8000000 in
set_option maxRecDepth 100000 in
theorem refhex_walk (A : Option Addr) (c0 : Nat) (l : List Int) (hb : ∀ x ∈ l, 0 ≤ x ∧ x ≤ 255) (hl : l.length ≤ 1000000) (w : World) (hr : Kd.C (Kd.int .u8) w A l.length l) (hc : l.length ≤ c0) :
    Calls Tryd.prog 14 #[.slice A l.length c0] w fun e w' => e = .returned (.string (strOf (hexT l))) ∧ Below w.heap.size w w' := by
  have HB := Lib.hid hb
  have HL := Lib.hid hl
  have HR := Lib.hid hr
  clear hb hl hr
  go_enter Tryd.func14, Tryd.ntmps14
  by_cases h0 : l.length = 0
  · have hnil : l = [] := List.eq_nil_of_length_eq_zero h0
    subst hnil
    go_wp2_with fail
    go_ret
    exact ⟨rfl, Below.refl _ _⟩
  · have h0' : ¬ (l.length : Int) = 0 := by omega
    have h0b : ((l.length : Int) == 0) = false := beq_eq_false_iff_ne.2 h0'
    go_wp2_with fail
    clear h0b
    obtain ⟨wo, hwo⟩ : ∃ wo, wo = w := ⟨_, rfl⟩
    go_loopw [3, 4] (fun vs vi wr => ∃ i : Nat, vs = .string (strOf (hexL (l.take i))) ∧ vi = .int .i64 i ∧ i ≤ l.length ∧ Hid (∃ n, wr = wo.drewN n)) (fun _ vi _ => l.length - (intOf vi).toNat)
    case atStart => exact ⟨0, rfl, rfl, by omega, Lib.hid ⟨0, hwo.symm⟩⟩
    case round =>
      obtain ⟨i, rfl, rfl, hi, hwr⟩ := hrel
      have HCW := Lib.hid (show Kd.C (Kd.int .u8) wr A l.length l from by
        obtain ⟨dn, hd⟩ := hwr.out
        rw [hd, hwo]
        exact Kd.C_drewN HR.out dn)
      by_cases hin : i < l.length
      · obtain ⟨ad, rfl, hcell⟩ := C_cell HCW.out hin
        obtain ⟨q, hq⟩ : ∃ q, q = rd l (i : Int) := ⟨_, rfl⟩
        rw [← hq] at hcell
        have hqb : 0 ≤ q ∧ q ≤ 255 := by
          have e : rd l (i : Int) = l[i]'hin := by
            unfold rd
            rw [Int.toNat_natCast, List.getD_eq_getElem?_getD, List.getElem?_eq_getElem hin]
            rfl
          rw [hq, e]
          exact HB.out _ (List.getElem_mem hin)
        have BI := Lib.hid (hnext hin HL.out)
        have i0 : (0 : Int) ≤ (i : Int) := by omega
        have i1 : (i : Int) < (l.length : Int) := by omega
        have hS : (strOf (hexL (l.take i))).size ≤ 2000000 := by
          rw [strOf_size, hexL_length, List.length_take]
          have := HL.out
          omega
        have HQ := Lib.hid hq
        clear hq
        obtain ⟨d1, d2, d3, d4⟩ := u8_parts hqb
        obtain ⟨x1, x2⟩ := digits_of hqb
        have d5 : q.tmod 16 = q % 16 := Int.tmod_eq_emod_of_nonneg hqb.1
        have c1 : (9223372036854775807 < (strOf (hexL (l.take i))).size + 1) = False := eq_false (by omega)
        have c2 : (strOf (hexL (l.take i))).size + 1 ≤ 9223372036854775807 := by omega
        have c3 : (9223372036854775807 < (strOf (hexL (l.take i))).size + 1 + 1) = False := eq_false (by omega)
        have c4 : (strOf (hexL (l.take i))).size + 1 + 1 ≤ 9223372036854775807 := by omega
        have s1 : 0 ≤ q / 16 := by omega
        have s2 : q / 16 ≤ q / 16 + 1 := by omega
        have s3 : q / 16 + 1 ≤ 16 := by omega
        have s4 : 0 ≤ q % 16 := by omega
        have s5 : q % 16 ≤ q % 16 + 1 := by omega
        have s6 : q % 16 + 1 ≤ 16 := by omega
        go_wp2_with fail
        go_still_tail 27, (by kernel_rfl)
        change wpList _ _ _ _ _ wr.drew
        go_wp2_with fail
        have HTK := Lib.hid (show (strOf (hexL (l.take i)) ++ ⟨#[hexD (q.toNat / 16)]⟩) ++ ⟨#[hexD (q.toNat % 16)]⟩ = strOf (hexL (l.take (i + 1))) from by
          have e : l[i]'hin = q := by
            rw [HQ.out]
            unfold rd
            rw [Int.toNat_natCast, List.getD_eq_getElem?_getD, List.getElem?_eq_getElem hin]
            rfl
          apply bytes_eq
          rw [List.take_succ_eq_append_getElem hin, hexL_snoc, e, strOf_data, ByteArray.data_append, Array.toList_append, ByteArray.data_append, Array.toList_append, strOf_data])
        refine ⟨⟨i + 1, by first | rfl | exact congrArg _ HTK.out, by first | rfl | exact congrArg _ BI.out, hin, Lib.hid ?_⟩, by first | exact hmeas hin BI.out | exact hmeas hin rfl⟩
        obtain ⟨dn, hd⟩ := hwr.out
        exact ⟨dn + 1, by rw [hd]; rfl⟩
      · have hin' : i = l.length := by omega
        subst hin'
        rw [List.take_length]
        obtain ⟨dn, hd⟩ := hwr.out
        go_wp2_with fail
        go_ret
        refine ⟨?_, ?_⟩
        · unfold hexT
          rw [if_neg (fun e => h0 (by rw [e]; rfl))]
          rfl
        · first | exact pw_below_drewN (Below.refl _ _) dn | (rw [hd, hwo]; exact pw_below_drewN (Below.refl _ _) dn)
end Go.Proofs.YtoloooammaiipaaDoor
