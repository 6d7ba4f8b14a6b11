/- The walk of the law DelimRight, where signs may be told: it answers true; conditions: what the four questions answer. -/
import Derived.Test.YtabcmcllcfapkaaPEx2
import Derived.Test.YtabcmcllcfapkaaPEx4
import Derived.Test.YtabcmcllcfapkaaDelim
import Derived.Test.YtabcmcllcfapkaaHelp
import Derived.Deep.RegionHeld
namespace Go.Proofs.Ytabcmcllcfapkaa.PE
open Go.RowKit Go.Proofs.YtabcmcllcfapkaaW.PrintWords Go.Proofs.YtabcmcllcfapkaaW.PrintLast Go.Proofs.YtabcmcllcfapkaaW.PrintMore
set_option linter.unusedVariables false
set_option linter.unusedSimpArgs false
theorem cell_far {W : World} {p a : Addr} {x : Option Value} (h : p.block ≠ a.block) (v : Value) (hx : W.cell? a = x) : (W.setCell p v).cell? a = x := (World.cell?_setCell_far W p a v h).trans hx
/-- Two boxes are made in one statement, in either order: what is known behind them. -/
theorem two_boxes {P : Program} {id : Nat} {ops : Array Oper} {Q : Exit → Act → World → Prop} {a : Act} {W : World} {n1 n2 n3 n4 : Tmp} {v : Value} (F : Nat → Nat → World → Prop)
    (h1 : (Code.region id ops true).wp P (fun e a' W' => e = Exit.normal ∧ ∃ b7 b8, a' = (((a.put (some n1) v).put (some n2) v).put (some n3) (.pointer (some ⟨b7, 0, none⟩))).put (some n4) (.pointer (some ⟨b8, 0, none⟩)) ∧ F b7 b8 W') a W)
    (h2 : ∀ b7 b8 W', F b7 b8 W' → Q .normal ((((a.put (some n1) v).put (some n2) v).put (some n3) (.pointer (some ⟨b7, 0, none⟩))).put (some n4) (.pointer (some ⟨b8, 0, none⟩))) W') : (Code.region id ops true).wp P Q a W :=
  Code.wp_mono (fun e a' W' h => by obtain ⟨rfl, b7, b8, rfl, hF⟩ := h; exact h2 b7 b8 W' hF) h1
section
attribute [local go_sem] alloc_dN setCell_dN shape_dN
set_option maxHeartbeats 20000000 in
set_option maxRecDepth 100000 in
theorem DelimRight_walk (k : Nat) (a0 a1 a2 a3 a4 c : Int) (ok ot : Bool) (w : World) (h1 : delim_Right.f k a0 a1 a2 a3 a4 = some ok) (h2 : lamplighterlaw06_alive.f k = some true)
    (h3 : delim_Right.f k a4 a3 a0 a1 a2 = some ok) (h4 : delim_Right.f k a0 a0 a2 a3 a4 = some false) (h5 : delim_Right.f k a0 a1 c a3 a4 = some ot) (h6 : ¬ (33 ≤ c ∧ c ≤ 126 ∧ ¬ (65 ≤ c ∧ c ≤ 90) ∧ ¬ (97 ≤ c ∧ c ≤ 122) ∧ ¬ (48 ≤ c ∧ c ≤ 57)) → ot = false) :
    Calls Try.prog 3 #[.agg #[.int .u8 a0, .int .u8 a1, .int .u8 a2, .int .u8 a3, .int .u8 a4], .int .u8 c] w fun e w' => e = .returned (.bool true) ∧ Below w.heap.size w w' := by
  have H1 := Lib.hid h1
  have H2 := Lib.hid h2
  have H3 := Lib.hid h3
  have H4 := Lib.hid h4
  have H5 := Lib.hid h5
  have H6 := Lib.hid h6
  clear h1 h2 h3 h4 h5 h6
  have hu := Try.underlying23
  go_enter Try.func3, Try.ntmps3
  go_wp2_with (first | (go_at_call 13; with_reducible refine (delim_Right.calls k a0 a1 a2 a3 a4 ok _ H1.out).mono ?_; rintro e w1 ⟨rfl, hb1⟩; obtain ⟨hc1, hf1⟩ := below_reads hb1))
  have z0 : w1.heap[w.heap.size]? = some (.cells #[.int .u8 a0, .int .u8 a1, .int .u8 a2, .int .u8 a3, .int .u8 a4] 23 (0, 0)) := blk_below (heap_new w _) hb1
  have s1 : w.heap.size < w1.heap.size := by have := blk_lt z0; exact this
  have hB1 : Below w.heap.size w w1 := below_step ((Below.refl _ w).alloc (Nat.le_refl _) _) hb1
  have y0 := blk_cell z0 0
  have y1 := blk_cell z0 1
  have y2 := blk_cell z0 2
  have y3 := blk_cell z0 3
  have y4 := blk_cell z0 4
  simp only [List.getElem?_toArray, List.getElem?_cons_zero, List.getElem?_cons_succ] at y0 y1 y2 y3 y4
  clear hb1 hc1 hf1
  have GB := Lib.hid hB1
  have GZ := Lib.hid z0
  clear hB1 z0
  refine two_boxes (n1 := 23) (n2 := 24) (n3 := 7) (n4 := 8) (v := .agg #[.int .u8 a0, .int .u8 a1, .int .u8 a2, .int .u8 a3, .int .u8 a4])
    (fun b7 b8 W => b7 ≠ b8 ∧ w1.heap.size < b7 ∧ w1.heap.size < b8 ∧ W.heap[w.heap.size]? = some (.cells #[.int .u8 a0, .int .u8 a1, .int .u8 a2, .int .u8 a3, .int .u8 a4] 23 (0, 0)) ∧ W.heap[w1.heap.size]? = some (.cells #[.int .u8 a4, .int .u8 a3, .int .u8 a0, .int .u8 a1, .int .u8 a2] 23 (0, 0)) ∧
      W.heap[b7]? = some (.cells #[.int .u8 a0, .int .u8 a1, .int .u8 a2, .int .u8 a3, .int .u8 a4] 23 (0, 0)) ∧ W.heap[b8]? = some (.cells #[.int .u8 a0, .int .u8 a1, .int .u8 a2, .int .u8 a3, .int .u8 a4] 23 (0, 0)) ∧ Below w.heap.size w W) ?_ ?_
  · (first | go_region_held3 (fun w' => w'.cell? ⟨w.heap.size, 0, none⟩ = some (.int .u8 a0) ∧ w'.cell? ⟨w.heap.size, 1, none⟩ = some (.int .u8 a1) ∧ w'.cell? ⟨w.heap.size, 2, none⟩ = some (.int .u8 a2) ∧ w'.cell? ⟨w.heap.size, 3, none⟩ = some (.int .u8 a3) ∧ w'.cell? ⟨w.heap.size, 4, none⟩ = some (.int .u8 a4)) (first | exact ⟨cell_alloc_old _ y0, cell_alloc_old _ y1, cell_alloc_old _ y2, cell_alloc_old _ y3, cell_alloc_old _ y4⟩ | (refine ⟨?_, ?_, ?_, ?_, ?_⟩ <;> (repeat (first | exact y0 | exact y1 | exact y2 | exact y3 | exact y4 | refine cell_alloc_old _ ?_ | refine cell_far (by simp; omega) _ ?_)); done) | go_keep) (fail) | fail)
    · have p1 := blk_drew (blk_alloc (blk_alloc (blk_alloc GZ.out (.cells #[.int .u8 a4, .int .u8 a3, .int .u8 a0, .int .u8 a1, .int .u8 a2] 23 (0, 0))) (.cells #[.int .u8 a0, .int .u8 a1, .int .u8 a2, .int .u8 a3, .int .u8 a4] 23 (0, 0))) (.cells #[.int .u8 a0, .int .u8 a1, .int .u8 a2, .int .u8 a3, .int .u8 a4] 23 (0, 0)))
      have p2 := blk_drew (blk_alloc (blk_alloc (heap_new w1 (.cells #[.int .u8 a4, .int .u8 a3, .int .u8 a0, .int .u8 a1, .int .u8 a2] 23 (0, 0))) (.cells #[.int .u8 a0, .int .u8 a1, .int .u8 a2, .int .u8 a3, .int .u8 a4] 23 (0, 0))) (.cells #[.int .u8 a0, .int .u8 a1, .int .u8 a2, .int .u8 a3, .int .u8 a4] 23 (0, 0)))
      have p3 := heap_new (w1.alloc (.cells #[.int .u8 a4, .int .u8 a3, .int .u8 a0, .int .u8 a1, .int .u8 a2] 23 (0, 0))) (.cells #[.int .u8 a0, .int .u8 a1, .int .u8 a2, .int .u8 a3, .int .u8 a4] 23 (0, 0))
      have p4 := heap_new ((w1.alloc (.cells #[.int .u8 a4, .int .u8 a3, .int .u8 a0, .int .u8 a1, .int .u8 a2] 23 (0, 0))).alloc (.cells #[.int .u8 a0, .int .u8 a1, .int .u8 a2, .int .u8 a3, .int .u8 a4] 23 (0, 0))) (.cells #[.int .u8 a0, .int .u8 a1, .int .u8 a2, .int .u8 a3, .int .u8 a4] 23 (0, 0))
      rw [World.size_alloc] at p3
      rw [World.size_alloc, World.size_alloc] at p4
      have p5 : Below w.heap.size w (((w1.alloc (.cells #[.int .u8 a4, .int .u8 a3, .int .u8 a0, .int .u8 a1, .int .u8 a2] 23 (0, 0))).alloc (.cells #[.int .u8 a0, .int .u8 a1, .int .u8 a2, .int .u8 a3, .int .u8 a4] 23 (0, 0))).alloc (.cells #[.int .u8 a0, .int .u8 a1, .int .u8 a2, .int .u8 a3, .int .u8 a4] 23 (0, 0))).drew := below_drew1 (((GB.out.alloc (by omega) _).alloc (by simp; omega) _).alloc (by simp; omega) _)
      exact ⟨rfl, w1.heap.size + 1, w1.heap.size + 1 + 1, rfl, by omega, by omega, by omega, p1, p2, blk_drew (blk_alloc p3 _), blk_drew p4, p5⟩
    · have p1 := blk_drew (blk_alloc (blk_alloc (blk_alloc GZ.out (.cells #[.int .u8 a4, .int .u8 a3, .int .u8 a0, .int .u8 a1, .int .u8 a2] 23 (0, 0))) (.cells #[.int .u8 a0, .int .u8 a1, .int .u8 a2, .int .u8 a3, .int .u8 a4] 23 (0, 0))) (.cells #[.int .u8 a0, .int .u8 a1, .int .u8 a2, .int .u8 a3, .int .u8 a4] 23 (0, 0)))
      have p2 := blk_drew (blk_alloc (blk_alloc (heap_new w1 (.cells #[.int .u8 a4, .int .u8 a3, .int .u8 a0, .int .u8 a1, .int .u8 a2] 23 (0, 0))) (.cells #[.int .u8 a0, .int .u8 a1, .int .u8 a2, .int .u8 a3, .int .u8 a4] 23 (0, 0))) (.cells #[.int .u8 a0, .int .u8 a1, .int .u8 a2, .int .u8 a3, .int .u8 a4] 23 (0, 0)))
      have p3 := heap_new (w1.alloc (.cells #[.int .u8 a4, .int .u8 a3, .int .u8 a0, .int .u8 a1, .int .u8 a2] 23 (0, 0))) (.cells #[.int .u8 a0, .int .u8 a1, .int .u8 a2, .int .u8 a3, .int .u8 a4] 23 (0, 0))
      have p4 := heap_new ((w1.alloc (.cells #[.int .u8 a4, .int .u8 a3, .int .u8 a0, .int .u8 a1, .int .u8 a2] 23 (0, 0))).alloc (.cells #[.int .u8 a0, .int .u8 a1, .int .u8 a2, .int .u8 a3, .int .u8 a4] 23 (0, 0))) (.cells #[.int .u8 a0, .int .u8 a1, .int .u8 a2, .int .u8 a3, .int .u8 a4] 23 (0, 0))
      rw [World.size_alloc] at p3
      rw [World.size_alloc, World.size_alloc] at p4
      have p5 : Below w.heap.size w (((w1.alloc (.cells #[.int .u8 a4, .int .u8 a3, .int .u8 a0, .int .u8 a1, .int .u8 a2] 23 (0, 0))).alloc (.cells #[.int .u8 a0, .int .u8 a1, .int .u8 a2, .int .u8 a3, .int .u8 a4] 23 (0, 0))).alloc (.cells #[.int .u8 a0, .int .u8 a1, .int .u8 a2, .int .u8 a3, .int .u8 a4] 23 (0, 0))).drew := below_drew1 (((GB.out.alloc (by omega) _).alloc (by simp; omega) _).alloc (by simp; omega) _)
      exact ⟨rfl, w1.heap.size + 1 + 1, w1.heap.size + 1, rfl, by omega, by omega, by omega, p1, p2, blk_drew p4, blk_drew (blk_alloc p3 _), p5⟩
  · rintro b7 b8 W ⟨hne, h7, h8, g2, g6, g7, g8, gB⟩
    clear y0 y1 y2 y3 y4 GZ GB
    have n1 : w.heap.size ≠ b7 := by omega
    have n2 : w.heap.size ≠ b8 := by omega
    have n3 : w1.heap.size ≠ b7 := by omega
    have n4 : w1.heap.size ≠ b8 := by omega
    have y0 := blk_cell g2 0
    have u7 := blk_cell g7 1
    have u8 := blk_cell g8 2
    have f7 := blk_frozen g7 1
    have f8 := blk_frozen g8 2
    simp only [List.getElem?_toArray, List.getElem?_cons_zero, List.getElem?_cons_succ] at y0 u7 u8
    have v8 := cell_far (p := ⟨b7, 1, none⟩) (a := ⟨b8, 2, none⟩) hne (.int .u8 a0) u8
    have G2 := Lib.hid g2
    have G6 := Lib.hid g6
    have G7 := Lib.hid g7
    have G8 := Lib.hid g8
    have GB := Lib.hid gB
    clear g2 g6 g7 g8 gB
    simp only [Act.put, List.setIfInBounds_toArray, List.set_cons_zero, List.set_cons_succ]
    go_wp2_with fail
    have q6 := blk_far (blk_far G6.out n3 (p := ⟨b7, 1, none⟩) (.int .u8 a0)) n4 (p := ⟨b8, 2, none⟩) (.int .u8 c)
    have q7 := blk_far (blk_put G7.out 1 (.int .u8 a0) (cs' := #[.int .u8 a0, .int .u8 a0, .int .u8 a2, .int .u8 a3, .int .u8 a4]) rfl) hne (p := ⟨b8, 2, none⟩) (.int .u8 c)
    have q8 := blk_put (blk_far G8.out (Ne.symm hne) (p := ⟨b7, 1, none⟩) (.int .u8 a0)) 2 (.int .u8 c) (cs' := #[.int .u8 a0, .int .u8 a1, .int .u8 c, .int .u8 a3, .int .u8 a4]) rfl
    have qB := below_set (g := b8) (j := 2) (v := .int .u8 c) (below_set (g := b7) (j := 1) (v := .int .u8 a0) GB.out (by omega)) (by omega)
    refine (lamplighterlaw06_alive.calls k true _ H2.out).mono ?_
    rintro e W2 ⟨rfl, hb2⟩
    have r6 := blk_below q6 hb2
    have r7 := blk_below q7 hb2
    have r8 := blk_below q8 hb2
    have HB := Lib.hid (below_step qB hb2)
    clear q6 q7 q8 qB hb2 y0 u7 u8 v8 f7 f8
    have s6 := blk_lt r6
    have s7 := blk_lt r7
    have R8 := Lib.hid r8
    have t60 := blk_cell r6 0
    have t61 := blk_cell r6 1
    have t62 := blk_cell r6 2
    have t63 := blk_cell r6 3
    have t64 := blk_cell r6 4
    have t70 := blk_cell r7 0
    have t71 := blk_cell r7 1
    have t72 := blk_cell r7 2
    have t73 := blk_cell r7 3
    have t74 := blk_cell r7 4
    simp only [List.getElem?_toArray, List.getElem?_cons_zero, List.getElem?_cons_succ] at t60 t61 t62 t63 t64 t70 t71 t72 t73 t74
    clear r6 r7 r8
    go_wp2_with (first | (go_at_call 13; with_reducible refine (delim_Right.calls k a4 a3 a0 a1 a2 ok _ H3.out).mono ?_; rintro e w3 ⟨rfl, hb3⟩; obtain ⟨hc3, hf3⟩ := below_reads hb3))
    with_reducible refine (delim_Right.calls k a0 a0 a2 a3 a4 false _ H4.out).mono ?_
    rintro e w4 ⟨rfl, hb4⟩
    have r8 := blk_below (blk_below R8.out hb3) hb4
    have HB := Lib.hid (below_step (below_step HB.out hb3) hb4)
    clear hb3 hb4 hc3 hf3 R8 s6 s7 t60 t61 t62 t63 t64 t70 t71 t72 t73 t74
    have s8 := blk_lt r8
    have t80 := blk_cell r8 0
    have t81 := blk_cell r8 1
    have t82 := blk_cell r8 2
    have t83 := blk_cell r8 3
    have t84 := blk_cell r8 4
    simp only [List.getElem?_toArray, List.getElem?_cons_zero, List.getElem?_cons_succ] at t80 t81 t82 t83 t84
    clear r8
    have hcs : (c ≤ 32) ∨ (33 ≤ c ∧ c ≤ 47) ∨ (48 ≤ c ∧ c ≤ 57) ∨ (58 ≤ c ∧ c ≤ 64) ∨ (65 ≤ c ∧ c ≤ 90) ∨ (91 ≤ c ∧ c ≤ 96) ∨ (97 ≤ c ∧ c ≤ 122) ∨ (123 ≤ c ∧ c ≤ 126) ∨ (127 ≤ c) := by omega
    rcases hcs with hi | hi | hi | hi | hi | hi | hi | hi | hi
    · have g0 : decide (c ≥ 97) = false := decide_eq_false (by omega)
      have g1 : decide (c ≤ 122) = true := decide_eq_true (by omega)
      have g2 : decide (c ≥ 65) = false := decide_eq_false (by omega)
      have g3 : decide (c ≤ 90) = true := decide_eq_true (by omega)
      have g4 : decide (c ≥ 48) = false := decide_eq_false (by omega)
      have g5 : decide (c ≤ 57) = true := decide_eq_true (by omega)
      have g6 : decide (c ≤ 32) = true := decide_eq_true (by omega)
      have g7 : decide (c > 126) = false := decide_eq_false (by omega)
      obtain rfl : ot = false := H6.out (by omega)
      clear hi H6
      go_wp2_with (first | (go_at_call 13; with_reducible refine (delim_Right.calls k a0 a1 c a3 a4 false _ H5.out).mono ?_; rintro e w5 ⟨rfl, hb5⟩; obtain ⟨hc5, hf5⟩ := below_reads hb5))
      exact bodyPost_ret (v := .bool true) (by simp [results, Try.results3, go_sem]) rfl ⟨rfl, by first | exact below_step HB.out hb5 | exact HB.out⟩
    · have g0 : decide (c ≥ 97) = false := decide_eq_false (by omega)
      have g1 : decide (c ≤ 122) = true := decide_eq_true (by omega)
      have g2 : decide (c ≥ 65) = false := decide_eq_false (by omega)
      have g3 : decide (c ≤ 90) = true := decide_eq_true (by omega)
      have g4 : decide (c ≥ 48) = false := decide_eq_false (by omega)
      have g5 : decide (c ≤ 57) = true := decide_eq_true (by omega)
      have g6 : decide (c ≤ 32) = false := decide_eq_false (by omega)
      have g7 : decide (c > 126) = false := decide_eq_false (by omega)
      clear hi H6
      go_wp2_with fail
      exact bodyPost_ret (v := .bool true) (by simp [results, Try.results3, go_sem]) rfl ⟨rfl, by first | exact below_step HB.out hb5 | exact HB.out⟩
    · have g0 : decide (c ≥ 97) = false := decide_eq_false (by omega)
      have g1 : decide (c ≤ 122) = true := decide_eq_true (by omega)
      have g2 : decide (c ≥ 65) = false := decide_eq_false (by omega)
      have g3 : decide (c ≤ 90) = true := decide_eq_true (by omega)
      have g4 : decide (c ≥ 48) = true := decide_eq_true (by omega)
      have g5 : decide (c ≤ 57) = true := decide_eq_true (by omega)
      have g6 : decide (c ≤ 32) = false := decide_eq_false (by omega)
      have g7 : decide (c > 126) = false := decide_eq_false (by omega)
      obtain rfl : ot = false := H6.out (by omega)
      clear hi H6
      go_wp2_with (first | (go_at_call 13; with_reducible refine (delim_Right.calls k a0 a1 c a3 a4 false _ H5.out).mono ?_; rintro e w5 ⟨rfl, hb5⟩; obtain ⟨hc5, hf5⟩ := below_reads hb5))
      exact bodyPost_ret (v := .bool true) (by simp [results, Try.results3, go_sem]) rfl ⟨rfl, by first | exact below_step HB.out hb5 | exact HB.out⟩
    · have g0 : decide (c ≥ 97) = false := decide_eq_false (by omega)
      have g1 : decide (c ≤ 122) = true := decide_eq_true (by omega)
      have g2 : decide (c ≥ 65) = false := decide_eq_false (by omega)
      have g3 : decide (c ≤ 90) = true := decide_eq_true (by omega)
      have g4 : decide (c ≥ 48) = true := decide_eq_true (by omega)
      have g5 : decide (c ≤ 57) = false := decide_eq_false (by omega)
      have g6 : decide (c ≤ 32) = false := decide_eq_false (by omega)
      have g7 : decide (c > 126) = false := decide_eq_false (by omega)
      clear hi H6
      go_wp2_with fail
      exact bodyPost_ret (v := .bool true) (by simp [results, Try.results3, go_sem]) rfl ⟨rfl, by first | exact below_step HB.out hb5 | exact HB.out⟩
    · have g0 : decide (c ≥ 97) = false := decide_eq_false (by omega)
      have g1 : decide (c ≤ 122) = true := decide_eq_true (by omega)
      have g2 : decide (c ≥ 65) = true := decide_eq_true (by omega)
      have g3 : decide (c ≤ 90) = true := decide_eq_true (by omega)
      have g4 : decide (c ≥ 48) = true := decide_eq_true (by omega)
      have g5 : decide (c ≤ 57) = false := decide_eq_false (by omega)
      have g6 : decide (c ≤ 32) = false := decide_eq_false (by omega)
      have g7 : decide (c > 126) = false := decide_eq_false (by omega)
      obtain rfl : ot = false := H6.out (by omega)
      clear hi H6
      go_wp2_with (first | (go_at_call 13; with_reducible refine (delim_Right.calls k a0 a1 c a3 a4 false _ H5.out).mono ?_; rintro e w5 ⟨rfl, hb5⟩; obtain ⟨hc5, hf5⟩ := below_reads hb5))
      exact bodyPost_ret (v := .bool true) (by simp [results, Try.results3, go_sem]) rfl ⟨rfl, by first | exact below_step HB.out hb5 | exact HB.out⟩
    · have g0 : decide (c ≥ 97) = false := decide_eq_false (by omega)
      have g1 : decide (c ≤ 122) = true := decide_eq_true (by omega)
      have g2 : decide (c ≥ 65) = true := decide_eq_true (by omega)
      have g3 : decide (c ≤ 90) = false := decide_eq_false (by omega)
      have g4 : decide (c ≥ 48) = true := decide_eq_true (by omega)
      have g5 : decide (c ≤ 57) = false := decide_eq_false (by omega)
      have g6 : decide (c ≤ 32) = false := decide_eq_false (by omega)
      have g7 : decide (c > 126) = false := decide_eq_false (by omega)
      clear hi H6
      go_wp2_with fail
      exact bodyPost_ret (v := .bool true) (by simp [results, Try.results3, go_sem]) rfl ⟨rfl, by first | exact below_step HB.out hb5 | exact HB.out⟩
    · have g0 : decide (c ≥ 97) = true := decide_eq_true (by omega)
      have g1 : decide (c ≤ 122) = true := decide_eq_true (by omega)
      have g2 : decide (c ≥ 65) = true := decide_eq_true (by omega)
      have g3 : decide (c ≤ 90) = false := decide_eq_false (by omega)
      have g4 : decide (c ≥ 48) = true := decide_eq_true (by omega)
      have g5 : decide (c ≤ 57) = false := decide_eq_false (by omega)
      have g6 : decide (c ≤ 32) = false := decide_eq_false (by omega)
      have g7 : decide (c > 126) = false := decide_eq_false (by omega)
      obtain rfl : ot = false := H6.out (by omega)
      clear hi H6
      go_wp2_with (first | (go_at_call 13; with_reducible refine (delim_Right.calls k a0 a1 c a3 a4 false _ H5.out).mono ?_; rintro e w5 ⟨rfl, hb5⟩; obtain ⟨hc5, hf5⟩ := below_reads hb5))
      exact bodyPost_ret (v := .bool true) (by simp [results, Try.results3, go_sem]) rfl ⟨rfl, by first | exact below_step HB.out hb5 | exact HB.out⟩
    · have g0 : decide (c ≥ 97) = true := decide_eq_true (by omega)
      have g1 : decide (c ≤ 122) = false := decide_eq_false (by omega)
      have g2 : decide (c ≥ 65) = true := decide_eq_true (by omega)
      have g3 : decide (c ≤ 90) = false := decide_eq_false (by omega)
      have g4 : decide (c ≥ 48) = true := decide_eq_true (by omega)
      have g5 : decide (c ≤ 57) = false := decide_eq_false (by omega)
      have g6 : decide (c ≤ 32) = false := decide_eq_false (by omega)
      have g7 : decide (c > 126) = false := decide_eq_false (by omega)
      clear hi H6
      go_wp2_with fail
      exact bodyPost_ret (v := .bool true) (by simp [results, Try.results3, go_sem]) rfl ⟨rfl, by first | exact below_step HB.out hb5 | exact HB.out⟩
    · have g0 : decide (c ≥ 97) = true := decide_eq_true (by omega)
      have g1 : decide (c ≤ 122) = false := decide_eq_false (by omega)
      have g2 : decide (c ≥ 65) = true := decide_eq_true (by omega)
      have g3 : decide (c ≤ 90) = false := decide_eq_false (by omega)
      have g4 : decide (c ≥ 48) = true := decide_eq_true (by omega)
      have g5 : decide (c ≤ 57) = false := decide_eq_false (by omega)
      have g6 : decide (c ≤ 32) = false := decide_eq_false (by omega)
      have g7 : decide (c > 126) = true := decide_eq_true (by omega)
      obtain rfl : ot = false := H6.out (by omega)
      clear hi H6
      go_wp2_with (first | (go_at_call 13; with_reducible refine (delim_Right.calls k a0 a1 c a3 a4 false _ H5.out).mono ?_; rintro e w5 ⟨rfl, hb5⟩; obtain ⟨hc5, hf5⟩ := below_reads hb5))
      exact bodyPost_ret (v := .bool true) (by simp [results, Try.results3, go_sem]) rfl ⟨rfl, by first | exact below_step HB.out hb5 | exact HB.out⟩
end
end Go.Proofs.Ytabcmcllcfapkaa.PE
