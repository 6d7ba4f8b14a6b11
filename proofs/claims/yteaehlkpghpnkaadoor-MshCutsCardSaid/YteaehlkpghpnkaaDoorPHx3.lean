-- Written by a program of this work (the kit's print, with contracts of this work's own taken in) out of the translation. Not trusted: Lean checks it.
import Derived.Test.YteaehlkpghpnkaaDoorPHx0
import Derived.Test.YteaehlkpghpnkaaDoorPHx2
namespace Go.Proofs.YteaehlkpghpnkaaDoor.PH
open Go.RowKit Go.Proofs.YteaehlkpghpnkaaDoorW.PrintWords Go.Proofs.YteaehlkpghpnkaaDoorW.PrintLast Go.Proofs.YteaehlkpghpnkaaDoorW.PrintMore
set_option maxHeartbeats 8000000
set_option maxRecDepth 100000
attribute [local go_sem] max2_int min2_int max_two min_two max_three min_three max_four min_four   -- for this text's walks alone
set_option linter.unusedVariables false
set_option linter.unusedSimpArgs false

/-! ### delim_Read: function 14 -/
def delim_Read.f (k : Nat) (l0 : List Int) : Option (Int × Int × Int × Int × Int × Int) :=
 if (l0.length : Int) < 9 then some (0, 0, 0, 0, 0, 7)
 else if Lib.bytesOf (l0.take 3) = [77, 83, 72] then
  (delim_Right.f k (rd l0 3) (rd l0 4) (rd l0 5) (rd l0 6) (rd l0 7)).bind fun t =>
   if t = true then (if rd l0 8 = rd l0 3 then some (rd l0 3, rd l0 4, rd l0 5, rd l0 6, rd l0 7, 0) else if rd l0 8 = 13 then some (rd l0 3, rd l0 4, rd l0 5, rd l0 6, rd l0 7, 0) else some (0, 0, 0, 0, 0, 11))
   else some (0, 0, 0, 0, 0, 11)
 else some (0, 0, 0, 0, 0, 11)
theorem delim_Read.mono : ∀ a0 k, LeO (delim_Read.f k a0) (delim_Read.f (k + 1) a0) := by
 intro a0 k
 unfold delim_Read.f
 repeat' first
   | (with_reducible exact delim_Right.mono _ _ _ _ _ _)
   | (with_reducible exact LeO.refl _)
   | (with_reducible exact LeO.none _)
   | (with_reducible refine LeO.ite ?_ ?_)
   | (with_reducible refine LeO.bind ?_ (fun _ => ?_))
section
attribute [local go_sem] alloc_dN setCell_dN shape_dN
theorem delim_Read.calls (k : Nat) (A0 : Option Addr) (c0 : Nat) (l0 : List Int) (r1 : Int) (r2 : Int) (r3 : Int) (r4 : Int) (r5 : Int) (r6 : Int) (w : World) (hr0 : Kd.C (Kd.int .u8) w A0 l0.length l0) (hc0 : l0.length ≤ c0) (h : delim_Read.f k l0 = some (r1, r2, r3, r4, r5, r6)) :
  Calls Tryd.prog 14 #[.slice A0 l0.length c0] w fun e w' => e = .returned (.tuple #[.agg #[.int .u8 r1, .int .u8 r2, .int .u8 r3, .int .u8 r4, .int .u8 r5], .int .i64 r6]) ∧ Below w.heap.size w w' := by
 unfold delim_Read.f at h
 by_cases hl : (l0.length : Int) < 9
 ·rw [if_pos hl] at h
  simp only [Option.some.injEq, Prod.mk.injEq] at h
  obtain ⟨rfl, rfl, rfl, rfl, rfl, rfl⟩ := h
  have hd : decide ((l0.length : Int) < 9) = true := decide_eq_true hl
  clear hl
  go_enter Tryd.func14, Tryd.ntmps14
  go_wp2_with fail
  exact bodyPost_ret (v := .tuple #[.agg #[.int .u8 0, .int .u8 0, .int .u8 0, .int .u8 0, .int .u8 0], .int .i64 7]) (by simp [results, Tryd.results14, go_sem]) rfl ⟨rfl, (Below.refl _ _).alloc (Nat.le_refl _) _⟩
 ·rw [if_neg hl] at h
  have hd : decide ((l0.length : Int) < 9) = false := decide_eq_false hl
  have hl9 : 9 ≤ l0.length := by omega
  have hlen : (l0.take 9).length = 9 := by rw [List.length_take]; omega
  have ht := C_take hr0 hl9
  rw [hlen] at ht
  have hX : ((w.alloc (.cells #[.int .u8 0, .int .u8 0, .int .u8 0, .int .u8 0, .int .u8 0] 23)).alloc (.cells (nums .u8 [77, 83, 72]).toArray 5 (3, 4))).heap[w.heap.size + 1]? = some (.cells (nums .u8 [77, 83, 72]).toArray 5 (3, 4)) := by
   have := heap_new (w.alloc (.cells #[.int .u8 0, .int .u8 0, .int .u8 0, .int .u8 0, .int .u8 0] 23)) (.cells (nums .u8 [77, 83, 72]).toArray 5 (3, 4))
   rwa [World.size_alloc] at this
  have hC3 := C_block (xs := [77, 83, 72]) (by decide) hX
  have hbel : Below w.heap.size w ((w.alloc (.cells #[.int .u8 0, .int .u8 0, .int .u8 0, .int .u8 0, .int .u8 0] 23)).alloc (.cells (nums .u8 [77, 83, 72]).toArray 5 (3, 4))) := ((Below.refl _ w).alloc (Nat.le_refl _) _).alloc (by simp) _
  have hT := Kd.C_below ht hbel
  have hcall := bytes_HasPrefix.calls A0 c0 (l0.take 9) _ 3 [77, 83, 72] _ _ (by rw [hlen]; exact hT) (by omega) hC3 (by decide) rfl
  rw [hlen] at hcall
  have kc := Lib.run_convert_bytes_const (P := Tryd.prog) (w.alloc (.cells #[.int .u8 0, .int .u8 0, .int .u8 0, .int .u8 0, .int .u8 0] 23)) 34 5 #[.int .u8 77, .int .u8 83, .int .u8 72] 3 3 Tryd.underlying34 Tryd.underlying5
  rw [World.size_alloc] at kc
  have e33 : (if ([77, 83, 72] : List Int).length ≤ (l0.take 9).length then (strOfNums ((l0.take 9).take ([77, 83, 72] : List Int).length)).toList == (strOfNums [77, 83, 72]).toList else false) = (Lib.bytesOf (l0.take 3) == [77, 83, 72]) := by
   rw [if_pos (show ([77, 83, 72] : List Int).length ≤ (l0.take 9).length by rw [hlen]; decide), List.take_take, str_list, str_list]
   rfl
  have hnums : (nums .u8 [77, 83, 72]).toArray = #[.int .u8 77, .int .u8 83, .int .u8 72] := rfl
  rw [hlen] at e33
  rw [hnums] at hcall hbel
  have hcall : Calls Tryd.prog 45 #[.slice A0 9 c0, .slice (some ⟨w.heap.size + 1, 0, none⟩) 3 3] ((w.alloc (.cells #[.int .u8 0, .int .u8 0, .int .u8 0, .int .u8 0, .int .u8 0] 23)).alloc (.cells #[.int .u8 77, .int .u8 83, .int .u8 72] 5 (3, 4))) fun e w' => e = .returned (.bool (Lib.bytesOf (l0.take 3) == [77, 83, 72])) ∧ Drawn0 ((w.alloc (.cells #[.int .u8 0, .int .u8 0, .int .u8 0, .int .u8 0, .int .u8 0] 23)).alloc (.cells #[.int .u8 77, .int .u8 83, .int .u8 72] 5 (3, 4))) w' :=
   hcall.mono fun e w' ⟨he, hd⟩ => ⟨he.trans (by rw [e33]), hd⟩
  obtain ⟨ad, rfl, hc3⟩ := C_cell hr0 (j := 3) (by omega)
  have cells : ∀ j, j < l0.length → ∀ o1 o2, ((w.alloc o1).alloc o2).cell? (ad.add j) = some (.int .u8 (rd l0 j)) := fun j hj o1 o2 => by
   obtain ⟨ad', e, hc⟩ := C_cell hr0 (j := j) hj
   cases e
   exact cell_alloc_old _ (cell_alloc_old _ hc)
  have k3 := cells 3 (by omega)
  have k4 := cells 4 (by omega)
  have k5 := cells 5 (by omega)
  have k6 := cells 6 (by omega)
  have k7 := cells 7 (by omega)
  have k8 := cells 8 (by omega)
  simp only [Addr.add, Nat.reduceEqDiff, if_false] at k3 k4 k5 k6 k7 k8
  have HBEL := Lib.hid hbel
  clear hT hC3 hX ht hlen hr0 hbel hl cells e33 hnums
  have hc9 : 9 ≤ c0 := by omega
  have hu := Tryd.underlying23
  have HADB := Lib.hid (World.block_lt_of_cell? w _ hc3)
  clear hc3
  by_cases h3 : Lib.bytesOf (l0.take 3) = [77, 83, 72]
  ·rw [if_pos h3] at h
   rw [beq_iff_eq.2 h3] at hcall
   have HH := Lib.hid h
   have HC := Lib.hid hcall
   clear hcall h h3
   go_enter Tryd.func14, Tryd.ntmps14
   go_wp2_with (first | (go_at_call 35; go_in))
   refine HC.out.mono ?_
   rintro e w' ⟨rfl, ⟨nd, rfl⟩⟩
   go_wp2_with fail
   go_region_held3 (fun w' => w'.cell? ⟨ad.block, ad.off + 3, none⟩ = some (.int .u8 (rd l0 3)) ∧ w'.cell? ⟨ad.block, ad.off + 3 + 1, none⟩ = some (.int .u8 (rd l0 4)) ∧ w'.cell? ⟨ad.block, ad.off + 3 + 2, none⟩ = some (.int .u8 (rd l0 5)) ∧ w'.cell? ⟨ad.block, ad.off + 3 + 3, none⟩ = some (.int .u8 (rd l0 6)) ∧ w'.cell? ⟨ad.block, ad.off + 3 + 4, none⟩ = some (.int .u8 (rd l0 7))) (first | exact ⟨k3 _ _, k4 _ _, k5 _ _, k6 _ _, k7 _ _⟩ | exact ⟨cell_alloc_old _ (k3 _ _), cell_alloc_old _ (k4 _ _), cell_alloc_old _ (k5 _ _), cell_alloc_old _ (k6 _ _), cell_alloc_old _ (k7 _ _)⟩ | go_keep) (fail)
   have h := HH.out
   replace h := Option.bind_eq_some_iff.mp h
   obtain ⟨t, ht, h⟩ := h
   have HT := Lib.hid ht
   have H3 := Lib.hid h
   clear HH ht h
   cases t with
   | false =>
    replace H3 := Lib.hid (show some ((0 : Int), (0 : Int), (0 : Int), (0 : Int), (0 : Int), (11 : Int)) = some (r1, r2, r3, r4, r5, r6) from by have := H3.out; rw [if_neg (by decide)] at this; exact this)
    go_wp2_with fail
    refine at_world (fun W => W.heap[w.heap.size]? = some (.cells #[.int .u8 0, .int .u8 0, .int .u8 0, .int .u8 0, .int .u8 0] 23 (0, 0)) ∧ W.heap[w.heap.size + 1 + 1]? = some (.cells #[.int .u8 (rd l0 3), .int .u8 (rd l0 4), .int .u8 (rd l0 5), .int .u8 (rd l0 6), .int .u8 (rd l0 7)] 23 (0, 0)) ∧ W.cell? ⟨ad.block, ad.off + 3 + 5, none⟩ = some (.int .u8 (rd l0 8)) ∧ Below w.heap.size w W ∧ w.heap.size + 1 + 1 < W.heap.size ∧ ad.block < w.heap.size) ?_ ?_
    ·exact ⟨heap_old _ (heap_old _ (heap_new _ _)), by have := heap_new ((w.alloc (.cells #[.int .u8 0, .int .u8 0, .int .u8 0, .int .u8 0, .int .u8 0] 23)).alloc (.cells #[.int .u8 77, .int .u8 83, .int .u8 72] 5 (3, 4))) (.cells #[.int .u8 (rd l0 3), .int .u8 (rd l0 4), .int .u8 (rd l0 5), .int .u8 (rd l0 6), .int .u8 (rd l0 7)] 23 (0, 0)); rw [World.size_alloc, World.size_alloc] at this; exact this, cell_alloc_old _ (k8 _ _), pw_below_drewN (HBEL.out.alloc (by simp; omega) _) _, by simp, HADB.out⟩
    rintro W ⟨g0, g2, g8, gB, gS, gA⟩
    have c0 := cell_of_cells g2 0
    have c1 := cell_of_cells g2 1
    have c2 := cell_of_cells g2 2
    have c3 := cell_of_cells g2 3
    have c4 := cell_of_cells g2 4
    have gA8 : ad.block < W.heap.size := by omega
    have GB := Lib.hid gB
    have G0 := Lib.hid g0
    have G2 := Lib.hid g2
    clear gB g0 g2 k3 k4 k5 k6 k7 k8 kc
    refine start_ (n := 17) (S := fun w' => w'.cell? ⟨w.heap.size + 1 + 1, 0, none⟩ = some (.int .u8 (rd l0 3)) ∧ w'.cell? ⟨w.heap.size + 1 + 1, 1, none⟩ = some (.int .u8 (rd l0 4)) ∧ w'.cell? ⟨w.heap.size + 1 + 1, 2, none⟩ = some (.int .u8 (rd l0 5)) ∧ w'.cell? ⟨w.heap.size + 1 + 1, 3, none⟩ = some (.int .u8 (rd l0 6)) ∧ w'.cell? ⟨w.heap.size + 1 + 1, 4, none⟩ = some (.int .u8 (rd l0 7)) ∧ w'.cell? ⟨ad.block, ad.off + 3 + 5, none⟩ = some (.int .u8 (rd l0 8))) (ds := []) #[false, false, false, false, false, false, false, false, false, false, false, false, false, false, false, false, false] (by kernel_rfl) rfl rfl ⟨c0, c1, c2, c3, c4, g8⟩ (fun hHeld => ?_)
    refine take_ (i := 0) (N := some 38) (v := ?_) (a' := ?_) #[true, false, false, false, false, false, false, false, false, false, false, false, false, false, false, false, false] rfl rfl (by kernel_rfl) (fun _ _ _ h => h) (Or.inl ⟨by rfl, ?_⟩) hHeld ?_ ?_
    rotate_left
    ·rintro w' ⟨s0, s1, s2, s3, s4, s5⟩
     go_simp
     with_reducible rfl
    rotate_left
    ·simp only [Act.put, sA_, s0_, s1_]
     rfl
    refine one_ (i := 1) (N := some 39) #[true, true, false, false, false, false, false, false, false, false, false, false, false, false, false, false, false] rfl rfl (by kernel_rfl) (by decide) (fun K hK => ?_)
    refine goes_ Tryd.func9 (by kernel_rfl) rfl #[.agg #[.int .u8 (rd l0 3), .int .u8 (rd l0 4), .int .u8 (rd l0 5), .int .u8 (rd l0 6), .int .u8 (rd l0 7)]] (by rfl) rfl rfl (by (try simp only [List.map_toArray, List.map_cons, List.map_nil]); first | done | rfl) ?_
    with_reducible refine (delim_Right.calls k (rd l0 3) (rd l0 4) (rd l0 5) (rd l0 6) (rd l0 7) false _ HT.out).mono ?_
    rintro e w1 ⟨rfl, hb⟩
    obtain ⟨hc, hf⟩ := below_reads hb
    refine ⟨_, rfl, ?_⟩
    refine hK.out _ _ ⟨(hc _ _ gS).trans c0, (hc _ _ gS).trans c1, (hc _ _ gS).trans c2, (hc _ _ gS).trans c3, (hc _ _ gS).trans c4, (hc _ _ gA8).trans g8⟩ (fun hHeld => ?_)
    clear hK K
    refine norm_ (a' := ?_) ?_ ?_
    rotate_left
    ·show Act.put _ (some 39) _ = _
     simp only [Act.put, sA_, s0_, s1_]
     rfl
    refine pure_ (i := 2) (N := some 40) (v := ?_) (a' := ?_) #[true, true, true, false, false, false, false, false, false, false, false, false, false, false, false, false, false] rfl rfl (by kernel_rfl) (fun _ _ _ h => h) (Or.inl ⟨by rfl, ?_⟩) ?_ ?_
    rotate_left
    ·intro w'
     go_simp
     with_reducible rfl
    rotate_left
    ·simp only [Act.put, sA_, s0_, s1_]
     rfl
    refine pure_ (i := 3) (N := some 41) (v := ?_) (a' := ?_) #[true, true, true, true, false, false, false, false, false, false, false, false, false, false, false, false, false] rfl rfl (by kernel_rfl) (fun _ _ _ h => h) (Or.inl ⟨by rfl, ?_⟩) ?_ ?_
    rotate_left
    ·intro w'
     go_simp
     with_reducible rfl
    rotate_left
    ·simp only [Act.put, sA_, s0_, s1_]
     rfl
    refine pure_ (i := 4) (N := some 42) (v := undef) (a' := ?_) #[true, true, true, true, true, false, false, false, false, false, false, false, false, false, false, false, false] rfl rfl (by kernel_rfl) (fun _ _ _ h => h) (Or.inr ⟨by rfl, rfl⟩) ?_ ?_
    rotate_left
    ·simp only [Act.put, sA_, s0_, s1_]
     rfl
    refine pure_ (i := 5) (N := some 43) (v := undef) (a' := ?_) #[true, true, true, true, true, true, false, false, false, false, false, false, false, false, false, false, false] rfl rfl (by kernel_rfl) (fun _ _ _ h => h) (Or.inr ⟨by rfl, rfl⟩) ?_ ?_
    rotate_left
    ·simp only [Act.put, sA_, s0_, s1_]
     rfl
    refine pure_ (i := 6) (N := some 44) (v := undef) (a' := ?_) #[true, true, true, true, true, true, true, false, false, false, false, false, false, false, false, false, false] rfl rfl (by kernel_rfl) (fun _ _ _ h => h) (Or.inr ⟨by rfl, rfl⟩) ?_ ?_
    rotate_left
    ·simp only [Act.put, sA_, s0_, s1_]
     rfl
    refine pure_ (i := 7) (N := some 45) (v := undef) (a' := ?_) #[true, true, true, true, true, true, true, true, false, false, false, false, false, false, false, false, false] rfl rfl (by kernel_rfl) (fun _ _ _ h => h) (Or.inr ⟨by rfl, rfl⟩) ?_ ?_
    rotate_left
    ·simp only [Act.put, sA_, s0_, s1_]
     rfl
    refine pure_ (i := 8) (N := some 46) (v := undef) (a' := ?_) #[true, true, true, true, true, true, true, true, true, false, false, false, false, false, false, false, false] rfl rfl (by kernel_rfl) (fun _ _ _ h => h) (Or.inr ⟨by rfl, rfl⟩) ?_ ?_
    rotate_left
    ·simp only [Act.put, sA_, s0_, s1_]
     rfl
    refine pure_ (i := 9) (N := some 47) (v := undef) (a' := ?_) #[true, true, true, true, true, true, true, true, true, true, false, false, false, false, false, false, false] rfl rfl (by kernel_rfl) (fun _ _ _ h => h) (Or.inr ⟨by rfl, rfl⟩) ?_ ?_
    rotate_left
    ·simp only [Act.put, sA_, s0_, s1_]
     rfl
    refine pure_ (i := 10) (N := some 48) (v := undef) (a' := ?_) #[true, true, true, true, true, true, true, true, true, true, true, false, false, false, false, false, false] rfl rfl (by kernel_rfl) (fun _ _ _ h => h) (Or.inr ⟨by rfl, rfl⟩) ?_ ?_
    rotate_left
    ·simp only [Act.put, sA_, s0_, s1_]
     rfl
    refine pure_ (i := 11) (N := some 49) (v := undef) (a' := ?_) #[true, true, true, true, true, true, true, true, true, true, true, true, false, false, false, false, false] rfl rfl (by kernel_rfl) (fun _ _ _ h => h) (Or.inr ⟨by rfl, rfl⟩) ?_ ?_
    rotate_left
    ·simp only [Act.put, sA_, s0_, s1_]
     rfl
    refine pure_ (i := 12) (N := some 50) (v := undef) (a' := ?_) #[true, true, true, true, true, true, true, true, true, true, true, true, true, false, false, false, false] rfl rfl (by kernel_rfl) (fun _ _ _ h => h) (Or.inr ⟨by rfl, rfl⟩) ?_ ?_
    rotate_left
    ·simp only [Act.put, sA_, s0_, s1_]
     rfl
    refine pure_ (i := 13) (N := some 51) (v := undef) (a' := ?_) #[true, true, true, true, true, true, true, true, true, true, true, true, true, true, false, false, false] rfl rfl (by kernel_rfl) (fun _ _ _ h => h) (Or.inr ⟨by rfl, rfl⟩) ?_ ?_
    rotate_left
    ·simp only [Act.put, sA_, s0_, s1_]
     rfl
    refine pure_ (i := 14) (N := some 52) (v := undef) (a' := ?_) #[true, true, true, true, true, true, true, true, true, true, true, true, true, true, true, false, false] rfl rfl (by kernel_rfl) (fun _ _ _ h => h) (Or.inr ⟨by rfl, rfl⟩) ?_ ?_
    rotate_left
    ·simp only [Act.put, sA_, s0_, s1_]
     rfl
    refine pure_ (i := 15) (N := some 53) (v := undef) (a' := ?_) #[true, true, true, true, true, true, true, true, true, true, true, true, true, true, true, true, false] rfl rfl (by kernel_rfl) (fun _ _ _ h => h) (Or.inr ⟨by rfl, rfl⟩) ?_ ?_
    rotate_left
    ·simp only [Act.put, sA_, s0_, s1_]
     rfl
    refine pure_ (i := 16) (N := some 54) (v := ?_) (a' := ?_) #[true, true, true, true, true, true, true, true, true, true, true, true, true, true, true, true, true] rfl rfl (by kernel_rfl) (fun _ _ _ h => h) (Or.inl ⟨by rfl, ?_⟩) ?_ ?_
    rotate_left
    ·intro w'
     go_simp
     with_reducible rfl
    rotate_left
    ·simp only [Act.put, sA_, s0_, s1_]
     rfl
    refine done_ (by kernel_rfl) ?_
    have z0 := blk_below (w := W.drew) (g := w.heap.size) G0.out hb
    have z2 := blk_below (w := W.drew) (g := w.heap.size + 1 + 1) G2.out hb
    have HB := Lib.hid (below_step (below_drew1 GB.out) hb)
    clear hb hc hf HT
    have y0 := blk_cell z0 0
    have y1 := blk_cell z0 1
    have y2 := blk_cell z0 2
    have y3 := blk_cell z0 3
    have y4 := blk_cell z0 4
    have f0 := blk_frozen z0 0
    have f1 := blk_frozen z0 1
    have f2 := blk_frozen z0 2
    have f3 := blk_frozen z0 3
    have f4 := blk_frozen z0 4
    simp only [List.getElem?_toArray, List.getElem?_cons_zero, List.getElem?_cons_succ] at y0 y1 y2 y3 y4
    go_wp2_with fail
    have h := H3.out
    simp only [Option.some.injEq, Prod.mk.injEq] at h
    obtain ⟨rfl, rfl, rfl, rfl, rfl, rfl⟩ := h
    exact bodyPost_ret (results_ct rfl _ _ w.heap.size 23 #[.int .u8 0, .int .u8 0, .int .u8 0, .int .u8 0, .int .u8 0] (0, 0) _ rfl (by refine blk_put (cs := #[.int .u8 0, .int .u8 0, .int .u8 0, .int .u8 0, .int .u8 0]) ?_ 4 _ rfl; refine blk_put (cs := #[.int .u8 0, .int .u8 0, .int .u8 0, .int .u8 0, .int .u8 0]) ?_ 3 _ rfl; refine blk_put (cs := #[.int .u8 0, .int .u8 0, .int .u8 0, .int .u8 0, .int .u8 0]) ?_ 2 _ rfl; refine blk_put (cs := #[.int .u8 0, .int .u8 0, .int .u8 0, .int .u8 0, .int .u8 0]) ?_ 1 _ rfl; refine blk_put (cs := #[.int .u8 0, .int .u8 0, .int .u8 0, .int .u8 0, .int .u8 0]) ?_ 0 _ rfl; exact z0) Tryd.underlying23 rfl (by kernel_rfl)) rfl ⟨rfl, by repeat (first | exact HB.out | refine below_set ?_ (Nat.le_refl _))⟩
   | true =>
    go_wp2_with fail
    refine at_world (fun W => W.heap[w.heap.size]? = some (.cells #[.int .u8 0, .int .u8 0, .int .u8 0, .int .u8 0, .int .u8 0] 23 (0, 0)) ∧ W.heap[w.heap.size + 1 + 1]? = some (.cells #[.int .u8 (rd l0 3), .int .u8 (rd l0 4), .int .u8 (rd l0 5), .int .u8 (rd l0 6), .int .u8 (rd l0 7)] 23 (0, 0)) ∧ W.cell? ⟨ad.block, ad.off + 3 + 5, none⟩ = some (.int .u8 (rd l0 8)) ∧ Below w.heap.size w W ∧ w.heap.size + 1 + 1 < W.heap.size ∧ ad.block < w.heap.size) ?_ ?_
    ·exact ⟨heap_old _ (heap_old _ (heap_new _ _)), by have := heap_new ((w.alloc (.cells #[.int .u8 0, .int .u8 0, .int .u8 0, .int .u8 0, .int .u8 0] 23)).alloc (.cells #[.int .u8 77, .int .u8 83, .int .u8 72] 5 (3, 4))) (.cells #[.int .u8 (rd l0 3), .int .u8 (rd l0 4), .int .u8 (rd l0 5), .int .u8 (rd l0 6), .int .u8 (rd l0 7)] 23 (0, 0)); rw [World.size_alloc, World.size_alloc] at this; exact this, cell_alloc_old _ (k8 _ _), pw_below_drewN (HBEL.out.alloc (by simp; omega) _) _, by simp, HADB.out⟩
    rintro W ⟨g0, g2, g8, gB, gS, gA⟩
    have c0 := cell_of_cells g2 0
    have c1 := cell_of_cells g2 1
    have c2 := cell_of_cells g2 2
    have c3 := cell_of_cells g2 3
    have c4 := cell_of_cells g2 4
    have gA8 : ad.block < W.heap.size := by omega
    have GB := Lib.hid gB
    have G0 := Lib.hid g0
    have G2 := Lib.hid g2
    clear gB g0 g2 k3 k4 k5 k6 k7 k8 kc
    have h8 : (if rd l0 8 = rd l0 3 then some (rd l0 3, rd l0 4, rd l0 5, rd l0 6, rd l0 7, (0 : Int)) else if rd l0 8 = 13 then some (rd l0 3, rd l0 4, rd l0 5, rd l0 6, rd l0 7, (0 : Int)) else some ((0 : Int), (0 : Int), (0 : Int), (0 : Int), (0 : Int), (11 : Int))) = some (r1, r2, r3, r4, r5, r6) := H3.out
    by_cases e8 : rd l0 8 = rd l0 3
    ·rw [if_pos e8] at h8
     have H3 := Lib.hid h8
     have q1 : ((rd l0 8) == (rd l0 3)) = true := beq_iff_eq.mpr e8
     have q2 : ((rd l0 8) != (rd l0 3)) = false := bne_eq_false_iff_eq.mpr e8
     clear h8 e8
     refine start_ (n := 17) (S := fun w' => w'.cell? ⟨w.heap.size + 1 + 1, 0, none⟩ = some (.int .u8 (rd l0 3)) ∧ w'.cell? ⟨w.heap.size + 1 + 1, 1, none⟩ = some (.int .u8 (rd l0 4)) ∧ w'.cell? ⟨w.heap.size + 1 + 1, 2, none⟩ = some (.int .u8 (rd l0 5)) ∧ w'.cell? ⟨w.heap.size + 1 + 1, 3, none⟩ = some (.int .u8 (rd l0 6)) ∧ w'.cell? ⟨w.heap.size + 1 + 1, 4, none⟩ = some (.int .u8 (rd l0 7)) ∧ w'.cell? ⟨ad.block, ad.off + 3 + 5, none⟩ = some (.int .u8 (rd l0 8))) (ds := []) #[false, false, false, false, false, false, false, false, false, false, false, false, false, false, false, false, false] (by kernel_rfl) rfl rfl ⟨c0, c1, c2, c3, c4, g8⟩ (fun hHeld => ?_)
     refine take_ (i := 0) (N := some 38) (v := ?_) (a' := ?_) #[true, false, false, false, false, false, false, false, false, false, false, false, false, false, false, false, false] rfl rfl (by kernel_rfl) (fun _ _ _ h => h) (Or.inl ⟨by rfl, ?_⟩) hHeld ?_ ?_
     rotate_left
     ·rintro w' ⟨s0, s1, s2, s3, s4, s5⟩
      go_simp
      with_reducible rfl
     rotate_left
     ·simp only [Act.put, sA_, s0_, s1_]
      rfl
     refine one_ (i := 1) (N := some 39) #[true, true, false, false, false, false, false, false, false, false, false, false, false, false, false, false, false] rfl rfl (by kernel_rfl) (by decide) (fun K hK => ?_)
     refine goes_ Tryd.func9 (by kernel_rfl) rfl #[.agg #[.int .u8 (rd l0 3), .int .u8 (rd l0 4), .int .u8 (rd l0 5), .int .u8 (rd l0 6), .int .u8 (rd l0 7)]] (by rfl) rfl rfl (by (try simp only [List.map_toArray, List.map_cons, List.map_nil]); first | done | rfl) ?_
     with_reducible refine (delim_Right.calls k (rd l0 3) (rd l0 4) (rd l0 5) (rd l0 6) (rd l0 7) true _ HT.out).mono ?_
     rintro e w1 ⟨rfl, hb⟩
     obtain ⟨hc, hf⟩ := below_reads hb
     refine ⟨_, rfl, ?_⟩
     refine hK.out _ _ ⟨(hc _ _ gS).trans c0, (hc _ _ gS).trans c1, (hc _ _ gS).trans c2, (hc _ _ gS).trans c3, (hc _ _ gS).trans c4, (hc _ _ gA8).trans g8⟩ (fun hHeld => ?_)
     clear hK K
     refine norm_ (a' := ?_) ?_ ?_
     rotate_left
     ·show Act.put _ (some 39) _ = _
      simp only [Act.put, sA_, s0_, s1_]
      rfl
     refine pure_ (i := 2) (N := some 40) (v := ?_) (a' := ?_) #[true, true, true, false, false, false, false, false, false, false, false, false, false, false, false, false, false] rfl rfl (by kernel_rfl) (fun _ _ _ h => h) (Or.inl ⟨by rfl, ?_⟩) ?_ ?_
     rotate_left
     ·intro w'
      go_simp
      with_reducible rfl
     rotate_left
     ·simp only [Act.put, sA_, s0_, s1_]
      rfl
     refine pure_ (i := 3) (N := some 41) (v := ?_) (a' := ?_) #[true, true, true, true, false, false, false, false, false, false, false, false, false, false, false, false, false] rfl rfl (by kernel_rfl) (fun _ _ _ h => h) (Or.inl ⟨by rfl, ?_⟩) ?_ ?_
     rotate_left
     ·intro w'
      go_simp
      with_reducible rfl
     rotate_left
     ·simp only [Act.put, sA_, s0_, s1_]
      rfl
     refine pure_ (i := 4) (N := some 42) (v := ?_) (a' := ?_) #[true, true, true, true, true, false, false, false, false, false, false, false, false, false, false, false, false] rfl rfl (by kernel_rfl) (fun _ _ _ h => h) (Or.inl ⟨by rfl, ?_⟩) ?_ ?_
     rotate_left
     ·intro w'
      go_simp
      with_reducible rfl
     rotate_left
     ·simp only [Act.put, sA_, s0_, s1_]
      rfl
     refine pure_ (i := 5) (N := some 43) (v := ?_) (a' := ?_) #[true, true, true, true, true, true, false, false, false, false, false, false, false, false, false, false, false] rfl rfl (by kernel_rfl) (fun _ _ _ h => h) (Or.inl ⟨by rfl, ?_⟩) ?_ ?_
     rotate_left
     ·intro w'
      go_simp
      with_reducible rfl
     rotate_left
     ·simp only [Act.put, sA_, s0_, s1_]
      rfl
     refine take_ (i := 6) (N := some 44) (v := ?_) (a' := ?_) #[true, true, true, true, true, true, true, false, false, false, false, false, false, false, false, false, false] rfl rfl (by kernel_rfl) (fun _ _ _ h => h) (Or.inl ⟨by rfl, ?_⟩) hHeld ?_ ?_
     rotate_left
     ·rintro w' ⟨s0, s1, s2, s3, s4, s5⟩
      go_simp
      with_reducible rfl
     rotate_left
     ·simp only [Act.put, sA_, s0_, s1_]
      rfl
     refine pure_ (i := 7) (N := some 45) (v := ?_) (a' := ?_) #[true, true, true, true, true, true, true, true, false, false, false, false, false, false, false, false, false] rfl rfl (by kernel_rfl) (fun _ _ _ h => h) (Or.inl ⟨by rfl, ?_⟩) ?_ ?_
     rotate_left
     ·intro w'
      go_simp
      with_reducible rfl
     rotate_left
     ·simp only [Act.put, sA_, s0_, s1_]
      rfl
     refine take_ (i := 8) (N := some 46) (v := ?_) (a' := ?_) #[true, true, true, true, true, true, true, true, true, false, false, false, false, false, false, false, false] rfl rfl (by kernel_rfl) (fun _ _ _ h => h) (Or.inl ⟨by rfl, ?_⟩) hHeld ?_ ?_
     rotate_left
     ·rintro w' ⟨s0, s1, s2, s3, s4, s5⟩
      go_simp
      with_reducible rfl
     rotate_left
     ·simp only [Act.put, sA_, s0_, s1_]
      rfl
     refine pure_ (i := 9) (N := some 47) (v := ?_) (a' := ?_) #[true, true, true, true, true, true, true, true, true, true, false, false, false, false, false, false, false] rfl rfl (by kernel_rfl) (fun _ _ _ h => h) (Or.inl ⟨by rfl, ?_⟩) ?_ ?_
     rotate_left
     ·intro w'
      go_simp
      with_reducible rfl
     rotate_left
     ·simp only [Act.put, sA_, s0_, s1_]
      rfl
     refine pure_ (i := 10) (N := some 48) (v := ?_) (a' := ?_) #[true, true, true, true, true, true, true, true, true, true, true, false, false, false, false, false, false] rfl rfl (by kernel_rfl) (fun _ _ _ h => h) (Or.inl ⟨by rfl, ?_⟩) ?_ ?_
     rotate_left
     ·intro w'
      go_simp
      with_reducible rfl
     rotate_left
     ·simp only [Act.put, sA_, s0_, s1_]
      rfl
     refine pure_ (i := 11) (N := some 49) (v := undef) (a' := ?_) #[true, true, true, true, true, true, true, true, true, true, true, true, false, false, false, false, false] rfl rfl (by kernel_rfl) (fun _ _ _ h => h) (Or.inr ⟨by rfl, rfl⟩) ?_ ?_
     rotate_left
     ·simp only [Act.put, sA_, s0_, s1_]
      rfl
     refine pure_ (i := 12) (N := some 50) (v := undef) (a' := ?_) #[true, true, true, true, true, true, true, true, true, true, true, true, true, false, false, false, false] rfl rfl (by kernel_rfl) (fun _ _ _ h => h) (Or.inr ⟨by rfl, rfl⟩) ?_ ?_
     rotate_left
     ·simp only [Act.put, sA_, s0_, s1_]
      rfl
     refine pure_ (i := 13) (N := some 51) (v := undef) (a' := ?_) #[true, true, true, true, true, true, true, true, true, true, true, true, true, true, false, false, false] rfl rfl (by kernel_rfl) (fun _ _ _ h => h) (Or.inr ⟨by rfl, rfl⟩) ?_ ?_
     rotate_left
     ·simp only [Act.put, sA_, s0_, s1_]
      rfl
     refine pure_ (i := 14) (N := some 52) (v := undef) (a' := ?_) #[true, true, true, true, true, true, true, true, true, true, true, true, true, true, true, false, false] rfl rfl (by kernel_rfl) (fun _ _ _ h => h) (Or.inr ⟨by rfl, rfl⟩) ?_ ?_
     rotate_left
     ·simp only [Act.put, sA_, s0_, s1_]
      rfl
     refine pure_ (i := 15) (N := some 53) (v := ?_) (a' := ?_) #[true, true, true, true, true, true, true, true, true, true, true, true, true, true, true, true, false] rfl rfl (by kernel_rfl) (fun _ _ _ h => h) (Or.inl ⟨by rfl, ?_⟩) ?_ ?_
     rotate_left
     ·intro w'
      go_simp
      with_reducible rfl
     rotate_left
     ·simp only [Act.put, sA_, s0_, s1_]
      rfl
     refine pure_ (i := 16) (N := some 54) (v := ?_) (a' := ?_) #[true, true, true, true, true, true, true, true, true, true, true, true, true, true, true, true, true] rfl rfl (by kernel_rfl) (fun _ _ _ h => h) (Or.inl ⟨by rfl, ?_⟩) ?_ ?_
     rotate_left
     ·intro w'
      go_simp
      with_reducible rfl
     rotate_left
     ·simp only [Act.put, sA_, s0_, s1_]
      rfl
     refine done_ (by kernel_rfl) ?_
     have z0 := blk_below (w := W.drew) (g := w.heap.size) G0.out hb
     have z2 := blk_below (w := W.drew) (g := w.heap.size + 1 + 1) G2.out hb
     have HB := Lib.hid (below_step (below_drew1 GB.out) hb)
     clear hb hc hf HT
     have d0 := blk_cell z2 0
     have d1 := blk_cell z2 1
     have d2 := blk_cell z2 2
     have d3 := blk_cell z2 3
     have d4 := blk_cell z2 4
     have y0 := blk_cell z0 0
     have y1 := blk_cell z0 1
     have y2 := blk_cell z0 2
     have y3 := blk_cell z0 3
     have y4 := blk_cell z0 4
     have f0 := blk_frozen z0 0
     have f1 := blk_frozen z0 1
     have f2 := blk_frozen z0 2
     have f3 := blk_frozen z0 3
     have f4 := blk_frozen z0 4
     simp only [List.getElem?_toArray, List.getElem?_cons_zero, List.getElem?_cons_succ] at d0 d1 d2 d3 d4 y0 y1 y2 y3 y4
     go_wp2_with fail
     have h := H3.out
     simp only [Option.some.injEq, Prod.mk.injEq] at h
     obtain ⟨rfl, rfl, rfl, rfl, rfl, rfl⟩ := h
     exact bodyPost_ret (results_ct rfl _ _ w.heap.size 23 #[.int .u8 (rd l0 3), .int .u8 (rd l0 4), .int .u8 (rd l0 5), .int .u8 (rd l0 6), .int .u8 (rd l0 7)] (0, 0) _ rfl (by refine blk_put (cs := #[.int .u8 (rd l0 3), .int .u8 (rd l0 4), .int .u8 (rd l0 5), .int .u8 (rd l0 6), .int .u8 0]) ?_ 4 _ rfl; refine blk_put (cs := #[.int .u8 (rd l0 3), .int .u8 (rd l0 4), .int .u8 (rd l0 5), .int .u8 0, .int .u8 0]) ?_ 3 _ rfl; refine blk_put (cs := #[.int .u8 (rd l0 3), .int .u8 (rd l0 4), .int .u8 0, .int .u8 0, .int .u8 0]) ?_ 2 _ rfl; refine blk_put (cs := #[.int .u8 (rd l0 3), .int .u8 0, .int .u8 0, .int .u8 0, .int .u8 0]) ?_ 1 _ rfl; refine blk_put (cs := #[.int .u8 0, .int .u8 0, .int .u8 0, .int .u8 0, .int .u8 0]) ?_ 0 _ rfl; exact z0) Tryd.underlying23 rfl (by kernel_rfl)) rfl ⟨rfl, by repeat (first | exact HB.out | refine below_set ?_ (Nat.le_refl _))⟩
    ·rw [if_neg e8] at h8
     have q1 : ((rd l0 8) == (rd l0 3)) = false := beq_eq_false_iff_ne.mpr e8
     have q2 : ((rd l0 8) != (rd l0 3)) = true := bne_iff_ne.mpr e8
     clear e8
     by_cases e9 : rd l0 8 = 13
     ·rw [if_pos e9] at h8
      have H3 := Lib.hid h8
      have q3 : ((rd l0 8) == 13) = true := beq_iff_eq.mpr e9
      have q4 : ((rd l0 8) != 13) = false := bne_eq_false_iff_eq.mpr e9
      clear h8 e9
      refine start_ (n := 17) (S := fun w' => w'.cell? ⟨w.heap.size + 1 + 1, 0, none⟩ = some (.int .u8 (rd l0 3)) ∧ w'.cell? ⟨w.heap.size + 1 + 1, 1, none⟩ = some (.int .u8 (rd l0 4)) ∧ w'.cell? ⟨w.heap.size + 1 + 1, 2, none⟩ = some (.int .u8 (rd l0 5)) ∧ w'.cell? ⟨w.heap.size + 1 + 1, 3, none⟩ = some (.int .u8 (rd l0 6)) ∧ w'.cell? ⟨w.heap.size + 1 + 1, 4, none⟩ = some (.int .u8 (rd l0 7)) ∧ w'.cell? ⟨ad.block, ad.off + 3 + 5, none⟩ = some (.int .u8 (rd l0 8))) (ds := []) #[false, false, false, false, false, false, false, false, false, false, false, false, false, false, false, false, false] (by kernel_rfl) rfl rfl ⟨c0, c1, c2, c3, c4, g8⟩ (fun hHeld => ?_)
      refine take_ (i := 0) (N := some 38) (v := ?_) (a' := ?_) #[true, false, false, false, false, false, false, false, false, false, false, false, false, false, false, false, false] rfl rfl (by kernel_rfl) (fun _ _ _ h => h) (Or.inl ⟨by rfl, ?_⟩) hHeld ?_ ?_
      rotate_left
      ·rintro w' ⟨s0, s1, s2, s3, s4, s5⟩
       go_simp
       with_reducible rfl
      rotate_left
      ·simp only [Act.put, sA_, s0_, s1_]
       rfl
      refine one_ (i := 1) (N := some 39) #[true, true, false, false, false, false, false, false, false, false, false, false, false, false, false, false, false] rfl rfl (by kernel_rfl) (by decide) (fun K hK => ?_)
      refine goes_ Tryd.func9 (by kernel_rfl) rfl #[.agg #[.int .u8 (rd l0 3), .int .u8 (rd l0 4), .int .u8 (rd l0 5), .int .u8 (rd l0 6), .int .u8 (rd l0 7)]] (by rfl) rfl rfl (by (try simp only [List.map_toArray, List.map_cons, List.map_nil]); first | done | rfl) ?_
      with_reducible refine (delim_Right.calls k (rd l0 3) (rd l0 4) (rd l0 5) (rd l0 6) (rd l0 7) true _ HT.out).mono ?_
      rintro e w1 ⟨rfl, hb⟩
      obtain ⟨hc, hf⟩ := below_reads hb
      refine ⟨_, rfl, ?_⟩
      refine hK.out _ _ ⟨(hc _ _ gS).trans c0, (hc _ _ gS).trans c1, (hc _ _ gS).trans c2, (hc _ _ gS).trans c3, (hc _ _ gS).trans c4, (hc _ _ gA8).trans g8⟩ (fun hHeld => ?_)
      clear hK K
      refine norm_ (a' := ?_) ?_ ?_
      rotate_left
      ·show Act.put _ (some 39) _ = _
       simp only [Act.put, sA_, s0_, s1_]
       rfl
      refine pure_ (i := 2) (N := some 40) (v := ?_) (a' := ?_) #[true, true, true, false, false, false, false, false, false, false, false, false, false, false, false, false, false] rfl rfl (by kernel_rfl) (fun _ _ _ h => h) (Or.inl ⟨by rfl, ?_⟩) ?_ ?_
      rotate_left
      ·intro w'
       go_simp
       with_reducible rfl
      rotate_left
      ·simp only [Act.put, sA_, s0_, s1_]
       rfl
      refine pure_ (i := 3) (N := some 41) (v := ?_) (a' := ?_) #[true, true, true, true, false, false, false, false, false, false, false, false, false, false, false, false, false] rfl rfl (by kernel_rfl) (fun _ _ _ h => h) (Or.inl ⟨by rfl, ?_⟩) ?_ ?_
      rotate_left
      ·intro w'
       go_simp
       with_reducible rfl
      rotate_left
      ·simp only [Act.put, sA_, s0_, s1_]
       rfl
      refine pure_ (i := 4) (N := some 42) (v := ?_) (a' := ?_) #[true, true, true, true, true, false, false, false, false, false, false, false, false, false, false, false, false] rfl rfl (by kernel_rfl) (fun _ _ _ h => h) (Or.inl ⟨by rfl, ?_⟩) ?_ ?_
      rotate_left
      ·intro w'
       go_simp
       with_reducible rfl
      rotate_left
      ·simp only [Act.put, sA_, s0_, s1_]
       rfl
      refine pure_ (i := 5) (N := some 43) (v := ?_) (a' := ?_) #[true, true, true, true, true, true, false, false, false, false, false, false, false, false, false, false, false] rfl rfl (by kernel_rfl) (fun _ _ _ h => h) (Or.inl ⟨by rfl, ?_⟩) ?_ ?_
      rotate_left
      ·intro w'
       go_simp
       with_reducible rfl
      rotate_left
      ·simp only [Act.put, sA_, s0_, s1_]
       rfl
      refine take_ (i := 6) (N := some 44) (v := ?_) (a' := ?_) #[true, true, true, true, true, true, true, false, false, false, false, false, false, false, false, false, false] rfl rfl (by kernel_rfl) (fun _ _ _ h => h) (Or.inl ⟨by rfl, ?_⟩) hHeld ?_ ?_
      rotate_left
      ·rintro w' ⟨s0, s1, s2, s3, s4, s5⟩
       go_simp
       with_reducible rfl
      rotate_left
      ·simp only [Act.put, sA_, s0_, s1_]
       rfl
      refine pure_ (i := 7) (N := some 45) (v := ?_) (a' := ?_) #[true, true, true, true, true, true, true, true, false, false, false, false, false, false, false, false, false] rfl rfl (by kernel_rfl) (fun _ _ _ h => h) (Or.inl ⟨by rfl, ?_⟩) ?_ ?_
      rotate_left
      ·intro w'
       go_simp
       with_reducible rfl
      rotate_left
      ·simp only [Act.put, sA_, s0_, s1_]
       rfl
      refine take_ (i := 8) (N := some 46) (v := ?_) (a' := ?_) #[true, true, true, true, true, true, true, true, true, false, false, false, false, false, false, false, false] rfl rfl (by kernel_rfl) (fun _ _ _ h => h) (Or.inl ⟨by rfl, ?_⟩) hHeld ?_ ?_
      rotate_left
      ·rintro w' ⟨s0, s1, s2, s3, s4, s5⟩
       go_simp
       with_reducible rfl
      rotate_left
      ·simp only [Act.put, sA_, s0_, s1_]
       rfl
      refine pure_ (i := 9) (N := some 47) (v := ?_) (a' := ?_) #[true, true, true, true, true, true, true, true, true, true, false, false, false, false, false, false, false] rfl rfl (by kernel_rfl) (fun _ _ _ h => h) (Or.inl ⟨by rfl, ?_⟩) ?_ ?_
      rotate_left
      ·intro w'
       go_simp
       with_reducible rfl
      rotate_left
      ·simp only [Act.put, sA_, s0_, s1_]
       rfl
      refine pure_ (i := 10) (N := some 48) (v := ?_) (a' := ?_) #[true, true, true, true, true, true, true, true, true, true, true, false, false, false, false, false, false] rfl rfl (by kernel_rfl) (fun _ _ _ h => h) (Or.inl ⟨by rfl, ?_⟩) ?_ ?_
      rotate_left
      ·intro w'
       go_simp
       with_reducible rfl
      rotate_left
      ·simp only [Act.put, sA_, s0_, s1_]
       rfl
      refine pure_ (i := 11) (N := some 49) (v := ?_) (a' := ?_) #[true, true, true, true, true, true, true, true, true, true, true, true, false, false, false, false, false] rfl rfl (by kernel_rfl) (fun _ _ _ h => h) (Or.inl ⟨by rfl, ?_⟩) ?_ ?_
      rotate_left
      ·intro w'
       go_simp
       with_reducible rfl
      rotate_left
      ·simp only [Act.put, sA_, s0_, s1_]
       rfl
      refine pure_ (i := 12) (N := some 50) (v := ?_) (a' := ?_) #[true, true, true, true, true, true, true, true, true, true, true, true, true, false, false, false, false] rfl rfl (by kernel_rfl) (fun _ _ _ h => h) (Or.inl ⟨by rfl, ?_⟩) ?_ ?_
      rotate_left
      ·intro w'
       go_simp
       with_reducible rfl
      rotate_left
      ·simp only [Act.put, sA_, s0_, s1_]
       rfl
      refine take_ (i := 13) (N := some 51) (v := ?_) (a' := ?_) #[true, true, true, true, true, true, true, true, true, true, true, true, true, true, false, false, false] rfl rfl (by kernel_rfl) (fun _ _ _ h => h) (Or.inl ⟨by rfl, ?_⟩) hHeld ?_ ?_
      rotate_left
      ·rintro w' ⟨s0, s1, s2, s3, s4, s5⟩
       go_simp
       with_reducible rfl
      rotate_left
      ·simp only [Act.put, sA_, s0_, s1_]
       rfl
      refine pure_ (i := 14) (N := some 52) (v := ?_) (a' := ?_) #[true, true, true, true, true, true, true, true, true, true, true, true, true, true, true, false, false] rfl rfl (by kernel_rfl) (fun _ _ _ h => h) (Or.inl ⟨by rfl, ?_⟩) ?_ ?_
      rotate_left
      ·intro w'
       go_simp
       with_reducible rfl
      rotate_left
      ·simp only [Act.put, sA_, s0_, s1_]
       rfl
      refine pure_ (i := 15) (N := some 53) (v := ?_) (a' := ?_) #[true, true, true, true, true, true, true, true, true, true, true, true, true, true, true, true, false] rfl rfl (by kernel_rfl) (fun _ _ _ h => h) (Or.inl ⟨by rfl, ?_⟩) ?_ ?_
      rotate_left
      ·intro w'
       go_simp
       with_reducible rfl
      rotate_left
      ·simp only [Act.put, sA_, s0_, s1_]
       rfl
      refine pure_ (i := 16) (N := some 54) (v := ?_) (a' := ?_) #[true, true, true, true, true, true, true, true, true, true, true, true, true, true, true, true, true] rfl rfl (by kernel_rfl) (fun _ _ _ h => h) (Or.inl ⟨by rfl, ?_⟩) ?_ ?_
      rotate_left
      ·intro w'
       go_simp
       with_reducible rfl
      rotate_left
      ·simp only [Act.put, sA_, s0_, s1_]
       rfl
      refine done_ (by kernel_rfl) ?_
      have z0 := blk_below (w := W.drew) (g := w.heap.size) G0.out hb
      have z2 := blk_below (w := W.drew) (g := w.heap.size + 1 + 1) G2.out hb
      have HB := Lib.hid (below_step (below_drew1 GB.out) hb)
      clear hb hc hf HT
      have d0 := blk_cell z2 0
      have d1 := blk_cell z2 1
      have d2 := blk_cell z2 2
      have d3 := blk_cell z2 3
      have d4 := blk_cell z2 4
      have y0 := blk_cell z0 0
      have y1 := blk_cell z0 1
      have y2 := blk_cell z0 2
      have y3 := blk_cell z0 3
      have y4 := blk_cell z0 4
      have f0 := blk_frozen z0 0
      have f1 := blk_frozen z0 1
      have f2 := blk_frozen z0 2
      have f3 := blk_frozen z0 3
      have f4 := blk_frozen z0 4
      simp only [List.getElem?_toArray, List.getElem?_cons_zero, List.getElem?_cons_succ] at d0 d1 d2 d3 d4 y0 y1 y2 y3 y4
      go_wp2_with fail
      have h := H3.out
      simp only [Option.some.injEq, Prod.mk.injEq] at h
      obtain ⟨rfl, rfl, rfl, rfl, rfl, rfl⟩ := h
      exact bodyPost_ret (results_ct rfl _ _ w.heap.size 23 #[.int .u8 (rd l0 3), .int .u8 (rd l0 4), .int .u8 (rd l0 5), .int .u8 (rd l0 6), .int .u8 (rd l0 7)] (0, 0) _ rfl (by refine blk_put (cs := #[.int .u8 (rd l0 3), .int .u8 (rd l0 4), .int .u8 (rd l0 5), .int .u8 (rd l0 6), .int .u8 0]) ?_ 4 _ rfl; refine blk_put (cs := #[.int .u8 (rd l0 3), .int .u8 (rd l0 4), .int .u8 (rd l0 5), .int .u8 0, .int .u8 0]) ?_ 3 _ rfl; refine blk_put (cs := #[.int .u8 (rd l0 3), .int .u8 (rd l0 4), .int .u8 0, .int .u8 0, .int .u8 0]) ?_ 2 _ rfl; refine blk_put (cs := #[.int .u8 (rd l0 3), .int .u8 0, .int .u8 0, .int .u8 0, .int .u8 0]) ?_ 1 _ rfl; refine blk_put (cs := #[.int .u8 0, .int .u8 0, .int .u8 0, .int .u8 0, .int .u8 0]) ?_ 0 _ rfl; exact z0) Tryd.underlying23 rfl (by kernel_rfl)) rfl ⟨rfl, by repeat (first | exact HB.out | refine below_set ?_ (Nat.le_refl _))⟩
     ·rw [if_neg e9] at h8
      have H3 := Lib.hid h8
      have q3 : ((rd l0 8) == 13) = false := beq_eq_false_iff_ne.mpr e9
      have q4 : ((rd l0 8) != 13) = true := bne_iff_ne.mpr e9
      clear h8 e9
      refine start_ (n := 17) (S := fun w' => w'.cell? ⟨w.heap.size + 1 + 1, 0, none⟩ = some (.int .u8 (rd l0 3)) ∧ w'.cell? ⟨w.heap.size + 1 + 1, 1, none⟩ = some (.int .u8 (rd l0 4)) ∧ w'.cell? ⟨w.heap.size + 1 + 1, 2, none⟩ = some (.int .u8 (rd l0 5)) ∧ w'.cell? ⟨w.heap.size + 1 + 1, 3, none⟩ = some (.int .u8 (rd l0 6)) ∧ w'.cell? ⟨w.heap.size + 1 + 1, 4, none⟩ = some (.int .u8 (rd l0 7)) ∧ w'.cell? ⟨ad.block, ad.off + 3 + 5, none⟩ = some (.int .u8 (rd l0 8))) (ds := []) #[false, false, false, false, false, false, false, false, false, false, false, false, false, false, false, false, false] (by kernel_rfl) rfl rfl ⟨c0, c1, c2, c3, c4, g8⟩ (fun hHeld => ?_)
      refine take_ (i := 0) (N := some 38) (v := ?_) (a' := ?_) #[true, false, false, false, false, false, false, false, false, false, false, false, false, false, false, false, false] rfl rfl (by kernel_rfl) (fun _ _ _ h => h) (Or.inl ⟨by rfl, ?_⟩) hHeld ?_ ?_
      rotate_left
      ·rintro w' ⟨s0, s1, s2, s3, s4, s5⟩
       go_simp
       with_reducible rfl
      rotate_left
      ·simp only [Act.put, sA_, s0_, s1_]
       rfl
      refine one_ (i := 1) (N := some 39) #[true, true, false, false, false, false, false, false, false, false, false, false, false, false, false, false, false] rfl rfl (by kernel_rfl) (by decide) (fun K hK => ?_)
      refine goes_ Tryd.func9 (by kernel_rfl) rfl #[.agg #[.int .u8 (rd l0 3), .int .u8 (rd l0 4), .int .u8 (rd l0 5), .int .u8 (rd l0 6), .int .u8 (rd l0 7)]] (by rfl) rfl rfl (by (try simp only [List.map_toArray, List.map_cons, List.map_nil]); first | done | rfl) ?_
      with_reducible refine (delim_Right.calls k (rd l0 3) (rd l0 4) (rd l0 5) (rd l0 6) (rd l0 7) true _ HT.out).mono ?_
      rintro e w1 ⟨rfl, hb⟩
      obtain ⟨hc, hf⟩ := below_reads hb
      refine ⟨_, rfl, ?_⟩
      refine hK.out _ _ ⟨(hc _ _ gS).trans c0, (hc _ _ gS).trans c1, (hc _ _ gS).trans c2, (hc _ _ gS).trans c3, (hc _ _ gS).trans c4, (hc _ _ gA8).trans g8⟩ (fun hHeld => ?_)
      clear hK K
      refine norm_ (a' := ?_) ?_ ?_
      rotate_left
      ·show Act.put _ (some 39) _ = _
       simp only [Act.put, sA_, s0_, s1_]
       rfl
      refine pure_ (i := 2) (N := some 40) (v := ?_) (a' := ?_) #[true, true, true, false, false, false, false, false, false, false, false, false, false, false, false, false, false] rfl rfl (by kernel_rfl) (fun _ _ _ h => h) (Or.inl ⟨by rfl, ?_⟩) ?_ ?_
      rotate_left
      ·intro w'
       go_simp
       with_reducible rfl
      rotate_left
      ·simp only [Act.put, sA_, s0_, s1_]
       rfl
      refine pure_ (i := 3) (N := some 41) (v := ?_) (a' := ?_) #[true, true, true, true, false, false, false, false, false, false, false, false, false, false, false, false, false] rfl rfl (by kernel_rfl) (fun _ _ _ h => h) (Or.inl ⟨by rfl, ?_⟩) ?_ ?_
      rotate_left
      ·intro w'
       go_simp
       with_reducible rfl
      rotate_left
      ·simp only [Act.put, sA_, s0_, s1_]
       rfl
      refine pure_ (i := 4) (N := some 42) (v := ?_) (a' := ?_) #[true, true, true, true, true, false, false, false, false, false, false, false, false, false, false, false, false] rfl rfl (by kernel_rfl) (fun _ _ _ h => h) (Or.inl ⟨by rfl, ?_⟩) ?_ ?_
      rotate_left
      ·intro w'
       go_simp
       with_reducible rfl
      rotate_left
      ·simp only [Act.put, sA_, s0_, s1_]
       rfl
      refine pure_ (i := 5) (N := some 43) (v := ?_) (a' := ?_) #[true, true, true, true, true, true, false, false, false, false, false, false, false, false, false, false, false] rfl rfl (by kernel_rfl) (fun _ _ _ h => h) (Or.inl ⟨by rfl, ?_⟩) ?_ ?_
      rotate_left
      ·intro w'
       go_simp
       with_reducible rfl
      rotate_left
      ·simp only [Act.put, sA_, s0_, s1_]
       rfl
      refine take_ (i := 6) (N := some 44) (v := ?_) (a' := ?_) #[true, true, true, true, true, true, true, false, false, false, false, false, false, false, false, false, false] rfl rfl (by kernel_rfl) (fun _ _ _ h => h) (Or.inl ⟨by rfl, ?_⟩) hHeld ?_ ?_
      rotate_left
      ·rintro w' ⟨s0, s1, s2, s3, s4, s5⟩
       go_simp
       with_reducible rfl
      rotate_left
      ·simp only [Act.put, sA_, s0_, s1_]
       rfl
      refine pure_ (i := 7) (N := some 45) (v := ?_) (a' := ?_) #[true, true, true, true, true, true, true, true, false, false, false, false, false, false, false, false, false] rfl rfl (by kernel_rfl) (fun _ _ _ h => h) (Or.inl ⟨by rfl, ?_⟩) ?_ ?_
      rotate_left
      ·intro w'
       go_simp
       with_reducible rfl
      rotate_left
      ·simp only [Act.put, sA_, s0_, s1_]
       rfl
      refine take_ (i := 8) (N := some 46) (v := ?_) (a' := ?_) #[true, true, true, true, true, true, true, true, true, false, false, false, false, false, false, false, false] rfl rfl (by kernel_rfl) (fun _ _ _ h => h) (Or.inl ⟨by rfl, ?_⟩) hHeld ?_ ?_
      rotate_left
      ·rintro w' ⟨s0, s1, s2, s3, s4, s5⟩
       go_simp
       with_reducible rfl
      rotate_left
      ·simp only [Act.put, sA_, s0_, s1_]
       rfl
      refine pure_ (i := 9) (N := some 47) (v := ?_) (a' := ?_) #[true, true, true, true, true, true, true, true, true, true, false, false, false, false, false, false, false] rfl rfl (by kernel_rfl) (fun _ _ _ h => h) (Or.inl ⟨by rfl, ?_⟩) ?_ ?_
      rotate_left
      ·intro w'
       go_simp
       with_reducible rfl
      rotate_left
      ·simp only [Act.put, sA_, s0_, s1_]
       rfl
      refine pure_ (i := 10) (N := some 48) (v := ?_) (a' := ?_) #[true, true, true, true, true, true, true, true, true, true, true, false, false, false, false, false, false] rfl rfl (by kernel_rfl) (fun _ _ _ h => h) (Or.inl ⟨by rfl, ?_⟩) ?_ ?_
      rotate_left
      ·intro w'
       go_simp
       with_reducible rfl
      rotate_left
      ·simp only [Act.put, sA_, s0_, s1_]
       rfl
      refine pure_ (i := 11) (N := some 49) (v := ?_) (a' := ?_) #[true, true, true, true, true, true, true, true, true, true, true, true, false, false, false, false, false] rfl rfl (by kernel_rfl) (fun _ _ _ h => h) (Or.inl ⟨by rfl, ?_⟩) ?_ ?_
      rotate_left
      ·intro w'
       go_simp
       with_reducible rfl
      rotate_left
      ·simp only [Act.put, sA_, s0_, s1_]
       rfl
      refine pure_ (i := 12) (N := some 50) (v := ?_) (a' := ?_) #[true, true, true, true, true, true, true, true, true, true, true, true, true, false, false, false, false] rfl rfl (by kernel_rfl) (fun _ _ _ h => h) (Or.inl ⟨by rfl, ?_⟩) ?_ ?_
      rotate_left
      ·intro w'
       go_simp
       with_reducible rfl
      rotate_left
      ·simp only [Act.put, sA_, s0_, s1_]
       rfl
      refine take_ (i := 13) (N := some 51) (v := ?_) (a' := ?_) #[true, true, true, true, true, true, true, true, true, true, true, true, true, true, false, false, false] rfl rfl (by kernel_rfl) (fun _ _ _ h => h) (Or.inl ⟨by rfl, ?_⟩) hHeld ?_ ?_
      rotate_left
      ·rintro w' ⟨s0, s1, s2, s3, s4, s5⟩
       go_simp
       with_reducible rfl
      rotate_left
      ·simp only [Act.put, sA_, s0_, s1_]
       rfl
      refine pure_ (i := 14) (N := some 52) (v := ?_) (a' := ?_) #[true, true, true, true, true, true, true, true, true, true, true, true, true, true, true, false, false] rfl rfl (by kernel_rfl) (fun _ _ _ h => h) (Or.inl ⟨by rfl, ?_⟩) ?_ ?_
      rotate_left
      ·intro w'
       go_simp
       with_reducible rfl
      rotate_left
      ·simp only [Act.put, sA_, s0_, s1_]
       rfl
      refine pure_ (i := 15) (N := some 53) (v := ?_) (a' := ?_) #[true, true, true, true, true, true, true, true, true, true, true, true, true, true, true, true, false] rfl rfl (by kernel_rfl) (fun _ _ _ h => h) (Or.inl ⟨by rfl, ?_⟩) ?_ ?_
      rotate_left
      ·intro w'
       go_simp
       with_reducible rfl
      rotate_left
      ·simp only [Act.put, sA_, s0_, s1_]
       rfl
      refine pure_ (i := 16) (N := some 54) (v := ?_) (a' := ?_) #[true, true, true, true, true, true, true, true, true, true, true, true, true, true, true, true, true] rfl rfl (by kernel_rfl) (fun _ _ _ h => h) (Or.inl ⟨by rfl, ?_⟩) ?_ ?_
      rotate_left
      ·intro w'
       go_simp
       with_reducible rfl
      rotate_left
      ·simp only [Act.put, sA_, s0_, s1_]
       rfl
      refine done_ (by kernel_rfl) ?_
      have z0 := blk_below (w := W.drew) (g := w.heap.size) G0.out hb
      have z2 := blk_below (w := W.drew) (g := w.heap.size + 1 + 1) G2.out hb
      have HB := Lib.hid (below_step (below_drew1 GB.out) hb)
      clear hb hc hf HT
      have y0 := blk_cell z0 0
      have y1 := blk_cell z0 1
      have y2 := blk_cell z0 2
      have y3 := blk_cell z0 3
      have y4 := blk_cell z0 4
      have f0 := blk_frozen z0 0
      have f1 := blk_frozen z0 1
      have f2 := blk_frozen z0 2
      have f3 := blk_frozen z0 3
      have f4 := blk_frozen z0 4
      simp only [List.getElem?_toArray, List.getElem?_cons_zero, List.getElem?_cons_succ] at y0 y1 y2 y3 y4
      go_wp2_with fail
      have h := H3.out
      simp only [Option.some.injEq, Prod.mk.injEq] at h
      obtain ⟨rfl, rfl, rfl, rfl, rfl, rfl⟩ := h
      exact bodyPost_ret (results_ct rfl _ _ w.heap.size 23 #[.int .u8 0, .int .u8 0, .int .u8 0, .int .u8 0, .int .u8 0] (0, 0) _ rfl (by refine blk_put (cs := #[.int .u8 0, .int .u8 0, .int .u8 0, .int .u8 0, .int .u8 0]) ?_ 4 _ rfl; refine blk_put (cs := #[.int .u8 0, .int .u8 0, .int .u8 0, .int .u8 0, .int .u8 0]) ?_ 3 _ rfl; refine blk_put (cs := #[.int .u8 0, .int .u8 0, .int .u8 0, .int .u8 0, .int .u8 0]) ?_ 2 _ rfl; refine blk_put (cs := #[.int .u8 0, .int .u8 0, .int .u8 0, .int .u8 0, .int .u8 0]) ?_ 1 _ rfl; refine blk_put (cs := #[.int .u8 0, .int .u8 0, .int .u8 0, .int .u8 0, .int .u8 0]) ?_ 0 _ rfl; exact z0) Tryd.underlying23 rfl (by kernel_rfl)) rfl ⟨rfl, by repeat (first | exact HB.out | refine below_set ?_ (Nat.le_refl _))⟩
  ·rw [if_neg h3] at h
   rw [beq_eq_false_iff_ne.2 h3] at hcall
   have HH := Lib.hid h
   have HC := Lib.hid hcall
   clear hcall h h3
   go_enter Tryd.func14, Tryd.ntmps14
   go_wp2_with (first | (go_at_call 35; go_in))
   refine HC.out.mono ?_
   rintro e w' ⟨rfl, ⟨nd, rfl⟩⟩
   go_wp2_with fail
   have h := HH.out
   simp only [Option.some.injEq, Prod.mk.injEq] at h
   obtain ⟨rfl, rfl, rfl, rfl, rfl, rfl⟩ := h
   exact bodyPost_ret (v := .tuple #[.agg #[.int .u8 0, .int .u8 0, .int .u8 0, .int .u8 0, .int .u8 0], .int .i64 11]) (by simp [results, Tryd.results14, go_sem]) rfl ⟨rfl, pw_below_drewN HBEL.out _⟩
end


-- NOT PRINTED: function 36 (segment_between)

-- NOT PRINTED: function 61 (bytealg_IndexByteString)

/-! ### stringslite_IndexByte: function 52 -/
def stringslite_IndexByte.f (a0 : ByteArray) (a1 : Int) : Option (Int) := some (Lib.indexByte a0.data.toList a1.toNat.toUInt8)
theorem stringslite_IndexByte.calls (a0 : ByteArray) (a1 : Int) (r : Int) (w : World) (h : stringslite_IndexByte.f a0 a1 = some r) :
  Calls Tryd.prog 52 #[.string a0, .int .u8 a1] w fun e w' => e = .returned (.int .i64 r) ∧ Drawn0 w w' := by
 obtain rfl := Option.some.inj h
 clear h
 go_enter Tryd.func52, Tryd.ntmps52
 go_wp2
 rw [run_callFunc_extern Tryd.func61 (by kernel_rfl) (by kernel_rfl) (by kernel_rfl) (e := Extern.BytealgIndexByte.indexByte) (by kernel_rfl), Lib.run_indexByteString]
 simp only [Result.andThen]
 rw [Oper.upon_value]
 go_wp2
 go_ret
 exact ⟨rfl, Drawn0.refl _⟩


-- NOT PRINTED: function 53 (bytealg_IndexString)

-- LEFT OUT: function 54 (bytealg_Cutover)

-- LEFT OUT: function 62 (bytealg_hashStr_string)

-- LEFT OUT: function 55 (bytealg_IndexRabinKarp_string)

/-! ### stringslite_Index: function 41 -/
def stringslite_Index.f (a0 : ByteArray) (a1 : ByteArray) : Option (Int) := if a1.size = 1 then stringslite_IndexByte.f a0 (bt a1 0) else none
theorem stringslite_Index.calls (a0 : ByteArray) (a1 : ByteArray) (r : Int) (w : World) (h : stringslite_Index.f a0 a1 = some r) :
  Calls Tryd.prog 41 #[.string a0, .string a1] w fun e w' => e = .returned (.int .i64 r) ∧ Drawn0 w w' := by
 unfold stringslite_Index.f at h
 by_cases h1 : a1.size = 1
 ·rw [if_pos h1] at h
  obtain ⟨c, rfl⟩ := Lib.one_byte a1 h1
  have e : bt ⟨#[c]⟩ 0 = (c.toNat : Int) := rfl
  rw [e] at h
  have HH := Lib.hid h
  clear h h1 e
  go_enter Tryd.func41, Tryd.ntmps41
  go_wp2_with (go_at_call 52; refine (stringslite_IndexByte.calls _ _ _ _ HH.out).mono ?_; rintro e w' ⟨rfl, ⟨nd, rfl⟩⟩)
  ·have h : ([c] == a0.toList) = true := by assumption
   have hr : r = 0 := by
    have h2 := HH.out
    have e : a0.data.toList = [c] := by rw [← Lib.toList_data]; exact (beq_iff_eq.1 h).symm
    unfold stringslite_IndexByte.f at h2
    rw [e] at h2
    simpa [Lib.indexByte] using h2.symm
   go_ret
   exact ⟨by rw [hr]; rfl, by repeat (first | exact Drawn0.refl _ | apply Drawn0.step)⟩
  ·go_ret
   exact ⟨rfl, by repeat (first | exact Drawn0.refl _ | apply Drawn0.step)⟩
 ·rw [if_neg h1] at h
  cases h


/-! ### stringslite_Cut: function 59 -/
def stringslite_Cut.f (a0 : ByteArray) (a1 : ByteArray) : Option (ByteArray × ByteArray × Bool) := (stringslite_Index.f a0 a1).bind fun t125 => (if t125 ≥ 0 then (if 0 ≤ t125 then (if t125 ≤ (a0.size : Int) then (if 0 ≤ (wrap64 (t125 + (a1.size : Int))) then (if (wrap64 (t125 + (a1.size : Int))) ≤ (a0.size : Int) then (some (a0.extract 0 (t125 : Int).toNat, a0.extract ((wrap64 (t125 + (a1.size : Int))) : Int).toNat a0.size, true)) else (none)) else (none)) else (none)) else (none)) else (some (a0, (⟨#[]⟩ : ByteArray), false)))
theorem stringslite_Cut.calls (a0 : ByteArray) (a1 : ByteArray) (r1 : ByteArray) (r2 : ByteArray) (r3 : Bool) (w : World) (h : stringslite_Cut.f a0 a1 = some (r1, r2, r3)) :
  Calls Tryd.prog 59 #[.string a0, .string a1] w fun e w' => e = .returned (.tuple #[.string r1, .string r2, .bool r3]) ∧ Drawn0 w w' := by
 have H : ((stringslite_Index.f a0 a1).bind fun t125 => (if t125 ≥ 0 then (if 0 ≤ t125 then (if t125 ≤ (a0.size : Int) then (if 0 ≤ (wrap64 (t125 + (a1.size : Int))) then (if (wrap64 (t125 + (a1.size : Int))) ≤ (a0.size : Int) then (some (a0.extract 0 (t125 : Int).toNat, a0.extract ((wrap64 (t125 + (a1.size : Int))) : Int).toNat a0.size, true)) else (none)) else (none)) else (none)) else (none)) else (some (a0, (⟨#[]⟩ : ByteArray), false)))) = some (r1, r2, r3) := h
 clear h
 replace H := Option.bind_eq_some_iff.mp H
 obtain ⟨t125, A30, H⟩ := H
 replace H : (if t125 ≥ 0 then (if 0 ≤ t125 then (if t125 ≤ (a0.size : Int) then (if 0 ≤ (wrap64 (t125 + (a1.size : Int))) then (if (wrap64 (t125 + (a1.size : Int))) ≤ (a0.size : Int) then (some (a0.extract 0 (t125 : Int).toNat, a0.extract ((wrap64 (t125 + (a1.size : Int))) : Int).toNat a0.size, true)) else (none)) else (none)) else (none)) else (none)) else (some (a0, (⟨#[]⟩ : ByteArray), false))) = some (r1, r2, r3) := H
 have A3 := Aside0.mk A30
 clear A30
 by_cases c4 : t125 ≥ 0
 ·rw [if_pos c4] at H
  have c4b0 : decide (0 ≤ t125) = true := decide_eq_true c4
  clear c4
  by_cases c5 : 0 ≤ t125
  ·rw [if_pos c5] at H
   have c5b0 := eq_true c5
   have c5b1 : decide (0 ≤ t125) = true := decide_eq_true c5
   clear c5
   by_cases c6 : t125 ≤ (a0.size : Int)
   ·rw [if_pos c6] at H
    have c6b0 := eq_true c6
    have c6b1 : decide (t125 ≤ (a0.size : Int)) = true := decide_eq_true c6
    clear c6
    obtain ⟨ji7, hji7⟩ : ∃ j_ : Int, (wrap64 (t125 + (a1.size : Int))) = j_ := ⟨_, rfl⟩
    replace H : (if 0 ≤ (ji7) then (if (ji7) ≤ (a0.size : Int) then (some (a0.extract 0 (t125 : Int).toNat, a0.extract ((ji7) : Int).toNat a0.size, true)) else (none)) else (none)) = some (r1, r2, r3) := by first | (rw [hji7] at H; exact H) | (simp only [hji7] at H ⊢; exact H)
    (try rw [hji7] at A3)
    have hji7w : (IntKind.i64.wrap (t125 + (a1.size : Int))) = ji7 := (i64_w _).trans hji7
    by_cases c8 : 0 ≤ (ji7)
    ·rw [if_pos c8] at H
     have c8b0 := eq_true c8
     have c8b1 : decide (0 ≤ (ji7)) = true := decide_eq_true c8
     clear c8
     by_cases c9 : (ji7) ≤ (a0.size : Int)
     ·rw [if_pos c9] at H
      have c9b0 := eq_true c9
      have c9b1 : decide ((ji7) ≤ (a0.size : Int)) = true := decide_eq_true c9
      clear c9
      simp only [Option.some.injEq, Prod.mk.injEq] at H
      obtain ⟨rfl, rfl, rfl⟩ := H
      go_enter Tryd.func59, Tryd.ntmps59
      go_wp2_with (first | (go_at_call 41; (with_reducible refine (stringslite_Index.calls a0 a1 t125 _ A3.out).mono ?_); rintro e w' ⟨rfl, ⟨nd, rfl⟩⟩; (try first | exact ⟨rfl, _, World.drewN_drewN _ _ _⟩ | exact ⟨rfl, _, Eq.trans (World.drewN_drewN _ _ _) (congrArg (World.drewN _) (Nat.add_assoc _ _ _))⟩)))
      repeat (go_quiet (first | (go_at_call 41; (with_reducible refine (stringslite_Index.calls a0 a1 t125 _ A3.out).mono ?_); rintro e w' ⟨rfl, ⟨nd, rfl⟩⟩; (try first | exact ⟨rfl, _, World.drewN_drewN _ _ _⟩ | exact ⟨rfl, _, Eq.trans (World.drewN_drewN _ _ _) (congrArg (World.drewN _) (Nat.add_assoc _ _ _))⟩))); try go_wp2_with (first | (go_at_call 41; (with_reducible refine (stringslite_Index.calls a0 a1 t125 _ A3.out).mono ?_); rintro e w' ⟨rfl, ⟨nd, rfl⟩⟩; (try first | exact ⟨rfl, _, World.drewN_drewN _ _ _⟩ | exact ⟨rfl, _, Eq.trans (World.drewN_drewN _ _ _) (congrArg (World.drewN _) (Nat.add_assoc _ _ _))⟩))))
      go_ret3
      exact ⟨by first | rfl | (simp; done) | (simp only [← hji7] <;> (first | rfl | simp)) | (simp [*]; done), by repeat (first | exact Drawn0.refl _ | apply Drawn0.step)⟩
     ·rw [if_neg c9] at H
      exact absurd H (by simp)
    ·rw [if_neg c8] at H
     exact absurd H (by simp)
   ·rw [if_neg c6] at H
    exact absurd H (by simp)
  ·rw [if_neg c5] at H
   exact absurd H (by simp)
 ·rw [if_neg c4] at H
  have c4b0 : decide (0 ≤ t125) = false := decide_eq_false c4
  clear c4
  simp only [Option.some.injEq, Prod.mk.injEq] at H
  obtain ⟨rfl, rfl, rfl⟩ := H
  go_enter Tryd.func59, Tryd.ntmps59
  go_wp2_with (first | (go_at_call 41; (with_reducible refine (stringslite_Index.calls a0 a1 t125 _ A3.out).mono ?_); rintro e w' ⟨rfl, ⟨nd, rfl⟩⟩; (try first | exact ⟨rfl, _, World.drewN_drewN _ _ _⟩ | exact ⟨rfl, _, Eq.trans (World.drewN_drewN _ _ _) (congrArg (World.drewN _) (Nat.add_assoc _ _ _))⟩)))
  repeat (go_quiet (first | (go_at_call 41; (with_reducible refine (stringslite_Index.calls a0 a1 t125 _ A3.out).mono ?_); rintro e w' ⟨rfl, ⟨nd, rfl⟩⟩; (try first | exact ⟨rfl, _, World.drewN_drewN _ _ _⟩ | exact ⟨rfl, _, Eq.trans (World.drewN_drewN _ _ _) (congrArg (World.drewN _) (Nat.add_assoc _ _ _))⟩))); try go_wp2_with (first | (go_at_call 41; (with_reducible refine (stringslite_Index.calls a0 a1 t125 _ A3.out).mono ?_); rintro e w' ⟨rfl, ⟨nd, rfl⟩⟩; (try first | exact ⟨rfl, _, World.drewN_drewN _ _ _⟩ | exact ⟨rfl, _, Eq.trans (World.drewN_drewN _ _ _) (congrArg (World.drewN _) (Nat.add_assoc _ _ _))⟩))))
  go_ret3
  exact ⟨by first | rfl | (simp; done) | (simp [*]; done), by repeat (first | exact Drawn0.refl _ | apply Drawn0.step)⟩

/-! ### strings_Cut: function 47 -/
def strings_Cut.f (a0 : ByteArray) (a1 : ByteArray) : Option (ByteArray × ByteArray × Bool) := (stringslite_Cut.f a0 a1).bind fun bt126 => (some (bt126.1, bt126.2.1, bt126.2.2))
theorem strings_Cut.calls (a0 : ByteArray) (a1 : ByteArray) (r1 : ByteArray) (r2 : ByteArray) (r3 : Bool) (w : World) (h : strings_Cut.f a0 a1 = some (r1, r2, r3)) :
  Calls Tryd.prog 47 #[.string a0, .string a1] w fun e w' => e = .returned (.tuple #[.string r1, .string r2, .bool r3]) ∧ Drawn0 w w' := by
 have H : ((stringslite_Cut.f a0 a1).bind fun bt126 => (some (bt126.1, bt126.2.1, bt126.2.2))) = some (r1, r2, r3) := h
 clear h
 replace H := Option.bind_eq_some_iff.mp H
 obtain ⟨⟨t126, t127, t128⟩, A30, H⟩ := H
 replace H : (some (t126, t127, t128)) = some (r1, r2, r3) := H
 have A3 := Aside0.mk A30
 clear A30
 simp only [Option.some.injEq, Prod.mk.injEq] at H
 obtain ⟨rfl, rfl, rfl⟩ := H
 go_enter Tryd.func47, Tryd.ntmps47
 go_wp2_with (first | ((with_reducible refine gate_callee (f := 59) rfl ?_); refine goesL_ (some 9) rfl rfl Tryd.func59 (by kernel_rfl) rfl #[.string a0, .string a1] rfl (by (try simp only [List.map_toArray, List.map_cons, List.map_nil]); first | done | rfl | (simp only [List.length_drop, List.length_take]; rfl)) ?_; (with_reducible refine (stringslite_Cut.calls a0 a1 t126 t127 t128 _ A3.out).mono ?_); rintro e w' ⟨rfl, ⟨nd, rfl⟩⟩; refine ⟨_, rfl, ?_⟩))
 go_ret3
 exact ⟨by first | rfl | (simp; done) | (simp [*]; done), by repeat (first | exact Drawn0.refl _ | apply Drawn0.step)⟩

end Go.Proofs.YteaehlkpghpnkaaDoor.PH
