/- What the law MshKnown walks through: a walk; the values of its calls are its premises. -/
import Derived.Test.YtcjcaojgminjpaaDoorPAx7
import Derived.Test.YtcjcaojgminjpaaDoorPAx8
import Derived.Test.YtcjcaojgminjpaaDoorVers
import Derived.Test.YtcjcaojgminjpaaDoorStr
import Derived.WalkKit
import Derived.BigCall
import Derived.RangeFuncBox
import Derived.Deep.RegionHeld3
namespace Go.Proofs.YtcjcaojgminjpaaDoor
open Go Go.RowKit Go.Proofs.YtcjcaojgminjpaaDoor.PA Go.Proofs.YtcjcaojgminjpaaDoorW.PrintWords Go.Proofs.YtcjcaojgminjpaaDoorW.PrintLast Go.Proofs.YtcjcaojgminjpaaDoorW.PrintMore
set_option linter.unusedVariables false
def procL : List ByteArray := [(⟨#[80]⟩ : ByteArray), (⟨#[68]⟩ : ByteArray), (⟨#[84]⟩ : ByteArray)]
section
variable {P : Program} {ops : Array Oper} {Q : Exit → Act → World → Prop} {md : Region.Mode}
theorem last_more {S S' : World → Prop} (hi : ∀ w, S' w → S w) : ∀ (fuel : Nat) (l : Array Bool) (a : Act) (w : World), S' w → wpAnyLast P md ops Q S' [] fuel l a w → wpAnyLast P md ops Q S [] fuel l a w
  | 0, _, _, _, _, h => h
  | fuel + 1, _, _, _, hs, h => ⟨h.1, fun i hm => wpOp_mono (fun a' w' h' => ⟨fun _ _ => hi _ (h'.1 (by simp) hs), last_more hi fuel _ a' w' (h'.1 (by simp) hs) h'.2⟩) (h.2 i hm)⟩
end
set_option maxHeartbeats 16000000 in
set_option maxRecDepth 100000 in
theorem known_walk (k : Nat) (a b : Int) (more : ByteArray) (w : World) (ha : 0 ≤ a ∧ a ≤ 255) (hb : 0 ≤ b ∧ b ≤ 255) (hG : GlobOK w) (hal : lamplighterlaw09_alive.f k = some true)
    (hK : more.size ≤ 300 → ∃ v p : ByteArray, v.size ≤ 10 ∧ p.size ≤ 10 ∧ rdOf ByteArray.empty versL (Int.tmod a 10) = v ∧ rdOf ByteArray.empty procL (Int.tmod b 3) = p ∧ 
      msh_Check.f k 124 94 126 92 38 (⟨#[]⟩ : ByteArray) (⟨#[]⟩ : ByteArray) (⟨#[]⟩ : ByteArray) (⟨#[]⟩ : ByteArray) (⟨#[]⟩ : ByteArray) (⟨#[]⟩ : ByteArray) (⟨#[65, 68, 84]⟩ : ByteArray) (⟨#[49]⟩ : ByteArray) p v = some 0 ∧ msh_Check.f k 124 94 126 92 38 (⟨#[]⟩ : ByteArray) (⟨#[]⟩ : ByteArray) (⟨#[]⟩ : ByteArray) (⟨#[]⟩ : ByteArray) (⟨#[]⟩ : ByteArray) (⟨#[]⟩ : ByteArray) (⟨#[65, 68, 84]⟩ : ByteArray) (⟨#[49]⟩ : ByteArray) ((p ++ (⟨#[94]⟩ : ByteArray)) ++ more) ((v ++ (⟨#[94]⟩ : ByteArray)) ++ more) = some 0 ∧ msh_Check.f k 124 94 126 92 38 (⟨#[]⟩ : ByteArray) (⟨#[]⟩ : ByteArray) (⟨#[]⟩ : ByteArray) (⟨#[]⟩ : ByteArray) (⟨#[]⟩ : ByteArray) (⟨#[]⟩ : ByteArray) (⟨#[65, 68, 84]⟩ : ByteArray) (⟨#[49]⟩ : ByteArray) p (v ++ (⟨#[120]⟩ : ByteArray)) = some 12 ∧ msh_Check.f k 124 94 126 92 38 (⟨#[]⟩ : ByteArray) (⟨#[]⟩ : ByteArray) (⟨#[]⟩ : ByteArray) (⟨#[]⟩ : ByteArray) (⟨#[]⟩ : ByteArray) (⟨#[]⟩ : ByteArray) (⟨#[65, 68, 84]⟩ : ByteArray) (⟨#[49]⟩ : ByteArray) p (⟨#[]⟩ : ByteArray) = some 12 ∧ msh_Check.f k 124 94 126 92 38 (⟨#[]⟩ : ByteArray) (⟨#[]⟩ : ByteArray) (⟨#[]⟩ : ByteArray) (⟨#[]⟩ : ByteArray) (⟨#[]⟩ : ByteArray) (⟨#[]⟩ : ByteArray) (⟨#[65, 68, 84]⟩ : ByteArray) (⟨#[49]⟩ : ByteArray) (⟨#[80, 68]⟩ : ByteArray) v = some 13) :
    Calls Tryd.prog 6 #[.int .u8 a, .int .u8 b, .string more] w fun e w' => e = .returned (.bool true) ∧ Below w.heap.size w w' := by
  have HG := Lib.hid hG
  have HKK := Lib.hid hK
  clear hG hK
  go_enter Tryd.func6, Tryd.ntmps6
  go_wp2_with fail
  refine (versions_calls _ HG.out).mono ?_
  rintro e w1 ⟨v0, rfl, hRow, hb1⟩
  have HB := Lib.hid (below_step (Below.refl w.heap.size w) hb1)
  obtain ⟨A0, c0, e0⟩ := Kd.R_slice hRow
  subst e0
  have hl10 : versL.length = 10 := rfl
  rw [hl10] at hRow ⊢
  have HROW := Lib.hid hRow
  clear hRow hb1
  go_wp2_with fail
  refine (lamplighterlaw09_alive.calls k true _ hal (glob_below HG.out HB.out)).mono ?_
  rintro e w2 ⟨rfl, hb2⟩
  have HB2 := Lib.hid (below_step HB.out hb2)
  have HROW2 := Lib.hid (Kd.R_below HROW.out hb2)
  clear HB HROW hb2
  by_cases q3 : 300 < (more.size : Int)
  · go_wp2_with fail
    refine (lamplighterlaw09_alive.calls k true _ hal (glob_below HG.out HB2.out)).mono ?_
    rintro e w3 ⟨rfl, hb3⟩
    have HB3 := Lib.hid (below_step HB2.out hb3)
    clear hb3
    go_wp2_with fail
    go_ret
    exact ⟨rfl, HB3.out⟩
  · obtain ⟨v, p, hv10, hp10, hv, hp, k1, k2, k3, k4, k5⟩ := HKK.out (by omega)
    have K1 := Lib.hid k1
    have K2 := Lib.hid k2
    have K3 := Lib.hid k3
    have K4 := Lib.hid k4
    have K5 := Lib.hid k5
    clear k1 k2 k3 k4 k5 HKK
    have t0 : 0 ≤ Int.tmod a 10 := Int.tmod_nonneg _ ha.1
    have t1 : Int.tmod a 10 < 10 := Int.tmod_lt_of_pos a (by decide)
    have s0 : 0 ≤ Int.tmod b 3 := Int.tmod_nonneg _ hb.1
    have s1 : Int.tmod b 3 < 3 := Int.tmod_lt_of_pos b (by decide)
    have HV := Lib.hid hv
    have HP := Lib.hid hp
    obtain ⟨i, hi⟩ := Int.eq_ofNat_of_zero_le t0
    obtain ⟨j, hj⟩ := Int.eq_ofNat_of_zero_le s0
    have HI := Lib.hid hi
    have HJ := Lib.hid hj
    rw [hi] at hv t0 t1
    rw [hj] at hp s0 s1
    obtain ⟨ad, had, hcells⟩ := (Kd.reads_of_C (enc := Value.string) (d := ByteArray.empty) (h1 := fun _ => rfl) (Kd.R_reads' HROW2.out).2.2).2.2 (by decide)
    subst had
    have hci : w2.cell? (ad.add i) = some (.string v) := by
      rw [hcells i (by show i < 10; omega), ← hv]
      rfl
    clear hcells hv
    go_wp2_with fail
    have f1 : IntKind.i64.wrap a = a := by rw [i64_w]; exact wrap_fit (by omega) (by omega)
    have f2 : IntKind.i64.wrap (a.tmod 10) = (i : Int) := by rw [hi, i64_w]; exact wrap_fit (by omega) (by omega)
    have f3 : wrap64 a = a := wrap_fit (by omega) (by omega)
    have f4 : wrap64 (a.tmod 10) = (i : Int) := by rw [hi]; exact wrap_fit (by omega) (by omega)
    have f5 : (i : Int) < 10 := by omega
    have f6 : (j : Int) < 3 := by omega
    have f7 : (0 : Int) ≤ (i : Int) := by omega
    have f8 : (0 : Int) ≤ (j : Int) := by omega
    refine start_ (n := 15) (S := fun w' => w'.cell? (ad.add i) = some (.string v)) (ds := []) #[false, false, false, false, false, false, false, false, false, false, false, false, false, false, false] (by kernel_rfl) rfl rfl (hci) (fun hHeld => ?_)
    refine pure_ (i := 0) (N := some 31) (v := ?_) (a' := ?_) #[true, false, false, false, false, false, false, false, false, false, false, false, false, false, false] rfl rfl (by kernel_rfl) (fun _ _ _ h => h) (Or.inl ⟨by rfl, ?_⟩) ?_ ?_
    rotate_left
    · intro w'
      go_simp
      with_reducible rfl
    rotate_left
    · simp only [Act.put, List.setIfInBounds_toArray, List.set_cons_zero, List.set_cons_succ]
      rfl
    refine pure_ (i := 1) (N := some 32) (v := ?_) (a' := ?_) #[true, true, false, false, false, false, false, false, false, false, false, false, false, false, false] rfl rfl (by kernel_rfl) (fun _ _ _ h => h) (Or.inl ⟨by rfl, ?_⟩) ?_ ?_
    rotate_left
    · intro w'
      go_simp
      with_reducible rfl
    rotate_left
    · simp only [Act.put, List.setIfInBounds_toArray, List.set_cons_zero, List.set_cons_succ]
      rfl
    refine pure_ (i := 2) (N := some 33) (v := ?_) (a' := ?_) #[true, true, true, false, false, false, false, false, false, false, false, false, false, false, false] rfl rfl (by kernel_rfl) (fun _ _ _ h => h) (Or.inl ⟨by rfl, ?_⟩) ?_ ?_
    rotate_left
    · intro w'
      go_simp
      with_reducible rfl
    rotate_left
    · simp only [Act.put, List.setIfInBounds_toArray, List.set_cons_zero, List.set_cons_succ]
      rfl
    refine pure_ (i := 3) (N := some 34) (v := ?_) (a' := ?_) #[true, true, true, true, false, false, false, false, false, false, false, false, false, false, false] rfl rfl (by kernel_rfl) (fun _ _ _ h => h) (Or.inl ⟨by rfl, ?_⟩) ?_ ?_
    rotate_left
    · intro w'
      go_simp
      with_reducible rfl
    rotate_left
    · simp only [Act.put, List.setIfInBounds_toArray, List.set_cons_zero, List.set_cons_succ]
      rfl
    refine pure_ (i := 4) (N := some 35) (v := ?_) (a' := ?_) #[true, true, true, true, true, false, false, false, false, false, false, false, false, false, false] rfl rfl (by kernel_rfl) (fun _ _ _ h => h) (Or.inl ⟨by rfl, ?_⟩) ?_ ?_
    rotate_left
    · intro w'
      go_simp
      with_reducible rfl
    rotate_left
    · simp only [Act.put, List.setIfInBounds_toArray, List.set_cons_zero, List.set_cons_succ]
      rfl
    refine pure_ (i := 5) (N := some 36) (v := ?_) (a' := ?_) #[true, true, true, true, true, true, false, false, false, false, false, false, false, false, false] rfl rfl (by kernel_rfl) (fun _ _ _ h => h) (Or.inl ⟨by rfl, ?_⟩) ?_ ?_
    rotate_left
    · intro w'
      go_simp
      with_reducible rfl
    rotate_left
    · simp only [Act.put, List.setIfInBounds_toArray, List.set_cons_zero, List.set_cons_succ]
      rfl
    refine pure_ (i := 6) (N := some 37) (v := ?_) (a' := ?_) #[true, true, true, true, true, true, true, false, false, false, false, false, false, false, false] rfl rfl (by kernel_rfl) (fun _ _ _ h => h) (Or.inl ⟨by rfl, ?_⟩) ?_ ?_
    rotate_left
    · intro w'
      go_simp
      with_reducible rfl
    rotate_left
    · simp only [Act.put, List.setIfInBounds_toArray, List.set_cons_zero, List.set_cons_succ]
      rfl
    refine take_ (i := 7) (N := some 38) (v := ?_) (a' := ?_) #[true, true, true, true, true, true, true, true, false, false, false, false, false, false, false] rfl rfl (by kernel_rfl) (fun _ _ _ h => h) (Or.inl ⟨by rfl, ?_⟩) hHeld ?_ ?_
    rotate_left
    · intro w' hs
      go_simp
      with_reducible rfl
    rotate_left
    · simp only [Act.put, List.setIfInBounds_toArray, List.set_cons_zero, List.set_cons_succ]
      rfl
    refine pure_ (i := 9) (N := some 40) (v := ?_) (a' := ?_) #[true, true, true, true, true, true, true, true, false, true, false, false, false, false, false] rfl rfl (by kernel_rfl) (fun _ _ _ h => h) (Or.inl ⟨by rfl, ?_⟩) ?_ ?_
    rotate_left
    · intro w'
      go_simp
      with_reducible rfl
    rotate_left
    · simp only [Act.put, List.setIfInBounds_toArray, List.set_cons_zero, List.set_cons_succ]
      rfl
    refine pure_ (i := 10) (N := some 41) (v := ?_) (a' := ?_) #[true, true, true, true, true, true, true, true, false, true, true, false, false, false, false] rfl rfl (by kernel_rfl) (fun _ _ _ h => h) (Or.inl ⟨by rfl, ?_⟩) ?_ ?_
    rotate_left
    · intro w'
      go_simp
      with_reducible rfl
    rotate_left
    · simp only [Act.put, List.setIfInBounds_toArray, List.set_cons_zero, List.set_cons_succ]
      rfl
    refine pure_ (i := 13) (N := some 8) (v := ?_) (a' := ?_) #[true, true, true, true, true, true, true, true, false, true, true, false, false, true, false] rfl rfl (by kernel_rfl) (fun _ _ _ h => h) (Or.inl ⟨by rfl, ?_⟩) ?_ ?_
    rotate_left
    · intro w'
      go_simp
      with_reducible rfl
    rotate_left
    · simp only [Act.put, List.setIfInBounds_toArray, List.set_cons_zero, List.set_cons_succ]
      rfl
    refine one_ (i := 8) (N := some 39) #[true, true, true, true, true, true, true, true, true, true, true, false, false, true, false] rfl rfl (by kernel_rfl) (by decide) (fun K hK => ?_)
    rw [if_pos (by rfl)]
    unfold Oper.wp
    go_simp
    refine hK.out _ _ (cell_alloc_old _ hHeld) (fun hHeld => ?_)
    clear hK K
    have hnew : (w2.alloc (.cells #[.string ⟨#[80]⟩, .string ⟨#[68]⟩, .string ⟨#[84]⟩] 9)).drew.cell? ⟨w2.heap.size, j, none⟩ = some (.string p) := by
      have h := cell_of_cells (heap_new w2 (.cells #[.string ⟨#[80]⟩, .string ⟨#[68]⟩, .string ⟨#[84]⟩] 9)) j
      have h2 : (#[Value.string ⟨#[80]⟩, .string ⟨#[68]⟩, .string ⟨#[84]⟩] : Array Value)[j]? = some (.string p) := by
        rw [← hp]
        have hj3 : j = 0 ∨ j = 1 ∨ j = 2 := by omega
        rcases hj3 with rfl | rfl | rfl <;> rfl
      exact h.trans h2
    refine last_more (S' := fun w' => w'.cell? (ad.add i) = some (.string v) ∧ w'.cell? ⟨w2.heap.size, j, none⟩ = some (.string p)) (fun _ h => h.1) _ _ _ _ ⟨hHeld, hnew⟩ ?_
    have hHeld := And.intro hHeld hnew
    refine pure_ (i := 11) (N := some 42) (v := ?_) (a' := ?_) #[true, true, true, true, true, true, true, true, true, true, true, true, false, true, false] rfl rfl (by kernel_rfl) (fun _ _ _ h => h) (Or.inl ⟨by rfl, ?_⟩) ?_ ?_
    rotate_left
    · intro w'
      go_simp
      with_reducible rfl
    rotate_left
    · simp only [Act.put, List.setIfInBounds_toArray, List.set_cons_zero, List.set_cons_succ]
      rfl
    refine take_ (i := 12) (N := some 43) (v := ?_) (a' := ?_) #[true, true, true, true, true, true, true, true, true, true, true, true, true, true, false] rfl rfl (by kernel_rfl) (fun _ _ _ h => h) (Or.inl ⟨by rfl, ?_⟩) hHeld ?_ ?_
    rotate_left
    · intro w' hs
      obtain ⟨hs1, hs2⟩ := hs
      go_simp
      with_reducible rfl
    rotate_left
    · simp only [Act.put, List.setIfInBounds_toArray, List.set_cons_zero, List.set_cons_succ]
      rfl
    refine pure_ (i := 14) (N := some 9) (v := ?_) (a' := ?_) #[true, true, true, true, true, true, true, true, true, true, true, true, true, true, true] rfl rfl (by kernel_rfl) (fun _ _ _ h => h) (Or.inl ⟨by rfl, ?_⟩) ?_ ?_
    rotate_left
    · intro w'
      go_simp
      with_reducible rfl
    rotate_left
    · simp only [Act.put, List.setIfInBounds_toArray, List.set_cons_zero, List.set_cons_succ]
      rfl
    refine done_ (by kernel_rfl) ?_
    have HB3 := Lib.hid (below_drew1 (HB2.out.alloc HB2.out.size (.cells #[.string ⟨#[80]⟩, .string ⟨#[68]⟩, .string ⟨#[84]⟩] 9)))
    clear hHeld hnew hci HROW2 HB2 f1 f2 f3 f4 f5 f6 f7 f8 hi hj t0 t1 s0 s1
    generalize (w2.alloc (.cells #[.string ⟨#[80]⟩, .string ⟨#[68]⟩, .string ⟨#[84]⟩] 9)).drew = w3 at HB3 ⊢
    generalize w2.heap.size = gp
    go_wp2_with fail
    have HZ := Lib.hid (heap_new w3 (.cells #[.int .u8 124, .int .u8 94, .int .u8 126, .int .u8 92, .int .u8 38, .string (⟨#[]⟩ : ByteArray), .string (⟨#[]⟩ : ByteArray), .string (⟨#[]⟩ : ByteArray), .string (⟨#[]⟩ : ByteArray), .string (⟨#[]⟩ : ByteArray), .string (⟨#[]⟩ : ByteArray), .string (⟨#[65, 68, 84]⟩ : ByteArray), .string (⟨#[49]⟩ : ByteArray), .string p, .string v] 25))
    have HB4 := Lib.hid (HB3.out.alloc HB3.out.size (.cells #[.int .u8 124, .int .u8 94, .int .u8 126, .int .u8 92, .int .u8 38, .string (⟨#[]⟩ : ByteArray), .string (⟨#[]⟩ : ByteArray), .string (⟨#[]⟩ : ByteArray), .string (⟨#[]⟩ : ByteArray), .string (⟨#[]⟩ : ByteArray), .string (⟨#[]⟩ : ByteArray), .string (⟨#[65, 68, 84]⟩ : ByteArray), .string (⟨#[49]⟩ : ByteArray), .string p, .string v] 25))
    clear HB3
    generalize w3.alloc (.cells #[.int .u8 124, .int .u8 94, .int .u8 126, .int .u8 92, .int .u8 38, .string (⟨#[]⟩ : ByteArray), .string (⟨#[]⟩ : ByteArray), .string (⟨#[]⟩ : ByteArray), .string (⟨#[]⟩ : ByteArray), .string (⟨#[]⟩ : ByteArray), .string (⟨#[]⟩ : ByteArray), .string (⟨#[65, 68, 84]⟩ : ByteArray), .string (⟨#[49]⟩ : ByteArray), .string p, .string v] 25) = w4 at HZ HB4 ⊢
    generalize w3.heap.size = gh at HZ ⊢
    refine start_ (n := 6) (S := fun w' => w'.heap[gh]? = some (.cells #[.int .u8 124, .int .u8 94, .int .u8 126, .int .u8 92, .int .u8 38, .string (⟨#[]⟩ : ByteArray), .string (⟨#[]⟩ : ByteArray), .string (⟨#[]⟩ : ByteArray), .string (⟨#[]⟩ : ByteArray), .string (⟨#[]⟩ : ByteArray), .string (⟨#[]⟩ : ByteArray), .string (⟨#[65, 68, 84]⟩ : ByteArray), .string (⟨#[49]⟩ : ByteArray), .string p, .string v] 25 (0, 0))) (ds := []) #[false, false, false, false, false, false] (by kernel_rfl) rfl rfl (blk_drew HZ.out) (fun hHeld => ?_)
    refine take_ (i := 0) (N := some 48) (v := ?_) (a' := ?_) #[true, false, false, false, false, false] rfl rfl (by kernel_rfl) (fun _ _ _ h => h) (Or.inl ⟨by rfl, ?_⟩) hHeld ?_ ?_
    rotate_left
    · intro w' hs
      have e0 := cell_of_cells hs 0
      have e1 := cell_of_cells hs 1
      have e2 := cell_of_cells hs 2
      have e3 := cell_of_cells hs 3
      have e4 := cell_of_cells hs 4
      have e5 := cell_of_cells hs 5
      have e6 := cell_of_cells hs 6
      have e7 := cell_of_cells hs 7
      have e8 := cell_of_cells hs 8
      have e9 := cell_of_cells hs 9
      have e10 := cell_of_cells hs 10
      have e11 := cell_of_cells hs 11
      have e12 := cell_of_cells hs 12
      have e13 := cell_of_cells hs 13
      have e14 := cell_of_cells hs 14
      simp only [List.getElem?_toArray, List.getElem?_cons_zero, List.getElem?_cons_succ] at e0 e1 e2 e3 e4 e5 e6 e7 e8 e9 e10 e11 e12 e13 e14
      go_simp
      with_reducible rfl
    rotate_left
    · simp only [Act.put, List.setIfInBounds_toArray, List.set_cons_zero, List.set_cons_succ]
      rfl
    refine take_ (i := 1) (N := some 49) (v := ?_) (a' := ?_) #[true, true, false, false, false, false] rfl rfl (by kernel_rfl) (fun _ _ _ h => h) (Or.inl ⟨by rfl, ?_⟩) hHeld ?_ ?_
    rotate_left
    · intro w' hs
      have e0 := cell_of_cells hs 0
      have e1 := cell_of_cells hs 1
      have e2 := cell_of_cells hs 2
      have e3 := cell_of_cells hs 3
      have e4 := cell_of_cells hs 4
      have e5 := cell_of_cells hs 5
      have e6 := cell_of_cells hs 6
      have e7 := cell_of_cells hs 7
      have e8 := cell_of_cells hs 8
      have e9 := cell_of_cells hs 9
      have e10 := cell_of_cells hs 10
      have e11 := cell_of_cells hs 11
      have e12 := cell_of_cells hs 12
      have e13 := cell_of_cells hs 13
      have e14 := cell_of_cells hs 14
      simp only [List.getElem?_toArray, List.getElem?_cons_zero, List.getElem?_cons_succ] at e0 e1 e2 e3 e4 e5 e6 e7 e8 e9 e10 e11 e12 e13 e14
      go_simp
      with_reducible rfl
    rotate_left
    · simp only [Act.put, List.setIfInBounds_toArray, List.set_cons_zero, List.set_cons_succ]
      rfl
    refine two_ (i := 2) (j := 3) (Ni := some 11) (Nj := some 12) #[true, true, true, false, false, false] #[true, true, false, true, false, false] rfl rfl rfl rfl (by kernel_rfl) (by decide) (by decide) (fun K hK => ?_) (fun K hK => ?_)
    · rw [if_pos (by rfl)]
      unfold Oper.wp
      go_simp
      refine hK.out _ _ (heap_old _ hHeld) (fun hHeld => ?_)
      clear hK K
      refine one_ (i := 3) (N := some 12) #[true, true, true, true, false, false] rfl rfl (by kernel_rfl) (by decide) (fun K hK => ?_)
      rw [if_pos (by rfl)]
      unfold Oper.wp
      go_simp
      refine hK.out _ _ (heap_old _ hHeld) (fun hHeld => ?_)
      clear hK K
      refine one_ (i := 4) (N := none) #[true, true, true, true, true, false] rfl rfl (by kernel_rfl) (by decide) (fun K hK => ?_)
      rw [if_pos (by rfl)]
      unfold Oper.wp
      go_simp
      refine hK.out _ _ (by repeat (first | exact HZ.out | refine blk_drew ?_ | refine heap_old _ ?_)) (fun hHeld => ?_)
      clear hK K
      refine one_ (i := 5) (N := none) #[true, true, true, true, true, true] rfl rfl (by kernel_rfl) (by decide) (fun K hK => ?_)
      rw [if_pos (by rfl)]
      unfold Oper.wp
      go_simp
      refine hK.out _ _ (by repeat (first | exact HZ.out | refine blk_drew ?_ | refine heap_old _ ?_)) (fun hHeld => ?_)
      clear hK K
      refine done_ (by kernel_rfl) ?_
      clear hHeld
      as_aux_lemma =>
        have hv1 : v.size + 1 ≤ 9223372036854775807 := by omega
        have hp1 : p.size + 1 ≤ 9223372036854775807 := by omega
        have hg0 := fun (X Y : Obj) => blk_drew (heap_old Y (heap_old X HZ.out))
        have g0 := fun (X Y : Obj) => cell_of_cells (hg0 X Y) 0
        have g1 := fun (X Y : Obj) => cell_of_cells (hg0 X Y) 1
        have g2 := fun (X Y : Obj) => cell_of_cells (hg0 X Y) 2
        have g3 := fun (X Y : Obj) => cell_of_cells (hg0 X Y) 3
        have g4 := fun (X Y : Obj) => cell_of_cells (hg0 X Y) 4
        have g5 := fun (X Y : Obj) => cell_of_cells (hg0 X Y) 5
        have g6 := fun (X Y : Obj) => cell_of_cells (hg0 X Y) 6
        have g7 := fun (X Y : Obj) => cell_of_cells (hg0 X Y) 7
        have g8 := fun (X Y : Obj) => cell_of_cells (hg0 X Y) 8
        have g9 := fun (X Y : Obj) => cell_of_cells (hg0 X Y) 9
        have g10 := fun (X Y : Obj) => cell_of_cells (hg0 X Y) 10
        have g11 := fun (X Y : Obj) => cell_of_cells (hg0 X Y) 11
        have g12 := fun (X Y : Obj) => cell_of_cells (hg0 X Y) 12
        have g13 := fun (X Y : Obj) => cell_of_cells (hg0 X Y) 13
        have g14 := fun (X Y : Obj) => cell_of_cells (hg0 X Y) 14
        simp only [List.getElem?_toArray, List.getElem?_cons_zero, List.getElem?_cons_succ] at g0 g1 g2 g3 g4 g5 g6 g7 g8 g9 g10 g11 g12 g13 g14
        clear hg0
        go_wp2_with fail
        clear g0 g1 g2 g3 g4 g5 g6 g7 g8 g9 g10 g11 g12 g13 g14
        have zo := blk_drew (heap_old (.cells #[.int .u8 124, .int .u8 94, .int .u8 126, .int .u8 92, .int .u8 38, .string (⟨#[]⟩ : ByteArray), .string (⟨#[]⟩ : ByteArray), .string (⟨#[]⟩ : ByteArray), .string (⟨#[]⟩ : ByteArray), .string (⟨#[]⟩ : ByteArray), .string (⟨#[]⟩ : ByteArray), .string (⟨#[65, 68, 84]⟩ : ByteArray), .string (⟨#[49]⟩ : ByteArray), .string p, .string v] 25) (heap_new w4 (.cells #[.int .u8 124, .int .u8 94, .int .u8 126, .int .u8 92, .int .u8 38, .string (⟨#[]⟩ : ByteArray), .string (⟨#[]⟩ : ByteArray), .string (⟨#[]⟩ : ByteArray), .string (⟨#[]⟩ : ByteArray), .string (⟨#[]⟩ : ByteArray), .string (⟨#[]⟩ : ByteArray), .string (⟨#[65, 68, 84]⟩ : ByteArray), .string (⟨#[49]⟩ : ByteArray), .string ((p ++ (⟨#[94]⟩ : ByteArray)) ++ more), .string ((v ++ (⟨#[94]⟩ : ByteArray)) ++ more)] 25)))
        have zn := blk_drew (heap_new (w4.alloc (.cells #[.int .u8 124, .int .u8 94, .int .u8 126, .int .u8 92, .int .u8 38, .string (⟨#[]⟩ : ByteArray), .string (⟨#[]⟩ : ByteArray), .string (⟨#[]⟩ : ByteArray), .string (⟨#[]⟩ : ByteArray), .string (⟨#[]⟩ : ByteArray), .string (⟨#[]⟩ : ByteArray), .string (⟨#[65, 68, 84]⟩ : ByteArray), .string (⟨#[49]⟩ : ByteArray), .string ((p ++ (⟨#[94]⟩ : ByteArray)) ++ more), .string ((v ++ (⟨#[94]⟩ : ByteArray)) ++ more)] 25)) (.cells #[.int .u8 124, .int .u8 94, .int .u8 126, .int .u8 92, .int .u8 38, .string (⟨#[]⟩ : ByteArray), .string (⟨#[]⟩ : ByteArray), .string (⟨#[]⟩ : ByteArray), .string (⟨#[]⟩ : ByteArray), .string (⟨#[]⟩ : ByteArray), .string (⟨#[]⟩ : ByteArray), .string (⟨#[65, 68, 84]⟩ : ByteArray), .string (⟨#[49]⟩ : ByteArray), .string p, .string v] 25))
        rw [World.size_alloc] at zn
        have HB5 := Lib.hid (below_drew1 ((HB4.out.alloc HB4.out.size (.cells #[.int .u8 124, .int .u8 94, .int .u8 126, .int .u8 92, .int .u8 38, .string (⟨#[]⟩ : ByteArray), .string (⟨#[]⟩ : ByteArray), .string (⟨#[]⟩ : ByteArray), .string (⟨#[]⟩ : ByteArray), .string (⟨#[]⟩ : ByteArray), .string (⟨#[]⟩ : ByteArray), .string (⟨#[65, 68, 84]⟩ : ByteArray), .string (⟨#[49]⟩ : ByteArray), .string ((p ++ (⟨#[94]⟩ : ByteArray)) ++ more), .string ((v ++ (⟨#[94]⟩ : ByteArray)) ++ more)] 25)).alloc (HB4.out.alloc HB4.out.size (.cells #[.int .u8 124, .int .u8 94, .int .u8 126, .int .u8 92, .int .u8 38, .string (⟨#[]⟩ : ByteArray), .string (⟨#[]⟩ : ByteArray), .string (⟨#[]⟩ : ByteArray), .string (⟨#[]⟩ : ByteArray), .string (⟨#[]⟩ : ByteArray), .string (⟨#[]⟩ : ByteArray), .string (⟨#[65, 68, 84]⟩ : ByteArray), .string (⟨#[49]⟩ : ByteArray), .string ((p ++ (⟨#[94]⟩ : ByteArray)) ++ more), .string ((v ++ (⟨#[94]⟩ : ByteArray)) ++ more)] 25)).size (.cells #[.int .u8 124, .int .u8 94, .int .u8 126, .int .u8 92, .int .u8 38, .string (⟨#[]⟩ : ByteArray), .string (⟨#[]⟩ : ByteArray), .string (⟨#[]⟩ : ByteArray), .string (⟨#[]⟩ : ByteArray), .string (⟨#[]⟩ : ByteArray), .string (⟨#[]⟩ : ByteArray), .string (⟨#[65, 68, 84]⟩ : ByteArray), .string (⟨#[49]⟩ : ByteArray), .string p, .string v] 25)))
        have Z11 := Lib.hid zo
        have Z12 := Lib.hid zn
        clear zo zn
        generalize ((w4.alloc (.cells #[.int .u8 124, .int .u8 94, .int .u8 126, .int .u8 92, .int .u8 38, .string (⟨#[]⟩ : ByteArray), .string (⟨#[]⟩ : ByteArray), .string (⟨#[]⟩ : ByteArray), .string (⟨#[]⟩ : ByteArray), .string (⟨#[]⟩ : ByteArray), .string (⟨#[]⟩ : ByteArray), .string (⟨#[65, 68, 84]⟩ : ByteArray), .string (⟨#[49]⟩ : ByteArray), .string ((p ++ (⟨#[94]⟩ : ByteArray)) ++ more), .string ((v ++ (⟨#[94]⟩ : ByteArray)) ++ more)] 25)).alloc (.cells #[.int .u8 124, .int .u8 94, .int .u8 126, .int .u8 92, .int .u8 38, .string (⟨#[]⟩ : ByteArray), .string (⟨#[]⟩ : ByteArray), .string (⟨#[]⟩ : ByteArray), .string (⟨#[]⟩ : ByteArray), .string (⟨#[]⟩ : ByteArray), .string (⟨#[]⟩ : ByteArray), .string (⟨#[65, 68, 84]⟩ : ByteArray), .string (⟨#[49]⟩ : ByteArray), .string p, .string v] 25)).drew = w5 at HB5 Z11 Z12 ⊢
        have hne : w4.heap.size ≠ (w4.heap.size + 1) := by omega
        have hle : w.heap.size ≤ (w4.heap.size + 1) := by have := HB4.out.size; omega
        generalize w4.heap.size + 1 = bn at Z11 Z12 hne hle ⊢
        generalize w4.heap.size = bo at Z11 Z12 hne hle ⊢
        have HLE := Lib.hid hle
        clear hle
        as_aux_lemma =>
          refine (msh_Check.calls k 124 94 126 92 38 (⟨#[]⟩ : ByteArray) (⟨#[]⟩ : ByteArray) (⟨#[]⟩ : ByteArray) (⟨#[]⟩ : ByteArray) (⟨#[]⟩ : ByteArray) (⟨#[]⟩ : ByteArray) (⟨#[65, 68, 84]⟩ : ByteArray) (⟨#[49]⟩ : ByteArray) p v 0 _ K1.out (glob_below HG.out HB5.out)).mono ?_
          rintro e w6 ⟨rfl, hb⟩
          have Y11 := Lib.hid (blk_below Z11.out hb)
          have Y12 := Lib.hid (blk_below Z12.out hb)
          have HB6 := Lib.hid (below_step HB5.out hb)
          clear hb Z11 Z12 HB5
          have e0 := cell_of_cells Y11.out 0
          have e1 := cell_of_cells Y11.out 1
          have e2 := cell_of_cells Y11.out 2
          have e3 := cell_of_cells Y11.out 3
          have e4 := cell_of_cells Y11.out 4
          have e5 := cell_of_cells Y11.out 5
          have e6 := cell_of_cells Y11.out 6
          have e7 := cell_of_cells Y11.out 7
          have e8 := cell_of_cells Y11.out 8
          have e9 := cell_of_cells Y11.out 9
          have e10 := cell_of_cells Y11.out 10
          have e11 := cell_of_cells Y11.out 11
          have e12 := cell_of_cells Y11.out 12
          have e13 := cell_of_cells Y11.out 13
          have e14 := cell_of_cells Y11.out 14
          simp only [List.getElem?_toArray, List.getElem?_cons_zero, List.getElem?_cons_succ] at e0 e1 e2 e3 e4 e5 e6 e7 e8 e9 e10 e11 e12 e13 e14
          go_wp2_with fail
          clear e0 e1 e2 e3 e4 e5 e6 e7 e8 e9 e10 e11 e12 e13 e14
          as_aux_lemma =>
            refine (msh_Check.calls k 124 94 126 92 38 (⟨#[]⟩ : ByteArray) (⟨#[]⟩ : ByteArray) (⟨#[]⟩ : ByteArray) (⟨#[]⟩ : ByteArray) (⟨#[]⟩ : ByteArray) (⟨#[]⟩ : ByteArray) (⟨#[65, 68, 84]⟩ : ByteArray) (⟨#[49]⟩ : ByteArray) ((p ++ (⟨#[94]⟩ : ByteArray)) ++ more) ((v ++ (⟨#[94]⟩ : ByteArray)) ++ more) 0 _ K2.out (glob_below HG.out HB6.out)).mono ?_
            rintro e w7 ⟨rfl, hb⟩
            have Z12 := Lib.hid (blk_below Y12.out hb)
            have HB7 := Lib.hid (below_step HB6.out hb)
            clear hb Y11 Y12 HB6
            have hz := Z12.out
            have hlt := blk_lt hz
            have fz := blk_frozen Z12.out 14
            have fz2 := fun u => blk_frozen (blk_set Z12.out 14 u) 13
            have e0 := cell_of_cells Z12.out 0
            have e1 := cell_of_cells Z12.out 1
            have e2 := cell_of_cells Z12.out 2
            have e3 := cell_of_cells Z12.out 3
            have e4 := cell_of_cells Z12.out 4
            have e5 := cell_of_cells Z12.out 5
            have e6 := cell_of_cells Z12.out 6
            have e7 := cell_of_cells Z12.out 7
            have e8 := cell_of_cells Z12.out 8
            have e9 := cell_of_cells Z12.out 9
            have e10 := cell_of_cells Z12.out 10
            have e11 := cell_of_cells Z12.out 11
            have e12 := cell_of_cells Z12.out 12
            have e13 := cell_of_cells Z12.out 13
            have e14 := cell_of_cells Z12.out 14
            simp only [List.getElem?_toArray, List.getElem?_cons_zero, List.getElem?_cons_succ] at e0 e1 e2 e3 e4 e5 e6 e7 e8 e9 e10 e11 e12 e13 e14
            go_wp2_with fail
            clear e0 e1 e2 e3 e4 e5 e6 e7 e8 e9 e10 e11 e12 e13 e14
            have HBW := HB7
            have z0 := Z12.out
            have z1 := blk_set z0 14 (.string (v ++ (⟨#[120]⟩ : ByteArray)))
            simp only [List.setIfInBounds_toArray, List.set_cons_zero, List.set_cons_succ] at z1
            have X12 := Lib.hid z1
            have HBN := Lib.hid (show Below w.heap.size w (w7.setCell ⟨bn, 14, none⟩ (.string (v ++ (⟨#[120]⟩ : ByteArray)))) from (below_set HBW.out HLE.out))
            clear hz hlt fz fz2 z0 z1
            clear Z12 HB7 HBW
            as_aux_lemma =>
              refine (msh_Check.calls k 124 94 126 92 38 (⟨#[]⟩ : ByteArray) (⟨#[]⟩ : ByteArray) (⟨#[]⟩ : ByteArray) (⟨#[]⟩ : ByteArray) (⟨#[]⟩ : ByteArray) (⟨#[]⟩ : ByteArray) (⟨#[65, 68, 84]⟩ : ByteArray) (⟨#[49]⟩ : ByteArray) p (v ++ (⟨#[120]⟩ : ByteArray)) 12 _ K3.out (glob_below HG.out HBN.out)).mono ?_
              rintro e w8 ⟨rfl, hb⟩
              have Z12 := Lib.hid (blk_below X12.out hb)
              have HB8 := Lib.hid (below_step HBN.out hb)
              clear hb X12 HBN
              have hz := Z12.out
              have hlt := blk_lt hz
              have fz := blk_frozen Z12.out 14
              have fz2 := fun u => blk_frozen (blk_set Z12.out 14 u) 13
              have e0 := cell_of_cells Z12.out 0
              have e1 := cell_of_cells Z12.out 1
              have e2 := cell_of_cells Z12.out 2
              have e3 := cell_of_cells Z12.out 3
              have e4 := cell_of_cells Z12.out 4
              have e5 := cell_of_cells Z12.out 5
              have e6 := cell_of_cells Z12.out 6
              have e7 := cell_of_cells Z12.out 7
              have e8 := cell_of_cells Z12.out 8
              have e9 := cell_of_cells Z12.out 9
              have e10 := cell_of_cells Z12.out 10
              have e11 := cell_of_cells Z12.out 11
              have e12 := cell_of_cells Z12.out 12
              have e13 := cell_of_cells Z12.out 13
              have e14 := cell_of_cells Z12.out 14
              simp only [List.getElem?_toArray, List.getElem?_cons_zero, List.getElem?_cons_succ] at e0 e1 e2 e3 e4 e5 e6 e7 e8 e9 e10 e11 e12 e13 e14
              go_wp2_with fail
              clear e0 e1 e2 e3 e4 e5 e6 e7 e8 e9 e10 e11 e12 e13 e14
              have HBW := HB8
              have z0 := Z12.out
              have z1 := blk_set z0 14 (.string (⟨#[]⟩ : ByteArray))
              simp only [List.setIfInBounds_toArray, List.set_cons_zero, List.set_cons_succ] at z1
              have X12 := Lib.hid z1
              have HBN := Lib.hid (show Below w.heap.size w (w8.setCell ⟨bn, 14, none⟩ (.string (⟨#[]⟩ : ByteArray))) from (below_set HBW.out HLE.out))
              clear hz hlt fz fz2 z0 z1
              clear Z12 HB8 HBW
              as_aux_lemma =>
                refine (msh_Check.calls k 124 94 126 92 38 (⟨#[]⟩ : ByteArray) (⟨#[]⟩ : ByteArray) (⟨#[]⟩ : ByteArray) (⟨#[]⟩ : ByteArray) (⟨#[]⟩ : ByteArray) (⟨#[]⟩ : ByteArray) (⟨#[65, 68, 84]⟩ : ByteArray) (⟨#[49]⟩ : ByteArray) p (⟨#[]⟩ : ByteArray) 12 _ K4.out (glob_below HG.out HBN.out)).mono ?_
                rintro e w9 ⟨rfl, hb⟩
                have Z12 := Lib.hid (blk_below X12.out hb)
                have HB9 := Lib.hid (below_step HBN.out hb)
                clear hb X12 HBN
                have hz := Z12.out
                have hlt := blk_lt hz
                have fz := blk_frozen Z12.out 14
                have fz2 := fun u => blk_frozen (blk_set Z12.out 14 u) 13
                have e0 := cell_of_cells Z12.out 0
                have e1 := cell_of_cells Z12.out 1
                have e2 := cell_of_cells Z12.out 2
                have e3 := cell_of_cells Z12.out 3
                have e4 := cell_of_cells Z12.out 4
                have e5 := cell_of_cells Z12.out 5
                have e6 := cell_of_cells Z12.out 6
                have e7 := cell_of_cells Z12.out 7
                have e8 := cell_of_cells Z12.out 8
                have e9 := cell_of_cells Z12.out 9
                have e10 := cell_of_cells Z12.out 10
                have e11 := cell_of_cells Z12.out 11
                have e12 := cell_of_cells Z12.out 12
                have e13 := cell_of_cells Z12.out 13
                have e14 := cell_of_cells Z12.out 14
                simp only [List.getElem?_toArray, List.getElem?_cons_zero, List.getElem?_cons_succ] at e0 e1 e2 e3 e4 e5 e6 e7 e8 e9 e10 e11 e12 e13 e14
                go_wp2_with fail
                clear e0 e1 e2 e3 e4 e5 e6 e7 e8 e9 e10 e11 e12 e13 e14
                have HBW := HB9
                have z0 := Z12.out
                have z1 := blk_set z0 14 (.string v)
                have z2 := blk_set z1 13 (.string (⟨#[80, 68]⟩ : ByteArray))
                simp only [List.setIfInBounds_toArray, List.set_cons_zero, List.set_cons_succ] at z2
                have X12 := Lib.hid z2
                have HBN := Lib.hid (show Below w.heap.size w ((w9.setCell ⟨bn, 14, none⟩ (.string v)).setCell ⟨bn, 13, none⟩ (.string (⟨#[80, 68]⟩ : ByteArray))) from (below_set (below_set HBW.out HLE.out) HLE.out))
                clear hz hlt fz fz2 z0 z1 z2
                clear Z12 HB9 HBW
                as_aux_lemma =>
                  refine (msh_Check.calls k 124 94 126 92 38 (⟨#[]⟩ : ByteArray) (⟨#[]⟩ : ByteArray) (⟨#[]⟩ : ByteArray) (⟨#[]⟩ : ByteArray) (⟨#[]⟩ : ByteArray) (⟨#[]⟩ : ByteArray) (⟨#[65, 68, 84]⟩ : ByteArray) (⟨#[49]⟩ : ByteArray) (⟨#[80, 68]⟩ : ByteArray) v 13 _ K5.out (glob_below HG.out HBN.out)).mono ?_
                  rintro e w10 ⟨rfl, hb⟩
                  have HB10 := Lib.hid (below_step HBN.out hb)
                  clear hb X12 HBN
                  go_wp2_with fail
                  go_ret
                  exact ⟨rfl, HB10.out⟩
    · rw [if_pos (by rfl)]
      unfold Oper.wp
      go_simp
      refine hK.out _ _ (heap_old _ hHeld) (fun hHeld => ?_)
      clear hK K
      refine one_ (i := 2) (N := some 11) #[true, true, true, true, false, false] rfl rfl (by kernel_rfl) (by decide) (fun K hK => ?_)
      rw [if_pos (by rfl)]
      unfold Oper.wp
      go_simp
      refine hK.out _ _ (heap_old _ hHeld) (fun hHeld => ?_)
      clear hK K
      refine one_ (i := 4) (N := none) #[true, true, true, true, true, false] rfl rfl (by kernel_rfl) (by decide) (fun K hK => ?_)
      rw [if_pos (by rfl)]
      unfold Oper.wp
      go_simp
      refine hK.out _ _ (by repeat (first | exact HZ.out | refine blk_drew ?_ | refine heap_old _ ?_)) (fun hHeld => ?_)
      clear hK K
      refine one_ (i := 5) (N := none) #[true, true, true, true, true, true] rfl rfl (by kernel_rfl) (by decide) (fun K hK => ?_)
      rw [if_pos (by rfl)]
      unfold Oper.wp
      go_simp
      refine hK.out _ _ (by repeat (first | exact HZ.out | refine blk_drew ?_ | refine heap_old _ ?_)) (fun hHeld => ?_)
      clear hK K
      refine done_ (by kernel_rfl) ?_
      clear hHeld
      as_aux_lemma =>
        have hv1 : v.size + 1 ≤ 9223372036854775807 := by omega
        have hp1 : p.size + 1 ≤ 9223372036854775807 := by omega
        have hg0 := fun (X Y : Obj) => blk_drew (heap_old Y (heap_old X HZ.out))
        have g0 := fun (X Y : Obj) => cell_of_cells (hg0 X Y) 0
        have g1 := fun (X Y : Obj) => cell_of_cells (hg0 X Y) 1
        have g2 := fun (X Y : Obj) => cell_of_cells (hg0 X Y) 2
        have g3 := fun (X Y : Obj) => cell_of_cells (hg0 X Y) 3
        have g4 := fun (X Y : Obj) => cell_of_cells (hg0 X Y) 4
        have g5 := fun (X Y : Obj) => cell_of_cells (hg0 X Y) 5
        have g6 := fun (X Y : Obj) => cell_of_cells (hg0 X Y) 6
        have g7 := fun (X Y : Obj) => cell_of_cells (hg0 X Y) 7
        have g8 := fun (X Y : Obj) => cell_of_cells (hg0 X Y) 8
        have g9 := fun (X Y : Obj) => cell_of_cells (hg0 X Y) 9
        have g10 := fun (X Y : Obj) => cell_of_cells (hg0 X Y) 10
        have g11 := fun (X Y : Obj) => cell_of_cells (hg0 X Y) 11
        have g12 := fun (X Y : Obj) => cell_of_cells (hg0 X Y) 12
        have g13 := fun (X Y : Obj) => cell_of_cells (hg0 X Y) 13
        have g14 := fun (X Y : Obj) => cell_of_cells (hg0 X Y) 14
        simp only [List.getElem?_toArray, List.getElem?_cons_zero, List.getElem?_cons_succ] at g0 g1 g2 g3 g4 g5 g6 g7 g8 g9 g10 g11 g12 g13 g14
        clear hg0
        go_wp2_with fail
        clear g0 g1 g2 g3 g4 g5 g6 g7 g8 g9 g10 g11 g12 g13 g14
        have zo := blk_drew (heap_old (.cells #[.int .u8 124, .int .u8 94, .int .u8 126, .int .u8 92, .int .u8 38, .string (⟨#[]⟩ : ByteArray), .string (⟨#[]⟩ : ByteArray), .string (⟨#[]⟩ : ByteArray), .string (⟨#[]⟩ : ByteArray), .string (⟨#[]⟩ : ByteArray), .string (⟨#[]⟩ : ByteArray), .string (⟨#[65, 68, 84]⟩ : ByteArray), .string (⟨#[49]⟩ : ByteArray), .string ((p ++ (⟨#[94]⟩ : ByteArray)) ++ more), .string ((v ++ (⟨#[94]⟩ : ByteArray)) ++ more)] 25) (heap_new w4 (.cells #[.int .u8 124, .int .u8 94, .int .u8 126, .int .u8 92, .int .u8 38, .string (⟨#[]⟩ : ByteArray), .string (⟨#[]⟩ : ByteArray), .string (⟨#[]⟩ : ByteArray), .string (⟨#[]⟩ : ByteArray), .string (⟨#[]⟩ : ByteArray), .string (⟨#[]⟩ : ByteArray), .string (⟨#[65, 68, 84]⟩ : ByteArray), .string (⟨#[49]⟩ : ByteArray), .string p, .string v] 25)))
        have zn := blk_drew (heap_new (w4.alloc (.cells #[.int .u8 124, .int .u8 94, .int .u8 126, .int .u8 92, .int .u8 38, .string (⟨#[]⟩ : ByteArray), .string (⟨#[]⟩ : ByteArray), .string (⟨#[]⟩ : ByteArray), .string (⟨#[]⟩ : ByteArray), .string (⟨#[]⟩ : ByteArray), .string (⟨#[]⟩ : ByteArray), .string (⟨#[65, 68, 84]⟩ : ByteArray), .string (⟨#[49]⟩ : ByteArray), .string p, .string v] 25)) (.cells #[.int .u8 124, .int .u8 94, .int .u8 126, .int .u8 92, .int .u8 38, .string (⟨#[]⟩ : ByteArray), .string (⟨#[]⟩ : ByteArray), .string (⟨#[]⟩ : ByteArray), .string (⟨#[]⟩ : ByteArray), .string (⟨#[]⟩ : ByteArray), .string (⟨#[]⟩ : ByteArray), .string (⟨#[65, 68, 84]⟩ : ByteArray), .string (⟨#[49]⟩ : ByteArray), .string ((p ++ (⟨#[94]⟩ : ByteArray)) ++ more), .string ((v ++ (⟨#[94]⟩ : ByteArray)) ++ more)] 25))
        rw [World.size_alloc] at zn
        have HB5 := Lib.hid (below_drew1 ((HB4.out.alloc HB4.out.size (.cells #[.int .u8 124, .int .u8 94, .int .u8 126, .int .u8 92, .int .u8 38, .string (⟨#[]⟩ : ByteArray), .string (⟨#[]⟩ : ByteArray), .string (⟨#[]⟩ : ByteArray), .string (⟨#[]⟩ : ByteArray), .string (⟨#[]⟩ : ByteArray), .string (⟨#[]⟩ : ByteArray), .string (⟨#[65, 68, 84]⟩ : ByteArray), .string (⟨#[49]⟩ : ByteArray), .string p, .string v] 25)).alloc (HB4.out.alloc HB4.out.size (.cells #[.int .u8 124, .int .u8 94, .int .u8 126, .int .u8 92, .int .u8 38, .string (⟨#[]⟩ : ByteArray), .string (⟨#[]⟩ : ByteArray), .string (⟨#[]⟩ : ByteArray), .string (⟨#[]⟩ : ByteArray), .string (⟨#[]⟩ : ByteArray), .string (⟨#[]⟩ : ByteArray), .string (⟨#[65, 68, 84]⟩ : ByteArray), .string (⟨#[49]⟩ : ByteArray), .string p, .string v] 25)).size (.cells #[.int .u8 124, .int .u8 94, .int .u8 126, .int .u8 92, .int .u8 38, .string (⟨#[]⟩ : ByteArray), .string (⟨#[]⟩ : ByteArray), .string (⟨#[]⟩ : ByteArray), .string (⟨#[]⟩ : ByteArray), .string (⟨#[]⟩ : ByteArray), .string (⟨#[]⟩ : ByteArray), .string (⟨#[65, 68, 84]⟩ : ByteArray), .string (⟨#[49]⟩ : ByteArray), .string ((p ++ (⟨#[94]⟩ : ByteArray)) ++ more), .string ((v ++ (⟨#[94]⟩ : ByteArray)) ++ more)] 25)))
        have Z11 := Lib.hid zn
        have Z12 := Lib.hid zo
        clear zo zn
        generalize ((w4.alloc (.cells #[.int .u8 124, .int .u8 94, .int .u8 126, .int .u8 92, .int .u8 38, .string (⟨#[]⟩ : ByteArray), .string (⟨#[]⟩ : ByteArray), .string (⟨#[]⟩ : ByteArray), .string (⟨#[]⟩ : ByteArray), .string (⟨#[]⟩ : ByteArray), .string (⟨#[]⟩ : ByteArray), .string (⟨#[65, 68, 84]⟩ : ByteArray), .string (⟨#[49]⟩ : ByteArray), .string p, .string v] 25)).alloc (.cells #[.int .u8 124, .int .u8 94, .int .u8 126, .int .u8 92, .int .u8 38, .string (⟨#[]⟩ : ByteArray), .string (⟨#[]⟩ : ByteArray), .string (⟨#[]⟩ : ByteArray), .string (⟨#[]⟩ : ByteArray), .string (⟨#[]⟩ : ByteArray), .string (⟨#[]⟩ : ByteArray), .string (⟨#[65, 68, 84]⟩ : ByteArray), .string (⟨#[49]⟩ : ByteArray), .string ((p ++ (⟨#[94]⟩ : ByteArray)) ++ more), .string ((v ++ (⟨#[94]⟩ : ByteArray)) ++ more)] 25)).drew = w5 at HB5 Z11 Z12 ⊢
        have hne : (w4.heap.size + 1) ≠ w4.heap.size := by omega
        have hle : w.heap.size ≤ w4.heap.size := by have := HB4.out.size; omega
        generalize w4.heap.size + 1 = bn at Z11 Z12 hne hle ⊢
        generalize w4.heap.size = bo at Z11 Z12 hne hle ⊢
        have HLE := Lib.hid hle
        clear hle
        as_aux_lemma =>
          refine (msh_Check.calls k 124 94 126 92 38 (⟨#[]⟩ : ByteArray) (⟨#[]⟩ : ByteArray) (⟨#[]⟩ : ByteArray) (⟨#[]⟩ : ByteArray) (⟨#[]⟩ : ByteArray) (⟨#[]⟩ : ByteArray) (⟨#[65, 68, 84]⟩ : ByteArray) (⟨#[49]⟩ : ByteArray) p v 0 _ K1.out (glob_below HG.out HB5.out)).mono ?_
          rintro e w6 ⟨rfl, hb⟩
          have Y11 := Lib.hid (blk_below Z11.out hb)
          have Y12 := Lib.hid (blk_below Z12.out hb)
          have HB6 := Lib.hid (below_step HB5.out hb)
          clear hb Z11 Z12 HB5
          have e0 := cell_of_cells Y11.out 0
          have e1 := cell_of_cells Y11.out 1
          have e2 := cell_of_cells Y11.out 2
          have e3 := cell_of_cells Y11.out 3
          have e4 := cell_of_cells Y11.out 4
          have e5 := cell_of_cells Y11.out 5
          have e6 := cell_of_cells Y11.out 6
          have e7 := cell_of_cells Y11.out 7
          have e8 := cell_of_cells Y11.out 8
          have e9 := cell_of_cells Y11.out 9
          have e10 := cell_of_cells Y11.out 10
          have e11 := cell_of_cells Y11.out 11
          have e12 := cell_of_cells Y11.out 12
          have e13 := cell_of_cells Y11.out 13
          have e14 := cell_of_cells Y11.out 14
          simp only [List.getElem?_toArray, List.getElem?_cons_zero, List.getElem?_cons_succ] at e0 e1 e2 e3 e4 e5 e6 e7 e8 e9 e10 e11 e12 e13 e14
          go_wp2_with fail
          clear e0 e1 e2 e3 e4 e5 e6 e7 e8 e9 e10 e11 e12 e13 e14
          as_aux_lemma =>
            refine (msh_Check.calls k 124 94 126 92 38 (⟨#[]⟩ : ByteArray) (⟨#[]⟩ : ByteArray) (⟨#[]⟩ : ByteArray) (⟨#[]⟩ : ByteArray) (⟨#[]⟩ : ByteArray) (⟨#[]⟩ : ByteArray) (⟨#[65, 68, 84]⟩ : ByteArray) (⟨#[49]⟩ : ByteArray) ((p ++ (⟨#[94]⟩ : ByteArray)) ++ more) ((v ++ (⟨#[94]⟩ : ByteArray)) ++ more) 0 _ K2.out (glob_below HG.out HB6.out)).mono ?_
            rintro e w7 ⟨rfl, hb⟩
            have Z12 := Lib.hid (blk_below Y12.out hb)
            have HB7 := Lib.hid (below_step HB6.out hb)
            clear hb Y11 Y12 HB6
            have hz := Z12.out
            have hlt := blk_lt hz
            have fz := blk_frozen Z12.out 14
            have fz2 := fun u => blk_frozen (blk_set Z12.out 14 u) 13
            have e0 := cell_of_cells Z12.out 0
            have e1 := cell_of_cells Z12.out 1
            have e2 := cell_of_cells Z12.out 2
            have e3 := cell_of_cells Z12.out 3
            have e4 := cell_of_cells Z12.out 4
            have e5 := cell_of_cells Z12.out 5
            have e6 := cell_of_cells Z12.out 6
            have e7 := cell_of_cells Z12.out 7
            have e8 := cell_of_cells Z12.out 8
            have e9 := cell_of_cells Z12.out 9
            have e10 := cell_of_cells Z12.out 10
            have e11 := cell_of_cells Z12.out 11
            have e12 := cell_of_cells Z12.out 12
            have e13 := cell_of_cells Z12.out 13
            have e14 := cell_of_cells Z12.out 14
            simp only [List.getElem?_toArray, List.getElem?_cons_zero, List.getElem?_cons_succ] at e0 e1 e2 e3 e4 e5 e6 e7 e8 e9 e10 e11 e12 e13 e14
            go_wp2_with fail
            clear e0 e1 e2 e3 e4 e5 e6 e7 e8 e9 e10 e11 e12 e13 e14
            have HBW := HB7
            have z0 := Z12.out
            have z1 := blk_set z0 14 (.string (v ++ (⟨#[120]⟩ : ByteArray)))
            simp only [List.setIfInBounds_toArray, List.set_cons_zero, List.set_cons_succ] at z1
            have X12 := Lib.hid z1
            have HBN := Lib.hid (show Below w.heap.size w (w7.setCell ⟨bo, 14, none⟩ (.string (v ++ (⟨#[120]⟩ : ByteArray)))) from (below_set HBW.out HLE.out))
            clear hz hlt fz fz2 z0 z1
            clear Z12 HB7 HBW
            as_aux_lemma =>
              refine (msh_Check.calls k 124 94 126 92 38 (⟨#[]⟩ : ByteArray) (⟨#[]⟩ : ByteArray) (⟨#[]⟩ : ByteArray) (⟨#[]⟩ : ByteArray) (⟨#[]⟩ : ByteArray) (⟨#[]⟩ : ByteArray) (⟨#[65, 68, 84]⟩ : ByteArray) (⟨#[49]⟩ : ByteArray) p (v ++ (⟨#[120]⟩ : ByteArray)) 12 _ K3.out (glob_below HG.out HBN.out)).mono ?_
              rintro e w8 ⟨rfl, hb⟩
              have Z12 := Lib.hid (blk_below X12.out hb)
              have HB8 := Lib.hid (below_step HBN.out hb)
              clear hb X12 HBN
              have hz := Z12.out
              have hlt := blk_lt hz
              have fz := blk_frozen Z12.out 14
              have fz2 := fun u => blk_frozen (blk_set Z12.out 14 u) 13
              have e0 := cell_of_cells Z12.out 0
              have e1 := cell_of_cells Z12.out 1
              have e2 := cell_of_cells Z12.out 2
              have e3 := cell_of_cells Z12.out 3
              have e4 := cell_of_cells Z12.out 4
              have e5 := cell_of_cells Z12.out 5
              have e6 := cell_of_cells Z12.out 6
              have e7 := cell_of_cells Z12.out 7
              have e8 := cell_of_cells Z12.out 8
              have e9 := cell_of_cells Z12.out 9
              have e10 := cell_of_cells Z12.out 10
              have e11 := cell_of_cells Z12.out 11
              have e12 := cell_of_cells Z12.out 12
              have e13 := cell_of_cells Z12.out 13
              have e14 := cell_of_cells Z12.out 14
              simp only [List.getElem?_toArray, List.getElem?_cons_zero, List.getElem?_cons_succ] at e0 e1 e2 e3 e4 e5 e6 e7 e8 e9 e10 e11 e12 e13 e14
              go_wp2_with fail
              clear e0 e1 e2 e3 e4 e5 e6 e7 e8 e9 e10 e11 e12 e13 e14
              have HBW := HB8
              have z0 := Z12.out
              have z1 := blk_set z0 14 (.string (⟨#[]⟩ : ByteArray))
              simp only [List.setIfInBounds_toArray, List.set_cons_zero, List.set_cons_succ] at z1
              have X12 := Lib.hid z1
              have HBN := Lib.hid (show Below w.heap.size w (w8.setCell ⟨bo, 14, none⟩ (.string (⟨#[]⟩ : ByteArray))) from (below_set HBW.out HLE.out))
              clear hz hlt fz fz2 z0 z1
              clear Z12 HB8 HBW
              as_aux_lemma =>
                refine (msh_Check.calls k 124 94 126 92 38 (⟨#[]⟩ : ByteArray) (⟨#[]⟩ : ByteArray) (⟨#[]⟩ : ByteArray) (⟨#[]⟩ : ByteArray) (⟨#[]⟩ : ByteArray) (⟨#[]⟩ : ByteArray) (⟨#[65, 68, 84]⟩ : ByteArray) (⟨#[49]⟩ : ByteArray) p (⟨#[]⟩ : ByteArray) 12 _ K4.out (glob_below HG.out HBN.out)).mono ?_
                rintro e w9 ⟨rfl, hb⟩
                have Z12 := Lib.hid (blk_below X12.out hb)
                have HB9 := Lib.hid (below_step HBN.out hb)
                clear hb X12 HBN
                have hz := Z12.out
                have hlt := blk_lt hz
                have fz := blk_frozen Z12.out 14
                have fz2 := fun u => blk_frozen (blk_set Z12.out 14 u) 13
                have e0 := cell_of_cells Z12.out 0
                have e1 := cell_of_cells Z12.out 1
                have e2 := cell_of_cells Z12.out 2
                have e3 := cell_of_cells Z12.out 3
                have e4 := cell_of_cells Z12.out 4
                have e5 := cell_of_cells Z12.out 5
                have e6 := cell_of_cells Z12.out 6
                have e7 := cell_of_cells Z12.out 7
                have e8 := cell_of_cells Z12.out 8
                have e9 := cell_of_cells Z12.out 9
                have e10 := cell_of_cells Z12.out 10
                have e11 := cell_of_cells Z12.out 11
                have e12 := cell_of_cells Z12.out 12
                have e13 := cell_of_cells Z12.out 13
                have e14 := cell_of_cells Z12.out 14
                simp only [List.getElem?_toArray, List.getElem?_cons_zero, List.getElem?_cons_succ] at e0 e1 e2 e3 e4 e5 e6 e7 e8 e9 e10 e11 e12 e13 e14
                go_wp2_with fail
                clear e0 e1 e2 e3 e4 e5 e6 e7 e8 e9 e10 e11 e12 e13 e14
                have HBW := HB9
                have z0 := Z12.out
                have z1 := blk_set z0 14 (.string v)
                have z2 := blk_set z1 13 (.string (⟨#[80, 68]⟩ : ByteArray))
                simp only [List.setIfInBounds_toArray, List.set_cons_zero, List.set_cons_succ] at z2
                have X12 := Lib.hid z2
                have HBN := Lib.hid (show Below w.heap.size w ((w9.setCell ⟨bo, 14, none⟩ (.string v)).setCell ⟨bo, 13, none⟩ (.string (⟨#[80, 68]⟩ : ByteArray))) from (below_set (below_set HBW.out HLE.out) HLE.out))
                clear hz hlt fz fz2 z0 z1 z2
                clear Z12 HB9 HBW
                as_aux_lemma =>
                  refine (msh_Check.calls k 124 94 126 92 38 (⟨#[]⟩ : ByteArray) (⟨#[]⟩ : ByteArray) (⟨#[]⟩ : ByteArray) (⟨#[]⟩ : ByteArray) (⟨#[]⟩ : ByteArray) (⟨#[]⟩ : ByteArray) (⟨#[65, 68, 84]⟩ : ByteArray) (⟨#[49]⟩ : ByteArray) (⟨#[80, 68]⟩ : ByteArray) v 13 _ K5.out (glob_below HG.out HBN.out)).mono ?_
                  rintro e w10 ⟨rfl, hb⟩
                  have HB10 := Lib.hid (below_step HBN.out hb)
                  clear hb X12 HBN
                  go_wp2_with fail
                  go_ret
                  exact ⟨rfl, HB10.out⟩
end Go.Proofs.YtcjcaojgminjpaaDoor
