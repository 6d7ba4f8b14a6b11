-- Written by a program of this work (the kit's print, with contracts of this work's own taken in) out of the translation. Not trusted: Lean checks it.
import Derived.Test.YtcjcaojgminjpabDoorPBx0
import Derived.Test.YtcjcaojgminjpabDoorPBx6
import Derived.Test.YtcjcaojgminjpabDoorPBx10
import Derived.Test.YtcjcaojgminjpabDoorPBx11
import Derived.Test.YtcjcaojgminjpabDoorPBx12
namespace Go.Proofs.YtcjcaojgminjpabDoor.PB
open Go.RowKit Go.Proofs.YtcjcaojgminjpabDoorW.PrintWords Go.Proofs.YtcjcaojgminjpabDoorW.PrintLast Go.Proofs.YtcjcaojgminjpabDoorW.PrintMore
set_option maxHeartbeats 20000000
set_option maxRecDepth 100000
attribute [local go_sem] max2_int min2_int max_two min_two max_three min_three max_four min_four   -- for this text's walks alone
set_option linter.unusedVariables false
set_option linter.unusedSimpArgs false

/-! ### lamplighterref09_Read: function 40 -/
/-- Twelve texts at least. -/
def padTo (l : List ByteArray) : List ByteArray := l ++ List.replicate (12 - l.length) (⟨#[]⟩ : ByteArray)
def lamplighterref09_Read.f (k : Nat) (l0 : List Int) : Option (Int × Int × Int × Int × Int × ByteArray × ByteArray × ByteArray × ByteArray × ByteArray × ByteArray × ByteArray × ByteArray × ByteArray × ByteArray × Int) :=
 (lamplighterref06_Read.f k l0).bind fun d => if d.2.2.2.2.2 = 0 then
  (lamplighterref08_Split.f k l0).bind fun t => if 0 < t.length then
   (lamplighterref08_Fields.f k (rdOf ByteArray.empty t 0) d.1 d.2.1 d.2.2.1 d.2.2.2.1 d.2.2.2.2.1).bind fun F => if F.length < 2 then some (0, 0, 0, 0, 0, ⟨#[]⟩, ⟨#[]⟩, ⟨#[]⟩, ⟨#[]⟩, ⟨#[]⟩, ⟨#[]⟩, ⟨#[]⟩, ⟨#[]⟩, ⟨#[]⟩, ⟨#[]⟩, 11)
    else if (rdOf ByteArray.empty F 1).toList = (strOfNums [d.2.1, d.2.2.1, d.2.2.2.1, d.2.2.2.2.1]).toList then
     some (d.1, d.2.1, d.2.2.1, d.2.2.2.1, d.2.2.2.2.1, rdOf ByteArray.empty (padTo F) 2, rdOf ByteArray.empty (padTo F) 3, rdOf ByteArray.empty (padTo F) 4, rdOf ByteArray.empty (padTo F) 5, rdOf ByteArray.empty (padTo F) 6, rdOf ByteArray.empty (padTo F) 7, rdOf ByteArray.empty (padTo F) 8, rdOf ByteArray.empty (padTo F) 9, rdOf ByteArray.empty (padTo F) 10, rdOf ByteArray.empty (padTo F) 11, 0)
    else some (0, 0, 0, 0, 0, ⟨#[]⟩, ⟨#[]⟩, ⟨#[]⟩, ⟨#[]⟩, ⟨#[]⟩, ⟨#[]⟩, ⟨#[]⟩, ⟨#[]⟩, ⟨#[]⟩, ⟨#[]⟩, 11)
  else none
 else some (0, 0, 0, 0, 0, ⟨#[]⟩, ⟨#[]⟩, ⟨#[]⟩, ⟨#[]⟩, ⟨#[]⟩, ⟨#[]⟩, ⟨#[]⟩, ⟨#[]⟩, ⟨#[]⟩, ⟨#[]⟩, d.2.2.2.2.2)
theorem lamplighterref09_Read.mono : ∀ a0 k, LeO (lamplighterref09_Read.f k a0) (lamplighterref09_Read.f (k + 1) a0) := by
 intro a0 k
 unfold lamplighterref09_Read.f
 repeat' first
   | (with_reducible exact lamplighterref06_Read.mono _ _)
   | (with_reducible exact lamplighterref08_Split.mono _ _)
   | (with_reducible exact lamplighterref08_Fields.mono _ _ _ _ _ _ _)
   | (with_reducible exact LeO.refl _)
   | (with_reducible exact LeO.none _)
   | (with_reducible refine LeO.ite ?_ ?_)
   | (with_reducible refine LeO.bind ?_ (fun _ => ?_))
/-- A store of a whole struct, run. -/
theorem store_run {P : Program} {o : Oper} {a : Act} {W : World} (t : TypeId) (p x : Operand) (ho : o.op = .store t p x) {g : Nat} {e : TypeId} {cur cs' : Array Value} {u : Value}
  (haddr : a.eval p = .pointer (some ⟨g, 0, none⟩)) (hx : a.eval x = u) (hu : u.cells = cs') (hh : W.heap[g]? = some (.cells cur e (0, 0))) (ht : (P.info? t).map (·.size) = some cs'.size) (hsz : cur.size = cs'.size) (h1 : ∀ q ∈ cs'.toList, q.oneCell' = true) :
  ∃ W', (execOp a.eval o).run P W = .ok .skip W' ∧ W'.heap[g]? = some (.cells cs' e (0, 0)) ∧ (∀ j, j ≠ g → W'.heap[j]? = W.heap[j]?) ∧ (∀ (B : Nat) (w : World), B ≤ g → Below B w W → Below B w W') := by
 have hrun : (Instr.storeAt t (.pointer (some ⟨g, 0, none⟩)) u).run P W = .ok () (W.setCells g 0 cs'.toList) :=
  run_store_run t u cs'.toList hh (by rw [hu]) (by rw [ht, Array.length_toList]) (by rw [Array.length_toList]; omega) h1
 obtain ⟨cur', r1, r2, r3⟩ := setCells_row cs'.toList 0 W cur hh (by rw [Array.length_toList]; omega)
 obtain ⟨s1, s2, s3, s4⟩ := setCells_same g cs'.toList 0 W
 have hc : cur' = cs' := by
  apply Array.toList_inj.1
  rw [r3, List.take_zero, List.nil_append, Nat.zero_add, List.drop_of_length_le (by rw [Array.length_toList, Array.length_toList]; omega), List.append_nil]
 rw [hc] at r1
 refine ⟨_, ?_, r1, fun j hj => setCells_far _ _ j hj, fun B w hB hb => hb.trans ⟨s1, s2, s3, by rw [s4]; exact Nat.le_refl _, fun k hk => setCells_far _ _ k (by omega)⟩⟩
 unfold execOp
 simp only [ho, haddr, hx, Sem.run_bind, Sem.run_pure, Result.andThen_ok, hrun]
theorem store_at {P : Program} {ops : Array Oper} {Q : Exit → Act → World → Prop} {o : Oper} {a : Act} {W : World} {K : Act → World → Prop} (hw : Region.wanted o (yielded ops a.tmps) = true) (hN : o.dst = none) (t : TypeId) (p x : Operand) (ho : o.op = .store t p x) {g : Nat} {e : TypeId} {cur cs' : Array Value} {u : Value}
  (haddr : a.eval p = .pointer (some ⟨g, 0, none⟩)) (hx : a.eval x = u) (hu : u.cells = cs') (hh : W.heap[g]? = some (.cells cur e (0, 0))) (ht : (P.info? t).map (·.size) = some cs'.size) (hsz : cur.size = cs'.size) (h1 : ∀ q ∈ cs'.toList, q.oneCell' = true)
  (h : ∀ W', W'.heap[g]? = some (.cells cs' e (0, 0)) → (∀ j, j ≠ g → W'.heap[j]? = W.heap[j]?) → (∀ (B : Nat) (w : World), B ≤ g → Below B w W → Below B w W') → K a W') :
  if Region.wanted o (yielded ops a.tmps) = true then Oper.wp P o a W K Q else K (a.put none undef) W := by
 obtain ⟨W', hrun, q1, q2, q3⟩ := store_run t p x ho haddr hx hu hh ht hsz h1
 exact skip_ hw hN hrun (h W' q1 q2 q3)
theorem pad_step (F : List ByteArray) (n : Nat) : F ++ List.replicate n (⟨#[]⟩ : ByteArray) ++ [⟨#[]⟩] = F ++ List.replicate (n + 1) (⟨#[]⟩ : ByteArray) := by
 rw [List.append_assoc, List.replicate_succ']
theorem lamplighterref09_Read.calls (k : Nat) (A0 : Option Addr) (c0 : Nat) (l0 : List Int) (r1 r2 r3 r4 r5 : Int) (r6 r7 r8 r9 r10 r11 r12 r13 r14 r15 : ByteArray) (r16 : Int) (w : World) (hr0 : Kd.C (Kd.int .u8) w A0 l0.length l0) (hc0 : l0.length ≤ c0)
  (h : lamplighterref09_Read.f k l0 = some (r1, r2, r3, r4, r5, r6, r7, r8, r9, r10, r11, r12, r13, r14, r15, r16)) :
  Calls Tryd.prog 40 #[.slice A0 l0.length c0] w fun e w' => e = .returned (.tuple #[.agg #[.int .u8 r1, .int .u8 r2, .int .u8 r3, .int .u8 r4, .int .u8 r5, .string r6, .string r7, .string r8, .string r9, .string r10, .string r11, .string r12, .string r13, .string r14, .string r15], .int .i64 r16]) ∧ Below w.heap.size w w' := by
 have key := h
 unfold lamplighterref09_Read.f at key
 obtain ⟨⟨d0, d1, d2, d3, d4, er⟩, hd, hk⟩ := Option.bind_eq_some_iff.1 key
 dsimp only at hk
 clear h key
 have HD := Lib.hid hd
 have HC := Lib.hid hc0
 have HR := Lib.hid hr0
 clear hd hc0 hr0
 by_cases her : er = 0
 ·subst her
  rw [if_pos rfl] at hk
  obtain ⟨t, ht, hk2⟩ := Option.bind_eq_some_iff.1 hk
  clear hk
  by_cases htl : 0 < t.length
  case neg => rw [if_neg htl] at hk2; cases hk2
  rw [if_pos htl] at hk2
  obtain ⟨F, hF, hk⟩ := Option.bind_eq_some_iff.1 hk2
  clear hk2
  obtain ⟨x, ts, rfl⟩ : ∃ x ts, t = x :: ts := by
   cases t with
   | nil => simp at htl
   | cons x ts => exact ⟨x, ts, rfl⟩
  have hx0 : rdOf ByteArray.empty (x :: ts) 0 = x := rfl
  rw [hx0] at hF
  have HT := Lib.hid ht
  have HF := Lib.hid hF
  have HK := Lib.hid hk
  clear ht hF hk hx0 htl
  go_enter Tryd.func40, Tryd.ntmps40
  go_wp2_with (first
   | (go_at_call 71; with_reducible refine (lamplighterref06_Read.calls k A0 c0 l0 d0 d1 d2 d3 d4 0 _ (Kd.C_below HR.out ((Below.refl _ w).alloc (Nat.le_refl _) _)) HC.out HD.out).mono ?_; rintro e w1 ⟨rfl, hb1⟩; have z0 := Lib.hid (blk_below (heap_new w _) hb1); have hB1 := Lib.hid (below_step ((Below.refl _ w).alloc (Nat.le_refl _) _) hb1); clear hb1))
  have B1 := Lib.hid (hB1.out.alloc hB1.out.size (.cells #[.int .u8 d0, .int .u8 d1, .int .u8 d2, .int .u8 d3, .int .u8 d4] 23))
  refine (lamplighterref08_Split.calls k A0 c0 l0 (x :: ts) _ (Kd.C_below HR.out B1.out) HC.out HT.out).mono ?_
  rintro e w2 ⟨v, rfl, hR, hb2⟩
  have hown := Kd.own_of_R hR
  rw [List.length_cons] at hown
  obtain ⟨g, cap, rfl⟩ := ownsRow_succ hown
  have c2 : w2.cell? ⟨g, 0, none⟩ = some (.string x) := hown.cellAt 0 (by omega)
  have Z2 := Lib.hid (blk_below (heap_old _ z0.out) hb2)
  have D2 := Lib.hid (blk_below (heap_new w1 (.cells #[.int .u8 d0, .int .u8 d1, .int .u8 d2, .int .u8 d3, .int .u8 d4] 23)) hb2)
  have B2 := Lib.hid (below_step B1.out hb2)
  have n1 : w.heap.size < w1.heap.size := blk_lt z0.out
  have e0 := blk_cell D2.out 0
  have e1 := blk_cell D2.out 1
  have e2 := blk_cell D2.out 2
  have e3 := blk_cell D2.out 3
  have e4 := blk_cell D2.out 4
  simp only [List.getElem?_toArray, List.getElem?_cons_zero, List.getElem?_cons_succ] at e0 e1 e2 e3 e4
  clear z0 hB1 B1 hR hb2 hown
  go_wp2_with (first
   | (go_at_call 72; go_loud (with_reducible refine (lamplighterref08_Fields.calls k x d0 d1 d2 d3 d4 F _ HF.out).mono ?_; rintro e w3 ⟨v3, rfl, hQ, hb3⟩; obtain ⟨A3, c3, rfl, hc3⟩ := Kd.Q_slice hQ; have Q3 := Lib.hid hQ; have Z3 := Lib.hid (blk_below Z2.out hb3); have D3 := Lib.hid (blk_below D2.out hb3); have B3 := Lib.hid (below_step B2.out hb3); have s2 := blk_lt D2.out; have s3 := blk_lt D3.out; clear hb3 hQ)))
  clear e0 e1 e2 e3 e4 c2 HF HT HD HR HC Z2 D2 B2
  have hbase : w1.heap.size < w2.heap.size := s2
  have e0 := blk_cell D3.out 0
  have e1 := blk_cell D3.out 1
  have e2 := blk_cell D3.out 2
  have e3 := blk_cell D3.out 3
  have e4 := blk_cell D3.out 4
  simp only [List.getElem?_toArray, List.getElem?_cons_zero, List.getElem?_cons_succ] at e0 e1 e2 e3 e4
  by_cases h2 : F.length < 2
  ·have hk := HK.out
   rw [if_pos h2] at hk
   simp only [Option.some.injEq, Prod.mk.injEq] at hk
   obtain ⟨rfl, rfl, rfl, rfl, rfl, rfl, rfl, rfl, rfl, rfl, rfl, rfl, rfl, rfl, rfl, rfl⟩ := hk
   clear HK
   have hl2 : decide ((F.length : Int) < 2) = true := decide_eq_true (by omega)
   go_wp2_with fail
   refine start_ (n := 19) (S := fun w' => w'.cell? ⟨w1.heap.size, 1, none⟩ = some (.int .u8 d1) ∧ w'.cell? ⟨w1.heap.size, 2, none⟩ = some (.int .u8 d2) ∧ w'.cell? ⟨w1.heap.size, 3, none⟩ = some (.int .u8 d3) ∧ w'.cell? ⟨w1.heap.size, 4, none⟩ = some (.int .u8 d4)) (ds := []) #[false, false, false, false, false, false, false, false, false, false, false, false, false, false, false, false, false, false, false] (by kernel_rfl) rfl rfl ⟨e1, e2, e3, e4⟩ (fun hHeld => ?_)
   refine pure_ (i := 0) (N := some 24) (v := ?_) (a' := ?_) #[true, false, false, false, false, false, false, false, false, false, false, false, false, false, false, false, false, false, false] rfl rfl (by kernel_rfl) (fun _ _ _ h => h) (Or.inl ⟨by rfl, ?_⟩) ?_ ?_
   rotate_left
   ·intro w'
    go_simp
    with_reducible rfl
   rotate_left
   ·simp only [Act.put, sA_, s0_, s1_]
    rfl
   refine pure_ (i := 1) (N := some 25) (v := ?_) (a' := ?_) #[true, true, false, false, false, false, false, false, false, false, false, false, false, false, false, false, false, false, false] rfl rfl (by kernel_rfl) (fun _ _ _ h => h) (Or.inl ⟨by rfl, ?_⟩) ?_ ?_
   rotate_left
   ·intro w'
    go_simp
    with_reducible rfl
   rotate_left
   ·simp only [Act.put, sA_, s0_, s1_]
    rfl
   refine pure_ (i := 2) (N := some 26) (v := ?_) (a' := ?_) #[true, true, true, false, false, false, false, false, false, false, false, false, false, false, false, false, false, false, false] rfl rfl (by kernel_rfl) (fun _ _ _ h => h) (Or.inl ⟨by rfl, ?_⟩) ?_ ?_
   rotate_left
   ·intro w'
    go_simp
    with_reducible rfl
   rotate_left
   ·simp only [Act.put, sA_, s0_, s1_]
    rfl
   refine pure_ (i := 3) (N := some 27) (v := ?_) (a' := ?_) #[true, true, true, true, false, false, false, false, false, false, false, false, false, false, false, false, false, false, false] rfl rfl (by kernel_rfl) (fun _ _ _ h => h) (Or.inl ⟨by rfl, ?_⟩) ?_ ?_
   rotate_left
   ·intro w'
    go_simp
    with_reducible rfl
   rotate_left
   ·simp only [Act.put, sA_, s0_, s1_]
    rfl
   refine pure_ (i := 4) (N := some 28) (v := undef) (a' := ?_) #[true, true, true, true, true, false, false, false, false, false, false, false, false, false, false, false, false, false, false] rfl rfl (by kernel_rfl) (fun _ _ _ h => h) (Or.inr ⟨by rfl, rfl⟩) ?_ ?_
   rotate_left
   ·simp only [Act.put, sA_, s0_, s1_]
    rfl
   refine pure_ (i := 5) (N := some 29) (v := undef) (a' := ?_) #[true, true, true, true, true, true, false, false, false, false, false, false, false, false, false, false, false, false, false] rfl rfl (by kernel_rfl) (fun _ _ _ h => h) (Or.inr ⟨by rfl, rfl⟩) ?_ ?_
   rotate_left
   ·simp only [Act.put, sA_, s0_, s1_]
    rfl
   refine pure_ (i := 6) (N := some 30) (v := undef) (a' := ?_) #[true, true, true, true, true, true, true, false, false, false, false, false, false, false, false, false, false, false, false] rfl rfl (by kernel_rfl) (fun _ _ _ h => h) (Or.inr ⟨by rfl, rfl⟩) ?_ ?_
   rotate_left
   ·simp only [Act.put, sA_, s0_, s1_]
    rfl
   refine pure_ (i := 7) (N := some 31) (v := undef) (a' := ?_) #[true, true, true, true, true, true, true, true, false, false, false, false, false, false, false, false, false, false, false] rfl rfl (by kernel_rfl) (fun _ _ _ h => h) (Or.inr ⟨by rfl, rfl⟩) ?_ ?_
   rotate_left
   ·simp only [Act.put, sA_, s0_, s1_]
    rfl
   refine pure_ (i := 8) (N := some 32) (v := undef) (a' := ?_) #[true, true, true, true, true, true, true, true, true, false, false, false, false, false, false, false, false, false, false] rfl rfl (by kernel_rfl) (fun _ _ _ h => h) (Or.inr ⟨by rfl, rfl⟩) ?_ ?_
   rotate_left
   ·simp only [Act.put, sA_, s0_, s1_]
    rfl
   refine pure_ (i := 9) (N := some 33) (v := undef) (a' := ?_) #[true, true, true, true, true, true, true, true, true, true, false, false, false, false, false, false, false, false, false] rfl rfl (by kernel_rfl) (fun _ _ _ h => h) (Or.inr ⟨by rfl, rfl⟩) ?_ ?_
   rotate_left
   ·simp only [Act.put, sA_, s0_, s1_]
    rfl
   refine pure_ (i := 10) (N := some 34) (v := undef) (a' := ?_) #[true, true, true, true, true, true, true, true, true, true, true, false, false, false, false, false, false, false, false] rfl rfl (by kernel_rfl) (fun _ _ _ h => h) (Or.inr ⟨by rfl, rfl⟩) ?_ ?_
   rotate_left
   ·simp only [Act.put, sA_, s0_, s1_]
    rfl
   refine pure_ (i := 11) (N := some 35) (v := undef) (a' := ?_) #[true, true, true, true, true, true, true, true, true, true, true, true, false, false, false, false, false, false, false] rfl rfl (by kernel_rfl) (fun _ _ _ h => h) (Or.inr ⟨by rfl, rfl⟩) ?_ ?_
   rotate_left
   ·simp only [Act.put, sA_, s0_, s1_]
    rfl
   refine pure_ (i := 12) (N := some 36) (v := undef) (a' := ?_) #[true, true, true, true, true, true, true, true, true, true, true, true, true, false, false, false, false, false, false] rfl rfl (by kernel_rfl) (fun _ _ _ h => h) (Or.inr ⟨by rfl, rfl⟩) ?_ ?_
   rotate_left
   ·simp only [Act.put, sA_, s0_, s1_]
    rfl
   refine pure_ (i := 13) (N := some 37) (v := undef) (a' := ?_) #[true, true, true, true, true, true, true, true, true, true, true, true, true, true, false, false, false, false, false] rfl rfl (by kernel_rfl) (fun _ _ _ h => h) (Or.inr ⟨by rfl, rfl⟩) ?_ ?_
   rotate_left
   ·simp only [Act.put, sA_, s0_, s1_]
    rfl
   refine pure_ (i := 14) (N := some 38) (v := undef) (a' := ?_) #[true, true, true, true, true, true, true, true, true, true, true, true, true, true, true, false, false, false, false] rfl rfl (by kernel_rfl) (fun _ _ _ h => h) (Or.inr ⟨by rfl, rfl⟩) ?_ ?_
   rotate_left
   ·simp only [Act.put, sA_, s0_, s1_]
    rfl
   refine pure_ (i := 15) (N := some 39) (v := undef) (a' := ?_) #[true, true, true, true, true, true, true, true, true, true, true, true, true, true, true, true, false, false, false] rfl rfl (by kernel_rfl) (fun _ _ _ h => h) (Or.inr ⟨by rfl, rfl⟩) ?_ ?_
   rotate_left
   ·simp only [Act.put, sA_, s0_, s1_]
    rfl
   refine pure_ (i := 16) (N := some 40) (v := undef) (a' := ?_) #[true, true, true, true, true, true, true, true, true, true, true, true, true, true, true, true, true, false, false] rfl rfl (by kernel_rfl) (fun _ _ _ h => h) (Or.inr ⟨by rfl, rfl⟩) ?_ ?_
   rotate_left
   ·simp only [Act.put, sA_, s0_, s1_]
    rfl
   refine pure_ (i := 17) (N := some 41) (v := undef) (a' := ?_) #[true, true, true, true, true, true, true, true, true, true, true, true, true, true, true, true, true, true, false] rfl rfl (by kernel_rfl) (fun _ _ _ h => h) (Or.inr ⟨by rfl, rfl⟩) ?_ ?_
   rotate_left
   ·simp only [Act.put, sA_, s0_, s1_]
    rfl
   refine pure_ (i := 18) (N := some 42) (v := ?_) (a' := ?_) #[true, true, true, true, true, true, true, true, true, true, true, true, true, true, true, true, true, true, true] rfl rfl (by kernel_rfl) (fun _ _ _ h => h) (Or.inl ⟨by rfl, ?_⟩) ?_ ?_
   rotate_left
   ·intro w'
    go_simp
    with_reducible rfl
   rotate_left
   ·simp only [Act.put, sA_, s0_, s1_]
    rfl
   refine done_ (by kernel_rfl) ?_
   clear hHeld
   go_wp2_with (first
    | (refine gate_store (t := 25) rfl ?_; refine store_whole rfl rfl 25 _ _ rfl (g := w.heap.size) (e := 25) (cs' := headCells 0 0 0 0 0 ⟨#[]⟩ ⟨#[]⟩ ⟨#[]⟩ ⟨#[]⟩ ⟨#[]⟩ ⟨#[]⟩ ⟨#[]⟩ ⟨#[]⟩ ⟨#[]⟩ ⟨#[]⟩) rfl rfl rfl Z3.out (by kernel_rfl) rfl head_one ?_; intro W' q1 q2 q3 q4))
   exact bodyPost_ret (head_loads _ 2 3 rfl q1 rfl rfl) rfl ⟨rfl, q4 _ _ (Nat.le_refl _) (below_drew1 B3.out)⟩
  ·have hl2 : decide ((F.length : Int) < 2) = false := decide_eq_false (by omega)
   have i1 : (1 : Int) < (F.length : Int) := by omega
   obtain ⟨g3, o3, cap3, hv, hg3, hg3s, hg3c⟩ := Kd.Q_form Q3.out (by omega)
   simp only [Value.slice.injEq] at hv
   obtain ⟨rfl, -, rfl⟩ := hv
   have f1 := (Kd.Q_cell ByteArray.empty Q3.out 1 (by decide) i1).1
   simp only [Int.reduceToNat] at f1
   have hconv : ∀ (W : World) cap, (convert 34 9 (.slice (some ⟨W.heap.size, 0, none⟩) 4 cap)).run Tryd.prog ((W.alloc (.cells #[.int .u8 d1, .int .u8 d2, .int .u8 d3, .int .u8 d4] 5)).drew) = .ok (.string (strOfNums [d1, d2, d3, d4])) ((W.alloc (.cells #[.int .u8 d1, .int .u8 d2, .int .u8 d3, .int .u8 d4] 5)).drew) := fun W cap =>
    Kd.C_string (P := Tryd.prog) Tryd.underlying34 Tryd.underlying5 Tryd.underlying9 (C_block (xs := [d1, d2, d3, d4]) (by simp) (show ((W.alloc (.cells #[.int .u8 d1, .int .u8 d2, .int .u8 d3, .int .u8 d4] 5)).drew).heap[W.heap.size]? = _ from heap_new W _))
   have hk := HK.out
   rw [if_neg h2] at hk
   clear HK
   by_cases hyz : (rdOf ByteArray.empty F 1).toList = (strOfNums [d1, d2, d3, d4]).toList
   ·rw [if_pos hyz] at hk
    simp only [Option.some.injEq, Prod.mk.injEq] at hk
    obtain ⟨rfl, rfl, rfl, rfl, rfl, rfl, rfl, rfl, rfl, rfl, rfl, rfl, rfl, rfl, rfl, rfl⟩ := hk
    have hyb : ((rdOf ByteArray.empty F 1).toList == (strOfNums [d1, d2, d3, d4]).toList) = true := by simpa using hyz
    have hyb2 : ((rdOf ByteArray.empty F 1).toList != (strOfNums [d1, d2, d3, d4]).toList) = false := by simpa using hyz
    clear hyz
    go_wp2_with fail
    refine start_ (n := 19) (S := fun w' => w'.cell? ⟨w1.heap.size, 1, none⟩ = some (.int .u8 d1) ∧ w'.cell? ⟨w1.heap.size, 2, none⟩ = some (.int .u8 d2) ∧ w'.cell? ⟨w1.heap.size, 3, none⟩ = some (.int .u8 d3) ∧ w'.cell? ⟨w1.heap.size, 4, none⟩ = some (.int .u8 d4) ∧ w'.cell? ⟨g3, o3 + 1, none⟩ = some (.string (rdOf ByteArray.empty F 1))) (ds := []) #[false, false, false, false, false, false, false, false, false, false, false, false, false, false, false, false, false, false, false] (by kernel_rfl) rfl rfl ⟨e1, e2, e3, e4, f1⟩ (fun hHeld => ?_)
    refine pure_ (i := 0) (N := some 24) (v := ?_) (a' := ?_) #[true, false, false, false, false, false, false, false, false, false, false, false, false, false, false, false, false, false, false] rfl rfl (by kernel_rfl) (fun _ _ _ h => h) (Or.inl ⟨by rfl, ?_⟩) ?_ ?_
    rotate_left
    ·intro w'
     go_simp
     with_reducible rfl
    rotate_left
    ·simp only [Act.put, sA_, s0_, s1_]
     rfl
    refine pure_ (i := 1) (N := some 25) (v := ?_) (a' := ?_) #[true, true, false, false, false, false, false, false, false, false, false, false, false, false, false, false, false, false, false] rfl rfl (by kernel_rfl) (fun _ _ _ h => h) (Or.inl ⟨by rfl, ?_⟩) ?_ ?_
    rotate_left
    ·intro w'
     go_simp
     with_reducible rfl
    rotate_left
    ·simp only [Act.put, sA_, s0_, s1_]
     rfl
    refine pure_ (i := 2) (N := some 26) (v := ?_) (a' := ?_) #[true, true, true, false, false, false, false, false, false, false, false, false, false, false, false, false, false, false, false] rfl rfl (by kernel_rfl) (fun _ _ _ h => h) (Or.inl ⟨by rfl, ?_⟩) ?_ ?_
    rotate_left
    ·intro w'
     go_simp
     with_reducible rfl
    rotate_left
    ·simp only [Act.put, sA_, s0_, s1_]
     rfl
    refine pure_ (i := 3) (N := some 27) (v := ?_) (a' := ?_) #[true, true, true, true, false, false, false, false, false, false, false, false, false, false, false, false, false, false, false] rfl rfl (by kernel_rfl) (fun _ _ _ h => h) (Or.inl ⟨by rfl, ?_⟩) ?_ ?_
    rotate_left
    ·intro w'
     go_simp
     with_reducible rfl
    rotate_left
    ·simp only [Act.put, sA_, s0_, s1_]
     rfl
    refine pure_ (i := 4) (N := some 28) (v := ?_) (a' := ?_) #[true, true, true, true, true, false, false, false, false, false, false, false, false, false, false, false, false, false, false] rfl rfl (by kernel_rfl) (fun _ _ _ h => h) (Or.inl ⟨by rfl, ?_⟩) ?_ ?_
    rotate_left
    ·intro w'
     go_simp
     with_reducible rfl
    rotate_left
    ·simp only [Act.put, sA_, s0_, s1_]
     rfl
    refine pure_ (i := 5) (N := some 29) (v := ?_) (a' := ?_) #[true, true, true, true, true, true, false, false, false, false, false, false, false, false, false, false, false, false, false] rfl rfl (by kernel_rfl) (fun _ _ _ h => h) (Or.inl ⟨by rfl, ?_⟩) ?_ ?_
    rotate_left
    ·intro w'
     go_simp
     with_reducible rfl
    rotate_left
    ·simp only [Act.put, sA_, s0_, s1_]
     rfl
    refine take_ (i := 6) (N := some 30) (v := ?_) (a' := ?_) #[true, true, true, true, true, true, true, false, false, false, false, false, false, false, false, false, false, false, false] rfl rfl (by kernel_rfl) (fun _ _ _ h => h) (Or.inl ⟨by rfl, ?_⟩) hHeld ?_ ?_
    rotate_left
    ·rintro w' ⟨s1, s2, s3, s4, s5⟩
     go_simp
     with_reducible rfl
    rotate_left
    ·simp only [Act.put, sA_, s0_, s1_]
     rfl
    refine pure_ (i := 7) (N := some 31) (v := ?_) (a' := ?_) #[true, true, true, true, true, true, true, true, false, false, false, false, false, false, false, false, false, false, false] rfl rfl (by kernel_rfl) (fun _ _ _ h => h) (Or.inl ⟨by rfl, ?_⟩) ?_ ?_
    rotate_left
    ·intro w'
     go_simp
     with_reducible rfl
    rotate_left
    ·simp only [Act.put, sA_, s0_, s1_]
     rfl
    refine take_ (i := 8) (N := some 32) (v := ?_) (a' := ?_) #[true, true, true, true, true, true, true, true, true, false, false, false, false, false, false, false, false, false, false] rfl rfl (by kernel_rfl) (fun _ _ _ h => h) (Or.inl ⟨by rfl, ?_⟩) hHeld ?_ ?_
    rotate_left
    ·rintro w' ⟨s1, s2, s3, s4, s5⟩
     go_simp
     with_reducible rfl
    rotate_left
    ·simp only [Act.put, sA_, s0_, s1_]
     rfl
    refine pure_ (i := 9) (N := some 33) (v := ?_) (a' := ?_) #[true, true, true, true, true, true, true, true, true, true, false, false, false, false, false, false, false, false, false] rfl rfl (by kernel_rfl) (fun _ _ _ h => h) (Or.inl ⟨by rfl, ?_⟩) ?_ ?_
    rotate_left
    ·intro w'
     go_simp
     with_reducible rfl
    rotate_left
    ·simp only [Act.put, sA_, s0_, s1_]
     rfl
    refine take_ (i := 10) (N := some 34) (v := ?_) (a' := ?_) #[true, true, true, true, true, true, true, true, true, true, true, false, false, false, false, false, false, false, false] rfl rfl (by kernel_rfl) (fun _ _ _ h => h) (Or.inl ⟨by rfl, ?_⟩) hHeld ?_ ?_
    rotate_left
    ·rintro w' ⟨s1, s2, s3, s4, s5⟩
     go_simp
     with_reducible rfl
    rotate_left
    ·simp only [Act.put, sA_, s0_, s1_]
     rfl
    refine pure_ (i := 11) (N := some 35) (v := ?_) (a' := ?_) #[true, true, true, true, true, true, true, true, true, true, true, true, false, false, false, false, false, false, false] rfl rfl (by kernel_rfl) (fun _ _ _ h => h) (Or.inl ⟨by rfl, ?_⟩) ?_ ?_
    rotate_left
    ·intro w'
     go_simp
     with_reducible rfl
    rotate_left
    ·simp only [Act.put, sA_, s0_, s1_]
     rfl
    refine take_ (i := 12) (N := some 36) (v := ?_) (a' := ?_) #[true, true, true, true, true, true, true, true, true, true, true, true, true, false, false, false, false, false, false] rfl rfl (by kernel_rfl) (fun _ _ _ h => h) (Or.inl ⟨by rfl, ?_⟩) hHeld ?_ ?_
    rotate_left
    ·rintro w' ⟨s1, s2, s3, s4, s5⟩
     go_simp
     with_reducible rfl
    rotate_left
    ·simp only [Act.put, sA_, s0_, s1_]
     rfl
    refine pure_ (i := 13) (N := some 37) (v := ?_) (a' := ?_) #[true, true, true, true, true, true, true, true, true, true, true, true, true, true, false, false, false, false, false] rfl rfl (by kernel_rfl) (fun _ _ _ h => h) (Or.inl ⟨by rfl, ?_⟩) ?_ ?_
    rotate_left
    ·intro w'
     go_simp
     with_reducible rfl
    rotate_left
    ·simp only [Act.put, sA_, s0_, s1_]
     rfl
    refine take_ (i := 14) (N := some 38) (v := ?_) (a' := ?_) #[true, true, true, true, true, true, true, true, true, true, true, true, true, true, true, false, false, false, false] rfl rfl (by kernel_rfl) (fun _ _ _ h => h) (Or.inl ⟨by rfl, ?_⟩) hHeld ?_ ?_
    rotate_left
    ·rintro w' ⟨s1, s2, s3, s4, s5⟩
     go_simp
     with_reducible rfl
    rotate_left
    ·simp only [Act.put, sA_, s0_, s1_]
     rfl
    refine one_ (i := 15) (N := some 39) #[true, true, true, true, true, true, true, true, true, true, true, true, true, true, true, true, false, false, false] rfl rfl (by kernel_rfl) (by decide) (fun K hK => ?_)
    go_simp
    refine hK.out _ _ ⟨cell_alloc_old _ e1, cell_alloc_old _ e2, cell_alloc_old _ e3, cell_alloc_old _ e4, cell_alloc_old _ f1⟩ (fun hHeld => ?_)
    clear hK K
    refine one_ (i := 16) (N := some 40) #[true, true, true, true, true, true, true, true, true, true, true, true, true, true, true, true, true, false, false] rfl rfl (by kernel_rfl) (by decide) (fun K hK => ?_)
    have kv := hconv w3
    go_simp
    clear kv
    refine hK.out _ _ hHeld (fun hHeld => ?_)
    clear hK K
    refine pure_ (i := 17) (N := some 41) (v := ?_) (a' := ?_) #[true, true, true, true, true, true, true, true, true, true, true, true, true, true, true, true, true, true, false] rfl rfl (by kernel_rfl) (fun _ _ _ h => h) (Or.inl ⟨by rfl, ?_⟩) ?_ ?_
    rotate_left
    ·intro w'
     go_simp
     with_reducible rfl
    rotate_left
    ·simp only [Act.put, sA_, s0_, s1_]
     rfl
    refine pure_ (i := 18) (N := some 42) (v := ?_) (a' := ?_) #[true, true, true, true, true, true, true, true, true, true, true, true, true, true, true, true, true, true, true] rfl rfl (by kernel_rfl) (fun _ _ _ h => h) (Or.inl ⟨by rfl, ?_⟩) ?_ ?_
    rotate_left
    ·intro w'
     go_simp
     with_reducible rfl
    rotate_left
    ·simp only [Act.put, sA_, s0_, s1_]
     rfl
    refine done_ (by kernel_rfl) ?_
    clear hHeld
    obtain ⟨WL, hWL⟩ : ∃ W, W = (w3.alloc (.cells #[.int .u8 d1, .int .u8 d2, .int .u8 d3, .int .u8 d4] 5)).drew := ⟨_, rfl⟩
    rw [← hWL]
    have QL := Lib.hid (show Kd.Q Kd.string 9 WL w2.heap.size (fun _ => True) (.slice (some ⟨g3, o3, none⟩) F.length c3) F by rw [hWL]; exact Kd.Q_drew (Kd.Q_alloc Q3.out _))
    have ZL := Lib.hid (show WL.heap[w.heap.size]? = some (.cells (headCells 0 0 0 0 0 ⟨#[]⟩ ⟨#[]⟩ ⟨#[]⟩ ⟨#[]⟩ ⟨#[]⟩ ⟨#[]⟩ ⟨#[]⟩ ⟨#[]⟩ ⟨#[]⟩ ⟨#[]⟩) 25 (0, 0)) by rw [hWL]; exact heap_old _ Z3.out)
    have DL := Lib.hid (show WL.heap[w1.heap.size]? = some (.cells #[.int .u8 d0, .int .u8 d1, .int .u8 d2, .int .u8 d3, .int .u8 d4] 23 (0, 0)) by rw [hWL]; exact heap_old _ D3.out)
    have BL := Lib.hid (show Below w.heap.size w WL by rw [hWL]; exact below_drew1 (B3.out.alloc (show w.heap.size ≤ w3.heap.size by omega) _))
    have sL : w2.heap.size ≤ WL.heap.size := by have := (Kd.Q_lt QL.out g3 rfl); omega
    clear hWL Q3 Z3 D3 B3 e0 e1 e2 e3 e4 f1 hconv hyb hyb2 hl2
    go_wp2
    go_loopw [7] (fun v wr => ∃ n : Nat, (n = 0 ∨ F.length + n ≤ 12) ∧ Kd.Q Kd.string 9 wr w2.heap.size (fun _ => True) v (F ++ List.replicate n (⟨#[]⟩ : ByteArray)) ∧ Below w2.heap.size WL wr) (fun v _ => 12 - (match v with | .slice _ n _ => n | _ => 0))
    case atStart => exact ⟨0, .inl rfl, by rw [List.replicate_zero, List.append_nil]; exact QL.out, Below.refl _ _⟩
    case round =>
     obtain ⟨n, hn, hQ, hB2⟩ := hrel
     obtain ⟨Ar, cr, rfl, hcr⟩ := Kd.Q_slice hQ
     have hll : (F ++ List.replicate n (⟨#[]⟩ : ByteArray)).length = F.length + n := by rw [List.length_append, List.length_replicate]
     have hst := pad_step F n
     generalize hlE : F ++ List.replicate n (⟨#[]⟩ : ByteArray) = l at hQ hcr hll hst ⊢
     have GQ := Lib.hid hQ
     have GB2 := Lib.hid hB2
     have HLL := Lib.hid hll
     have HST := Lib.hid hst
     clear hQ hB2 hll hst
     by_cases hlt : l.length < 12
     ·have h12 : decide ((l.length : Int) < 12) = true := decide_eq_true (by omega)
      go_wp2_with (at_builtin; go_loud (refine Kd.Q_append Kd.string (w0 := WL) w2.heap.size rfl (.tmp 47) (.tmp 48) 40 9 (.string ⟨#[]⟩) 16 rfl Tryd.underlying40 info9 rfl (by decide) (by omega) (.slice Ar l.length cr) l ⟨#[]⟩ [.string ⟨#[]⟩] (fun _ => True) (fun _ => False) rfl rfl ?aP (fun _ hk => hk.elim) (fun _ _ => trivial) GQ.out GB2.out ?aS ?aL ?_; (case aP => exact rfl); (case aS => have := GB2.out.size; omega); (case aL => omega); intro v9 w9 hq9 hb9 hg9 hat9; obtain ⟨A9, cr9, rfl, hcr9⟩ := Kd.Q_slice hq9))
      go_roundw
      case rel => exact ⟨n + 1, .inr (by have := HLL.out; omega), by rw [← HST.out]; (first | exact hq9 | (rw [List.length_append, List.length_singleton] at hq9; exact hq9)), hb9⟩
      case measure => (first | (show 12 - (l ++ [(⟨#[]⟩ : ByteArray)]).length < 12 - l.length; rw [List.length_append, List.length_singleton]; omega) | (show 12 - (l.length + 1) < 12 - l.length; omega))
     ·have h12 : decide ((l.length : Int) < 12) = false := decide_eq_false (by omega)
      have hpad : l = padTo F := by
       rw [← hlE]
       unfold padTo
       congr 2
       have := HLL.out
       omega
      clear HLL HST
      subst hpad
      obtain ⟨gr, orr, cr2, hv, hgr, hgrs, hgrc⟩ := Kd.Q_form GQ.out (by omega)
      simp only [Value.slice.injEq] at hv
      obtain ⟨rfl, -, rfl⟩ := hv
      have i2 : (2 : Int) < ((padTo F).length : Int) := by omega
      have f2 := (Kd.Q_cell ByteArray.empty GQ.out 2 (by decide) i2).1
      have i3 : (3 : Int) < ((padTo F).length : Int) := by omega
      have f3 := (Kd.Q_cell ByteArray.empty GQ.out 3 (by decide) i3).1
      have i4 : (4 : Int) < ((padTo F).length : Int) := by omega
      have f4 := (Kd.Q_cell ByteArray.empty GQ.out 4 (by decide) i4).1
      have i5 : (5 : Int) < ((padTo F).length : Int) := by omega
      have f5 := (Kd.Q_cell ByteArray.empty GQ.out 5 (by decide) i5).1
      have i6 : (6 : Int) < ((padTo F).length : Int) := by omega
      have f6 := (Kd.Q_cell ByteArray.empty GQ.out 6 (by decide) i6).1
      have i7 : (7 : Int) < ((padTo F).length : Int) := by omega
      have f7 := (Kd.Q_cell ByteArray.empty GQ.out 7 (by decide) i7).1
      have i8 : (8 : Int) < ((padTo F).length : Int) := by omega
      have f8 := (Kd.Q_cell ByteArray.empty GQ.out 8 (by decide) i8).1
      have i9 : (9 : Int) < ((padTo F).length : Int) := by omega
      have f9 := (Kd.Q_cell ByteArray.empty GQ.out 9 (by decide) i9).1
      have i10 : (10 : Int) < ((padTo F).length : Int) := by omega
      have f10 := (Kd.Q_cell ByteArray.empty GQ.out 10 (by decide) i10).1
      have i11 : (11 : Int) < ((padTo F).length : Int) := by omega
      have f11 := (Kd.Q_cell ByteArray.empty GQ.out 11 (by decide) i11).1
      simp only [Int.reduceToNat] at f2 f3 f4 f5 f6 f7 f8 f9 f10 f11
      have ZR := Lib.hid ((GB2.out.block w.heap.size (by omega)).trans ZL.out)
      have DR := Lib.hid ((GB2.out.block w1.heap.size (by omega)).trans DL.out)
      have BR := Lib.hid (BL.out.trans (GB2.out.mono (by omega)))
      clear ZL DL BL QL GQ GB2
      have e0 := blk_cell DR.out 0
      have e1 := blk_cell DR.out 1
      have e2 := blk_cell DR.out 2
      have e3 := blk_cell DR.out 3
      have e4 := blk_cell DR.out 4
      simp only [List.getElem?_toArray, List.getElem?_cons_zero, List.getElem?_cons_succ] at e0 e1 e2 e3 e4
      go_wp2_with fail
      refine start_ (n := 34) (S := fun w' => w'.cell? ⟨w1.heap.size, 0, none⟩ = some (.int .u8 d0) ∧ w'.cell? ⟨w1.heap.size, 1, none⟩ = some (.int .u8 d1) ∧ w'.cell? ⟨w1.heap.size, 2, none⟩ = some (.int .u8 d2) ∧ w'.cell? ⟨w1.heap.size, 3, none⟩ = some (.int .u8 d3) ∧ w'.cell? ⟨w1.heap.size, 4, none⟩ = some (.int .u8 d4) ∧ w'.cell? ⟨gr, orr + 2, none⟩ = some (.string (rdOf ByteArray.empty (padTo F) 2)) ∧ w'.cell? ⟨gr, orr + 3, none⟩ = some (.string (rdOf ByteArray.empty (padTo F) 3)) ∧ w'.cell? ⟨gr, orr + 4, none⟩ = some (.string (rdOf ByteArray.empty (padTo F) 4)) ∧ w'.cell? ⟨gr, orr + 5, none⟩ = some (.string (rdOf ByteArray.empty (padTo F) 5)) ∧ w'.cell? ⟨gr, orr + 6, none⟩ = some (.string (rdOf ByteArray.empty (padTo F) 6)) ∧ w'.cell? ⟨gr, orr + 7, none⟩ = some (.string (rdOf ByteArray.empty (padTo F) 7)) ∧ w'.cell? ⟨gr, orr + 8, none⟩ = some (.string (rdOf ByteArray.empty (padTo F) 8)) ∧ w'.cell? ⟨gr, orr + 9, none⟩ = some (.string (rdOf ByteArray.empty (padTo F) 9)) ∧ w'.cell? ⟨gr, orr + 10, none⟩ = some (.string (rdOf ByteArray.empty (padTo F) 10)) ∧ w'.cell? ⟨gr, orr + 11, none⟩ = some (.string (rdOf ByteArray.empty (padTo F) 11))) (ds := []) #[false, false, false, false, false, false, false, false, false, false, false, false, false, false, false, false, false, false, false, false, false, false, false, false, false, false, false, false, false, false, false, false, false, false] (by kernel_rfl) rfl rfl ⟨e0, e1, e2, e3, e4, f2, f3, f4, f5, f6, f7, f8, f9, f10, f11⟩ (fun hHeld => ?_)
      refine take_ (i := 0) (N := some 50) (v := ?_) (a' := ?_) #[true, false, false, false, false, false, false, false, false, false, false, false, false, false, false, false, false, false, false, false, false, false, false, false, false, false, false, false, false, false, false, false, false, false] rfl rfl (by kernel_rfl) (fun _ _ _ h => h) (Or.inl ⟨by rfl, ?_⟩) hHeld ?_ ?_
      rotate_left
      ·rintro w' ⟨s0, s1, s2, s3, s4, s5, s6, s7, s8, s9, s10, s11, s12, s13, s14⟩
       go_simp
       with_reducible rfl
      rotate_left
      ·simp only [Act.put, sA_, s0_, s1_]
       rfl
      refine pure_ (i := 1) (N := some 51) (v := ?_) (a' := ?_) #[true, true, false, false, false, false, false, false, false, false, false, false, false, false, false, false, false, false, false, false, false, false, false, false, false, false, false, false, false, false, false, false, false, false] rfl rfl (by kernel_rfl) (fun _ _ _ h => h) (Or.inl ⟨by rfl, ?_⟩) ?_ ?_
      rotate_left
      ·intro w'
       go_simp
       with_reducible rfl
      rotate_left
      ·simp only [Act.put, sA_, s0_, s1_]
       rfl
      refine pure_ (i := 2) (N := some 52) (v := ?_) (a' := ?_) #[true, true, true, false, false, false, false, false, false, false, false, false, false, false, false, false, false, false, false, false, false, false, false, false, false, false, false, false, false, false, false, false, false, false] rfl rfl (by kernel_rfl) (fun _ _ _ h => h) (Or.inl ⟨by rfl, ?_⟩) ?_ ?_
      rotate_left
      ·intro w'
       go_simp
       with_reducible rfl
      rotate_left
      ·simp only [Act.put, sA_, s0_, s1_]
       rfl
      refine take_ (i := 3) (N := some 53) (v := ?_) (a' := ?_) #[true, true, true, true, false, false, false, false, false, false, false, false, false, false, false, false, false, false, false, false, false, false, false, false, false, false, false, false, false, false, false, false, false, false] rfl rfl (by kernel_rfl) (fun _ _ _ h => h) (Or.inl ⟨by rfl, ?_⟩) hHeld ?_ ?_
      rotate_left
      ·rintro w' ⟨s0, s1, s2, s3, s4, s5, s6, s7, s8, s9, s10, s11, s12, s13, s14⟩
       go_simp
       with_reducible rfl
      rotate_left
      ·simp only [Act.put, sA_, s0_, s1_]
       rfl
      refine pure_ (i := 4) (N := some 54) (v := ?_) (a' := ?_) #[true, true, true, true, true, false, false, false, false, false, false, false, false, false, false, false, false, false, false, false, false, false, false, false, false, false, false, false, false, false, false, false, false, false] rfl rfl (by kernel_rfl) (fun _ _ _ h => h) (Or.inl ⟨by rfl, ?_⟩) ?_ ?_
      rotate_left
      ·intro w'
       go_simp
       with_reducible rfl
      rotate_left
      ·simp only [Act.put, sA_, s0_, s1_]
       rfl
      refine pure_ (i := 5) (N := some 55) (v := ?_) (a' := ?_) #[true, true, true, true, true, true, false, false, false, false, false, false, false, false, false, false, false, false, false, false, false, false, false, false, false, false, false, false, false, false, false, false, false, false] rfl rfl (by kernel_rfl) (fun _ _ _ h => h) (Or.inl ⟨by rfl, ?_⟩) ?_ ?_
      rotate_left
      ·intro w'
       go_simp
       with_reducible rfl
      rotate_left
      ·simp only [Act.put, sA_, s0_, s1_]
       rfl
      refine take_ (i := 6) (N := some 56) (v := ?_) (a' := ?_) #[true, true, true, true, true, true, true, false, false, false, false, false, false, false, false, false, false, false, false, false, false, false, false, false, false, false, false, false, false, false, false, false, false, false] rfl rfl (by kernel_rfl) (fun _ _ _ h => h) (Or.inl ⟨by rfl, ?_⟩) hHeld ?_ ?_
      rotate_left
      ·rintro w' ⟨s0, s1, s2, s3, s4, s5, s6, s7, s8, s9, s10, s11, s12, s13, s14⟩
       go_simp
       with_reducible rfl
      rotate_left
      ·simp only [Act.put, sA_, s0_, s1_]
       rfl
      refine pure_ (i := 7) (N := some 57) (v := ?_) (a' := ?_) #[true, true, true, true, true, true, true, true, false, false, false, false, false, false, false, false, false, false, false, false, false, false, false, false, false, false, false, false, false, false, false, false, false, false] rfl rfl (by kernel_rfl) (fun _ _ _ h => h) (Or.inl ⟨by rfl, ?_⟩) ?_ ?_
      rotate_left
      ·intro w'
       go_simp
       with_reducible rfl
      rotate_left
      ·simp only [Act.put, sA_, s0_, s1_]
       rfl
      refine pure_ (i := 8) (N := some 58) (v := ?_) (a' := ?_) #[true, true, true, true, true, true, true, true, true, false, false, false, false, false, false, false, false, false, false, false, false, false, false, false, false, false, false, false, false, false, false, false, false, false] rfl rfl (by kernel_rfl) (fun _ _ _ h => h) (Or.inl ⟨by rfl, ?_⟩) ?_ ?_
      rotate_left
      ·intro w'
       go_simp
       with_reducible rfl
      rotate_left
      ·simp only [Act.put, sA_, s0_, s1_]
       rfl
      refine take_ (i := 9) (N := some 59) (v := ?_) (a' := ?_) #[true, true, true, true, true, true, true, true, true, true, false, false, false, false, false, false, false, false, false, false, false, false, false, false, false, false, false, false, false, false, false, false, false, false] rfl rfl (by kernel_rfl) (fun _ _ _ h => h) (Or.inl ⟨by rfl, ?_⟩) hHeld ?_ ?_
      rotate_left
      ·rintro w' ⟨s0, s1, s2, s3, s4, s5, s6, s7, s8, s9, s10, s11, s12, s13, s14⟩
       go_simp
       with_reducible rfl
      rotate_left
      ·simp only [Act.put, sA_, s0_, s1_]
       rfl
      refine pure_ (i := 10) (N := some 60) (v := ?_) (a' := ?_) #[true, true, true, true, true, true, true, true, true, true, true, false, false, false, false, false, false, false, false, false, false, false, false, false, false, false, false, false, false, false, false, false, false, false] rfl rfl (by kernel_rfl) (fun _ _ _ h => h) (Or.inl ⟨by rfl, ?_⟩) ?_ ?_
      rotate_left
      ·intro w'
       go_simp
       with_reducible rfl
      rotate_left
      ·simp only [Act.put, sA_, s0_, s1_]
       rfl
      refine pure_ (i := 11) (N := some 61) (v := ?_) (a' := ?_) #[true, true, true, true, true, true, true, true, true, true, true, true, false, false, false, false, false, false, false, false, false, false, false, false, false, false, false, false, false, false, false, false, false, false] rfl rfl (by kernel_rfl) (fun _ _ _ h => h) (Or.inl ⟨by rfl, ?_⟩) ?_ ?_
      rotate_left
      ·intro w'
       go_simp
       with_reducible rfl
      rotate_left
      ·simp only [Act.put, sA_, s0_, s1_]
       rfl
      refine take_ (i := 12) (N := some 62) (v := ?_) (a' := ?_) #[true, true, true, true, true, true, true, true, true, true, true, true, true, false, false, false, false, false, false, false, false, false, false, false, false, false, false, false, false, false, false, false, false, false] rfl rfl (by kernel_rfl) (fun _ _ _ h => h) (Or.inl ⟨by rfl, ?_⟩) hHeld ?_ ?_
      rotate_left
      ·rintro w' ⟨s0, s1, s2, s3, s4, s5, s6, s7, s8, s9, s10, s11, s12, s13, s14⟩
       go_simp
       with_reducible rfl
      rotate_left
      ·simp only [Act.put, sA_, s0_, s1_]
       rfl
      refine pure_ (i := 13) (N := some 63) (v := ?_) (a' := ?_) #[true, true, true, true, true, true, true, true, true, true, true, true, true, true, false, false, false, false, false, false, false, false, false, false, false, false, false, false, false, false, false, false, false, false] rfl rfl (by kernel_rfl) (fun _ _ _ h => h) (Or.inl ⟨by rfl, ?_⟩) ?_ ?_
      rotate_left
      ·intro w'
       go_simp
       with_reducible rfl
      rotate_left
      ·simp only [Act.put, sA_, s0_, s1_]
       rfl
      refine pure_ (i := 14) (N := some 64) (v := ?_) (a' := ?_) #[true, true, true, true, true, true, true, true, true, true, true, true, true, true, true, false, false, false, false, false, false, false, false, false, false, false, false, false, false, false, false, false, false, false] rfl rfl (by kernel_rfl) (fun _ _ _ h => h) (Or.inl ⟨by rfl, ?_⟩) ?_ ?_
      rotate_left
      ·intro w'
       go_simp
       with_reducible rfl
      rotate_left
      ·simp only [Act.put, sA_, s0_, s1_]
       rfl
      refine take_ (i := 15) (N := some 65) (v := ?_) (a' := ?_) #[true, true, true, true, true, true, true, true, true, true, true, true, true, true, true, true, false, false, false, false, false, false, false, false, false, false, false, false, false, false, false, false, false, false] rfl rfl (by kernel_rfl) (fun _ _ _ h => h) (Or.inl ⟨by rfl, ?_⟩) hHeld ?_ ?_
      rotate_left
      ·rintro w' ⟨s0, s1, s2, s3, s4, s5, s6, s7, s8, s9, s10, s11, s12, s13, s14⟩
       go_simp
       with_reducible rfl
      rotate_left
      ·simp only [Act.put, sA_, s0_, s1_]
       rfl
      refine pure_ (i := 16) (N := some 66) (v := ?_) (a' := ?_) #[true, true, true, true, true, true, true, true, true, true, true, true, true, true, true, true, true, false, false, false, false, false, false, false, false, false, false, false, false, false, false, false, false, false] rfl rfl (by kernel_rfl) (fun _ _ _ h => h) (Or.inl ⟨by rfl, ?_⟩) ?_ ?_
      rotate_left
      ·intro w'
       go_simp
       with_reducible rfl
      rotate_left
      ·simp only [Act.put, sA_, s0_, s1_]
       rfl
      refine pure_ (i := 17) (N := some 67) (v := ?_) (a' := ?_) #[true, true, true, true, true, true, true, true, true, true, true, true, true, true, true, true, true, true, false, false, false, false, false, false, false, false, false, false, false, false, false, false, false, false] rfl rfl (by kernel_rfl) (fun _ _ _ h => h) (Or.inl ⟨by rfl, ?_⟩) ?_ ?_
      rotate_left
      ·intro w'
       go_simp
       with_reducible rfl
      rotate_left
      ·simp only [Act.put, sA_, s0_, s1_]
       rfl
      refine take_ (i := 18) (N := some 68) (v := ?_) (a' := ?_) #[true, true, true, true, true, true, true, true, true, true, true, true, true, true, true, true, true, true, true, false, false, false, false, false, false, false, false, false, false, false, false, false, false, false] rfl rfl (by kernel_rfl) (fun _ _ _ h => h) (Or.inl ⟨by rfl, ?_⟩) hHeld ?_ ?_
      rotate_left
      ·rintro w' ⟨s0, s1, s2, s3, s4, s5, s6, s7, s8, s9, s10, s11, s12, s13, s14⟩
       go_simp
       with_reducible rfl
      rotate_left
      ·simp only [Act.put, sA_, s0_, s1_]
       rfl
      refine pure_ (i := 19) (N := some 69) (v := ?_) (a' := ?_) #[true, true, true, true, true, true, true, true, true, true, true, true, true, true, true, true, true, true, true, true, false, false, false, false, false, false, false, false, false, false, false, false, false, false] rfl rfl (by kernel_rfl) (fun _ _ _ h => h) (Or.inl ⟨by rfl, ?_⟩) ?_ ?_
      rotate_left
      ·intro w'
       go_simp
       with_reducible rfl
      rotate_left
      ·simp only [Act.put, sA_, s0_, s1_]
       rfl
      refine pure_ (i := 20) (N := some 70) (v := ?_) (a' := ?_) #[true, true, true, true, true, true, true, true, true, true, true, true, true, true, true, true, true, true, true, true, true, false, false, false, false, false, false, false, false, false, false, false, false, false] rfl rfl (by kernel_rfl) (fun _ _ _ h => h) (Or.inl ⟨by rfl, ?_⟩) ?_ ?_
      rotate_left
      ·intro w'
       go_simp
       with_reducible rfl
      rotate_left
      ·simp only [Act.put, sA_, s0_, s1_]
       rfl
      refine take_ (i := 21) (N := some 71) (v := ?_) (a' := ?_) #[true, true, true, true, true, true, true, true, true, true, true, true, true, true, true, true, true, true, true, true, true, true, false, false, false, false, false, false, false, false, false, false, false, false] rfl rfl (by kernel_rfl) (fun _ _ _ h => h) (Or.inl ⟨by rfl, ?_⟩) hHeld ?_ ?_
      rotate_left
      ·rintro w' ⟨s0, s1, s2, s3, s4, s5, s6, s7, s8, s9, s10, s11, s12, s13, s14⟩
       go_simp
       with_reducible rfl
      rotate_left
      ·simp only [Act.put, sA_, s0_, s1_]
       rfl
      refine pure_ (i := 22) (N := some 72) (v := ?_) (a' := ?_) #[true, true, true, true, true, true, true, true, true, true, true, true, true, true, true, true, true, true, true, true, true, true, true, false, false, false, false, false, false, false, false, false, false, false] rfl rfl (by kernel_rfl) (fun _ _ _ h => h) (Or.inl ⟨by rfl, ?_⟩) ?_ ?_
      rotate_left
      ·intro w'
       go_simp
       with_reducible rfl
      rotate_left
      ·simp only [Act.put, sA_, s0_, s1_]
       rfl
      refine pure_ (i := 23) (N := some 73) (v := ?_) (a' := ?_) #[true, true, true, true, true, true, true, true, true, true, true, true, true, true, true, true, true, true, true, true, true, true, true, true, false, false, false, false, false, false, false, false, false, false] rfl rfl (by kernel_rfl) (fun _ _ _ h => h) (Or.inl ⟨by rfl, ?_⟩) ?_ ?_
      rotate_left
      ·intro w'
       go_simp
       with_reducible rfl
      rotate_left
      ·simp only [Act.put, sA_, s0_, s1_]
       rfl
      refine take_ (i := 24) (N := some 74) (v := ?_) (a' := ?_) #[true, true, true, true, true, true, true, true, true, true, true, true, true, true, true, true, true, true, true, true, true, true, true, true, true, false, false, false, false, false, false, false, false, false] rfl rfl (by kernel_rfl) (fun _ _ _ h => h) (Or.inl ⟨by rfl, ?_⟩) hHeld ?_ ?_
      rotate_left
      ·rintro w' ⟨s0, s1, s2, s3, s4, s5, s6, s7, s8, s9, s10, s11, s12, s13, s14⟩
       go_simp
       with_reducible rfl
      rotate_left
      ·simp only [Act.put, sA_, s0_, s1_]
       rfl
      refine pure_ (i := 25) (N := some 75) (v := ?_) (a' := ?_) #[true, true, true, true, true, true, true, true, true, true, true, true, true, true, true, true, true, true, true, true, true, true, true, true, true, true, false, false, false, false, false, false, false, false] rfl rfl (by kernel_rfl) (fun _ _ _ h => h) (Or.inl ⟨by rfl, ?_⟩) ?_ ?_
      rotate_left
      ·intro w'
       go_simp
       with_reducible rfl
      rotate_left
      ·simp only [Act.put, sA_, s0_, s1_]
       rfl
      refine pure_ (i := 26) (N := some 76) (v := ?_) (a' := ?_) #[true, true, true, true, true, true, true, true, true, true, true, true, true, true, true, true, true, true, true, true, true, true, true, true, true, true, true, false, false, false, false, false, false, false] rfl rfl (by kernel_rfl) (fun _ _ _ h => h) (Or.inl ⟨by rfl, ?_⟩) ?_ ?_
      rotate_left
      ·intro w'
       go_simp
       with_reducible rfl
      rotate_left
      ·simp only [Act.put, sA_, s0_, s1_]
       rfl
      refine take_ (i := 27) (N := some 77) (v := ?_) (a' := ?_) #[true, true, true, true, true, true, true, true, true, true, true, true, true, true, true, true, true, true, true, true, true, true, true, true, true, true, true, true, false, false, false, false, false, false] rfl rfl (by kernel_rfl) (fun _ _ _ h => h) (Or.inl ⟨by rfl, ?_⟩) hHeld ?_ ?_
      rotate_left
      ·rintro w' ⟨s0, s1, s2, s3, s4, s5, s6, s7, s8, s9, s10, s11, s12, s13, s14⟩
       go_simp
       with_reducible rfl
      rotate_left
      ·simp only [Act.put, sA_, s0_, s1_]
       rfl
      refine pure_ (i := 28) (N := some 78) (v := ?_) (a' := ?_) #[true, true, true, true, true, true, true, true, true, true, true, true, true, true, true, true, true, true, true, true, true, true, true, true, true, true, true, true, true, false, false, false, false, false] rfl rfl (by kernel_rfl) (fun _ _ _ h => h) (Or.inl ⟨by rfl, ?_⟩) ?_ ?_
      rotate_left
      ·intro w'
       go_simp
       with_reducible rfl
      rotate_left
      ·simp only [Act.put, sA_, s0_, s1_]
       rfl
      refine pure_ (i := 29) (N := some 79) (v := ?_) (a' := ?_) #[true, true, true, true, true, true, true, true, true, true, true, true, true, true, true, true, true, true, true, true, true, true, true, true, true, true, true, true, true, true, false, false, false, false] rfl rfl (by kernel_rfl) (fun _ _ _ h => h) (Or.inl ⟨by rfl, ?_⟩) ?_ ?_
      rotate_left
      ·intro w'
       go_simp
       with_reducible rfl
      rotate_left
      ·simp only [Act.put, sA_, s0_, s1_]
       rfl
      refine take_ (i := 30) (N := some 80) (v := ?_) (a' := ?_) #[true, true, true, true, true, true, true, true, true, true, true, true, true, true, true, true, true, true, true, true, true, true, true, true, true, true, true, true, true, true, true, false, false, false] rfl rfl (by kernel_rfl) (fun _ _ _ h => h) (Or.inl ⟨by rfl, ?_⟩) hHeld ?_ ?_
      rotate_left
      ·rintro w' ⟨s0, s1, s2, s3, s4, s5, s6, s7, s8, s9, s10, s11, s12, s13, s14⟩
       go_simp
       with_reducible rfl
      rotate_left
      ·simp only [Act.put, sA_, s0_, s1_]
       rfl
      refine pure_ (i := 31) (N := some 81) (v := ?_) (a' := ?_) #[true, true, true, true, true, true, true, true, true, true, true, true, true, true, true, true, true, true, true, true, true, true, true, true, true, true, true, true, true, true, true, true, false, false] rfl rfl (by kernel_rfl) (fun _ _ _ h => h) (Or.inl ⟨by rfl, ?_⟩) ?_ ?_
      rotate_left
      ·intro w'
       go_simp
       with_reducible rfl
      rotate_left
      ·simp only [Act.put, sA_, s0_, s1_]
       rfl
      refine one_ (i := 32) (N := none) #[true, true, true, true, true, true, true, true, true, true, true, true, true, true, true, true, true, true, true, true, true, true, true, true, true, true, true, true, true, true, true, true, true, false] rfl rfl (by kernel_rfl) (by decide) (fun K hK => ?_)
      refine store_at (by rfl) rfl 25 (.tmp 2) (.tmp 81) rfl (g := w.heap.size) (e := 25) (cs' := headCells d0 d1 d2 d3 d4 (rdOf ByteArray.empty (padTo F) 2) (rdOf ByteArray.empty (padTo F) 3) (rdOf ByteArray.empty (padTo F) 4) (rdOf ByteArray.empty (padTo F) 5) (rdOf ByteArray.empty (padTo F) 6) (rdOf ByteArray.empty (padTo F) 7) (rdOf ByteArray.empty (padTo F) 8) (rdOf ByteArray.empty (padTo F) 9) (rdOf ByteArray.empty (padTo F) 10) (rdOf ByteArray.empty (padTo F) 11)) rfl rfl rfl ZR.out (by kernel_rfl) rfl head_one ?_
      intro W' q1 q2 q4
      have m1 : ∀ i, W'.cell? ⟨w1.heap.size, i, none⟩ = _ := fun i => World.cell?_of_block (q2 w1.heap.size (by omega))
      have m2 : ∀ i, W'.cell? ⟨gr, i, none⟩ = _ := fun i => World.cell?_of_block (q2 gr (by omega))
      refine hK.out _ _ ⟨(m1 0).trans e0, (m1 1).trans e1, (m1 2).trans e2, (m1 3).trans e3, (m1 4).trans e4, (m2 (orr + 2)).trans f2, (m2 (orr + 3)).trans f3, (m2 (orr + 4)).trans f4, (m2 (orr + 5)).trans f5, (m2 (orr + 6)).trans f6, (m2 (orr + 7)).trans f7, (m2 (orr + 8)).trans f8, (m2 (orr + 9)).trans f9, (m2 (orr + 10)).trans f10, (m2 (orr + 11)).trans f11⟩ (fun hHeld => ?_)
      clear hK K
      refine pure_ (i := 33) (N := some 3) (v := ?_) (a' := ?_) #[true, true, true, true, true, true, true, true, true, true, true, true, true, true, true, true, true, true, true, true, true, true, true, true, true, true, true, true, true, true, true, true, true, true] rfl rfl (by kernel_rfl) (fun _ _ _ h => h) (Or.inl ⟨by rfl, ?_⟩) ?_ ?_
      rotate_left
      ·intro w'
       go_simp
       with_reducible rfl
      rotate_left
      ·simp only [Act.put, sA_, s0_, s1_]
       rfl
      refine done_ (by kernel_rfl) ?_
      go_wp2_with fail
      exact bodyPost_ret (head_loads _ 2 3 rfl q1 rfl rfl) rfl ⟨rfl, q4 _ _ (Nat.le_refl _) (below_drew1 BR.out)⟩
   ·rw [if_neg hyz] at hk
    simp only [Option.some.injEq, Prod.mk.injEq] at hk
    obtain ⟨rfl, rfl, rfl, rfl, rfl, rfl, rfl, rfl, rfl, rfl, rfl, rfl, rfl, rfl, rfl, rfl⟩ := hk
    have hyb : ((rdOf ByteArray.empty F 1).toList == (strOfNums [d1, d2, d3, d4]).toList) = false := by simpa using hyz
    have hyb2 : ((rdOf ByteArray.empty F 1).toList != (strOfNums [d1, d2, d3, d4]).toList) = true := by simpa using hyz
    clear hyz
    go_wp2_with fail
    refine start_ (n := 19) (S := fun w' => w'.cell? ⟨w1.heap.size, 1, none⟩ = some (.int .u8 d1) ∧ w'.cell? ⟨w1.heap.size, 2, none⟩ = some (.int .u8 d2) ∧ w'.cell? ⟨w1.heap.size, 3, none⟩ = some (.int .u8 d3) ∧ w'.cell? ⟨w1.heap.size, 4, none⟩ = some (.int .u8 d4) ∧ w'.cell? ⟨g3, o3 + 1, none⟩ = some (.string (rdOf ByteArray.empty F 1))) (ds := []) #[false, false, false, false, false, false, false, false, false, false, false, false, false, false, false, false, false, false, false] (by kernel_rfl) rfl rfl ⟨e1, e2, e3, e4, f1⟩ (fun hHeld => ?_)
    refine pure_ (i := 0) (N := some 24) (v := ?_) (a' := ?_) #[true, false, false, false, false, false, false, false, false, false, false, false, false, false, false, false, false, false, false] rfl rfl (by kernel_rfl) (fun _ _ _ h => h) (Or.inl ⟨by rfl, ?_⟩) ?_ ?_
    rotate_left
    ·intro w'
     go_simp
     with_reducible rfl
    rotate_left
    ·simp only [Act.put, sA_, s0_, s1_]
     rfl
    refine pure_ (i := 1) (N := some 25) (v := ?_) (a' := ?_) #[true, true, false, false, false, false, false, false, false, false, false, false, false, false, false, false, false, false, false] rfl rfl (by kernel_rfl) (fun _ _ _ h => h) (Or.inl ⟨by rfl, ?_⟩) ?_ ?_
    rotate_left
    ·intro w'
     go_simp
     with_reducible rfl
    rotate_left
    ·simp only [Act.put, sA_, s0_, s1_]
     rfl
    refine pure_ (i := 2) (N := some 26) (v := ?_) (a' := ?_) #[true, true, true, false, false, false, false, false, false, false, false, false, false, false, false, false, false, false, false] rfl rfl (by kernel_rfl) (fun _ _ _ h => h) (Or.inl ⟨by rfl, ?_⟩) ?_ ?_
    rotate_left
    ·intro w'
     go_simp
     with_reducible rfl
    rotate_left
    ·simp only [Act.put, sA_, s0_, s1_]
     rfl
    refine pure_ (i := 3) (N := some 27) (v := ?_) (a' := ?_) #[true, true, true, true, false, false, false, false, false, false, false, false, false, false, false, false, false, false, false] rfl rfl (by kernel_rfl) (fun _ _ _ h => h) (Or.inl ⟨by rfl, ?_⟩) ?_ ?_
    rotate_left
    ·intro w'
     go_simp
     with_reducible rfl
    rotate_left
    ·simp only [Act.put, sA_, s0_, s1_]
     rfl
    refine pure_ (i := 4) (N := some 28) (v := ?_) (a' := ?_) #[true, true, true, true, true, false, false, false, false, false, false, false, false, false, false, false, false, false, false] rfl rfl (by kernel_rfl) (fun _ _ _ h => h) (Or.inl ⟨by rfl, ?_⟩) ?_ ?_
    rotate_left
    ·intro w'
     go_simp
     with_reducible rfl
    rotate_left
    ·simp only [Act.put, sA_, s0_, s1_]
     rfl
    refine pure_ (i := 5) (N := some 29) (v := ?_) (a' := ?_) #[true, true, true, true, true, true, false, false, false, false, false, false, false, false, false, false, false, false, false] rfl rfl (by kernel_rfl) (fun _ _ _ h => h) (Or.inl ⟨by rfl, ?_⟩) ?_ ?_
    rotate_left
    ·intro w'
     go_simp
     with_reducible rfl
    rotate_left
    ·simp only [Act.put, sA_, s0_, s1_]
     rfl
    refine take_ (i := 6) (N := some 30) (v := ?_) (a' := ?_) #[true, true, true, true, true, true, true, false, false, false, false, false, false, false, false, false, false, false, false] rfl rfl (by kernel_rfl) (fun _ _ _ h => h) (Or.inl ⟨by rfl, ?_⟩) hHeld ?_ ?_
    rotate_left
    ·rintro w' ⟨s1, s2, s3, s4, s5⟩
     go_simp
     with_reducible rfl
    rotate_left
    ·simp only [Act.put, sA_, s0_, s1_]
     rfl
    refine pure_ (i := 7) (N := some 31) (v := ?_) (a' := ?_) #[true, true, true, true, true, true, true, true, false, false, false, false, false, false, false, false, false, false, false] rfl rfl (by kernel_rfl) (fun _ _ _ h => h) (Or.inl ⟨by rfl, ?_⟩) ?_ ?_
    rotate_left
    ·intro w'
     go_simp
     with_reducible rfl
    rotate_left
    ·simp only [Act.put, sA_, s0_, s1_]
     rfl
    refine take_ (i := 8) (N := some 32) (v := ?_) (a' := ?_) #[true, true, true, true, true, true, true, true, true, false, false, false, false, false, false, false, false, false, false] rfl rfl (by kernel_rfl) (fun _ _ _ h => h) (Or.inl ⟨by rfl, ?_⟩) hHeld ?_ ?_
    rotate_left
    ·rintro w' ⟨s1, s2, s3, s4, s5⟩
     go_simp
     with_reducible rfl
    rotate_left
    ·simp only [Act.put, sA_, s0_, s1_]
     rfl
    refine pure_ (i := 9) (N := some 33) (v := ?_) (a' := ?_) #[true, true, true, true, true, true, true, true, true, true, false, false, false, false, false, false, false, false, false] rfl rfl (by kernel_rfl) (fun _ _ _ h => h) (Or.inl ⟨by rfl, ?_⟩) ?_ ?_
    rotate_left
    ·intro w'
     go_simp
     with_reducible rfl
    rotate_left
    ·simp only [Act.put, sA_, s0_, s1_]
     rfl
    refine take_ (i := 10) (N := some 34) (v := ?_) (a' := ?_) #[true, true, true, true, true, true, true, true, true, true, true, false, false, false, false, false, false, false, false] rfl rfl (by kernel_rfl) (fun _ _ _ h => h) (Or.inl ⟨by rfl, ?_⟩) hHeld ?_ ?_
    rotate_left
    ·rintro w' ⟨s1, s2, s3, s4, s5⟩
     go_simp
     with_reducible rfl
    rotate_left
    ·simp only [Act.put, sA_, s0_, s1_]
     rfl
    refine pure_ (i := 11) (N := some 35) (v := ?_) (a' := ?_) #[true, true, true, true, true, true, true, true, true, true, true, true, false, false, false, false, false, false, false] rfl rfl (by kernel_rfl) (fun _ _ _ h => h) (Or.inl ⟨by rfl, ?_⟩) ?_ ?_
    rotate_left
    ·intro w'
     go_simp
     with_reducible rfl
    rotate_left
    ·simp only [Act.put, sA_, s0_, s1_]
     rfl
    refine take_ (i := 12) (N := some 36) (v := ?_) (a' := ?_) #[true, true, true, true, true, true, true, true, true, true, true, true, true, false, false, false, false, false, false] rfl rfl (by kernel_rfl) (fun _ _ _ h => h) (Or.inl ⟨by rfl, ?_⟩) hHeld ?_ ?_
    rotate_left
    ·rintro w' ⟨s1, s2, s3, s4, s5⟩
     go_simp
     with_reducible rfl
    rotate_left
    ·simp only [Act.put, sA_, s0_, s1_]
     rfl
    refine pure_ (i := 13) (N := some 37) (v := ?_) (a' := ?_) #[true, true, true, true, true, true, true, true, true, true, true, true, true, true, false, false, false, false, false] rfl rfl (by kernel_rfl) (fun _ _ _ h => h) (Or.inl ⟨by rfl, ?_⟩) ?_ ?_
    rotate_left
    ·intro w'
     go_simp
     with_reducible rfl
    rotate_left
    ·simp only [Act.put, sA_, s0_, s1_]
     rfl
    refine take_ (i := 14) (N := some 38) (v := ?_) (a' := ?_) #[true, true, true, true, true, true, true, true, true, true, true, true, true, true, true, false, false, false, false] rfl rfl (by kernel_rfl) (fun _ _ _ h => h) (Or.inl ⟨by rfl, ?_⟩) hHeld ?_ ?_
    rotate_left
    ·rintro w' ⟨s1, s2, s3, s4, s5⟩
     go_simp
     with_reducible rfl
    rotate_left
    ·simp only [Act.put, sA_, s0_, s1_]
     rfl
    refine one_ (i := 15) (N := some 39) #[true, true, true, true, true, true, true, true, true, true, true, true, true, true, true, true, false, false, false] rfl rfl (by kernel_rfl) (by decide) (fun K hK => ?_)
    go_simp
    refine hK.out _ _ ⟨cell_alloc_old _ e1, cell_alloc_old _ e2, cell_alloc_old _ e3, cell_alloc_old _ e4, cell_alloc_old _ f1⟩ (fun hHeld => ?_)
    clear hK K
    refine one_ (i := 16) (N := some 40) #[true, true, true, true, true, true, true, true, true, true, true, true, true, true, true, true, true, false, false] rfl rfl (by kernel_rfl) (by decide) (fun K hK => ?_)
    have kv := hconv w3
    go_simp
    clear kv
    refine hK.out _ _ hHeld (fun hHeld => ?_)
    clear hK K
    refine pure_ (i := 17) (N := some 41) (v := ?_) (a' := ?_) #[true, true, true, true, true, true, true, true, true, true, true, true, true, true, true, true, true, true, false] rfl rfl (by kernel_rfl) (fun _ _ _ h => h) (Or.inl ⟨by rfl, ?_⟩) ?_ ?_
    rotate_left
    ·intro w'
     go_simp
     with_reducible rfl
    rotate_left
    ·simp only [Act.put, sA_, s0_, s1_]
     rfl
    refine pure_ (i := 18) (N := some 42) (v := ?_) (a' := ?_) #[true, true, true, true, true, true, true, true, true, true, true, true, true, true, true, true, true, true, true] rfl rfl (by kernel_rfl) (fun _ _ _ h => h) (Or.inl ⟨by rfl, ?_⟩) ?_ ?_
    rotate_left
    ·intro w'
     go_simp
     with_reducible rfl
    rotate_left
    ·simp only [Act.put, sA_, s0_, s1_]
     rfl
    refine done_ (by kernel_rfl) ?_
    clear hHeld
    go_wp2_with (first
     | (refine gate_store (t := 25) rfl ?_; refine store_whole rfl rfl 25 _ _ rfl (g := w.heap.size) (e := 25) (cs' := headCells 0 0 0 0 0 ⟨#[]⟩ ⟨#[]⟩ ⟨#[]⟩ ⟨#[]⟩ ⟨#[]⟩ ⟨#[]⟩ ⟨#[]⟩ ⟨#[]⟩ ⟨#[]⟩ ⟨#[]⟩) rfl rfl rfl (heap_old _ Z3.out) (by kernel_rfl) rfl head_one ?_; intro W' q1 q2 q3 q4))
    exact bodyPost_ret (head_loads _ 2 3 rfl q1 rfl rfl) rfl ⟨rfl, q4 _ _ (Nat.le_refl _) (below_drew1 (B3.out.alloc (show w.heap.size ≤ w3.heap.size by omega) _))⟩
 ·rw [if_neg her] at hk
  have hne : (er == 0) = false := beq_eq_false_iff_ne.2 her
  simp only [Option.some.injEq, Prod.mk.injEq] at hk
  obtain ⟨rfl, rfl, rfl, rfl, rfl, rfl, rfl, rfl, rfl, rfl, rfl, rfl, rfl, rfl, rfl, rfl⟩ := hk
  go_enter Tryd.func40, Tryd.ntmps40
  go_wp2_with (first
   | (go_at_call 71; with_reducible refine (lamplighterref06_Read.calls k A0 c0 l0 d0 d1 d2 d3 d4 er _ (Kd.C_below HR.out ((Below.refl _ w).alloc (Nat.le_refl _) _)) HC.out HD.out).mono ?_; rintro e w1 ⟨rfl, hb1⟩; have z0 := Lib.hid (blk_below (heap_new w _) hb1); have hB1 := Lib.hid (below_step ((Below.refl _ w).alloc (Nat.le_refl _) _) hb1); clear hb1)
   | (refine gate_store (t := 25) rfl ?_; refine store_whole rfl rfl 25 _ _ rfl (g := w.heap.size) (e := 25) (cs' := headCells 0 0 0 0 0 ⟨#[]⟩ ⟨#[]⟩ ⟨#[]⟩ ⟨#[]⟩ ⟨#[]⟩ ⟨#[]⟩ ⟨#[]⟩ ⟨#[]⟩ ⟨#[]⟩ ⟨#[]⟩) rfl rfl rfl (heap_old _ z0.out) (by kernel_rfl) rfl head_one ?_; intro W' q1 q2 q3 q4))
  exact bodyPost_ret (head_loads _ 2 3 rfl q1 rfl rfl) rfl ⟨rfl, q4 _ _ (Nat.le_refl _) (hB1.out.alloc hB1.out.size _)⟩


end Go.Proofs.YtcjcaojgminjpabDoor.PB
