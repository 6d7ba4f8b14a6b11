/- What AcceptDrops computes: its walk; conditions: the tables lie as the program lays them. -/
import Derived.Test.YtmjdnkiohdkfpaaDoorPFx15
import Derived.Test.YtmjdnkiohdkfpaaDoorPFx16
import Derived.Test.YtmjdnkiohdkfpaaDoorPFx19
namespace Go.Proofs.YtmjdnkiohdkfpaaDoor.PF
open Go.RowKit Go.Proofs.YtmjdnkiohdkfpaaDoorW.PrintWords Go.Proofs.YtmjdnkiohdkfpaaDoorW.PrintLast Go.Proofs.YtmjdnkiohdkfpaaDoorW.PrintMore
set_option linter.unusedVariables false
set_option linter.unusedSimpArgs false
/-! ### lamplighterlaw11_AcceptDrops: function 5 -/
open Classical in
/-- What is asked of bytes that don't begin with MSH. -/
noncomputable def dropsTail (k : Nat) (b : List Int) (kept : Bool) : Option Bool :=
  (lamplighterlaw11_alive.f k).bind fun a => (accept_Verdict.f k b).bind fun d => (accept_Reply.f k b kept).bind fun r => (accept_Stored.f k b).bind fun s =>
    if a = true ∧ r = ([], false) ∧ s = false ∧ (d = (0, 0, 0, 0, 0, ⟨#[]⟩, ⟨#[]⟩, ⟨#[]⟩, ⟨#[]⟩, ⟨#[]⟩, ⟨#[]⟩, ⟨#[]⟩, ⟨#[]⟩, ⟨#[]⟩, ⟨#[]⟩, ⟨#[]⟩, 7) ∨ d = (0, 0, 0, 0, 0, ⟨#[]⟩, ⟨#[]⟩, ⟨#[]⟩, ⟨#[]⟩, ⟨#[]⟩, ⟨#[]⟩, ⟨#[]⟩, ⟨#[]⟩, ⟨#[]⟩, ⟨#[]⟩, ⟨#[]⟩, 11)) then some true else none
noncomputable def lamplighterlaw11_AcceptDrops.f (k : Nat) (l0 : List Int) (a1 : Bool) : Option (Bool) :=
  if l0.length ≤ 2000 then
    if 9 ≤ l0.length ∧ Lib.bytesOf (l0.take 3) = [77, 83, 72] then dropsTail k (l0.drop 1) a1 else dropsTail k l0 a1
  else lamplighterlaw11_alive.f k
theorem drops_open {k : Nat} {b : List Int} {kept r : Bool} (h : dropsTail k b kept = some r) : lamplighterlaw11_alive.f k = some true ∧ accept_Reply.f k b kept = some ([], false) ∧ accept_Stored.f k b = some false ∧ r = true ∧ ∃ e : Int, (e = 7 ∨ e = 11) ∧ accept_Verdict.f k b = some (0, 0, 0, 0, 0, ⟨#[]⟩, ⟨#[]⟩, ⟨#[]⟩, ⟨#[]⟩, ⟨#[]⟩, ⟨#[]⟩, ⟨#[]⟩, ⟨#[]⟩, ⟨#[]⟩, ⟨#[]⟩, ⟨#[]⟩, e) := by
  unfold dropsTail at h
  obtain ⟨a, ha, h1⟩ := Option.bind_eq_some_iff.1 h
  obtain ⟨d, hd, h2⟩ := Option.bind_eq_some_iff.1 h1
  obtain ⟨q, hq, h3⟩ := Option.bind_eq_some_iff.1 h2
  obtain ⟨s, hs, h4⟩ := Option.bind_eq_some_iff.1 h3
  clear h h1 h2 h3
  split at h4
  case isFalse => cases h4
  rename_i hc
  obtain rfl := Option.some.inj h4
  clear h4
  obtain ⟨rfl, rfl, rfl, hc⟩ := hc
  rcases hc with rfl | rfl
  · exact ⟨ha, hq, hs, rfl, 7, .inl rfl, hd⟩
  · exact ⟨ha, hq, hs, rfl, 11, .inr rfl, hd⟩
theorem drop_not {l : List Int} (h9 : 9 ≤ l.length) (h : Lib.bytesOf (l.take 3) = [77, 83, 72]) : ¬ Lib.bytesOf ((l.drop 1).take 3) = [77, 83, 72] := by
  match l, h9 with
  | a :: b :: c :: d :: t, _ =>
    intro h2
    simp [Lib.bytesOf] at h h2
    exact absurd (h.2.1.symm.trans h2.1) (by decide)
theorem C_string3 {w : World} {A : Option Addr} {c : Nat} {xs : List Int} (h : Kd.C (Kd.int .u8) w A xs.length xs) : (convert 26 9 (.slice A xs.length c)).run Tryd.prog w = .ok (.string (strOfNums xs)) w :=
  Kd.C_string (P := Tryd.prog) Tryd.underlying26 Tryd.underlying5 Tryd.underlying9 h
set_option maxHeartbeats 16000000 in
set_option maxRecDepth 100000 in
theorem drops_short (k : Nat) (A0 : Option Addr) (c0 : Nat) (l0 : List Int) (a1 : Bool) (w : World) (hr0 : Kd.C (Kd.int .u8) w A0 l0.length l0) (hc0 : l0.length ≤ c0) (d2 : decide ((l0.length : Int) > 2000) = false) (h9 : ¬ 9 ≤ l0.length) (h : dropsTail k l0 a1 = some true) (hG : GlobOK w) (hGC : GlobC w) (hGE : GlobE w) :
    Calls Tryd.prog 5 #[.slice A0 l0.length c0, .bool a1] w fun e w' => e = .returned (.bool true) ∧ Below w.heap.size w w' := by
  have HG := Lib.hid hG
  have HGC := Lib.hid hGC
  have HGE := Lib.hid hGE
  clear hG hGC hGE
  have d9 : decide ((l0.length : Int) ≥ 9) = false := decide_eq_false (by omega)
  obtain ⟨hA, hR, hS, _, ex, hE, hD⟩ := drops_open h
  have HA := Lib.hid hA
  have HD := Lib.hid hD
  have HR := Lib.hid hR
  have HS := Lib.hid hS
  have H0 := Lib.hid hr0
  have HC := Lib.hid hc0
  clear hA hD hR hS h h9 hr0 hc0
  go_enter Tryd.func5, Tryd.ntmps5
  rcases hE with rfl | rfl
  · go_wp2_with fail
    refine (accept_Verdict.calls k A0 c0 l0 0 0 0 0 0 ⟨#[]⟩ ⟨#[]⟩ ⟨#[]⟩ ⟨#[]⟩ ⟨#[]⟩ ⟨#[]⟩ ⟨#[]⟩ ⟨#[]⟩ ⟨#[]⟩ ⟨#[]⟩ ⟨#[]⟩ 7 _ (by repeat (first | exact H0.out | (with_reducible refine Kd.C_alloc ?_ _) | (with_reducible refine Kd.C_drewN ?_ _) | (with_reducible refine Kd.C_drew ?_))) HC.out HD.out (glob_below HG.out (by repeat (first | exact Below.refl _ _ | apply below_alloc | apply pw_below_drewN | apply below_drew1)))).mono ?_
    rintro e w2 ⟨rfl, hb2⟩
    have HB := Lib.hid (below_step (by repeat (first | exact Below.refl _ _ | apply below_alloc | apply pw_below_drewN | apply below_drew1)) hb2)
    clear hb2
    go_wp2_with fail
    have Z2 := Lib.hid (heap_new w2 (.cells #[.int .u8 0, .int .u8 0, .int .u8 0, .int .u8 0, .int .u8 0, .string ⟨#[]⟩, .string ⟨#[]⟩, .string ⟨#[]⟩, .string ⟨#[]⟩, .string ⟨#[]⟩, .string ⟨#[]⟩, .string ⟨#[]⟩, .string ⟨#[]⟩, .string ⟨#[]⟩, .string ⟨#[]⟩] 25))
    have HB2 := Lib.hid (HB.out.alloc HB.out.size (.cells #[.int .u8 0, .int .u8 0, .int .u8 0, .int .u8 0, .int .u8 0, .string ⟨#[]⟩, .string ⟨#[]⟩, .string ⟨#[]⟩, .string ⟨#[]⟩, .string ⟨#[]⟩, .string ⟨#[]⟩, .string ⟨#[]⟩, .string ⟨#[]⟩, .string ⟨#[]⟩, .string ⟨#[]⟩] 25))
    clear HB
    have HB := HB2
    clear HB2
    refine (accept_Reply.calls k A0 c0 l0 a1 [] false _ (Kd.C_below H0.out HB.out) HC.out HR.out (glob_below HG.out HB.out) (globc_below HGC.out HB.out) (globe_below HGE.out HB.out)).mono ?_
    rintro e w3 ⟨v0, rfl, hR, hb3⟩
    obtain ⟨Ao, co, eo⟩ := Kd.R_slice hR
    first | subst eo | (rw [eo])
    have Z3 := Lib.hid (blk_below Z2.out hb3)
    have HB2 := Lib.hid (below_step HB.out hb3)
    clear HB hb3 Z2 hR
    have HB := HB2
    clear HB2
    go_wp2_with fail
    refine (lamplighterlaw11_alive.calls k true _ HA.out (glob_below HG.out HB.out) (globc_below HGC.out HB.out) (globe_below HGE.out HB.out)).mono ?_
    rintro e w4 ⟨rfl, hb4⟩
    have Z4 := Lib.hid (blk_below Z3.out hb4)
    have HB2 := Lib.hid (below_step HB.out hb4)
    clear HB hb4 Z3
    have HB := HB2
    clear HB2
    have e0 := blk_cell Z4.out 0
    have e1 := blk_cell Z4.out 1
    have e2 := blk_cell Z4.out 2
    have e3 := blk_cell Z4.out 3
    have e4 := blk_cell Z4.out 4
    have e5 := blk_cell Z4.out 5
    have e6 := blk_cell Z4.out 6
    have e7 := blk_cell Z4.out 7
    have e8 := blk_cell Z4.out 8
    have e9 := blk_cell Z4.out 9
    have e10 := blk_cell Z4.out 10
    have e11 := blk_cell Z4.out 11
    have e12 := blk_cell Z4.out 12
    have e13 := blk_cell Z4.out 13
    have e14 := blk_cell Z4.out 14
    simp only [List.getElem?_toArray, List.getElem?_cons_zero, List.getElem?_cons_succ] at e0 e1 e2 e3 e4 e5 e6 e7 e8 e9 e10 e11 e12 e13 e14
    go_wp2_with fail
    refine (accept_Stored.calls k A0 c0 l0 false _ (Kd.C_below H0.out HB.out) HC.out HS.out (glob_below HG.out HB.out)).mono ?_
    rintro e w5 ⟨rfl, hb5⟩
    have HB2 := Lib.hid (below_step HB.out hb5)
    clear HB hb5
    have HB := HB2
    clear HB2
    go_wp2_with fail
    go_ret
    exact ⟨by first | rfl | (simp; done), HB.out⟩
  · go_wp2_with fail
    refine (accept_Verdict.calls k A0 c0 l0 0 0 0 0 0 ⟨#[]⟩ ⟨#[]⟩ ⟨#[]⟩ ⟨#[]⟩ ⟨#[]⟩ ⟨#[]⟩ ⟨#[]⟩ ⟨#[]⟩ ⟨#[]⟩ ⟨#[]⟩ ⟨#[]⟩ 11 _ (by repeat (first | exact H0.out | (with_reducible refine Kd.C_alloc ?_ _) | (with_reducible refine Kd.C_drewN ?_ _) | (with_reducible refine Kd.C_drew ?_))) HC.out HD.out (glob_below HG.out (by repeat (first | exact Below.refl _ _ | apply below_alloc | apply pw_below_drewN | apply below_drew1)))).mono ?_
    rintro e w2 ⟨rfl, hb2⟩
    have HB := Lib.hid (below_step (by repeat (first | exact Below.refl _ _ | apply below_alloc | apply pw_below_drewN | apply below_drew1)) hb2)
    clear hb2
    go_wp2_with fail
    have Z2 := Lib.hid (heap_new w2 (.cells #[.int .u8 0, .int .u8 0, .int .u8 0, .int .u8 0, .int .u8 0, .string ⟨#[]⟩, .string ⟨#[]⟩, .string ⟨#[]⟩, .string ⟨#[]⟩, .string ⟨#[]⟩, .string ⟨#[]⟩, .string ⟨#[]⟩, .string ⟨#[]⟩, .string ⟨#[]⟩, .string ⟨#[]⟩] 25))
    have HB2 := Lib.hid (HB.out.alloc HB.out.size (.cells #[.int .u8 0, .int .u8 0, .int .u8 0, .int .u8 0, .int .u8 0, .string ⟨#[]⟩, .string ⟨#[]⟩, .string ⟨#[]⟩, .string ⟨#[]⟩, .string ⟨#[]⟩, .string ⟨#[]⟩, .string ⟨#[]⟩, .string ⟨#[]⟩, .string ⟨#[]⟩, .string ⟨#[]⟩] 25))
    clear HB
    have HB := HB2
    clear HB2
    refine (accept_Reply.calls k A0 c0 l0 a1 [] false _ (Kd.C_below H0.out HB.out) HC.out HR.out (glob_below HG.out HB.out) (globc_below HGC.out HB.out) (globe_below HGE.out HB.out)).mono ?_
    rintro e w3 ⟨v0, rfl, hR, hb3⟩
    obtain ⟨Ao, co, eo⟩ := Kd.R_slice hR
    first | subst eo | (rw [eo])
    have Z3 := Lib.hid (blk_below Z2.out hb3)
    have HB2 := Lib.hid (below_step HB.out hb3)
    clear HB hb3 Z2 hR
    have HB := HB2
    clear HB2
    go_wp2_with fail
    refine (lamplighterlaw11_alive.calls k true _ HA.out (glob_below HG.out HB.out) (globc_below HGC.out HB.out) (globe_below HGE.out HB.out)).mono ?_
    rintro e w4 ⟨rfl, hb4⟩
    have Z4 := Lib.hid (blk_below Z3.out hb4)
    have HB2 := Lib.hid (below_step HB.out hb4)
    clear HB hb4 Z3
    have HB := HB2
    clear HB2
    have e0 := blk_cell Z4.out 0
    have e1 := blk_cell Z4.out 1
    have e2 := blk_cell Z4.out 2
    have e3 := blk_cell Z4.out 3
    have e4 := blk_cell Z4.out 4
    have e5 := blk_cell Z4.out 5
    have e6 := blk_cell Z4.out 6
    have e7 := blk_cell Z4.out 7
    have e8 := blk_cell Z4.out 8
    have e9 := blk_cell Z4.out 9
    have e10 := blk_cell Z4.out 10
    have e11 := blk_cell Z4.out 11
    have e12 := blk_cell Z4.out 12
    have e13 := blk_cell Z4.out 13
    have e14 := blk_cell Z4.out 14
    simp only [List.getElem?_toArray, List.getElem?_cons_zero, List.getElem?_cons_succ] at e0 e1 e2 e3 e4 e5 e6 e7 e8 e9 e10 e11 e12 e13 e14
    go_wp2_with fail
    refine (accept_Stored.calls k A0 c0 l0 false _ (Kd.C_below H0.out HB.out) HC.out HS.out (glob_below HG.out HB.out)).mono ?_
    rintro e w5 ⟨rfl, hb5⟩
    have HB2 := Lib.hid (below_step HB.out hb5)
    clear HB hb5
    have HB := HB2
    clear HB2
    go_wp2_with fail
    go_ret
    exact ⟨by first | rfl | (simp; done), HB.out⟩
set_option maxHeartbeats 16000000 in
set_option maxRecDepth 100000 in
theorem drops_other (k : Nat) (A0 : Option Addr) (c0 : Nat) (l0 : List Int) (a1 : Bool) (w : World) (hr0 : Kd.C (Kd.int .u8) w A0 l0.length l0) (hc0 : l0.length ≤ c0) (d2 : decide ((l0.length : Int) > 2000) = false) (h9 : 9 ≤ l0.length) (h3 : ¬ Lib.bytesOf (l0.take 3) = [77, 83, 72]) (h : dropsTail k l0 a1 = some true) (hG : GlobOK w) (hGC : GlobC w) (hGE : GlobE w) :
    Calls Tryd.prog 5 #[.slice A0 l0.length c0, .bool a1] w fun e w' => e = .returned (.bool true) ∧ Below w.heap.size w w' := by
  have HG := Lib.hid hG
  have HGC := Lib.hid hGC
  have HGE := Lib.hid hGE
  clear hG hGC hGE
  have d9 : decide ((l0.length : Int) ≥ 9) = true := decide_eq_true (by omega)
  have qc3 : (3 : Int) ≤ (c0 : Int) := by omega
  have hl3 : (l0.take 3).length = 3 := by rw [List.length_take]; omega
  have C3 := C_take hr0 (m := 3) (by omega)
  have cv30 := C_string3 (w := w) (c := c0) C3
  rw [hl3] at cv30
  have d3 : ((strOfNums (l0.take 3)).toList == ([77, 83, 72] : List UInt8)) = false := beq_eq_false_iff_ne.2 (by rw [str_list]; exact h3)
  obtain ⟨hA, hR, hS, _, ex, hE, hD⟩ := drops_open h
  have HA := Lib.hid hA
  have HD := Lib.hid hD
  have HR := Lib.hid hR
  have HS := Lib.hid hS
  have H0 := Lib.hid hr0
  have HC := Lib.hid hc0
  clear hA hD hR hS h hr0 hc0 h9 h3 C3 hl3
  go_enter Tryd.func5, Tryd.ntmps5
  rcases hE with rfl | rfl
  · go_wp2_with fail
    refine (accept_Verdict.calls k A0 c0 l0 0 0 0 0 0 ⟨#[]⟩ ⟨#[]⟩ ⟨#[]⟩ ⟨#[]⟩ ⟨#[]⟩ ⟨#[]⟩ ⟨#[]⟩ ⟨#[]⟩ ⟨#[]⟩ ⟨#[]⟩ ⟨#[]⟩ 7 _ (by repeat (first | exact H0.out | (with_reducible refine Kd.C_alloc ?_ _) | (with_reducible refine Kd.C_drewN ?_ _) | (with_reducible refine Kd.C_drew ?_))) HC.out HD.out (glob_below HG.out (by repeat (first | exact Below.refl _ _ | apply below_alloc | apply pw_below_drewN | apply below_drew1)))).mono ?_
    rintro e w2 ⟨rfl, hb2⟩
    have HB := Lib.hid (below_step (by repeat (first | exact Below.refl _ _ | apply below_alloc | apply pw_below_drewN | apply below_drew1)) hb2)
    clear hb2
    go_wp2_with fail
    have Z2 := Lib.hid (heap_new w2 (.cells #[.int .u8 0, .int .u8 0, .int .u8 0, .int .u8 0, .int .u8 0, .string ⟨#[]⟩, .string ⟨#[]⟩, .string ⟨#[]⟩, .string ⟨#[]⟩, .string ⟨#[]⟩, .string ⟨#[]⟩, .string ⟨#[]⟩, .string ⟨#[]⟩, .string ⟨#[]⟩, .string ⟨#[]⟩] 25))
    have HB2 := Lib.hid (HB.out.alloc HB.out.size (.cells #[.int .u8 0, .int .u8 0, .int .u8 0, .int .u8 0, .int .u8 0, .string ⟨#[]⟩, .string ⟨#[]⟩, .string ⟨#[]⟩, .string ⟨#[]⟩, .string ⟨#[]⟩, .string ⟨#[]⟩, .string ⟨#[]⟩, .string ⟨#[]⟩, .string ⟨#[]⟩, .string ⟨#[]⟩] 25))
    clear HB
    have HB := HB2
    clear HB2
    refine (accept_Reply.calls k A0 c0 l0 a1 [] false _ (Kd.C_below H0.out HB.out) HC.out HR.out (glob_below HG.out HB.out) (globc_below HGC.out HB.out) (globe_below HGE.out HB.out)).mono ?_
    rintro e w3 ⟨v0, rfl, hR, hb3⟩
    obtain ⟨Ao, co, eo⟩ := Kd.R_slice hR
    first | subst eo | (rw [eo])
    have Z3 := Lib.hid (blk_below Z2.out hb3)
    have HB2 := Lib.hid (below_step HB.out hb3)
    clear HB hb3 Z2 hR
    have HB := HB2
    clear HB2
    go_wp2_with fail
    refine (lamplighterlaw11_alive.calls k true _ HA.out (glob_below HG.out HB.out) (globc_below HGC.out HB.out) (globe_below HGE.out HB.out)).mono ?_
    rintro e w4 ⟨rfl, hb4⟩
    have Z4 := Lib.hid (blk_below Z3.out hb4)
    have HB2 := Lib.hid (below_step HB.out hb4)
    clear HB hb4 Z3
    have HB := HB2
    clear HB2
    have e0 := blk_cell Z4.out 0
    have e1 := blk_cell Z4.out 1
    have e2 := blk_cell Z4.out 2
    have e3 := blk_cell Z4.out 3
    have e4 := blk_cell Z4.out 4
    have e5 := blk_cell Z4.out 5
    have e6 := blk_cell Z4.out 6
    have e7 := blk_cell Z4.out 7
    have e8 := blk_cell Z4.out 8
    have e9 := blk_cell Z4.out 9
    have e10 := blk_cell Z4.out 10
    have e11 := blk_cell Z4.out 11
    have e12 := blk_cell Z4.out 12
    have e13 := blk_cell Z4.out 13
    have e14 := blk_cell Z4.out 14
    simp only [List.getElem?_toArray, List.getElem?_cons_zero, List.getElem?_cons_succ] at e0 e1 e2 e3 e4 e5 e6 e7 e8 e9 e10 e11 e12 e13 e14
    go_wp2_with fail
    refine (accept_Stored.calls k A0 c0 l0 false _ (Kd.C_below H0.out HB.out) HC.out HS.out (glob_below HG.out HB.out)).mono ?_
    rintro e w5 ⟨rfl, hb5⟩
    have HB2 := Lib.hid (below_step HB.out hb5)
    clear HB hb5
    have HB := HB2
    clear HB2
    go_wp2_with fail
    go_ret
    exact ⟨by first | rfl | (simp; done), HB.out⟩
  · go_wp2_with fail
    refine (accept_Verdict.calls k A0 c0 l0 0 0 0 0 0 ⟨#[]⟩ ⟨#[]⟩ ⟨#[]⟩ ⟨#[]⟩ ⟨#[]⟩ ⟨#[]⟩ ⟨#[]⟩ ⟨#[]⟩ ⟨#[]⟩ ⟨#[]⟩ ⟨#[]⟩ 11 _ (by repeat (first | exact H0.out | (with_reducible refine Kd.C_alloc ?_ _) | (with_reducible refine Kd.C_drewN ?_ _) | (with_reducible refine Kd.C_drew ?_))) HC.out HD.out (glob_below HG.out (by repeat (first | exact Below.refl _ _ | apply below_alloc | apply pw_below_drewN | apply below_drew1)))).mono ?_
    rintro e w2 ⟨rfl, hb2⟩
    have HB := Lib.hid (below_step (by repeat (first | exact Below.refl _ _ | apply below_alloc | apply pw_below_drewN | apply below_drew1)) hb2)
    clear hb2
    go_wp2_with fail
    have Z2 := Lib.hid (heap_new w2 (.cells #[.int .u8 0, .int .u8 0, .int .u8 0, .int .u8 0, .int .u8 0, .string ⟨#[]⟩, .string ⟨#[]⟩, .string ⟨#[]⟩, .string ⟨#[]⟩, .string ⟨#[]⟩, .string ⟨#[]⟩, .string ⟨#[]⟩, .string ⟨#[]⟩, .string ⟨#[]⟩, .string ⟨#[]⟩] 25))
    have HB2 := Lib.hid (HB.out.alloc HB.out.size (.cells #[.int .u8 0, .int .u8 0, .int .u8 0, .int .u8 0, .int .u8 0, .string ⟨#[]⟩, .string ⟨#[]⟩, .string ⟨#[]⟩, .string ⟨#[]⟩, .string ⟨#[]⟩, .string ⟨#[]⟩, .string ⟨#[]⟩, .string ⟨#[]⟩, .string ⟨#[]⟩, .string ⟨#[]⟩] 25))
    clear HB
    have HB := HB2
    clear HB2
    refine (accept_Reply.calls k A0 c0 l0 a1 [] false _ (Kd.C_below H0.out HB.out) HC.out HR.out (glob_below HG.out HB.out) (globc_below HGC.out HB.out) (globe_below HGE.out HB.out)).mono ?_
    rintro e w3 ⟨v0, rfl, hR, hb3⟩
    obtain ⟨Ao, co, eo⟩ := Kd.R_slice hR
    first | subst eo | (rw [eo])
    have Z3 := Lib.hid (blk_below Z2.out hb3)
    have HB2 := Lib.hid (below_step HB.out hb3)
    clear HB hb3 Z2 hR
    have HB := HB2
    clear HB2
    go_wp2_with fail
    refine (lamplighterlaw11_alive.calls k true _ HA.out (glob_below HG.out HB.out) (globc_below HGC.out HB.out) (globe_below HGE.out HB.out)).mono ?_
    rintro e w4 ⟨rfl, hb4⟩
    have Z4 := Lib.hid (blk_below Z3.out hb4)
    have HB2 := Lib.hid (below_step HB.out hb4)
    clear HB hb4 Z3
    have HB := HB2
    clear HB2
    have e0 := blk_cell Z4.out 0
    have e1 := blk_cell Z4.out 1
    have e2 := blk_cell Z4.out 2
    have e3 := blk_cell Z4.out 3
    have e4 := blk_cell Z4.out 4
    have e5 := blk_cell Z4.out 5
    have e6 := blk_cell Z4.out 6
    have e7 := blk_cell Z4.out 7
    have e8 := blk_cell Z4.out 8
    have e9 := blk_cell Z4.out 9
    have e10 := blk_cell Z4.out 10
    have e11 := blk_cell Z4.out 11
    have e12 := blk_cell Z4.out 12
    have e13 := blk_cell Z4.out 13
    have e14 := blk_cell Z4.out 14
    simp only [List.getElem?_toArray, List.getElem?_cons_zero, List.getElem?_cons_succ] at e0 e1 e2 e3 e4 e5 e6 e7 e8 e9 e10 e11 e12 e13 e14
    go_wp2_with fail
    refine (accept_Stored.calls k A0 c0 l0 false _ (Kd.C_below H0.out HB.out) HC.out HS.out (glob_below HG.out HB.out)).mono ?_
    rintro e w5 ⟨rfl, hb5⟩
    have HB2 := Lib.hid (below_step HB.out hb5)
    clear HB hb5
    have HB := HB2
    clear HB2
    go_wp2_with fail
    go_ret
    exact ⟨by first | rfl | (simp; done), HB.out⟩
set_option maxHeartbeats 16000000 in
set_option maxRecDepth 100000 in
theorem drops_cut (k : Nat) (A0 : Option Addr) (c0 : Nat) (l0 : List Int) (a1 : Bool) (w : World) (hr0 : Kd.C (Kd.int .u8) w A0 l0.length l0) (hc0 : l0.length ≤ c0) (d2 : decide ((l0.length : Int) > 2000) = false) (h9 : 9 ≤ l0.length) (h3 : Lib.bytesOf (l0.take 3) = [77, 83, 72]) (h : dropsTail k (l0.drop 1) a1 = some true) (hG : GlobOK w) (hGC : GlobC w) (hGE : GlobE w) :
    Calls Tryd.prog 5 #[.slice A0 l0.length c0, .bool a1] w fun e w' => e = .returned (.bool true) ∧ Below w.heap.size w w' := by
  have HG := Lib.hid hG
  have HGC := Lib.hid hGC
  have HGE := Lib.hid hGE
  clear hG hGC hGE
  have d9 : decide ((l0.length : Int) ≥ 9) = true := decide_eq_true (by omega)
  have qc3 : (3 : Int) ≤ (c0 : Int) := by omega
  have hl3 : (l0.take 3).length = 3 := by rw [List.length_take]; omega
  have C3 := C_take hr0 (m := 3) (by omega)
  have cv30 := C_string3 (w := w) (c := c0) C3
  rw [hl3] at cv30
  have d3 : ((strOfNums (l0.take 3)).toList == ([77, 83, 72] : List UInt8)) = true := beq_iff_eq.2 (by rw [str_list]; exact h3)
  obtain ⟨i5, hi5, hz5, hs5, hb5⟩ := info_parts info5
  obtain ⟨A1, hcut, hrd, hle⟩ := print_drop_of (P := Tryd.prog) (Value.int .u8) 0 26 5 .i64 Tryd.underlying26 hi5 hs5 A0 c0 l0 1 (by decide) (by omega) hc0
  have C1 : Kd.C (Kd.int .u8) w A1 (l0.drop 1).length (l0.drop 1) := Kd.C_of_reads (enc := Value.int .u8) (d := (0 : Int)) (h1 := fun _ => rfl) (hrd w (Kd.reads_of_C (enc := Value.int .u8) (d := (0 : Int)) (h1 := fun _ => rfl) hr0))
  have hcut' : ∀ W : World, (Instr.slice 26 (.slice A0 l0.length c0) (some (.int .i64 1)) none none).run Tryd.prog W = .ok (.slice A1 (l0.drop 1).length (c0 - 1)) W := hcut
  have hle' : (l0.drop 1).length ≤ c0 - 1 := hle
  have hdl : (l0.drop 1).length = l0.length - 1 := List.length_drop
  have C13 := C_take C1 (m := 3) (by omega)
  have hl13 : ((l0.drop 1).take 3).length = 3 := by rw [List.length_take]; omega
  have cv31 := C_string3 (w := w) (c := c0 - 1) C13
  rw [hl13] at cv31
  have hne : ¬ Lib.bytesOf ((l0.drop 1).take 3) = [77, 83, 72] := drop_not h9 h3
  have d13 : ((strOfNums ((l0.drop 1).take 3)).toList == ([77, 83, 72] : List UInt8)) = false := beq_eq_false_iff_ne.2 (by rw [str_list]; exact hne)
  obtain ⟨L1, hL1⟩ : ∃ L1, L1 = l0.drop 1 := ⟨_, rfl⟩
  rw [← hL1] at C1 hcut' hle' hdl cv31 d13 h
  have d14 : decide ((L1.length : Int) ≥ 3) = true := decide_eq_true (by omega)
  obtain ⟨hA, hR, hS, _, ex, hE, hD⟩ := drops_open h
  have HA := Lib.hid hA
  have HD := Lib.hid hD
  have HR := Lib.hid hR
  have HS := Lib.hid hS
  have H0 := Lib.hid C1
  have HC := Lib.hid hle'
  have q3 : (3 : Int) ≤ ((c0 - 1 : Nat) : Int) := by omega
  have q1 : (1 : Int) ≤ (l0.length : Int) := by omega
  have q2 : (l0.length : Int) ≤ (c0 : Int) := by omega
  clear hA hD hR hS h hr0 hc0 hne hrd hcut hle hi5 hz5 hs5 hb5 hL1 C13 hl13 C3 hl3 h3 hdl h9
  go_enter Tryd.func5, Tryd.ntmps5
  rcases hE with rfl | rfl
  · go_wp2_with fail
    refine (accept_Verdict.calls k A1 (c0 - 1) L1 0 0 0 0 0 ⟨#[]⟩ ⟨#[]⟩ ⟨#[]⟩ ⟨#[]⟩ ⟨#[]⟩ ⟨#[]⟩ ⟨#[]⟩ ⟨#[]⟩ ⟨#[]⟩ ⟨#[]⟩ ⟨#[]⟩ 7 _ (by repeat (first | exact H0.out | (with_reducible refine Kd.C_alloc ?_ _) | (with_reducible refine Kd.C_drewN ?_ _) | (with_reducible refine Kd.C_drew ?_))) HC.out HD.out (glob_below HG.out (by repeat (first | exact Below.refl _ _ | apply below_alloc | apply pw_below_drewN | apply below_drew1)))).mono ?_
    rintro e w2 ⟨rfl, hb2⟩
    have HB := Lib.hid (below_step (by repeat (first | exact Below.refl _ _ | apply below_alloc | apply pw_below_drewN | apply below_drew1)) hb2)
    clear hb2
    go_wp2_with fail
    have Z2 := Lib.hid (heap_new w2 (.cells #[.int .u8 0, .int .u8 0, .int .u8 0, .int .u8 0, .int .u8 0, .string ⟨#[]⟩, .string ⟨#[]⟩, .string ⟨#[]⟩, .string ⟨#[]⟩, .string ⟨#[]⟩, .string ⟨#[]⟩, .string ⟨#[]⟩, .string ⟨#[]⟩, .string ⟨#[]⟩, .string ⟨#[]⟩] 25))
    have HB2 := Lib.hid (HB.out.alloc HB.out.size (.cells #[.int .u8 0, .int .u8 0, .int .u8 0, .int .u8 0, .int .u8 0, .string ⟨#[]⟩, .string ⟨#[]⟩, .string ⟨#[]⟩, .string ⟨#[]⟩, .string ⟨#[]⟩, .string ⟨#[]⟩, .string ⟨#[]⟩, .string ⟨#[]⟩, .string ⟨#[]⟩, .string ⟨#[]⟩] 25))
    clear HB
    have HB := HB2
    clear HB2
    refine (accept_Reply.calls k A1 (c0 - 1) L1 a1 [] false _ (Kd.C_below H0.out HB.out) HC.out HR.out (glob_below HG.out HB.out) (globc_below HGC.out HB.out) (globe_below HGE.out HB.out)).mono ?_
    rintro e w3 ⟨v0, rfl, hR, hb3⟩
    obtain ⟨Ao, co, eo⟩ := Kd.R_slice hR
    first | subst eo | (rw [eo])
    have Z3 := Lib.hid (blk_below Z2.out hb3)
    have HB2 := Lib.hid (below_step HB.out hb3)
    clear HB hb3 Z2 hR
    have HB := HB2
    clear HB2
    go_wp2_with fail
    refine (lamplighterlaw11_alive.calls k true _ HA.out (glob_below HG.out HB.out) (globc_below HGC.out HB.out) (globe_below HGE.out HB.out)).mono ?_
    rintro e w4 ⟨rfl, hb4⟩
    have Z4 := Lib.hid (blk_below Z3.out hb4)
    have HB2 := Lib.hid (below_step HB.out hb4)
    clear HB hb4 Z3
    have HB := HB2
    clear HB2
    have e0 := blk_cell Z4.out 0
    have e1 := blk_cell Z4.out 1
    have e2 := blk_cell Z4.out 2
    have e3 := blk_cell Z4.out 3
    have e4 := blk_cell Z4.out 4
    have e5 := blk_cell Z4.out 5
    have e6 := blk_cell Z4.out 6
    have e7 := blk_cell Z4.out 7
    have e8 := blk_cell Z4.out 8
    have e9 := blk_cell Z4.out 9
    have e10 := blk_cell Z4.out 10
    have e11 := blk_cell Z4.out 11
    have e12 := blk_cell Z4.out 12
    have e13 := blk_cell Z4.out 13
    have e14 := blk_cell Z4.out 14
    simp only [List.getElem?_toArray, List.getElem?_cons_zero, List.getElem?_cons_succ] at e0 e1 e2 e3 e4 e5 e6 e7 e8 e9 e10 e11 e12 e13 e14
    go_wp2_with fail
    refine (accept_Stored.calls k A1 (c0 - 1) L1 false _ (Kd.C_below H0.out HB.out) HC.out HS.out (glob_below HG.out HB.out)).mono ?_
    rintro e w5 ⟨rfl, hb5⟩
    have HB2 := Lib.hid (below_step HB.out hb5)
    clear HB hb5
    have HB := HB2
    clear HB2
    go_wp2_with fail
    go_ret
    exact ⟨by first | rfl | (simp; done), HB.out⟩
  · go_wp2_with fail
    refine (accept_Verdict.calls k A1 (c0 - 1) L1 0 0 0 0 0 ⟨#[]⟩ ⟨#[]⟩ ⟨#[]⟩ ⟨#[]⟩ ⟨#[]⟩ ⟨#[]⟩ ⟨#[]⟩ ⟨#[]⟩ ⟨#[]⟩ ⟨#[]⟩ ⟨#[]⟩ 11 _ (by repeat (first | exact H0.out | (with_reducible refine Kd.C_alloc ?_ _) | (with_reducible refine Kd.C_drewN ?_ _) | (with_reducible refine Kd.C_drew ?_))) HC.out HD.out (glob_below HG.out (by repeat (first | exact Below.refl _ _ | apply below_alloc | apply pw_below_drewN | apply below_drew1)))).mono ?_
    rintro e w2 ⟨rfl, hb2⟩
    have HB := Lib.hid (below_step (by repeat (first | exact Below.refl _ _ | apply below_alloc | apply pw_below_drewN | apply below_drew1)) hb2)
    clear hb2
    go_wp2_with fail
    have Z2 := Lib.hid (heap_new w2 (.cells #[.int .u8 0, .int .u8 0, .int .u8 0, .int .u8 0, .int .u8 0, .string ⟨#[]⟩, .string ⟨#[]⟩, .string ⟨#[]⟩, .string ⟨#[]⟩, .string ⟨#[]⟩, .string ⟨#[]⟩, .string ⟨#[]⟩, .string ⟨#[]⟩, .string ⟨#[]⟩, .string ⟨#[]⟩] 25))
    have HB2 := Lib.hid (HB.out.alloc HB.out.size (.cells #[.int .u8 0, .int .u8 0, .int .u8 0, .int .u8 0, .int .u8 0, .string ⟨#[]⟩, .string ⟨#[]⟩, .string ⟨#[]⟩, .string ⟨#[]⟩, .string ⟨#[]⟩, .string ⟨#[]⟩, .string ⟨#[]⟩, .string ⟨#[]⟩, .string ⟨#[]⟩, .string ⟨#[]⟩] 25))
    clear HB
    have HB := HB2
    clear HB2
    refine (accept_Reply.calls k A1 (c0 - 1) L1 a1 [] false _ (Kd.C_below H0.out HB.out) HC.out HR.out (glob_below HG.out HB.out) (globc_below HGC.out HB.out) (globe_below HGE.out HB.out)).mono ?_
    rintro e w3 ⟨v0, rfl, hR, hb3⟩
    obtain ⟨Ao, co, eo⟩ := Kd.R_slice hR
    first | subst eo | (rw [eo])
    have Z3 := Lib.hid (blk_below Z2.out hb3)
    have HB2 := Lib.hid (below_step HB.out hb3)
    clear HB hb3 Z2 hR
    have HB := HB2
    clear HB2
    go_wp2_with fail
    refine (lamplighterlaw11_alive.calls k true _ HA.out (glob_below HG.out HB.out) (globc_below HGC.out HB.out) (globe_below HGE.out HB.out)).mono ?_
    rintro e w4 ⟨rfl, hb4⟩
    have Z4 := Lib.hid (blk_below Z3.out hb4)
    have HB2 := Lib.hid (below_step HB.out hb4)
    clear HB hb4 Z3
    have HB := HB2
    clear HB2
    have e0 := blk_cell Z4.out 0
    have e1 := blk_cell Z4.out 1
    have e2 := blk_cell Z4.out 2
    have e3 := blk_cell Z4.out 3
    have e4 := blk_cell Z4.out 4
    have e5 := blk_cell Z4.out 5
    have e6 := blk_cell Z4.out 6
    have e7 := blk_cell Z4.out 7
    have e8 := blk_cell Z4.out 8
    have e9 := blk_cell Z4.out 9
    have e10 := blk_cell Z4.out 10
    have e11 := blk_cell Z4.out 11
    have e12 := blk_cell Z4.out 12
    have e13 := blk_cell Z4.out 13
    have e14 := blk_cell Z4.out 14
    simp only [List.getElem?_toArray, List.getElem?_cons_zero, List.getElem?_cons_succ] at e0 e1 e2 e3 e4 e5 e6 e7 e8 e9 e10 e11 e12 e13 e14
    go_wp2_with fail
    refine (accept_Stored.calls k A1 (c0 - 1) L1 false _ (Kd.C_below H0.out HB.out) HC.out HS.out (glob_below HG.out HB.out)).mono ?_
    rintro e w5 ⟨rfl, hb5⟩
    have HB2 := Lib.hid (below_step HB.out hb5)
    clear HB hb5
    have HB := HB2
    clear HB2
    go_wp2_with fail
    go_ret
    exact ⟨by first | rfl | (simp; done), HB.out⟩
set_option maxHeartbeats 16000000 in
set_option maxRecDepth 100000 in
theorem lamplighterlaw11_AcceptDrops.calls (k : Nat) (A0 : Option Addr) (c0 : Nat) (l0 : List Int) (a1 : Bool) (r : Bool) (w : World) (hr0 : Kd.C (Kd.int .u8) w A0 l0.length l0) (hc0 : l0.length ≤ c0) (h : lamplighterlaw11_AcceptDrops.f k l0 a1 = some r) (hrt : r = true) (hG : GlobOK w) (hGC : GlobC w) (hGE : GlobE w) :
    Calls Tryd.prog 5 #[.slice A0 l0.length c0, .bool a1] w fun e w' => e = .returned (.bool r) ∧ Below w.heap.size w w' := by
  subst hrt
  have HG := Lib.hid hG
  have HGC := Lib.hid hGC
  have HGE := Lib.hid hGE
  clear hG hGC hGE
  unfold lamplighterlaw11_AcceptDrops.f at h
  by_cases h2 : l0.length ≤ 2000
  case neg =>
    rw [if_neg h2] at h
    have HA := Lib.hid h
    have d2 : decide ((l0.length : Int) > 2000) = true := decide_eq_true (by omega)
    clear h h2
    go_enter Tryd.func5, Tryd.ntmps5
    go_wp2_with fail
    have HB := Lib.hid (show Below w.heap.size w _ from (by repeat (first | exact Below.refl _ _ | apply below_alloc | apply pw_below_drewN | apply below_drew1)))
    refine (lamplighterlaw11_alive.calls k true _ HA.out (glob_below HG.out HB.out) (globc_below HGC.out HB.out) (globe_below HGE.out HB.out)).mono ?_
    rintro e w4 ⟨rfl, hb4⟩
    go_wp2_with fail
    go_ret
    exact ⟨rfl, by repeat (first | exact below_step HB.out hb4 | apply pw_below_drewN | apply below_drew1)⟩
  rw [if_pos h2] at h
  have d2 : decide ((l0.length : Int) > 2000) = false := decide_eq_false (by omega)
  by_cases h9 : 9 ≤ l0.length
  · by_cases h3 : Lib.bytesOf (l0.take 3) = [77, 83, 72]
    · rw [if_pos ⟨h9, h3⟩] at h
      exact drops_cut k A0 c0 l0 a1 w hr0 hc0 d2 h9 h3 h HG.out HGC.out HGE.out
    · rw [if_neg (fun q => h3 q.2)] at h
      exact drops_other k A0 c0 l0 a1 w hr0 hc0 d2 h9 h3 h HG.out HGC.out HGE.out
  · rw [if_neg (fun q => h9 q.1)] at h
    exact drops_short k A0 c0 l0 a1 w hr0 hc0 d2 h9 h HG.out HGC.out HGE.out
end Go.Proofs.YtmjdnkiohdkfpaaDoor.PF
