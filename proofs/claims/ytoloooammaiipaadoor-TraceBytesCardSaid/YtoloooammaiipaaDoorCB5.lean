/- The law lamplighterlaw19_TraceBytes, proved for every input of its parameters' types; no condition; package-level tables of the library lie as the program's text lays them. -/
import Derived.Test.YtoloooammaiipaaDoorCB4
import Derived.Shelf.Strings.Count
import Derived.Test.YtoloooammaiipaaDoorProg
import Derived.WalkMore
import Derived.Deep.MidRow
import Derived.WalkKit
import Derived.BigCall
import Derived.Lib.RabinKarpLaws
import Derived.ProofKit
import Derived.OpenShut
import Derived.ChangeOld
import Derived.Below
import Derived.Carry
import Derived.ChangeSlices
import Derived.Test.YtoloooammaiipaaDoorRows
import Derived.Deep.DeepHandedRow
import Derived.Deep.DeepLaidRun
import Derived.Lib.LaidTab
import Derived.Test.YtoloooammaiipaaDoorCards
import Derived.Test.YtoloooammaiipaaDoorTie
import Derived.ShutString
import Derived.SizedLaws
import Derived.JoinedCond
/- What trace's (kind).fill gives: walks, one for each set of fields that a kind has; conditions: the tables lie as the program's text lays them. -/
namespace Go.Proofs.YtoloooammaiipaaDoor
open Go Go.RowKit Go.Proofs.YtoloooammaiipaaDoor.PI Go.Proofs.YtoloooammaiipaaDoorW.PrintWords Go.Proofs.YtoloooammaiipaaDoorW.PrintLast Go.Proofs.YtoloooammaiipaaDoorW.PrintMore
set_option linter.unusedVariables false
set_option linter.unusedSimpArgs false
theorem head_small {ws : List ByteArray} {x : ByteArray} (ex : x = ws.headD ⟨#[]⟩) (h : ∀ x ∈ ws, x.size ≤ 1000000) : x.size ≤ 1000000 := by
  rw [ex]
  cases ws with
  | nil => exact Nat.zero_le _
  | cons x r => exact h x List.mem_cons_self
theorem tail_small {ws : List ByteArray} (h : ∀ x ∈ ws, x.size ≤ 1000000) : ∀ x ∈ ws.tail, x.size ≤ 1000000 := fun x hx => h x (List.mem_of_mem_tail hx)
theorem tail_len {ws : List ByteArray} (h : ws.length ≤ 1000000) : ws.tail.length ≤ 1000000 := by rw [List.length_tail]; omega
theorem takeW_off {α : Type} (g : List UInt8 → Option α) (z : α) (w : List ByteArray) : takeW false g z w = some (z, w) := rfl
theorem takeW_ok {α : Type} {g : List UInt8 → Option α} {z v : α} {w : List ByteArray} {x : ByteArray} (ex : x = w.headD ⟨#[]⟩) (h : g x.data.toList = some v) : takeW true g z w = some (v, w.tail) := by
  unfold takeW
  rw [if_pos rfl, ← ex, h]
  rfl
theorem takeW_no {α : Type} {g : List UInt8 → Option α} {z : α} {w : List ByteArray} {x : ByteArray} (ex : x = w.headD ⟨#[]⟩) (h : g x.data.toList = none) : takeW true g z w = none := by
  unfold takeW
  rw [if_pos rfl, ← ex, h]
  rfl
set_option maxHeartbeats 4000000 in
set_option maxRecDepth 100000 in
theorem fill_d (words : ByteArray) (i : Int) (eb : Nat) (A : Option Addr) (c : Nat) (ws : List ByteArray) (w : World) (he : w.heap[eb]? = some (.cells #[.int .i64 i, .int .i64 0, .int .i64 0, .slice none 0 0] 29 (0, 0))) (hT : Txts eb w.heap.size w A ws) (hc : ws.length ≤ c) (hl : ws.length ≤ 1000000) (hx : ∀ x ∈ ws, x.size ≤ 1000000) (hG : ∀ W, Below eb w W → GlobT W) :
    Calls Tryd.prog 33 #[.agg #[.string words, .bool true, .bool false, .bool false], .pointer (some ⟨eb, 0, none⟩), .slice A ws.length c] w (FillPost i (fillO true false false ws) eb w) := by
  have HX := Lib.hid hx
  have HG := Lib.hid hG
  have HL := Lib.hid hl
  have F0 := Lib.hid (FS.start (words := words) (d := true) (c := false) (k := false) he hT hc)
  clear hx hG he hT hc hl
  go_enter Tryd.func33, Tryd.ntmps33
  go_wp2_with fail
  refine (F0.out.next HL.out).mono ?_
  rintro e V1 ⟨x1, ex1, rfl, A1, c1, h1⟩
  have H1 := Lib.hid h1
  clear h1 F0
  have hs1 : x1.size ≤ 1000000 := head_small ex1.out HX.out
  go_wp2_with fail
  cases hn : bytesO x1.data.toList with
  | none =>
    have hb1 := bytes_is x1 hs1 (x1.size + 2) (Nat.le_refl _)
    rw [hn] at hb1
    have hn1 := Lib.hid hn
    clear hn
    refine (trace_Bytes.calls _ x1 _ _ V1 hb1).mono ?_
    rintro e W1 ⟨v0, rfl, hR, hb⟩
    have F1 := Lib.hid (H1.out.below hb)
    have RV := Lib.hid hR
    have FB := H1
    clear hb H1 hR hb1
    obtain ⟨Ad, cd, rfl⟩ := Kd.R_slice RV.out
    have e3 := cell_of_cells F1.out.ee 3
    simp only [List.setIfInBounds_toArray, List.set_cons_zero, List.set_cons_succ, List.getElem?_toArray, List.getElem?_cons_succ, List.getElem?_cons_zero] at e3
    have fz3 := blk_frozen F1.out.ee 3
    have lt := blk_lt F1.out.ee
    have ne := F1.out.lt
    have ne1 : ¬ (w.heap.size + 1 = eb) := by omega
    have ne2 : ¬ (w.heap.size = eb) := by omega
    have kk0 := cell_of_cells F1.out.kk 0
    simp only [List.getElem?_toArray, List.getElem?_cons_succ, List.getElem?_cons_zero] at kk0
    have kk1 := cell_of_cells F1.out.kk 1
    simp only [List.getElem?_toArray, List.getElem?_cons_succ, List.getElem?_cons_zero] at kk1
    have kk2 := cell_of_cells F1.out.kk 2
    simp only [List.getElem?_toArray, List.getElem?_cons_succ, List.getElem?_cons_zero] at kk2
    have kk3 := cell_of_cells F1.out.kk 3
    simp only [List.getElem?_toArray, List.getElem?_cons_succ, List.getElem?_cons_zero] at kk3
    have kw := cell_of_cells F1.out.kw 0
    simp only [List.getElem?_toArray, List.getElem?_cons_succ, List.getElem?_cons_zero] at kw
    go_wp2_with fail
    go_ret
    refine ⟨(F1.out.set 3 (.slice Ad _ cd)).bb, ?_⟩
    unfold fillO
    rw [takeW_no ex1.out hn1.out, Option.bind_none]
    rfl
  | some l =>
    have hb1 := bytes_is x1 hs1 (x1.size + 2) (Nat.le_refl _)
    rw [hn] at hb1
    have hn1 := Lib.hid hn
    clear hn
    refine (trace_Bytes.calls _ x1 _ _ V1 hb1).mono ?_
    rintro e W1 ⟨v0, rfl, hR, hb⟩
    have F1 := Lib.hid (H1.out.below hb)
    have RV := Lib.hid hR
    have FB := H1
    clear hb H1 hR hb1
    obtain ⟨Ad, cd, rfl⟩ := Kd.R_slice RV.out
    have e3 := cell_of_cells F1.out.ee 3
    simp only [List.setIfInBounds_toArray, List.set_cons_zero, List.set_cons_succ, List.getElem?_toArray, List.getElem?_cons_succ, List.getElem?_cons_zero] at e3
    have fz3 := blk_frozen F1.out.ee 3
    have lt := blk_lt F1.out.ee
    have ne := F1.out.lt
    have ne1 : ¬ (w.heap.size + 1 = eb) := by omega
    have ne2 : ¬ (w.heap.size = eb) := by omega
    have kk0 := cell_of_cells F1.out.kk 0
    simp only [List.getElem?_toArray, List.getElem?_cons_succ, List.getElem?_cons_zero] at kk0
    have kk1 := cell_of_cells F1.out.kk 1
    simp only [List.getElem?_toArray, List.getElem?_cons_succ, List.getElem?_cons_zero] at kk1
    have kk2 := cell_of_cells F1.out.kk 2
    simp only [List.getElem?_toArray, List.getElem?_cons_succ, List.getElem?_cons_zero] at kk2
    have kk3 := cell_of_cells F1.out.kk 3
    simp only [List.getElem?_toArray, List.getElem?_cons_succ, List.getElem?_cons_zero] at kk3
    have kw := cell_of_cells F1.out.kw 0
    simp only [List.getElem?_toArray, List.getElem?_cons_succ, List.getElem?_cons_zero] at kw
    by_cases hz : ws.tail.length = 0
    · have hz := hz
      have hz1 : ((ws.tail.length : Nat) : Int) = 0 := by omega
      have HZ := Lib.hid hz
      clear hz
      go_wp2_with fail
      go_ret
      refine ⟨(F1.out.set 3 (.slice Ad _ cd)).bb, ?_⟩
      unfold fillO
      rw [takeW_ok ex1.out hn1.out, Option.bind_some]
      rw [takeW_off, Option.bind_some]
      rw [takeW_off, Option.bind_some]
      rw [if_pos HZ.out]
      refine ⟨rfl, _, (F1.out.set 3 (.slice Ad _ cd)).ee, ?_⟩
      exact Kd.R_set (Kd.R_lower RV.out (by have := FB.out.bb.size; omega)) F1.out.ee (fun q hq => by simp only [List.mem_cons, Kd.int, Kd.scalar, List.not_mem_nil, or_false] at hq; subst hq; decide) _ _
    · have hz := hz
      have hz1 : ¬ ((ws.tail.length : Nat) : Int) = 0 := by omega
      have HZ := Lib.hid hz
      clear hz
      go_wp2_with fail
      go_ret
      refine ⟨(F1.out.set 3 (.slice Ad _ cd)).bb, ?_⟩
      unfold fillO
      rw [takeW_ok ex1.out hn1.out, Option.bind_some]
      rw [takeW_off, Option.bind_some]
      rw [takeW_off, Option.bind_some]
      rw [if_neg HZ.out]
      have hf : (((ws.tail.length : Nat) : Int) == 0) = false := beq_eq_false_iff_ne.2 hz1
      try simp only [List.length_tail] at hf
      exact congrArg (fun b => Ending.returned (Value.bool b)) hf
set_option maxHeartbeats 4000000 in
set_option maxRecDepth 100000 in
theorem fill_z (words : ByteArray) (i : Int) (eb : Nat) (A : Option Addr) (c : Nat) (ws : List ByteArray) (w : World) (he : w.heap[eb]? = some (.cells #[.int .i64 i, .int .i64 0, .int .i64 0, .slice none 0 0] 29 (0, 0))) (hT : Txts eb w.heap.size w A ws) (hc : ws.length ≤ c) (hl : ws.length ≤ 1000000) (hx : ∀ x ∈ ws, x.size ≤ 1000000) (hG : ∀ W, Below eb w W → GlobT W) :
    Calls Tryd.prog 33 #[.agg #[.string words, .bool false, .bool false, .bool false], .pointer (some ⟨eb, 0, none⟩), .slice A ws.length c] w (FillPost i (fillO false false false ws) eb w) := by
  have HX := Lib.hid hx
  have HG := Lib.hid hG
  have HL := Lib.hid hl
  have F0 := Lib.hid (FS.start (words := words) (d := false) (c := false) (k := false) he hT hc)
  clear hx hG he hT hc hl
  go_enter Tryd.func33, Tryd.ntmps33
  have lt := blk_lt F0.out.ee
  have ne := F0.out.lt
  have ne1 : ¬ (w.heap.size + 1 = eb) := by omega
  have ne2 : ¬ (w.heap.size = eb) := by omega
  have kk0 := cell_of_cells F0.out.kk 0
  simp only [List.getElem?_toArray, List.getElem?_cons_succ, List.getElem?_cons_zero] at kk0
  have kk1 := cell_of_cells F0.out.kk 1
  simp only [List.getElem?_toArray, List.getElem?_cons_succ, List.getElem?_cons_zero] at kk1
  have kk2 := cell_of_cells F0.out.kk 2
  simp only [List.getElem?_toArray, List.getElem?_cons_succ, List.getElem?_cons_zero] at kk2
  have kk3 := cell_of_cells F0.out.kk 3
  simp only [List.getElem?_toArray, List.getElem?_cons_succ, List.getElem?_cons_zero] at kk3
  have kw := cell_of_cells F0.out.kw 0
  simp only [List.getElem?_toArray, List.getElem?_cons_succ, List.getElem?_cons_zero] at kw
  by_cases hz : ws.length = 0
  · have hz := hz
    obtain rfl := List.eq_nil_of_length_eq_zero hz
    have HZ := Lib.hid hz
    clear hz
    go_wp2_with fail
    go_ret
    refine ⟨F0.out.bb, ?_⟩
    unfold fillO
    rw [takeW_off, Option.bind_some]
    rw [takeW_off, Option.bind_some]
    rw [takeW_off, Option.bind_some]
    rw [if_pos HZ.out]
    refine ⟨rfl, _, F0.out.ee, ?_⟩
    exact Kd.R_nil _ _ _ _ _
  · have hz := hz
    have hz1 : ¬ ((ws.length : Nat) : Int) = 0 := by omega
    have HZ := Lib.hid hz
    clear hz
    go_wp2_with fail
    go_ret
    refine ⟨F0.out.bb, ?_⟩
    unfold fillO
    rw [takeW_off, Option.bind_some]
    rw [takeW_off, Option.bind_some]
    rw [takeW_off, Option.bind_some]
    rw [if_neg HZ.out]
    have hf : (((ws.length : Nat) : Int) == 0) = false := beq_eq_false_iff_ne.2 hz1
    try simp only [List.length_tail] at hf
    exact congrArg (fun b => Ending.returned (Value.bool b)) hf
set_option maxHeartbeats 4000000 in
set_option maxRecDepth 100000 in
theorem fill_c (words : ByteArray) (i : Int) (eb : Nat) (A : Option Addr) (c : Nat) (ws : List ByteArray) (w : World) (he : w.heap[eb]? = some (.cells #[.int .i64 i, .int .i64 0, .int .i64 0, .slice none 0 0] 29 (0, 0))) (hT : Txts eb w.heap.size w A ws) (hc : ws.length ≤ c) (hl : ws.length ≤ 1000000) (hx : ∀ x ∈ ws, x.size ≤ 1000000) (hG : ∀ W, Below eb w W → GlobT W) :
    Calls Tryd.prog 33 #[.agg #[.string words, .bool false, .bool true, .bool false], .pointer (some ⟨eb, 0, none⟩), .slice A ws.length c] w (FillPost i (fillO false true false ws) eb w) := by
  have HX := Lib.hid hx
  have HG := Lib.hid hG
  have HL := Lib.hid hl
  have F0 := Lib.hid (FS.start (words := words) (d := false) (c := true) (k := false) he hT hc)
  clear hx hG he hT hc hl
  go_enter Tryd.func33, Tryd.ntmps33
  go_wp2_with fail
  refine (F0.out.next HL.out).mono ?_
  rintro e V1 ⟨x1, ex1, rfl, A1, c1, h1⟩
  have H1 := Lib.hid h1
  clear h1 F0
  have hs1 : x1.size ≤ 1000000 := head_small ex1.out HX.out
  go_wp2_with fail
  refine (next_number hs1 (HG.out _ H1.out.bb)).mono ?_
  rintro e W1 ⟨he, hb⟩
  have F1 := Lib.hid (H1.out.below hb)
  clear hb H1
  cases hn : numL x1.data.toList with
  | none =>
    rw [hn] at he
    obtain rfl := he
    have hn1 := Lib.hid hn
    clear hn
    simp only [Option.isSome_none, Option.isSome_some]
    have e1 := cell_of_cells F1.out.ee 1
    simp only [List.setIfInBounds_toArray, List.set_cons_zero, List.set_cons_succ, List.getElem?_toArray, List.getElem?_cons_succ, List.getElem?_cons_zero] at e1
    have fz1 := blk_frozen F1.out.ee 1
    have lt := blk_lt F1.out.ee
    have ne := F1.out.lt
    have ne1 : ¬ (w.heap.size + 1 = eb) := by omega
    have ne2 : ¬ (w.heap.size = eb) := by omega
    have kk0 := cell_of_cells F1.out.kk 0
    simp only [List.getElem?_toArray, List.getElem?_cons_succ, List.getElem?_cons_zero] at kk0
    have kk1 := cell_of_cells F1.out.kk 1
    simp only [List.getElem?_toArray, List.getElem?_cons_succ, List.getElem?_cons_zero] at kk1
    have kk2 := cell_of_cells F1.out.kk 2
    simp only [List.getElem?_toArray, List.getElem?_cons_succ, List.getElem?_cons_zero] at kk2
    have kk3 := cell_of_cells F1.out.kk 3
    simp only [List.getElem?_toArray, List.getElem?_cons_succ, List.getElem?_cons_zero] at kk3
    have kw := cell_of_cells F1.out.kw 0
    simp only [List.getElem?_toArray, List.getElem?_cons_succ, List.getElem?_cons_zero] at kw
    go_wp2_with fail
    go_ret
    refine ⟨(F1.out.set 1 (.int .i64 0)).bb, ?_⟩
    unfold fillO
    rw [takeW_off, Option.bind_some]
    rw [takeW_no ex1.out hn1.out, Option.bind_none]
    rfl
  | some v1 =>
    rw [hn] at he
    obtain rfl := he
    have hn1 := Lib.hid hn
    clear hn
    simp only [Option.isSome_none, Option.isSome_some]
    have e1 := cell_of_cells F1.out.ee 1
    simp only [List.setIfInBounds_toArray, List.set_cons_zero, List.set_cons_succ, List.getElem?_toArray, List.getElem?_cons_succ, List.getElem?_cons_zero] at e1
    have fz1 := blk_frozen F1.out.ee 1
    have lt := blk_lt F1.out.ee
    have ne := F1.out.lt
    have ne1 : ¬ (w.heap.size + 1 = eb) := by omega
    have ne2 : ¬ (w.heap.size = eb) := by omega
    have kk0 := cell_of_cells F1.out.kk 0
    simp only [List.getElem?_toArray, List.getElem?_cons_succ, List.getElem?_cons_zero] at kk0
    have kk1 := cell_of_cells F1.out.kk 1
    simp only [List.getElem?_toArray, List.getElem?_cons_succ, List.getElem?_cons_zero] at kk1
    have kk2 := cell_of_cells F1.out.kk 2
    simp only [List.getElem?_toArray, List.getElem?_cons_succ, List.getElem?_cons_zero] at kk2
    have kk3 := cell_of_cells F1.out.kk 3
    simp only [List.getElem?_toArray, List.getElem?_cons_succ, List.getElem?_cons_zero] at kk3
    have kw := cell_of_cells F1.out.kw 0
    simp only [List.getElem?_toArray, List.getElem?_cons_succ, List.getElem?_cons_zero] at kw
    by_cases hz : ws.tail.length = 0
    · have hz := hz
      have hz1 : ((ws.tail.length : Nat) : Int) = 0 := by omega
      have HZ := Lib.hid hz
      clear hz
      go_wp2_with fail
      go_ret
      refine ⟨(F1.out.set 1 (.int .i64 v1)).bb, ?_⟩
      unfold fillO
      rw [takeW_off, Option.bind_some]
      rw [takeW_ok ex1.out hn1.out, Option.bind_some]
      rw [takeW_off, Option.bind_some]
      rw [if_pos HZ.out]
      refine ⟨rfl, _, (F1.out.set 1 (.int .i64 v1)).ee, ?_⟩
      exact Kd.R_nil _ _ _ _ _
    · have hz := hz
      have hz1 : ¬ ((ws.tail.length : Nat) : Int) = 0 := by omega
      have HZ := Lib.hid hz
      clear hz
      go_wp2_with fail
      go_ret
      refine ⟨(F1.out.set 1 (.int .i64 v1)).bb, ?_⟩
      unfold fillO
      rw [takeW_off, Option.bind_some]
      rw [takeW_ok ex1.out hn1.out, Option.bind_some]
      rw [takeW_off, Option.bind_some]
      rw [if_neg HZ.out]
      have hf : (((ws.tail.length : Nat) : Int) == 0) = false := beq_eq_false_iff_ne.2 hz1
      try simp only [List.length_tail] at hf
      exact congrArg (fun b => Ending.returned (Value.bool b)) hf
set_option maxHeartbeats 4000000 in
set_option maxRecDepth 100000 in
theorem fill_ck (words : ByteArray) (i : Int) (eb : Nat) (A : Option Addr) (c : Nat) (ws : List ByteArray) (w : World) (he : w.heap[eb]? = some (.cells #[.int .i64 i, .int .i64 0, .int .i64 0, .slice none 0 0] 29 (0, 0))) (hT : Txts eb w.heap.size w A ws) (hc : ws.length ≤ c) (hl : ws.length ≤ 1000000) (hx : ∀ x ∈ ws, x.size ≤ 1000000) (hG : ∀ W, Below eb w W → GlobT W) :
    Calls Tryd.prog 33 #[.agg #[.string words, .bool false, .bool true, .bool true], .pointer (some ⟨eb, 0, none⟩), .slice A ws.length c] w (FillPost i (fillO false true true ws) eb w) := by
  have HX := Lib.hid hx
  have HG := Lib.hid hG
  have HL := Lib.hid hl
  have F0 := Lib.hid (FS.start (words := words) (d := false) (c := true) (k := true) he hT hc)
  clear hx hG he hT hc hl
  go_enter Tryd.func33, Tryd.ntmps33
  go_wp2_with fail
  refine (F0.out.next HL.out).mono ?_
  rintro e V1 ⟨x1, ex1, rfl, A1, c1, h1⟩
  have H1 := Lib.hid h1
  clear h1 F0
  have hs1 : x1.size ≤ 1000000 := head_small ex1.out HX.out
  go_wp2_with fail
  refine (next_number hs1 (HG.out _ H1.out.bb)).mono ?_
  rintro e W1 ⟨he, hb⟩
  have F1 := Lib.hid (H1.out.below hb)
  clear hb H1
  cases hn : numL x1.data.toList with
  | none =>
    rw [hn] at he
    obtain rfl := he
    have hn1 := Lib.hid hn
    clear hn
    simp only [Option.isSome_none, Option.isSome_some]
    have e1 := cell_of_cells F1.out.ee 1
    simp only [List.setIfInBounds_toArray, List.set_cons_zero, List.set_cons_succ, List.getElem?_toArray, List.getElem?_cons_succ, List.getElem?_cons_zero] at e1
    have fz1 := blk_frozen F1.out.ee 1
    have lt := blk_lt F1.out.ee
    have ne := F1.out.lt
    have ne1 : ¬ (w.heap.size + 1 = eb) := by omega
    have ne2 : ¬ (w.heap.size = eb) := by omega
    have kk0 := cell_of_cells F1.out.kk 0
    simp only [List.getElem?_toArray, List.getElem?_cons_succ, List.getElem?_cons_zero] at kk0
    have kk1 := cell_of_cells F1.out.kk 1
    simp only [List.getElem?_toArray, List.getElem?_cons_succ, List.getElem?_cons_zero] at kk1
    have kk2 := cell_of_cells F1.out.kk 2
    simp only [List.getElem?_toArray, List.getElem?_cons_succ, List.getElem?_cons_zero] at kk2
    have kk3 := cell_of_cells F1.out.kk 3
    simp only [List.getElem?_toArray, List.getElem?_cons_succ, List.getElem?_cons_zero] at kk3
    have kw := cell_of_cells F1.out.kw 0
    simp only [List.getElem?_toArray, List.getElem?_cons_succ, List.getElem?_cons_zero] at kw
    go_wp2_with fail
    go_ret
    refine ⟨(F1.out.set 1 (.int .i64 0)).bb, ?_⟩
    unfold fillO
    rw [takeW_off, Option.bind_some]
    rw [takeW_no ex1.out hn1.out, Option.bind_none]
    rfl
  | some v1 =>
    rw [hn] at he
    obtain rfl := he
    have hn1 := Lib.hid hn
    clear hn
    simp only [Option.isSome_none, Option.isSome_some]
    have e1 := cell_of_cells F1.out.ee 1
    simp only [List.setIfInBounds_toArray, List.set_cons_zero, List.set_cons_succ, List.getElem?_toArray, List.getElem?_cons_succ, List.getElem?_cons_zero] at e1
    have fz1 := blk_frozen F1.out.ee 1
    have lt := blk_lt F1.out.ee
    have ne := F1.out.lt
    have ne1 : ¬ (w.heap.size + 1 = eb) := by omega
    have ne2 : ¬ (w.heap.size = eb) := by omega
    have kk0 := cell_of_cells F1.out.kk 0
    simp only [List.getElem?_toArray, List.getElem?_cons_succ, List.getElem?_cons_zero] at kk0
    have kk1 := cell_of_cells F1.out.kk 1
    simp only [List.getElem?_toArray, List.getElem?_cons_succ, List.getElem?_cons_zero] at kk1
    have kk2 := cell_of_cells F1.out.kk 2
    simp only [List.getElem?_toArray, List.getElem?_cons_succ, List.getElem?_cons_zero] at kk2
    have kk3 := cell_of_cells F1.out.kk 3
    simp only [List.getElem?_toArray, List.getElem?_cons_succ, List.getElem?_cons_zero] at kk3
    have kw := cell_of_cells F1.out.kw 0
    simp only [List.getElem?_toArray, List.getElem?_cons_succ, List.getElem?_cons_zero] at kw
    go_wp2_with fail
    have G2 := Lib.hid (F1.out.set 1 (.int .i64 v1))
    clear F1 fz1 e1 lt ne ne1 ne2 kw kk0 kk1 kk2 kk3
    refine (G2.out.next (tail_len HL.out)).mono ?_
    rintro e V2 ⟨x2, ex2, rfl, A2, c2, h2⟩
    have H2 := Lib.hid h2
    clear h2 G2
    have hs2 : x2.size ≤ 1000000 := head_small ex2.out (tail_small HX.out)
    go_wp2_with fail
    refine (next_number hs2 (HG.out _ H2.out.bb)).mono ?_
    rintro e W2 ⟨he, hb⟩
    have F2 := Lib.hid (H2.out.below hb)
    clear hb H2
    cases hn : numL x2.data.toList with
    | none =>
      rw [hn] at he
      obtain rfl := he
      have hn2 := Lib.hid hn
      clear hn
      simp only [Option.isSome_none, Option.isSome_some]
      have e2 := cell_of_cells F2.out.ee 2
      simp only [List.setIfInBounds_toArray, List.set_cons_zero, List.set_cons_succ, List.getElem?_toArray, List.getElem?_cons_succ, List.getElem?_cons_zero] at e2
      have fz2 := blk_frozen F2.out.ee 2
      have lt := blk_lt F2.out.ee
      have ne := F2.out.lt
      have ne1 : ¬ (w.heap.size + 1 = eb) := by omega
      have ne2 : ¬ (w.heap.size = eb) := by omega
      have kk0 := cell_of_cells F2.out.kk 0
      simp only [List.getElem?_toArray, List.getElem?_cons_succ, List.getElem?_cons_zero] at kk0
      have kk1 := cell_of_cells F2.out.kk 1
      simp only [List.getElem?_toArray, List.getElem?_cons_succ, List.getElem?_cons_zero] at kk1
      have kk2 := cell_of_cells F2.out.kk 2
      simp only [List.getElem?_toArray, List.getElem?_cons_succ, List.getElem?_cons_zero] at kk2
      have kk3 := cell_of_cells F2.out.kk 3
      simp only [List.getElem?_toArray, List.getElem?_cons_succ, List.getElem?_cons_zero] at kk3
      have kw := cell_of_cells F2.out.kw 0
      simp only [List.getElem?_toArray, List.getElem?_cons_succ, List.getElem?_cons_zero] at kw
      go_wp2_with fail
      go_ret
      refine ⟨(F2.out.set 2 (.int .i64 0)).bb, ?_⟩
      unfold fillO
      rw [takeW_off, Option.bind_some]
      rw [takeW_ok ex1.out hn1.out, Option.bind_some]
      rw [takeW_no ex2.out hn2.out, Option.bind_none]
      rfl
    | some v2 =>
      rw [hn] at he
      obtain rfl := he
      have hn2 := Lib.hid hn
      clear hn
      simp only [Option.isSome_none, Option.isSome_some]
      have e2 := cell_of_cells F2.out.ee 2
      simp only [List.setIfInBounds_toArray, List.set_cons_zero, List.set_cons_succ, List.getElem?_toArray, List.getElem?_cons_succ, List.getElem?_cons_zero] at e2
      have fz2 := blk_frozen F2.out.ee 2
      have lt := blk_lt F2.out.ee
      have ne := F2.out.lt
      have ne1 : ¬ (w.heap.size + 1 = eb) := by omega
      have ne2 : ¬ (w.heap.size = eb) := by omega
      have kk0 := cell_of_cells F2.out.kk 0
      simp only [List.getElem?_toArray, List.getElem?_cons_succ, List.getElem?_cons_zero] at kk0
      have kk1 := cell_of_cells F2.out.kk 1
      simp only [List.getElem?_toArray, List.getElem?_cons_succ, List.getElem?_cons_zero] at kk1
      have kk2 := cell_of_cells F2.out.kk 2
      simp only [List.getElem?_toArray, List.getElem?_cons_succ, List.getElem?_cons_zero] at kk2
      have kk3 := cell_of_cells F2.out.kk 3
      simp only [List.getElem?_toArray, List.getElem?_cons_succ, List.getElem?_cons_zero] at kk3
      have kw := cell_of_cells F2.out.kw 0
      simp only [List.getElem?_toArray, List.getElem?_cons_succ, List.getElem?_cons_zero] at kw
      by_cases hz : ws.tail.tail.length = 0
      · have hz := hz
        have hz1 : ((ws.tail.tail.length : Nat) : Int) = 0 := by omega
        have HZ := Lib.hid hz
        clear hz
        go_wp2_with fail
        go_ret
        refine ⟨(F2.out.set 2 (.int .i64 v2)).bb, ?_⟩
        unfold fillO
        rw [takeW_off, Option.bind_some]
        rw [takeW_ok ex1.out hn1.out, Option.bind_some]
        rw [takeW_ok ex2.out hn2.out, Option.bind_some]
        rw [if_pos HZ.out]
        refine ⟨rfl, _, (F2.out.set 2 (.int .i64 v2)).ee, ?_⟩
        exact Kd.R_nil _ _ _ _ _
      · have hz := hz
        have hz1 : ¬ ((ws.tail.tail.length : Nat) : Int) = 0 := by omega
        have HZ := Lib.hid hz
        clear hz
        go_wp2_with fail
        go_ret
        refine ⟨(F2.out.set 2 (.int .i64 v2)).bb, ?_⟩
        unfold fillO
        rw [takeW_off, Option.bind_some]
        rw [takeW_ok ex1.out hn1.out, Option.bind_some]
        rw [takeW_ok ex2.out hn2.out, Option.bind_some]
        rw [if_neg HZ.out]
        have hf : (((ws.tail.tail.length : Nat) : Int) == 0) = false := beq_eq_false_iff_ne.2 hz1
        try simp only [List.length_tail] at hf
        exact congrArg (fun b => Ending.returned (Value.bool b)) hf
set_option maxHeartbeats 4000000 in
set_option maxRecDepth 100000 in
theorem fill_k (words : ByteArray) (i : Int) (eb : Nat) (A : Option Addr) (c : Nat) (ws : List ByteArray) (w : World) (he : w.heap[eb]? = some (.cells #[.int .i64 i, .int .i64 0, .int .i64 0, .slice none 0 0] 29 (0, 0))) (hT : Txts eb w.heap.size w A ws) (hc : ws.length ≤ c) (hl : ws.length ≤ 1000000) (hx : ∀ x ∈ ws, x.size ≤ 1000000) (hG : ∀ W, Below eb w W → GlobT W) :
    Calls Tryd.prog 33 #[.agg #[.string words, .bool false, .bool false, .bool true], .pointer (some ⟨eb, 0, none⟩), .slice A ws.length c] w (FillPost i (fillO false false true ws) eb w) := by
  have HX := Lib.hid hx
  have HG := Lib.hid hG
  have HL := Lib.hid hl
  have F0 := Lib.hid (FS.start (words := words) (d := false) (c := false) (k := true) he hT hc)
  clear hx hG he hT hc hl
  go_enter Tryd.func33, Tryd.ntmps33
  go_wp2_with fail
  refine (F0.out.next HL.out).mono ?_
  rintro e V1 ⟨x1, ex1, rfl, A1, c1, h1⟩
  have H1 := Lib.hid h1
  clear h1 F0
  have hs1 : x1.size ≤ 1000000 := head_small ex1.out HX.out
  go_wp2_with fail
  refine (next_number hs1 (HG.out _ H1.out.bb)).mono ?_
  rintro e W1 ⟨he, hb⟩
  have F1 := Lib.hid (H1.out.below hb)
  clear hb H1
  cases hn : numL x1.data.toList with
  | none =>
    rw [hn] at he
    obtain rfl := he
    have hn1 := Lib.hid hn
    clear hn
    simp only [Option.isSome_none, Option.isSome_some]
    have e2 := cell_of_cells F1.out.ee 2
    simp only [List.setIfInBounds_toArray, List.set_cons_zero, List.set_cons_succ, List.getElem?_toArray, List.getElem?_cons_succ, List.getElem?_cons_zero] at e2
    have fz2 := blk_frozen F1.out.ee 2
    have lt := blk_lt F1.out.ee
    have ne := F1.out.lt
    have ne1 : ¬ (w.heap.size + 1 = eb) := by omega
    have ne2 : ¬ (w.heap.size = eb) := by omega
    have kk0 := cell_of_cells F1.out.kk 0
    simp only [List.getElem?_toArray, List.getElem?_cons_succ, List.getElem?_cons_zero] at kk0
    have kk1 := cell_of_cells F1.out.kk 1
    simp only [List.getElem?_toArray, List.getElem?_cons_succ, List.getElem?_cons_zero] at kk1
    have kk2 := cell_of_cells F1.out.kk 2
    simp only [List.getElem?_toArray, List.getElem?_cons_succ, List.getElem?_cons_zero] at kk2
    have kk3 := cell_of_cells F1.out.kk 3
    simp only [List.getElem?_toArray, List.getElem?_cons_succ, List.getElem?_cons_zero] at kk3
    have kw := cell_of_cells F1.out.kw 0
    simp only [List.getElem?_toArray, List.getElem?_cons_succ, List.getElem?_cons_zero] at kw
    go_wp2_with fail
    go_ret
    refine ⟨(F1.out.set 2 (.int .i64 0)).bb, ?_⟩
    unfold fillO
    rw [takeW_off, Option.bind_some]
    rw [takeW_off, Option.bind_some]
    rw [takeW_no ex1.out hn1.out, Option.bind_none]
    rfl
  | some v1 =>
    rw [hn] at he
    obtain rfl := he
    have hn1 := Lib.hid hn
    clear hn
    simp only [Option.isSome_none, Option.isSome_some]
    have e2 := cell_of_cells F1.out.ee 2
    simp only [List.setIfInBounds_toArray, List.set_cons_zero, List.set_cons_succ, List.getElem?_toArray, List.getElem?_cons_succ, List.getElem?_cons_zero] at e2
    have fz2 := blk_frozen F1.out.ee 2
    have lt := blk_lt F1.out.ee
    have ne := F1.out.lt
    have ne1 : ¬ (w.heap.size + 1 = eb) := by omega
    have ne2 : ¬ (w.heap.size = eb) := by omega
    have kk0 := cell_of_cells F1.out.kk 0
    simp only [List.getElem?_toArray, List.getElem?_cons_succ, List.getElem?_cons_zero] at kk0
    have kk1 := cell_of_cells F1.out.kk 1
    simp only [List.getElem?_toArray, List.getElem?_cons_succ, List.getElem?_cons_zero] at kk1
    have kk2 := cell_of_cells F1.out.kk 2
    simp only [List.getElem?_toArray, List.getElem?_cons_succ, List.getElem?_cons_zero] at kk2
    have kk3 := cell_of_cells F1.out.kk 3
    simp only [List.getElem?_toArray, List.getElem?_cons_succ, List.getElem?_cons_zero] at kk3
    have kw := cell_of_cells F1.out.kw 0
    simp only [List.getElem?_toArray, List.getElem?_cons_succ, List.getElem?_cons_zero] at kw
    by_cases hz : ws.tail.length = 0
    · have hz := hz
      have hz1 : ((ws.tail.length : Nat) : Int) = 0 := by omega
      have HZ := Lib.hid hz
      clear hz
      go_wp2_with fail
      go_ret
      refine ⟨(F1.out.set 2 (.int .i64 v1)).bb, ?_⟩
      unfold fillO
      rw [takeW_off, Option.bind_some]
      rw [takeW_off, Option.bind_some]
      rw [takeW_ok ex1.out hn1.out, Option.bind_some]
      rw [if_pos HZ.out]
      refine ⟨rfl, _, (F1.out.set 2 (.int .i64 v1)).ee, ?_⟩
      exact Kd.R_nil _ _ _ _ _
    · have hz := hz
      have hz1 : ¬ ((ws.tail.length : Nat) : Int) = 0 := by omega
      have HZ := Lib.hid hz
      clear hz
      go_wp2_with fail
      go_ret
      refine ⟨(F1.out.set 2 (.int .i64 v1)).bb, ?_⟩
      unfold fillO
      rw [takeW_off, Option.bind_some]
      rw [takeW_off, Option.bind_some]
      rw [takeW_ok ex1.out hn1.out, Option.bind_some]
      rw [if_neg HZ.out]
      have hf : (((ws.tail.length : Nat) : Int) == 0) = false := beq_eq_false_iff_ne.2 hz1
      try simp only [List.length_tail] at hf
      exact congrArg (fun b => Ending.returned (Value.bool b)) hf
end Go.Proofs.YtoloooammaiipaaDoor
/-
  DERIVED: THE SHELF's CONTRACTS AT THIS DUMP, IN PLAIN WORDS (tools/lay-plain.mjs out of 'YtoloooammaiipaaDoorSCnt.lean', which tools/lay-shelf.mjs wrote): THE SAME DECLARATIONS UNDER THE SAME NAMES: 'import', 'namespace', 'open', 'def', 'theorem' AND NOTHING ELSE: no command of the shelf's: FOR A HAND-IN. Each laying: the table of numbers ('.._ren') and one theorem, a field a fact of the dump's own or the kernel's comparison; each contract: ONE APPLICATION.
-/
namespace Go.Proofs
open Go.Shelf
def Tryd.lays138_ren : Go.Shelf.Ren := ⟨fun | 138 => 35 | 195 => 50 | 218 => 51 | 143 => 52 | 219 => 62 | 217 => 44 | 225 => 71 | 224 => 72 | 267 => 73 | 266 => 56 | 314 => 85 | n => n, fun | 9 => 9 | 3 => 3 | 4 => 4 | 5 => 5 | 0 => 0 | 46 => 63 | 146 => 122 | 51 => 113 | n => n, fun | 1 => 1 | n => n⟩
theorem Tryd.lays138 : Go.Proofs.Lays.n138 Tryd.prog Tryd.lays138_ren := {
  mixed := by kernel_rfl
  f138 := Tryd.func35.trans (congrArg some (by kernel_rfl))
  f143 := Tryd.func52.trans (congrArg some (by kernel_rfl))
  f195 := Tryd.func50.trans (congrArg some (by kernel_rfl))
  f217 := Tryd.func44.trans (congrArg some (by kernel_rfl))
  f218 := Tryd.func51.trans (congrArg some (by kernel_rfl))
  f219 := Tryd.func62.trans (congrArg some (by kernel_rfl))
  f224 := Tryd.func72.trans (congrArg some (by kernel_rfl))
  f225 := Tryd.func71.trans (congrArg some (by kernel_rfl))
  f266 := Tryd.func56.trans (congrArg some (by kernel_rfl))
  f267 := Tryd.func73.trans (congrArg some (by kernel_rfl))
  f314 := Tryd.func85.trans (congrArg some (by kernel_rfl))
  t0 := Tryd.underlying0
  a0 := Tryd.isAgg0
  z0 := Tryd.sizeOf0
  v0 := Tryd.zeroValue0
  t3 := Tryd.underlying3
  a3 := Tryd.isAgg3
  z3 := Tryd.sizeOf3
  v3 := Tryd.zeroValue3
  t4 := Tryd.underlying4
  a4 := Tryd.isAgg4
  z4 := Tryd.sizeOf4
  v4 := Tryd.zeroValue4
  t5 := Tryd.underlying5
  a5 := Tryd.isAgg5
  z5 := Tryd.sizeOf5
  v5 := Tryd.zeroValue5
  t9 := Tryd.underlying9
  a9 := Tryd.isAgg9
  z9 := Tryd.sizeOf9
  v9 := Tryd.zeroValue9
  t46 := Tryd.underlying63
  a46 := Tryd.isAgg63
  z46 := Tryd.sizeOf63
  v46 := Tryd.zeroValue63
  t51 := Tryd.underlying113
  a51 := Tryd.isAgg113
  z51 := Tryd.sizeOf113
  v51 := Tryd.zeroValue113
  t146 := Tryd.underlying122
  a146 := Tryd.isAgg122
  z146 := Tryd.sizeOf122
  v146 := Tryd.zeroValue122
  g1 := by kernel_rfl }
open Go.RowKit Go.Lib in
/-- strings.Count AT A substr OF ONE BYTE ('hp'): "Count counts the number of non-overlapping instances of substr in s.": IT RETURNS 'Lib.countByte s (that byte)'; the world is as it was. ✋ NO CONTRACT HERE YET at an empty substr (utf8.RuneCountInString) or at a longer one (a loop over strings.Index). (LAID: no walk: one application.) -/
theorem Tryd.strings_Count_one (s : ByteArray) (c : UInt8) (w : World) :
    Calls Tryd.prog 35 #[.string s, .string ⟨#[c]⟩] w fun e w' => e = .returned (.int .i64 (Lib.countByte s.data.toList c)) ∧ w' = w := Any.strings_Count_one Tryd.lays138 s c w
end Go.Proofs
/- Rows of rows of texts: what is read of one, how much they weigh, what may be among them. -/
namespace Go.Proofs.YtoloooammaiipaaDoor
open Go Go.RowKit Go.Proofs.YtoloooammaiipaaDoorW.PrintWords Go.Proofs.YtoloooammaiipaaDoorW.PrintLast

/-- What some texts weigh. -/
def wt (p : List ByteArray) : Nat := (p.map fun x => 1 + x.size).sum
/-- What some rows of texts weigh. -/
def wts (l : List (List ByteArray)) : Nat := (l.map wt).sum
theorem wt_snoc (p : List ByteArray) (x : ByteArray) : wt (p ++ [x]) = wt p + (1 + x.size) := by simp [wt]
theorem wts_snoc (l : List (List ByteArray)) (p : List ByteArray) : wts (l ++ [p]) = wts l + wt p := by simp [wts]
theorem wt_take (p : List ByteArray) (i : Nat) (h : i < p.length) : wt (p.take (i + 1)) = wt (p.take i) + (1 + (p[i]'h).size) := by
  rw [List.take_succ_eq_append_getElem h, wt_snoc]
theorem wts_take (l : List (List ByteArray)) (i : Nat) (h : i < l.length) : wts (l.take (i + 1)) = wts (l.take i) + wt (l[i]'h) := by
  rw [List.take_succ_eq_append_getElem h, wts_snoc]
theorem wt_le (p : List ByteArray) (i : Nat) : wt (p.take i) ≤ wt p := by
  have h : wt p = wt (p.take i) + wt (p.drop i) := by
    unfold wt
    rw [← List.sum_append, ← List.map_append, List.take_append_drop]
  omega
theorem wts_le (l : List (List ByteArray)) (i : Nat) : wts (l.take i) ≤ wts l := by
  have h : wts l = wts (l.take i) + wts (l.drop i) := by
    unfold wts
    rw [← List.sum_append, ← List.map_append, List.take_append_drop]
  omega
theorem wt_length (p : List ByteArray) : p.length ≤ wt p := by
  induction p with
  | nil => exact Nat.zero_le _
  | cons x r ih =>
    have e : wt (x :: r) = (1 + x.size) + wt r := by simp [wt]
    rw [e, List.length_cons]
    omega
theorem wts_length {l : List (List ByteArray)} (h : ∀ p ∈ l, p ≠ []) : l.length ≤ wts l := by
  induction l with
  | nil => exact Nat.zero_le _
  | cons p r ih =>
    have e : wts (p :: r) = wt p + wts r := by simp [wts]
    have h1 := ih (fun q hq => h q (List.mem_cons_of_mem _ hq))
    have h2 := wt_length p
    have h3 : 0 < p.length := List.length_pos_iff.2 (h p List.mem_cons_self)
    rw [e, List.length_cons]
    omega
theorem wt_mem {p : List ByteArray} {x : ByteArray} (h : x ∈ p) : x.size ≤ wt p := by
  obtain ⟨i, hi, rfl⟩ := List.mem_iff_getElem.1 h
  have h1 := wt_take p i hi
  have h2 := wt_le p (i + 1)
  omega
theorem wts_mem {l : List (List ByteArray)} {p : List ByteArray} (h : p ∈ l) : wt p ≤ wts l := by
  obtain ⟨i, hi, rfl⟩ := List.mem_iff_getElem.1 h
  have h1 := wts_take l i hi
  have h2 := wts_le l (i + 1)
  omega
/-- A text without the two signs. -/
def Clean2 (x : ByteArray) : Prop := ∀ c ∈ x.data.toList, c ≠ 126 ∧ c ≠ 94
/-- Rows that may stay: none is empty, each text is without the signs. -/
def Kept (own : List (List ByteArray)) : Prop := ∀ p ∈ own, p ≠ [] ∧ ∀ x ∈ p, Clean2 x
/-- A row of rows: one of them. -/
theorem at_rows {α : Type} {d : Kd α} {e : Nat} {w : World} {A : Option Addr} {n : Nat} {xs : List (List α)} (h : (Kd.slice e d).C w A n xs) {i : Nat} (hi : i < xs.length) :
    ∃ ad A' c', A = some ad ∧ w.cell? (ad.add i) = some (.slice A' (xs[i]'hi).length c') ∧ (xs[i]'hi).length ≤ c' ∧ d.C w A' (xs[i]'hi).length (xs[i]'hi) := by
  obtain ⟨hn, hm, hr⟩ := h
  obtain ⟨ad, e1, hc⟩ := hr (by omega)
  obtain ⟨c, hs, ⟨A', c', e2, hl, hC⟩, hcell⟩ := hc i _ (List.getElem?_eq_getElem hi)
  subst e2
  have h0 := hcell 0 _ rfl
  have e3 : i * (Kd.slice e d).sz + 0 = i := by show i * 1 + 0 = i; omega
  rw [e3] at h0
  exact ⟨ad, A', c', e1, h0, hl, hC⟩
/-- A row of texts: one of them. -/
theorem at_text {w : World} {A : Option Addr} {n : Nat} {xs : List ByteArray} (h : Kd.string.C w A n xs) {i : Nat} (hi : i < xs.length) :
    ∃ ad, A = some ad ∧ w.cell? (ad.add i) = some (.string (xs[i]'hi)) := by
  obtain ⟨ad, e, hc⟩ := (Kd.reads_of_C (enc := Value.string) (d := ByteArray.empty) (h1 := fun _ => rfl) h).2.2 (by have := h.1; omega)
  refine ⟨ad, e, ?_⟩
  rw [hc i (by have := h.1; omega), List.getD_eq_getElem?_getD, List.getElem?_eq_getElem hi]
  rfl
theorem text_at {x : ByteArray} {j : Nat} (h : j < x.size) {c : UInt8} (hc : c ∈ x.data.toList.take (j + 1)) : c ∈ x.data.toList.take j ∨ c = x[j]'h := by
  have hl : j < x.data.toList.length := by rw [Array.length_toList]; exact h
  rw [List.take_succ_eq_append_getElem hl, List.mem_append, List.mem_singleton] at hc
  rcases hc with hc | hc
  · exact Or.inl hc
  · exact Or.inr hc
end Go.Proofs.YtoloooammaiipaaDoor
/- What trace.Read gives: a walk; conditions: a text of at most 100000 bytes; the tables lie as the program's text lays them. -/
namespace Go.Proofs.YtoloooammaiipaaDoor
open Go Go.RowKit Go.Proofs.YtoloooammaiipaaDoor.PI Go.Proofs.YtoloooammaiipaaDoorW.PrintWords Go.Proofs.YtoloooammaiipaaDoorW.PrintLast Go.Proofs.YtoloooammaiipaaDoorW.PrintMore
set_option linter.unusedVariables false
set_option linter.unusedSimpArgs false
/-- What is behind a text's beginning. -/
def stripL (p s : List UInt8) : Option (List UInt8) := if s.take p.length = p then some (s.drop p.length) else none
def stripO (a : ByteArray) : Option (List UInt8) → ByteArray × Bool
  | some r => (strOf r, true)
  | none => (a, false)
theorem cutprefix_is (a b : ByteArray) (hb : b.size ≤ 1000000) : strings_CutPrefix.f a b = some (stripO a (stripL b.data.toList a.data.toList)) := by
  have h1 := len_size a
  have h2 := len_size b
  have h3 : ((b.size : Int)).toNat = b.size := Int.toNat_natCast _
  unfold strings_CutPrefix.f stringslite_CutPrefix.f stringslite_HasPrefix.f stripL
  by_cases h : b.size ≤ a.size
  · rw [if_pos (by omega), if_pos (by omega), if_pos (by omega), Option.bind_some, h3]
    have e : (a.extract 0 b.size).toList = a.data.toList.take b.data.toList.length := by
      rw [Lib.toList_data, Lib.extract_data, List.drop_zero, h2, Nat.sub_zero]
    rw [e, Lib.toList_data b]
    by_cases hq : a.data.toList.take b.data.toList.length = b.data.toList
    · rw [if_pos (by rw [beq_iff_eq]; exact hq), if_pos (by omega), if_pos (by omega), if_pos hq, Option.bind_some]
      congr 1
      show (_, true) = (_, true)
      congr 1
      apply bytes_eq
      rw [Lib.extract_data, strOf_data, h2, ← h1, ← List.length_drop, List.take_length]
    · rw [if_neg (by rw [beq_iff_eq]; exact hq), if_neg hq, Option.bind_some]
      rfl
  · rw [if_neg (by omega), Option.bind_some, if_neg (by decide), if_neg, Option.bind_some]
    · rfl
    · intro e
      have := congrArg List.length e
      rw [List.length_take] at this
      omega
/-- What a text tells as an event of a kind. -/
def readRow (s : List UInt8) (r : KRow) : Option (List Int × Int × Int) :=
  (stripL (r.1 ++ [32]) (s ++ [32])).bind fun x => fillO r.2.1 r.2.2.1 r.2.2.2 (((cutL 32 x).map strOf).take (x.count 32))
def readAt (s : List UInt8) (i : Nat) : Option (List Int × Int × Int) := readRow s (kRows.getD i ([], false, false, false))
theorem space_data (s : ByteArray) : (s ++ ⟨#[32]⟩).data.toList = s.data.toList ++ [32] := by rw [ByteArray.data_append, Array.toList_append]
theorem readAt_eq {i : Nat} {ws : List UInt8} {fd fc fk : Bool} (h : kRows.getD i ([], false, false, false) = (ws, fd, fc, fk)) (s : ByteArray) {wd : ByteArray} (hwd : wd = ⟨ws.toArray⟩) :
    readAt s.data.toList i = (stripL (wd ++ ⟨#[32]⟩).data.toList (s ++ ⟨#[32]⟩).data.toList).bind fun x => fillO fd fc fk (((cutL 32 x).map strOf).take (x.count 32)) := by
  unfold readAt readRow
  rw [h, space_data, space_data, hwd]
theorem row_len {i : Nat} {ws : List UInt8} {fd fc fk : Bool} (h : kRows.getD i ([], false, false, false) = (ws, fd, fc, fk)) (hi : i < 9) : ws.length ≤ 8 := by
  have key : ∀ j : Fin 9, (kRows.getD j.1 ([], false, false, false)).1.length ≤ 8 := by decide
  have := key ⟨i, hi⟩
  simp only at this
  rwa [h] at this
set_option maxRecDepth 100000 in
theorem kind_index_all (w : World) : ∀ i : Nat, i < 9 → (Instr.index 69 (.agg (List.flatMap kVals kRows).toArray) (.int .i64 (i : Int))).run Tryd.prog w = .ok (.agg (kVals (kRows.getD i ([], false, false, false))).toArray) w
  | 0, _ => rfl | 1, _ => rfl | 2, _ => rfl | 3, _ => rfl | 4, _ => rfl | 5, _ => rfl | 6, _ => rfl | 7, _ => rfl | 8, _ => rfl
  | n + 9, h => by omega
theorem kind_index {i : Nat} {ws : List UInt8} {fd fc fk : Bool} (hi : i < 9) (h : kRows.getD i ([], false, false, false) = (ws, fd, fc, fk)) (w : World) : (Instr.index 69 (.agg (List.flatMap kVals kRows).toArray) (.int .i64 (i : Int))).run Tryd.prog w = .ok (.agg #[.string ⟨ws.toArray⟩, .bool fd, .bool fc, .bool fk]) w := by
  rw [kind_index_all w i hi, h]
  rfl
theorem kinds_at {w : World} (hG : GlobT w) : w.rangeAt 0 0 (kRows.flatMap kVals) := fun j v hj => by
  have h := World.var?_cell (show Tryd.prog.globalNamed "lamplighter/trace.kinds" = some 0 by kernel_rfl) hG.kinds j
  rw [Nat.zero_add, h]
  unfold kindsC
  rw [List.getElem?_toArray]
  exact hj
theorem two_new (w : World) : Below w.heap.size w ((w.alloc (.cells #[.int .i64 0, .int .i64 0, .int .i64 0, .slice none 0 0] 29 (0, 0))).alloc (.cells #[.int .i64 0, .int .i64 0, .int .i64 0, .slice none 0 0] 29 (0, 0))) ∧
    ((w.alloc (.cells #[.int .i64 0, .int .i64 0, .int .i64 0, .slice none 0 0] 29 (0, 0))).alloc (.cells #[.int .i64 0, .int .i64 0, .int .i64 0, .slice none 0 0] 29 (0, 0))).heap[w.heap.size]? = some (.cells #[.int .i64 0, .int .i64 0, .int .i64 0, .slice none 0 0] 29 (0, 0)) ∧
    ((w.alloc (.cells #[.int .i64 0, .int .i64 0, .int .i64 0, .slice none 0 0] 29 (0, 0))).alloc (.cells #[.int .i64 0, .int .i64 0, .int .i64 0, .slice none 0 0] 29 (0, 0))).heap[w.heap.size + 1]? = some (.cells #[.int .i64 0, .int .i64 0, .int .i64 0, .slice none 0 0] 29 (0, 0)) := by
  refine ⟨below_alloc (below_alloc (Below.refl _ _) _) _, blk_alloc (blk_new w _) _, ?_⟩
  have := blk_new (w.alloc (.cells #[.int .i64 0, .int .i64 0, .int .i64 0, .slice none 0 0] 29 (0, 0))) (.cells #[.int .i64 0, .int .i64 0, .int .i64 0, .slice none 0 0] 29 (0, 0))
  simpa using this
theorem hnext9 {j : Nat} (h : j < 9) : wrap64 ((j : Int) + 1) = ((j + 1 : Nat) : Int) := hnext h (by decide)
/-- What a text tells as an event: its kind, bytes, numbers. -/
def readO (s : List UInt8) : Option (Nat × List Int × Int × Int) := (List.range 9).findSome? fun i => (readAt s i).map fun x => (i, x)
def ReadPost (s : ByteArray) (w : World) (e : Ending) (w' : World) : Prop :=
  Below w.heap.size w w' ∧ ∃ v, Kd.R (Kd.int .u8) 5 w' w.heap.size (fun _ => True) v ((readO s.data.toList).elim [] fun x => x.2.1) ∧
    e = .returned (.tuple #[.agg #[.int .i64 ((readO s.data.toList).elim 0 fun x => (x.1 : Int)), .int .i64 ((readO s.data.toList).elim 0 fun x => x.2.2.1), .int .i64 ((readO s.data.toList).elim 0 fun x => x.2.2.2), v], .int .i64 ((readO s.data.toList).elim 10 fun _ => 0)])
theorem strip_len {p s r : List UInt8} (h : stripL p s = some r) : r.length ≤ s.length := by
  unfold stripL at h
  split at h
  · obtain rfl := Option.some.inj h
    rw [List.length_drop]
    omega
  · cases h
theorem txts_of {W : World} {base g c n lo : Nat} {xs WS : List ByteArray} (h : Kd.R Kd.string 9 W base (fun _ => True) (.slice (some ⟨g, 0, none⟩) n c) xs) (h1 : lo < g) (h2 : g < W.heap.size) (hn : WS.length ≤ xs.length) (hW : ∃ m, WS = xs.take m) : Txts lo W.heap.size W (some ⟨g, 0, none⟩) WS := fun _ => by
  refine ⟨g, 0, rfl, h1, h2, fun i hi => ?_⟩
  obtain ⟨e, -, hC⟩ := Kd.R_reads' h
  obtain ⟨ad, e1, e2⟩ := at_text hC (i := i) (by omega)
  obtain rfl := Option.some.inj e1
  rw [Go.Proofs.YtoloooammaiipaaDoorW.PrintWords.add_plain] at e2
  rw [Nat.zero_add, e2]
  obtain ⟨m, rfl⟩ := hW
  simp
theorem fill_any {i0 : Nat} {ks : List UInt8} {fd fc fk : Bool} (hi : i0 < 9) (h : kRows.getD i0 ([], false, false, false) = (ks, fd, fc, fk)) (words : ByteArray) (i : Int) (eb : Nat) (A : Option Addr) (c : Nat) (ws : List ByteArray) (w : World) (he : w.heap[eb]? = some (.cells #[.int .i64 i, .int .i64 0, .int .i64 0, .slice none 0 0] 29 (0, 0))) (hT : Txts eb w.heap.size w A ws) (hc : ws.length ≤ c) (hl : ws.length ≤ 1000000) (hx : ∀ x ∈ ws, x.size ≤ 1000000) (hG : ∀ W, Below eb w W → GlobT W) :
    Calls Tryd.prog 33 #[.agg #[.string words, .bool fd, .bool fc, .bool fk], .pointer (some ⟨eb, 0, none⟩), .slice A ws.length c] w (FillPost i (fillO fd fc fk ws) eb w) := by
  have key : ∀ j : Fin 9, (kRows.getD j.1 ([], false, false, false)).2 = (true, false, false) ∨ (kRows.getD j.1 ([], false, false, false)).2 = (false, false, false) ∨ (kRows.getD j.1 ([], false, false, false)).2 = (false, true, false) ∨ (kRows.getD j.1 ([], false, false, false)).2 = (false, true, true) ∨ (kRows.getD j.1 ([], false, false, false)).2 = (false, false, true) := by decide
  have hk := key ⟨i0, hi⟩
  simp only at hk
  rw [h] at hk
  simp only [Prod.mk.injEq] at hk
  rcases hk with ⟨rfl, rfl, rfl⟩ | ⟨rfl, rfl, rfl⟩ | ⟨rfl, rfl, rfl⟩ | ⟨rfl, rfl, rfl⟩ | ⟨rfl, rfl, rfl⟩
  · exact fill_d words i eb A c ws w he hT hc hl hx hG
  · exact fill_z words i eb A c ws w he hT hc hl hx hG
  · exact fill_c words i eb A c ws w he hT hc hl hx hG
  · exact fill_ck words i eb A c ws w he hT hc hl hx hG
  · exact fill_k words i eb A c ws w he hT hc hl hx hG
theorem readO_some {s : List UInt8} {i : Nat} {x : List Int × Int × Int} (hi : i < 9) (hno : ∀ j, j < i → readAt s j = none) (h : readAt s i = some x) : readO s = some (i, x) := by
  unfold readO
  have e : List.range 9 = List.range i ++ (i :: (List.range 9).drop (i + 1)) := by
    have key : ∀ j : Fin 9, List.range 9 = List.range j.1 ++ (j.1 :: (List.range 9).drop (j.1 + 1)) := by decide
    exact key ⟨i, hi⟩
  rw [e, List.findSome?_append, List.findSome?_eq_none_iff.2 (fun j hj => by rw [hno j (List.mem_range.1 hj)]; rfl), Option.none_or, List.findSome?_cons, h]
  rfl
theorem readO_none {s : List UInt8} (hno : ∀ j, j < 9 → readAt s j = none) : readO s = none := List.findSome?_eq_none_iff.2 (fun j hj => by rw [hno j (List.mem_range.1 hj)]; rfl)
theorem four_set {W : World} {g : Nat} {t : TypeId} {a b c d : Value} (h : W.heap[g]? = some (.cells #[a, b, c, d] t (0, 0))) (x0 x1 x2 x3 : Value) :
    ((((W.setCell ⟨g, 0, none⟩ x0).setCell ⟨g, 1, none⟩ x1).setCell ⟨g, 2, none⟩ x2).setCell ⟨g, 3, none⟩ x3).heap[g]? = some (.cells #[x0, x1, x2, x3] t (0, 0)) ∧
    (∀ j, j ≠ g → ((((W.setCell ⟨g, 0, none⟩ x0).setCell ⟨g, 1, none⟩ x1).setCell ⟨g, 2, none⟩ x2).setCell ⟨g, 3, none⟩ x3).heap[j]? = W.heap[j]?) ∧
    (∀ B w, B ≤ g → Below B w W → Below B w ((((W.setCell ⟨g, 0, none⟩ x0).setCell ⟨g, 1, none⟩ x1).setCell ⟨g, 2, none⟩ x2).setCell ⟨g, 3, none⟩ x3)) :=
  ⟨(blk_set (blk_set (blk_set (blk_set h 0 x0) 1 x1) 2 x2) 3 x3).trans rfl,
   fun j hj => (Below.heap_setCell _ ⟨g, 3, none⟩ _ j hj).trans ((Below.heap_setCell _ ⟨g, 2, none⟩ _ j hj).trans ((Below.heap_setCell _ ⟨g, 1, none⟩ _ j hj).trans (Below.heap_setCell _ ⟨g, 0, none⟩ _ j hj))),
   fun B w hB hb => (((hb.setCell hB x0).setCell hB x1).setCell hB x2).setCell hB x3⟩
theorem ret_read {R : Ending → World → Prop} {a : Act} {W : World} {g : Nat} {x0 x1 x2 x3 er : Value} (hd : a.defers = []) (h : W.heap[g]? = some (.cells #[x0, x1, x2, x3] 29 (0, 0))) (ht : a.tmps[2]?.getD undef = .pointer (some ⟨g, 0, none⟩)) (h3 : a.tmps[3]?.getD undef = er)
    (hp : R (.returned (.tuple #[.agg #[x0, x1, x2, x3], er])) W) : bodyPost Tryd.prog Tryd.f17 R .ret a W := by
  have c0 := cell_of_cells h 0
  have c1 := cell_of_cells h 1
  have c2 := cell_of_cells h 2
  have c3 := cell_of_cells h 3
  simp only [List.getElem?_toArray, List.getElem?_cons_zero, List.getElem?_cons_succ] at c0 c1 c2 c3
  refine bodyPost_ret (v := .tuple #[.agg #[x0, x1, x2, x3], er]) ?_ hd hp
  simp [results, Tryd.results17, ht, h3, c0, c1, c2, c3, go_sem]
set_option maxHeartbeats 8000000 in
set_option maxRecDepth 100000 in
theorem read_walk (s : ByteArray) (hs : s.size ≤ 100000) (w : World) (hG : GlobT w) :
    Calls Tryd.prog 17 #[.string s] w (ReadPost s w) := by
  have HG := Lib.hid hG
  have HS := Lib.hid hs
  clear hG
  go_enter Tryd.func17, Tryd.ntmps17
  go_wp2_with fail
  go_step3
  go_wp2_with fail
  go_step3
  have HB0 := Lib.hid (two_new w)
  generalize hw0 : (w.alloc (.cells #[.int .i64 0, .int .i64 0, .int .i64 0, .slice none 0 0] 29 (0, 0))).alloc (.cells #[.int .i64 0, .int .i64 0, .int .i64 0, .slice none 0 0] 29 (0, 0)) = w0 at HB0
  go_wp2_with (first | (refine gate_dst (N := 11) rfl ?_; refine wpList_load_mid rfl 69 _ rfl 0 0 rfl (kRows.flatMap kVals) _ (kinds_at (globt_below HG.out HB0.out.1)) Tryd.underlying69 rfl (by kernel_rfl) ?_; generalize hKV : Value.agg (List.flatMap kVals kRows).toArray = KV))
  have HKV := Lib.hid hKV
  clear hKV
  clear hw0
  go_loopw [5, 12] (fun v5 vi wr => ∃ i : Nat, v5 = .int .i64 10 ∧ vi = .int .i64 i ∧ i ≤ 9 ∧ Hid (Below w0.heap.size w0 wr ∧ ∀ j, j < i → readAt s.data.toList j = none)) (fun _ vi _ => 9 - (intOf vi).toNat)
  case atStart => exact ⟨0, rfl, rfl, by omega, Lib.hid ⟨Below.refl _ _, fun j hj => absurd hj (Nat.not_lt_zero j)⟩⟩
  case round =>
    obtain ⟨i, rfl, rfl, hi, hh⟩ := hrel
    obtain ⟨hbr, hno⟩ := hh.out
    have HBR := Lib.hid hbr
    have HNO := Lib.hid hno
    clear hh hbr hno
    by_cases hin : i < 9
    · have i0 : (0 : Int) ≤ (i : Int) := by omega
      have i1 : (i : Int) < 9 := by omega
      obtain ⟨ws, fd, fc, fk, hrow⟩ : ∃ ws fd fc fk, kRows.getD i ([], false, false, false) = (ws, fd, fc, fk) := ⟨_, _, _, _, rfl⟩
      have HROW := Lib.hid hrow
      have hwl := row_len hrow hin
      obtain ⟨wd, hwd⟩ : ∃ wd : ByteArray, wd = ⟨ws.toArray⟩ := ⟨_, rfl⟩
      have HWD := Lib.hid hwd
      have hws : wd.size = ws.length := by rw [hwd]; exact strOf_size ws
      have hix : ∀ w : World, (Instr.index 69 KV (.int .i64 (i : Int))).run Tryd.prog w = .ok (.agg #[.string wd, .bool fd, .bool fc, .bool fk]) w := fun w => by rw [← HKV.out, hwd]; exact kind_index hin hrow w
      clear hrow hwd
      have hs5 := HS.out
      have b1 : (9223372036854775807 < s.size + 1) = False := eq_false (by omega)
      have b2 : s.size + 1 ≤ 9223372036854775807 := by omega
      have b3 : (9223372036854775807 < wd.size + 1) = False := eq_false (by omega)
      have b4 : wd.size + 1 ≤ 9223372036854775807 := by omega
      clear hs5
      go_wp2_with fail
      have HK1 := Lib.hid (blk_new wr (.cells #[.string wd, .bool fd, .bool fc, .bool fk] 68 (0, 0)))
      have HB1 := Lib.hid (HBR.out.alloc HBR.out.size (.cells #[.string wd, .bool fd, .bool fc, .bool fk] 68 (0, 0)))
      generalize wr.alloc (.cells #[.string wd, .bool fd, .bool fc, .bool fk] 68) = w1 at HK1 HB1 ⊢
      generalize hgk : wr.heap.size = gk at HK1 ⊢
      have HGK := Lib.hid (show w0.heap.size ≤ gk from by rw [← hgk]; exact HBR.out.size)
      clear hgk HBR
      have hcp := cutprefix_is (s ++ ⟨#[32]⟩) (wd ++ ⟨#[32]⟩) (by rw [ByteArray.size_append]; show wd.size + 1 ≤ 1000000; omega)
      have HRA := Lib.hid (readAt_eq HROW.out s HWD.out)
      cases hst : stripL (wd ++ ⟨#[32]⟩).data.toList (s ++ ⟨#[32]⟩).data.toList with
      | none =>
        rw [hst] at hcp
        have HST := Lib.hid hst
        clear hst
        refine (strings_CutPrefix.calls _ _ _ _ _ hcp).mono ?_
        rintro e w2 ⟨rfl, hdr⟩
        have HB2 := Lib.hid (HB1.out.trans (hdr.below.mono (by have := blk_lt HK1.out; have := HGK.out; omega)))
        clear hdr hcp
        go_wp2_with fail
        have BI := Lib.hid (hnext9 hin)
        refine ⟨⟨i + 1, rfl, by first | rfl | exact congrArg _ BI.out, hin, Lib.hid ⟨HB2.out, fun j hj => ?_⟩⟩, by first | exact hmeas hin BI.out | exact hmeas hin rfl⟩
        rcases Nat.lt_succ_iff_lt_or_eq.1 hj with hj | rfl
        · exact HNO.out j hj
        · rw [HRA.out, HST.out]
          rfl
      | some rs =>
        rw [hst] at hcp
        have HST := Lib.hid hst
        clear hst
        refine (strings_CutPrefix.calls _ _ _ _ _ hcp).mono ?_
        rintro e w2 ⟨rfl, hdr⟩
        have HK2 := Lib.hid (blk_below HK1.out hdr.below)
        have HB2 := Lib.hid (HB1.out.trans (hdr.below.mono (by have := blk_lt HK1.out; have := HGK.out; omega)))
        clear hdr hcp
        obtain ⟨rest, hrest⟩ : ∃ rest, rest = strOf rs := ⟨_, rfl⟩
        simp only [stripO]
        rw [← hrest]
        have HRS := Lib.hid hrest
        clear hrest
        go_wp2_with fail
        have HE := Lib.hid (blk_new w2 (.cells #[.int .i64 (i : Int), .int .i64 0, .int .i64 0, .slice none 0 0] 29 (0, 0)))
        have HK := Lib.hid (blk_alloc HK2.out (.cells #[.int .i64 (i : Int), .int .i64 0, .int .i64 0, .slice none 0 0] 29 (0, 0)))
        have HB4 := Lib.hid (HB2.out.alloc HB2.out.size (.cells #[.int .i64 (i : Int), .int .i64 0, .int .i64 0, .slice none 0 0] 29 (0, 0)))
        have HLT := Lib.hid (blk_lt HK2.out)
        generalize w2.alloc (.cells #[.int .i64 (i : Int), .int .i64 0, .int .i64 0, .slice none 0 0] 29) = w4 at HE HK HB4 ⊢
        generalize w2.heap.size = ge at HE HLT ⊢
        obtain ⟨WS, hWS⟩ : ∃ WS, WS = ((cutL 32 rs).map strOf).take (rs.count 32) := ⟨_, rfl⟩
        have hcl := cutL_length 32 rs
        have hrl : rs.length ≤ 100001 := by
          have h1 := strip_len HST.out
          rw [space_data, List.length_append, len_size] at h1
          have := HS.out
          simp only [List.length_cons, List.length_nil] at h1
          omega
        have hrd : rest.data.toList = rs := by rw [HRS.out, strOf_data]
        have HSP := Lib.hid (show strings_Split.f rest ⟨#[32]⟩ = some ((cutL 32 rs).map strOf) from by
          unfold strings_Split.f
          rw [if_pos ⟨rfl, by rw [← len_size, hrd]; omega⟩, hrd]
          rfl)
        have HPOS := Lib.hid (show 0 < ((cutL 32 rs).map strOf).length from by rw [List.length_map]; omega)
        have hwl2 : WS.length = rs.count 32 := by rw [hWS, List.length_take, List.length_map]; omega
        have HCT := Lib.hid (show ((Lib.countByte rest.data.toList 32 : Nat) : Int) = (WS.length : Int) from by rw [hrd, hwl2]; rfl)
        have HCN := Lib.hid (show WS.length ≤ ((cutL 32 rs).map strOf).length from by rw [List.length_map]; omega)
        have HWL := Lib.hid (show WS.length ≤ 1000000 from by rw [hwl2]; exact Nat.le_trans (List.count_le_length) (by omega))
        have HWX := Lib.hid (show ∀ x ∈ WS, x.size ≤ 1000000 from fun x hx => by
          rw [hWS] at hx
          obtain ⟨y, hy, rfl⟩ := List.mem_map.1 (List.mem_of_mem_take hx)
          rw [strOf_size]
          have := cutL_part_le 32 rs y hy
          omega)
        have HWS := Lib.hid hWS
        clear hWS hcl hrl hrd hwl2
        refine start_ (n := 7) (S := fun w' => w'.heap[gk]? = some (.cells #[.string wd, .bool fd, .bool fc, .bool fk] 68 (0, 0)) ∧ Below gk w4 w') (ds := [6]) #[false, false, false, false, false, false, false] (by kernel_rfl) rfl rfl (⟨blk_drew HK.out, below_drew (Below.refl gk w4)⟩) (fun hHeld => ?_)
        refine pure_ (i := 1) (N := some 30) (v := ?_) (a' := ?_) #[false, true, false, false, false, false, false] rfl rfl (by kernel_rfl) (fun _ _ _ h => h) (Or.inl ⟨by rfl, ?_⟩) ?_ ?_
        rotate_left
        · intro w'
          go_simp
          with_reducible rfl
        rotate_left
        · simp only [Act.put, List.setIfInBounds_toArray, List.set_cons_zero, List.set_cons_succ]
          rfl
        refine pure_ (i := 3) (N := some 32) (v := ?_) (a' := ?_) #[false, true, false, true, false, false, false] rfl rfl (by kernel_rfl) (fun _ _ _ h => h) (Or.inl ⟨by rfl, ?_⟩) ?_ ?_
        rotate_left
        · intro w'
          go_simp
          with_reducible rfl
        rotate_left
        · simp only [Act.put, List.setIfInBounds_toArray, List.set_cons_zero, List.set_cons_succ]
          rfl
        refine take_ (i := 0) (N := some 29) (v := ?_) (a' := ?_) #[true, true, false, true, false, false, false] rfl rfl (by kernel_rfl) (fun _ _ _ h => h) (Or.inl ⟨by rfl, ?_⟩) hHeld ?_ ?_
        rotate_left
        · intro w' hs
          have e0 := cell_of_cells hs.1 0
          have e1 := cell_of_cells hs.1 1
          have e2 := cell_of_cells hs.1 2
          have e3 := cell_of_cells hs.1 3
          simp only [List.getElem?_toArray, List.getElem?_cons_zero, List.getElem?_cons_succ] at e0 e1 e2 e3
          go_simp
          with_reducible rfl
        rotate_left
        · simp only [Act.put, List.setIfInBounds_toArray, List.set_cons_zero, List.set_cons_succ]
          rfl
        refine one_ (i := 2) (N := some 31) #[true, true, true, true, false, false, false] rfl rfl (by kernel_rfl) (by decide) (fun K hK => ?_)
        refine goes_ Tryd.func34 (by kernel_rfl) rfl #[.string rest, .string ⟨#[32]⟩] (by rfl) rfl rfl (by (try simp only [List.map_toArray, List.map_cons, List.map_nil]); first | done | rfl) ?_
        refine (strings_Split.calls rest ⟨#[32]⟩ _ _ HSP.out).mono ?_
        rintro e w5 ⟨v31, rfl, hR, hb⟩
        refine ⟨_, rfl, ?_⟩
        have HB5 := Lib.hid hb
        have HR5 := Lib.hid hR
        clear hb hR
        obtain ⟨g31, c31, rfl, hg31, hlt31, -⟩ := Kd.R_form HR5.out HPOS.out
        have HD := Lib.hid hHeld
        refine hK.out _ _ ⟨blk_below HD.out.1 HB5.out, HD.out.2.trans (HB5.out.mono (by have := blk_lt HD.out.1; omega))⟩ (fun hHeld => ?_)
        clear hK K
        refine norm_ (a' := ?_) ?_ ?_
        rotate_left
        · show Act.put _ (some 31) _ = _
          simp only [Act.put, List.setIfInBounds_toArray, List.set_cons_zero, List.set_cons_succ]
          rfl
        refine one_ (i := 4) (N := some 33) #[true, true, true, true, true, false, false] rfl rfl (by kernel_rfl) (by decide) (fun K hK => ?_)
        refine goes_ Tryd.func35 (by kernel_rfl) rfl #[.string rest, .string ⟨#[32]⟩] (by rfl) rfl rfl (by (try simp only [List.map_toArray, List.map_cons, List.map_nil]); first | done | rfl) ?_
        refine (Tryd.strings_Count_one rest 32 _).mono ?_
        rintro e w6 ⟨rfl, rfl⟩
        refine ⟨_, rfl, ?_⟩
        refine hK.out _ _ hHeld (fun hHeld => ?_)
        clear hK K
        rw [HCT.out]
        refine norm_ (a' := ?_) ?_ ?_
        rotate_left
        · show Act.put _ (some 33) _ = _
          simp only [Act.put, List.setIfInBounds_toArray, List.set_cons_zero, List.set_cons_succ]
          rfl
        have s1 : (0 : Int) ≤ (WS.length : Int) := by omega
        have s2 : (WS.length : Int) ≤ (c31 : Int) := by have := (Kd.R_reads' HR5.out).2.1; have := HCN.out; omega
        refine pure_ (i := 5) (N := some 34) (v := ?_) (a' := ?_) #[true, true, true, true, true, true, false] rfl rfl (by kernel_rfl) (fun _ _ _ h => h) (Or.inl ⟨by rfl, ?_⟩) ?_ ?_
        rotate_left
        · intro w'
          go_simp
          with_reducible rfl
        rotate_left
        · simp only [Act.put, List.setIfInBounds_toArray, List.set_cons_zero, List.set_cons_succ]
          rfl
        have HGE := Lib.hid (show ge < g31 from by have h1 := blk_lt HE.out; have h2 : w4.heap.size ≤ g31 := hg31; omega)
        have HE6 := Lib.hid (blk_below (blk_drew HE.out) HB5.out)
        have HB6 := Lib.hid (HB4.out.trans ((below_drew (Below.refl _ w4)).trans HB5.out |>.mono (by have := HB4.out.size; exact this)))
        have HT6 := Lib.hid (txts_of HR5.out HGE.out hlt31 HCN.out ⟨_, HWS.out⟩)
        have HG6 := Lib.hid (fun W (hW : Below ge w6 W) => globt_below HG.out ((HB0.out.1.trans (HB6.out.mono HB0.out.1.size)).trans (hW.mono (by have h1 := HB0.out.1.size; have h2 := HGK.out; have h3 := HLT.out; omega))))
        have hc6 : WS.length ≤ c31 := by omega
        refine last_ (i := 6) (N := some 35) #[true, true, true, true, true, true, true] rfl rfl (by kernel_rfl) (by decide) (fun K hK => ?_)
        refine goes_ Tryd.func33 (by kernel_rfl) rfl #[.agg #[.string wd, .bool fd, .bool fc, .bool fk], .pointer (some ⟨ge, 0, none⟩), .slice (some ⟨g31, 0, none⟩) WS.length c31] (by rfl) rfl rfl (by (try simp only [List.map_toArray, List.map_cons, List.map_nil]); first | done | rfl) ?_
        refine (fill_any hin HROW.out wd (i : Int) ge (some ⟨g31, 0, none⟩) c31 WS w6 HE6.out HT6.out hc6 HWL.out HWX.out HG6.out).mono ?_
        rintro e w7 hpost
        have HB7 := Lib.hid (HB6.out.trans (hpost.1.mono (by have h2 := HGK.out; have h3 := HLT.out; omega)))
        cases hf : fillO fd fc fk WS with
        | none =>
          rw [hf] at hpost
          obtain rfl := hpost.2
          have HF := Lib.hid hf
          clear hpost hf
          refine ⟨_, rfl, hK.out _ _ ?_⟩
          refine done_ (by kernel_rfl) ?_
          clear hK K
          go_wp2_with fail
          have BI := Lib.hid (hnext9 hin)
          refine ⟨⟨i + 1, rfl, by first | rfl | exact congrArg _ BI.out, hin, Lib.hid ⟨HB7.out, fun j hj => ?_⟩⟩, by first | exact hmeas hin BI.out | exact hmeas hin rfl⟩
          rcases Nat.lt_succ_iff_lt_or_eq.1 hj with hj | rfl
          · exact HNO.out j hj
          · rw [HRA.out, HST.out, Option.bind_some, ← HWS.out, HF.out]
        | some q =>
          obtain ⟨qa, qn, qk⟩ := q
          rw [hf] at hpost
          obtain ⟨rfl, dv, hE7, hR7⟩ := hpost.2
          have HF := Lib.hid (show readAt s.data.toList i = some (qa, qn, qk) from by rw [HRA.out, HST.out, Option.bind_some, ← HWS.out, hf])
          have HR7 := Lib.hid hR7
          have HE7 := Lib.hid hE7
          have HB9 := Lib.hid (HB0.out.1.trans (HB7.out.mono HB0.out.1.size))
          have HZ0 := Lib.hid (blk_below HB0.out.2.1 HB7.out)
          have HZ1 := Lib.hid (blk_below HB0.out.2.2 HB7.out)
          have HSZ := Lib.hid (show w.heap.size ≤ w6.heap.size from Nat.le_trans HB0.out.1.size HB6.out.size)
          have HGW := Lib.hid (show w.heap.size + 1 < ge from by have h1 := blk_lt HB0.out.2.2; have h2 := HGK.out; have h3 := HLT.out; omega)
          obtain ⟨Av, cv, rfl⟩ := Kd.R_slice hR7
          clear hpost hf hE7 hR7
          refine ⟨_, rfl, hK.out _ _ ?_⟩
          refine done_ (by kernel_rfl) ?_
          clear hK K
          have a0 := cell_of_cells HE7.out 0
          have a1 := cell_of_cells HE7.out 1
          have a2 := cell_of_cells HE7.out 2
          have a3 := cell_of_cells HE7.out 3
          simp only [List.getElem?_toArray, List.getElem?_cons_zero, List.getElem?_cons_succ] at a0 a1 a2 a3
          have b0 := cell_of_cells HZ1.out 0
          have b1 := cell_of_cells HZ1.out 1
          have b2 := cell_of_cells HZ1.out 2
          have b3 := cell_of_cells HZ1.out 3
          simp only [List.getElem?_toArray, List.getElem?_cons_zero, List.getElem?_cons_succ] at b0 b1 b2 b3
          have bf0 := blk_frozen HZ1.out 0
          have bf1 := blk_frozen HZ1.out 1
          have bf2 := blk_frozen HZ1.out 2
          have bf3 := blk_frozen HZ1.out 3
          have bl := blk_lt HZ1.out
          have d0 := cell_of_cells HZ0.out 0
          have d1 := cell_of_cells HZ0.out 1
          have d2 := cell_of_cells HZ0.out 2
          have d3 := cell_of_cells HZ0.out 3
          simp only [List.getElem?_toArray, List.getElem?_cons_zero, List.getElem?_cons_succ] at d0 d1 d2 d3
          have df0 := blk_frozen HZ0.out 0
          have df1 := blk_frozen HZ0.out 1
          have df2 := blk_frozen HZ0.out 2
          have df3 := blk_frozen HZ0.out 3
          have dl := blk_lt HZ0.out
          have n1 : ¬ (w.heap.size + 1 = w.heap.size) := by omega
          have n2 : ¬ (w.heap.size = w.heap.size + 1) := by omega
          go_wp2_with fail
          obtain ⟨F1, F2, F3⟩ := four_set HZ1.out (.int .i64 (i : Int)) (.int .i64 qn) (.int .i64 qk) (.slice Av qa.length cv)
          obtain ⟨G1, G2, G3⟩ := four_set ((F2 w.heap.size n2).trans HZ0.out) (.int .i64 (i : Int)) (.int .i64 qn) (.int .i64 qk) (.slice Av qa.length cv)
          have hro := readO_some hin HNO.out HF.out
          refine ret_read rfl G1 rfl rfl ⟨G3 _ _ (Nat.le_refl _) (F3 _ _ (Nat.le_succ _) HB9.out), .slice Av qa.length cv, ?_, ?_⟩
          · rw [hro]
            refine Kd.R_lower (Kd.R_mono (Kd.R_step (Kd.R_bound HR7.out) (fun k hk _ => ?_)) (fun _ _ => trivial)) HSZ.out
            have h1 := hk.2.1
            have h2 := blk_lt HE6.out
            have h3 := HGW.out
            exact (G2 k (by omega)).trans (F2 k (by omega))
          · rw [hro]
            rfl
    · obtain rfl : i = 9 := by omega
      have HZ0 := Lib.hid (blk_below HB0.out.2.1 HBR.out)
      have HZ1 := Lib.hid (blk_below HB0.out.2.2 HBR.out)
      have HB9 := Lib.hid (HB0.out.1.trans (HBR.out.mono HB0.out.1.size))
      have b0 := cell_of_cells HZ1.out 0
      have b1 := cell_of_cells HZ1.out 1
      have b2 := cell_of_cells HZ1.out 2
      have b3 := cell_of_cells HZ1.out 3
      simp only [List.getElem?_toArray, List.getElem?_cons_zero, List.getElem?_cons_succ] at b0 b1 b2 b3
      have bf0 := blk_frozen HZ1.out 0
      have bf1 := blk_frozen HZ1.out 1
      have bf2 := blk_frozen HZ1.out 2
      have bf3 := blk_frozen HZ1.out 3
      have bl := blk_lt HZ1.out
      have d0 := cell_of_cells HZ0.out 0
      have d1 := cell_of_cells HZ0.out 1
      have d2 := cell_of_cells HZ0.out 2
      have d3 := cell_of_cells HZ0.out 3
      simp only [List.getElem?_toArray, List.getElem?_cons_zero, List.getElem?_cons_succ] at d0 d1 d2 d3
      have df0 := blk_frozen HZ0.out 0
      have df1 := blk_frozen HZ0.out 1
      have df2 := blk_frozen HZ0.out 2
      have df3 := blk_frozen HZ0.out 3
      have dl := blk_lt HZ0.out
      have n1 : ¬ (w.heap.size + 1 = w.heap.size) := by omega
      have n2 : ¬ (w.heap.size = w.heap.size + 1) := by omega
      go_wp2_with fail
      obtain ⟨G1, G2, G3⟩ := four_set HZ0.out (.int .i64 0) (.int .i64 0) (.int .i64 0) (.slice none 0 0)
      have hro := readO_none HNO.out
      refine ret_read rfl G1 rfl rfl ⟨G3 _ _ (Nat.le_refl _) HB9.out, .slice none 0 0, ?_, ?_⟩
      · rw [hro]
        exact Kd.R_nil _ _ _ _ _
      · rw [hro]
        rfl
end Go.Proofs.YtoloooammaiipaaDoor
/- What strings.Cut gives at a sign of one byte, in plain words; conditions: at most 4000000000 bytes. -/
namespace Go.Proofs.YtoloooammaiipaaDoor
open Go Go.RowKit Go.Proofs.YtoloooammaiipaaDoor.PI Go.Proofs.YtoloooammaiipaaDoorW.PrintWords Go.Proofs.YtoloooammaiipaaDoorW.PrintLast
/-- What is ahead of the first such byte, what is behind it, whether there is one. -/
def cut1 (c : UInt8) : List UInt8 → List UInt8 × List UInt8 × Bool
  | [] => ([], [], false)
  | x :: r => if x = c then ([], r, true) else (x :: (cut1 c r).1, (cut1 c r).2.1, (cut1 c r).2.2)
theorem cut1_miss {c : UInt8} {l : List UInt8} (h : c ∉ l) : cut1 c l = (l, [], false) := by
  induction l with
  | nil => rfl
  | cons x r ih =>
    have h1 : x ≠ c := fun e => h (by rw [e]; exact List.mem_cons_self)
    rw [cut1, if_neg h1, ih (fun hm => h (List.mem_cons_of_mem _ hm))]
theorem cut1_hit {c : UInt8} {a : List UInt8} (h : c ∉ a) (b : List UInt8) : cut1 c (a ++ c :: b) = (a, b, true) := by
  induction a with
  | nil => rw [List.nil_append, cut1, if_pos rfl]
  | cons x r ih =>
    have h1 : x ≠ c := fun e => h (by rw [e]; exact List.mem_cons_self)
    rw [List.cons_append, cut1, if_neg h1, ih (fun hm => h (List.mem_cons_of_mem _ hm))]
theorem cut1_le (c : UInt8) (l : List UInt8) : (cut1 c l).1.length ≤ l.length ∧ (cut1 c l).2.1.length ≤ l.length ∧ ((cut1 c l).2.2 = true → (cut1 c l).1.length + (cut1 c l).2.1.length + 1 = l.length) := by
  by_cases h : c ∈ l
  · obtain ⟨a, b, rfl, ha⟩ := first_hit h
    rw [cut1_hit ha]
    simp only [List.length_append, List.length_cons]
    exact ⟨by omega, by omega, fun _ => by omega⟩
  · rw [cut1_miss h]
    exact ⟨Nat.le_refl _, Nat.zero_le _, fun h => by cases h⟩
theorem cut1_is (s : ByteArray) (c : UInt8) (hs : s.size ≤ 4000000000) : strings_Cut.f s ⟨#[c]⟩ = some (strOf (cut1 c s.data.toList).1, strOf (cut1 c s.data.toList).2.1, (cut1 c s.data.toList).2.2) := by
  have hl := len_size s
  have hb : bt (⟨#[c]⟩ : ByteArray) 0 = (c.toNat : Int) := rfl
  have hc : (bt (⟨#[c]⟩ : ByteArray) 0).toNat.toUInt8 = c := by
    rw [hb, Int.toNat_natCast]
    exact UInt8.ofNat_toNat
  have hz : (⟨#[c]⟩ : ByteArray).size = 1 := rfl
  unfold strings_Cut.f stringslite_Cut.f stringslite_Index.f stringslite_IndexByte.f
  rw [if_pos hz, hc, Option.bind_some]
  by_cases h : c ∈ s.data.toList
  · obtain ⟨a, b, e, ha⟩ := first_hit h
    have hi : Lib.indexByte s.data.toList c = (a.length : Int) := by rw [e, indexByte_hit ha]
    have hlen : a.length + (b.length + 1) = s.size := by
      rw [← hl, e]
      simp
    have hw : wrap64 ((a.length : Int) + ((⟨#[c]⟩ : ByteArray).size : Int)) = ((a.length + 1 : Nat) : Int) := by
      rw [hz, wrap_fit (by omega) (by omega)]
      omega
    rw [hi, hw, if_pos (by omega), if_pos (by omega), if_pos (by omega), if_pos (by omega), if_pos (by omega), Option.bind_some]
    have hcut : cut1 c s.data.toList = (a, b, true) := by rw [e, cut1_hit ha]
    rw [hcut]
    congr 1
    refine Prod.ext ?_ (Prod.ext ?_ rfl)
    · apply bytes_eq
      show ((s.extract 0 ((a.length : Int)).toNat).data.toList) = (strOf a).data.toList
      rw [strOf_data, Lib.extract_data, Int.toNat_natCast, List.drop_zero, Nat.sub_zero, e, List.take_left]
    · apply bytes_eq
      show ((s.extract (((a.length + 1 : Nat) : Int)).toNat s.size).data.toList) = (strOf b).data.toList
      rw [strOf_data, Lib.extract_data, Int.toNat_natCast, e]
      have e2 : a ++ c :: b = (a ++ [c]) ++ b := by simp
      have e3 : a.length + 1 = (a ++ [c]).length := by simp
      rw [e2, e3, List.drop_left, List.take_of_length_le]
      rw [← e3]
      omega
  · rw [indexByte_miss h, if_neg (by decide), Option.bind_some, cut1_miss h]
    congr 1
end Go.Proofs.YtoloooammaiipaaDoor
/- What trace.output gives: a walk; conditions: a line of at most 100000 bytes. -/
namespace Go.Proofs.YtoloooammaiipaaDoor
open Go Go.RowKit Go.Proofs.YtoloooammaiipaaDoor.PI Go.Proofs.YtoloooammaiipaaDoorW.PrintWords Go.Proofs.YtoloooammaiipaaDoorW.PrintLast Go.Proofs.YtoloooammaiipaaDoorW.PrintMore
set_option linter.unusedVariables false
set_option linter.unusedSimpArgs false
def backL : List UInt8 := [98, 97, 99, 107]
def onL : List UInt8 := [111, 110]
/-- What a line tells of an output: whether it goes back, its bytes, whether it is one. -/
def outO (s : List UInt8) : Bool × List Int × Bool :=
  (decide ((cut1 32 s).1 = backL), (pairO (bytesO (cut1 32 s).2.1)).1, (pairO (bytesO (cut1 32 s).2.1)).2 && (decide ((cut1 32 s).1 = backL) || decide ((cut1 32 s).1 = onL)))
def OutPost (s : ByteArray) (w : World) (e : Ending) (w' : World) : Prop :=
  Below w.heap.size w w' ∧ ∃ v, Kd.R (Kd.int .u8) 5 w' w.heap.size (fun _ => True) v (outO s.data.toList).2.1 ∧ e = .returned (.tuple #[.agg #[.bool (outO s.data.toList).1, v], .bool (outO s.data.toList).2.2])
theorem ret_out {R : Ending → World → Prop} {a : Act} {W : World} {g : Nat} {x0 x1 er : Value} (hd : a.defers = []) (h : W.heap[g]? = some (.cells #[x0, x1] 56 (0, 0))) (ht : a.tmps[2]?.getD undef = .pointer (some ⟨g, 0, none⟩)) (h3 : a.tmps[3]?.getD undef = er)
    (hp : R (.returned (.tuple #[.agg #[x0, x1], er])) W) : bodyPost Tryd.prog Tryd.f54 R .ret a W := by
  have c0 := cell_of_cells h 0
  have c1 := cell_of_cells h 1
  simp only [List.getElem?_toArray, List.getElem?_cons_zero, List.getElem?_cons_succ] at c0 c1
  refine bodyPost_ret (v := .tuple #[.agg #[x0, x1], er]) ?_ hd hp
  simp [results, Tryd.results54, ht, h3, c0, c1, go_sem]
set_option maxHeartbeats 4000000 in
set_option maxRecDepth 100000 in
theorem output_walk (s : ByteArray) (hs : s.size ≤ 100000) (w : World) :
    Calls Tryd.prog 54 #[.string s] w (OutPost s w) := by
  have hcut := cut1_is s 32 (by omega)
  have hle := cut1_le 32 s.data.toList
  rw [len_size] at hle
  obtain ⟨a, b, f, hq⟩ : ∃ a b f, cut1 32 s.data.toList = (a, b, f) := ⟨_, _, _, rfl⟩
  have HQ := Lib.hid hq
  rw [hq] at hcut hle
  have HB := Lib.hid (show (strOf b).size ≤ 1000000 from by rw [strOf_size]; have := hle.2.1; simp only at this; omega)
  clear hle hq
  go_enter Tryd.func54, Tryd.ntmps54
  go_wp2_with fail
  have HZ := Lib.hid (blk_new w (.cells #[.bool false, .slice none 0 0] 56 (0, 0)))
  have HB0 := Lib.hid (below_alloc (Below.refl w.heap.size w) (.cells #[.bool false, .slice none 0 0] 56 (0, 0)))
  generalize w.alloc (.cells #[.bool false, .slice none 0 0] 56) = w0 at HZ HB0 ⊢
  generalize hg : w.heap.size = g at HZ HB0 ⊢
  have HG := Lib.hid hg
  clear hg
  refine (strings_Cut.calls s ⟨#[32]⟩ _ _ _ _ hcut).mono ?_
  rintro e w1 ⟨rfl, hdr⟩
  have HZ1 := Lib.hid (blk_below HZ.out hdr.below)
  have HB1 := Lib.hid (HB0.out.trans (hdr.below.mono HB0.out.size |>.mono (by have := HB0.out.size; have := HG.out; omega)))
  clear hdr hcut HZ
  obtain ⟨wa, hwa⟩ : ∃ wa, wa = strOf a := ⟨_, rfl⟩
  obtain ⟨wb, hwb⟩ : ∃ wb, wb = strOf b := ⟨_, rfl⟩
  have hby := bytes_is (strOf b) HB.out _ (Nat.le_refl _)
  rw [strOf_data, ← hwb] at hby
  simp only [← hwa, ← hwb]
  obtain ⟨l, ok, hp⟩ : ∃ l ok, pairO (bytesO b) = (l, ok) := ⟨_, _, rfl⟩
  rw [hp] at hby
  have HP := Lib.hid hp
  have HWA := Lib.hid hwa
  have HWB := Lib.hid hwb
  clear hp hwa hwb
  go_wp2_with fail
  refine (trace_Bytes.calls _ wb _ _ w1 hby).mono ?_
  rintro e w2 ⟨v0, rfl, hR, hb⟩
  have HZ2 := Lib.hid (blk_below HZ1.out hb)
  have HB2 := Lib.hid (HB1.out.trans (hb.mono (by have := blk_lt HZ1.out; omega)))
  have HR := Lib.hid hR
  have HL1 := Lib.hid (show g < w1.heap.size from blk_lt HZ1.out)
  clear hR hb hby HZ1 HB1
  obtain ⟨Av, cv, rfl⟩ := Kd.R_slice HR.out
  have e0 := cell_of_cells HZ2.out 0
  have e1 := cell_of_cells HZ2.out 1
  simp only [List.getElem?_toArray, List.getElem?_cons_zero, List.getElem?_cons_succ] at e0 e1
  have f0 := blk_frozen HZ2.out 0
  have f1 := blk_frozen HZ2.out 1
  have lt := blk_lt HZ2.out
  have fin : ∀ (x : Bool) (y : Bool), x = decide (a = backL) → y = (ok && (decide (a = backL) || decide (a = onL))) → OutPost s w (.returned (.tuple #[.agg #[.bool x, .slice Av l.length cv], .bool y])) ((w2.setCell ⟨g, 0, none⟩ (.bool x)).setCell ⟨g, 1, none⟩ (.slice Av l.length cv)) := by
    intro x y hx hy
    have ho : outO s.data.toList = (x, l, y) := by
      unfold outO
      rw [HQ.out]
      simp only
      rw [HP.out, hx, hy]
    refine ⟨?_, .slice Av l.length cv, ?_, ?_⟩
    · rw [HG.out]
      exact (HB2.out.setCell (Nat.le_refl _) _).setCell (Nat.le_refl _) _
    · rw [ho, HG.out]
      refine Kd.R_lower (Kd.R_mono (Kd.R_step (Kd.R_bound HR.out) (fun k hk _ => ?_)) (fun _ _ => trivial)) (Nat.le_of_lt HL1.out)
      have h1 := hk.2.1
      have h2 := HL1.out
      exact (Below.heap_setCell _ ⟨g, 1, none⟩ _ k (by show k ≠ g; omega)).trans (Below.heap_setCell _ ⟨g, 0, none⟩ _ k (by show k ≠ g; omega))
    · rw [ho]
  have hH : ∀ x : Bool, ((w2.setCell ⟨g, 0, none⟩ (.bool x)).setCell ⟨g, 1, none⟩ (.slice Av l.length cv)).heap[g]? = some (.cells #[.bool x, .slice Av l.length cv] 56 (0, 0)) := fun x => (blk_set (blk_set HZ2.out 0 _) 1 _).trans rfl
  have FIN := Lib.hid fin
  have HH := Lib.hid hH
  clear fin hH
  by_cases h1 : a = backL
  · have p1 : (wa.toList == ([98, 97, 99, 107] : List UInt8)) = true := by rw [beq_iff_eq, HWA.out, strOf_list]; exact h1
    cases ok with
    | true =>
      go_wp2_with fail
      exact ret_out rfl (HH.out _) rfl rfl (FIN.out _ _ (by rw [decide_eq_true h1]) (by rw [decide_eq_true h1]; rfl))
    | false =>
      go_wp2_with fail
      exact ret_out rfl (HH.out _) rfl rfl (FIN.out _ _ (by rw [decide_eq_true h1]) rfl)
  · have p1 : (wa.toList == ([98, 97, 99, 107] : List UInt8)) = false := by rw [beq_eq_false_iff_ne, HWA.out, strOf_list]; exact h1
    by_cases h2 : a = onL
    · have p2 : (wa.toList == ([111, 110] : List UInt8)) = true := by rw [beq_iff_eq, HWA.out, strOf_list]; exact h2
      cases ok with
      | true =>
        go_wp2_with fail
        exact ret_out rfl (HH.out _) rfl rfl (FIN.out _ _ (by rw [decide_eq_false h1]) (by rw [decide_eq_false h1, decide_eq_true h2]; rfl))
      | false =>
        go_wp2_with fail
        exact ret_out rfl (HH.out _) rfl rfl (FIN.out _ _ (by rw [decide_eq_false h1]) rfl)
    · have p2 : (wa.toList == ([111, 110] : List UInt8)) = false := by rw [beq_eq_false_iff_ne, HWA.out, strOf_list]; exact h2
      cases ok with
      | true =>
        go_wp2_with fail
        exact ret_out rfl (HH.out _) rfl rfl (FIN.out _ _ (by rw [decide_eq_false h1]) (by rw [decide_eq_false h1, decide_eq_false h2]; rfl))
      | false =>
        go_wp2_with fail
        exact ret_out rfl (HH.out _) rfl rfl (FIN.out _ _ (by rw [decide_eq_false h1]) rfl)
end Go.Proofs.YtoloooammaiipaaDoor
/- What trace's (*parser).line gives: a walk; conditions: a line of at most 100000 bytes, the steps so far a row of the parser's own; the tables lie as the program's text lays them. -/
namespace Go.Proofs.YtoloooammaiipaaDoor
open Go Go.RowKit Go.Proofs.YtoloooammaiipaaDoor.PI Go.Proofs.YtoloooammaiipaaDoorW.PrintWords Go.Proofs.YtoloooammaiipaaDoorW.PrintLast Go.Proofs.YtoloooammaiipaaDoorW.PrintMore
set_option linter.unusedVariables false
set_option linter.unusedSimpArgs false
def goneL : List UInt8 := [103, 111, 110, 101]
def stepZ : Value := .agg #[.int .i64 0, .int .i64 0, .int .i64 0, .slice none 0 0, .slice none 0 0, .bool false]
def outZ : Value := .agg #[.bool false, .slice none 0 0]
theorem info_step : (Tryd.prog.info? 42).map (fun i => (i.zero, i.size, i.bytes)) = some (some stepZ, 6, 80) := by kernel_rfl
theorem info_out : (Tryd.prog.info? 56).map (fun i => (i.zero, i.size, i.bytes)) = some (some outZ, 2, 32) := by kernel_rfl
/-- What a line makes of the steps so far; whether it is right. -/
def lineO (L : List S42) (s : List UInt8) : Bool × List S42 :=
  match readO s with
  | some x => (true, L ++ [⟨⟨(x.1 : Int), x.2.2.1, x.2.2.2, x.2.1⟩, [], false⟩])
  | none =>
    if L = [] then (false, L)
    else if (L.getD (L.length - 1) z42).f2 = true then (false, L)
    else if s = goneL then (true, L.set (L.length - 1) ⟨(L.getD (L.length - 1) z42).f0, (L.getD (L.length - 1) z42).f1, true⟩)
    else if (outO s).2.2 = true then (true, L.set (L.length - 1) ⟨(L.getD (L.length - 1) z42).f0, (L.getD (L.length - 1) z42).f1 ++ [⟨(outO s).1, (outO s).2.1⟩], (L.getD (L.length - 1) z42).f2⟩)
    else (false, L)
def LinePost (pb : Nat) (L : List S42) (s : ByteArray) (w : World) (e : Ending) (w' : World) : Prop :=
  Below pb w w' ∧ e = .returned (.bool (lineO L s.data.toList).1) ∧ ∃ v', w'.heap[pb]? = some (.cells #[v'] 86 (0, 0)) ∧ Kd.S k42 42 w' (pb + 1) (fun _ => True) v' (lineO L s.data.toList).2
theorem not_parser : ∀ q, q ∈ 42 :: k42.E → q ≠ 86 := by
  intro q hq h
  subst h
  exact absurd hq (by decide +kernel)
theorem hpre {n : Nat} (h : n ≤ 1000000) : wrap64 (((n + 1 : Nat) : Int) - 1) = (n : Int) := by
  have e : ((n + 1 : Nat) : Int) - 1 = (n : Int) := by omega
  rw [e]
  exact wrap_fit (by omega) (by omega)
theorem S_len {α : Type} {d : Kd α} {e : Nat} {w : World} {base : Nat} {ok : Nat → Prop} {A : Option Addr} {c : Nat} {L : List α} {p : α} {xs : List α} (h : Kd.S d e w base ok (.slice A (L ++ [p]).length c) xs) : Kd.S d e w base ok (.slice A (L.length + 1) c) xs := by
  rw [List.length_append] at h
  exact h
theorem R_len {α : Type} {d : Kd α} {e : Nat} {w : World} {base : Nat} {ok : Nat → Prop} {A : Option Addr} {c : Nat} {L : List α} {p : α} {xs : List α} (h : Kd.R d e w base ok (.slice A (L ++ [p]).length c) xs) : Kd.R d e w base ok (.slice A (L.length + 1) c) xs := by
  rw [List.length_append] at h
  exact h
set_option maxHeartbeats 8000000 in
set_option maxRecDepth 100000 in
theorem line_some (pb : Nat) (L : List S42) (vL : Value) (s : ByteArray) (w : World) (hp : w.heap[pb]? = some (.cells #[vL] 86 (0, 0))) (hS : Kd.S k42 42 w (pb + 1) (fun _ => True) vL L) (hL : L.length ≤ 1000000) (hs : s.size ≤ 100000) (hG : GlobT w)
    {x : Nat × List Int × Int × Int} (hrd : readO s.data.toList = some x) :
    Calls Tryd.prog 41 #[.pointer (some ⟨pb, 0, none⟩), .string s] w (LinePost pb L s w) := by
  obtain ⟨AL, cL, rfl⟩ := Kd.S_slice hS
  obtain ⟨xi, xa, xn, xk⟩ := x
  have HRD := Lib.hid hrd
  have HP := Lib.hid hp
  have HS := Lib.hid hS
  have HRW := Lib.hid (read_walk s hs w hG)
  have hpl := blk_lt hp
  clear hp hS hG hrd
  go_enter Tryd.func41, Tryd.ntmps41
  go_wp2_with fail
  refine HRW.out.mono ?_
  rintro e w1 ⟨hb1, v, hR, he⟩
  rw [HRD.out] at hR he
  simp only [Option.elim] at hR he
  obtain rfl := he
  obtain ⟨Av, cv, rfl⟩ := Kd.R_slice hR
  go_wp2_with fail
  have HB2 := Lib.hid (below_alloc hb1 (.cells #[.int .i64 (xi : Int), .int .i64 xn, .int .i64 xk, .slice Av xa.length cv] 29 (0, 0)))
  have HP2 := Lib.hid (blk_alloc (blk_below HP.out hb1) (.cells #[.int .i64 (xi : Int), .int .i64 xn, .int .i64 xk, .slice Av xa.length cv] 29 (0, 0)))
  have HE2 := Lib.hid (blk_new w1 (.cells #[.int .i64 (xi : Int), .int .i64 xn, .int .i64 xk, .slice Av xa.length cv] 29 (0, 0)))
  have HS2 := Lib.hid (Kd.S_alloc (Kd.S_old HS.out hb1) (.cells #[.int .i64 (xi : Int), .int .i64 xn, .int .i64 xk, .slice Av xa.length cv] 29 (0, 0)))
  have HR2 := Lib.hid (Kd.R_alloc (Kd.R_bound hR) (.cells #[.int .i64 (xi : Int), .int .i64 xn, .int .i64 xk, .slice Av xa.length cv] 29 (0, 0)))
  clear hb1 hR
  generalize w1.alloc (.cells #[.int .i64 (xi : Int), .int .i64 xn, .int .i64 xk, .slice Av xa.length cv] 29) = w2 at HB2 HP2 HE2 HS2 HR2 ⊢
  generalize w1.heap.size = ge at HE2 ⊢
  have HM3 := Lib.hid (show k42.M w2.drew (pb + 1) (fun k => w.heap.size ≤ k) ⟨⟨(xi : Int), xn, xk, xa⟩, [], false⟩ [.int .i64 (xi : Int), .int .i64 xn, .int .i64 xk, .slice Av xa.length cv, .slice none 0 0, .bool false] from
    k42_mkM w2.drew (pb + 1) (fun k => w.heap.size ≤ k) ⟨⟨(xi : Int), xn, xk, xa⟩, [], false⟩ (Kd.R_drew (Kd.R_mono (Kd.R_lower HR2.out (by omega)) (fun k hk => hk.2.1))) (Kd.R_nil _ _ _ _ _))
  have HOK := Lib.hid (show ∀ k, w.heap.size ≤ k → True ∧ some k ≠ (Value.slice AL L.length cL).ownBlock from fun k hk => ⟨trivial, fun h => by have := Kd.S_lt HS.out k h.symm; omega⟩)
  have HS3 := Lib.hid (show Kd.S k42 42 w2.drew (pb + 1) (fun k => True ∧ ¬ w.heap.size ≤ k) (.slice AL L.length cL) L from Kd.S_drew (Kd.S_mono HS2.out (fun k hk => ⟨trivial, by have := hk.2; omega⟩)))
  have HB3 := Lib.hid (show Below (pb + 1) w w2.drew from (below_drew HB2.out).mono (by omega))
  have HBA := Lib.hid (show pb + 1 ≤ w2.drew.heap.size from Nat.le_trans (by omega : pb + 1 ≤ w.heap.size) HB2.out.size)
  have HLL := Lib.hid (show (L.length + 1) * 80 ≤ 140737488355328 from by omega)
  have HN1 := Lib.hid (Kd.S_ne HS2.out HP2.out (by decide))
  have HN2 := Lib.hid (Kd.S_ne HS2.out HE2.out (by decide))
  refine start_ (n := 12) (S := fun w' => w'.heap[pb]? = some (.cells #[.slice AL L.length cL] 86 (0, 0)) ∧ w'.heap[ge]? = some (.cells #[.int .i64 (xi : Int), .int .i64 xn, .int .i64 xk, .slice Av xa.length cv] 29 (0, 0))) (ds := [11]) #[false, false, false, false, false, false, false, false, false, false, false, false] (by kernel_rfl) rfl rfl ⟨blk_drew HP2.out, blk_drew HE2.out⟩ (fun hHeld => ?_)
  refine pure_ (i := 0) (N := some 17) (v := ?_) (a' := ?_) #[true, false, false, false, false, false, false, false, false, false, false, false] rfl rfl (by kernel_rfl) (fun _ _ _ h => h) (Or.inl ⟨by rfl, ?_⟩) ?_ ?_
  rotate_left
  · intro w'
    go_simp
    with_reducible rfl
  rotate_left
  · simp only [Act.put, List.setIfInBounds_toArray, List.set_cons_zero, List.set_cons_succ]
    rfl
  refine pure_ (i := 1) (N := some 18) (v := ?_) (a' := ?_) #[true, true, false, false, false, false, false, false, false, false, false, false] rfl rfl (by kernel_rfl) (fun _ _ _ h => h) (Or.inl ⟨by rfl, ?_⟩) ?_ ?_
  rotate_left
  · intro w'
    go_simp
    with_reducible rfl
  rotate_left
  · simp only [Act.put, List.setIfInBounds_toArray, List.set_cons_zero, List.set_cons_succ]
    rfl
  refine pure_ (i := 2) (N := some 19) (v := ?_) (a' := ?_) #[true, true, true, false, false, false, false, false, false, false, false, false] rfl rfl (by kernel_rfl) (fun _ _ _ h => h) (Or.inl ⟨by rfl, ?_⟩) ?_ ?_
  rotate_left
  · intro w'
    go_simp
    with_reducible rfl
  rotate_left
  · simp only [Act.put, List.setIfInBounds_toArray, List.set_cons_zero, List.set_cons_succ]
    rfl
  refine pure_ (i := 3) (N := some 20) (v := ?_) (a' := ?_) #[true, true, true, true, false, false, false, false, false, false, false, false] rfl rfl (by kernel_rfl) (fun _ _ _ h => h) (Or.inl ⟨by rfl, ?_⟩) ?_ ?_
  rotate_left
  · intro w'
    go_simp
    with_reducible rfl
  rotate_left
  · simp only [Act.put, List.setIfInBounds_toArray, List.set_cons_zero, List.set_cons_succ]
    rfl
  refine take_ (i := 4) (N := some 21) (v := ?_) (a' := ?_) #[true, true, true, true, true, false, false, false, false, false, false, false] rfl rfl (by kernel_rfl) (fun _ _ _ h => h) (Or.inl ⟨by rfl, ?_⟩) hHeld ?_ ?_
  rotate_left
  · intro w' hs
    have e0 := cell_of_cells hs.1 0
    simp only [List.getElem?_toArray, List.getElem?_cons_zero, List.getElem?_cons_succ] at e0
    go_simp
    with_reducible rfl
  rotate_left
  · simp only [Act.put, List.setIfInBounds_toArray, List.set_cons_zero, List.set_cons_succ]
    rfl
  refine take_ (i := 5) (N := some 22) (v := ?_) (a' := ?_) #[true, true, true, true, true, true, false, false, false, false, false, false] rfl rfl (by kernel_rfl) (fun _ _ _ h => h) (Or.inl ⟨by rfl, ?_⟩) hHeld ?_ ?_
  rotate_left
  · intro w' hs
    have e0 := cell_of_cells hs.2 0
    have e1 := cell_of_cells hs.2 1
    have e2 := cell_of_cells hs.2 2
    have e3 := cell_of_cells hs.2 3
    simp only [List.getElem?_toArray, List.getElem?_cons_zero, List.getElem?_cons_succ] at e0 e1 e2 e3
    go_simp
    with_reducible rfl
  rotate_left
  · simp only [Act.put, List.setIfInBounds_toArray, List.set_cons_zero, List.set_cons_succ]
    rfl
  refine pure_ (i := 6) (N := some 23) (v := ?_) (a' := ?_) #[true, true, true, true, true, true, true, false, false, false, false, false] rfl rfl (by kernel_rfl) (fun _ _ _ h => h) (Or.inl ⟨by rfl, ?_⟩) ?_ ?_
  rotate_left
  · intro w'
    go_simp
    with_reducible rfl
  rotate_left
  · simp only [Act.put, List.setIfInBounds_toArray, List.set_cons_zero, List.set_cons_succ]
    rfl
  refine one_ (i := 7) (N := some 24) #[true, true, true, true, true, true, true, true, false, false, false, false] rfl rfl (by kernel_rfl) (by decide) (fun K hK => ?_)
  refine value_ (w1 := ?_) (v := ?_) (by rfl) rfl ?_ ?_
  rotate_left 2
  · go_simp
    constructor
    · rfl
    · rfl
  refine hK.out _ _ ⟨blk_alloc hHeld.1 _, blk_alloc hHeld.2 _⟩ (fun hHeld => ?_)
  clear hK K
  refine norm_ (a' := ?_) ?_ ?_
  rotate_left
  · show Act.put _ (some 24) _ = _
    simp only [Act.put, List.setIfInBounds_toArray, List.set_cons_zero, List.set_cons_succ]
    rfl
  refine one_ (i := 8) (N := some 25) #[true, true, true, true, true, true, true, true, true, false, false, false] rfl rfl (by kernel_rfl) (by decide) (fun K hK => ?_)
  refine Kd.S_append_step k42 (w0 := w) (pb + 1) (by rfl) (.tmp 21) (.tmp 24) 43 42 stepZ 80 rfl Tryd.underlying43 info_step rfl (by decide) (by decide) (.slice AL L.length cL) L ⟨⟨(xi : Int), xn, xk, xa⟩, [], false⟩ [.int .i64 (xi : Int), .int .i64 xn, .int .i64 xk, .slice Av xa.length cv, .slice none 0 0, .bool false] (fun _ => True) (fun k => w.heap.size ≤ k) rfl rfl HM3.out HOK.out (fun _ _ => trivial) HS3.out HB3.out HBA.out HLL.out ?_
  intro v25 w3 k1 k2 k3 k4
  have HG3 := Lib.hid k3
  have HS4 := Lib.hid k1
  have HB4 := Lib.hid k2
  clear k1 k2 k3 k4
  obtain ⟨A25, c25, rfl⟩ := Kd.S_slice HS4.out
  have HS4 := Lib.hid (S_len HS4.out)
  rw [List.length_append, List.length_singleton]
  refine hK.out _ _ ⟨blk_grown (blk_drew HP2.out) HG3.out HN1.out, blk_grown (blk_drew HE2.out) HG3.out HN2.out⟩ (fun hHeld => ?_)
  clear hK K
  refine norm_ (a' := ?_) ?_ ?_
  rotate_left
  · show Act.put _ (some 25) _ = _
    simp only [Act.put, List.setIfInBounds_toArray, List.set_cons_zero, List.set_cons_succ]
    rfl
  refine pure_ (i := 9) (N := some 26) (v := ?_) (a' := ?_) #[true, true, true, true, true, true, true, true, true, true, false, false] rfl rfl (by kernel_rfl) (fun _ _ _ h => h) (Or.inl ⟨by rfl, ?_⟩) ?_ ?_
  rotate_left
  · intro w'
    go_simp
    with_reducible rfl
  rotate_left
  · simp only [Act.put, List.setIfInBounds_toArray, List.set_cons_zero, List.set_cons_succ]
    rfl
  refine pure_ (i := 10) (N := some 27) (v := ?_) (a' := ?_) #[true, true, true, true, true, true, true, true, true, true, true, false] rfl rfl (by kernel_rfl) (fun _ _ _ h => h) (Or.inl ⟨by rfl, ?_⟩) ?_ ?_
  rotate_left
  · intro w'
    go_simp
    with_reducible rfl
  rotate_left
  · simp only [Act.put, List.setIfInBounds_toArray, List.set_cons_zero, List.set_cons_succ]
    rfl
  have HH := Lib.hid hHeld
  clear hHeld
  have e0 := cell_of_cells HH.out.1 0
  simp only [List.getElem?_toArray, List.getElem?_cons_zero, List.getElem?_cons_succ] at e0
  have f0 := blk_frozen HH.out.1 0
  have lt0 := blk_lt HH.out.1
  refine last_ (i := 11) (N := none) #[true, true, true, true, true, true, true, true, true, true, true, true] rfl rfl (by kernel_rfl) (by decide) (fun K hK => ?_)
  refine skip_ (w1 := ?_) (by rfl) rfl ?_ ?_
  rotate_left
  · go_simp
    rfl
  refine hK.out _ _ ?_
  clear hK K
  refine done_ (by kernel_rfl) ?_
  go_wp2_with fail
  go_ret
  refine ⟨(HB4.out.mono (Nat.le_succ _)).setCell (Nat.le_refl _) _, ?_, .slice A25 (L.length + 1) c25, (blk_set HH.out.1 0 _).trans rfl, ?_⟩
  · unfold lineO
    rw [HRD.out]
    rfl
  · unfold lineO
    rw [HRD.out]
    exact Kd.S_set HS4.out HH.out.1 not_parser 0 _
theorem frozen_same {W W' : World} {b : Nat} (h : W'.heap[b]? = W.heap[b]?) (i : Nat) : W'.frozen? ⟨b, i, none⟩ = W.frozen? ⟨b, i, none⟩ := by simp [World.frozen?, h]
set_option maxHeartbeats 8000000 in
set_option maxRecDepth 100000 in
theorem line_empty (pb : Nat) (vL : Value) (s : ByteArray) (w : World) (hp : w.heap[pb]? = some (.cells #[vL] 86 (0, 0))) (hS : Kd.S k42 42 w (pb + 1) (fun _ => True) vL []) (hs : s.size ≤ 100000) (hG : GlobT w) (hrd : readO s.data.toList = none) :
    Calls Tryd.prog 41 #[.pointer (some ⟨pb, 0, none⟩), .string s] w (LinePost pb [] s w) := by
  obtain ⟨AL, cL, rfl⟩ := Kd.S_slice hS
  have HRD := Lib.hid hrd
  have HP := Lib.hid hp
  have HS := Lib.hid hS
  have HRW := Lib.hid (read_walk s hs w hG)
  have hpl := blk_lt hp
  clear hp hS hG hrd
  go_enter Tryd.func41, Tryd.ntmps41
  go_wp2_with fail
  refine HRW.out.mono ?_
  rintro e w1 ⟨hb1, v, hR, he⟩
  rw [HRD.out] at hR he
  simp only [Option.elim] at hR he
  obtain rfl := he
  obtain ⟨Av, cv, rfl⟩ := Kd.R_slice hR
  have HB1 := Lib.hid hb1
  have e0 := cell_of_cells (blk_below HP.out hb1) 0
  simp only [List.getElem?_toArray, List.getElem?_cons_zero, List.getElem?_cons_succ] at e0
  have l0 := blk_lt (blk_below HP.out hb1)
  clear hb1 hR
  go_wp2_with fail
  go_ret
  refine ⟨(below_alloc HB1.out _).mono (by omega), ?_, _, blk_alloc (blk_below HP.out HB1.out) _, ?_⟩
  · unfold lineO
    rw [HRD.out]
    rfl
  · unfold lineO
    rw [HRD.out]
    exact Kd.S_alloc (Kd.S_below HS.out HB1.out) _
set_option maxHeartbeats 8000000 in
set_option maxRecDepth 100000 in
theorem line_last (pb m : Nat) (L : List S42) (vL : Value) (s : ByteArray) (w : World) (hp : w.heap[pb]? = some (.cells #[vL] 86 (0, 0))) (hS : Kd.S k42 42 w (pb + 1) (fun _ => True) vL L) (hn : L.length = m + 1) (hm : m ≤ 1000000) (hO : ∀ x ∈ L, x.f1.length ≤ 1000000) (hs : s.size ≤ 100000) (hG : GlobT w) (hrd : readO s.data.toList = none) :
    Calls Tryd.prog 41 #[.pointer (some ⟨pb, 0, none⟩), .string s] w (LinePost pb L s w) := by
  obtain ⟨g, cL, rfl, hgb, hgl, -⟩ := Kd.S_form hS (by omega)
  rw [hn] at hp hS
  have hne : L ≠ [] := fun h => by rw [h] at hn; cases hn
  have hn1 : L.length - 1 = m := by omega
  obtain ⟨oki, c, hcl, hM, hcc, hfr, hoki, hH⟩ := Kd.S_elem hS z42 (m : Int) (by omega) (by omega)
  obtain ⟨z, hz⟩ : ∃ z, z = L.getD m z42 := ⟨_, rfl⟩
  rw [show ((m : Int)).toNat = m from rfl, ← hz] at hM
  obtain ⟨v3, v4, hce, hR3, hR4⟩ := k42_openM hM
  obtain ⟨⟨z0, z1, z2, z3⟩, zf1, zf2⟩ := z
  simp only at hce hR3 hR4
  subst hce
  have hc4 : w.cell? ⟨g, m * 6 + 4, none⟩ = some v4 := hcc 4 _ rfl
  have hc5 : w.cell? ⟨g, m * 6 + 5, none⟩ = some (.bool zf2) := hcc 5 _ rfl
  have hf4 : w.frozen? ⟨g, m * 6 + 4, none⟩ = false := hfr 4
  have hf5 : w.frozen? ⟨g, m * 6 + 5, none⟩ = false := hfr 5
  have HZL := Lib.hid (show zf1.length ≤ 1000000 from by
    have h := hO (L.getD m z42) (by rw [List.getD_eq_getElem?_getD, List.getElem?_eq_getElem (by omega : m < L.length)]; exact List.getElem_mem _)
    rw [← hz] at h
    exact h)
  have HC4 := Lib.hid hc4
  have HC5 := Lib.hid hc5
  have HF4 := Lib.hid hf4
  have HF5 := Lib.hid hf5
  have HH := Lib.hid (Kd.H_widen hH)
  have HOK := Lib.hid hoki
  have HR3 := Lib.hid hR3
  have HR4 := Lib.hid hR4
  have HLO := Lib.hid (show lineO L s.data.toList = (if zf2 = true then (false, L) else if s.data.toList = goneL then (true, L.set m ⟨⟨z0, z1, z2, z3⟩, zf1, true⟩) else if (outO s.data.toList).2.2 = true then (true, L.set m ⟨⟨z0, z1, z2, z3⟩, zf1 ++ [⟨(outO s.data.toList).1, (outO s.data.toList).2.1⟩], zf2⟩) else (false, L)) from by
    unfold lineO
    rw [hrd]
    simp only
    rw [if_neg hne, hn1, ← hz])
  have HRD := Lib.hid hrd
  have HP := Lib.hid hp
  have HS := Lib.hid hS
  have HRW := Lib.hid (read_walk s hs w hG)
  have HOW := Lib.hid (output_walk s hs)
  have hpl := blk_lt hp
  have HPRE := Lib.hid (hpre hm)
  clear hp hS hG hrd hc4 hc5 hf4 hf5 hcc hfr hcl hM hH hoki hR3 hR4 hz hO
  go_enter Tryd.func41, Tryd.ntmps41
  go_wp2_with fail
  refine HRW.out.mono ?_
  rintro e w1 ⟨hb1, v, hR, he⟩
  rw [HRD.out] at hR he
  simp only [Option.elim] at hR he
  obtain rfl := he
  obtain ⟨Av, cv, rfl⟩ := Kd.R_slice hR
  have HB1 := Lib.hid hb1
  have e0 := cell_of_cells (blk_below HP.out hb1) 0
  simp only [List.getElem?_toArray, List.getElem?_cons_zero, List.getElem?_cons_succ] at e0
  have l0 := blk_lt (blk_below HP.out hb1)
  have e5 := (cell_same (hb1.block g hgl) (m * 6 + 5)).trans HC5.out
  have f5 := (frozen_same (hb1.block g hgl) (m * 6 + 5)).trans HF5.out
  have l5 := Nat.lt_of_lt_of_le hgl hb1.size
  have hpre' := HPRE.out
  have m0 : (0 : Int) ≤ (m : Int) := by omega
  have m1 : (m : Int) < ((m + 1 : Nat) : Int) := by omega
  have m2 : ¬ (m : Int) < 0 := by omega
  have hbA := Lib.hid (fun o => below_alloc HB1.out o)
  clear hb1 hR
  cases zf2 with
  | true =>
    go_wp2_with fail
    go_ret
    refine ⟨(hbA.out _).mono (by omega), ?_, _, blk_alloc (blk_below HP.out HB1.out) _, ?_⟩
    · rw [HLO.out]
      rfl
    · rw [HLO.out]
      exact Kd.S_alloc (Kd.S_below HS.out HB1.out) _
  | false =>
    by_cases hgone : s.data.toList = goneL
    · have p1 : (s.toList == ([103, 111, 110, 101] : List UInt8)) = true := by rw [beq_iff_eq, Lib.toList_data]; exact hgone
      go_wp2_with fail
      go_ret
      have H2 := Kd.H_below HH.out HB1.out
      obtain ⟨h3, -⟩ := Kd.H_seg H2 (by omega) (by omega) (seg := [.bool true]) (j := 5) (by decide) (by intro q hq; rw [List.mem_singleton.1 hq]; rfl)
      have r3 := Kd.R_far (Kd.R_below HR3.out HB1.out) (p := ⟨g, m * 6 + 5, none⟩) (fun k hk => (HOK.out k hk).2) (.bool true)
      have r4 := Kd.R_far (Kd.R_below HR4.out HB1.out) (p := ⟨g, m * 6 + 5, none⟩) (fun k hk => (HOK.out k hk).2) (.bool true)
      have hS' := Kd.H_back h3 (k42_mkM _ (pb + 1) oki ⟨⟨z0, z1, z2, z3⟩, zf1, true⟩ r3 r4) (fun _ hk => Or.inl hk)
      have hb9 : Below pb w (w1.setCell ⟨g, m * 6 + 5, none⟩ (.bool true)) := (HB1.out.mono (by omega : pb ≤ w.heap.size)).setCell (by show pb ≤ g; omega) _
      refine ⟨hb9.alloc (Nat.le_trans (by omega : pb ≤ w.heap.size) hb9.size) _, ?_, _, blk_alloc (blk_far (blk_below HP.out HB1.out) (p := ⟨g, m * 6 + 5, none⟩) (by show pb ≠ g; omega) _) _, ?_⟩
      · rw [HLO.out, if_neg (by decide), if_pos hgone]
        rfl
      · rw [HLO.out, if_neg (by decide), if_pos hgone]
        exact Kd.S_alloc hS' _
    · have p1 : (s.toList == ([103, 111, 110, 101] : List UInt8)) = false := by rw [beq_eq_false_iff_ne, Lib.toList_data]; exact hgone
      have HGN := Lib.hid hgone
      clear hgone
      go_wp2_with fail
      have HB2 := Lib.hid (hbA.out (.cells #[.int .i64 0, .int .i64 0, .int .i64 0, .slice Av 0 cv] 29 (0, 0)))
      clear e0 l0 e5 f5 l5 hbA HB1
      generalize w1.alloc (.cells #[.int .i64 0, .int .i64 0, .int .i64 0, .slice Av 0 cv] 29) = w2 at HB2 ⊢
      refine (HOW.out w2).mono ?_
      rintro e w3 ⟨hb3, vo, hRo, he⟩
      obtain ⟨ob, od, okb, ho⟩ : ∃ ob od okb, outO s.data.toList = (ob, od, okb) := ⟨_, _, _, rfl⟩
      rw [ho] at hRo he
      have HO := Lib.hid ho
      clear ho
      simp only at hRo he
      obtain rfl := he
      obtain ⟨Ao, co, rfl⟩ := Kd.R_slice hRo
      have HB3 := Lib.hid (HB2.out.trans (hb3.mono HB2.out.size))
      have HL2 := Lib.hid (show w.heap.size ≤ w2.heap.size from HB2.out.size)
      have HRO := Lib.hid (Kd.R_bound hRo)
      clear hb3 hRo
      cases okb with
      | false =>
        go_wp2_with fail
        go_ret
        refine ⟨(below_alloc HB3.out _).mono (by omega), ?_, _, blk_alloc (blk_below HP.out HB3.out) _, ?_⟩
        · rw [HLO.out, if_neg (by decide), if_neg HGN.out, HO.out]
          rfl
        · rw [HLO.out, if_neg (by decide), if_neg HGN.out, HO.out]
          exact Kd.S_alloc (Kd.S_below HS.out HB3.out) _
      | true =>
        go_wp2_with fail
        have HB5 := Lib.hid (below_alloc HB3.out (.cells #[.bool ob, .slice Ao od.length co] 56 (0, 0)))
        have HO5 := Lib.hid (blk_new w3 (.cells #[.bool ob, .slice Ao od.length co] 56 (0, 0)))
        have HRO5 := Lib.hid (Kd.R_drew (Kd.R_alloc HRO.out (.cells #[.bool ob, .slice Ao od.length co] 56 (0, 0))))
        have HGO := Lib.hid (show w.heap.size ≤ w3.heap.size from HB3.out.size)
        generalize w3.alloc (.cells #[.bool ob, .slice Ao od.length co] 56) = w5 at HB5 HO5 HRO5 ⊢
        generalize w3.heap.size = go at HO5 HGO ⊢
        have HP5 := Lib.hid (blk_below HP.out HB5.out)
        obtain ⟨A4, c4, rfl⟩ := Kd.R_slice HR4.out
        have HC5 := Lib.hid ((cell_same (HB5.out.block g hgl) (m * 6 + 4)).trans HC4.out)
        have HGL := Lib.hid (show g < w5.drew.heap.size from Nat.lt_of_lt_of_le hgl HB5.out.size)
        have HR45 := Lib.hid (show Kd.R k56 56 w5.drew (pb + 1) (fun k => oki k ∨ w.heap.size ≤ k) (.slice A4 zf1.length c4) zf1 from Kd.R_drew (Kd.R_below (Kd.R_mono HR4.out (fun _ hk => Or.inl hk)) HB5.out))
        have HOWN := Lib.hid (Kd.R_lt HR4.out)
        have HOKI := Lib.hid HR4.out.1
        have HM5 := Lib.hid (show k56.M w5.drew (pb + 1) (fun k => w2.heap.size ≤ k) ⟨ob, od⟩ [.bool ob, .slice Ao od.length co] from k56_mkM w5.drew (pb + 1) (fun k => w2.heap.size ≤ k) ⟨ob, od⟩ (Kd.R_mono (Kd.R_lower HRO5.out (by have := HL2.out; omega)) (fun k hk => hk.2.1)))
        have HOK5 := Lib.hid (show ∀ k, w2.heap.size ≤ k → (oki k ∨ w.heap.size ≤ k) ∧ some k ≠ (Value.slice A4 zf1.length c4).ownBlock from fun k hk => ⟨Or.inr (Nat.le_trans HL2.out hk), fun h => by have := HOWN.out k h.symm; have := HL2.out; omega⟩)
        have HFR := Lib.hid (show ∀ k, w5.drew.heap.size ≤ k → oki k ∨ w.heap.size ≤ k from fun k hk => Or.inr (Nat.le_trans HB5.out.size hk))
        have HBD := Lib.hid (show Below (pb + 1) w w5.drew from (below_drew HB5.out).mono (by omega))
        have HBA5 := Lib.hid (show pb + 1 ≤ w5.drew.heap.size from Nat.le_trans (by omega : pb + 1 ≤ w.heap.size) HB5.out.size)
        have HLL5 := Lib.hid (show (zf1.length + 1) * 32 ≤ 140737488355328 from by have := HZL.out; omega)
        have HN3 := Lib.hid (Kd.R_ne HR45.out (blk_drew HP5.out) (by decide))
        have HN4 := Lib.hid (show some go ≠ (Value.slice A4 zf1.length c4).ownBlock from fun h => by have := HOWN.out go h.symm; have := HGO.out; omega)
        have HN5 := Lib.hid (show some g ≠ (Value.slice A4 zf1.length c4).ownBlock from fun h => (HOK.out g (HOKI.out g h.symm)).2 rfl)
        have HC6 := Lib.hid (show ∀ w6, w5.drew.grownBy w6 (Value.slice A4 zf1.length c4).ownBlock → w6.cell? ⟨g, m * 6 + 4, none⟩ = some (.slice A4 zf1.length c4) from fun w6 hg => (cell_same (hg.block g HGL.out HN5.out) _).trans HC5.out)
        have HF6 := Lib.hid (show ∀ w6, w5.drew.grownBy w6 (Value.slice A4 zf1.length c4).ownBlock → w6.frozen? ⟨g, m * 6 + 4, none⟩ = false from fun w6 hg => (frozen_same (hg.block g HGL.out HN5.out) _).trans ((frozen_same (HB5.out.block g hgl) _).trans HF4.out))
        refine start_ (n := 19) (S := fun w' => w'.heap[pb]? = some (.cells #[.slice (some ⟨g, 0, none⟩) (m + 1) cL] 86 (0, 0)) ∧ w'.heap[go]? = some (.cells #[.bool ob, .slice Ao od.length co] 56 (0, 0)) ∧ w'.cell? ⟨g, m * 6 + 4, none⟩ = some (.slice A4 zf1.length c4)) (ds := [18]) #[false, false, false, false, false, false, false, false, false, false, false, false, false, false, false, false, false, false, false] (by kernel_rfl) rfl rfl ⟨blk_drew HP5.out, blk_drew HO5.out, HC5.out⟩ (fun hHeld => ?_)
        refine pure_ (i := 0) (N := some 61) (v := ?_) (a' := ?_) #[true, false, false, false, false, false, false, false, false, false, false, false, false, false, false, false, false, false, false] rfl rfl (by kernel_rfl) (fun _ _ _ h => h) (Or.inl ⟨by rfl, ?_⟩) ?_ ?_
        rotate_left
        · intro w'
          go_simp
          with_reducible rfl
        rotate_left
        · simp only [Act.put, List.setIfInBounds_toArray, List.set_cons_zero, List.set_cons_succ]
          rfl
        refine pure_ (i := 1) (N := some 62) (v := ?_) (a' := ?_) #[true, true, false, false, false, false, false, false, false, false, false, false, false, false, false, false, false, false, false] rfl rfl (by kernel_rfl) (fun _ _ _ h => h) (Or.inl ⟨by rfl, ?_⟩) ?_ ?_
        rotate_left
        · intro w'
          go_simp
          with_reducible rfl
        rotate_left
        · simp only [Act.put, List.setIfInBounds_toArray, List.set_cons_zero, List.set_cons_succ]
          rfl
        refine pure_ (i := 2) (N := some 63) (v := ?_) (a' := ?_) #[true, true, true, false, false, false, false, false, false, false, false, false, false, false, false, false, false, false, false] rfl rfl (by kernel_rfl) (fun _ _ _ h => h) (Or.inl ⟨by rfl, ?_⟩) ?_ ?_
        rotate_left
        · intro w'
          go_simp
          with_reducible rfl
        rotate_left
        · simp only [Act.put, List.setIfInBounds_toArray, List.set_cons_zero, List.set_cons_succ]
          rfl
        refine take_ (i := 3) (N := some 64) (v := ?_) (a' := ?_) #[true, true, true, true, false, false, false, false, false, false, false, false, false, false, false, false, false, false, false] rfl rfl (by kernel_rfl) (fun _ _ _ h => h) (Or.inl ⟨by rfl, ?_⟩) hHeld ?_ ?_
        rotate_left
        · intro w' hs
          have e0 := cell_of_cells hs.1 0
          simp only [List.getElem?_toArray, List.getElem?_cons_zero, List.getElem?_cons_succ] at e0
          go_simp
          with_reducible rfl
        rotate_left
        · simp only [Act.put, List.setIfInBounds_toArray, List.set_cons_zero, List.set_cons_succ]
          rfl
        refine pure_ (i := 4) (N := some 65) (v := ?_) (a' := ?_) #[true, true, true, true, true, false, false, false, false, false, false, false, false, false, false, false, false, false, false] rfl rfl (by kernel_rfl) (fun _ _ _ h => h) (Or.inl ⟨by rfl, ?_⟩) ?_ ?_
        rotate_left
        · intro w'
          go_simp
          with_reducible rfl
        rotate_left
        · simp only [Act.put, List.setIfInBounds_toArray, List.set_cons_zero, List.set_cons_succ]
          rfl
        refine pure_ (i := 5) (N := some 66) (v := ?_) (a' := ?_) #[true, true, true, true, true, true, false, false, false, false, false, false, false, false, false, false, false, false, false] rfl rfl (by kernel_rfl) (fun _ _ _ h => h) (Or.inl ⟨by rfl, ?_⟩) ?_ ?_
        rotate_left
        · intro w'
          go_simp
          with_reducible rfl
        rotate_left
        · simp only [Act.put, List.setIfInBounds_toArray, List.set_cons_zero, List.set_cons_succ]
          rfl
        refine pure_ (i := 6) (N := some 67) (v := ?_) (a' := ?_) #[true, true, true, true, true, true, true, false, false, false, false, false, false, false, false, false, false, false, false] rfl rfl (by kernel_rfl) (fun _ _ _ h => h) (Or.inl ⟨by rfl, ?_⟩) ?_ ?_
        rotate_left
        · intro w'
          go_simp
          with_reducible rfl
        rotate_left
        · simp only [Act.put, List.setIfInBounds_toArray, List.set_cons_zero, List.set_cons_succ]
          rfl
        refine pure_ (i := 7) (N := some 68) (v := ?_) (a' := ?_) #[true, true, true, true, true, true, true, true, false, false, false, false, false, false, false, false, false, false, false] rfl rfl (by kernel_rfl) (fun _ _ _ h => h) (Or.inl ⟨by rfl, ?_⟩) ?_ ?_
        rotate_left
        · intro w'
          go_simp
          with_reducible rfl
        rotate_left
        · simp only [Act.put, List.setIfInBounds_toArray, List.set_cons_zero, List.set_cons_succ]
          rfl
        refine take_ (i := 8) (N := some 69) (v := ?_) (a' := ?_) #[true, true, true, true, true, true, true, true, true, false, false, false, false, false, false, false, false, false, false] rfl rfl (by kernel_rfl) (fun _ _ _ h => h) (Or.inl ⟨by rfl, ?_⟩) hHeld ?_ ?_
        rotate_left
        · intro w' hs
          have e0 := cell_of_cells hs.1 0
          simp only [List.getElem?_toArray, List.getElem?_cons_zero, List.getElem?_cons_succ] at e0
          go_simp
          with_reducible rfl
        rotate_left
        · simp only [Act.put, List.setIfInBounds_toArray, List.set_cons_zero, List.set_cons_succ]
          rfl
        refine pure_ (i := 9) (N := some 70) (v := ?_) (a' := ?_) #[true, true, true, true, true, true, true, true, true, true, false, false, false, false, false, false, false, false, false] rfl rfl (by kernel_rfl) (fun _ _ _ h => h) (Or.inl ⟨by rfl, ?_⟩) ?_ ?_
        rotate_left
        · intro w'
          go_simp
          with_reducible rfl
        rotate_left
        · simp only [Act.put, List.setIfInBounds_toArray, List.set_cons_zero, List.set_cons_succ]
          rfl
        refine pure_ (i := 10) (N := some 71) (v := ?_) (a' := ?_) #[true, true, true, true, true, true, true, true, true, true, true, false, false, false, false, false, false, false, false] rfl rfl (by kernel_rfl) (fun _ _ _ h => h) (Or.inl ⟨by rfl, ?_⟩) ?_ ?_
        rotate_left
        · intro w'
          go_simp
          with_reducible rfl
        rotate_left
        · simp only [Act.put, List.setIfInBounds_toArray, List.set_cons_zero, List.set_cons_succ]
          rfl
        refine pure_ (i := 11) (N := some 72) (v := ?_) (a' := ?_) #[true, true, true, true, true, true, true, true, true, true, true, true, false, false, false, false, false, false, false] rfl rfl (by kernel_rfl) (fun _ _ _ h => h) (Or.inl ⟨by rfl, ?_⟩) ?_ ?_
        rotate_left
        · intro w'
          go_simp
          with_reducible rfl
        rotate_left
        · simp only [Act.put, List.setIfInBounds_toArray, List.set_cons_zero, List.set_cons_succ]
          rfl
        refine take_ (i := 12) (N := some 73) (v := ?_) (a' := ?_) #[true, true, true, true, true, true, true, true, true, true, true, true, true, false, false, false, false, false, false] rfl rfl (by kernel_rfl) (fun _ _ _ h => h) (Or.inl ⟨by rfl, ?_⟩) hHeld ?_ ?_
        rotate_left
        · intro w' hs
          have e4 := hs.2.2
          go_simp
          with_reducible rfl
        rotate_left
        · simp only [Act.put, List.setIfInBounds_toArray, List.set_cons_zero, List.set_cons_succ]
          rfl
        refine take_ (i := 13) (N := some 74) (v := ?_) (a' := ?_) #[true, true, true, true, true, true, true, true, true, true, true, true, true, true, false, false, false, false, false] rfl rfl (by kernel_rfl) (fun _ _ _ h => h) (Or.inl ⟨by rfl, ?_⟩) hHeld ?_ ?_
        rotate_left
        · intro w' hs
          have e0 := cell_of_cells hs.2.1 0
          have e1 := cell_of_cells hs.2.1 1
          simp only [List.getElem?_toArray, List.getElem?_cons_zero, List.getElem?_cons_succ] at e0 e1
          go_simp
          with_reducible rfl
        rotate_left
        · simp only [Act.put, List.setIfInBounds_toArray, List.set_cons_zero, List.set_cons_succ]
          rfl
        refine one_ (i := 14) (N := some 75) #[true, true, true, true, true, true, true, true, true, true, true, true, true, true, true, false, false, false, false] rfl rfl (by kernel_rfl) (by decide) (fun K hK => ?_)
        refine value_ (w1 := ?_) (v := ?_) (by rfl) rfl ?_ ?_
        rotate_left 2
        · go_simp
          constructor
          · rfl
          · rfl
        refine hK.out _ _ ⟨blk_alloc hHeld.1 _, blk_alloc hHeld.2.1 _, cell_alloc_old _ hHeld.2.2⟩ (fun hHeld => ?_)
        clear hK K
        refine norm_ (a' := ?_) ?_ ?_
        rotate_left
        · show Act.put _ (some 75) _ = _
          simp only [Act.put, List.setIfInBounds_toArray, List.set_cons_zero, List.set_cons_succ]
          rfl
        refine one_ (i := 15) (N := some 76) #[true, true, true, true, true, true, true, true, true, true, true, true, true, true, true, true, false, false, false] rfl rfl (by kernel_rfl) (by decide) (fun K hK => ?_)
        refine Kd.R_append_step k56 (w0 := w) (pb + 1) (by rfl) (.tmp 73) (.tmp 75) 40 56 outZ 32 rfl Tryd.underlying40 info_out rfl (by decide) (by decide) (.slice A4 zf1.length c4) zf1 ⟨ob, od⟩ [.bool ob, .slice Ao od.length co] (fun k => oki k ∨ w.heap.size ≤ k) (fun k => w2.heap.size ≤ k) rfl rfl HM5.out HOK5.out HFR.out HR45.out HBD.out HBA5.out HLL5.out ?_
        intro v76 w6 k1 k2 k3 k4
        have HG6 := Lib.hid k3
        have HR6 := Lib.hid k1
        have HB6 := Lib.hid k2
        clear k1 k2 k3 k4
        obtain ⟨A76, c76, rfl⟩ := Kd.R_slice HR6.out
        have HR6 := Lib.hid (R_len HR6.out)
        rw [List.length_append, List.length_singleton]
        refine hK.out _ _ ⟨blk_grown (blk_drew HP5.out) HG6.out HN3.out, blk_grown (blk_drew HO5.out) HG6.out HN4.out, HC6.out _ HG6.out⟩ (fun hHeld => ?_)
        clear hK K
        refine norm_ (a' := ?_) ?_ ?_
        rotate_left
        · show Act.put _ (some 76) _ = _
          simp only [Act.put, List.setIfInBounds_toArray, List.set_cons_zero, List.set_cons_succ]
          rfl
        refine pure_ (i := 16) (N := some 77) (v := ?_) (a' := ?_) #[true, true, true, true, true, true, true, true, true, true, true, true, true, true, true, true, true, false, false] rfl rfl (by kernel_rfl) (fun _ _ _ h => h) (Or.inl ⟨by rfl, ?_⟩) ?_ ?_
        rotate_left
        · intro w'
          go_simp
          with_reducible rfl
        rotate_left
        · simp only [Act.put, List.setIfInBounds_toArray, List.set_cons_zero, List.set_cons_succ]
          rfl
        refine pure_ (i := 17) (N := some 78) (v := ?_) (a' := ?_) #[true, true, true, true, true, true, true, true, true, true, true, true, true, true, true, true, true, true, false] rfl rfl (by kernel_rfl) (fun _ _ _ h => h) (Or.inl ⟨by rfl, ?_⟩) ?_ ?_
        rotate_left
        · intro w'
          go_simp
          with_reducible rfl
        rotate_left
        · simp only [Act.put, List.setIfInBounds_toArray, List.set_cons_zero, List.set_cons_succ]
          rfl
        have HH9 := Lib.hid hHeld
        clear hHeld
        have e4 := HH9.out.2.2
        have f4 := HF6.out _ HG6.out
        have lt4 := Nat.lt_of_lt_of_le HGL.out HG6.out.size
        refine last_ (i := 18) (N := none) #[true, true, true, true, true, true, true, true, true, true, true, true, true, true, true, true, true, true, true] rfl rfl (by kernel_rfl) (by decide) (fun K hK => ?_)
        refine skip_ (w1 := ?_) (by rfl) rfl ?_ ?_
        rotate_left
        · go_simp
          rfl
        refine hK.out _ _ ?_
        clear hK K
        refine done_ (by kernel_rfl) ?_
        go_wp2_with fail
        go_ret
        have H5 := Kd.H_drew (Kd.H_below HH.out HB5.out)
        have H6 := Kd.H_grown H5 HG6.out (fun k hk => Or.inl (HOKI.out k hk))
        obtain ⟨h7, -⟩ := Kd.H_seg H6 (by omega) (by omega) (seg := [.slice A76 (zf1.length + 1) c76]) (j := 4) (show 4 + 1 ≤ 6 by decide) (by intro q hq; rw [List.mem_singleton.1 hq]; rfl)
        have r3 := Kd.R_far (Kd.R_over (Kd.R_drew (Kd.R_below HR3.out HB5.out)) HR45.out (by decide) HG6.out) (p := ⟨g, m * 6 + 4, none⟩) (fun k hk => (HOK.out k hk).2) (.slice A76 (zf1.length + 1) c76)
        have r4 := Kd.R_far HR6.out (p := ⟨g, m * 6 + 4, none⟩) (fun k hk => hk.elim (fun h => (HOK.out k h).2) (fun h => by show k ≠ g; omega)) (.slice A76 (zf1.length + 1) c76)
        have hS' := Kd.H_back h7 (k42_mkM _ (pb + 1) (fun k => oki k ∨ w.heap.size ≤ k) ⟨⟨z0, z1, z2, z3⟩, zf1 ++ [⟨ob, od⟩], false⟩ (Kd.R_mono r3 (fun _ hk => Or.inl hk)) r4) (fun _ hk => hk.elim Or.inl (fun h => Or.inr ⟨trivial, h⟩))
        refine ⟨(HB6.out.mono (Nat.le_succ _)).setCell (by show pb ≤ g; omega) _, ?_, _, blk_far HH9.out.1 (by show pb ≠ g; omega) _, ?_⟩
        · rw [HLO.out, if_neg (by decide), if_neg HGN.out, HO.out]
          rfl
        · rw [HLO.out, if_neg (by decide), if_neg HGN.out, HO.out]
          exact hS'
theorem line_walk (pb : Nat) (L : List S42) (vL : Value) (s : ByteArray) (w : World) (hp : w.heap[pb]? = some (.cells #[vL] 86 (0, 0))) (hS : Kd.S k42 42 w (pb + 1) (fun _ => True) vL L) (hL : L.length ≤ 1000000) (hO : ∀ x ∈ L, x.f1.length ≤ 1000000) (hs : s.size ≤ 100000) (hG : GlobT w) :
    Calls Tryd.prog 41 #[.pointer (some ⟨pb, 0, none⟩), .string s] w (LinePost pb L s w) := by
  cases hrd : readO s.data.toList with
  | some x => exact line_some pb L vL s w hp hS hL hs hG hrd
  | none =>
    cases L with
    | nil => exact line_empty pb vL s w hp hS hs hG hrd
    | cons z r => exact line_last pb r.length (z :: r) vL s w hp hS rfl (by simp at hL; omega) hO hs hG hrd
end Go.Proofs.YtoloooammaiipaaDoor
/- What trace.Parse gives: a walk; conditions: a text of at most 100000 bytes; the tables lie as the program's text lays them. -/
namespace Go.Proofs.YtoloooammaiipaaDoor
open Go Go.RowKit Go.Proofs.YtoloooammaiipaaDoor.PI Go.Proofs.YtoloooammaiipaaDoorW.PrintWords Go.Proofs.YtoloooammaiipaaDoorW.PrintLast Go.Proofs.YtoloooammaiipaaDoorW.PrintMore
set_option linter.unusedVariables false
set_option linter.unusedSimpArgs false
/-- What a text tells of steps, behind steps and lines so far: the steps, the line, the error. -/
def parseL : Nat → List S42 → Nat → List UInt8 → List S42 × Nat × Int
  | 0, L, n, _ => (L, n, 0)
  | k + 1, L, n, s => if s = [] then (L, n, 0) else if (cut1 10 s).2.2 = true ∧ (lineO L (cut1 10 s).1).1 = true then parseL k (lineO L (cut1 10 s).1).2 (n + 1) (cut1 10 s).2.1 else ([], n, 10)
def parseO (s : List UInt8) : List S42 × Nat × Int := parseL s.length [] 0 s
theorem parseL_nil (k : Nat) (L : List S42) (n : Nat) : parseL k L n [] = (L, n, 0) := by cases k <;> rfl
theorem parseL_fuel : ∀ (k k' : Nat) (L : List S42) (n : Nat) (s : List UInt8), s.length ≤ k → s.length ≤ k' → parseL k L n s = parseL k' L n s
  | 0, k', L, n, s, h, _ => by
    obtain rfl := List.eq_nil_of_length_eq_zero (Nat.le_zero.1 h)
    rw [parseL_nil, parseL_nil]
  | k + 1, 0, L, n, s, _, h => by
    obtain rfl := List.eq_nil_of_length_eq_zero (Nat.le_zero.1 h)
    rw [parseL_nil, parseL_nil]
  | k + 1, k' + 1, L, n, s, h, h' => by
    unfold parseL
    split
    · rfl
    split
    · rename_i hc
      have := (cut1_le 10 s).2.2 hc.1
      exact parseL_fuel k k' _ _ _ (by omega) (by omega)
    · rfl
theorem lineO_len (L : List S42) (s : List UInt8) : (lineO L s).2.length ≤ L.length + 1 ∧ ∀ B, (∀ x ∈ L, x.f1.length ≤ B) → ∀ x ∈ (lineO L s).2, x.f1.length ≤ B + 1 := by
  have hset : ∀ (x' : S42) (i : Nat) (B : Nat), (∀ x ∈ L, x.f1.length ≤ B) → x'.f1.length ≤ B + 1 → ∀ x ∈ L.set i x', x.f1.length ≤ B + 1 := fun x' i B h h' x hx => by
    rcases List.mem_or_eq_of_mem_set hx with hx | rfl
    · exact Nat.le_succ_of_le (h x hx)
    · exact h'
  have hget : ∀ (i : Nat) (B : Nat), (∀ x ∈ L, x.f1.length ≤ B) → L ≠ [] → (L.getD (L.length - 1) z42).f1.length ≤ B := fun i B h hn => by
    have hl : L.length - 1 < L.length := by have := List.length_pos_iff.2 hn; omega
    rw [List.getD_eq_getElem?_getD, List.getElem?_eq_getElem hl]
    exact h _ (List.getElem_mem hl)
  unfold lineO
  cases readO s with
  | some x =>
    refine ⟨by simp, fun B h y hy => ?_⟩
    rcases List.mem_append.1 hy with hy | hy
    · exact Nat.le_succ_of_le (h y hy)
    · rw [List.mem_singleton.1 hy]
      exact Nat.zero_le _
  | none =>
    simp only
    by_cases h0 : L = []
    · rw [if_pos h0]
      exact ⟨Nat.le_succ _, fun B h y hy => Nat.le_succ_of_le (h y hy)⟩
    rw [if_neg h0]
    split
    · exact ⟨Nat.le_succ _, fun B h y hy => Nat.le_succ_of_le (h y hy)⟩
    split
    · exact ⟨by simp, fun B h => hset _ _ B h (Nat.le_succ_of_le (hget 0 B h h0))⟩
    split
    · refine ⟨by simp, fun B h => hset _ _ B h ?_⟩
      have := hget 0 B h h0
      simp only [List.length_append, List.length_singleton]
      omega
    · exact ⟨Nat.le_succ _, fun B h y hy => Nat.le_succ_of_le (h y hy)⟩
def strSz : Value → Nat
  | .string t => t.size
  | _ => 0
def ParsePost (s : ByteArray) (w : World) (e : Ending) (w' : World) : Prop :=
  Below w.heap.size w w' ∧ ∃ v, e = .returned (.tuple #[v, .int .i64 ((parseO s.data.toList).2.1 : Int), .int .i64 (parseO s.data.toList).2.2]) ∧ Kd.S k42 42 w' w.heap.size (fun _ => True) v (parseO s.data.toList).1
set_option maxHeartbeats 8000000 in
set_option maxRecDepth 100000 in
theorem parse_walk (s : ByteArray) (hs : s.size ≤ 100000) (w : World) (hG : GlobT w) :
    Calls Tryd.prog 23 #[.string s] w (ParsePost s w) := by
  have HG := Lib.hid hG
  have HS := Lib.hid hs
  clear hG hs
  go_enter Tryd.func23, Tryd.ntmps23
  go_wp2_with fail
  have HB0 := Lib.hid (below_alloc (Below.refl w.heap.size w) (.cells #[.slice none 0 0] 86 (0, 0)))
  have HP0 := Lib.hid (blk_new w (.cells #[.slice none 0 0] 86 (0, 0)))
  generalize hw0 : w.alloc (.cells #[.slice none 0 0] 86) = w0 at HB0 HP0 ⊢
  clear hw0
  obtain ⟨pb, hpb⟩ : ∃ pb, pb = w.heap.size := ⟨_, rfl⟩
  rw [← hpb] at HB0 HP0 ⊢
  have HPB := Lib.hid hpb
  clear hpb
  go_loopw [0, 6] (fun v0 v6 wr => ∃ (n : Nat) (t : ByteArray) (L : List S42) (vL : Value), v0 = .string t ∧ v6 = .int .i64 n ∧ n + t.size ≤ s.size ∧ wr.heap[pb]? = some (.cells #[vL] 86 (0, 0)) ∧ Hid (Below pb w wr ∧ Kd.S k42 42 wr (pb + 1) (fun _ => True) vL L ∧ L.length ≤ n ∧ (∀ x ∈ L, x.f1.length ≤ n) ∧ parseO s.data.toList = parseL t.size L n t.data.toList)) (fun v0 _ _ => strSz v0)
  case atStart => exact ⟨0, s, [], .slice none 0 0, rfl, rfl, by omega, HP0.out, Lib.hid ⟨HB0.out, Kd.S_nil _ _ _ _ _, Nat.le_refl _, fun x hx => by simp at hx, by unfold parseO; rw [len_size]⟩⟩
  case round =>
    obtain ⟨n, t, L, vL, rfl, rfl, hnt, hP, hh⟩ := hrel
    obtain ⟨hb, hS, hLn, hOn, hpar⟩ := hh.out
    have HP := Lib.hid hP
    have HB := Lib.hid hb
    have HSS := Lib.hid hS
    have HLN := Lib.hid hLn
    have HON := Lib.hid hOn
    have HPAR := Lib.hid hpar
    have HNT := Lib.hid hnt
    clear hP hh hb hS hLn hOn hpar hnt
    have htl := len_size t
    by_cases ht : t.data.toList = []
    · have p1 : (t.toList == ([] : List UInt8)) = true := by rw [beq_iff_eq, Lib.toList_data]; exact ht
      have p2 : (t.toList != ([] : List UInt8)) = false := by rw [bne_eq_false_iff_eq, Lib.toList_data]; exact ht
      obtain ⟨AL, cL, rfl⟩ := Kd.S_slice HSS.out
      have e0 := cell_of_cells HP.out 0
      simp only [List.getElem?_toArray, List.getElem?_cons_zero] at e0
      have hpo : parseO s.data.toList = (L, n, 0) := by rw [HPAR.out, ht, parseL_nil]
      have HPO := Lib.hid hpo
      have p3 : t.toList.isEmpty = true := by rw [Lib.toList_data, ht]; rfl
      clear ht hpo
      go_wp2_with fail
      exact bodyPost_ret (v := .tuple #[.slice AL L.length cL, .int .i64 (n : Int), .int .i64 0]) (by simp [results, Tryd.results23, go_sem]) rfl ⟨HPB.out ▸ HB.out, _, by rw [HPO.out], by rw [HPO.out]; exact Kd.S_lower HSS.out (by have := HPB.out; omega)⟩
    · have p1 : (t.toList == ([] : List UInt8)) = false := by rw [beq_eq_false_iff_ne, Lib.toList_data]; exact ht
      have p2 : (t.toList != ([] : List UInt8)) = true := by rw [bne_iff_ne, Lib.toList_data]; exact ht
      have p3 : t.toList.isEmpty = false := by rw [Lib.toList_data]; cases h : t.data.toList with | nil => exact absurd h ht | cons => rfl
      obtain ⟨a, b, f, hq⟩ : ∃ a b f, cut1 10 t.data.toList = (a, b, f) := ⟨_, _, _, rfl⟩
      have hs1 := HS.out
      have hnt1 := HNT.out
      have hcut := cut1_is t 10 (by omega)
      have hle := cut1_le 10 t.data.toList
      rw [hq] at hcut hle
      simp only at hcut hle
      rw [htl] at hle
      have hstep : parseO s.data.toList = if f = true ∧ (lineO L a).1 = true then parseL (t.size - 1) (lineO L a).2 (n + 1) b else ([], n, 10) := by
        rw [HPAR.out]
        have htp : 0 < t.size := by rw [← htl]; exact List.length_pos_iff.2 ht
        obtain ⟨k, hk⟩ : ∃ k, t.size = k + 1 := ⟨t.size - 1, by omega⟩
        rw [hk, parseL, if_neg ht, hq]
        rfl
      have HST := Lib.hid hstep
      have HA := Lib.hid (show (strOf a).size ≤ 100000 from by rw [strOf_size]; omega)
      have HN := Lib.hid (hnext (j := n) (n := 1000000) (by omega) (Nat.le_refl _))
      have HL := Lib.hid (show L.length ≤ 1000000 from by have := HLN.out; omega)
      have HLO := Lib.hid (show ∀ x ∈ L, x.f1.length ≤ 1000000 from fun x hx => by have := HON.out x hx; omega)
      have HGW := Lib.hid (show ∀ W, Below pb w W → GlobT W from fun W hW => globt_below HG.out (HPB.out ▸ hW))
      obtain ⟨wa, hwa⟩ : ∃ wa, wa = strOf a := ⟨_, rfl⟩
      obtain ⟨wb, hwb⟩ : ∃ wb, wb = strOf b := ⟨_, rfl⟩
      rw [← hwa, ← hwb] at hcut
      rw [← hwa] at HA
      have hwad : wa.data.toList = a := by rw [hwa, strOf_data]
      have hwbd : wb.data.toList = b := by rw [hwb, strOf_data]
      have HWA := Lib.hid hwad
      have HWB := Lib.hid hwbd
      have HLE := Lib.hid hle
      clear hq hle hstep hwa hwb hwad hwbd ht hs1 hnt1
      go_wp2_with fail
      refine (strings_Cut.calls t ⟨#[10]⟩ _ _ _ _ hcut).mono ?_
      rintro e w1 ⟨rfl, hdr⟩
      have HP1 := Lib.hid (blk_below HP.out hdr.below)
      have HS1 := Lib.hid (Kd.S_below HSS.out hdr.below)
      have HB1 := Lib.hid (HB.out.trans (hdr.below.mono (by have := blk_lt HP.out; omega)))
      clear hdr hcut
      cases f with
      | false =>
        go_wp2_with fail
        have hpo : parseO s.data.toList = ([], n, 10) := by rw [HST.out, if_neg (by intro h; exact absurd h.1 (by decide))]
        exact bodyPost_ret (v := .tuple #[.slice none 0 0, .int .i64 (n : Int), .int .i64 10]) (by simp [results, Tryd.results23, go_sem]) rfl ⟨HPB.out ▸ HB1.out, _, by rw [hpo], by rw [hpo]; exact Kd.S_nil _ _ _ _ _⟩
      | true =>
        go_wp2_with fail
        refine (line_walk pb L vL wa w1 HP1.out HS1.out HL.out HLO.out HA.out (HGW.out _ HB1.out)).mono ?_
        rintro e w2 ⟨hb2, he, v2, hp2, hs2⟩
        have HB2 := Lib.hid (HB1.out.trans hb2)
        have HS2 := Lib.hid hs2
        have HP2 := Lib.hid hp2
        clear hb2 hs2 hp2
        rw [HWA.out] at he HS2
        cases hl : (lineO L a).1 with
        | false =>
          rw [hl] at he
          obtain rfl := he
          have HLF := Lib.hid hl
          clear hl
          go_wp2_with fail
          have hpo : parseO s.data.toList = ([], n, 10) := by rw [HST.out, if_neg (by intro h; have := h.2; rw [HLF.out] at this; cases this)]
          exact bodyPost_ret (v := .tuple #[.slice none 0 0, .int .i64 (n : Int), .int .i64 10]) (by simp [results, Tryd.results23, go_sem]) rfl ⟨HPB.out ▸ HB2.out, _, by rw [hpo], by rw [hpo]; exact Kd.S_nil _ _ _ _ _⟩
        | true =>
          rw [hl] at he
          obtain rfl := he
          have HLF := Lib.hid hl
          clear hl
          go_wp2_with fail
          have hwbs : wb.size + 1 ≤ t.size := by
            have h1 := HLE.out.2.2 (by first | rfl | trivial)
            have h2 := len_size wb
            rw [HWB.out] at h2
            omega
          have hll := lineO_len L a
          refine ⟨⟨n + 1, wb, (lineO L a).2, v2, rfl, by first | rfl | exact congrArg _ HN.out, by have := HNT.out; omega, HP2.out, Lib.hid ⟨HB2.out, HS2.out, by have := HLN.out; omega, hll.2 n HON.out, ?_⟩⟩, ?_⟩
          · rw [HST.out, if_pos ⟨by first | rfl | trivial, HLF.out⟩, HWB.out]
            have h1 := HLE.out.2.2 (by first | rfl | trivial)
            have h2 := len_size wb
            rw [HWB.out] at h2
            exact parseL_fuel _ _ _ _ _ (by omega) (by omega)
          · show wb.size < t.size
            omega
end Go.Proofs.YtoloooammaiipaaDoor
/- What lamplighterlaw19.alive gives: a walk; conditions: the tables lie as the program's text lays them. -/
namespace Go.Proofs.YtoloooammaiipaaDoor
open Go Go.RowKit Go.Proofs.YtoloooammaiipaaDoor.PI Go.Proofs.YtoloooammaiipaaDoorW.PrintWords Go.Proofs.YtoloooammaiipaaDoorW.PrintLast Go.Proofs.YtoloooammaiipaaDoorW.PrintMore
set_option linter.unusedVariables false
set_option linter.unusedSimpArgs false
theorem alive_parse : parseO [105, 110, 32, 48, 98, 48, 100, 10, 98, 97, 99, 107, 32, 45, 10] = ([⟨⟨0, 0, 0, [11, 13]⟩, [⟨true, []⟩], false⟩], 2, 0) := by kernel_rfl
theorem alive_read : readO [116, 105, 99, 107, 32, 48, 53] = none := by decide +kernel
set_option maxHeartbeats 8000000 in
set_option maxRecDepth 100000 in
theorem alive_walk (w : World) (hG : GlobT w) :
    Calls Tryd.prog 10 #[] w fun e w' => e = .returned (.bool true) ∧ Below w.heap.size w w' := by
  have HG := Lib.hid hG
  have HPW := Lib.hid (parse_walk ⟨#[105, 110, 32, 48, 98, 48, 100, 10, 98, 97, 99, 107, 32, 45, 10]⟩ (by decide) w hG)
  clear hG
  go_enter Tryd.func10, Tryd.ntmps10
  go_wp2_with fail
  refine HPW.out.mono ?_
  rintro e w1 ⟨hb1, v, he, hS⟩
  have hpr : parseO (⟨#[105, 110, 32, 48, 98, 48, 100, 10, 98, 97, 99, 107, 32, 45, 10]⟩ : ByteArray).data.toList = ([⟨⟨0, 0, 0, [11, 13]⟩, [⟨true, []⟩], false⟩], 2, 0) := alive_parse
  rw [hpr] at he hS
  simp only at he hS
  obtain rfl := he
  obtain ⟨g, c, rfl, -, hgl, -⟩ := Kd.S_form hS (by decide)
  obtain ⟨oki, cs, hcl, hM, hcc, -, -, -⟩ := Kd.S_elem hS z42 0 (by decide) (by decide)
  obtain ⟨v3, v4, rfl, hR3, hR4⟩ := k42_openM hM
  obtain ⟨A3, c3, rfl⟩ := Kd.R_slice hR3
  obtain ⟨g4, c4, rfl, -, hgl4, -⟩ := Kd.R_form hR4 (by decide)
  obtain ⟨cs4, hcl4, hM4, hcc4, -⟩ := Kd.R_elem hR4 z56 0 (by decide) (by decide)
  obtain ⟨v5, rfl, hR5⟩ := k56_openM hM4
  have h3 : w1.cell? ⟨g, 3, none⟩ = some (.slice A3 2 c3) := hcc 3 _ rfl
  have h4 : w1.cell? ⟨g, 4, none⟩ = some (.slice (some ⟨g4, 0, none⟩) 1 c4) := hcc 4 _ rfl
  have h5 : w1.cell? ⟨g4, 0, none⟩ = some (.bool true) := hcc4 0 _ rfl
  have hC3 := (Kd.R_reads' hR3).2.2
  have HB1 := Lib.hid hb1
  have HRW := Lib.hid (read_walk ⟨#[116, 105, 99, 107, 32, 48, 53]⟩ (by decide) w1 (globt_below HG.out hb1))
  have H3 := Lib.hid h3
  have H4 := Lib.hid h4
  have H5 := Lib.hid h5
  have HC := Lib.hid (show Kd.C (Kd.int .u8) w1 A3 2 [11, 13] from hC3)
  have HC3 := Lib.hid (show (2 : Nat) ≤ c3 from (Kd.R_reads' hR3).2.1)
  clear hb1 hS hcl hM hcc hR3 hR4 hcl4 hM4 hcc4 hR5 h3 h4 h5 hC3
  go_wp2_with fail
  refine HRW.out.mono ?_
  rintro e w2 ⟨hb2, vr, hRr, he⟩
  have hrd : readO (⟨#[116, 105, 99, 107, 32, 48, 53]⟩ : ByteArray).data.toList = none := alive_read
  rw [hrd] at he hRr
  simp only [Option.elim] at he hRr
  obtain rfl := he
  obtain ⟨Ar, cr, rfl⟩ := Kd.R_slice hRr
  have HB2 := Lib.hid (below_step HB1.out hb2)
  have e3 := (cell_same (hb2.block g hgl) 3).trans H3.out
  have e4 := (cell_same (hb2.block g hgl) 4).trans H4.out
  have e5 := (cell_same (hb2.block g4 hgl4) 0).trans H5.out
  have l3 := Nat.lt_of_lt_of_le hgl hb2.size
  have l4 := Nat.lt_of_lt_of_le hgl4 hb2.size
  have HCV := Lib.hid (Kd.C_below HC.out hb2)
  have hcv : ∀ o, (convert 22 9 (.slice A3 2 c3)).run Tryd.prog (w2.alloc o) = .ok (.string (strOfNums [11, 13])) (w2.alloc o) := fun o => Kd.C_string Tryd.underlying22 Tryd.underlying5 Tryd.underlying9 (Kd.C_alloc HCV.out o)
  have hsn : strOfNums [11, 13] = ⟨#[11, 13]⟩ := rfl
  rw [hsn] at hcv
  clear hb2 hRr hrd hsn
  go_wp2_with fail
  go_ret
  exact ⟨rfl, below_alloc HB2.out _⟩
end Go.Proofs.YtoloooammaiipaaDoor
-- Written by a program of this work (the kit's print, with contracts of this work's own taken in) out of the translation. Not trusted: Lean checks it.
namespace Go.Proofs.YtoloooammaiipaaDoor.PJ
open Go.RowKit Go.Proofs.YtoloooammaiipaaDoorW.PrintWords Go.Proofs.YtoloooammaiipaaDoorW.PrintLast Go.Proofs.YtoloooammaiipaaDoorW.PrintMore
attribute [local go_sem] max2_int min2_int max_two min_two max_three min_three max_four min_four   -- for this text's walks alone
set_option linter.unusedVariables false
set_option linter.unusedSimpArgs false

/-! ### lamplighterlaw19_alive: function 10 -/
def lamplighterlaw19_alive.f : Option (Bool) := some true
theorem lamplighterlaw19_alive.calls (r : Bool) (w : World) (h : lamplighterlaw19_alive.f = some r) (hGT : GlobT w) :
    Calls Tryd.prog 10 #[] w fun e w' => e = .returned (.bool r) ∧ Below w.heap.size w w' := by
  obtain rfl := Option.some.inj h
  exact alive_walk w hGT


end Go.Proofs.YtoloooammaiipaaDoor.PJ
-- Written by a program of this work (the kit's print, with contracts of this work's own taken in) out of the translation. Not trusted: Lean checks it.
namespace Go.Proofs.YtoloooammaiipaaDoor.PJ
open Go.RowKit Go.Proofs.YtoloooammaiipaaDoorW.PrintWords Go.Proofs.YtoloooammaiipaaDoorW.PrintLast Go.Proofs.YtoloooammaiipaaDoorW.PrintMore
attribute [local go_sem] max2_int min2_int max_two min_two max_three min_three max_four min_four   -- for this text's walks alone
set_option linter.unusedVariables false
set_option linter.unusedSimpArgs false

/-! ### lamplighterlaw19_TraceBytes: function 3 -/
def lamplighterlaw19_TraceBytes.j0 : Nat → List Int → ByteArray → Bool → Option (Bool)
  | 0, _, _, _ => none
  | k + 1, x0, x1, x19 => if x19 = true then ((lamplighterlaw19_alive.f).bind fun t154 => (some t154)) else ((trace_Hex.f x0).bind fun t155 => ((trace_Bytes.f k t155).bind fun bt156 => ((trace_Bytes.f k x1).bind fun bt160 => ((lamplighterref19_Bytes.f k x1).bind fun bt164 => ((lamplighterlaw19_alive.f).bind fun t168 => (if t168 = true then ((lamplighterref19_Hex.f x0).bind fun t169 => (if t155.toList = t169.toList then (if bt156.2 = true then (if (strOfNums bt156.1).toList = (strOfNums x0).toList then (if (strOfNums bt160.1).toList = (strOfNums bt164.1).toList then (some (bt160.2 == bt164.2)) else (some false)) else (some false)) else (some false)) else (some false))) else (some false)))))))
def lamplighterlaw19_TraceBytes.f (k : Nat) (l0 : List Int) (a1 : ByteArray) : Option (Bool) := if (l0.length : Int) > 1500 then (lamplighterlaw19_TraceBytes.j0 k l0 a1 true) else (lamplighterlaw19_TraceBytes.j0 k l0 a1 (decide ((a1.size : Int) > 1500)))
theorem lamplighterlaw19_TraceBytes.mono_l : ∀ k, (∀ y0 y1 y2, LeO (lamplighterlaw19_TraceBytes.j0 k y0 y1 y2) (lamplighterlaw19_TraceBytes.j0 (k + 1) y0 y1 y2))
  | 0 => fun _ _ _ r h => by simp [lamplighterlaw19_TraceBytes.j0] at h
  | k + 1 => by
    have ih0 := lamplighterlaw19_TraceBytes.mono_l k
    · intro y0 y1 y2
      unfold lamplighterlaw19_TraceBytes.j0
      repeat' first
      | (with_reducible exact ih0 _ _ _)
      | (with_reducible exact lamplighterref19_Bytes.mono _ _)
      | (with_reducible exact trace_Bytes.mono _ _)
      | (with_reducible exact LeO.refl _)
      | (with_reducible exact LeO.none _)
      | (with_reducible refine LeO.ite ?_ ?_)
      | (with_reducible refine LeO.bind ?_ (fun _ => ?_))
      | exact ih0 _ _ _
      | exact lamplighterref19_Bytes.mono _ _
      | exact trace_Bytes.mono _ _
      | exact LeO.none _
      | refine LeO.ite ?_ ?_
      | refine LeO.bind ?_ (fun _ => ?_)
theorem lamplighterlaw19_TraceBytes.mono : ∀ a0 a1 k, LeO (lamplighterlaw19_TraceBytes.f k a0 a1) (lamplighterlaw19_TraceBytes.f (k + 1) a0 a1) := by
  intro a0 a1 k
  have ih0 := lamplighterlaw19_TraceBytes.mono_l k
  unfold lamplighterlaw19_TraceBytes.f
  repeat' first
      | (with_reducible exact ih0 _ _ _)
      | (with_reducible exact lamplighterref19_Bytes.mono _ _)
      | (with_reducible exact trace_Bytes.mono _ _)
      | (with_reducible exact LeO.refl _)
      | (with_reducible exact LeO.none _)
      | (with_reducible refine LeO.ite ?_ ?_)
      | (with_reducible refine LeO.bind ?_ (fun _ => ?_))
      | exact ih0 _ _ _
      | exact lamplighterref19_Bytes.mono _ _
      | exact trace_Bytes.mono _ _
      | exact LeO.none _
      | refine LeO.ite ?_ ?_
      | refine LeO.bind ?_ (fun _ => ?_)
set_option maxHeartbeats 8000000 in
set_option maxRecDepth 100000 in
theorem lamplighterlaw19_TraceBytes.calls (k : Nat) (A0 : Option Addr) (c0 : Nat) (l0 : List Int) (a1 : ByteArray) (r : Bool) (w : World) (hr0 : Kd.C (Kd.int .u8) w A0 l0.length l0) (hc0 : l0.length ≤ c0) (h : lamplighterlaw19_TraceBytes.f k l0 a1 = some r) (hrt : r = true) (hGT : GlobT w) :
    Calls Tryd.prog 3 #[.slice A0 l0.length c0, .string a1] w fun e w' => e = .returned (.bool r) ∧ Below w.heap.size w w' := by
  have HGLOT := Lib.hid hGT
  clear hGT
  have HR0 := Aside0.mk hr0
  have HC0 := Aside0.mk hc0
  clear hr0 hc0
  have HB := Aside0.mk (Below.refl w.heap.size w)
  have H : (if (l0.length : Int) > 1500 then (lamplighterlaw19_TraceBytes.j0 k l0 a1 true) else (lamplighterlaw19_TraceBytes.j0 k l0 a1 (decide ((a1.size : Int) > 1500)))) = some r := h
  clear h
  have HC3 := Aside0.mk H
  clear H
  go_enter Tryd.func3, Tryd.ntmps3
  go_upto_region 1 with (fail)
  go_cut [19] (fun v19 wc => ∃ (kq : Nat) (x19_2 : Bool), v19 = .bool x19_2 ∧ Aside0 (lamplighterlaw19_TraceBytes.j0 kq l0 a1 x19_2 = some r) ∧ Aside0 (kq ≤ k) ∧ Aside0 (Below w.heap.size w wc))
  case first =>
    have H := HC3.out
    clear HC3
    by_cases c4 : (l0.length : Int) > 1500
    · rw [if_pos c4] at H
      have c4b0 : decide (1500 < (l0.length : Int)) = true := decide_eq_true c4
      have c4b1 : decide (1500 < l0.length) = true := decide_eq_true (by omega)
      clear c4
      (first | rw [c4b0] | (simp only [i64_w, i32_w]; rw [c4b0]) | skip)
      have H' := Aside0.mk H
      clear H
      go_wp2
      go_meet
      case rel => exact ⟨_, (true), (by first | rfl | (simp; done) | (simp [*]; done)), H', ⟨by first | omega | exact Nat.le_refl _⟩, ⟨by repeat (first | (with_reducible first | exact HB.out | apply below_alloc | apply pw_below_drewN | apply below_drew1) | exact HB.out)⟩⟩
    · rw [if_neg c4] at H
      have c4b0 : decide (1500 < (l0.length : Int)) = false := decide_eq_false c4
      have c4b1 : decide (1500 < l0.length) = false := decide_eq_false (by omega)
      clear c4
      (first | rw [c4b0] | (simp only [i64_w, i32_w]; rw [c4b0]) | skip)
      have H' := Aside0.mk H
      clear H
      go_wp2
      go_meet
      case rel => exact ⟨_, (decide ((a1.size : Int) > 1500)), (by first | rfl | (simp; done) | (simp [*]; done)), H', ⟨by first | omega | exact Nat.le_refl _⟩, ⟨by repeat (first | (with_reducible first | exact HB.out | apply below_alloc | apply pw_below_drewN | apply below_drew1) | exact HB.out)⟩⟩
  case rest =>
    clear HC3
    try clear p2
    try clear c3
    try clear c4
    try clear c4b0
    try clear c4b1
    obtain ⟨kq, x19_2, rfl, HA, HJ2, HB⟩ := hcut
    cases kq with
    | zero => exact absurd HA.out (by simp [lamplighterlaw19_TraceBytes.j0])
    | succ kj2 =>
      have H := HA.out
      clear HA
      simp only [lamplighterlaw19_TraceBytes.j0] at H
      by_cases c5 : x19_2 = true
      · subst c5
        have H1 : ((lamplighterlaw19_alive.f).bind fun t154 => (some t154)) = some r := by rw [if_pos rfl] at H; exact H
        clear H
        have H := H1
        clear H1
        replace H := Option.bind_eq_some_iff.mp H
        obtain ⟨t154, A60, H⟩ := H
        replace H : (some t154) = some r := H
        have A6 := Aside0.mk A60
        clear A60
        obtain rfl := Option.some.inj H
        clear hrt
        go_wp2_with (first | ((with_reducible refine gate_callee (f := 10) rfl ?_); refine goesL_ (some 20) rfl rfl Tryd.func10 (by kernel_rfl) rfl #[] rfl (by (try simp only [List.map_toArray, List.map_cons, List.map_nil]); first | done | rfl | (simp only [List.length_drop, List.length_take]; rfl)) ?_; (with_reducible refine (lamplighterlaw19_alive.calls  t154 _ A6.out (globt_below HGLOT.out (by repeat (first | (with_reducible first | exact HB.out | apply below_alloc | apply pw_below_drewN | apply below_drew1) | exact HB.out)))).mono ?_); rintro e w7 ⟨rfl, hb⟩; refine ⟨_, rfl, ?_⟩; have n0_ := Aside0.mk (below_step (by repeat (first | (with_reducible first | exact HB.out | apply below_alloc | apply pw_below_drewN | apply below_drew1) | exact HB.out)) hb); clear HB; have HB := n0_; clear n0_; (try clear hb); (try clear hb2); (try clear hk); (try clear hi)))
        go_ret
        exact ⟨by first | rfl | (simp [errW_none, errW_some] <;> rfl) | (simp [*, errW_none, errW_some] <;> rfl), by repeat (first | (with_reducible first | exact HB.out | apply below_alloc | apply pw_below_drewN | apply below_drew1) | exact HB.out)⟩
      · replace c5 := Bool.eq_false_iff.mpr c5
        subst c5
        have H1 : ((trace_Hex.f l0).bind fun t155 => ((trace_Bytes.f kj2 t155).bind fun bt156 => ((trace_Bytes.f kj2 a1).bind fun bt160 => ((lamplighterref19_Bytes.f kj2 a1).bind fun bt164 => ((lamplighterlaw19_alive.f).bind fun t168 => (if t168 = true then ((lamplighterref19_Hex.f l0).bind fun t169 => (if t155.toList = t169.toList then (if bt156.2 = true then (if (strOfNums bt156.1).toList = (strOfNums l0).toList then (if (strOfNums bt160.1).toList = (strOfNums bt164.1).toList then (some (bt160.2 == bt164.2)) else (some false)) else (some false)) else (some false)) else (some false))) else (some false))))))) = some r := by rw [if_neg (show ¬ (false = true) by decide)] at H; exact H
        clear H
        have H := H1
        clear H1
        replace H := Option.bind_eq_some_iff.mp H
        obtain ⟨t155, A80, H⟩ := H
        replace H : ((trace_Bytes.f kj2 t155).bind fun bt156 => ((trace_Bytes.f kj2 a1).bind fun bt160 => ((lamplighterref19_Bytes.f kj2 a1).bind fun bt164 => ((lamplighterlaw19_alive.f).bind fun t168 => (if t168 = true then ((lamplighterref19_Hex.f l0).bind fun t169 => (if t155.toList = t169.toList then (if bt156.2 = true then (if (strOfNums bt156.1).toList = (strOfNums l0).toList then (if (strOfNums bt160.1).toList = (strOfNums bt164.1).toList then (some (bt160.2 == bt164.2)) else (some false)) else (some false)) else (some false)) else (some false))) else (some false)))))) = some r := H
        have A8 := Aside0.mk A80
        clear A80
        replace H := Option.bind_eq_some_iff.mp H
        obtain ⟨⟨t156, t157⟩, A90, H⟩ := H
        replace H : ((trace_Bytes.f kj2 a1).bind fun bt160 => ((lamplighterref19_Bytes.f kj2 a1).bind fun bt164 => ((lamplighterlaw19_alive.f).bind fun t168 => (if t168 = true then ((lamplighterref19_Hex.f l0).bind fun t169 => (if t155.toList = t169.toList then (if t157 = true then (if (strOfNums t156).toList = (strOfNums l0).toList then (if (strOfNums bt160.1).toList = (strOfNums bt164.1).toList then (some (bt160.2 == bt164.2)) else (some false)) else (some false)) else (some false)) else (some false))) else (some false))))) = some r := H
        have A9 := Aside0.mk A90
        clear A90
        replace H := Option.bind_eq_some_iff.mp H
        obtain ⟨⟨t160, t161⟩, A100, H⟩ := H
        replace H : ((lamplighterref19_Bytes.f kj2 a1).bind fun bt164 => ((lamplighterlaw19_alive.f).bind fun t168 => (if t168 = true then ((lamplighterref19_Hex.f l0).bind fun t169 => (if t155.toList = t169.toList then (if t157 = true then (if (strOfNums t156).toList = (strOfNums l0).toList then (if (strOfNums t160).toList = (strOfNums bt164.1).toList then (some (t161 == bt164.2)) else (some false)) else (some false)) else (some false)) else (some false))) else (some false)))) = some r := H
        have A10 := Aside0.mk A100
        clear A100
        replace H := Option.bind_eq_some_iff.mp H
        obtain ⟨⟨t164, t165⟩, A110, H⟩ := H
        replace H : ((lamplighterlaw19_alive.f).bind fun t168 => (if t168 = true then ((lamplighterref19_Hex.f l0).bind fun t169 => (if t155.toList = t169.toList then (if t157 = true then (if (strOfNums t156).toList = (strOfNums l0).toList then (if (strOfNums t160).toList = (strOfNums t164).toList then (some (t161 == t165)) else (some false)) else (some false)) else (some false)) else (some false))) else (some false))) = some r := H
        have A11 := Aside0.mk A110
        clear A110
        replace H := Option.bind_eq_some_iff.mp H
        obtain ⟨t168, A120, H⟩ := H
        replace H : (if t168 = true then ((lamplighterref19_Hex.f l0).bind fun t169 => (if t155.toList = t169.toList then (if t157 = true then (if (strOfNums t156).toList = (strOfNums l0).toList then (if (strOfNums t160).toList = (strOfNums t164).toList then (some (t161 == t165)) else (some false)) else (some false)) else (some false)) else (some false))) else (some false)) = some r := H
        have A12 := Aside0.mk A120
        clear A120
        by_cases c13 : t168 = true
        · subst c13
          have H1 : ((lamplighterref19_Hex.f l0).bind fun t169 => (if t155.toList = t169.toList then (if t157 = true then (if (strOfNums t156).toList = (strOfNums l0).toList then (if (strOfNums t160).toList = (strOfNums t164).toList then (some (t161 == t165)) else (some false)) else (some false)) else (some false)) else (some false))) = some r := by rw [if_pos rfl] at H; exact H
          clear H
          have H := H1
          clear H1
          replace H := Option.bind_eq_some_iff.mp H
          obtain ⟨t169, A140, H⟩ := H
          replace H : (if t155.toList = t169.toList then (if t157 = true then (if (strOfNums t156).toList = (strOfNums l0).toList then (if (strOfNums t160).toList = (strOfNums t164).toList then (some (t161 == t165)) else (some false)) else (some false)) else (some false)) else (some false)) = some r := H
          have A14 := Aside0.mk A140
          clear A140
          by_cases c15 : t155.toList = t169.toList
          · rw [if_pos c15] at H
            have c15b0 : (t155.toList == t169.toList) = true := beq_iff_eq.mpr c15
            have c15b1 : (t155.toList != t169.toList) = false := bne_eq_false_iff_eq.mpr c15
            clear c15
            by_cases c16 : t157 = true
            · subst c16
              have H1 : (if (strOfNums t156).toList = (strOfNums l0).toList then (if (strOfNums t160).toList = (strOfNums t164).toList then (some (t161 == t165)) else (some false)) else (some false)) = some r := by rw [if_pos rfl] at H; exact H
              clear H
              have H := H1
              clear H1
              by_cases c17 : (strOfNums t156).toList = (strOfNums l0).toList
              · rw [if_pos c17] at H
                have c17b0 : ((strOfNums t156).toList == (strOfNums l0).toList) = true := beq_iff_eq.mpr c17
                have c17b1 : ((strOfNums t156).toList != (strOfNums l0).toList) = false := bne_eq_false_iff_eq.mpr c17
                clear c17
                by_cases c18 : (strOfNums t160).toList = (strOfNums t164).toList
                · rw [if_pos c18] at H
                  have c18b0 : ((strOfNums t160).toList == (strOfNums t164).toList) = true := beq_iff_eq.mpr c18
                  have c18b1 : ((strOfNums t160).toList != (strOfNums t164).toList) = false := bne_eq_false_iff_eq.mpr c18
                  clear c18
                  obtain rfl := Option.some.inj H
                  clear hrt
                  go_wp2_with (first | ((with_reducible refine gate_callee (f := 11) rfl ?_); refine goesL_ (some 22) rfl rfl Tryd.func11 (by kernel_rfl) rfl #[.slice A0 l0.length c0] rfl (by (try simp only [List.map_toArray, List.map_cons, List.map_nil]); first | done | rfl | (simp only [List.length_drop, List.length_take]; rfl)) ?_; (with_reducible refine (trace_Hex.calls _ _ l0 t155 _ ?side1 ?side2 A8.out).mono ?_); (case side1 => repeat (first | exact (Kd.C_below HR0.out HB.out) | (with_reducible refine Kd.C_alloc ?_ _) | (with_reducible refine Kd.C_drewN ?_ _) | (with_reducible refine Kd.C_drew ?_))); (case side2 => exact HC0.out); rintro e w19 ⟨rfl, hb⟩; refine ⟨_, rfl, ?_⟩; have n0_ := Aside0.mk (below_step (by repeat (first | (with_reducible first | exact HB.out | apply below_alloc | apply pw_below_drewN | apply below_drew1) | exact HB.out)) hb); clear HB; have HB := n0_; clear n0_; (try clear hb); (try clear hb2); (try clear hk); (try clear hi)) | ((with_reducible refine gate_callee (f := 12) rfl ?_); refine goesL_ (some 25) rfl rfl Tryd.func12 (by kernel_rfl) rfl #[.string t155] rfl (by (try simp only [List.map_toArray, List.map_cons, List.map_nil]); first | done | rfl | (simp only [List.length_drop, List.length_take]; rfl)) ?_; (with_reducible refine (trace_Bytes.calls kj2 t155 t156 true _ A9.out).mono ?_); rintro e w20 ⟨v158, rfl, ho0, hb⟩; refine ⟨_, rfl, ?_⟩; have n0_ := Aside0.mk (Kd.R_lower ho0 (below_size (by repeat (first | (with_reducible first | exact HB.out | apply below_alloc | apply pw_below_drewN | apply below_drew1) | exact HB.out)))); have n1_ := Aside0.mk (below_step (by repeat (first | (with_reducible first | exact HB.out | apply below_alloc | apply pw_below_drewN | apply below_drew1) | exact HB.out)) hb); clear HB; have HO159 := n0_; have HB := n1_; clear n0_ n1_; (try clear hb); (try clear hb2); (try clear hk); (try clear hi); (try clear ho0)) | ((with_reducible refine gate_callee (f := 12) rfl ?_); refine goesL_ (some 30) rfl rfl Tryd.func12 (by kernel_rfl) rfl #[.string a1] rfl (by (try simp only [List.map_toArray, List.map_cons, List.map_nil]); first | done | rfl | (simp only [List.length_drop, List.length_take]; rfl)) ?_; (with_reducible refine (trace_Bytes.calls kj2 a1 t160 t161 _ A10.out).mono ?_); rintro e w21 ⟨v162, rfl, ho0, hb⟩; refine ⟨_, rfl, ?_⟩; have n0_ := Aside0.mk (Kd.R_elder' (by (with_reducible repeat (first | apply Kd.R_alloc | apply Kd.R_drewN | apply Kd.R_drew)); exact HO159.out) (Kd.R_base ho0) hb); have n1_ := Aside0.mk (Kd.R_lower (Kd.R_new' ho0 (Kd.R_lt (by (with_reducible repeat (first | apply Kd.R_alloc | apply Kd.R_drewN | apply Kd.R_drew)); exact HO159.out))) (below_size (by repeat (first | (with_reducible first | exact HB.out | apply below_alloc | apply pw_below_drewN | apply below_drew1) | exact HB.out)))); have n2_ := Aside0.mk (below_step (by repeat (first | (with_reducible first | exact HB.out | apply below_alloc | apply pw_below_drewN | apply below_drew1) | exact HB.out)) hb); clear HO159; clear HB; have HO159 := n0_; have HO163 := n1_; have HB := n2_; clear n0_ n1_ n2_; (try clear hb); (try clear hb2); (try clear hk); (try clear hi); (try clear ho0)) | ((with_reducible refine gate_callee (f := 13) rfl ?_); refine goesL_ (some 35) rfl rfl Tryd.func13 (by kernel_rfl) rfl #[.string a1] rfl (by (try simp only [List.map_toArray, List.map_cons, List.map_nil]); first | done | rfl | (simp only [List.length_drop, List.length_take]; rfl)) ?_; (with_reducible refine (lamplighterref19_Bytes.calls kj2 a1 t164 t165 _ A11.out).mono ?_); rintro e w22 ⟨v166, rfl, ho0, hb⟩; refine ⟨_, rfl, ?_⟩; have n0_ := Aside0.mk (Kd.R_elder' (by (with_reducible repeat (first | apply Kd.R_alloc | apply Kd.R_drewN | apply Kd.R_drew)); exact HO159.out) (Kd.R_base ho0) hb); have n1_ := Aside0.mk (Kd.R_elder' (by (with_reducible repeat (first | apply Kd.R_alloc | apply Kd.R_drewN | apply Kd.R_drew)); exact HO163.out) (Kd.R_base ho0) hb); have n2_ := Aside0.mk (Kd.R_lower (Kd.R_new' (Kd.R_new' ho0 (Kd.R_lt (by (with_reducible repeat (first | apply Kd.R_alloc | apply Kd.R_drewN | apply Kd.R_drew)); exact HO159.out))) (Kd.R_lt (by (with_reducible repeat (first | apply Kd.R_alloc | apply Kd.R_drewN | apply Kd.R_drew)); exact HO163.out))) (below_size (by repeat (first | (with_reducible first | exact HB.out | apply below_alloc | apply pw_below_drewN | apply below_drew1) | exact HB.out)))); have n3_ := Aside0.mk (below_step (by repeat (first | (with_reducible first | exact HB.out | apply below_alloc | apply pw_below_drewN | apply below_drew1) | exact HB.out)) hb); clear HO159; clear HO163; clear HB; have HO159 := n0_; have HO163 := n1_; have HO167 := n2_; have HB := n3_; clear n0_ n1_ n2_ n3_; (try clear hb); (try clear hb2); (try clear hk); (try clear hi); (try clear ho0)) | ((with_reducible refine gate_callee (f := 10) rfl ?_); refine goesL_ (some 38) rfl rfl Tryd.func10 (by kernel_rfl) rfl #[] rfl (by (try simp only [List.map_toArray, List.map_cons, List.map_nil]); first | done | rfl | (simp only [List.length_drop, List.length_take]; rfl)) ?_; (with_reducible refine (lamplighterlaw19_alive.calls  true _ A12.out (globt_below HGLOT.out (by repeat (first | (with_reducible first | exact HB.out | apply below_alloc | apply pw_below_drewN | apply below_drew1) | exact HB.out)))).mono ?_); rintro e w23 ⟨rfl, hb⟩; refine ⟨_, rfl, ?_⟩; have n0_ := Aside0.mk (Kd.R_below (by (with_reducible repeat (first | apply Kd.R_alloc | apply Kd.R_drewN | apply Kd.R_drew)); exact HO159.out) hb); have n1_ := Aside0.mk (Kd.R_below (by (with_reducible repeat (first | apply Kd.R_alloc | apply Kd.R_drewN | apply Kd.R_drew)); exact HO163.out) hb); have n2_ := Aside0.mk (Kd.R_below (by (with_reducible repeat (first | apply Kd.R_alloc | apply Kd.R_drewN | apply Kd.R_drew)); exact HO167.out) hb); have n3_ := Aside0.mk (below_step (by repeat (first | (with_reducible first | exact HB.out | apply below_alloc | apply pw_below_drewN | apply below_drew1) | exact HB.out)) hb); clear HO159; clear HO163; clear HO167; clear HB; have HO159 := n0_; have HO163 := n1_; have HO167 := n2_; have HB := n3_; clear n0_ n1_ n2_ n3_; (try clear hb); (try clear hb2); (try clear hk); (try clear hi)) | (go_at_call 14; (with_reducible refine (lamplighterref19_Hex.calls _ _ l0 t169 _ ?side1 ?side2 A14.out).mono ?_); (case side1 => repeat (first | exact (Kd.C_below HR0.out HB.out) | (with_reducible refine Kd.C_alloc ?_ _) | (with_reducible refine Kd.C_drewN ?_ _) | (with_reducible refine Kd.C_drew ?_))); (case side2 => exact HC0.out); rintro e w24 ⟨rfl, hb⟩; have n0_ := Aside0.mk (Kd.R_below (by (with_reducible repeat (first | apply Kd.R_alloc | apply Kd.R_drewN | apply Kd.R_drew)); exact HO159.out) hb); have n1_ := Aside0.mk (Kd.R_below (by (with_reducible repeat (first | apply Kd.R_alloc | apply Kd.R_drewN | apply Kd.R_drew)); exact HO163.out) hb); have n2_ := Aside0.mk (Kd.R_below (by (with_reducible repeat (first | apply Kd.R_alloc | apply Kd.R_drewN | apply Kd.R_drew)); exact HO167.out) hb); have n3_ := Aside0.mk (below_step (by repeat (first | (with_reducible first | exact HB.out | apply below_alloc | apply pw_below_drewN | apply below_drew1) | exact HB.out)) hb); clear HO159; clear HO163; clear HO167; clear HB; have HO159 := n0_; have HO163 := n1_; have HO167 := n2_; have HB := n3_; clear n0_ n1_ n2_ n3_; (try clear hb); (try clear hb2); (try clear hk); (try clear hi); have hcv25 := own_string (P := Tryd.prog) Tryd.underlying22 Tryd.underlying5 Tryd.underlying9 (Kd.own_of_R HO159.out); have hcv26 := Kd.C_string (P := Tryd.prog) (A := A0) (c := c0) Tryd.underlying22 Tryd.underlying5 Tryd.underlying9 (Kd.C_below HR0.out HB.out); have hcv27 := own_string (P := Tryd.prog) Tryd.underlying22 Tryd.underlying5 Tryd.underlying9 (Kd.own_of_R HO163.out); have hcv28 := own_string (P := Tryd.prog) Tryd.underlying22 Tryd.underlying5 Tryd.underlying9 (Kd.own_of_R HO167.out)))
                  go_ret
                  exact ⟨by first | rfl | (simp [errW_none, errW_some] <;> rfl) | (simp [*, errW_none, errW_some] <;> rfl), by repeat (first | (with_reducible first | exact HB.out | apply below_alloc | apply pw_below_drewN | apply below_drew1) | exact HB.out)⟩
                · rw [if_neg c18] at H
                  have c18b0 : ((strOfNums t160).toList == (strOfNums t164).toList) = false := beq_eq_false_iff_ne.mpr c18
                  have c18b1 : ((strOfNums t160).toList != (strOfNums t164).toList) = true := bne_iff_ne.mpr c18
                  obtain rfl := Option.some.inj H
                  cases hrt
              · rw [if_neg c17] at H
                have c17b0 : ((strOfNums t156).toList == (strOfNums l0).toList) = false := beq_eq_false_iff_ne.mpr c17
                have c17b1 : ((strOfNums t156).toList != (strOfNums l0).toList) = true := bne_iff_ne.mpr c17
                obtain rfl := Option.some.inj H
                cases hrt
            · replace c16 := Bool.eq_false_iff.mpr c16
              subst c16
              have H1 : (some false) = some r := by rw [if_neg (show ¬ (false = true) by decide)] at H; exact H
              clear H
              have H := H1
              clear H1
              obtain rfl := Option.some.inj H
              cases hrt
          · rw [if_neg c15] at H
            have c15b0 : (t155.toList == t169.toList) = false := beq_eq_false_iff_ne.mpr c15
            have c15b1 : (t155.toList != t169.toList) = true := bne_iff_ne.mpr c15
            obtain rfl := Option.some.inj H
            cases hrt
        · replace c13 := Bool.eq_false_iff.mpr c13
          subst c13
          have H1 : (some false) = some r := by rw [if_neg (show ¬ (false = true) by decide)] at H; exact H
          clear H
          have H := H1
          clear H1
          obtain rfl := Option.some.inj H
          cases hrt

end Go.Proofs.YtoloooammaiipaaDoor.PJ
/- What trace.Bytes and the reference's give, in plain words: the bytes that pairs of digits tell, or none; conditions: at most a million bytes. -/
namespace Go.Proofs.YtoloooammaiipaaDoor.J
open Go Go.RowKit Go.Proofs.YtoloooammaiipaaDoor Go.Proofs.YtoloooammaiipaaDoor.PJ Go.Proofs.YtoloooammaiipaaDoorW.PrintWords Go.Proofs.YtoloooammaiipaaDoorW.PrintLast
set_option linter.unusedVariables false
/-- What a text tells of bytes. -/
def bytesO (s : List UInt8) : Option (List Int) := if s = [45] then some [] else if s = [] then none else unhex s
def pairO : Option (List Int) → List Int × Bool
  | some l => (l, true)
  | none => ([], false)
theorem unhex_odd : ∀ (n : Nat) (l : List UInt8), l.length = n → n % 2 = 1 → unhex l = none
  | 0, _, _, h => by omega
  | 1, l, hl, _ => by
    match l, hl with
    | [_], _ => rfl
  | n + 2, l, hl, h => by
    match l, hl with
    | a :: b :: r, hl =>
      have := unhex_odd n r (by simpa using hl) (by omega)
      unfold unhex
      rw [this]
      split <;> rename_i h1 h2 h3
      · cases h3
      · rfl
theorem digit_index : ∀ c : Fin 256, Lib.indexByte [48, 49, 50, 51, 52, 53, 54, 55, 56, 57, 97, 98, 99, 100, 101, 102] (UInt8.ofNat c.1) = (match hexN (UInt8.ofNat c.1) with | some n => (n : Int) | none => -1) := by decide +kernel
theorem hexN_lt {c : UInt8} {n : Nat} (h : hexN c = some n) : n < 16 := by
  unfold hexN at h
  split at h
  · obtain rfl := Option.some.inj h; omega
  · split at h
    · obtain rfl := Option.some.inj h; omega
    · cases h
theorem or_lo : ∀ a b : Fin 16, Go.bits .or .u8 ((((Go.bits .or .u8 ((0 * 16) % 256) ((a.1 : Int) % 256)) : Int) * 16) % 256) ((b.1 : Int) % 256) = ((16 * a.1 + b.1 : Nat) : Int) := by decide +kernel
theorem byte_of {s : ByteArray} {i : Nat} (h : i < s.size) : bt s (i : Int) = ((s.data.toList[i]'(by rw [len_size]; exact h)).toNat : Int) := by
  unfold bt
  rw [dif_pos (by simpa using h)]
  rfl
theorem index_is {s : ByteArray} {i : Nat} (h : i < s.size) : strings_IndexByte.f (⟨#[48, 49, 50, 51, 52, 53, 54, 55, 56, 57, 97, 98, 99, 100, 101, 102]⟩ : ByteArray) (bt s (i : Int)) = some (match hexN (s.data.toList[i]'(by rw [len_size]; exact h)) with | some n => (n : Int) | none => -1) := by
  have hl : i < s.data.toList.length := by rw [len_size]; exact h
  have e := digit_index ⟨(s.data.toList[i]'hl).toNat, UInt8.toNat_lt _⟩
  unfold strings_IndexByte.f stringslite_IndexByte.f
  rw [byte_of h, Int.toNat_natCast, Option.bind_some]
  congr 1
  simp only [UInt8.ofNat_toNat] at e
  show Lib.indexByte [48, 49, 50, 51, 52, 53, 54, 55, 56, 57, 97, 98, 99, 100, 101, 102] (UInt8.ofNat (s.data.toList[i]'hl).toNat) = _
  rw [UInt8.ofNat_toNat]
  exact e
theorem unhex_n1 {a b : UInt8} {r : List UInt8} (h : hexN a = none) : unhex (a :: b :: r) = none := by
  unfold unhex
  rw [h]
theorem unhex_n2 {a b : UInt8} {r : List UInt8} (h : hexN b = none) : unhex (a :: b :: r) = none := by
  unfold unhex
  rw [h]
  cases hexN a <;> rfl
theorem unhex_s {a b : UInt8} {r : List UInt8} {x y : Nat} (h : hexN a = some x) (h' : hexN b = some y) : unhex (a :: b :: r) = (unhex r).map (((16 * x + y : Nat) : Int) :: ·) := by
  conv => lhs; unfold unhex
  rw [h, h']
  cases unhex r <;> rfl
theorem wrap_nat {n : Nat} (h : n ≤ 4000000000) : wrap64 (n : Int) = (n : Int) := wrap_fit (by omega) (by omega)
theorem half_even (j : Nat) (h : j ≤ 1000000) : wrap64 (Int.tdiv ((2 * j : Nat) : Int) 2) = (j : Int) := by
  have e : Int.tdiv ((2 * j : Nat) : Int) 2 = (j : Int) := by rw [Int.tdiv_eq_ediv_of_nonneg (by omega)]; omega
  rw [e, wrap_nat (by omega)]
theorem half_odd (j : Nat) (h : j ≤ 1000000) : wrap64 (Int.tdiv ((2 * j + 1 : Nat) : Int) 2) = (j : Int) := by
  have e : Int.tdiv ((2 * j + 1 : Nat) : Int) 2 = (j : Int) := by rw [Int.tdiv_eq_ediv_of_nonneg (by omega)]; omega
  rw [e, wrap_nat (by omega)]
theorem rd_mid (pre : List Int) (x : Int) (r : List Int) : rd (pre ++ x :: r) (pre.length : Int) = x := by
  unfold rd
  rw [Int.toNat_natCast, List.getD_eq_getElem?_getD, List.getElem?_append_right (Nat.le_refl _)]
  simp
theorem set_mid (pre : List Int) (x y : Int) (r : List Int) : (pre ++ x :: r).set ((pre.length : Int)).toNat y = pre ++ y :: r := by
  rw [Int.toNat_natCast, List.set_append_right _ _ (Nat.le_refl _)]
  simp
theorem bytes_loop (s : ByteArray) (hs : s.size ≤ 1000000) (m : Nat) (hm : s.size = 2 * m) : ∀ (d : Nat) (pre : List Int), pre.length + d = m → ∀ k, 2 * d < k →
    trace_Bytes.l0 k s (pre ++ List.replicate d 0) (s.size : Int) ((2 * pre.length : Nat) : Int) = some (pairO ((unhex (s.data.toList.drop (2 * pre.length))).map (pre ++ ·)))
  | 0, pre, hd, k, hk => by
    obtain ⟨k, rfl⟩ : ∃ j, k = j + 1 := ⟨k - 1, by omega⟩
    have hl := len_size s
    unfold trace_Bytes.l0
    rw [if_neg (by omega), List.drop_of_length_le (by omega)]
    simp [unhex, pairO]
  | d + 1, pre, hd, k, hk => by
    obtain ⟨k, rfl⟩ : ∃ j, k = j + 2 := ⟨k - 2, by omega⟩
    have hl := len_size s
    have i0 : 2 * pre.length < s.size := by omega
    have i1 : 2 * pre.length + 1 < s.size := by omega
    have l0 : 2 * pre.length < s.data.toList.length := by omega
    have l1 : 2 * pre.length + 1 < s.data.toList.length := by omega
    have ed : s.data.toList.drop (2 * pre.length) = s.data.toList[2 * pre.length] :: s.data.toList[2 * pre.length + 1] :: s.data.toList.drop (2 * (pre.length + 1)) := by
      rw [List.drop_eq_getElem_cons l0, List.drop_eq_getElem_cons l1, show 2 * pre.length + 1 + 1 = 2 * (pre.length + 1) by omega]
    have hrep : List.replicate (d + 1) (0 : Int) = 0 :: List.replicate d 0 := rfl
    have hlen : ((pre ++ List.replicate (d + 1) (0 : Int)).length : Int) = ((pre.length + (d + 1) : Nat) : Int) := by simp
    have q1 : ((2 * pre.length : Nat) : Int) < (s.size : Int) := by omega
    have q2 : (0 : Int) ≤ ((2 * pre.length : Nat) : Int) := by omega
    have hp : pre.length ≤ 1000000 := by omega
    rw [ed]
    unfold trace_Bytes.l0
    rw [if_pos q1, if_pos q2, if_pos q1, index_is i0, Option.bind_some]
    cases h0 : hexN (s.data.toList[2 * pre.length]) with
    | none =>
      simp only
      rw [if_pos (by decide), unhex_n1 h0]
      rfl
    | some x =>
      have hx := hexN_lt h0
      simp only
      rw [if_neg (by omega), half_even _ hp, if_pos (by omega), if_pos (by rw [hlen]; omega), hrep, rd_mid, set_mid]
      have ew : wrap64 (((2 * pre.length : Nat) : Int) + 1) = ((2 * pre.length + 1 : Nat) : Int) := by rw [wrap_fit (by omega) (by omega)]; rfl
      rw [ew]
      unfold trace_Bytes.l0
      have q3 : ((2 * pre.length + 1 : Nat) : Int) < (s.size : Int) := by omega
      have q4 : (0 : Int) ≤ ((2 * pre.length + 1 : Nat) : Int) := by omega
      rw [if_pos q3, if_pos q4, if_pos q3, index_is i1, Option.bind_some]
      cases h1 : hexN (s.data.toList[2 * pre.length + 1]) with
      | none =>
        simp only
        rw [if_pos (by decide), unhex_n2 h1]
        rfl
      | some y =>
        have hy := hexN_lt h1
        have hlen2 : ∀ z : Int, ((pre ++ z :: List.replicate d (0 : Int)).length : Int) = ((pre.length + (d + 1) : Nat) : Int) := fun z => by simp
        simp only
        rw [if_neg (by omega), half_odd _ hp, if_pos (by omega), if_pos (by rw [hlen2]; omega), rd_mid, set_mid]
        have eo := or_lo ⟨x, hx⟩ ⟨y, hy⟩
        simp only at eo
        rw [eo]
        have ew2 : wrap64 (((2 * pre.length + 1 : Nat) : Int) + 1) = ((2 * (pre ++ [((16 * x + y : Nat) : Int)]).length : Nat) : Int) := by
          rw [wrap_fit (by omega) (by omega)]
          simp
          omega
        rw [ew2]
        have ih := bytes_loop s hs m hm d (pre ++ [((16 * x + y : Nat) : Int)]) (by simp; omega) k (by omega)
        have ea : pre ++ ((16 * x + y : Nat) : Int) :: List.replicate d 0 = (pre ++ [((16 * x + y : Nat) : Int)]) ++ List.replicate d 0 := by simp
        rw [ea, ih]
        have el : (pre ++ [((16 * x + y : Nat) : Int)]).length = pre.length + 1 := by simp
        rw [el]
        rw [unhex_s h0 h1]
        cases unhex (s.data.toList.drop (2 * (pre.length + 1))) with
        | none => rfl
        | some r => simp [pairO]
theorem odd_bit : ∀ n : Nat, n ≤ 1000000 → (decide ((Go.bits .and .i64 (n : Int) 1) > 0)) = decide (n % 2 = 1) := fun n h => by
  have e : Go.bits .and .i64 (n : Int) 1 = ((n % 2 : Nat) : Int) := by
    exact Go.Proofs.and_one n (by omega)
  rw [e]
  apply decide_eq_decide.2
  omega
theorem bytes_is (s : ByteArray) (hs : s.size ≤ 1000000) (k : Nat) (hk : s.size + 2 ≤ k) : trace_Bytes.f k s = some (pairO (bytesO s.data.toList)) := by
  obtain ⟨k, rfl⟩ : ∃ j, k = j + 1 := ⟨k - 1, by omega⟩
  have hl := len_size s
  unfold trace_Bytes.f bytesO
  rw [Lib.toList_data]
  by_cases h1 : s.data.toList = [45]
  · rw [if_pos h1, if_pos h1]
    rfl
  rw [if_neg h1, if_neg h1]
  by_cases h2 : s.data.toList = []
  · rw [if_pos h2, if_pos h2]
    rw [trace_Bytes.j0]
    rw [if_pos rfl]
    rfl
  rw [if_neg h2, if_neg h2, odd_bit _ hs]
  rw [trace_Bytes.j0]
  by_cases h3 : s.size % 2 = 1
  · rw [if_pos (by simpa using h3), unhex_odd _ _ hl h3]
    rfl
  · obtain ⟨m, hm⟩ : ∃ m, s.size = 2 * m := ⟨s.size / 2, by omega⟩
    have e : wrap64 ((s.size : Int) / 2) = (m : Int) := by rw [wrap_fit (by omega) (by omega)]; omega
    rw [if_neg (by simpa using h3), e, if_pos (by omega), if_pos (by omega), Int.toNat_natCast]
    have := bytes_loop s hs m hm m [] (by simp) k (by omega)
    simp only [List.nil_append, List.length_nil, Nat.mul_zero, List.drop_zero] at this
    rw [show ((0 : Nat) : Int) = 0 from rfl] at this
    rw [this]
    cases unhex s.data.toList <;> rfl
theorem value_all : ∀ c : Fin 256, lamplighterref19_value.f 1 ((UInt8.ofNat c.1).toNat : Int) = some (match hexN (UInt8.ofNat c.1) with | some n => (n : Int) | none => -1) := by decide +kernel
theorem value_is (k : Nat) (c : UInt8) : lamplighterref19_value.f (k + 1) (c.toNat : Int) = some (match hexN c with | some n => (n : Int) | none => -1) := by
  have e : lamplighterref19_value.f (k + 1) (c.toNat : Int) = lamplighterref19_value.f 1 (c.toNat : Int) := rfl
  have h := value_all ⟨c.toNat, UInt8.toNat_lt c⟩
  simp only [UInt8.ofNat_toNat] at h
  rw [e, h]
theorem refbytes_loop (s : ByteArray) (hs : s.size ≤ 1000000) (m : Nat) (hm : s.size = 2 * m) : ∀ (d : Nat) (pre : List Int), pre.length + d = m → ∀ k, d + 1 < k →
    lamplighterref19_Bytes.l0 k s pre ((2 * pre.length : Nat) : Int) = some (pairO ((unhex (s.data.toList.drop (2 * pre.length))).map (pre ++ ·)))
  | 0, pre, hd, k, hk => by
    obtain ⟨k, rfl⟩ : ∃ j, k = j + 1 := ⟨k - 1, by omega⟩
    have hl := len_size s
    unfold lamplighterref19_Bytes.l0
    rw [if_neg (by omega), List.drop_of_length_le (by omega)]
    simp [unhex, pairO]
  | d + 1, pre, hd, k, hk => by
    obtain ⟨k, rfl⟩ : ∃ j, k = j + 2 := ⟨k - 2, by omega⟩
    have hl := len_size s
    have i0 : 2 * pre.length < s.size := by omega
    have i1 : 2 * pre.length + 1 < s.size := by omega
    have l0 : 2 * pre.length < s.data.toList.length := by omega
    have l1 : 2 * pre.length + 1 < s.data.toList.length := by omega
    have ed : s.data.toList.drop (2 * pre.length) = s.data.toList[2 * pre.length] :: s.data.toList[2 * pre.length + 1] :: s.data.toList.drop (2 * (pre.length + 1)) := by
      rw [List.drop_eq_getElem_cons l0, List.drop_eq_getElem_cons l1, show 2 * pre.length + 1 + 1 = 2 * (pre.length + 1) by omega]
    have ew : wrap64 (((2 * pre.length : Nat) : Int) + 1) = ((2 * pre.length + 1 : Nat) : Int) := by rw [wrap_fit (by omega) (by omega)]; rfl
    rw [ed]
    unfold lamplighterref19_Bytes.l0
    rw [if_pos (by omega), if_pos (by omega), byte_of i0, value_is, Option.bind_some, ew, if_pos (by omega), if_pos (by omega), byte_of i1, value_is, Option.bind_some]
    cases h0 : hexN (s.data.toList[2 * pre.length]) with
    | none =>
      simp only
      rw [if_pos (by decide), unhex_n1 h0]
      rfl
    | some x =>
      have hx := hexN_lt h0
      simp only
      rw [if_neg (by omega)]
      cases h1 : hexN (s.data.toList[2 * pre.length + 1]) with
      | none =>
        simp only
        rw [if_pos (by decide), unhex_n2 h1]
        rfl
      | some y =>
        have hy := hexN_lt h1
        simp only
        have ev : (wrap64 ((wrap64 (16 * (x : Int))) + (y : Int))) % 256 = ((16 * x + y : Nat) : Int) := by
          have w1 : wrap64 (16 * (x : Int)) = 16 * (x : Int) := wrap_fit (by omega) (by omega)
          rw [w1, wrap_fit (by omega) (by omega)]
          omega
        have ew2 : wrap64 (((2 * pre.length : Nat) : Int) + 2) = ((2 * (pre ++ [((16 * x + y : Nat) : Int)]).length : Nat) : Int) := by
          rw [wrap_fit (by omega) (by omega)]
          simp
          omega
        have g2 : ¬ (y : Int) < 0 := Int.not_lt.2 (Int.natCast_nonneg y)
        have g3 : pre.length < 140737488355328 := Nat.lt_of_lt_of_le (show pre.length < 1000001 from Nat.lt_of_le_of_lt (Nat.le_trans (Nat.le_add_right _ _) (Nat.le_of_eq hd)) (show m < 1000001 from Nat.lt_of_le_of_lt (Nat.le_trans (Nat.le_mul_of_pos_left m (by decide : 0 < 2)) (Nat.le_of_eq hm.symm)) (Nat.lt_succ_of_le hs))) (by decide)
        rw [if_neg g2, if_pos g3, ev, ew2]
        have ih := refbytes_loop s hs m hm d (pre ++ [((16 * x + y : Nat) : Int)]) (by clear ew ew2 ev; simp; omega) (k + 1) (by clear ew ew2 ev; omega)
        rw [ih]
        have el : (pre ++ [((16 * x + y : Nat) : Int)]).length = pre.length + 1 := by simp
        rw [el]
        rw [unhex_s h0 h1]
        cases unhex (s.data.toList.drop (2 * (pre.length + 1))) with
        | none => rfl
        | some r => simp [pairO]
theorem refbytes_is (s : ByteArray) (hs : s.size ≤ 1000000) (k : Nat) (hk : s.size + 4 ≤ k) : lamplighterref19_Bytes.f k s = some (pairO (bytesO s.data.toList)) := by
  obtain ⟨k, rfl⟩ : ∃ j, k = j + 1 := ⟨k - 1, by omega⟩
  have hl := len_size s
  unfold lamplighterref19_Bytes.f bytesO
  rw [Lib.toList_data]
  by_cases h1 : s.data.toList = [45]
  · rw [if_pos h1, if_pos h1]
    rfl
  rw [if_neg h1, if_neg h1]
  by_cases h2 : s.data.toList = []
  · rw [if_pos h2, if_pos h2]
    rw [lamplighterref19_Bytes.j0]
    rw [if_pos rfl]
    rfl
  rw [if_neg h2, if_neg h2]
  rw [lamplighterref19_Bytes.j0]
  by_cases h3 : s.size % 2 = 1
  · have e : (((s.size : Int) % 2) != 0) = true := by rw [bne_iff_ne]; omega
    rw [e, if_pos rfl, unhex_odd _ _ hl h3]
    rfl
  · have e : (((s.size : Int) % 2) != 0) = false := by rw [bne_eq_false_iff_eq]; omega
    obtain ⟨m, hm⟩ : ∃ m, s.size = 2 * m := ⟨s.size / 2, by omega⟩
    rw [e, if_neg (by decide)]
    have := refbytes_loop s hs m hm m [] (by simp) k (by omega)
    simp only [List.length_nil, Nat.mul_zero, List.drop_zero] at this
    rw [show ((0 : Nat) : Int) = 0 from rfl] at this
    rw [this]
    cases unhex s.data.toList <;> rfl
end Go.Proofs.YtoloooammaiipaaDoor.J
/- The law TraceBytes, in plain words: what tells bytes tells them, and both texts read them alike. No conditions. -/
namespace Go.Proofs.YtoloooammaiipaaDoor
open Go Go.RowKit Go.Proofs.YtoloooammaiipaaDoorW.PrintWords Go.Proofs.YtoloooammaiipaaDoorW.PrintLast
theorem hexT_bytesO (l : List Int) (h : ∀ x ∈ l, 0 ≤ x ∧ x ≤ 255) : J.bytesO (hexT l) = some l := by
  unfold hexT J.bytesO
  by_cases h0 : l = []
  · rw [if_pos h0, if_pos rfl, h0]
  · have hl := hexL_length l
    have hp : 0 < l.length := List.length_pos_iff.2 h0
    rw [if_neg h0, if_neg, if_neg, unhex_hexL l h]
    · intro e
      rw [e] at hl
      simp at hl
      omega
    · intro e
      rw [e] at hl
      simp at hl
      omega
theorem hexT_len (l : List Int) : (hexT l).length ≤ 2 * l.length + 1 := by
  unfold hexT
  split
  · simp
  · rw [hexL_length]
    omega
namespace Pure
theorem TraceBytes (l0 : List Int) (a1 : ByteArray) (w0 : ∀ x ∈ l0, 0 ≤ x ∧ x ≤ 255) (w1 : a1.size ≤ 140737488351232) : ∃ k, PJ.lamplighterlaw19_TraceBytes.f k l0 a1 = some true := by
  refine ⟨10000, ?_⟩
  unfold PJ.lamplighterlaw19_TraceBytes.f
  by_cases h1 : (l0.length : Int) > 1500
  · rw [if_pos h1, PJ.lamplighterlaw19_TraceBytes.j0, if_pos rfl]
    rfl
  rw [if_neg h1]
  by_cases h2 : (a1.size : Int) > 1500
  · rw [decide_eq_true h2, PJ.lamplighterlaw19_TraceBytes.j0, if_pos rfl]
    rfl
  rw [decide_eq_false h2, PJ.lamplighterlaw19_TraceBytes.j0, if_neg (by decide)]
  have hH : PJ.trace_Hex.f l0 = some (strOf (hexT l0)) := if_pos ⟨w0, by omega⟩
  have hH2 : PJ.lamplighterref19_Hex.f l0 = some (strOf (hexT l0)) := if_pos ⟨w0, by omega⟩
  have hl := hexT_len l0
  have hB1 : PJ.trace_Bytes.f 9999 (strOf (hexT l0)) = some (l0, true) := by
    rw [J.bytes_is _ (by rw [strOf_size]; omega) _ (by rw [strOf_size]; omega), strOf_data, hexT_bytesO l0 w0]
    rfl
  have hB2 : PJ.trace_Bytes.f 9999 a1 = some (J.pairO (J.bytesO a1.data.toList)) := by rw [J.bytes_is _ (by omega) _ (by omega)]
  have hB3 : PJ.lamplighterref19_Bytes.f 9999 a1 = some (J.pairO (J.bytesO a1.data.toList)) := by rw [J.refbytes_is _ (by omega) _ (by omega)]
  have hA : PJ.lamplighterlaw19_alive.f = some true := rfl
  rw [hH, Option.bind_some, hB1, Option.bind_some, hB2, Option.bind_some, hB3, Option.bind_some, hA, Option.bind_some, if_pos rfl, hH2, Option.bind_some, if_pos rfl, if_pos rfl, if_pos rfl, if_pos rfl]
  simp
end Pure
end Go.Proofs.YtoloooammaiipaaDoor
/- A slice of bytes as an argument: what it holds, and that its reading stays while the memory that was there stays; condition: it reads at its type. -/
namespace Go.Proofs.YtoloooammaiipaaDoor.Open
open Go Go.ChangeShapes Go.WideShapes Go.ChangeAt Go.RowKit Go.Proofs.YtoloooammaiipaaDoorW.PrintWords Go.Proofs.YtoloooammaiipaaDoorW.PrintLast

theorem laidOut : laidOutB Tryd.prog = true := by kernel_rfl
set_option maxRecDepth 100000 in
theorem open_bytes {H : Type} {enc : TypeId × Value → H} {W : World} {base : Nat} {v : Value} {d : DataW H} {p : List MemPlace} (hv : Value.okWide Tryd.prog W .any base 22 v) (h : DataW.Trod enc Tryd.prog W 0 (fun _ => true) true 22 v d p) :
    ∃ (A : Option Addr) (l : List Int) (c : Nat), v = .slice A l.length c ∧ l.length ≤ c ∧ Kd.C (Kd.int .u8) W A l.length l ∧ (∀ x ∈ l, (Lit.int .u8 x).wf = true) ∧ l.length ≤ maxLen ∧
      ∀ W', Below W.heap.size W W' → DataW.Trod enc Tryd.prog W' 0 (fun b => decide (b < W.heap.size)) true 22 v d p := by
  obtain ⟨a, len, cap, rfl⟩ := okWide_slice Tryd.underlying22 hv
  have k := h
  have lt : ∀ x ∈ p, x.block < W.heap.size := by obtain ⟨m, hm⟩ := k; exact DataW.trod_lt m _ _ _ hm
  obtain ⟨fuel, hf⟩ := h
  have row : ∃ zs : List Int, (a = none ∧ len = 0 ∧ cap = 0 ∧ zs = []) ∨ ∃ x, a = some x ∧ len ≤ cap ∧ cap ≤ maxLen ∧ zs.length = cap ∧ (∀ i, i < zs.length → W.cell? (x.add i) = some (.int .u8 (zs.getD i 0))) ∧ ∀ n ∈ zs, (Lit.int .u8 n).wf = true := by
    rcases open_ints Tryd.underlying22 Tryd.underlying5 (by kernel_rfl) hf with ⟨hcs, _⟩ | ⟨x, l, c, zs, hcs, _, hl, hm, hz, _, hcell, hwz⟩
    · simp [Value.cells] at hcs
      obtain ⟨rfl, rfl, rfl⟩ := hcs
      exact ⟨[], .inl ⟨rfl, rfl, rfl, rfl⟩⟩
    · simp [Value.cells] at hcs
      obtain ⟨rfl, rfl, rfl⟩ := hcs
      exact ⟨zs, .inr ⟨_, rfl, hl, hm, by simpa using hz, hcell, hwz⟩⟩
  obtain ⟨zs, hz⟩ := row
  obtain ⟨l, rfl, hr, hm, hw, hc⟩ := ReadsInt.ofRowC hz
  exact ⟨a, l, cap, rfl, hc, Kd.C_of_reads (d := (0 : Int)) (h1 := fun _ => rfl) hr, hw, hm, fun W' bel => Below.trod laidOut (by kernel_rfl) (of_decide_eq_true (by kernel_rfl)) k bel lt⟩
theorem byte_wf {a : Int} (ha : (Lit.int .u8 a).wf = true) : 0 ≤ a ∧ a ≤ 255 := by simpa [Lit.wf, IntKind.min, IntKind.max, IntKind.signed, IntKind.bits] using ha
end Go.Proofs.YtoloooammaiipaaDoor.Open
/- A world for the witness of a row that lists package-level tables and errors: each listed table holds what the row lists, each listed error a new block of its own. No conditions. -/
namespace Go.Proofs.YtoloooammaiipaaDoor.Laid
open Go Go.ChangeShapes Go.WideShapes Go.ChangeAt Go.RowKit
/-- The cells of a datum of numbers, texts and rows of them. -/
def cellsAt {H : Type} : Nat → DataW H → List Value
  | 0, _ => []
  | _ + 1, .lit (.int k n) => [.int k n]
  | _ + 1, .lit (.bool b) => [.bool b]
  | _ + 1, .lit (.string b) => [.string ⟨b.toArray⟩]
  | n + 1, .agg ps => ps.flatMap (cellsAt n)
  | _ + 1, _ => []
def layOne (P : Program) (h : Array Obj) (x : String × DataW Unit) : Array Obj :=
  match P.globalNamed x.1 with
  | some g => match x.2 with
    | .iface _ (.ptr d) => (h.push (.cells (cellsAt 5 d).toArray 140 (0, 0))).modify g fun
      | .cells _ t frozen => .cells #[.iface 138 (.pointer (some ⟨h.size, 0, none⟩))] t frozen
      | o => o
    | d => h.modify g fun
      | .cells _ t frozen => .cells (cellsAt 5 d).toArray t frozen
      | o => o
  | none => h
noncomputable def laidWorld (os : Os) : World :=
  { World.holding Tryd.prog os ⟨#[], #[], []⟩ with heap := Rows.traceBytesRow.laid.foldl (layOne Tryd.prog) (World.holding Tryd.prog os ⟨#[], #[], []⟩).heap }
set_option maxRecDepth 100000 in
theorem laid_met (os : Os) (args : Array Value) : laidMet Tryd.prog Rows.traceBytesRow.laid ((laidWorld os).forCall (fun _ _ => 0) ⟨#[], args, []⟩).memory :=
  laidMet_of_run3 8 (by kernel_rfl) (by kernel_rfl) (by kernel_rfl)
end Go.Proofs.YtoloooammaiipaaDoor.Laid

namespace Go.Proofs.YtoloooammaiipaaDoor.traceBytes
open Go.ChangeShapes Go.WideShapes Go.ChangeAt Go.RowKit
open Go.ChangeMaps (open_string shut_string)
set_option linter.unusedVariables false
theorem own : ownKnob Tryd.prog.godebug = none := by kernel_rfl
theorem byte_wf {a : Int} (ha : (Lit.int .u8 a).wf = true) : 0 ≤ a ∧ a ≤ 255 := by simpa [Lit.wf, IntKind.min, IntKind.max, IntKind.signed, IntKind.bits] using ha
theorem word_wf {a : Int} (ha : (Lit.int .u16 a).wf = true) : 0 ≤ a ∧ a ≤ 65535 := by simpa [Lit.wf, IntKind.min, IntKind.max, IntKind.signed, IntKind.bits] using ha
set_option maxRecDepth 100000 in
/-- What the walk gives, for every argument. -/
theorem contract (H : Type) (enc : TypeId × Value → H) (W : World) (base : Nat) (args : Array Value) (ds gs : List (DataW H)) (before : List MemPlace)
    (hval0 : ∀ (j : Nat) t v, Tryd.f3.params[j]? = some t → args[j]? = some v → Value.okWide Tryd.prog W .any base t v)
    (hW : DataW.Whole enc Tryd.prog Tryd.f3.params.toList Rows.traceBytesSpec.vars false W args.toList ds gs before)
    (hsz0 : (DataW.weightsEach Tryd.prog (Tryd.f3.params.toList ++ Rows.traceBytesSpec.plain.varTypes Tryd.prog) (ds ++ gs)).all (· ≤ reachBytes) = true)
    (hL : laidMetH Tryd.prog Rows.traceBytesRow.laid W)
    : Calls Tryd.prog 3 args W fun e W' => ∃ v, e = .returned v ∧ Rows.traceBytesSpec.post enc Tryd.prog Tryd.f3 false true false false W args v W' := by
  have hsz := hsz0
  have hval : ∀ (j : Nat) t v, Tryd.f3.params[j]? = some t → args[j]? = some v → Value.okWide Tryd.prog W .any base t v := hval0
  have hW' := hW
  obtain ⟨p, q, hA0, hV, rfl, hfz, hnd⟩ := hW
  have hA : DataW.TrodAll enc Tryd.prog W 0 (fun _ => true) true Tryd.f3.params.toList args.toList ds p := hA0
  rw [Tryd.params3] at hA hval hsz
  obtain ⟨v0, vs0, d0, ds0, p0, q0, hargs, rfl, rfl, h0, r0⟩ := trodAll_cons hA
  obtain ⟨v1, vs1, d1, ds1, p1, q1, rfl, rfl, rfl, h1, r1⟩ := trodAll_cons r0
  obtain ⟨rfl, rfl, rfl⟩ := trodAll_nil r1
  obtain rfl : args = #[v0, v1] := by cases args; simp_all
  obtain ⟨rfl, rfl⟩ := trodVars_none hV
  obtain ⟨A0, l0, c0, rfl, n0, r0', w0, m0, b0⟩ := Open.open_bytes (hval 0 22 v0 rfl rfl) h0
  obtain ⟨a1, rfl, rfl, rfl, y1⟩ := open_string Tryd.underlying9 (hval 1 9 v1 rfl rfl) h1
  have w1 : a1.size ≤ 140737488351232 := by
    have z := sized_string hsz (j := 1) (t := 9) rfl rfl
    rw [Array.length_toList] at z
    exact z
  clear hA0 hval0 hsz0
  obtain ⟨k, hk'⟩ := Pure.TraceBytes l0 a1 (fun x hx => byte_wf (w0 x hx)) w1
  refine (PJ.lamplighterlaw19_TraceBytes.calls k A0 c0 l0 a1 true W r0' n0 hk' rfl (globt_laid hL)).mono fun e W' ⟨he, bel⟩ => ?_
  subst he
  exact ⟨_, rfl, _, _, _, [], _, [], hW', trodAll_mk1 (shut_bool Tryd.underlying4 _), (trodAll_cons_mk (b0 _ bel) (trodAll_cons_mk (shut_string Tryd.underlying9 y1) trodAll_mk0)), rfl, bel.frame _, fun h => by cases h⟩
set_option maxRecDepth 100000 in
theorem lifted (os : Os) (started : os.Started) (H : Type) (enc : TypeId × Value → H) (F : Stop.Interp) :
    ReturnsInHanded {} Tryd.checked os 3 .any ((OpenSpec.ofChange Rows.traceBytesSpec).preRow enc Tryd.prog Tryd.f3 Rows.traceBytesRow.domain false Rows.traceBytesRow.laid) (((OpenSpec.ofChange Rows.traceBytesSpec).at F).post enc Tryd.prog Tryd.f3 false true false false) := by
  refine returnsInHanded_of_row (C := Tryd.checked) (s := (OpenSpec.ofChange Rows.traceBytesSpec)) own started (by kernel_rfl) Tryd.func3
    (witness_row_at (enc := enc) (C := Tryd.checked) false (Laid.laidWorld os) #[.slice none 0 0, .string ByteArray.empty] rfl (by kernel_rfl) (by kernel_rfl) (by kernel_rfl)
      (OpenSpec.preRow_of_cond 8 (x := ([.nil, .lit (.string [])], [], [])) (by kernel_rfl) (by kernel_rfl) (fun k hk => by cases hk) (by kernel_rfl) (Laid.laid_met os _))) ?_
  intro W base args ds gs before hval hW _ hcond hsz hL _ _
  exact contract H enc W base args ds gs before hval hW hsz hL
theorem over : Rows.traceBytesRow.holds Tryd.pinned (OpenSpec.ofChange Rows.traceBytesSpec) :=
  OpenClaim.holds_of_cond 3 Tryd.f3 rfl rfl rfl rfl rfl rfl rfl ⟨rfl, rfl, rfl, rfl, rfl⟩ rfl rfl rfl rfl rfl (by kernel_rfl) Tryd.func3 (by kernel_rfl)
    (of_decide_eq_true (by kernel_rfl)) (by unfold Func.isWrapper; first | (rw [if_pos (by decide +kernel)]; kernel_rfl) | (rw [if_neg (by decide +kernel)]; exact ⟨rfl, rfl⟩))
    (fun os started H enc _ F => by rw [OpenClaim.pre_eq_preRow]; exact lifted os started H enc F)
theorem proved : Rows.TraceBytesSaid := over
/-- No parameter wants a stand-in; the program's own looks are off. -/
theorem plain (f : FuncId) (fn : Func) (hf : Tryd.pinned.checked.prog.funcNamed "lamplighter/lamplighterlaw19.TraceBytes" = some f) (hfn : Tryd.pinned.checked.prog.funcs[f]? = some fn) :
    true = Tryd.pinned.checked.prog.looks [] ∧ ∀ (j : Nat) t, fn.params[j]? = some t → Tryd.pinned.checked.prog.wantsStandIn t = false := by
  obtain rfl : f = 3 := Option.some.inj ((show Tryd.prog.funcNamed "lamplighter/lamplighterlaw19.TraceBytes" = some 3 by kernel_rfl).symm.trans hf) |>.symm
  obtain rfl : fn = Tryd.f3 := (Option.some.inj (Tryd.func3.symm.trans hfn)).symm
  refine ⟨by kernel_rfl, fun j t ht => ?_⟩
  rw [Tryd.params3] at ht
  have hall : (#[22, 9] : Array TypeId).all (fun t => !(Tryd.prog.wantsStandIn t)) = true := by kernel_rfl
  have hm := (Array.all_eq_true_iff_forall_mem.1 hall) t (Array.mem_of_getElem? ht)
  have hm2 : Tryd.prog.wantsStandIn t = false := by simpa using hm
  exact hm2
theorem card : Rows.TraceBytesCardSaid :=
  Claim7.holds_tied_plain_at .later [] _ _ _ _ proved (fun _ h => by cases h) (by kernel_rfl) (fun _ h => by cases h) traceBytes_row_tie rfl ⟨rfl, rfl⟩ (by kernel_rfl) rfl plain (by kernel_rfl)
#print axioms card
end Go.Proofs.YtoloooammaiipaaDoor.traceBytes
namespace Go.Proofs.YtoloooammaiipaaDoor
/-- The statement, under a short name, for the claim. -/
theorem traceBytes_holds : Rows.TraceBytesCardSaid := traceBytes.card
end Go.Proofs.YtoloooammaiipaaDoor
