/- What escape.Decode gives: a walk; conditions: the five signs may be signs, the text has at most 1000000 bytes. -/
import Derived.Test.YtokpkdmkdolmdaaDoorTellW
namespace Go.Proofs.YtokpkdmkdolmdaaDoor
open Go Go.RowKit Go.Maps Go.Proofs.YtokpkdmkdolmdaaDoorW.PrintWords Go.Proofs.YtokpkdmkdolmdaaDoorW.PrintLast Go.Proofs.YtokpkdmkdolmdaaDoorW.PrintMore
set_option linter.unusedVariables false

theorem builder_fresh {T e B b : Nat} {w : World} (h : w.heap[b]? = some (.cells #[.pointer none, .slice none 0 0] T (0, 0))) (hB : B ≤ b) : Lib.IsBuilderF T e B b (Lib.byteCells []) w :=
  Lib.IsBuilderF.of (Or.inl ⟨hB, _, h, World.ownsRow_nil .., by simp [Value.ownBlock]⟩)
theorem ownF_below {w w1 : World} {base n : Nat} {e sz : Nat} {v : Value} {xs : List Value} (h : w.ownsRowF base e sz v n xs) (hb : Below w.heap.size w w1) : w1.ownsRowF base e sz v n xs := by
  refine ⟨h.1, ?_⟩
  rcases h.2 with h | ⟨g, cap, cur, fz, h1, h2, h3, h4⟩
  · exact Or.inl h
  · exact Or.inr ⟨g, cap, cur, fz, h1, h2, (hb.block g (Array.getElem?_eq_some_iff.1 h3).1).trans h3, h4⟩
theorem builder_below {T e B b : Nat} {bs : List Value} {w w1 : World} (h : Lib.IsBuilderF T e B b bs w) (hb : Below w.heap.size w w1) : Lib.IsBuilderF T e B b bs w1 := by
  rcases h with ⟨h1, v, h2, h3, h4⟩ | ⟨h1, v, h2, h3, h4⟩
  · exact Or.inl ⟨h1, v, (hb.block b (Array.getElem?_eq_some_iff.1 h2).1).trans h2, ownF_below h3 hb, h4⟩
  · exact Or.inr ⟨h1, v, (hb.block b (Array.getElem?_eq_some_iff.1 h2).1).trans h2, ownF_below h3 hb, h4⟩
theorem tell_none {x : ByteArray} {a0 a1 a2 a3 a4 : Int} (hSg : Sg a0 a1 a2 a3 a4) (hs : x.size ≤ 1000000) (h : tellL a0 a1 a2 a3 a4 x.data.toList = none) (w : World) :
    Calls Tryd.prog 24 #[.string x, .agg #[.int .u8 a0, .int .u8 a1, .int .u8 a2, .int .u8 a3, .int .u8 a4]] w fun e w' => e = .returned (.tuple #[.string ⟨#[]⟩, .bool false]) ∧ Below w.heap.size w w' := by
  have h1 := tell_walk x a0 a1 a2 a3 a4 hSg hs w
  rw [h] at h1
  exact h1
theorem tell_some {x : ByteArray} {a0 a1 a2 a3 a4 : Int} {t : List UInt8} (hSg : Sg a0 a1 a2 a3 a4) (hs : x.size ≤ 1000000) (h : tellL a0 a1 a2 a3 a4 x.data.toList = some t) (w : World) :
    Calls Tryd.prog 24 #[.string x, .agg #[.int .u8 a0, .int .u8 a1, .int .u8 a2, .int .u8 a3, .int .u8 a4]] w fun e w' => e = .returned (.tuple #[.string ⟨t.toArray⟩, .bool true]) ∧ Below w.heap.size w w' := by
  have h1 := tell_walk x a0 a1 a2 a3 a4 hSg hs w
  rw [h] at h1
  exact h1
theorem decS_go {a0 a1 a2 a3 a4 : Int} {n : Nat} {y z : List UInt8} {r : List (List UInt8)} {acc t : List UInt8} {i : Nat} (h : tellL a0 a1 a2 a3 a4 y = some t) : decS a0 a1 a2 a3 a4 n true (y :: z :: r) acc i = decS a0 a1 a2 a3 a4 n false (z :: r) (acc ++ t) (i + y.length + 2) := by
  simp only [decS, h]
/-- The bytes from a part on. -/
def restS (Q : List (List UInt8)) (i : Nat) : Nat := ((Q.drop i).map List.length).sum + (Q.drop i).length
theorem restS_step {Q : List (List UInt8)} {i : Nat} (h : i < Q.length) : restS Q i = (Q[i]'h).length + 1 + restS Q (i + 1) := by
  unfold restS
  rw [List.drop_eq_getElem_cons h]
  simp only [List.map_cons, List.sum_cons, List.length_cons]
  omega
set_option maxHeartbeats 4000000 in
set_option maxRecDepth 100000 in
theorem decode_bad (s : ByteArray) (a0 a1 a2 a3 a4 : Int) (hR : ∀ W, Calls Tryd.prog 18 #[.agg #[.int .u8 a0, .int .u8 a1, .int .u8 a2, .int .u8 a3, .int .u8 a4]] W fun e w' => e = .returned (.bool false) ∧ Below W.heap.size W w') (w : World) :
    Calls Tryd.prog 11 #[.string s, .agg #[.int .u8 a0, .int .u8 a1, .int .u8 a2, .int .u8 a3, .int .u8 a4]] w fun e w' => e = .returned (.tuple #[.string ⟨#[]⟩, .int .i64 0, .int .i64 11]) ∧ Below w.heap.size w w' := by
  go_enter Tryd.func11, Tryd.ntmps11
  go_wp2_with fail
  refine (hR _).mono ?_
  rintro e w1 ⟨rfl, hb1⟩
  have HB1 := Lib.hid (below_step ((Below.refl w.heap.size w).alloc (Nat.le_refl _) _) hb1)
  go_wp2_with fail
  exact bodyPost_ret (v := .tuple #[.string ⟨#[]⟩, .int .i64 0, .int .i64 11]) (by simp [results, Tryd.results11, go_sem]) rfl ⟨rfl, HB1.out⟩
set_option maxHeartbeats 16000000 in
set_option maxRecDepth 100000 in
theorem decode_walk (s : ByteArray) (a0 a1 a2 a3 a4 : Int) (hSg : Sg a0 a1 a2 a3 a4) (hs : s.size ≤ 1000000) (hR : ∀ W, Calls Tryd.prog 18 #[.agg #[.int .u8 a0, .int .u8 a1, .int .u8 a2, .int .u8 a3, .int .u8 a4]] W fun e w' => e = .returned (.bool true) ∧ Below W.heap.size W w')
    (hC : ∀ W, Calls Tryd.prog 23 #[.string s, .int .u8 a3] W fun e w' => ∃ v : Value, e = .returned v ∧ Kd.R Kd.string 9 w' W.heap.size (fun _ => True) v ((cutL (xE a3) s.data.toList).map strOf) ∧ Below W.heap.size W w') (w : World) :
    Calls Tryd.prog 11 #[.string s, .agg #[.int .u8 a0, .int .u8 a1, .int .u8 a2, .int .u8 a3, .int .u8 a4]] w fun e w' => e = .returned (.tuple #[.string ⟨(decL a0 a1 a2 a3 a4 s.data.toList).1.toArray⟩, .int .i64 ((decL a0 a1 a2 a3 a4 s.data.toList).2.1 : Int), .int .i64 (decL a0 a1 a2 a3 a4 s.data.toList).2.2]) ∧ Below w.heap.size w w' := by
  have HS := Lib.hid hSg
  have HC := Lib.hid hC
  clear hC hSg
  have hsum := cut_sum (xE a3) s.data.toList
  have hL : s.data.toList.length = s.size := by rw [Array.length_toList]; rfl
  have hpos := cutL_length_pos (xE a3) s.data.toList
  have hdec : decL a0 a1 a2 a3 a4 s.data.toList = decS a0 a1 a2 a3 a4 s.size false (cutL (xE a3) s.data.toList) [] 0 := by unfold decL; rw [hL]
  rw [hL] at hsum
  generalize cutL (xE a3) s.data.toList = Q at HC hsum hpos hdec
  generalize decL a0 a1 a2 a3 a4 s.data.toList = DD at hdec ⊢
  have HD := Lib.hid hdec
  clear hdec hL
  have hQ : Q.length ≤ 1000001 := by omega
  have HSUM := Lib.hid (show restS Q 0 = s.size + 1 from hsum)
  clear hsum
  go_enter Tryd.func11, Tryd.ntmps11
  go_wp2_with fail
  refine (hR _).mono ?_
  rintro e w1 ⟨rfl, hb1⟩
  have HB1 := Lib.hid (below_step ((Below.refl w.heap.size w).alloc (Nat.le_refl _) _) hb1)
  have HK1 := Lib.hid ((hb1.block w.heap.size (by simp)).trans (box_block w _))
  have HS1 := Lib.hid (show w.heap.size < w1.heap.size from Nat.lt_of_lt_of_le (by simp) hb1.size)
  clear hb1 hR
  have hk2 := heap_old (.cells #[.pointer none, .slice none 0 0] 45) HK1.out
  have C0 := cell_of_cells hk2
  go_wp2_with fail
  refine (HC.out _).mono ?_
  rintro e w3 ⟨v, rfl, hRow, hb3⟩
  have hmap : 0 < (Q.map strOf).length := by rw [List.length_map]; exact hpos
  obtain ⟨g, cap, rfl, hg1, hg2, cells, hcells⟩ := Kd.R_form hRow hmap
  have HCELL := Lib.hid (show ∀ i (h : i < Q.length), cells[i]? = some (.string ⟨(Q[i]'h).toArray⟩) from fun i h => by
    have h1 := (Kd.R_cell (ByteArray.empty) hRow (i : Int) (by omega) (by rw [List.length_map]; omega)).1
    rw [Int.toNat_natCast, cell_of_cells hcells] at h1
    rw [h1]
    unfold rdOf
    rw [Int.toNat_natCast, List.getD_eq_getElem?_getD, List.getElem?_map, List.getElem?_eq_getElem h]
    rfl)
  rw [List.length_map]
  have HB3 := Lib.hid (below_step (HB1.out.alloc HB1.out.size _) hb3)
  have hbb : w3.heap[w1.heap.size]? = some (.cells #[.pointer none, .slice none 0 0] 45 (0, 0)) := (hb3.block w1.heap.size (by simp)).trans (heap_new w1 _)
  have HK3 := Lib.hid ((hb3.block w.heap.size (Nat.lt_of_lt_of_le HS1.out (by simp))).trans hk2)
  have HI3 := Lib.hid (builder_fresh (e := 5) (B := w1.heap.size) hbb (Nat.le_refl _))
  have hgb : w1.heap.size < g := Nat.lt_of_lt_of_le (by simp) hg1
  have HG3 := Lib.hid hcells
  have hwb := HS1.out
  have hsz3 : w1.heap.size ≤ w3.heap.size := Nat.le_trans (by simp) hb3.size
  clear hb3 hbb hk2 hRow hmap hg1 hg2 hcells C0 HK1 HB1 HS1 HC
  generalize w1.heap.size = bb at HI3 hgb hwb hsz3 ⊢
  clear w1
  go_wp2_with fail
  go_loopw [8, 23] (fun v8 v23 wr => ∃ (i at' : Nat) (acc : List UInt8), v8 = .int .i64 at' ∧ v23 = .int .i64 i ∧ i ≤ Q.length ∧ Lib.IsBuilderF 45 5 bb bb (Lib.byteCells acc) wr ∧ wr.heap[g]? = some (.cells cells 9 (0, 0)) ∧ wr.heap[w.heap.size]? = some (.cells #[.int .u8 a0, .int .u8 a1, .int .u8 a2, .int .u8 a3, .int .u8 a4] 23 (0, 0)) ∧ bb ≤ wr.heap.size ∧ Hid (Below w.heap.size w wr ∧ DD = decS a0 a1 a2 a3 a4 s.size (decide (i % 2 = 1)) (Q.drop i) acc at' ∧ at' + restS Q i + i % 2 = s.size + 1 ∧ acc.length ≤ at')) (fun _ v23 _ => Q.length - (intOf v23).toNat)
  case atStart =>
    exact ⟨0, 0, [], rfl, rfl, by omega, HI3.out, HG3.out, HK3.out, hsz3, Lib.hid ⟨HB3.out, HD.out, by rw [HSUM.out]; omega, Nat.le_refl _⟩⟩
  case round =>
    clear HI3 HG3 HK3 HD HSUM HB3 hsz3
    obtain ⟨i, at', acc, rfl, rfl, hi, hI, hG, hK, hsz, hh⟩ := hrel
    by_cases hin : i < Q.length
    · have hCi : wr.cell? ⟨g, i, none⟩ = some (.string ⟨(Q[i]'hin).toArray⟩) := (cell_of_cells hG i).trans (HCELL.out i hin)
      obtain ⟨hB, hDD, hS, hA⟩ := hh.out
      clear hh
      have hdrop : Q.drop i = (Q[i]'hin) :: Q.drop (i + 1) := List.drop_eq_getElem_cons hin
      rw [hdrop] at hDD
      have hst := restS_step hin
      obtain ⟨X, hX⟩ : ∃ X, X = Q[i]'hin := ⟨_, rfl⟩
      rw [← hX] at hCi hDD hst
      clear hdrop
      obtain ⟨XS, hXS⟩ : ∃ XS : ByteArray, XS = ⟨X.toArray⟩ := ⟨_, rfl⟩
      have hXl : XS.size = X.length := by rw [hXS]; rfl
      have hXd : XS.data.toList = X := by rw [hXS]
      rw [← hXS] at hCi
      have hX1 : XS.size ≤ 1000000 := by omega
      have hat1 : at' ≤ 1000001 := by omega
      have HB := Lib.hid hB
      have HA := Lib.hid (show acc.length ≤ at' ∧ at' + restS Q (i + 1) + (i % 2 + XS.size + 1) = s.size + 1 from ⟨hA, by omega⟩)
      have hi0 : (0 : Int) ≤ (i : Int) := by omega
      have hi1 : (i : Int) < (Q.length : Int) := by omega
      have hstr : Lib.strCells XS = Lib.strCells ⟨X.toArray⟩ := by rw [hXS]
      have HSTR := Lib.hid hstr
      have hlen1 : (Lib.byteCells acc).length + XS.size ≤ 140737488355328 := by rw [Lib.byteCells_length]; omega
      clear hX hXS hB hA hS hst hstr
      by_cases hpar : i % 2 = 0
      · have hbit : Go.bits .and .i64 (i : Int) 1 = 0 := by rw [low_bit]; omega
        have hd0 : decide (i % 2 = 1) = false := decide_eq_false (by omega)
        rw [hd0] at hDD
        have HDD := Lib.hid (show DD = decS a0 a1 a2 a3 a4 s.size true (Q.drop (i + 1)) (acc ++ X) (at' + X.length) from hDD)
        clear hDD hd0
        go_wp2_with fail
        refine (write_text bb bb _ XS _ hI hlen1 hsz).mono ?_
        rintro e w4 ⟨rfl, h4, hb4, hk4⟩
        rw [HSTR.out, cells_text] at h4
        have hG4 := hk4 g _ hG (fun e => by have := Option.some.inj e; omega) (fun c fz e => by cases e)
        have hK4 := (hb4.block w.heap.size hwb).trans hK
        have hsz4 := Nat.le_trans hsz hb4.size
        have HB4 := Lib.hid (HB.out.trans (hb4.mono (Nat.le_of_lt hwb)))
        clear hI hG hK hsz hb4 hk4 hCi HB hbit
        go_wp2_with fail
        refine ⟨⟨i + 1, at' + XS.size, acc ++ X, by first | rfl | (congr 1; omega), by first | rfl | (congr 1; omega), by omega, Or.inr h4, hG4, hK4, hsz4, Lib.hid ⟨HB4.out, ?_, ?_, ?_⟩⟩, by simp [intOf]; omega⟩
        · rw [HDD.out, hXl, decide_eq_true (show (i + 1) % 2 = 1 by omega)]
        · have := HA.out; omega
        · have := HA.out; rw [List.length_append]; omega
      · have hbit : Go.bits .and .i64 (i : Int) 1 = 1 := by rw [low_bit]; omega
        have hd0 : decide (i % 2 = 1) = true := decide_eq_true (by omega)
        rw [hd0] at hDD
        have hpa := Nat.mod_two_eq_zero_or_one i
        have C3 := cell_of_cells hK
        have hqn : (Q.length : Int) - 1 ≤ 1000001 := by omega
        cases ht : tellL a0 a1 a2 a3 a4 X with
        | none =>
          have htell := Lib.hid (tell_none HS.out hX1 (by rw [hXd]; exact ht))
          have HDD := Lib.hid (show DD = ([], at', 10) by
            rw [hDD]
            cases hq : Q.drop (i + 1) with
            | nil => rfl
            | cons z r => unfold decS; rw [ht])
          clear hDD hd0 ht
          go_wp2_with fail
          refine (htell.out _).mono ?_
          rintro e w4 ⟨rfl, hb4⟩
          have HB4 := Lib.hid (below_step HB.out hb4)
          clear hI hG hK hsz hb4 hCi HB hbit htell C3
          go_wp2_with fail
          exact bodyPost_ret (v := .tuple #[.string ⟨#[]⟩, .int .i64 (at' : Int), .int .i64 10]) (by simp [results, Tryd.results11, go_sem]) rfl ⟨by rw [HDD.out], HB4.out⟩
        | some t =>
          have htell := Lib.hid (tell_some HS.out hX1 (by rw [hXd]; exact ht))
          have htl := tell_length ht
          by_cases hlast : i + 1 = Q.length
          · have HDD := Lib.hid (show DD = ([], at', 10) by
              rw [hDD, hlast, List.drop_length]
              rfl)
            have hc1 : ((i : Int) == (Q.length : Int) - 1) = true := by rw [beq_iff_eq]; omega
            have hc2 : decide ((i : Int) = (Q.length : Int) - 1) = true := decide_eq_true (by omega)
            clear hDD hd0 ht hlast
            go_wp2_with fail
            refine (htell.out _).mono ?_
            rintro e w4 ⟨rfl, hb4⟩
            have HB4 := Lib.hid (below_step HB.out hb4)
            clear hI hG hK hsz hb4 hCi HB hbit htell C3
            go_wp2_with fail
            exact bodyPost_ret (v := .tuple #[.string ⟨#[]⟩, .int .i64 (at' : Int), .int .i64 10]) (by simp [results, Tryd.results11, go_sem]) rfl ⟨by rw [HDD.out], HB4.out⟩
          · have hlt : i + 1 < Q.length := by omega
            have HDD := Lib.hid (show DD = decS a0 a1 a2 a3 a4 s.size false (Q.drop (i + 1)) (acc ++ t) (at' + X.length + 2) by
              rw [hDD, List.drop_eq_getElem_cons hlt]
              exact decS_go ht)
            have hc1 : ((i : Int) == (Q.length : Int) - 1) = false := by rw [beq_eq_false_iff_ne]; omega
            have hc2 : decide ((i : Int) = (Q.length : Int) - 1) = false := decide_eq_false (by omega)
            have HTL := Lib.hid (show t.length ≤ XS.size by omega)
            have hlen2 : (Lib.byteCells acc).length + (⟨t.toArray⟩ : ByteArray).size ≤ 140737488355328 := by
              have e9 : (⟨t.toArray⟩ : ByteArray).size = t.length := rfl
              have := HA.out
              rw [Lib.byteCells_length, e9]; omega
            clear hDD hd0 ht hlast htl
            go_wp2_with fail
            refine (htell.out _).mono ?_
            rintro e w4 ⟨rfl, hb4⟩
            have hI4 := builder_below hI hb4
            have hG4 := (hb4.block g (Array.getElem?_eq_some_iff.1 hG).1).trans hG
            have hK4 := (hb4.block w.heap.size (Array.getElem?_eq_some_iff.1 hK).1).trans hK
            have hsz4 := Nat.le_trans hsz hb4.size
            have HB4 := Lib.hid (below_step HB.out hb4)
            clear hI hG hK hsz hb4 hCi HB hbit htell C3 hlen1
            go_wp2_with fail
            refine (write_text bb bb _ ⟨t.toArray⟩ _ hI4 hlen2 hsz4).mono ?_
            rintro e w5 ⟨rfl, h5, hb5, hk5⟩
            rw [cells_text] at h5
            have hG5 := hk5 g _ hG4 (fun e => by have := Option.some.inj e; omega) (fun c fz e => by cases e)
            have hK5 := (hb5.block w.heap.size hwb).trans hK4
            have hsz5 := Nat.le_trans hsz4 hb5.size
            have HB5 := Lib.hid (HB4.out.trans (hb5.mono (Nat.le_of_lt hwb)))
            clear hI4 hG4 hK4 hsz4 hb5 hk5 HB4 hlen2 hc1 hc2
            go_wp2_with fail
            refine ⟨⟨i + 1, at' + XS.size + 2, acc ++ t, by first | rfl | (congr 1; omega), by first | rfl | (congr 1; omega), by omega, Or.inr h5, hG5, hK5, hsz5, Lib.hid ⟨HB5.out, ?_, ?_, ?_⟩⟩, by simp [intOf]; omega⟩
            · rw [HDD.out, hXl, decide_eq_false (show ¬ (i + 1) % 2 = 1 by omega)]
            · have := HA.out; omega
            · have := HA.out; have := HTL.out; rw [List.length_append]; omega
    · have hin' : i = Q.length := by omega
      subst hin'
      obtain ⟨hB, hDD, hS, hA⟩ := hh.out
      clear hh
      rw [List.drop_length] at hDD
      have HDD := Lib.hid (show DD = (acc, s.size, 0) by rw [hDD]; cases decide (Q.length % 2 = 1) <;> rfl)
      have HB := Lib.hid hB
      clear hDD hS hB hA
      go_wp2_with fail
      refine (Tryd.Builder_String_any_k bb bb acc _ hI hsz).mono ?_
      rintro e w4 ⟨rfl, _, hb4, _⟩
      have HB4 := Lib.hid (HB.out.trans (hb4.mono (Nat.le_of_lt hwb)))
      clear hI hb4 HB hG hK hsz
      go_wp2_with fail
      exact bodyPost_ret (v := .tuple #[.string ⟨acc.toArray⟩, .int .i64 (s.size : Int), .int .i64 0]) (by simp [results, Tryd.results11, go_sem]) rfl ⟨by rw [HDD.out], HB4.out⟩
end Go.Proofs.YtokpkdmkdolmdaaDoor
