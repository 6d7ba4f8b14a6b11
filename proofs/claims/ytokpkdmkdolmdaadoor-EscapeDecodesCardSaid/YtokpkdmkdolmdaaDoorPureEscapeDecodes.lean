/- The law EscapeDecodes as a statement over bytes: what a text tells, or where it is wrong, is the document's; conditions: the signs are bytes. -/
import Derived.Test.YtokpkdmkdolmdaaDoorPGx17
import Derived.Test.YtokpkdmkdolmdaaDoorPGx18
import Derived.Test.YtokpkdmkdolmdaaDoorPGx19
import Derived.Test.YtokpkdmkdolmdaaDoorAlive7
import Derived.Test.YtokpkdmkdolmdaaDoorDelimRef7
import Derived.Test.YtokpkdmkdolmdaaDoorTellP
namespace Go.Proofs.YtokpkdmkdolmdaaDoor.Pure
open Go Go.RowKit Go.Proofs.YtokpkdmkdolmdaaDoor Go.Proofs.YtokpkdmkdolmdaaDoor.PG Go.Proofs.YtokpkdmkdolmdaaDoorW.PrintWords Go.Proofs.YtokpkdmkdolmdaaDoorW.PrintLast

/-- A digit's value; -1: none. -/
def digV (c : UInt8) : Int := match hexV c with
  | some x => (x : Int)
  | none => -1
theorem digit_is (k : Nat) (hk : 1 ≤ k) (c : UInt8) : lamplighterref07_digit.f k (c.toNat : Int) = some (digV c) := by
  obtain ⟨k, rfl⟩ : ∃ m, k = m + 1 := ⟨k - 1, by omega⟩
  have hc := c.toNat_lt
  have w0 : wrap64 (c.toNat : Int) = (c.toNat : Int) := wrap_fit (by omega) (by omega)
  have w1 : wrap64 ((c.toNat : Int) - 48) = (c.toNat : Int) - 48 := wrap_fit (by omega) (by omega)
  have w2 : wrap64 ((c.toNat : Int) - 55) = (c.toNat : Int) - 55 := wrap_fit (by omega) (by omega)
  unfold lamplighterref07_digit.f
  by_cases h1 : 48 ≤ c.toNat ∧ c.toNat ≤ 57
  · have hv : digV c = (c.toNat : Int) - 48 := by unfold digV hexV; rw [if_pos h1]; dsimp only; omega
    rw [if_pos (show (c.toNat : Int) ≥ 48 by omega), lamplighterref07_digit.j0, if_pos (decide_eq_true (by omega)), w0, w1, hv]
  · have hj : (if (c.toNat : Int) ≥ 48 then lamplighterref07_digit.j0 (k + 1) (c.toNat : Int) (decide ((c.toNat : Int) ≤ 57)) else lamplighterref07_digit.j0 (k + 1) (c.toNat : Int) false) = lamplighterref07_digit.j0 (k + 1) (c.toNat : Int) false := by
      by_cases h2 : (c.toNat : Int) ≥ 48
      · rw [if_pos h2, decide_eq_false (show ¬ (c.toNat : Int) ≤ 57 by omega)]
      · rw [if_neg h2]
    rw [hj, lamplighterref07_digit.j0, if_neg (by decide)]
    by_cases h3 : 65 ≤ c.toNat ∧ c.toNat ≤ 70
    · have hv : digV c = (c.toNat : Int) - 55 := by unfold digV hexV; rw [if_neg h1, if_pos h3]; dsimp only; omega
      rw [if_pos (by omega), if_pos (by omega), w0, w2, hv]
    · have hv : digV c = -1 := by unfold digV hexV; rw [if_neg h1, if_neg h3]
      rw [hv]
      by_cases h4 : (c.toNat : Int) ≥ 65
      · rw [if_pos h4, if_neg (by omega)]
      · rw [if_neg h4]
def insR (o : Option (List UInt8)) : ByteArray × Bool := match o with
  | some t => (strOf t, true)
  | none => (⟨#[]⟩, false)
theorem inside_loop (x : ByteArray) (hx : x.size ≤ 100000) (d : Nat) : ∀ (k i : Nat) (acc : List UInt8), i ≤ x.size → (x.size - i) = 2 * d → d + 1 < k → acc.length ≤ i → lamplighterref07_inside.l0 k x (numsOf acc) (i : Int) = some (insR ((hexL (x.data.toList.drop i)).map (acc ++ ·))) := by
  induction d with
  | zero =>
    intro k i acc hi hd hk ha
    obtain ⟨k, rfl⟩ : ∃ m, k = m + 1 := ⟨k - 1, by omega⟩
    obtain rfl : i = x.size := by omega
    have q : ¬ ((x.size : Int) < (x.size : Int)) := by omega
    rw [lamplighterref07_inside.l0, if_neg q, drop_end x, str_numsOf]
    show _ = some (strOf (acc ++ []), true)
    rw [List.append_nil]
  | succ d ih =>
    intro k i acc hi hd hk ha
    obtain ⟨k, rfl⟩ : ∃ m, k = m + 1 := ⟨k - 1, by omega⟩
    have h1 : i < x.size := by omega
    have h2 : i + 1 < x.size := by omega
    have q : (i : Int) < (x.size : Int) := by omega
    have q0 : (0 : Int) ≤ (i : Int) := by omega
    have q2 : (((i + 1 : Nat) : Int)) < (x.size : Int) := by omega
    have q3 : (0 : Int) ≤ ((i + 1 : Nat) : Int) := by omega
    have hw := wrap_succ i (by omega)
    have hw2 : wrap64 ((i : Int) + 2) = ((i + 2 : Nat) : Int) := by rw [wrap_fit (by omega) (by omega)]; omega
    rw [lamplighterref07_inside.l0, if_pos q, if_pos q0, bt_here x h1, digit_is k (by omega), Option.bind_some, hw, if_pos q3, if_pos q2, bt_here x h2, digit_is k (by omega), Option.bind_some, hw2, drop_here x h1, drop_here x h2]
    unfold digV
    have hR : hexL ((x[i]'h1) :: (x[i + 1]'h2) :: x.data.toList.drop (i + 1 + 1)) = (hexV (x[i]'h1)).bind fun a => (hexV (x[i + 1]'h2)).bind fun b => (hexL (x.data.toList.drop (i + 1 + 1))).bind fun z => some (UInt8.ofNat (16 * a + b) :: z) := rfl
    rw [hR]
    cases ha1 : hexV (x[i]'h1) with
    | none => rfl
    | some a =>
      cases hb1 : hexV (x[i + 1]'h2) with
      | none =>
        dsimp only
        rw [if_neg (by omega)]
        rfl
      | some b =>
        dsimp only
        have hlen : (numsOf acc).length < 140737488355328 := by simp only [numsOf, List.length_map]; omega
        have hva : a ≤ 15 := by have := hexV_form ha1; omega
        have hvb : b ≤ 15 := by have := hexV_form hb1; omega
        have hval : (wrap64 ((wrap64 (16 * (a : Int))) + (b : Int))) % 256 = ((UInt8.ofNat (16 * a + b)).toNat : Int) := by
          rw [wrap_fit (x := 16 * (a : Int)) (by omega) (by omega), wrap_fit (by omega) (by omega), UInt8.toNat_ofNat']
          omega
        rw [if_neg (by omega), if_neg (by omega), if_pos hlen, hval]
        have e9 : numsOf acc ++ [((UInt8.ofNat (16 * a + b)).toNat : Int)] = numsOf (acc ++ [UInt8.ofNat (16 * a + b)]) := by simp [numsOf]
        rw [e9, ih k (i + 2) (acc ++ [UInt8.ofNat (16 * a + b)]) (by omega) (by omega) (by omega) (by rw [List.length_append, List.length_singleton]; omega)]
        show _ = some (insR (((hexL (x.data.toList.drop (i + 2))).bind fun z => some (UInt8.ofNat (16 * a + b) :: z)).map (acc ++ ·)))
        cases hexL (x.data.toList.drop (i + 2)) with
        | none => rfl
        | some z => simp
theorem hexT_88 {l : List UInt8} (h : l.headD 0 = 88) (hl : 2 ≤ l.length) : hexT l = hexL (l.drop 1) := by
  match l, h, hl with
  | a :: b :: r, h, _ =>
    have e : a = 88 := h
    subst e
    rfl
theorem inside_is (k : Nat) (x : ByteArray) (a0 a1 a2 a3 a4 : Int) (hx : x.size ≤ 100000) (hk : x.size + 4 ≤ k) : lamplighterref07_inside.f k x a0 a1 a2 a3 a4 = some (insR (tellL a0 a1 a2 a3 a4 x.data.toList)) := by
  obtain ⟨k, rfl⟩ : ∃ m, k = m + 1 := ⟨k - 1, by omega⟩
  unfold lamplighterref07_inside.f tellL
  rw [Lib.toList_data]
  have hl := len_size x
  by_cases h0 : x.data.toList = [70]
  · rw [if_pos h0, if_pos h0, byte_str]; rfl
  rw [if_neg h0, if_neg h0]
  by_cases h1 : x.data.toList = [83]
  · rw [if_pos h1, if_pos h1, byte_str]; rfl
  rw [if_neg h1, if_neg h1]
  by_cases h2 : x.data.toList = [84]
  · rw [if_pos h2, if_pos h2, byte_str]; rfl
  rw [if_neg h2, if_neg h2]
  by_cases h3 : x.data.toList = [82]
  · rw [if_pos h3, if_pos h3, byte_str]; rfl
  rw [if_neg h3, if_neg h3]
  by_cases h4 : x.data.toList = [69]
  · rw [if_pos h4, if_pos h4, byte_str]; rfl
  rw [if_neg h4, if_neg h4]
  by_cases h5 : (x.size : Int) < 3
  · rw [if_pos h5, lamplighterref07_inside.j0, if_pos rfl]
    have e : hexT x.data.toList = none := by
      unfold hexT
      split
      · rename_i a r q
        rw [q] at hl
        simp only [List.length_cons] at hl
        exact hexL_odd (by simp only [List.length_cons]; omega)
      · rfl
    rw [e]
    rfl
  rw [if_neg h5]
  by_cases h6 : (x.size : Int) % 2 = 0
  · rw [if_pos h6, lamplighterref07_inside.j0, if_pos rfl]
    have e : hexT x.data.toList = none := by
      unfold hexT
      split
      · rename_i a r q
        rw [q] at hl
        simp only [List.length_cons] at hl
        exact hexL_odd (by simp only [List.length_cons]; omega)
      · rfl
    rw [e]
    rfl
  rw [if_neg h6, if_pos (show (0 : Int) < (x.size : Int) by omega), lamplighterref07_inside.j0]
  have hx0 : 0 < x.size := by omega
  have hb0 := bt_here x hx0
  have hd0 := drop_here x hx0
  rw [List.drop_zero] at hd0
  have e0 : ((0 : Nat) : Int) = 0 := rfl
  rw [e0] at hb0
  rw [hb0]
  by_cases h7 : (x[0]'hx0) = 88
  · have hne : (((x[0]'hx0).toNat : Int) != 88) = false := by rw [h7]; rfl
    rw [hne, if_neg (by decide)]
    have hL := inside_loop x hx ((x.size - 1) / 2) k 1 [] (by omega) (by omega) (by omega) (by simp)
    refine Eq.trans hL ?_
    rw [hexT_88 (l := x.data.toList) (by rw [hd0, h7]; rfl) (by rw [hl]; omega)]
    cases hexL (x.data.toList.drop 1) with
    | none => rfl
    | some t => rfl
  · have hne : (((x[0]'hx0).toNat : Int) != 88) = true := by
      rw [bne_iff_ne]
      intro e
      exact h7 (UInt8.toNat_inj.1 (by show (x[0]'hx0).toNat = 88; omega))
    rw [hne, if_pos rfl, hd0]
    have e : hexT (x[0]'hx0 :: x.data.toList.drop (0 + 1)) = none := by
      unfold hexT
      split
      · rename_i a r q
        exact absurd (List.cons.inj q).1 h7
      · rfl
    rw [e]
    rfl
/-- The scan for the escapes' sign. -/
theorem scan_none (s out : ByteArray) {a0 a1 a2 a3 a4 : Int} (_h3 : 0 ≤ a3 ∧ a3 ≤ 255) (hs : s.size ≤ 2000) (i : Nat) (d : Nat) : ∀ (k j : Nat), j ≤ s.size → s.size - j = d → d < k → xE a3 ∉ s.data.toList.drop j → lamplighterref07_Decode.l1 k s out (i : Int) (j : Int) a0 a1 a2 a3 a4 = lamplighterref07_Decode.j2 (k - d - 1) s out (i : Int) (s.size : Int) a0 a1 a2 a3 a4 := by
  induction d with
  | zero =>
    intro k j hj hd hk hn
    obtain ⟨k, rfl⟩ : ∃ m, k = m + 1 := ⟨k - 1, by omega⟩
    obtain rfl : j = s.size := by omega
    have q : ¬ ((s.size : Int) < (s.size : Int)) := by omega
    rw [lamplighterref07_Decode.l1, if_neg q]
    rfl
  | succ d ih =>
    intro k j hj hd hk hn
    obtain ⟨k, rfl⟩ : ∃ m, k = m + 1 := ⟨k - 1, by omega⟩
    have hlt : j < s.size := by omega
    have q : (j : Int) < (s.size : Int) := by omega
    have q0 : (0 : Int) ≤ (j : Int) := by omega
    rw [drop_here s hlt] at hn
    have hne : ((s[j]'hlt).toNat : Int) ≠ a3 := fun e => hn (by rw [← e, xE_of]; exact List.mem_cons_self ..)
    rw [lamplighterref07_Decode.l1, if_pos q, if_pos q0, bt_here s hlt, if_neg hne, wrap_succ j (by omega), ih k (j + 1) (by omega) (by omega) (by omega) (fun h => hn (List.mem_cons_of_mem _ h))]
    congr 1
    omega
theorem scan_some (s out : ByteArray) {a0 a1 a2 a3 a4 : Int} (h3 : 0 ≤ a3 ∧ a3 ≤ 255) (hs : s.size ≤ 2000) (i : Nat) : ∀ (y r : List UInt8) (k j : Nat), s.data.toList.drop j = y ++ xE a3 :: r → xE a3 ∉ y → y.length < k → lamplighterref07_Decode.l1 k s out (i : Int) (j : Int) a0 a1 a2 a3 a4 = lamplighterref07_Decode.j2 (k - y.length - 1) s out (i : Int) ((j + y.length : Nat) : Int) a0 a1 a2 a3 a4 := by
  intro y
  induction y with
  | nil =>
    intro r k j hd hn hk
    obtain ⟨k, rfl⟩ : ∃ m, k = m + 1 := ⟨k - 1, by simp only [List.length_nil] at hk; omega⟩
    have hlt : j < s.size := by
      have := congrArg List.length hd
      rw [List.length_drop, len_size] at this
      simp only [List.nil_append, List.length_cons] at this
      omega
    have q : (j : Int) < (s.size : Int) := by omega
    have q0 : (0 : Int) ≤ (j : Int) := by omega
    rw [drop_here s hlt] at hd
    have he : ((s[j]'hlt).toNat : Int) = a3 := by rw [(List.cons.inj hd).1]; exact xE_toNat h3
    rw [lamplighterref07_Decode.l1, if_pos q, if_pos q0, bt_here s hlt, if_pos he]
    rfl
  | cons c y ih =>
    intro r k j hd hn hk
    obtain ⟨k, rfl⟩ : ∃ m, k = m + 1 := ⟨k - 1, by simp only [List.length_cons] at hk; omega⟩
    have hlt : j < s.size := by
      have := congrArg List.length hd
      rw [List.length_drop, len_size] at this
      simp only [List.cons_append, List.length_cons] at this
      omega
    have q : (j : Int) < (s.size : Int) := by omega
    have q0 : (0 : Int) ≤ (j : Int) := by omega
    rw [drop_here s hlt, List.cons_append] at hd
    obtain ⟨hc, hd⟩ := List.cons.inj hd
    have hne : ((s[j]'hlt).toNat : Int) ≠ a3 := fun e => hn (by rw [← e, xE_of, hc]; exact List.mem_cons_self ..)
    rw [lamplighterref07_Decode.l1, if_pos q, if_pos q0, bt_here s hlt, if_neg hne, wrap_succ j (by omega), ih r k (j + 1) hd (fun h => hn (List.mem_cons_of_mem _ h)) (by simp only [List.length_cons] at hk; omega)]
    congr 1
    · simp only [List.length_cons]; omega
    · simp only [List.length_cons]; congr 1; omega
def decR (d : List UInt8 × Nat × Int) : ByteArray × Int × Int := (strOf d.1, (d.2.1 : Int), d.2.2)
theorem dec_arith {n i m k y r k2 t a : Nat} (hi : i < n) (hyl : y + r + 1 = n - (i + 1)) (hm : n - i ≤ m + 1) (hk : 2 * (n - i) + n + 10 ≤ k + 1) (hk2 : k - y - 1 = k2 + 1) (ht : t ≤ y) (ha : a ≤ i) :
    i + 1 + y + 1 ≤ n ∧ n - (i + 1 + y + 1) ≤ m ∧ 2 * (n - (i + 1 + y + 1)) + n + 10 ≤ k2 ∧ a + t ≤ i + 1 + y + 1 ∧ i + y + 2 = i + 1 + y + 1 := by
  refine ⟨?_, ?_, ?_, ?_, ?_⟩ <;> omega
theorem fit_two {a t i y n : Nat} (ha : a + t ≤ i + 1 + y + 1) (hi : i + 1 + y + 1 ≤ n) (hn : n ≤ 2000) : a + t ≤ 9223372036854775807 := by omega
set_option maxHeartbeats 2000000 in
theorem refDec_loop (s : ByteArray) {a0 a1 a2 a3 a4 : Int} (h3 : 0 ≤ a3 ∧ a3 ≤ 255) (hs : s.size ≤ 2000) (m : Nat) : ∀ (k i : Nat) (acc : List UInt8), i ≤ s.size → s.size - i ≤ m → 2 * (s.size - i) + s.size + 10 ≤ k → acc.length ≤ i → lamplighterref07_Decode.l0 k s (strOf acc) (i : Int) a0 a1 a2 a3 a4 = some (decR (decS a0 a1 a2 a3 a4 s.size false (cutL (xE a3) (s.data.toList.drop i)) acc i)) := by
  induction m with
  | zero =>
    intro k i acc hi hm hk ha
    obtain ⟨k, rfl⟩ : ∃ m, k = m + 1 := ⟨k - 1, by omega⟩
    obtain rfl : i = s.size := by omega
    have q : ¬ ((s.size : Int) < (s.size : Int)) := by omega
    rw [lamplighterref07_Decode.l0, if_neg q, drop_end s]
    show _ = some (decR (acc ++ [], s.size, 0))
    rw [List.append_nil]
    rfl
  | succ m ih =>
    intro k i acc hi hm hk ha
    by_cases hend : i = s.size
    · exact ih k i acc hi (by omega) hk ha
    obtain ⟨k, rfl⟩ : ∃ m, k = m + 1 := ⟨k - 1, by omega⟩
    have hlt : i < s.size := by omega
    have q : (i : Int) < (s.size : Int) := by omega
    have q0 : (0 : Int) ≤ (i : Int) := by omega
    have hw := wrap_succ i (by omega)
    rw [lamplighterref07_Decode.l0, if_pos q, if_pos q0, bt_here s hlt, hw, drop_here s hlt]
    by_cases he : ((s[i]'hlt).toNat : Int) = a3
    · have hc : (s[i]'hlt) = xE a3 := by rw [← he, xE_of]
      rw [if_pos he, hc, cutL_hit]
      have hrl : (s.data.toList.drop (i + 1)).length = s.size - (i + 1) := by rw [List.length_drop, len_size]
      by_cases hin : xE a3 ∈ s.data.toList.drop (i + 1)
      · obtain ⟨y, r, hyr, hy⟩ := first_hit hin
        have hyl : y.length + r.length + 1 = s.size - (i + 1) := by
          rw [hyr, List.length_append, List.length_cons] at hrl
          omega
        rw [scan_some s (strOf acc) h3 hs i y r k (i + 1) hyr hy (by omega), hyr, cutL_append_hit hy]
        obtain ⟨k2, hk2⟩ : ∃ k2, k - y.length - 1 = k2 + 1 := ⟨k - y.length - 2, by omega⟩
        rw [hk2, lamplighterref07_Decode.j2, if_neg (by omega), hw, if_pos (by omega), if_pos (by omega), if_pos (by omega)]
        have hcut : (s.extract (((i + 1 : Nat) : Int)).toNat (((i + 1 + y.length : Nat) : Int)).toNat).data.toList = y := by
          rw [Int.toNat_natCast, Int.toNat_natCast, ByteArray.data_extract]
          have e : (s.data.extract (i + 1) (i + 1 + y.length)).toList = (s.data.toList.drop (i + 1)).take y.length := by simp
          rw [e, hyr, List.take_left]
        have hcs : (s.extract (((i + 1 : Nat) : Int)).toNat (((i + 1 + y.length : Nat) : Int)).toNat).size = y.length := by rw [← len_size, hcut]
        rw [inside_is k2 _ a0 a1 a2 a3 a4 (by rw [hcs]; omega) (by rw [hcs]; omega), hcut, Option.bind_some]
        obtain ⟨z, p, hzp⟩ := cutL_form (xE a3) r
        have hdr : s.data.toList.drop (i + 1 + y.length + 1) = r := by
          have e1 : s.data.toList.drop (i + 1 + y.length + 1) = (s.data.toList.drop (i + 1)).drop (y.length + 1) := by rw [List.drop_drop]; congr 1
          rw [e1, hyr]
          have e2 : y ++ xE a3 :: r = (y ++ [xE a3]) ++ r := by simp
          rw [e2]
          have e3 : y.length + 1 = (y ++ [xE a3]).length := by simp
          rw [e3, List.drop_left]
        show _ = some (decR (decS a0 a1 a2 a3 a4 s.size true (y :: cutL (xE a3) r) (acc ++ []) i))
        rw [List.append_nil, hzp]
        cases ht : tellL a0 a1 a2 a3 a4 y with
        | none =>
          have e : decS a0 a1 a2 a3 a4 s.size true (y :: z :: p) acc i = ([], i, 10) := by simp only [decS, ht]
          rw [e]
          rfl
        | some t =>
          have htl := tell_length ht
          have e : decS a0 a1 a2 a3 a4 s.size true (y :: z :: p) acc i = decS a0 a1 a2 a3 a4 s.size false (z :: p) (acc ++ t) (i + y.length + 2) := by simp only [decS, ht]
          rw [e, ← hzp, ← hdr]
          unfold insR
          dsimp only
          obtain ⟨B1, B2, B3, B4, hii⟩ := dec_arith hlt hyl hm hk hk2 htl ha
          have B5' : i + 1 + y.length ≤ 1000000000 := Nat.le_trans (Nat.le_of_succ_le B1) (Nat.le_trans hs (by decide))
          have hww : wrap64 (((i + 1 + y.length : Nat) : Int) + 1) = ((i + 1 + y.length + 1 : Nat) : Int) := wrap_succ _ B5'
          have q5 : (strOf acc).size + (strOf t).size ≤ 9223372036854775807 := by
            rw [strOf_size, strOf_size]
            exact fit_two B4 B1 hs
          have B6 : (acc ++ t).length ≤ i + 1 + y.length + 1 := by rw [List.length_append]; exact B4
          rw [if_pos rfl, if_pos q5, ← strOf_snoc, hww, hii]
          exact ih k2 (i + 1 + y.length + 1) (acc ++ t) B1 B2 B3 B6
      · rw [scan_none s (strOf acc) h3 hs i (s.size - (i + 1)) k (i + 1) (by omega) rfl (by omega) hin, cutL_clean hin]
        obtain ⟨k2, hk2⟩ : ∃ k2, k - (s.size - (i + 1)) - 1 = k2 + 1 := ⟨k - (s.size - (i + 1)) - 2, by omega⟩
        rw [hk2, lamplighterref07_Decode.j2, if_pos rfl]
        rfl
    · have hc : (s[i]'hlt) ≠ xE a3 := fun e => he (by rw [e]; exact xE_toNat h3)
      have hcut : s.extract ((i : Int)).toNat (((i + 1 : Nat) : Int)).toNat = strOf [s[i]'hlt] := by
        rw [Int.toNat_natCast, Int.toNat_natCast]
        apply bytes_eq
        rw [ByteArray.data_extract, strOf_data]
        have e : (s.data.extract i (i + 1)).toList = (s.data.toList.drop i).take 1 := by simp
        rw [e, drop_here s hlt]
        rfl
      have P1 : (i : Int) ≤ ((i + 1 : Nat) : Int) := by omega
      have P2 : ((i + 1 : Nat) : Int) ≤ (s.size : Int) := by omega
      have P3 : (strOf acc).size + (strOf [s[i]'hlt]).size ≤ 9223372036854775807 := by
        rw [strOf_size, strOf_size, List.length_singleton]
        omega
      have P4 : i + 1 ≤ s.size := by omega
      have P5 : s.size - (i + 1) ≤ m := by omega
      have P6 : 2 * (s.size - (i + 1)) + s.size + 10 ≤ k := by omega
      have P7 : (acc ++ [s[i]'hlt]).length ≤ i + 1 := by
        rw [List.length_append, List.length_singleton]
        omega
      rw [if_neg he, if_pos P1, if_pos P2, hcut, if_pos P3, ← strOf_snoc]
      rw [ih k (i + 1) (acc ++ [s[i]'hlt]) P4 P5 P6 P7, cutL_miss hc]
      obtain ⟨z, p, hzp⟩ := cutL_form (xE a3) (s.data.toList.drop (i + 1))
      rw [hzp]
      show some (decR (decS a0 a1 a2 a3 a4 s.size true p (acc ++ [s[i]'hlt] ++ z) (i + 1 + z.length))) = some (decR (decS a0 a1 a2 a3 a4 s.size true p (acc ++ (s[i]'hlt) :: z) (i + (z.length + 1))))
      rw [List.append_assoc, show i + (z.length + 1) = i + 1 + z.length by omega]
      rfl
theorem EscapeDecodes (s : ByteArray) (a0 a1 a2 a3 a4 : Int) (hs : s.size ≤ 140737488351232) (h0 : 0 ≤ a0 ∧ a0 ≤ 255) (h1 : 0 ≤ a1 ∧ a1 ≤ 255) (h2 : 0 ≤ a2 ∧ a2 ≤ 255) (h3 : 0 ≤ a3 ∧ a3 ≤ 255) (h4 : 0 ≤ a4 ∧ a4 ≤ 255) : ∃ k, lamplighterlaw07_EscapeDecodes.f k s a0 a1 a2 a3 a4 = some true := by
  have hb : B5 a0 a1 a2 a3 a4 := ⟨h0, h1, h2, h3, h4⟩
  refine ⟨6100, ?_⟩
  unfold lamplighterlaw07_EscapeDecodes.f
  rw [alive_is]
  by_cases hbig : (s.size : Int) > 2000
  · rw [if_pos hbig]; rfl
  have hs2 : s.size ≤ 2000 := by omega
  rw [if_neg hbig, refRight_sg _ (by decide)]
  by_cases hg : Sg a0 a1 a2 a3 a4
  · have href : lamplighterref07_Decode.f 6100 s a0 a1 a2 a3 a4 = some (decR (decL a0 a1 a2 a3 a4 s.data.toList)) := by
      unfold lamplighterref07_Decode.f decL
      have h := refDec_loop s h3 hs2 s.size 6100 0 [] (by omega) (by omega) (by omega) (by simp) (a0 := a0) (a1 := a1) (a2 := a2) (a4 := a4)
      rw [List.drop_zero] at h
      rw [len_size]
      exact h
    rw [dec_sg (by omega) hb hg, Option.bind_some, Option.bind_some, if_pos (decide_eq_true hg), href, Option.bind_some, Option.bind_some, if_pos rfl]
    unfold decR
    dsimp only
    rw [if_pos rfl, if_pos rfl]
    congr 1
    exact beq_self_eq_true _
  · rw [dec_no (by omega) hb hg, Option.bind_some, Option.bind_some, if_neg (fun h => hg (of_decide_eq_true h)), Option.bind_some, if_pos rfl]
    dsimp only
    rw [if_pos rfl, if_pos (by rw [Lib.toList_data]), ]
    rfl
end Go.Proofs.YtokpkdmkdolmdaaDoor.Pure
