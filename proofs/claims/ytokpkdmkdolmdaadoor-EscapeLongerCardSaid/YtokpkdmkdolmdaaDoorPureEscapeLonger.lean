/- The law EscapeLonger as a statement over bytes: how long what is encoded and what is decoded is; no conditions. -/
import Derived.Test.YtokpkdmkdolmdaaDoorPGx10
import Derived.Test.YtokpkdmkdolmdaaDoorPGx23
import Derived.Test.YtokpkdmkdolmdaaDoorAlive7
namespace Go.Proofs.YtokpkdmkdolmdaaDoor.Pure
open Go Go.RowKit Go.Proofs.YtokpkdmkdolmdaaDoor.PG Go.Proofs.YtokpkdmkdolmdaaDoorW.PrintWords Go.Proofs.YtokpkdmkdolmdaaDoorW.PrintLast

theorem plain_sg : Sg 124 94 126 92 38 := by decide
theorem plain_b5 : B5 124 94 126 92 38 := by decide
/-- How long a byte is, encoded. -/
theorem enc_plain : ∀ n : Fin 256, (encC 124 94 126 92 38 (UInt8.ofNat n.val)).length = if n.val = 124 ∨ n.val = 94 ∨ n.val = 126 ∨ n.val = 92 ∨ n.val = 38 then 3 else if n.val = 11 ∨ n.val = 13 ∨ n.val = 28 then 5 else 1 := by decide +kernel
theorem enc_len (c : UInt8) : (encC 124 94 126 92 38 c).length = if c.toNat = 124 ∨ c.toNat = 94 ∨ c.toNat = 126 ∨ c.toNat = 92 ∨ c.toNat = 38 then 3 else if c.toNat = 11 ∨ c.toNat = 13 ∨ c.toNat = 28 then 5 else 1 := by
  have h := enc_plain ⟨c.toNat, c.toNat_lt⟩
  have e : UInt8.ofNat c.toNat = c := by simp
  rw [e] at h
  exact h
theorem longer_loop {s : ByteArray} (hs : s.size ≤ 1500) (d : Nat) :
    ∀ (k i n : Nat), i ≤ s.size → s.size - i = d → 2 * d < k → n ≤ 7500 + 5 * i → lamplighterlaw07_EscapeLonger.l0 k s (n : Int) (s.size : Int) (i : Int) = lamplighterlaw07_EscapeLonger.l0 1 s ((n + (encL 124 94 126 92 38 (s.data.toList.drop i)).length - (s.size - i) : Nat) : Int) (s.size : Int) (s.size : Int) := by
  induction d with
  | zero =>
    intro k i n hi hd hk hn
    obtain ⟨k, rfl⟩ : ∃ m, k = m + 1 := ⟨k - 1, by omega⟩
    obtain rfl : i = s.size := by omega
    have q : ¬ ((s.size : Int) < (s.size : Int)) := by omega
    have e : n + (encL 124 94 126 92 38 (s.data.toList.drop s.size)).length - (s.size - s.size) = n := by rw [drop_end s]; show n + 0 - _ = n; omega
    rw [e, lamplighterlaw07_EscapeLonger.l0, lamplighterlaw07_EscapeLonger.l0, if_neg q, if_neg q]
  | succ d ih =>
    intro k i n hi hd hk hn
    obtain ⟨k, rfl⟩ : ∃ m, k = m + 2 := ⟨k - 2, by omega⟩
    have hlt : i < s.size := by omega
    have q : (i : Int) < (s.size : Int) := by omega
    have q0 : (0 : Int) ≤ (i : Int) := by omega
    have A1 : i + 1 ≤ s.size := by omega
    have A2 : s.size - (i + 1) = d := by omega
    have A3 : 2 * d < k := by omega
    have A4 : n + 4 ≤ 7500 + 5 * (i + 1) := by omega
    have A5 : n + 2 ≤ 7500 + 5 * (i + 1) := by omega
    have A6 : n ≤ 7500 + 5 * (i + 1) := by omega
    have hw1 := wrap_succ i (by omega)
    have hw2 : wrap64 ((n : Int) + 2) = ((n + 2 : Nat) : Int) := by rw [wrap_fit (by omega) (by omega)]; omega
    have hw4 : wrap64 ((n : Int) + 4) = ((n + 4 : Nat) : Int) := by rw [wrap_fit (by omega) (by omega)]; omega
    have hdr := drop_here s hlt
    rw [lamplighterlaw07_EscapeLonger.l0, if_pos q, if_pos q0, if_pos q, bt_here s hlt]
    have hle := enc_len (s[i]'hlt)
    have henc : (encL 124 94 126 92 38 (s.data.toList.drop i)).length = (encC 124 94 126 92 38 (s[i]'hlt)).length + (encL 124 94 126 92 38 (s.data.toList.drop (i + 1))).length := by
      rw [hdr, encL_cons, List.length_append]
    have hll := encL_length 124 94 126 92 38 (s.data.toList.drop (i + 1))
    have hdl : (s.data.toList.drop (i + 1)).length = s.size - (i + 1) := by rw [List.length_drop, len_size]
    rw [henc]
    generalize hM : (encL 124 94 126 92 38 (s.data.toList.drop (i + 1))).length = M at hll ⊢
    generalize hc : (s[i]'hlt).toNat = c at hle ⊢
    generalize (encC 124 94 126 92 38 (s[i]'hlt)).length = m at hle ⊢
    by_cases h1 : c = 124 ∨ c = 94 ∨ c = 126 ∨ c = 92 ∨ c = 38
    · rw [if_pos h1] at hle
      have e : (if (c : Int) = 124 then lamplighterlaw07_EscapeLonger.j1 (k + 1) s n s.size i c ((c : Int) == 124) else if (c : Int) = 94 then lamplighterlaw07_EscapeLonger.j1 (k + 1) s n s.size i c ((c : Int) == 94) else if (c : Int) = 126 then lamplighterlaw07_EscapeLonger.j1 (k + 1) s n s.size i c ((c : Int) == 126) else if (c : Int) = 92 then lamplighterlaw07_EscapeLonger.j1 (k + 1) s n s.size i c ((c : Int) == 92) else lamplighterlaw07_EscapeLonger.j1 (k + 1) s n s.size i c ((c : Int) == 38)) = lamplighterlaw07_EscapeLonger.j1 (k + 1) s n s.size i c true := by
        rcases h1 with h1 | h1 | h1 | h1 | h1
        · rw [if_pos (by omega), show ((c : Int) == 124) = true by rw [beq_iff_eq]; omega]
        · rw [if_neg (by omega), if_pos (by omega), show ((c : Int) == 94) = true by rw [beq_iff_eq]; omega]
        · rw [if_neg (by omega), if_neg (by omega), if_pos (by omega), show ((c : Int) == 126) = true by rw [beq_iff_eq]; omega]
        · rw [if_neg (by omega), if_neg (by omega), if_neg (by omega), if_pos (by omega), show ((c : Int) == 92) = true by rw [beq_iff_eq]; omega]
        · rw [if_neg (by omega), if_neg (by omega), if_neg (by omega), if_neg (by omega), show ((c : Int) == 38) = true by rw [beq_iff_eq]; omega]
      rw [e, lamplighterlaw07_EscapeLonger.j1, if_pos rfl, hw1, hw2, ih k (i + 1) (n + 2) A1 A2 A3 A5, hM]
      congr 2
      omega
    · rw [if_neg h1] at hle
      rw [if_neg (by omega), if_neg (by omega), if_neg (by omega), if_neg (by omega), lamplighterlaw07_EscapeLonger.j1, if_neg (by rw [beq_iff_eq]; omega), hw1, hw4]
      by_cases h2 : c = 11 ∨ c = 13 ∨ c = 28
      · rw [if_pos h2] at hle
        rw [ih k (i + 1) (n + 4) A1 A2 A3 A4, ih k (i + 1) n A1 A2 A3 A6, hM]
        have e2 : n + 4 + M - (s.size - (i + 1)) = n + (m + M) - (s.size - i) := by omega
        rw [e2]
        by_cases q1 : (c : Int) = 11
        · rw [if_pos q1]
        · rw [if_neg q1]
          by_cases q2 : (c : Int) = 13
          · rw [if_pos q2]
          · rw [if_neg q2, if_pos (by omega)]
      · rw [if_neg h2] at hle
        rw [if_neg (by omega), if_neg (by omega), if_neg (by omega), ih k (i + 1) n A1 A2 A3 A6, hM]
        congr 2
        omega
theorem EscapeLonger (s : ByteArray) (hs : s.size ≤ 140737488351232) : ∃ k, lamplighterlaw07_EscapeLonger.f k s = some true := by
  refine ⟨3002, ?_⟩
  unfold lamplighterlaw07_EscapeLonger.f
  rw [alive_is]
  by_cases hbig : (s.size : Int) > 1500
  · rw [if_pos hbig]; rfl
  rw [if_neg hbig]
  have hl := longer_loop (s := s) (by omega) _ 3002 0 s.size (by omega) rfl (by omega) (by omega)
  refine Eq.trans hl ?_
  have hlen := encL_length 124 94 126 92 38 s.data.toList
  rw [len_size] at hlen
  have q : ¬ ((s.size : Int) < (s.size : Int)) := by omega
  have e0 : s.size + (encL 124 94 126 92 38 (s.data.toList.drop 0)).length - (s.size - 0) = (encL 124 94 126 92 38 s.data.toList).length := by rw [List.drop_zero]; omega
  rw [e0, lamplighterlaw07_EscapeLonger.l0, if_neg q]
  unfold lamplighterlaw07_plain.f
  rw [Option.bind_some]
  dsimp only
  rw [enc_sg (by omega) plain_b5 plain_sg, Option.bind_some, Option.bind_some]
  dsimp only
  rw [dec_sg (by omega) plain_b5 plain_sg, Option.bind_some, alive_is, Option.bind_some, if_pos rfl]
  dsimp only
  rw [if_pos rfl, if_pos (by rw [strOf_size])]
  have hsum := cut_sum (xE 92) s.data.toList
  rw [len_size] at hsum
  have hx : xE 92 = 92 := by decide
  have hpos := cutL_length_pos (xE 92) s.data.toList
  unfold decL
  rw [len_size]
  cases hd : decO 124 94 126 92 38 false (cutL (xE 92) s.data.toList) with
  | some z =>
    have hz := decO_length 124 94 126 92 38 _ false z hd
    rw [decS_some 124 94 126 92 38 s.size _ false z [] 0 hd]
    dsimp only
    rw [if_pos (by rw [strOf_size, List.nil_append]; omega), if_pos rfl, if_pos rfl]
  | none =>
    obtain ⟨j, hj⟩ := decS_none 124 94 126 92 38 s.size _ false [] 0 hd
    obtain ⟨o, ho, hlo⟩ := dec_place 124 94 126 92 38 s.size _ s.data.toList [] 0 j (Nat.le_refl _) hj
    rw [hj]
    dsimp only
    have hos : o < s.size := by
      have := (List.getElem?_eq_some_iff.1 hlo).1
      rwa [len_size] at this
    have hjo : j = o := by omega
    subst hjo
    have hb : bt s (j : Int) = 92 := by
      rw [bt_here s hos]
      have h2 : s.data.toList[j]? = some (s[j]'hos) := by
        rw [List.getElem?_eq_getElem (by rw [len_size]; exact hos)]
        rfl
      rw [h2] at hlo
      rw [Option.some.inj hlo, hx]
      rfl
    have e1 : (strOf ([] : List UInt8)).size = 0 := rfl
    have e2 : (strOf ([] : List UInt8)).toList = [] := by rw [strOf_list]
    rw [if_pos (by rw [e1]; omega), if_neg (by decide), if_pos rfl, if_pos e2, if_pos (by omega), if_pos (by omega), hb]
    rfl
end Go.Proofs.YtokpkdmkdolmdaaDoor.Pure
