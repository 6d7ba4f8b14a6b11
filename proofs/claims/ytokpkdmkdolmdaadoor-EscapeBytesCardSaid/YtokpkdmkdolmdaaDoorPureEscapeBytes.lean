/- The law EscapeBytes as a statement over bytes: any bytes, as pairs of digits, are told as they are; with an odd digit, or none, it is wrong at its beginning; condition: the numbers are bytes. -/
import Derived.Test.YtokpkdmkdolmdaaDoorPGx10
import Derived.Test.YtokpkdmkdolmdaaDoorPGx21
import Derived.Test.YtokpkdmkdolmdaaDoorAlive7
namespace Go.Proofs.YtokpkdmkdolmdaaDoor.Pure
open Go Go.RowKit Go.Proofs.YtokpkdmkdolmdaaDoor Go.Proofs.YtokpkdmkdolmdaaDoor.PG Go.Proofs.YtokpkdmkdolmdaaDoorW.PrintWords Go.Proofs.YtokpkdmkdolmdaaDoorW.PrintLast

def hexD : ByteArray := ⟨#[48, 49, 50, 51, 52, 53, 54, 55, 56, 57, 65, 66, 67, 68, 69, 70]⟩
/-- The two digits of a byte. -/
def hexP (c : Int) : List UInt8 := [UInt8.ofNat (bt hexD (c / 16)).toNat, UInt8.ofNat (bt hexD (Go.bits .and .u8 c 15)).toNat]
theorem pairs_all : ∀ n : Fin 256, (0 ≤ Go.bits .and .u8 (n.val : Int) 15 ∧ Go.bits .and .u8 (n.val : Int) 15 < 16) ∧ hexL (hexP (n.val : Int)) = some [UInt8.ofNat n.val] ∧ (92 : UInt8) ∉ hexP (n.val : Int) := by decide +kernel
theorem pairs_at {c : Int} (h : 0 ≤ c ∧ c ≤ 255) : (0 ≤ Go.bits .and .u8 c 15 ∧ Go.bits .and .u8 c 15 < 16) ∧ hexL (hexP c) = some [xE c] ∧ (92 : UInt8) ∉ hexP c := by
  have h1 := pairs_all ⟨c.toNat, by omega⟩
  have e : ((c.toNat : Nat) : Int) = c := by omega
  have h2 : (0 ≤ Go.bits .and .u8 (c.toNat : Int) 15 ∧ Go.bits .and .u8 (c.toNat : Int) 15 < 16) ∧ hexL (hexP (c.toNat : Int)) = some [UInt8.ofNat c.toNat] ∧ (92 : UInt8) ∉ hexP (c.toNat : Int) := h1
  rw [e] at h2
  exact h2
theorem pairs_str (c : Int) : strOfNums ([bt (⟨#[48, 49, 50, 51, 52, 53, 54, 55, 56, 57, 65, 66, 67, 68, 69, 70]⟩ : ByteArray) (c / 16), bt (⟨#[48, 49, 50, 51, 52, 53, 54, 55, 56, 57, 65, 66, 67, 68, 69, 70]⟩ : ByteArray) (Go.bits .and .u8 c 15)] : List Int) = strOf (hexP c) := rfl
def allP (l : List Int) : List UInt8 := l.flatMap hexP
def eachP (l : List Int) : List UInt8 := l.flatMap fun c => [92, 88] ++ hexP c ++ [92]
theorem hexL_pair {a b : UInt8} {c : UInt8} (h : hexL [a, b] = some [c]) (r : List UInt8) : hexL (a :: b :: r) = (hexL r).map (c :: ·) := by
  have hR : hexL (a :: b :: r) = (hexV a).bind fun x => (hexV b).bind fun y => (hexL r).bind fun z => some (UInt8.ofNat (16 * x + y) :: z) := rfl
  have hH : hexL [a, b] = (hexV a).bind fun x => (hexV b).bind fun y => some [UInt8.ofNat (16 * x + y)] := rfl
  rw [hH] at h
  obtain ⟨x, hx, h⟩ := Option.bind_eq_some_iff.1 h
  obtain ⟨y, hy, h⟩ := Option.bind_eq_some_iff.1 h
  have e : UInt8.ofNat (16 * x + y) = c := (List.cons.inj (Option.some.inj h)).1
  rw [hR, hx, hy, Option.bind_some, Option.bind_some, e]
  cases hexL r <;> rfl
theorem all_hex : ∀ (l : List Int), (∀ c ∈ l, 0 ≤ c ∧ c ≤ 255) → hexL (allP l) = some (l.map xE) ∧ (92 : UInt8) ∉ allP l ∧ (allP l).length = 2 * l.length
  | [], _ => ⟨rfl, by simp [allP], rfl⟩
  | c :: l, h => by
    obtain ⟨h1, h2, h3⟩ := all_hex l (fun x hx => h x (List.mem_cons_of_mem _ hx))
    obtain ⟨_, p2, p3⟩ := pairs_at (h c (List.mem_cons_self ..))
    have e : allP (c :: l) = hexP c ++ allP l := rfl
    refine ⟨?_, ?_, ?_⟩
    · rw [e]
      show hexL (UInt8.ofNat (bt hexD (c / 16)).toNat :: UInt8.ofNat (bt hexD (Go.bits .and .u8 c 15)).toNat :: allP l) = _
      rw [hexL_pair p2, h1]
      rfl
    · rw [e, List.mem_append]
      exact fun q => q.elim p3 h2
    · rw [e, List.length_append, h3]
      show 2 + _ = 2 * (l.length + 1)
      omega
theorem each_dec : ∀ (l : List Int), (∀ c ∈ l, 0 ≤ c ∧ c ≤ 255) → decO 124 94 126 92 38 false (cutL 92 (eachP l)) = some (l.map xE)
  | [], _ => rfl
  | c :: l, h => by
    obtain ⟨_, p2, p3⟩ := pairs_at (h c (List.mem_cons_self ..))
    have e : eachP (c :: l) = 92 :: ((88 :: hexP c) ++ 92 :: eachP l) := by
      show ([92, 88] ++ hexP c ++ [92]) ++ eachP l = _
      simp
    have hn : (92 : UInt8) ∉ (88 :: hexP c) := by
      rw [List.mem_cons]
      rintro (q | q)
      · exact absurd q (by decide)
      · exact p3 q
    rw [e, cutL_hit, cutL_append_hit hn]
    have ih := each_dec l (fun x hx => h x (List.mem_cons_of_mem _ hx))
    obtain ⟨z, p, hz⟩ := cutL_form 92 (eachP l)
    rw [hz] at ih ⊢
    have ht : tellL 124 94 126 92 38 (88 :: hexP c) = some [xE c] := by
      have e1 : hexT (88 :: hexP c) = hexL (hexP c) := rfl
      unfold tellL
      rw [if_neg (by simp), if_neg (by simp), if_neg (by simp), if_neg (by simp), if_neg (by simp), e1, p2]
    show (decO 124 94 126 92 38 true ((88 :: hexP c) :: z :: p)).map ([] ++ ·) = _
    unfold decO
    rw [ht, Option.bind_some, ih]
    rfl
theorem each_len : ∀ l : List Int, (eachP l).length = 5 * l.length
  | [] => rfl
  | c :: l => by
    have h := each_len l
    show (([92, 88] ++ hexP c ++ [92]) ++ eachP l).length = _
    rw [List.length_append, h]
    show 5 + _ = 5 * (l.length + 1)
    omega
theorem bytes_loop {l : List Int} (ah : ByteArray) (hl : l.length ≤ 300) (hb : ∀ c ∈ l, 0 ≤ c ∧ c ≤ 255) (d : Nat) : ∀ (k i : Nat), i ≤ l.length → l.length - i = d → d < k →
    lamplighterlaw07_EscapeBytes.l0 k l ah (strOf (allP (l.take i))) (strOf (eachP (l.take i))) l (l.length : Int) (i : Int) = lamplighterlaw07_EscapeBytes.l0 1 l ah (strOf (allP l)) (strOf (eachP l)) l (l.length : Int) (l.length : Int) := by
  induction d with
  | zero =>
    intro k i hi hd hk
    obtain ⟨k, rfl⟩ : ∃ m, k = m + 1 := ⟨k - 1, by omega⟩
    obtain rfl : i = l.length := by omega
    have q : ¬ ((l.length : Int) < (l.length : Int)) := by omega
    rw [List.take_length, lamplighterlaw07_EscapeBytes.l0, lamplighterlaw07_EscapeBytes.l0, if_neg q, if_neg q]
  | succ d ih =>
    intro k i hi hd hk
    obtain ⟨k, rfl⟩ : ∃ m, k = m + 1 := ⟨k - 1, by omega⟩
    have hlt : i < l.length := by omega
    have q : (i : Int) < (l.length : Int) := by omega
    have q0 : (0 : Int) ≤ (i : Int) := by omega
    have hrd : rd l (i : Int) = l[i]'hlt := by
      unfold rd
      rw [Int.toNat_natCast, List.getD_eq_getElem?_getD, List.getElem?_eq_getElem hlt]
      rfl
    have hc := hb _ (List.getElem_mem hlt)
    have hlt1 : (allP (l.take i)).length = 2 * i := by
      have := (all_hex (l.take i) (fun x hx => hb x (List.mem_of_mem_take hx))).2.2
      rw [this, List.length_take]; omega
    have hlt2 : (eachP (l.take i)).length = 5 * i := by rw [each_len, List.length_take]; omega
    have htk : l.take (i + 1) = l.take i ++ [l[i]'hlt] := by rw [List.take_succ_eq_append_getElem hlt]
    obtain ⟨⟨b0, b1⟩, p2, p3⟩ := pairs_at hc
    have ih2 := ih k (i + 1) (by omega) (by omega) (by omega)
    have e1 : allP (l.take (i + 1)) = allP (l.take i) ++ hexP (l[i]'hlt) := by rw [htk]; unfold allP; rw [List.flatMap_append]; simp
    have e2 : eachP (l.take (i + 1)) = eachP (l.take i) ++ (([92, 88] ++ hexP (l[i]'hlt)) ++ [92]) := by rw [htk]; unfold eachP; rw [List.flatMap_append]; simp
    rw [e1, e2] at ih2
    rw [lamplighterlaw07_EscapeBytes.l0, if_pos q, if_pos q0, if_pos q, hrd]
    generalize l[i]'hlt = c at *
    have hp2 : (hexP c).length = 2 := rfl
    have x1 : (⟨#[92, 88]⟩ : ByteArray) = strOf [92, 88] := rfl
    have x2 : (⟨#[92]⟩ : ByteArray) = strOf [92] := rfl
    have g1 : 0 ≤ c / 16 := by omega
    have g2 : c / 16 < 16 := by omega
    have g3 : (strOf (allP (l.take i))).size + (strOf (hexP c)).size ≤ 9223372036854775807 := by
      rw [strOf_size, strOf_size, hlt1, hp2]
      omega
    have g4 : 2 + (strOf (hexP c)).size ≤ 9223372036854775807 := by
      rw [strOf_size, hp2]
      decide
    have g5 : (strOf [92, 88] ++ strOf (hexP c)).size + 1 ≤ 9223372036854775807 := by
      rw [← strOf_snoc, strOf_size, List.length_append, hp2]
      decide
    have g6 : (strOf (eachP (l.take i))).size + ((strOf [92, 88] ++ strOf (hexP c)) ++ strOf [92]).size ≤ 9223372036854775807 := by
      have e2 : ([92, 88] : List UInt8).length = 2 := rfl
      have e1 : ([92] : List UInt8).length = 1 := rfl
      rw [← strOf_snoc, ← strOf_snoc, strOf_size, strOf_size, hlt2, List.length_append, List.length_append, hp2, e2, e1]
      omega
    rw [if_pos g1, if_pos g2, if_pos b0, if_pos b1, Option.bind_some, pairs_str, x1, x2, if_pos g3, if_pos g4, if_pos g5, if_pos g6]
    rw [← strOf_snoc, ← strOf_snoc, ← strOf_snoc, ← strOf_snoc, wrap_succ i (by omega)]
    exact ih2
theorem dec_is {s : ByteArray} (hs : s.size ≤ 1000000) (z : List UInt8) (h : decO 124 94 126 92 38 false (cutL 92 s.data.toList) = some z) : escape_Decode.f s 124 94 126 92 38 = some (strOf z, (s.size : Int), 0) := by
  rw [dec_sg hs (by decide) (by decide)]
  unfold decL
  have hx : xE 92 = 92 := by decide
  rw [hx, decS_some 124 94 126 92 38 _ _ false z [] 0 h, len_size, List.nil_append]
theorem dec_at {s : ByteArray} (hs : s.size ≤ 1000000) (a y : List UInt8) (r : List (List UInt8)) (hc : cutL 92 s.data.toList = a :: y :: r) (h : tellL 124 94 126 92 38 y = none ∨ r = []) : escape_Decode.f s 124 94 126 92 38 = some (strOf [], (a.length : Int), 10) := by
  rw [dec_sg hs (by decide) (by decide)]
  unfold decL
  have hx : xE 92 = 92 := by decide
  rw [hx, hc]
  have e : decS 124 94 126 92 38 s.data.toList.length false (a :: y :: r) [] 0 = ([], a.length, 10) := by
    show decS 124 94 126 92 38 s.data.toList.length true (y :: r) ([] ++ a) (0 + a.length) = _
    rw [Nat.zero_add]
    cases r with
    | nil => rfl
    | cons z p =>
      rcases h with h | h
      · simp only [decS, h]
      · cases h
  rw [e]
theorem clean_no {l : List UInt8} (h : cleanL 124 94 126 92 38 l = true) : (92 : UInt8) ∉ l := by
  intro hm
  unfold cleanL at h
  have h2 := List.all_eq_true.1 h 92 hm
  exact absurd h2 (by decide)
theorem EscapeBytes (l : List Int) (ah : ByteArray) (hb : ∀ c ∈ l, 0 ≤ c ∧ c ≤ 255) (ha : ah.size ≤ 140737488351232) : ∃ k, lamplighterlaw07_EscapeBytes.f k l ah = some true := by
  refine ⟨303, ?_⟩
  unfold lamplighterlaw07_EscapeBytes.f
  have hj : lamplighterlaw07_EscapeBytes.j0 303 l ah true = some true := by rw [lamplighterlaw07_EscapeBytes.j0, if_pos rfl, alive_is]; rfl
  by_cases h1 : (l.length : Int) > 300
  · rw [if_pos h1, hj]
  rw [if_neg h1]
  by_cases h2 : (ah.size : Int) > 300
  · rw [if_pos h2, hj]
  rw [if_neg h2]
  by_cases h3 : (l.length : Int) = 0
  · rw [if_pos h3, hj]
  rw [if_neg h3]
  unfold lamplighterlaw07_plain.f
  rw [Option.bind_some]
  dsimp only
  rw [clean_is (by omega) (by decide), Option.bind_some]
  cases hcl : cleanL 124 94 126 92 38 ah.data.toList with
  | false => exact hj
  | true =>
    rw [lamplighterlaw07_EscapeBytes.j0, if_neg (by decide)]
    have hL := bytes_loop (l := l) ah (by omega) hb _ 302 0 (by omega) rfl (by omega)
    rw [List.take_zero] at hL
    refine Eq.trans hL ?_
    obtain ⟨a1, a2, a3⟩ := all_hex l hb
    have hed := each_dec l hb
    have hel := each_len l
    have hcn := clean_no hcl
    have hah := len_size ah
    have hmap : (l.map xE) = Lib.bytesOf l := rfl
    have q : ¬ ((l.length : Int) < (l.length : Int)) := by omega
    have x1 : (⟨#[92, 88]⟩ : ByteArray) = strOf [92, 88] := rfl
    have x2 : (⟨#[92]⟩ : ByteArray) = strOf [92] := rfl
    have x3 : (⟨#[48, 92]⟩ : ByteArray) = strOf [48, 92] := rfl
    have x4 : (⟨#[92, 88, 92]⟩ : ByteArray) = strOf [92, 88, 92] := rfl
    have xa : ah = strOf ah.data.toList := (strOf_of ah).symm
    obtain ⟨A, hA⟩ : ∃ A, A = ah.data.toList := ⟨_, rfl⟩
    rw [← hA] at hcn hah xa
    have hAs : ah.size = A.length := hah.symm
    have hne : allP l ≠ [] := by
      intro e
      rw [e] at a3
      simp only [List.length_nil] at a3
      omega
    obtain ⟨c0, r0, hcr⟩ : ∃ c r, allP l = c :: r := by
      cases q : allP l with
      | nil => exact absurd q hne
      | cons c r => exact ⟨c, r, rfl⟩
    rw [lamplighterlaw07_EscapeBytes.l0, if_neg q, x1, x2, x3, x4, xa]
    have s1 : (strOf A).size = A.length := strOf_size _
    have z1 : (strOf A ++ strOf [92, 88]) ++ strOf (allP l) = strOf (A ++ 92 :: (88 :: allP l)) := by rw [← strOf_snoc, ← strOf_snoc]; congr 1; simp
    have z2 : strOf (A ++ 92 :: (88 :: allP l)) ++ strOf [92] = strOf (A ++ 92 :: ((88 :: allP l) ++ 92 :: [])) := by rw [← strOf_snoc]; congr 1; simp
    have z3 : strOf (A ++ 92 :: (88 :: allP l)) ++ strOf [48, 92] = strOf (A ++ 92 :: ((88 :: (allP l ++ [48])) ++ 92 :: [])) := by rw [← strOf_snoc]; congr 1; simp
    have z4 : strOf A ++ strOf [92, 88, 92] = strOf (A ++ 92 :: ([88] ++ 92 :: [])) := by rw [← strOf_snoc]; congr 1
    have z5 : strOf A ++ strOf (eachP l) = strOf (A ++ eachP l) := by rw [← strOf_snoc]
    have n1 : (92 : UInt8) ∉ (88 :: allP l) := by
      rw [List.mem_cons]
      rintro (q | q)
      · exact absurd q (by decide)
      · exact a2 q
    have n2 : (92 : UInt8) ∉ (88 :: (allP l ++ [48])) := by
      rw [List.mem_cons, List.mem_append]
      rintro (q | q | q)
      · exact absurd q (by decide)
      · exact a2 q
      · exact absurd q (by decide)
    have t1 : tellL 124 94 126 92 38 (88 :: allP l) = some (Lib.bytesOf l) := by
      rw [hcr] at a1 ⊢
      have e1 : hexT (88 :: c0 :: r0) = hexL (c0 :: r0) := rfl
      unfold tellL
      rw [if_neg (by simp), if_neg (by simp), if_neg (by simp), if_neg (by simp), if_neg (by simp), e1, a1]
      rfl
    have t2 : tellL 124 94 126 92 38 (88 :: (allP l ++ [48])) = none := by
      have ho : hexL (allP l ++ [48]) = none := by
        cases e : hexL (allP l ++ [48]) with
        | none => rfl
        | some t =>
          have := hexL_length _ _ e
          rw [List.length_append, a3, List.length_singleton] at this
          omega
      rw [hcr] at ho ⊢
      have e1 : hexT (88 :: (c0 :: r0 ++ [48])) = hexL (c0 :: r0 ++ [48]) := rfl
      unfold tellL
      rw [if_neg (by simp), if_neg (by simp), if_neg (by simp), if_neg (by simp), if_neg (by simp), e1, ho]
    have t3 : tellL 124 94 126 92 38 [88] = none := by decide
    have D1 : escape_Decode.f (strOf (A ++ 92 :: ((88 :: allP l) ++ 92 :: []))) 124 94 126 92 38 = some (strOf (A ++ Lib.bytesOf l), _, 0) :=
      dec_is (by rw [strOf_size]; simp only [List.length_append, List.length_cons, List.length_nil]; omega) _ (by
        rw [strOf_data, cutL_append_hit hcn, cutL_append_hit n1, cutL_nil]
        show (decO 124 94 126 92 38 true [88 :: allP l, []]).map (A ++ ·) = _
        unfold decO
        rw [t1]
        show some (A ++ (Lib.bytesOf l ++ ([] ++ []))) = _
        simp)
    have D2 : escape_Decode.f (strOf (A ++ eachP l)) 124 94 126 92 38 = some (strOf (A ++ Lib.bytesOf l), _, 0) :=
      dec_is (by rw [strOf_size, List.length_append, hel]; omega) _ (by
        obtain ⟨v, qq, hv⟩ := cutL_form 92 (eachP l)
        rw [strOf_data, cut_glue, cutL_clean hcn, hv]
        rw [hv] at hed
        exact decO_glue 124 94 126 92 38 v qq _ hed [] A false A (by show some (A ++ []) = some A; rw [List.append_nil]))
    have D3 : escape_Decode.f (strOf (A ++ 92 :: ((88 :: (allP l ++ [48])) ++ 92 :: []))) 124 94 126 92 38 = some (strOf [], (A.length : Int), 10) :=
      dec_at (by rw [strOf_size]; simp only [List.length_append, List.length_cons, List.length_nil]; omega) A _ _ (by rw [strOf_data, cutL_append_hit hcn, cutL_append_hit n2, cutL_nil]) (Or.inl t2)
    have D4 : escape_Decode.f (strOf (A ++ 92 :: ([88] ++ 92 :: []))) 124 94 126 92 38 = some (strOf [], (A.length : Int), 10) :=
      dec_at (by rw [strOf_size]; simp only [List.length_append, List.length_cons, List.length_nil]; omega) A _ _ (by rw [strOf_data, cutL_append_hit hcn, cutL_append_hit (by decide), cutL_nil]) (Or.inl t3)
    have D5 : escape_Decode.f (strOf (A ++ 92 :: (88 :: allP l))) 124 94 126 92 38 = some (strOf [], (A.length : Int), 10) :=
      dec_at (by rw [strOf_size]; simp only [List.length_append, List.length_cons]; omega) A _ _ (by rw [strOf_data, cutL_append_hit hcn, cutL_clean n1]) (Or.inr rfl)
    have f2 : (strOf [92, 88]).size = 2 := rfl
    have w1 : (strOf A).size + 2 ≤ 9223372036854775807 := by rw [s1]; omega
    have w2 : (strOf A ++ strOf [92, 88]).size + (strOf (allP l)).size ≤ 9223372036854775807 := by
      have e2 : ([92, 88] : List UInt8).length = 2 := rfl
      rw [← strOf_snoc, strOf_size, strOf_size, List.length_append, a3, e2]
      omega
    have w3 : (strOf (A ++ 92 :: (88 :: allP l))).size + 1 ≤ 9223372036854775807 := by rw [strOf_size]; simp only [List.length_append, List.length_cons]; omega
    have w4 : (strOf A).size + (strOf (eachP l)).size ≤ 9223372036854775807 := by rw [s1, strOf_size, hel]; omega
    have w5 : (strOf (A ++ 92 :: (88 :: allP l))).size + 2 ≤ 9223372036854775807 := by rw [strOf_size]; simp only [List.length_append, List.length_cons]; omega
    have w6 : (strOf A).size + 3 ≤ 9223372036854775807 := by rw [s1]; omega
    have w7 : (strOf A).size + (strOfNums l).size ≤ 9223372036854775807 := by
      have e : (strOfNums l).size = l.length := by rw [← len_size, str_data]; simp [Lib.bytesOf]
      rw [s1, e]; omega
    have w8 : (strOf (A ++ Lib.bytesOf l)).toList = (strOf A ++ strOfNums l).toList := by
      rw [strOf_list, Lib.toList_data, ByteArray.data_append, Array.toList_append, strOf_data, str_data]
    rw [if_pos w1, z1, if_pos w2, if_pos w3]
    unfold lamplighterlaw07_plain.f
    rw [Option.bind_some]
    dsimp only
    rw [z2, D1, Option.bind_some, if_pos w4, Option.bind_some]
    dsimp only
    rw [z5, D2, Option.bind_some, if_pos w5, Option.bind_some]
    dsimp only
    rw [z3, D3, Option.bind_some, if_pos w6, Option.bind_some]
    dsimp only
    rw [z4, D4, Option.bind_some, Option.bind_some]
    dsimp only
    rw [D5, Option.bind_some, alive_is, Option.bind_some, if_pos rfl]
    dsimp only
    rw [if_pos rfl, if_pos w7, if_pos w8, if_pos rfl, if_pos rfl, if_pos rfl, if_pos (by rw [s1]), if_pos rfl, if_pos rfl, if_pos rfl]
    simp
end Go.Proofs.YtokpkdmkdolmdaaDoor.Pure
