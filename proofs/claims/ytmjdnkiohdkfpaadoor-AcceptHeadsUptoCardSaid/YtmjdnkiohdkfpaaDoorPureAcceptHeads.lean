/- The law AcceptHeads as a statement over five signs, ten texts and bytes: whether a message is taken hangs on its first segment alone; conditions: the signs and the bytes are bytes, the texts count at most 1048576 together. -/
import Derived.Test.YtmjdnkiohdkfpaaDoorPFx17
import Derived.Test.YtmjdnkiohdkfpaaDoorPFx18
import Derived.Test.YtmjdnkiohdkfpaaDoorAlive11
namespace Go.Proofs.YtmjdnkiohdkfpaaDoor.Pure
open Go Go.RowKit Go.Proofs.YtmjdnkiohdkfpaaDoor.PF Go.Proofs.YtmjdnkiohdkfpaaDoorW.PrintWords Go.Proofs.YtmjdnkiohdkfpaaDoorW.PrintLast
theorem cv_app_text (s : List UInt8) (l : List Int) (hs : s.length ≤ 1000000) (hl : l.length ≤ 1000000) : cv_app.f (strOf s ++ (⟨#[13]⟩ : ByteArray)) l = some (numsOf s ++ 13 :: l) := by
  have e : strOf s ++ (⟨#[13]⟩ : ByteArray) = strOf (s ++ [13]) := by rw [strOf_snoc]; rfl
  unfold cv_app.f
  rw [e, if_pos (by rw [strOf_size, List.length_append, List.length_singleton]; omega), numsOf_bytes, strOf_data, nums_append, List.append_assoc]
  rfl
theorem cv_str_text (s : List UInt8) (hs : s.length ≤ 1000000) : cv_str.f (strOf s ++ (⟨#[13]⟩ : ByteArray)) = some (numsOf s ++ [13]) := by
  have e : strOf s ++ (⟨#[13]⟩ : ByteArray) = strOf (s ++ [13]) := by rw [strOf_snoc]; rfl
  unfold cv_str.f
  rw [e, if_pos (by rw [strOf_size, List.length_append, List.length_singleton]; omega), numsOf_bytes, strOf_data, nums_append]
  rfl
/-- What stands ahead of the first 13. -/
theorem first_seg {s : List UInt8} (h : (13 : UInt8) ∉ s) (l : List Int) : firstL (numsOf s ++ 13 :: l) = numsOf s := by
  have e : Lib.bytesOf (numsOf s ++ 13 :: l) = s ++ 13 :: Lib.bytesOf l := by
    have e1 := bytesOf_numsOf s
    unfold Lib.bytesOf at e1 ⊢
    rw [List.map_append, e1]
    rfl
  unfold firstL
  rw [e, indexByte_hit h, if_pos (by omega), Int.toNat_natCast, ← nums_length s, List.take_left]
theorem has_28 (s : List UInt8) : 0 ≤ Lib.indexByte (Lib.bytesOf (numsOf s)) 28 ↔ (28 : UInt8) ∈ s := by
  rw [bytesOf_numsOf]
  by_cases h : (28 : UInt8) ∈ s
  · obtain ⟨a, b, rfl, ha⟩ := first_hit h
    rw [indexByte_hit ha b]
    exact ⟨fun _ => h, fun _ => by omega⟩
  · rw [indexByte_miss h]
    exact ⟨fun e => absurd e (by decide), fun e => absurd e h⟩
theorem drop_step {s : List UInt8} {i : Nat} (h : i < s.length) : s.drop i = s[i] :: s.drop (i + 1) := List.drop_eq_getElem_cons h
theorem heads_end (s : ByteArray) (hs : s.size ≤ 1000000) (h0 h1 h2 h3 h4 : Int) (h5 h6 h7 h8 h9 h10 h11 h12 h13 h14 : ByteArray) (g0 g1 g2 g3 g4 : Int) (g5 g6 g7 g8 g9 g10 g11 g12 g13 g14 : ByteArray) (f0 f1 f2 f3 f4 : Int) (f5 f6 f7 f8 f9 f10 f11 f12 f13 f14 : ByteArray) (d : Nat) : ∀ (k i : Nat), i ≤ s.size → s.size - i = d → d + 200 < k → (28 : UInt8) ∈ s.data.toList.drop i →
    lamplighterlaw11_AcceptHeads.l0 k s ⟨#[]⟩ 10 ⟨#[]⟩ 10 (s.size : Int) (i : Int) h0 h1 h2 h3 h4 h5 h6 h7 h8 h9 h10 h11 h12 h13 h14 g0 g1 g2 g3 g4 g5 g6 g7 g8 g9 g10 g11 g12 g13 g14 f0 f1 f2 f3 f4 f5 f6 f7 f8 f9 f10 f11 f12 f13 f14 = some true := by
  have hcl := len_size s
  induction d with
  | zero =>
    intro k i hi hd hk h28
    rw [List.drop_of_length_le (by omega)] at h28
    cases h28
  | succ d ih =>
    intro k i hi hd hk h28
    obtain ⟨k, rfl⟩ : ∃ m, k = m + 1 := ⟨k - 1, by omega⟩
    have hlt : i < s.size := by omega
    have q : (i : Int) < (s.size : Int) := by omega
    have q0 : (0 : Int) ≤ (i : Int) := by omega
    have hb := bt_list s i hlt 28 (by decide)
    rw [show UInt8.ofNat (28 : Int).toNat = 28 from rfl] at hb
    rw [lamplighterlaw11_AcceptHeads.l0, if_pos q, if_pos q0, if_pos q]
    by_cases e : bt s (i : Int) = 28
    · rw [if_pos e, alive11_is k (by omega), Option.bind_some, if_pos rfl, if_pos rfl, if_pos rfl, if_pos nil_list, nil_list]
      rfl
    · rw [if_neg e, wrap_succ i (by omega)]
      refine ih k (i + 1) (by omega) (by omega) (by omega) ?_
      rw [drop_step (by omega)] at h28
      rcases List.mem_cons.1 h28 with h | h
      · exact absurd (hb.2 h.symm) e
      · exact h
theorem heads_none (s : ByteArray) (hs : s.size ≤ 1000000) (c0 c1 c2 c3 c4 : Int) (t5 t6 t7 t8 t9 t10 t11 t12 t13 t14 : ByteArray) (ck : Int) (hck : ∀ k, 10 < k → msh_Check.f k c0 c1 c2 c3 c4 t5 t6 t7 t8 t9 t10 t11 t12 t13 t14 = some ck) (hne : ¬ (codeOf ck).toList = ([] : List UInt8)) (d : Nat) : ∀ (k i : Nat), i ≤ s.size → s.size - i = d → d + 200 < k → (28 : UInt8) ∉ s.data.toList.drop i →
    lamplighterlaw11_AcceptHeads.l0 k s (codeOf ck) ck (codeOf ck) ck (s.size : Int) (i : Int) c0 c1 c2 c3 c4 t5 t6 t7 t8 t9 t10 t11 t12 t13 t14 c0 c1 c2 c3 c4 t5 t6 t7 t8 t9 t10 t11 t12 t13 t14 c0 c1 c2 c3 c4 t5 t6 t7 t8 t9 t10 t11 t12 t13 t14 = some true := by
  have hcl := len_size s
  induction d with
  | zero =>
    intro k i hi hd hk h28
    obtain ⟨k, rfl⟩ : ∃ m, k = m + 1 := ⟨k - 1, by omega⟩
    have q : ¬ (i : Int) < (s.size : Int) := by omega
    rw [lamplighterlaw11_AcceptHeads.l0, if_neg q, alive11_is k (by omega), Option.bind_some, if_pos rfl, if_pos (by simp), if_pos (by simp), if_pos rfl, if_pos rfl, hck k (by omega), Option.bind_some, if_pos rfl]
    exact congrArg some (bne_iff_ne.2 hne)
  | succ d ih =>
    intro k i hi hd hk h28
    obtain ⟨k, rfl⟩ : ∃ m, k = m + 1 := ⟨k - 1, by omega⟩
    have hlt : i < s.size := by omega
    have q : (i : Int) < (s.size : Int) := by omega
    have q0 : (0 : Int) ≤ (i : Int) := by omega
    have hb := bt_list s i hlt 28 (by decide)
    rw [show UInt8.ofNat (28 : Int).toNat = 28 from rfl] at hb
    rw [drop_step (by omega)] at h28
    have e : ¬ bt s (i : Int) = 28 := fun e => h28 (by rw [← hb.1 e]; simp)
    rw [lamplighterlaw11_AcceptHeads.l0, if_pos q, if_pos q0, if_pos q, if_neg e, wrap_succ i (by omega)]
    exact ih k (i + 1) (by omega) (by omega) (by omega) (fun h => h28 (List.mem_cons_of_mem _ h))
theorem AcceptHeads (c0 c1 c2 c3 c4 : Int) (t5 t6 t7 t8 t9 t10 t11 t12 t13 t14 : ByteArray) (l : List Int) (hc0 : IsByte c0) (hc1 : IsByte c1) (hc2 : IsByte c2) (hc3 : IsByte c3) (hc4 : IsByte c4) (_z5 : t5.size ≤ 140737488351232) (_z6 : t6.size ≤ 140737488351232) (_z7 : t7.size ≤ 140737488351232) (_z8 : t8.size ≤ 140737488351232) (_z9 : t9.size ≤ 140737488351232) (_z10 : t10.size ≤ 140737488351232) (_z11 : t11.size ≤ 140737488351232) (_z12 : t12.size ≤ 140737488351232) (_z13 : t13.size ≤ 140737488351232) (_z14 : t14.size ≤ 140737488351232) (hsum : t5.size + t6.size + t7.size + t8.size + t9.size + t10.size + t11.size + t12.size + t13.size + t14.size ≤ 1048576) (hl : ∀ x ∈ l, IsByte x) : ∃ k, lamplighterlaw11_AcceptHeads.f k c0 c1 c2 c3 c4 t5 t6 t7 t8 t9 t10 t11 t12 t13 t14 l = some true := by
  refine ⟨60001, ?_⟩
  have hbk : bulkOf [t5, t6, t7, t8, t9, t10, t11, t12, t13, t14] ≤ 1048576 + 10 := bulk10 (n := 1048576) hsum
  have bad : ∀ s, lamplighterlaw11_AcceptHeads.j0 60001 l s true c0 c1 c2 c3 c4 t5 t6 t7 t8 t9 t10 t11 t12 t13 t14 = some true := by
    intro s
    show lamplighterlaw11_AcceptHeads.j0 (60000 + 1) l s true c0 c1 c2 c3 c4 t5 t6 t7 t8 t9 t10 t11 t12 t13 t14 = some true
    rw [lamplighterlaw11_AcceptHeads.j0, if_pos rfl, alive11_is 60000 (by decide)]
    rfl
  unfold lamplighterlaw11_AcceptHeads.f
  rw [Write_spec 60001 (by decide) c0 c1 c2 c3 c4 t5 t6 t7 t8 t9 t10 t11 t12 t13 t14 (by omega) hc0 hc1 hc2 hc3 hc4, Option.bind_some]
  by_cases h0 : (writeOf c0 c1 c2 c3 c4 [t5, t6, t7, t8, t9, t10, t11, t12, t13, t14]).2 = 0
  · obtain ⟨hG, hF⟩ := writeOf_zero h0
    rw [if_pos h0, writeOf_ok hG hF]
    dsimp only
    obtain ⟨k1, k2⟩ := clean_texts hF
    have h13 : (13 : UInt8) ∉ (segOf c0 c1 c2 c3 c4 ((trimB [t5, t6, t7, t8, t9, t10, t11, t12, t13, t14]).map (·.data.toList))) := seg_no13 hG k2
    have hr : ∀ b, readM (numsOf (segOf c0 c1 c2 c3 c4 ((trimB [t5, t6, t7, t8, t9, t10, t11, t12, t13, t14]).map (·.data.toList))) ++ 13 :: b) = (c0, c1, c2, c3, c4, t5, t6, t7, t8, t9, t10, t11, t12, t13, t14, 0) := fun b => read_written hc0 hc1 hc2 hc3 hc4 hG hF b
    obtain ⟨S, hS⟩ : ∃ S, (segOf c0 c1 c2 c3 c4 ((trimB [t5, t6, t7, t8, t9, t10, t11, t12, t13, t14]).map (·.data.toList))) = S := ⟨_, rfl⟩
    rw [hS] at h13 hr ⊢
    by_cases hsz : ((strOf S).size : Int) > 2000
    · rw [if_pos hsz, bad]
    rw [if_neg hsz]
    by_cases hll : (l.length : Int) > 1000
    · rw [decide_eq_true hll, bad]
    rw [decide_eq_false hll]
    have hSl : S.length ≤ 2000 := by rw [strOf_size] at hsz; omega
    have hnl := nums_length S
    have hb1 : ∀ x ∈ numsOf S ++ [13], IsByte x := by
      intro x hx
      rcases List.mem_append.1 hx with h | h
      · exact nums_bytes _ x h
      · rw [List.mem_singleton.1 h]; unfold IsByte; decide
    have hb2 : ∀ x ∈ numsOf S ++ 13 :: l, IsByte x := by
      intro x hx
      rcases List.mem_append.1 hx with h | h
      · exact nums_bytes _ x h
      · rcases List.mem_cons.1 h with h | h
        · rw [h]; unfold IsByte; decide
        · exact hl x h
    have hn1 : (numsOf S ++ [13]).length ≤ 100000 := by rw [List.length_append, List.length_singleton]; omega
    have hn2 : (numsOf S ++ 13 :: l).length ≤ 100000 := by rw [List.length_append, List.length_cons]; omega
    show lamplighterlaw11_AcceptHeads.j0 (60000 + 1) l (strOf S) false c0 c1 c2 c3 c4 t5 t6 t7 t8 t9 t10 t11 t12 t13 t14 = some true
    rw [lamplighterlaw11_AcceptHeads.j0, if_neg (by decide), if_pos (by rw [strOf_size]; omega), cv_str_text S (by omega), Option.bind_some]
    by_cases h28 : (28 : UInt8) ∈ S
    · have g1 : 0 ≤ Lib.indexByte (Lib.bytesOf (firstL (numsOf S ++ [13]))) 28 := by rw [first_seg h13]; exact (has_28 S).2 h28
      have g2 : 0 ≤ Lib.indexByte (Lib.bytesOf (firstL (numsOf S ++ 13 :: l))) 28 := by rw [first_seg h13]; exact (has_28 S).2 h28
      rw [Verdict_end 60000 (by decide) hb1 hn1 (hr []) g1, Option.bind_some, cv_app_text S l (by omega) (by omega), Option.bind_some, Verdict_end 60000 (by decide) hb2 hn2 (hr l) g2, Option.bind_some]
      dsimp only
      exact heads_end (strOf S) (by rw [strOf_size]; omega) c0 c1 c2 c3 c4 t5 t6 t7 t8 t9 t10 t11 t12 t13 t14 0 0 0 0 0 ⟨#[]⟩ ⟨#[]⟩ ⟨#[]⟩ ⟨#[]⟩ ⟨#[]⟩ ⟨#[]⟩ ⟨#[]⟩ ⟨#[]⟩ ⟨#[]⟩ ⟨#[]⟩ 0 0 0 0 0 ⟨#[]⟩ ⟨#[]⟩ ⟨#[]⟩ ⟨#[]⟩ ⟨#[]⟩ ⟨#[]⟩ ⟨#[]⟩ ⟨#[]⟩ ⟨#[]⟩ ⟨#[]⟩ _ 60000 0 (Nat.zero_le _) rfl (by rw [strOf_size]; omega) (by rw [List.drop_zero, strOf_data]; exact h28)
    · have g1 : ¬ 0 ≤ Lib.indexByte (Lib.bytesOf (firstL (numsOf S ++ [13]))) 28 := by rw [first_seg h13]; exact fun h => h28 ((has_28 S).1 h)
      have g2 : ¬ 0 ≤ Lib.indexByte (Lib.bytesOf (firstL (numsOf S ++ 13 :: l))) 28 := by rw [first_seg h13]; exact fun h => h28 ((has_28 S).1 h)
      rw [Verdict_head 60000 (by decide) hb1 hn1 (hr []) g1 hc1 hc2 (by omega) (by omega), Option.bind_some, cv_app_text S l (by omega) (by omega), Option.bind_some, Verdict_head 60000 (by decide) hb2 hn2 (hr l) g2 hc1 hc2 (by omega) (by omega), Option.bind_some]
      dsimp only
      exact heads_none (strOf S) (by rw [strOf_size]; omega) c0 c1 c2 c3 c4 t5 t6 t7 t8 t9 t10 t11 t12 t13 t14 (ckOf c1 c2 t11 t12 t13 t14) (fun k hk => Check_spec k hk c0 c1 c2 c3 c4 t5 t6 t7 t8 t9 t10 t11 t12 t13 t14 (by omega) (by omega) hc1 hc2) (code_full _ (ck_four c1 c2 t11 t12 t13 t14)).1 _ 60000 0 (Nat.zero_le _) rfl (by rw [strOf_size]; omega) (by rw [List.drop_zero, strOf_data]; exact h28)
  · rw [if_neg h0, bad]
end Go.Proofs.YtmjdnkiohdkfpaaDoor.Pure
