/- The law AcceptCodes as a statement over two texts and a sign: a head with a kind and an id is taken just if its version and its process are known; conditions: the texts are such as memory bears. -/
import Derived.Test.YtmjdnkiohdkfpaaDoorPFx17
import Derived.Test.YtmjdnkiohdkfpaaDoorPFx19
import Derived.Test.YtmjdnkiohdkfpaaDoorPFx20
import Derived.Test.YtmjdnkiohdkfpaaDoorAlive11
namespace Go.Proofs.YtmjdnkiohdkfpaaDoor.Pure
open Go Go.RowKit Go.Proofs.YtmjdnkiohdkfpaaDoor.PF Go.Proofs.YtmjdnkiohdkfpaaDoorW.PrintWords Go.Proofs.YtmjdnkiohdkfpaaDoorW.PrintLast
def badB : List UInt8 := [124, 13, 28, 11, 94, 126]
/-- The message. -/
def askOf (id proc ver : List UInt8) : List UInt8 := segOf 124 94 126 92 38 [[], [], [], [], [], [], [65, 68, 84], id, proc, ver]
theorem ask_is (id proc ver : List UInt8) : askOf id proc ver = [77, 83, 72, 124, 94, 126, 92, 38, 124, 124, 124, 124, 124, 124, 124, 65, 68, 84, 124] ++ id ++ [124] ++ proc ++ [124] ++ ver := by
  unfold askOf segOf
  rw [joinL_cons _ _ (by simp), joinL_cons _ _ (by simp), joinL_cons _ _ (by simp), joinL_cons _ _ (by simp), joinL_cons _ _ (by simp), joinL_cons _ _ (by simp), joinL_cons _ _ (by simp), joinL_cons _ _ (by simp), joinL_cons _ _ (by simp), joinL_cons _ _ (by simp)]
  have e : joinL (UInt8.ofNat (124 : Int).toNat) [ver] = ver := rfl
  rw [e]
  show [77, 83, 72] ++ 124 :: ([94, 126, 92, 38] ++ 124 :: ([] ++ 124 :: ([] ++ 124 :: ([] ++ 124 :: ([] ++ 124 :: ([] ++ 124 :: ([] ++ 124 :: ([65, 68, 84] ++ 124 :: (id ++ 124 :: (proc ++ 124 :: ver)))))))))) = _
  simp
/-- A text with none of the signs that tell. -/
def Clean (l : List UInt8) : Prop := ∀ b ∈ l, b ∉ badB
theorem clean_not {l : List UInt8} (h : Clean l) {b : UInt8} (hb : b ∈ badB) : b ∉ l := fun hm => h b hm hb
theorem first_clean {l : List UInt8} (h : Clean l) : firstOf 94 126 l = l := by
  unfold firstOf
  rw [cutL_clean (clean_not h (by decide)), show nthOf [l] 1 = l from rfl, cutL_clean (clean_not h (by decide))]
  rfl
theorem ask_verdict (k : Nat) (hk : 10 < k) {id proc ver : List UInt8} (hi : Clean id) (hp : Clean proc) (hv : Clean ver) (li : id.length ≤ 1) (lp : proc.length ≤ 100) (lv : ver.length ≤ 100) :
    accept_Verdict.f k (numsOf (askOf id proc ver) ++ [13]) = some (124, 94, 126, 92, 38, strOf [], strOf [], strOf [], strOf [], strOf [], strOf [], strOf [65, 68, 84], strOf id, strOf proc, strOf ver, codeOf (ckOf 94 126 (strOf [65, 68, 84]) (strOf id) (strOf proc) (strOf ver)), ckOf 94 126 (strOf [65, 68, 84]) (strOf id) (strOf proc) (strOf ver)) := by
  have b1 : IsByte 124 := by unfold IsByte; decide
  have b2 : IsByte 94 := by unfold IsByte; decide
  have b3 : IsByte 126 := by unfold IsByte; decide
  have b4 : IsByte 92 := by unfold IsByte; decide
  have b5 : IsByte 38 := by unfold IsByte; decide
  have hz : ∀ z ∈ [[], [], [], [], [], [], [65, 68, 84], id, proc, ver], UInt8.ofNat (124 : Int).toNat ∉ z := by
    intro z hz
    simp only [List.mem_cons, List.not_mem_nil, or_false] at hz
    rcases hz with rfl | rfl | rfl | rfl | rfl | rfl | rfl | rfl | rfl | rfl
    · decide
    · decide
    · decide
    · decide
    · decide
    · decide
    · decide
    · exact clean_not hi (by decide)
    · exact clean_not hp (by decide)
    · exact clean_not hv (by decide)
  have hz13 : ∀ z ∈ [[], [], [], [], [], [], [65, 68, 84], id, proc, ver], (13 : UInt8) ∉ z := by
    intro z hz
    simp only [List.mem_cons, List.not_mem_nil, or_false] at hz
    rcases hz with rfl | rfl | rfl | rfl | rfl | rfl | rfl | rfl | rfl | rfl
    · decide
    · decide
    · decide
    · decide
    · decide
    · decide
    · decide
    · exact clean_not hi (by decide)
    · exact clean_not hp (by decide)
    · exact clean_not hv (by decide)
  have hr : readM (numsOf (askOf id proc ver) ++ [13]) = (124, 94, 126, 92, 38, strOf [], strOf [], strOf [], strOf [], strOf [], strOf [], strOf [65, 68, 84], strOf id, strOf proc, strOf ver, 0) := read_back b1 b2 b3 b4 b5 (by decide) _ [] hz hz13
  have h13 : (13 : UInt8) ∉ askOf id proc ver := seg_no13 (by decide) hz13
  have hlen : (askOf id proc ver).length ≤ 300 := by
    rw [ask_is]
    simp only [List.length_append, List.length_cons, List.length_nil]
    omega
  have h28 : (28 : UInt8) ∉ askOf id proc ver := by
    rw [ask_is]
    simp only [List.mem_append]
    rintro (((((h | h) | h) | h) | h) | h)
    · revert h; decide
    · exact clean_not hi (by decide) h
    · revert h; decide
    · exact clean_not hp (by decide) h
    · revert h; decide
    · exact clean_not hv (by decide) h
  have hb : ∀ x ∈ numsOf (askOf id proc ver) ++ [13], IsByte x := by
    intro x hx
    rcases List.mem_append.1 hx with h | h
    · exact nums_bytes _ x h
    · rw [List.mem_singleton.1 h]; unfold IsByte; decide
  have hf : firstL (numsOf (askOf id proc ver) ++ [13]) = numsOf (askOf id proc ver) := by
    have e : Lib.bytesOf (numsOf (askOf id proc ver) ++ [13]) = askOf id proc ver ++ 13 :: [] := by
      have e1 := bytesOf_numsOf (askOf id proc ver)
      unfold Lib.bytesOf at e1 ⊢
      rw [List.map_append, e1]
      rfl
    unfold firstL
    rw [e, indexByte_hit h13, if_pos (by omega), Int.toNat_natCast, ← nums_length (askOf id proc ver), List.take_left]
  refine Verdict_head k hk hb (by rw [List.length_append, nums_length, List.length_singleton]; omega) hr ?_ b2 b3 (by rw [strOf_size]; omega) (by rw [strOf_size]; omega)
  rw [hf, bytesOf_numsOf, indexByte_miss h28]
  decide
theorem code_list (c : Int) : (codeOf c).toList = (codeOf c).data.toList := Lib.toList_data _
/-- What is to be answered. -/
theorem ask_code {id proc ver : List UInt8} (hp : Clean proc) (hv : Clean ver) (hi : id = [] ∨ id = [55]) :
    (codeOf (ckOf 94 126 (strOf [65, 68, 84]) (strOf id) (strOf proc) (strOf ver))).toList = if id = [] then [65, 69] else if ver ∈ verB ∧ proc ∈ procB then [65, 65] else [65, 82] := by
  have e1 : UInt8.ofNat (94 : Int).toNat = 94 := rfl
  have e2 : UInt8.ofNat (126 : Int).toNat = 126 := rfl
  rw [code_list]
  unfold ckOf checkOf
  rw [strOf_data, strOf_data, strOf_data, strOf_data, e1, e2, first_clean hp, first_clean hv]
  rcases hi with rfl | rfl
  · rw [if_pos (.inr (.inl rfl)), if_pos rfl]
    rfl
  · rw [if_neg (by decide), if_neg (show ¬ ([55] : List UInt8) = [] by decide)]
    by_cases h1 : ver ∈ verB
    · rw [if_neg (fun h => h h1)]
      by_cases h2 : proc ∈ procB
      · rw [if_neg (fun h => h h2), if_pos ⟨h1, h2⟩]
        rfl
      · rw [if_pos h2, if_neg (fun h => h2 h.2)]
        rfl
    · rw [if_pos h1, if_neg (fun h => h1 h.1)]
      rfl
theorem codes_j4 (k : Nat) (hk : 200 < k) {id proc ver : List UInt8} (hp : Clean proc) (hv : Clean ver) (hid : id = [55]) (lp : proc.length ≤ 100) (lv : ver.length ≤ 100) (x : Bool) (hx : x = true ↔ ¬ (ver ∈ verB ∧ proc ∈ procB)) :
    lamplighterlaw11_AcceptCodes.j4 k (numsOf (askOf id proc ver) ++ [13]) (⟨#[65, 65]⟩ : ByteArray) x = some true := by
  obtain ⟨k, rfl⟩ : ∃ m, k = m + 1 := ⟨k - 1, by omega⟩
  have hi : Clean id := by rw [hid]; unfold Clean; decide
  have hv1 := ask_verdict k (by omega) hi hp hv (by rw [hid]; decide) lp lv
  have hc := ask_code (id := id) hp hv (.inr hid)
  have hne : ¬ id = [] := by rw [hid]; decide
  rw [if_neg hne] at hc
  have hA : (⟨#[65, 65]⟩ : ByteArray).toList = ([65, 65] : List UInt8) := by rw [Lib.toList_data]
  have hst : accept_Stored.f k (numsOf (askOf id proc ver) ++ [13]) = some ((codeOf (ckOf 94 126 (strOf [65, 68, 84]) (strOf id) (strOf proc) (strOf ver))).toList == ([65, 65] : List UInt8)) := by
    unfold accept_Stored.f
    rw [hv1, Option.bind_some]
  rw [lamplighterlaw11_AcceptCodes.j4]
  cases x with
  | true =>
    rw [if_neg (hx.1 rfl)] at hc
    rw [if_pos rfl, hv1, Option.bind_some, alive11_is k (by omega), Option.bind_some, if_pos rfl]
    dsimp only
    rw [if_pos hc, hst, Option.bind_some, hc]
    rfl
  | false =>
    have hn : ver ∈ verB ∧ proc ∈ procB := Classical.byContradiction fun h => by have := hx.2 h; cases this
    rw [if_pos hn] at hc
    rw [if_neg (by decide), hv1, Option.bind_some, alive11_is k (by omega), Option.bind_some, if_pos rfl]
    dsimp only
    rw [hA, if_pos hc, hst, Option.bind_some, hc]
    rfl
theorem text_is {a : ByteArray} {l : List UInt8} (h : a = strOf l) (m : List UInt8) : a.toList = m ↔ l = m := by rw [h, Lib.toList_data, strOf_data]
theorem codes_end (k : Nat) (hk : 300 < k) (some : Bool) {id proc ver : List UInt8} (hp : Clean proc) (hv : Clean ver) (hid : id = if some = true then [55] else []) (lp : proc.length ≤ 100) (lv : ver.length ≤ 100) :
    lamplighterlaw11_AcceptCodes.l2 k (strOf ver) (strOf proc) some (numsOf (askOf id proc ver) ++ [13]) (decide (ver ∈ verB)) versL (versL.length : Int) (10 : Int) = Option.some true := by
  obtain ⟨k, rfl⟩ : ∃ m, k = m + 1 := ⟨k - 1, by omega⟩
  have hlen : (versL.length : Int) = 10 := rfl
  rw [lamplighterlaw11_AcceptCodes.l2, hlen, if_neg (by decide)]
  cases some with
  | true =>
    rw [if_pos rfl] at hid
    rw [if_pos rfl]
    by_cases h1 : ver ∈ verB
    · rw [if_pos (decide_eq_true h1)]
      by_cases p1 : proc = [80]
      · rw [if_pos ((text_is rfl _).2 p1), codes_j4 k (by omega) hp hv hid lp lv false ⟨fun h => (by cases h), fun h => absurd ⟨h1, by rw [p1]; decide⟩ h⟩]
      · rw [if_neg (fun h => p1 ((text_is rfl _).1 h))]
        by_cases p2 : proc = [68]
        · rw [if_pos ((text_is rfl _).2 p2), codes_j4 k (by omega) hp hv hid lp lv false ⟨fun h => (by cases h), fun h => absurd ⟨h1, by rw [p2]; decide⟩ h⟩]
        · rw [if_neg (fun h => p2 ((text_is rfl _).1 h))]
          refine codes_j4 k (by omega) hp hv hid lp lv _ ⟨fun h hh => ?_, fun h => ?_⟩
          · have h3 : ¬ proc = [84] := fun e => (bne_iff_ne.1 h) ((text_is rfl _).2 e)
            have := hh.2
            unfold procB at this
            simp only [List.mem_cons, List.not_mem_nil, or_false] at this
            rcases this with e | e | e
            · exact p1 e
            · exact p2 e
            · exact h3 e
          · refine bne_iff_ne.2 fun e => h ⟨h1, ?_⟩
            rw [(text_is rfl _).1 e]
            decide
    · rw [if_neg (by rw [decide_eq_true_eq]; exact h1), codes_j4 k (by omega) hp hv hid lp lv true ⟨fun _ h => h1 h.1, fun _ => rfl⟩]
  | false =>
    rw [if_neg (by decide)] at hid
    have hi : Clean id := by rw [hid]; unfold Clean; decide
    have hv1 := ask_verdict k (by omega) hi hp hv (by rw [hid]; decide) lp lv
    have hc := ask_code (id := id) hp hv (.inl hid)
    rw [if_pos hid] at hc
    have hst : accept_Stored.f k (numsOf (askOf id proc ver) ++ [13]) = Option.some ((codeOf (ckOf 94 126 (strOf [65, 68, 84]) (strOf id) (strOf proc) (strOf ver))).toList == ([65, 65] : List UInt8)) := by
      unfold accept_Stored.f
      rw [hv1, Option.bind_some]
    rw [if_neg (by decide), hv1, Option.bind_some, alive11_is k (by omega), Option.bind_some, if_pos rfl]
    dsimp only
    rw [if_pos hc, hst, Option.bind_some, hc]
    rfl
theorem codes_vers (some : Bool) {id proc ver : List UInt8} (hp : Clean proc) (hv : Clean ver) (hid : id = if some = true then [55] else []) (lp : proc.length ≤ 100) (lv : ver.length ≤ 100) (d : Nat) : ∀ (k i : Nat), i ≤ 10 → 10 - i = d → d + 400 < k →
    lamplighterlaw11_AcceptCodes.l2 k (strOf ver) (strOf proc) some (numsOf (askOf id proc ver) ++ [13]) (decide (ver ∈ verB.take i)) versL (versL.length : Int) (i : Int) = Option.some true := by
  induction d with
  | zero =>
    intro k i hi hd hk
    obtain rfl : i = 10 := by omega
    exact codes_end k (by omega) some hp hv hid lp lv
  | succ d ih =>
    intro k i hi hd hk
    obtain ⟨k, rfl⟩ : ∃ m, k = m + 1 := ⟨k - 1, by omega⟩
    have hlen : (versL.length : Int) = 10 := rfl
    have hvl : verB.length = 10 := rfl
    have hlt : i < verB.length := by omega
    have hrd : rdOf ByteArray.empty versL (i : Int) = strOf verB[i] := by
      unfold rdOf versL
      rw [Int.toNat_natCast, List.getD_eq_getElem?_getD, List.getElem?_map, List.getElem?_eq_getElem hlt]
      rfl
    have htake : verB.take (i + 1) = verB.take i ++ [verB[i]] := by rw [List.take_succ_eq_append_getElem hlt]
    rw [lamplighterlaw11_AcceptCodes.l2, if_pos (by rw [hlen]; omega), if_pos (by omega), if_pos (by rw [hlen]; omega)]
    by_cases h : ver ∈ verB.take i
    · rw [if_pos (decide_eq_true h), wrap_succ i (by omega)]
      have e : (true : Bool) = decide (ver ∈ verB.take (i + 1)) := by rw [htake]; exact (decide_eq_true (List.mem_append_left _ h)).symm
      have := ih k (i + 1) (by omega) (by omega) (by omega)
      rw [← e] at this
      exact this
    · rw [if_neg (by rw [decide_eq_true_eq]; exact h), wrap_succ i (by omega), hrd]
      have e : ((strOf verB[i]).toList == (strOf ver).toList) = decide (ver ∈ verB.take (i + 1)) := by
        rw [htake, Lib.toList_data, Lib.toList_data, strOf_data, strOf_data]
        by_cases e : verB[i] = ver
        · rw [decide_eq_true (List.mem_append_right _ (by rw [e]; simp)), beq_iff_eq.2 e]
        · rw [decide_eq_false (fun hm => ?_), beq_eq_false_iff_ne.2 e]
          rcases List.mem_append.1 hm with hm | hm
          · exact h hm
          · exact e (List.mem_singleton.1 hm).symm
      rw [e]
      exact ih k (i + 1) (by omega) (by omega) (by omega)
theorem codes_j2 (k : Nat) (hk : 600 < k) (some : Bool) {id proc ver : List UInt8} (hp : Clean proc) (hv : Clean ver) (hid : id = if some = true then [55] else []) (lp : proc.length ≤ 100) (lv : ver.length ≤ 100) :
    lamplighterlaw11_AcceptCodes.j2 k (strOf ver) (strOf proc) some (strOf id) = Option.some true := by
  obtain ⟨k, rfl⟩ : ∃ m, k = m + 1 := ⟨k - 1, by omega⟩
  have li : id.length ≤ 1 := by rw [hid]; cases some <;> decide
  have hL : (⟨#[77, 83, 72, 124, 94, 126, 92, 38, 124, 124, 124, 124, 124, 124, 124, 65, 68, 84, 124]⟩ : ByteArray) = strOf [77, 83, 72, 124, 94, 126, 92, 38, 124, 124, 124, 124, 124, 124, 124, 65, 68, 84, 124] := rfl
  have hS : (⟨#[124]⟩ : ByteArray) = strOf [124] := rfl
  have hT : (⟨#[13]⟩ : ByteArray) = strOf [13] := rfl
  have hcv : cv_str.f (strOf (askOf id proc ver ++ [13])) = Option.some (numsOf (askOf id proc ver) ++ [13]) := by
    unfold cv_str.f
    rw [if_pos (by rw [strOf_size, ask_is]; simp only [List.length_append, List.length_cons, List.length_nil]; omega), numsOf_bytes, strOf_data, nums_append]
    rfl
  rw [ask_is] at hcv
  have hvs : msh_Versions.f = Option.some versL := rfl
  rw [lamplighterlaw11_AcceptCodes.j2, hL, hS, hT, ← strOf_snoc, ← strOf_snoc, ← strOf_snoc, ← strOf_snoc, ← strOf_snoc, ← strOf_snoc]
  simp only [strOf_size, List.length_append, List.length_cons, List.length_nil]
  rw [if_pos (by omega), if_pos (by omega), if_pos (by omega), if_pos (by omega), if_pos (by omega), if_pos (by omega), hcv, Option.bind_some, hvs, Option.bind_some, ← ask_is]
  exact codes_vers some hp hv hid lp lv 10 k 0 (by decide) rfl (by omega)
theorem codes_chars (some : Bool) (a0 a1 s : ByteArray) (y : List ByteArray) (n idx : Int) (hs : s.size ≤ 100) (K : Nat) (P : Clean s.data.toList → ∀ k', K < k' → lamplighterlaw11_AcceptCodes.l0 k' a0 a1 some y n (wrap64 (idx + 1)) = Option.some true) (d : Nat) : ∀ (k i : Nat), i ≤ s.size → s.size - i = d → d + K + 200 < k → Clean (s.data.toList.take i) →
    lamplighterlaw11_AcceptCodes.l1 k a0 a1 some s y n idx (s.size : Int) (i : Int) = Option.some true := by
  have hcl := len_size s
  induction d with
  | zero =>
    intro k i hi hd hk hc
    obtain ⟨k, rfl⟩ : ∃ m, k = m + 1 := ⟨k - 1, by omega⟩
    obtain rfl : i = s.size := by omega
    rw [List.take_of_length_le (by omega)] at hc
    rw [lamplighterlaw11_AcceptCodes.l1, if_neg (by omega)]
    exact P hc k (by omega)
  | succ d ih =>
    intro k i hi hd hk hc
    obtain ⟨k, rfl⟩ : ∃ m, k = m + 1 := ⟨k - 1, by omega⟩
    have hlt : i < s.size := by omega
    have q : (i : Int) < (s.size : Int) := by omega
    have q0 : (0 : Int) ≤ (i : Int) := by omega
    have hli : i < s.data.toList.length := by omega
    have b1 := bt_list s i hlt 124 (by decide)
    have b2 := bt_list s i hlt 13 (by decide)
    have b3 := bt_list s i hlt 28 (by decide)
    have b4 := bt_list s i hlt 11 (by decide)
    have b5 := bt_list s i hlt 94 (by decide)
    have b6 := bt_list s i hlt 126 (by decide)
    have hal := alive11_is k (by omega)
    rw [lamplighterlaw11_AcceptCodes.l1, if_pos q, if_pos q0, if_pos q]
    by_cases e1 : bt s (i : Int) = 124
    · rw [if_pos e1, hal]
      rfl
    rw [if_neg e1]
    by_cases e2 : bt s (i : Int) = 13
    · rw [if_pos e2, hal]
      rfl
    rw [if_neg e2]
    by_cases e3 : bt s (i : Int) = 28
    · rw [if_pos e3, hal]
      rfl
    rw [if_neg e3]
    by_cases e4 : bt s (i : Int) = 11
    · rw [if_pos e4, hal]
      rfl
    rw [if_neg e4]
    by_cases e5 : bt s (i : Int) = 94
    · rw [if_pos e5, hal]
      rfl
    rw [if_neg e5]
    by_cases e6 : bt s (i : Int) = 126
    · rw [if_pos e6, hal]
      rfl
    rw [if_neg e6, wrap_succ i (by omega)]
    refine ih k (i + 1) (by omega) (by omega) (by omega) ?_
    rw [List.take_succ_eq_append_getElem hli]
    intro b hb
    rcases List.mem_append.1 hb with h | h
    · exact hc b h
    · rw [List.mem_singleton.1 h]
      unfold badB
      simp only [List.mem_cons, List.not_mem_nil, or_false]
      rintro (h | h | h | h | h | h)
      · exact e1 (b1.2 h)
      · exact e2 (b2.2 h)
      · exact e3 (b3.2 h)
      · exact e4 (b4.2 h)
      · exact e5 (b5.2 h)
      · exact e6 (b6.2 h)
theorem AcceptCodes (a0 a1 : ByteArray) (some : Bool) (_h0 : a0.size ≤ 140737488351232) (_h1 : a1.size ≤ 140737488351232) : ∃ k, lamplighterlaw11_AcceptCodes.f k a0 a1 some = Option.some true := by
  refine ⟨60000, ?_⟩
  have r0 : rdOf ByteArray.empty [a0, a1] 0 = a0 := rfl
  have r1 : rdOf ByteArray.empty [a0, a1] 1 = a1 := rfl
  have w0 : wrap64 ((0 : Int) + 1) = 1 := wrap_succ 0 (by decide)
  have w1 : wrap64 ((1 : Int) + 1) = 2 := wrap_succ 1 (by decide)
  have hn : (([a0, a1] : List ByteArray).length : Int) = 2 := rfl
  unfold lamplighterlaw11_AcceptCodes.f
  rw [Option.bind_some, hn]
  show lamplighterlaw11_AcceptCodes.l0 (59999 + 1) a0 a1 some [a0, a1] 2 0 = Option.some true
  rw [lamplighterlaw11_AcceptCodes.l0, if_pos (by decide), if_pos (by decide), hn, if_pos (by decide), r0]
  by_cases s0 : (a0.size : Int) > 100
  · rw [if_pos s0, alive11_is 59999 (by decide)]
    rfl
  rw [if_neg s0]
  refine codes_chars some a0 a1 a0 [a0, a1] 2 0 (by omega) 5000 (fun c0 k hk => ?_) a0.size 59999 0 (Nat.zero_le _) rfl (by omega) (by intro b hb; simp at hb)
  obtain ⟨k, rfl⟩ : ∃ m, k = m + 1 := ⟨k - 1, by omega⟩
  rw [w0, lamplighterlaw11_AcceptCodes.l0, if_pos (by decide), if_pos (by decide), hn, if_pos (by decide), r1]
  by_cases s1 : (a1.size : Int) > 100
  · rw [if_pos s1, alive11_is k (by omega)]
    rfl
  rw [if_neg s1]
  refine codes_chars some a0 a1 a1 [a0, a1] 2 1 (by omega) 2000 (fun c1 k hk => ?_) a1.size k 0 (Nat.zero_le _) rfl (by omega) (by intro b hb; simp at hb)
  obtain ⟨k, rfl⟩ : ∃ m, k = m + 1 := ⟨k - 1, by omega⟩
  rw [w1, lamplighterlaw11_AcceptCodes.l0, if_neg (by decide)]
  have e0 := strOf_of a0
  have e1 := strOf_of a1
  have z0 := len_size a0
  have z1 := len_size a1
  cases some with
  | true =>
    rw [if_pos rfl]
    have := codes_j2 k (by omega) true (id := [55]) c1 c0 rfl (by omega) (by omega)
    rw [e0, e1] at this
    exact this
  | false =>
    rw [if_neg (by decide)]
    have := codes_j2 k (by omega) false (id := []) c1 c0 rfl (by omega) (by omega)
    rw [e0, e1] at this
    exact this
end Go.Proofs.YtmjdnkiohdkfpaaDoor.Pure
