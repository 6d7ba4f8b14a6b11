/- The law DelimJoins as a statement over a text, a byte and texts: what is cut is joined as it was, and the other way about; condition: the arguments count at most 1048576 together. -/
import Derived.Test.YtabcmcllcfapkaaDoorPHx7
import Derived.Test.YtabcmcllcfapkaaDoorCuts06
import Derived.Test.YtabcmcllcfapkaaDoorAlive06
namespace Go.Proofs.YtabcmcllcfapkaaDoor.Pure
open Go Go.RowKit Go.Proofs.YtabcmcllcfapkaaDoor.PH Go.Proofs.YtabcmcllcfapkaaDoorW.PrintWords Go.Proofs.YtabcmcllcfapkaaDoorW.PrintLast

/-- The texts without a byte. -/
def lackOf (c : UInt8) (l : List ByteArray) : List ByteArray := l.filter (fun s => !decide (c ∈ s.data.toList))
theorem lack_snoc (c : UInt8) (l : List ByteArray) (s : ByteArray) : lackOf c (l ++ [s]) = if c ∈ s.data.toList then lackOf c l else lackOf c l ++ [s] := by
  unfold lackOf
  rw [List.filter_append]
  by_cases h : c ∈ s.data.toList
  · rw [if_pos h, List.filter_cons, decide_eq_true h, List.filter_nil]; simp
  · rw [if_neg h, List.filter_cons, decide_eq_false h, List.filter_nil]; rfl
theorem lack_bulk (c : UInt8) (l : List ByteArray) : bulkOf (lackOf c l) ≤ bulkOf l := by
  induction l with
  | nil => exact Nat.le_refl _
  | cons x l ih =>
    unfold lackOf at ih ⊢
    rw [List.filter_cons]
    split
    · rw [bulk_cons, bulk_cons]; omega
    · rw [bulk_cons]; omega
theorem lack_has (c : UInt8) (l : List ByteArray) : ∀ s ∈ lackOf c l, c ∉ s.data.toList := by
  intro s hs
  have := (List.mem_filter.1 hs).2
  simpa using this
theorem inner_lack (x0 : ByteArray) (c x7 : Int) (hc : 0 ≤ c ∧ c ≤ 255) (x8 : List ByteArray) (s : ByteArray) (x17 : List ByteArray) (x18 x19 : Int) (hs : s.size ≤ 1048576) (d : Nat) : ∀ (k i : Nat), i ≤ s.size → s.size - i = d →
    lamplighterlaw06_DelimJoins.l1 (k + d + 1) x0 c x7 x8 s (decide (UInt8.ofNat c.toNat ∈ s.data.toList.take i)) x17 x18 x19 (s.size : Int) i =
      if UInt8.ofNat c.toNat ∈ s.data.toList then lamplighterlaw06_DelimJoins.l0 k x0 c x7 x8 x17 x18 (wrap64 (x19 + 1)) else (if x8.length < 8796093022208 then lamplighterlaw06_DelimJoins.l0 k x0 c x7 (x8 ++ [s]) x17 x18 (wrap64 (x19 + 1)) else none) := by
  have hl := len_size s
  induction d with
  | zero =>
    intro k i hi hd
    have q : ¬ ((i : Int) < (s.size : Int)) := by omega
    have e : s.data.toList.take i = s.data.toList := List.take_of_length_le (by omega)
    rw [Nat.add_zero, lamplighterlaw06_DelimJoins.l1, if_neg q, e]
    by_cases h : UInt8.ofNat c.toNat ∈ s.data.toList
    · rw [if_pos h, if_pos (by simpa using h)]
    · rw [if_neg h, if_neg (by simpa using h)]
  | succ d ih =>
    intro k i hi hd
    have hlt : i < s.size := by omega
    have q : (i : Int) < (s.size : Int) := by omega
    have q0 : (0 : Int) ≤ (i : Int) := by omega
    have e := ih k (i + 1) (by omega) (by omega)
    have ht := take_one s.data.toList i (by omega)
    rw [show k + (d + 1) + 1 = (k + d + 1) + 1 by omega, lamplighterlaw06_DelimJoins.l1, if_pos q, wrap_succ i (by omega)]
    by_cases h : UInt8.ofNat c.toNat ∈ s.data.toList.take i
    · have h2 : UInt8.ofNat c.toNat ∈ s.data.toList.take (i + 1) := by rw [ht]; simp [h]
      rw [decide_eq_true h2] at e
      rw [decide_eq_true h, if_pos rfl, e]
    · rw [decide_eq_false h, if_neg (by decide), if_pos q0, if_pos q]
      have hb : (bt s (i : Int) == c) = decide (UInt8.ofNat c.toNat ∈ s.data.toList.take (i + 1)) := by
        have hc := bt_list s i hlt c hc
        rw [ht, Bool.eq_iff_iff]
        simp only [beq_iff_eq, hc, decide_eq_true_eq, List.mem_append, h, false_or, List.mem_singleton]
        exact eq_comm
      rw [hb, e]
theorem joins_last (c : Int) (l : List ByteArray) (hl : bulkOf l ≤ 1048576) (hh : ∀ s ∈ l, UInt8.ofNat c.toNat ∉ s.data.toList) (k : Nat) (hk : l.length < k) : lamplighterlaw06_DelimJoins.j2 (k + 1) c l false = some true := by
  have hn := bulk_length l
  rw [lamplighterlaw06_DelimJoins.j2, if_neg (by decide)]
  by_cases h0 : (l.length : Int) = 0
  · rw [if_pos h0, dJoin_spec [] c (by decide), Option.bind_some, strOf_list]
    rfl
  · have hne : l.map (·.data.toList) ≠ [] := by
      intro e
      have := congrArg List.length e
      rw [List.length_map, List.length_nil] at this
      omega
    have hsz : (strOf (joinL (UInt8.ofNat c.toNat) (l.map (·.data.toList)))).size ≤ 4000000000 := by
      have := joinL_bulk (UInt8.ofNat c.toNat) l
      rw [strOf_size]; omega
    rw [if_neg h0, dJoin_spec l c (by omega), Option.bind_some, dCut_spec _ c hsz, Option.bind_some, strOf_data, cutL_joinL hne (fun x hx => by
      obtain ⟨s, hs, rfl⟩ := List.mem_map.1 hx
      exact hh s hs), map_back, same6_refl k l (by omega) hk, Option.bind_some]
theorem joins_end (s : ByteArray) (c : Int) (l : List ByteArray) (hs : s.size ≤ 1048576) (hl : bulkOf l ≤ 1048576) (hh : ∀ s ∈ l, UInt8.ofNat c.toNat ∉ s.data.toList) (k : Nat) (hk : l.length + 10 < k) (n : Int) :
    (if n > 3000 then ((lamplighterlaw06_alive.f (k + 1)).bind fun t209 => (some t209)) else ((delim_Cut.f s c).bind fun t210 => ((lamplighterlaw06_alive.f (k + 1)).bind fun t213 => (if t213 = true then ((delim_Join.f c t210).bind fun t214 => (if t214.toList = s.toList then (lamplighterlaw06_DelimJoins.j2 (k + 1) c l ((t210.length : Int) == 0)) else (lamplighterlaw06_DelimJoins.j2 (k + 1) c l true))) else (lamplighterlaw06_DelimJoins.j2 (k + 1) c l true))))) = some true := by
  have h1 := cutL_length_pos (UInt8.ofNat c.toNat) s.data.toList
  have hb := cut_bulk (UInt8.ofNat c.toNat) s.data.toList
  rw [len_size] at hb
  have hz : ((((cutL (UInt8.ofNat c.toNat) s.data.toList).map strOf).length : Int) == 0) = false := by
    rw [beq_eq_false_iff_ne, List.length_map]; omega
  rw [alive_is _ (by omega), Option.bind_some, dCut_spec s c (by omega), Option.bind_some, Option.bind_some, if_pos rfl, dJoin_spec _ c (by omega), Option.bind_some, map_forth, joinL_cutL, strOf_of, if_pos rfl, hz, joins_last c l hl hh k (by omega), ite_self]
theorem joins_loop (s : ByteArray) (c : Int) (hc : 0 ≤ c ∧ c ≤ 255) (l : List ByteArray) (hs : s.size ≤ 1048576) (hl : bulkOf l ≤ 1048576) (d : Nat) : ∀ (k i : Nat) (n : Int), i ≤ l.length → l.length - i = d → 2 * bulkOf (l.drop i) + l.length + 20 < k →
    lamplighterlaw06_DelimJoins.l0 k s c n (lackOf (UInt8.ofNat c.toNat) (l.take i)) l (l.length : Int) i = some true := by
  have hn := bulk_length l
  induction d with
  | zero =>
    intro k i n hi hd hk
    obtain ⟨k, rfl⟩ : ∃ m, k = m + 1 + 1 := ⟨k - 1 - 1, by omega⟩
    have q : ¬ ((i : Int) < (l.length : Int)) := by omega
    have hlb := lack_bulk (UInt8.ofNat c.toNat) l
    have hll : (lackOf (UInt8.ofNat c.toNat) l).length ≤ l.length := List.length_filter_le _ _
    rw [lamplighterlaw06_DelimJoins.l0, if_neg q, List.take_of_length_le (by omega)]
    exact joins_end s c _ hs (by omega) (lack_has _ l) k (by omega) n
  | succ d ih =>
    intro k i n hi hd hk
    have hlt : i < l.length := by omega
    have q : (i : Int) < (l.length : Int) := by omega
    have q0 : (0 : Int) ≤ (i : Int) := by omega
    have hi9 : i ≤ 1000000000 := by omega
    have hdr := drop_cons l i hlt
    have hbd := bulk_drop l i
    rw [hdr, bulk_cons] at hk hbd
    obtain ⟨k, rfl⟩ : ∃ m, k = m + (rdOf ByteArray.empty l (i : Int)).size + 1 + 1 := ⟨k - (rdOf ByteArray.empty l (i : Int)).size - 1 - 1, by omega⟩
    have e := fun n => ih k (i + 1) n (by omega) (by omega) (by omega)
    have hcl : (lackOf (UInt8.ofNat c.toNat) (l.take i)).length < 8796093022208 := by
      have a1 : (lackOf (UInt8.ofNat c.toNat) (l.take i)).length ≤ (l.take i).length := List.length_filter_le _ _
      rw [List.length_take] at a1
      omega
    have hin := fun n => inner_lack s c n hc (lackOf (UInt8.ofNat c.toNat) (l.take i)) (rdOf ByteArray.empty l (i : Int)) l (l.length : Int) (i : Int) (by omega) _ k 0 (by omega) rfl
    rw [take_rd l i hlt, lack_snoc] at e
    rw [List.take_zero, show decide (UInt8.ofNat c.toNat ∈ ([] : List UInt8)) = false by simp, Nat.sub_zero] at hin
    rw [lamplighterlaw06_DelimJoins.l0, if_pos q, if_pos q0, if_pos q]
    refine (show _ = _ from hin _).trans ?_
    rw [wrap_succ i hi9, if_pos hcl]
    by_cases h : UInt8.ofNat c.toNat ∈ (rdOf ByteArray.empty l (i : Int)).data.toList
    · rw [if_pos h] at e ⊢
      exact e _
    · rw [if_neg h] at e ⊢
      exact e _
theorem DelimJoins (s : ByteArray) (c : Int) (l : List ByteArray) (hs : s.size ≤ 1048576) (hc : 0 ≤ c ∧ c ≤ 255) (hl : bulkOf l ≤ 1048576) : ∃ k, lamplighterlaw06_DelimJoins.f k s c l = some true := by
  suffices H : ∀ k, 2 * bulkOf l + l.length + 20 < k → lamplighterlaw06_DelimJoins.f k s c l = some true from ⟨_, H (2 * bulkOf l + l.length + 20 + 1) (by omega)⟩
  intro k hk
  unfold lamplighterlaw06_DelimJoins.f
  exact joins_loop s c hc l hs hl _ k 0 _ (by omega) rfl (by simpa using hk)
end Go.Proofs.YtabcmcllcfapkaaDoor.Pure
