/- The law DelimCuts as a statement over a text, a byte and texts: what is cut and joined is the document's; condition: the arguments count at most 1048576 together. -/
import Derived.Test.YtabcmcllcfapkaaDoorPHx7
import Derived.Test.YtabcmcllcfapkaaDoorCuts06
import Derived.Test.YtabcmcllcfapkaaDoorAlive06
namespace Go.Proofs.YtabcmcllcfapkaaDoor.Pure
open Go Go.RowKit Go.Proofs.YtabcmcllcfapkaaDoor.PH Go.Proofs.YtabcmcllcfapkaaDoorW.PrintWords Go.Proofs.YtabcmcllcfapkaaDoorW.PrintLast

theorem cuts_end (s : ByteArray) (c : Int) (l : List ByteArray) (hs : s.size ≤ 1048576) (hc : 0 ≤ c ∧ c ≤ 255) (hl : bulkOf l ≤ 1048576) (k : Nat) (hk : s.size + l.length + 9 < k) (n : Int) :
    (if n > 3000 then ((lamplighterlaw06_alive.f k).bind fun t191 => (some t191)) else ((lamplighterlaw06_alive.f k).bind fun t192 => (if t192 = true then ((delim_Cut.f s c).bind fun t193 => ((lamplighterref06_Cut.f k s c).bind fun t196 => ((lamplighterlaw06_same.f k t193 t196).bind fun t199 => (if t199 = true then ((delim_Join.f c l).bind fun t200 => ((lamplighterref06_Join.f k c l).bind fun t201 => (some (t200.toList == t201.toList)))) else (some false))))) else (some false)))) = some true := by
  have h1 := cutL_length (UInt8.ofNat c.toNat) s.data.toList
  have h2 := List.count_le_length (a := UInt8.ofNat c.toNat) (l := s.data.toList)
  rw [len_size] at h2
  rw [alive_is k (by omega), Option.bind_some, Option.bind_some, if_pos rfl, dCut_spec s c (by omega), Option.bind_some, refCut_spec k s c (by omega) hc (by omega), Option.bind_some, same6_refl k _ (by rw [List.length_map]; omega) (by rw [List.length_map]; omega), Option.bind_some, if_pos rfl,
    dJoin_spec l c (by omega), Option.bind_some, refJ_spec k c l hl (by omega), Option.bind_some, beq_self_eq_true, ite_self]
theorem cuts_loop (s : ByteArray) (c : Int) (l : List ByteArray) (hs : s.size ≤ 1048576) (hc : 0 ≤ c ∧ c ≤ 255) (hl : bulkOf l ≤ 1048576) (d : Nat) : ∀ (k i : Nat) (n : Int), l.length - i = d → d + s.size + l.length + 10 < k →
    lamplighterlaw06_DelimCuts.l0 k s c l n l (l.length : Int) i = some true := by
  have hn := bulk_length l
  induction d with
  | zero =>
    intro k i n hi hk
    obtain ⟨k, rfl⟩ : ∃ m, k = m + 1 := ⟨k - 1, by omega⟩
    have q : ¬ ((i : Int) < (l.length : Int)) := by omega
    have hk2 : s.size + l.length + 9 < k := by omega
    rw [lamplighterlaw06_DelimCuts.l0, if_neg q]
    exact cuts_end s c l hs hc hl k hk2 n
  | succ d ih =>
    intro k i n hi hk
    obtain ⟨k, rfl⟩ : ∃ m, k = m + 1 := ⟨k - 1, by omega⟩
    have q : (i : Int) < (l.length : Int) := by omega
    have q0 : (0 : Int) ≤ (i : Int) := by omega
    have e := fun n => ih k (i + 1) n (by omega) (by omega)
    rw [lamplighterlaw06_DelimCuts.l0, if_pos q, if_pos q0, if_pos q, wrap_succ i (by omega), e]
theorem DelimCuts (s : ByteArray) (c : Int) (l : List ByteArray) (hs : s.size ≤ 1048576) (hc : 0 ≤ c ∧ c ≤ 255) (hl : bulkOf l ≤ 1048576) : ∃ k, lamplighterlaw06_DelimCuts.f k s c l = some true := by
  suffices H : ∀ k, l.length + s.size + l.length + 11 < k → lamplighterlaw06_DelimCuts.f k s c l = some true from ⟨_, H (l.length + s.size + l.length + 12) (by omega)⟩
  intro k hk
  unfold lamplighterlaw06_DelimCuts.f
  exact cuts_loop s c l hs hc hl _ k 0 _ rfl (by omega)
end Go.Proofs.YtabcmcllcfapkaaDoor.Pure
