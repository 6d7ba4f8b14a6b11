/- The law DelimBack as a statement over five signs, a byte and bytes: what tells signs is read as them, with another byte behind it isn't; conditions: the numbers are bytes. -/
import Derived.Test.YtabddkoehdddoaaPEx2
import Derived.Test.YtabddkoehdddoaaPEx4
import Derived.Test.YtabddkoehdddoaaPEx5
import Derived.Test.YtabddkoehdddoaaDelimBack
import Derived.Test.YtabddkoehdddoaaAlive06
import Derived.Test.YtabddkoehdddoaaStr
namespace Go.Proofs.Ytabddkoehdddoaa.Pure
open Go Go.RowKit Go.Proofs.Ytabddkoehdddoaa.PE Go.Proofs.YtabddkoehdddoaaW.PrintWords Go.Proofs.YtabddkoehdddoaaW.PrintLast
theorem sign_u8 {c : Int} (hc : IsByte c) : ((UInt8.ofNat c.toNat).toNat : Int) = c := by
  rw [UInt8.toNat_ofNat']
  unfold IsByte at hc
  omega
theorem str_nums {l : List Int} (h : ∀ x ∈ l, IsByte x) : bytesOf (strOfNums l) = l := by
  rw [numsOf_bytes, str_data]
  unfold numsOf Lib.bytesOf
  rw [List.map_map]
  conv => rhs; rw [← List.map_id l]
  exact List.map_congr_left (fun x hx => sign_u8 (h x hx))
theorem DelimBack (c0 c1 c2 c3 c4 n : Int) (l : List Int) (hc0 : IsByte c0) (hc1 : IsByte c1) (hc2 : IsByte c2) (hc3 : IsByte c3) (hc4 : IsByte c4) (hn : 0 ≤ n ∧ n ≤ 255) (hl : ∀ x ∈ l, IsByte x) : ∃ k, lamplighterlaw06_DelimBack.f k c0 c1 c2 c3 c4 n l = some true := by
  refine ⟨101, ?_⟩
  have hW : delim_Write.f 101 c0 c1 c2 c3 c4 = some (if GoodS c0 c1 c2 c3 c4 then ((⟨#[77, 83, 72]⟩ : ByteArray) ++ strOfNums [c0, c1, c2, c3, c4], 0) else ((⟨#[]⟩ : ByteArray), 11)) := by
    unfold delim_Write.f delim_five.f
    rw [Right_spec _ (by omega) _ _ _ _ _ hc0 hc1 hc2 hc3 hc4, Option.bind_some]
    by_cases hg : GoodS c0 c1 c2 c3 c4
    · rw [if_pos (decide_eq_true hg), if_pos hg, Option.bind_some]
      rfl
    · rw [if_neg (fun h => hg (of_decide_eq_true h)), if_neg hg]
  unfold lamplighterlaw06_DelimBack.f
  rw [hW, Option.bind_some]
  by_cases hg : GoodS c0 c1 c2 c3 c4
  · rw [if_pos hg]
    dsimp only
    rw [if_pos rfl, show (101 : Nat) = 100 + 1 from rfl, lamplighterlaw06_DelimBack.j0]
    by_cases hs : (l.length : Int) > 1000
    · rw [if_pos (decide_eq_true hs), alive_is _ (by decide)]
      rfl
    · have hs1 : l.length ≤ 1000 := by omega
      have hw5 : ∀ t : List Int, (∀ x ∈ t, IsByte x) → bytesOf ((⟨#[77, 83, 72]⟩ : ByteArray) ++ strOfNums ([c0, c1, c2, c3, c4] ++ t)) = 77 :: 83 :: 72 :: c0 :: c1 :: c2 :: c3 :: c4 :: t := by
        intro t ht
        have e1 : (⟨#[77, 83, 72]⟩ : ByteArray) ++ strOfNums ([c0, c1, c2, c3, c4] ++ t) = strOfNums (77 :: 83 :: 72 :: c0 :: c1 :: c2 :: c3 :: c4 :: t) := by
          apply bytes_eq
          simp [ByteArray.data_append, strOfNums]
        rw [e1, str_nums]
        intro x hx
        simp only [List.mem_cons] at hx
        rcases hx with rfl | rfl | rfl | rfl | rfl | rfl | rfl | rfl | hx
        · exact ⟨by decide, by decide⟩
        · exact ⟨by decide, by decide⟩
        · exact ⟨by decide, by decide⟩
        · exact hc0
        · exact hc1
        · exact hc2
        · exact hc3
        · exact hc4
        · exact ht x hx
      have hz : ((⟨#[77, 83, 72]⟩ : ByteArray) ++ strOfNums [c0, c1, c2, c3, c4]).size = 8 := rfl
      have j1 : ((⟨#[77, 83, 72]⟩ : ByteArray) ++ strOfNums [c0, c1, c2, c3, c4]) ++ strOfNums [c0] = (⟨#[77, 83, 72]⟩ : ByteArray) ++ strOfNums ([c0, c1, c2, c3, c4] ++ [c0]) := by
        apply bytes_eq
        simp [ByteArray.data_append, strOfNums]
      have j2 : ((⟨#[77, 83, 72]⟩ : ByteArray) ++ strOfNums [c0, c1, c2, c3, c4]) ++ (⟨#[13]⟩ : ByteArray) = (⟨#[77, 83, 72]⟩ : ByteArray) ++ strOfNums ([c0, c1, c2, c3, c4] ++ [13]) := by
        apply bytes_eq
        simp [ByteArray.data_append, strOfNums]
      have s1 : ((⟨#[77, 83, 72]⟩ : ByteArray) ++ strOfNums ([c0, c1, c2, c3, c4] ++ [c0])).size = 9 := rfl
      have s2 : ((⟨#[77, 83, 72]⟩ : ByteArray) ++ strOfNums ([c0, c1, c2, c3, c4] ++ [13])).size = 9 := rfl
      have one : ∀ x, IsByte x → ∀ y ∈ [x], IsByte y := fun x hx y hy => by rw [List.mem_singleton] at hy; rw [hy]; exact hx
      have b1 := hw5 [c0] (one c0 hc0)
      have b2 := hw5 [13] (one 13 ⟨by decide, by decide⟩)
      have b3 := hw5 [] (fun x hx => by cases hx)
      rw [List.append_nil] at b3
      have a1 : cv_app.f ((⟨#[77, 83, 72]⟩ : ByteArray) ++ strOfNums ([c0, c1, c2, c3, c4] ++ [c0])) l = some (77 :: 83 :: 72 :: c0 :: c1 :: c2 :: c3 :: c4 :: c0 :: l) := by
        unfold cv_app.f
        rw [if_pos (by rw [s1]; omega), b1]
        rfl
      have a2 : cv_str.f ((⟨#[77, 83, 72]⟩ : ByteArray) ++ strOfNums ([c0, c1, c2, c3, c4] ++ [13])) = some (77 :: 83 :: 72 :: c0 :: c1 :: c2 :: c3 :: c4 :: [13]) := by
        unfold cv_str.f
        rw [if_pos (by rw [s2]; decide), b2]
      have a3 : cv_app1.f ((⟨#[77, 83, 72]⟩ : ByteArray) ++ strOfNums [c0, c1, c2, c3, c4]) n = some (77 :: 83 :: 72 :: c0 :: c1 :: c2 :: c3 :: c4 :: [n]) := by
        unfold cv_app1.f
        rw [if_pos (by rw [hz]; decide), b3]
        rfl
      have a4 : cv_str.f ((⟨#[77, 83, 72]⟩ : ByteArray) ++ strOfNums [c0, c1, c2, c3, c4]) = some [77, 83, 72, c0, c1, c2, c3, c4] := by
        unfold cv_str.f
        rw [if_pos (by rw [hz]; decide), b3]
      have all : ∀ t : List Int, (∀ x ∈ t, IsByte x) → ∀ x ∈ 77 :: 83 :: 72 :: c0 :: c1 :: c2 :: c3 :: c4 :: t, IsByte x := by
        intro t ht x hx
        simp only [List.mem_cons] at hx
        rcases hx with rfl | rfl | rfl | rfl | rfl | rfl | rfl | rfl | hx
        · exact ⟨by decide, by decide⟩
        · exact ⟨by decide, by decide⟩
        · exact ⟨by decide, by decide⟩
        · exact hc0
        · exact hc1
        · exact hc2
        · exact hc3
        · exact hc4
        · exact ht x hx
      have g1 : ((⟨#[77, 83, 72]⟩ : ByteArray) ++ strOfNums [c0, c1, c2, c3, c4]).size + (strOfNums [c0]).size ≤ 9223372036854775807 := by rw [hz, show (strOfNums [c0]).size = 1 from rfl]; decide
      have g2 : ((⟨#[77, 83, 72]⟩ : ByteArray) ++ strOfNums [c0, c1, c2, c3, c4]).size + 1 ≤ 9223372036854775807 := by rw [hz]; decide
      have r1 := Read_spec 100 (by decide) _ (all (c0 :: l) (fun x hx => (List.mem_cons.1 hx).elim (fun e => e ▸ hc0) (hl x)))
      have r2 := Read_spec 100 (by decide) _ (all [13] (one 13 ⟨by decide, by decide⟩))
      have r3 := Read_spec 100 (by decide) _ (all [n] (one n hn))
      have r4 := Read_spec 100 (by decide) _ (all [] (fun x hx => by cases hx))
      rw [readS_full hg, if_pos (.inl rfl)] at r1
      rw [readS_full hg, if_pos (.inr rfl)] at r2
      rw [readS_full hg] at r3
      rw [readS_short] at r4
      have hz8 : ((((⟨#[77, 83, 72]⟩ : ByteArray) ++ strOfNums [c0, c1, c2, c3, c4]).size : Int) == 8) = true := rfl
      by_cases e0 : n = c0
      · rw [if_pos (.inl e0)] at r3
        rw [if_neg (by rw [decide_eq_true_eq]; exact hs), Option.bind_some, if_pos g1, j1, a1, Option.bind_some, r1, Option.bind_some, if_pos g2, j2, a2, Option.bind_some, r2, Option.bind_some, a3, Option.bind_some, r3, Option.bind_some, a4, Option.bind_some, r4, Option.bind_some, alive_is _ (by decide), Option.bind_some, if_pos rfl]
        dsimp only
        simp only [beq_self_eq_true, Bool.and_self, if_true, if_pos e0]
        try rw [hz8]
        try rfl
      · by_cases e1 : n = 13
        · rw [if_pos (.inr e1)] at r3
          rw [if_neg (by rw [decide_eq_true_eq]; exact hs), Option.bind_some, if_pos g1, j1, a1, Option.bind_some, r1, Option.bind_some, if_pos g2, j2, a2, Option.bind_some, r2, Option.bind_some, a3, Option.bind_some, r3, Option.bind_some, a4, Option.bind_some, r4, Option.bind_some, alive_is _ (by decide), Option.bind_some, if_pos rfl]
          dsimp only
          simp only [beq_self_eq_true, Bool.and_self, if_true, if_neg e0]
          try rw [e1]
          try rw [hz8]
          try rfl
        · have e2 : (n == 13) = false := by simpa using e1
          rw [if_neg (fun h => h.elim e0 e1)] at r3
          rw [if_neg (by rw [decide_eq_true_eq]; exact hs), Option.bind_some, if_pos g1, j1, a1, Option.bind_some, r1, Option.bind_some, if_pos g2, j2, a2, Option.bind_some, r2, Option.bind_some, a3, Option.bind_some, r3, Option.bind_some, a4, Option.bind_some, r4, Option.bind_some, alive_is _ (by decide), Option.bind_some, if_pos rfl]
          dsimp only
          simp only [beq_self_eq_true, Bool.and_self, if_true, if_neg e0, e2]
          try rw [hz8]
          try rfl
  · rw [if_neg hg]
    dsimp only
    rw [if_neg (by decide), show (101 : Nat) = 100 + 1 from rfl, lamplighterlaw06_DelimBack.j0, if_pos rfl, alive_is _ (by decide)]
    rfl
end Go.Proofs.Ytabddkoehdddoaa.Pure
