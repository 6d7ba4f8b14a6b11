/- Whether a text is among some, as the library asks; conditions: at most 1000000 texts, fuel for a step each. -/
import Derived.Test.YtljdbphojcglgaaDoorPFx6
import Derived.Test.YtljdbphojcglgaaDoorStr
namespace Go.Proofs.YtljdbphojcglgaaDoor.Pure
open Go Go.RowKit Go.Proofs.YtljdbphojcglgaaDoor.PF Go.Proofs.YtljdbphojcglgaaDoorW.PrintWords Go.Proofs.YtljdbphojcglgaaDoorW.PrintLast

theorem index_loop (l : List ByteArray) (a : ByteArray) (hl : l.length≤1000000) (d : Nat) : ∀ (k i : Nat),i≤l.length→l.length - i=d→d < k→(∀ x ∈ l.take i,x ≠ a) →
    ∃ n : Int,slices_Index_string_string.l0 k l a (l.length : Int) i=some n∧(n ≥ 0 ↔ a ∈ l):=by
  induction d with
  | zero =>
    intro k i hi hd hk hn
    obtain ⟨k,rfl⟩ : ∃ m,k=m + 1:=⟨k - 1,by omega⟩
    have q : ¬ ((i : Int) < (l.length : Int)):=by omega
    refine ⟨-1,by rw [slices_Index_string_string.l0,if_neg q],?_⟩
    rw [List.take_of_length_le (by omega)] at hn
    exact ⟨fun h=>absurd h (by decide),fun h=>absurd rfl (hn a h)⟩
  | succ d ih =>
    intro k i hi hd hk hn
    obtain ⟨k,rfl⟩ : ∃ m,k=m + 1:=⟨k - 1,by omega⟩
    have hlt:i < l.length:=by omega
    have q : (i : Int) < (l.length : Int):=by omega
    have q0 : (0 : Int)≤(i : Int):=by omega
    have hget:rdOf ByteArray.empty l (i : Int)=l[i]:=by simp [rdOf,hlt]
    by_cases h : a.toList=(rdOf ByteArray.empty l (i : Int)).toList
    · refine ⟨i,by rw [slices_Index_string_string.l0,if_pos q,if_pos q0,if_pos q,if_pos h],⟨fun _=>?_,fun _=>q0⟩⟩
      rw [hget,Lib.toList_data,Lib.toList_data] at h
      rw [bytes_eq h]
      exact List.getElem_mem _
    · obtain ⟨n,h1,h2⟩:=ih k (i + 1) (by omega) (by omega) (by omega) (by
        intro x hx
        rw [List.take_succ_eq_append_getElem hlt,List.mem_append,List.mem_singleton] at hx
        rcases hx with hx | rfl
        · exact hn x hx
        · rintro rfl
          exact h (by rw [hget]))
      refine ⟨n,?_,h2⟩
      rw [slices_Index_string_string.l0,if_pos q,if_pos q0,if_pos q,if_neg h,wrap_succ i (by omega),h1]
open Classical in
theorem contains_spec (k : Nat) (l : List ByteArray) (a : ByteArray) (hl : l.length≤1000000) (hk : l.length < k) : slices_Contains_string_string.f k l a=some (decide (a ∈ l)):=by
  obtain ⟨n,h1,h2⟩:=index_loop l a hl _ k 0 (by omega) rfl (by omega) (by simp)
  unfold slices_Contains_string_string.f slices_Index_string_string.f
  rw [show slices_Index_string_string.l0 k l a (l.length : Int) 0=some n from h1,Option.bind_some]
  congr 1
  rw [decide_eq_decide]
  exact h2
theorem mem_texts (l : List (List UInt8)) (x : List UInt8) : strOf x ∈ l.map strOf ↔ x ∈ l:=by
  constructor
  · intro h
    obtain ⟨y,hy,e⟩:=List.mem_map.1 h
    have:=congrArg (·.data.toList) e
    simp only [strOf_data] at this
    exact this ▸ hy
  · exact List.mem_map_of_mem
end Go.Proofs.YtljdbphojcglgaaDoor.Pure
