/- The law AckBehind over five signs, ten texts, bytes behind and further fields: the walk's premises hold; conditions: the signs are bytes, the texts count at most 1048576 bytes. -/
import Derived.Test.YtcjcaojgminjpabDoorBehindW
import Derived.Test.YtcjcaojgminjpabDoorAckRead
import Derived.Test.YtcjcaojgminjpabDoorGreat10
import Derived.Test.YtcjcaojgminjpabDoorAlive10
namespace Go.Proofs.YtcjcaojgminjpabDoor.Pure
open Go Go.RowKit Go.Proofs.YtcjcaojgminjpabDoor.PB Go.Proofs.YtcjcaojgminjpabDoorW.PrintWords Go.Proofs.YtcjcaojgminjpabDoorW.PrintLast
set_option linter.unusedVariables false
/-- Further fields behind a segment are fields of it. -/
theorem flat_make (d : UInt8) (name : List UInt8) (hn : name ≠ MSH) (a : List (List UInt8)) (l : List ByteArray) :
    ∃ more : List (List UInt8), (∀ x ∈ more, d ∉ x) ∧ makeOf d name a ++ flatF d l = makeOf d name (a ++ more) := by
  cases l with
  | nil => exact ⟨[], by simp, by simp [flatF]⟩
  | cons f l =>
    refine ⟨cutL d (f.data.toList ++ flatF d l), fun x hx => cutL_clean_parts d _ x hx, ?_⟩
    obtain ⟨h, t, e⟩ := cutL_form d (f.data.toList ++ flatF d l)
    have e2 := joinL_cutL d (f.data.toList ++ flatF d l)
    rw [e, ← flat_join] at e2
    have e3 : flatF d (f :: l) = d :: (f.data.toList ++ flatF d l) := rfl
    unfold makeOf
    rw [if_neg hn, if_neg hn, e, e3, ← e2]
    simp [List.append_assoc]
theorem behind_no13 {c : Int} (hc : (13 : UInt8) ≠ UInt8.ofNat c.toNat) : ∀ l : List ByteArray, (∀ f ∈ l, f.data.toList = [] ∨ OkF f) → (13 : UInt8) ∉ flatF (UInt8.ofNat c.toNat) l
  | [], _ => by simp [flatF]
  | f :: l, h => by
    have e3 : flatF (UInt8.ofNat c.toNat) (f :: l) = UInt8.ofNat c.toNat :: (f.data.toList ++ flatF (UInt8.ofNat c.toNat) l) := rfl
    rw [e3]
    intro hm
    rcases List.mem_cons.1 hm with hm | hm
    · exact hc hm
    rcases List.mem_append.1 hm with hm | hm
    · rcases h f (List.mem_cons_self ..) with hf | hf
      · rw [hf] at hm
        cases hm
      · exact hf.1 hm
    · exact behind_no13 hc l (fun f hf => h f (List.mem_cons_of_mem _ hf)) hm
theorem flat_length (c : UInt8) : ∀ l : List ByteArray, (flatF c l).length ≤ bulkOf l
  | [] => by simp [flatF]
  | f :: l => by
    have h := flat_length c l
    have e3 : flatF c (f :: l) = c :: (f.data.toList ++ flatF c l) := rfl
    rw [e3, bulk_cons, List.length_cons, List.length_append, len_size]
    omega
theorem numsOf_bytesOf {l : List Int} (h : ∀ x ∈ l, IsByte x) : numsOf (Lib.bytesOf l) = l := by
  induction l with
  | nil => rfl
  | cons x l ih =>
    have hx := h x (List.mem_cons_self ..)
    have e : numsOf (Lib.bytesOf (x :: l)) = ((UInt8.ofNat x.toNat).toNat : Int) :: numsOf (Lib.bytesOf l) := rfl
    rw [e, ih (fun y hy => h y (List.mem_cons_of_mem _ hy)), UInt8.toNat_ofNat']
    unfold IsByte at hx
    congr 1
    omega
theorem build_len (c c1 c2 c3 c4 : Int) (t5 t6 t7 t8 t9 t10 t11 t12 t13 t14 : ByteArray) (hb : t5.size + t6.size + t7.size + t8.size + t9.size + t12.size + t13.size + t14.size ≤ 1048576) :
    (numsOf (buildOf c c1 c2 c3 c4 t5 t6 t7 t8 t9 t12 t13 t14 ⟨#[65, 82]⟩).1).length ≤ 4000000 := by
  have hAs : ACK.size = 3 := rfl
  have h0s : (⟨#[]⟩ : ByteArray).size = 0 := rfl
  have hcs : (⟨#[65, 82]⟩ : ByteArray).size = 2 := rfl
  have hbk : bulkOf [t7, t8, t5, t6, t9, ⟨#[]⟩, ACK, t12, t13, t14] ≤ 1048586 + 3 := bulk10 (n := 1048579) (by omega)
  have hws := write_size c c1 c2 c3 c4 [t7, t8, t5, t6, t9, ⟨#[]⟩, ACK, t12, t13, t14] (by omega)
  have hms := msa_length c ⟨#[65, 82]⟩ t12
  unfold buildOf
  split
  · split
    · rw [nums_length]
      show (messOf _).length ≤ _
      rw [messOf_length, two_bulk, strOf_size]
      omega
    · exact Nat.zero_le _
  · exact Nat.zero_le _
theorem AckBehind (c0 c1 c2 c3 c4 : Int) (t5 t6 t7 t8 t9 t10 t11 t12 t13 t14 : ByteArray) (l1 : List Int) (l2 : List ByteArray) (hc0 : IsByte c0) (hc1 : IsByte c1) (hc2 : IsByte c2) (hc3 : IsByte c3) (hc4 : IsByte c4) (ht5 : t5.size ≤ 140737488351232) (ht6 : t6.size ≤ 140737488351232) (ht7 : t7.size ≤ 140737488351232) (ht8 : t8.size ≤ 140737488351232) (ht9 : t9.size ≤ 140737488351232) (ht10 : t10.size ≤ 140737488351232) (ht11 : t11.size ≤ 140737488351232) (ht12 : t12.size ≤ 140737488351232) (ht13 : t13.size ≤ 140737488351232) (ht14 : t14.size ≤ 140737488351232) (hsum : t5.size + t6.size + t7.size + t8.size + t9.size + t10.size + t11.size + t12.size + t13.size + t14.size ≤ 1048576) (hl1 : ∀ x ∈ l1, IsByte x) (hl2 : bulkOf l2 ≤ 1048576)
    (W : World) {A1 : Option Addr} {k1 : Nat} (hr1 : Kd.C (Kd.int .u8) W A1 l1.length l1) (hk1 : l1.length ≤ k1) {A2 : Option Addr} {k2 : Nat} (hr2 : Kd.C Kd.string W A2 l2.length l2) (hk2 : l2.length ≤ k2) (hGC : GlobC W) :
    Calls Tryd.prog 6 #[.agg #[.int .u8 c0, .int .u8 c1, .int .u8 c2, .int .u8 c3, .int .u8 c4, .string t5, .string t6, .string t7, .string t8, .string t9, .string t10, .string t11, .string t12, .string t13, .string t14], .slice A1 l1.length k1, .slice A2 l2.length k2] W fun e w' => e = .returned (.bool true) ∧ Below W.heap.size W w' := by
  have hgr := great10_spec c0 c1 c2 c3 c4 t5 t6 t7 t8 t9 t10 t11 t12 t13 t14 ht5 ht6 ht7 ht8 ht9 ht10 ht11 ht12 ht13 ht14
  have hb8 : t5.size + t6.size + t7.size + t8.size + t9.size + t12.size + t13.size + t14.size ≤ 1048576 := by omega
  have hB := Build_spec 60000 (by decide) c0 c1 c2 c3 c4 t5 t6 t7 t8 t9 t10 t11 t12 t13 t14 ⟨#[65, 82]⟩ hb8 (by decide) hc0 hc1 hc2 hc3 hc4
  refine behind_walk 60000 c0 c1 c2 c3 c4 t5 t6 t7 t8 t9 t10 t11 t12 t13 t14 A1 k1 l1 A2 k2 l2 W hr1 hk1 hr2 hk2 hGC (alive10_is 60000 (by decide)) _ _ hB _ hgr hc0 (build_len c0 c1 c2 c3 c4 t5 t6 t7 t8 t9 t10 t11 t12 t13 t14 hb8) ?_
  intro h0 hgf hl1s hne hok
  have hsm : t5.size + t6.size + t7.size + t8.size + t9.size + t10.size + t11.size + t12.size + t13.size + t14.size ≤ 2000 := by
    have := of_decide_eq_false hgf
    omega
  obtain ⟨hk, hgood, hf⟩ := build_zero h0
  have hid : ¬ (UInt8.ofNat c0.toNat ∈ t12.data.toList ∨ (13 : UInt8) ∈ t12.data.toList) := fun h => hf ⟨t12, by simp, h⟩
  have hd13 : (13 : UInt8) ≠ UInt8.ofNat c0.toNat := fun e => (good_no13 hgood).1 e.symm
  have e13 : ∀ s : List UInt8, numsOf (13 :: s) = 13 :: numsOf s := fun _ => rfl
  obtain ⟨more, hm1, hm2⟩ := flat_make (UInt8.ofNat c0.toNat) MSA (by decide) [(⟨#[65, 82]⟩ : ByteArray).data.toList, t12.data.toList] l2
  obtain ⟨k1', k2'⟩ := clean_texts hf
  have hM13 : (13 : UInt8) ∉ msaOf c0 ⟨#[65, 82]⟩ t12 := make_no13 (good_no13 hgood).1 (by decide) (by decide) _ (by
    intro x hx
    simp only [List.map_cons, List.map_nil, List.mem_cons, List.not_mem_nil, or_false] at hx
    rcases hx with rfl | rfl
    · exact code_no13 _ hk
    · exact fun h => hid (.inr h))
  have hA := (readA_second hc0 hc1 hc2 hc3 hc4 hgood hf (msaOf c0 ⟨#[65, 82]⟩ t12) hM13 []).trans (msa_tells hgood hk (fun h => hid (.inl h)) [] (by simp))
  have hM2 : (13 : UInt8) ∉ msaOf c0 ⟨#[65, 82]⟩ t12 ++ flatF (UInt8.ofNat c0.toNat) l2 := by
    intro h
    rcases List.mem_append.1 h with h | h
    · exact hM13 h
    · exact behind_no13 hd13 l2 hok h
  have hS := readA_second hc0 hc1 hc2 hc3 hc4 hgood hf (msaOf c0 ⟨#[65, 82]⟩ t12 ++ flatF (UInt8.ofNat c0.toNat) l2) hM2 (Lib.bytesOf l1)
  have hT := msa_tells hgood hk (fun h => hid (.inl h)) more hm1
  have hfl := flat_length (UInt8.ofNat c0.toNat) l2
  have hbn := build_nums hk hgood hf
  have hms := msa_length c0 ⟨#[65, 82]⟩ t12
  have hcs : (⟨#[65, 82]⟩ : ByteArray).size = 2 := rfl
  have hsl := seg_length c0 c1 c2 c3 c4 (trimB [t7, t8, t5, t6, t9, ⟨#[]⟩, ACK, t12, t13, t14])
  have hbt := trim_bulk [t7, t8, t5, t6, t9, ⟨#[]⟩, ACK, t12, t13, t14]
  have hAs : ACK.size = 3 := rfl
  have h0s : (⟨#[]⟩ : ByteArray).size = 0 := rfl
  have hbk : bulkOf [t7, t8, t5, t6, t9, ⟨#[]⟩, ACK, t12, t13, t14] ≤ 2003 + 10 := bulk10 (n := 2003) (by omega)
  refine ⟨strOf (⟨#[65, 82]⟩ : ByteArray).data.toList, strOf t12.data.toList, ?_, ?_⟩
  · rw [hbn]
    dsimp only
    rw [ackRead_spec 60000 (by decide) _ (nums_bytes _) (by rw [nums_length, List.length_append, List.length_cons, List.length_append, List.length_singleton]; omega), hA]
  · have eLL : bytesOf (strOf ((Lib.bytesOf (numsOf (buildOf c0 c1 c2 c3 c4 t5 t6 t7 t8 t9 t12 t13 t14 ⟨#[65, 82]⟩).1)).dropLast ++ flatF (UInt8.ofNat c0.toNat) l2) ++ ⟨#[13]⟩) ++ l1 = numsOf (segOf c0 c1 c2 c3 c4 ((trimB [t7, t8, t5, t6, t9, ⟨#[]⟩, ACK, t12, t13, t14]).map (fun x : ByteArray => x.data.toList)) ++ 13 :: ((msaOf c0 ⟨#[65, 82]⟩ t12 ++ flatF (UInt8.ofNat c0.toNat) l2) ++ 13 :: Lib.bytesOf l1)) := by
      rw [hbn]
      dsimp only
      rw [bytesOf_numsOf]
      have e1 : (segOf c0 c1 c2 c3 c4 ((trimB [t7, t8, t5, t6, t9, ⟨#[]⟩, ACK, t12, t13, t14]).map (fun x : ByteArray => x.data.toList)) ++ 13 :: (msaOf c0 ⟨#[65, 82]⟩ t12 ++ [13])).dropLast = segOf c0 c1 c2 c3 c4 ((trimB [t7, t8, t5, t6, t9, ⟨#[]⟩, ACK, t12, t13, t14]).map (fun x : ByteArray => x.data.toList)) ++ 13 :: msaOf c0 ⟨#[65, 82]⟩ t12 := by
        rw [show ∀ (a b : List UInt8), a ++ 13 :: (b ++ [13]) = (a ++ 13 :: b) ++ [13] from fun a b => by simp, List.dropLast_concat]
      rw [e1]
      have e2 : ∀ s : ByteArray, bytesOf s = numsOf s.data.toList := fun s => by rw [numsOf_bytes]
      rw [e2, ByteArray.data_append, Array.toList_append, strOf_data]
      have e4 := numsOf_bytesOf hl1
      conv => lhs; rw [← e4]
      rw [← nums_append]
      congr 1
      simp
    rw [eLL, ackRead_spec 60000 (by decide) _ (nums_bytes _) (by
      rw [nums_length, List.length_append, List.length_cons, List.length_append, List.length_append, List.length_cons, bytesOf_len]; omega), hS]
    have e5 : msaOf c0 ⟨#[65, 82]⟩ t12 ++ flatF (UInt8.ofNat c0.toNat) l2 = makeOf (UInt8.ofNat c0.toNat) MSA ((⟨#[65, 82]⟩ : ByteArray).data.toList :: t12.data.toList :: more) := hm2
    rw [e5, hT]
end Go.Proofs.YtcjcaojgminjpabDoor.Pure
