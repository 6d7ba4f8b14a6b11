/- The law MshKnown as a statement over two numbers and a text: heads of each version and of P, D and T are right, with more components too; longer or empty ones aren't; conditions: the numbers are bytes. -/
import Derived.Test.YtcjcaojgminjpaaDoorKnownW
import Derived.Test.YtcjcaojgminjpaaDoorAlive09
namespace Go.Proofs.YtcjcaojgminjpaaDoor.Pure
open Go Go.RowKit Go.Proofs.YtcjcaojgminjpaaDoor.PA Go.Proofs.YtcjcaojgminjpaaDoorW.PrintWords Go.Proofs.YtcjcaojgminjpaaDoorW.PrintLast
theorem cut_head (c : UInt8) (a b : List UInt8) (h : c ∉ a) : ∃ t, cutL c (a ++ b) = (a ++ (cutL c b).headD []) :: t := by
  induction a with
  | nil =>
    obtain ⟨x, t, e⟩ := cutL_form c b
    exact ⟨t, by rw [List.nil_append, e]; rfl⟩
  | cons y a ih =>
    have hy : y ≠ c := fun e => h (by simp [e])
    obtain ⟨t, e⟩ := ih (fun hm => h (List.mem_cons_of_mem _ hm))
    exact ⟨t, by rw [List.cons_append, cutL_miss hy, e]; rfl⟩
theorem nth_one (l : List (List UInt8)) : nthOf l 1 = l.headD [] := by cases l <;> rfl
/-- A first component, with a further component behind it. -/
theorem first_more (v more : List UInt8) (h1 : (94 : UInt8) ∉ v) (h2 : (126 : UInt8) ∉ v) : firstOf 94 126 (v ++ 94 :: more) = v := by
  unfold firstOf
  rw [nth_one, nth_one]
  obtain ⟨t, e⟩ := cut_head 126 v (94 :: more) h2
  have e3 : (cutL 126 (94 :: more)).headD [] = 94 :: (cutL 126 more).headD [] := by rw [cutL_miss (by decide)]; rfl
  rw [e, List.headD_cons, e3, cutL_append_hit h1]
  rfl
theorem vers_plain : ∀ v ∈ verB, (94 : UInt8) ∉ v ∧ (126 : UInt8) ∉ v ∧ firstOf 94 126 v = v ∧ firstOf 94 126 (v ++ [120]) ∉ verB ∧ v.length ≤ 10 := by decide
theorem proc_plain : ∀ v ∈ procB, (94 : UInt8) ∉ v ∧ (126 : UInt8) ∉ v ∧ firstOf 94 126 v = v ∧ v.length ≤ 10 := by decide
theorem rd_text (l : List (List UInt8)) (i : Nat) (h : i < l.length) : ∃ v ∈ l, rdOf ByteArray.empty (l.map strOf) (i : Int) = strOf v := by
  refine ⟨l[i], List.getElem_mem h, ?_⟩
  unfold rdOf
  rw [Int.toNat_natCast, List.getD_eq_getElem?_getD, List.getElem?_map, List.getElem?_eq_getElem h]
  rfl
theorem known_at (k : Nat) (hk : 10 < k) (more : ByteArray) (hm : (more.size : Int) ≤ 300) (v p : List UInt8) (hv : v ∈ verB) (hp : p ∈ procB) :
    msh_Check.f k 124 94 126 92 38 (⟨#[]⟩ : ByteArray) (⟨#[]⟩ : ByteArray) (⟨#[]⟩ : ByteArray) (⟨#[]⟩ : ByteArray) (⟨#[]⟩ : ByteArray) (⟨#[]⟩ : ByteArray) (⟨#[65, 68, 84]⟩ : ByteArray) (⟨#[49]⟩ : ByteArray) (strOf p) (strOf v) = some 0 ∧
    msh_Check.f k 124 94 126 92 38 (⟨#[]⟩ : ByteArray) (⟨#[]⟩ : ByteArray) (⟨#[]⟩ : ByteArray) (⟨#[]⟩ : ByteArray) (⟨#[]⟩ : ByteArray) (⟨#[]⟩ : ByteArray) (⟨#[65, 68, 84]⟩ : ByteArray) (⟨#[49]⟩ : ByteArray) ((strOf p ++ (⟨#[94]⟩ : ByteArray)) ++ more) ((strOf v ++ (⟨#[94]⟩ : ByteArray)) ++ more) = some 0 ∧
    msh_Check.f k 124 94 126 92 38 (⟨#[]⟩ : ByteArray) (⟨#[]⟩ : ByteArray) (⟨#[]⟩ : ByteArray) (⟨#[]⟩ : ByteArray) (⟨#[]⟩ : ByteArray) (⟨#[]⟩ : ByteArray) (⟨#[65, 68, 84]⟩ : ByteArray) (⟨#[49]⟩ : ByteArray) (strOf p) (strOf v ++ (⟨#[120]⟩ : ByteArray)) = some 12 ∧
    msh_Check.f k 124 94 126 92 38 (⟨#[]⟩ : ByteArray) (⟨#[]⟩ : ByteArray) (⟨#[]⟩ : ByteArray) (⟨#[]⟩ : ByteArray) (⟨#[]⟩ : ByteArray) (⟨#[]⟩ : ByteArray) (⟨#[65, 68, 84]⟩ : ByteArray) (⟨#[49]⟩ : ByteArray) (strOf p) (⟨#[]⟩ : ByteArray) = some 12 ∧
    msh_Check.f k 124 94 126 92 38 (⟨#[]⟩ : ByteArray) (⟨#[]⟩ : ByteArray) (⟨#[]⟩ : ByteArray) (⟨#[]⟩ : ByteArray) (⟨#[]⟩ : ByteArray) (⟨#[]⟩ : ByteArray) (⟨#[65, 68, 84]⟩ : ByteArray) (⟨#[49]⟩ : ByteArray) (⟨#[80, 68]⟩ : ByteArray) (strOf v) = some 13 := by
  obtain ⟨v1, v2, v3, v4, v5⟩ := vers_plain v hv
  obtain ⟨p1, p2, p3, p5⟩ := proc_plain p hp
  have h94 : IsByte 94 := by unfold IsByte; decide
  have h126 : IsByte 126 := by unfold IsByte; decide
  have u94 : UInt8.ofNat (94 : Int).toNat = 94 := rfl
  have u126 : UInt8.ofNat (126 : Int).toNat = 126 := rfl
  have ml := len_size more
  have ev : (strOf v ++ (⟨#[94]⟩ : ByteArray)) ++ more = strOf (v ++ 94 :: more.data.toList) := by
    rw [show (⟨#[94]⟩ : ByteArray) = strOf [94] from rfl]
    conv => lhs; rw [← strOf_of more]
    rw [← strOf_snoc, ← strOf_snoc]
    simp
  have ep : (strOf p ++ (⟨#[94]⟩ : ByteArray)) ++ more = strOf (p ++ 94 :: more.data.toList) := by
    rw [show (⟨#[94]⟩ : ByteArray) = strOf [94] from rfl]
    conv => lhs; rw [← strOf_of more]
    rw [← strOf_snoc, ← strOf_snoc]
    simp
  have ex : strOf v ++ (⟨#[120]⟩ : ByteArray) = strOf (v ++ [120]) := by
    rw [show (⟨#[120]⟩ : ByteArray) = strOf [120] from rfl, ← strOf_snoc]
  have C := fun (a b : List UInt8) (ha : a.length ≤ 10000) (hb : b.length ≤ 10000) => Check_spec k hk 124 94 126 92 38 (⟨#[]⟩ : ByteArray) (⟨#[]⟩ : ByteArray) (⟨#[]⟩ : ByteArray) (⟨#[]⟩ : ByteArray) (⟨#[]⟩ : ByteArray) (⟨#[]⟩ : ByteArray) (⟨#[65, 68, 84]⟩ : ByteArray) (⟨#[49]⟩ : ByteArray) (strOf a) (strOf b) (by rw [strOf_size]; omega) (by rw [strOf_size]; omega) h94 h126
  simp only [strOf_data, u94, u126] at C
  have K : ∀ a b : List UInt8, checkOf 94 126 (⟨#[65, 68, 84]⟩ : ByteArray).data.toList (⟨#[49]⟩ : ByteArray).data.toList a b = if firstOf 94 126 b ∉ verB then 12 else if firstOf 94 126 a ∉ procB then 13 else 0 := by
    intro a b
    unfold checkOf
    rw [if_neg (by decide)]
  have hl1 : (v ++ 94 :: more.data.toList).length ≤ 10000 := by rw [List.length_append, List.length_cons]; omega
  have hl2 : (p ++ 94 :: more.data.toList).length ≤ 10000 := by rw [List.length_append, List.length_cons]; omega
  refine ⟨?_, ?_, ?_, ?_, ?_⟩
  · rw [C p v (by omega) (by omega), K, v3, p3, if_neg (fun h => h hv), if_neg (fun h => h hp)]
  · rw [ev, ep, C _ _ hl2 hl1, K, first_more v _ v1 v2, first_more p _ p1 p2, if_neg (fun h => h hv), if_neg (fun h => h hp)]
  · rw [ex, C p (v ++ [120]) (by omega) (by rw [List.length_append, List.length_singleton]; omega), K, if_pos v4]
  · rw [show (⟨#[]⟩ : ByteArray) = strOf [] from rfl]
    have := C p [] (by omega) (by decide)
    rw [show (⟨#[]⟩ : ByteArray) = strOf [] from rfl] at this
    rw [this, K, if_pos (by decide)]
  · rw [show (⟨#[80, 68]⟩ : ByteArray) = strOf [80, 68] from rfl, C [80, 68] v (by decide) (by omega), K, v3, if_neg (fun h => h hv), if_pos (by decide)]
theorem MshKnown (a b : Int) (more : ByteArray) (ha : 0 ≤ a ∧ a ≤ 255) (hb : 0 ≤ b ∧ b ≤ 255) (_hm : more.size ≤ 140737488351232) (W : World) (hG : GlobOK W) :
    Calls Tryd.prog 6 #[.int .u8 a, .int .u8 b, .string more] W fun e w' => e = .returned (.bool true) ∧ Below W.heap.size W w' := by
  refine known_walk 99 a b more W ha hb hG (alive9_is 99 (by decide)) ?_
  intro hm
  have t0 : 0 ≤ Int.tmod a 10 := Int.tmod_nonneg _ ha.1
  have t1 : Int.tmod a 10 < 10 := Int.tmod_lt_of_pos a (by decide)
  have s0 : 0 ≤ Int.tmod b 3 := Int.tmod_nonneg _ hb.1
  have s1 : Int.tmod b 3 < 3 := Int.tmod_lt_of_pos b (by decide)
  obtain ⟨i, hi⟩ := Int.eq_ofNat_of_zero_le t0
  obtain ⟨j, hj⟩ := Int.eq_ofNat_of_zero_le s0
  rw [hi] at t0 t1 ⊢
  rw [hj] at s0 s1 ⊢
  obtain ⟨v, hvm, ev⟩ := rd_text verB i (by show i < 10; omega)
  obtain ⟨p, hpm, ep⟩ := rd_text procB j (by show j < 3; omega)
  obtain ⟨_, _, _, _, v5⟩ := vers_plain v hvm
  obtain ⟨_, _, _, p5⟩ := proc_plain p hpm
  obtain ⟨k1, k2, k3, k4, k5⟩ := known_at 99 (by decide) more (by omega) v p hvm hpm
  exact ⟨strOf v, strOf p, by rw [strOf_size]; exact v5, by rw [strOf_size]; exact p5, ev, ep, k1, k2, k3, k4, k5⟩
end Go.Proofs.YtcjcaojgminjpaaDoor.Pure
