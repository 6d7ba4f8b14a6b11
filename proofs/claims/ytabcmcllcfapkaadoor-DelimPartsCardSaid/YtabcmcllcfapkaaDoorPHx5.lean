-- Written by a program of this work (the kit's print, with contracts of this work's own taken in) out of the translation. Not trusted: Lean checks it.
import Derived.Test.YtabcmcllcfapkaaDoorPHx0
import Derived.Test.YtabcmcllcfapkaaDoorPHx4
namespace Go.Proofs.YtabcmcllcfapkaaDoor.PH
open Go.RowKit Go.Proofs.YtabcmcllcfapkaaDoorW.PrintWords Go.Proofs.YtabcmcllcfapkaaDoorW.PrintLast Go.Proofs.YtabcmcllcfapkaaDoorW.PrintMore
attribute [local go_sem] max2_int min2_int max_two min_two max_three min_three max_four min_four   -- for this text's walks alone
set_option linter.unusedVariables false
set_option linter.unusedSimpArgs false

/-! ### strings_Index: function 28 -/
def strings_Index.f (a0 : ByteArray) (a1 : ByteArray) : Option (Int) := (stringslite_Index.f a0 a1).bind fun t151 => (some t151)
set_option maxHeartbeats 8000000 in
set_option maxRecDepth 100000 in
theorem strings_Index.calls (a0 : ByteArray) (a1 : ByteArray) (r : Int) (w : World) (h : strings_Index.f a0 a1 = some r) :
    Calls Tryd.prog 28 #[.string a0, .string a1] w fun e w' => e = .returned (.int .i64 r) ∧ Drawn0 w w' := by
  have H : ((stringslite_Index.f a0 a1).bind fun t151 => (some t151)) = some r := h
  clear h
  replace H := Option.bind_eq_some_iff.mp H
  obtain ⟨t151, A30, H⟩ := H
  replace H : (some t151) = some r := H
  have A3 := Aside0.mk A30
  clear A30
  obtain rfl := Option.some.inj H
  go_enter Tryd.func28, Tryd.ntmps28
  go_wp2_with (first | ((with_reducible refine gate_callee (f := 36) rfl ?_); refine goesL_ (some 7) rfl rfl Tryd.func36 (by kernel_rfl) rfl #[.string a0, .string a1] rfl (by (try simp only [List.map_toArray, List.map_cons, List.map_nil]); first | done | rfl | (simp only [List.length_drop, List.length_take]; rfl)) ?_; (with_reducible refine (stringslite_Index.calls a0 a1 t151 _ A3.out).mono ?_); rintro e w' ⟨rfl, ⟨nd, rfl⟩⟩; refine ⟨_, rfl, ?_⟩))
  go_ret
  exact ⟨by first | rfl | (simp; done) | (simp [*]; done), by repeat (first | exact Drawn0.refl _ | apply Drawn0.step)⟩

-- NOT PRINTED: function 35 (bytealg_CountString)

-- NOT PRINTED: function 27 (strings_Count)

-- NOT PRINTED: function 19 (strings_genSplit)

/-! ### strings_Split: function 15 -/
def strings_Split.f (a0 : ByteArray) (a1 : ByteArray) : Option (List ByteArray) := if a1.size = 1 ∧ a0.size ≤ 4000000000 then some ((cutL (a1.data.toList.headD 0) a0.data.toList).map strOf) else none
theorem split_byte (s : ByteArray) (c : UInt8) (w : World) (hs : s.size < 4294967281) :
    Calls Tryd.prog 15 #[.string s, .string ⟨#[c]⟩] w fun e w' =>
      e = .returned (.slice (some ⟨w.heap.size, 0, none⟩) (Lib.countB s ⟨#[c]⟩ + 1) (Lib.countB s ⟨#[c]⟩ + 1)) ∧ w' = w.alloc (.cells ((Lib.splitB ⟨#[c]⟩ 0 (Lib.countB s ⟨#[c]⟩) s).map Value.string).toArray 9) := by
  have L := Tryd.lays146
  have h1 : 1 ≤ (⟨#[c]⟩ : ByteArray).size := Nat.le_refl _
  have hle := Lib.countB_le ⟨#[c]⟩ h1 s.size s (Nat.le_refl _)
  have hlen := Lib.splitB_all ⟨#[c]⟩ h1 0 _ s rfl
  have hcnt : (Lib.countByte s.data.toList c : Int) = (Lib.countB s ⟨#[c]⟩ : Int) := by
    show _ = ((Lib.count s.data.toList [c] : Nat) : Int)
    rw [Lib.count_one]
    rfl
  have hidx : ∀ x : ByteArray, Lib.indexByte x.data.toList c = Lib.indexB x ⟨#[c]⟩ := fun x => by
    show _ = Lib.index x.data.toList [c]
    by_cases hc : c ∈ x.data.toList
    · obtain ⟨a, b, e, ha⟩ := first_hit hc
      rw [e, index_one_some ha, indexByte_hit ha b]
    · rw [index_one_none hc, indexByte_miss hc]
  have k := Any.strings_genSplit_core (ρ := Tryd.lays146_ren) { L with } (by kernel_rfl) s ⟨#[c]⟩ 0 (-1) (Lib.countB s ⟨#[c]⟩ + 1) w hs h1 (Nat.zero_le _)
    (fun x cs _ => by rw [← hidx]; exact Any.strings_Index_one { L with } x c _) (by rw [← hcnt]; exact Any.strings_Count_one { L with } s c w) (by decide) (by decide) (by rw [if_pos (by decide)]; omega)
  rw [Nat.add_sub_cancel, hlen] at k
  have e2 : Lib.cellsOf (Lib.splitB ⟨#[c]⟩ 0 (Lib.countB s ⟨#[c]⟩) s) (Lib.countB s ⟨#[c]⟩ + 1) = ((Lib.splitB ⟨#[c]⟩ 0 (Lib.countB s ⟨#[c]⟩) s).map Value.string).toArray := by
    have h := Lib.cellsOf_full (Lib.splitB ⟨#[c]⟩ 0 (Lib.countB s ⟨#[c]⟩) s)
    rwa [hlen] at h
  rw [e2] at k
  go_enter Tryd.func15, Tryd.ntmps15
  go_wp2_with (go_at_call 19; refine (show Calls Tryd.prog 19 _ _ _ from k).mono ?_; rintro e w' ⟨rfl, hw⟩; rw [hw])
  go_ret
  exact ⟨rfl, rfl⟩
theorem strings_Split.calls (a0 : ByteArray) (a1 : ByteArray) (r : List ByteArray) (w : World) (h : strings_Split.f a0 a1 = some r) :
    Calls Tryd.prog 15 #[.string a0, .string a1] w fun e w' => ∃ v0_ : Value, e = .returned (v0_) ∧ Kd.R Kd.string 9 w' w.heap.size (fun _ => True) v0_ r ∧ Below w.heap.size w w' := by
  unfold strings_Split.f at h
  split at h
  · rename_i hb
    obtain ⟨h1, hs⟩ := hb
    obtain rfl := Option.some.inj h
    obtain ⟨c, rfl⟩ := Lib.one_byte a1 h1
    refine (split_byte a0 c w (by omega)).mono ?_
    rintro e w' ⟨rfl, rfl⟩
    have hd : (Lib.splitB ⟨#[c]⟩ 0 (Lib.countB a0 ⟨#[c]⟩) a0).map (·.data.toList) = cutL c a0.data.toList := by
      rw [Lib.splitB_data]
      exact splitK_one c _ _ (by
        have : Lib.countB a0 ⟨#[c]⟩ = a0.data.toList.count c := by
          show Lib.count a0.data.toList [c] = _
          rw [Lib.count_one]
        rw [this]; exact Nat.le_refl _)
    have hl : Lib.splitB ⟨#[c]⟩ 0 (Lib.countB a0 ⟨#[c]⟩) a0 = (cutL c a0.data.toList).map strOf := by
      rw [← hd, List.map_map]
      conv => lhs; rw [← List.map_id (Lib.splitB ⟨#[c]⟩ 0 (Lib.countB a0 ⟨#[c]⟩) a0)]
      exact List.map_congr_left (fun z _ => by simp [strOf])
    have hlen := Lib.splitB_all ⟨#[c]⟩ (Nat.le_refl _) 0 _ a0 rfl
    have hle := Lib.countB_le ⟨#[c]⟩ (Nat.le_refl _) a0.size a0 (Nat.le_refl _)
    rw [hl] at hlen ⊢
    have hh : (⟨#[c]⟩ : ByteArray).data.toList.headD 0 = c := rfl
    rw [hh]
    refine ⟨_, rfl, ?_, (Below.refl _ w).alloc (Nat.le_refl _) _⟩
    have ho := World.ownsRow_lit (base := w.heap.size) (e := 9) (size := 1) w (((cutL c a0.data.toList).map strOf).map Value.string).toArray (Lib.countB a0 ⟨#[c]⟩ + 1) (Nat.le_refl _) (by unfold maxLen; omega) (by simp only [List.size_toArray, List.length_map] at hlen ⊢; omega)
    refine Kd.R_of_own ?_ (fun _ _ => trivial)
    rw [hlen]
    exact ho
  · cases h


/-! ### delim_Cut: function 7 -/
def delim_Cut.f (a0 : ByteArray) (a1 : Int) : Option (List ByteArray) := (strings_Split.f a0 (strOfNums (([a1] : List Int)))).bind fun t155 => (some t155)
set_option maxHeartbeats 8000000 in
set_option maxRecDepth 100000 in
theorem delim_Cut.calls (a0 : ByteArray) (a1 : Int) (r : List ByteArray) (w : World) (h : delim_Cut.f a0 a1 = some r) :
    Calls Tryd.prog 7 #[.string a0, .int .u8 a1] w fun e w' => ∃ v0_ : Value, e = .returned (v0_) ∧ Kd.R Kd.string 9 w' w.heap.size (fun _ => True) v0_ r ∧ Below w.heap.size w w' := by
  have HB := Aside0.mk (Below.refl w.heap.size w)
  have H : ((strings_Split.f a0 (strOfNums (([a1] : List Int)))).bind fun t155 => (some t155)) = some r := h
  clear h
  obtain ⟨y152, hy152⟩ : ∃ y_ : List Int, y_ = (([a1] : List Int)) := ⟨_, rfl⟩
  replace H : ((strings_Split.f a0 (strOfNums y152)).bind fun t155 => (some t155)) = some r := by first | (rw [hy152]; with_reducible exact H) | (have H2_ := (Option.bind_some _ _).symm.trans H; rw [hy152]; with_reducible exact H2_) | (have H2_ := (Option.bind_some _ _).symm.trans H; with_reducible exact H2_) | with_reducible exact H | (rw [hy152]; exact H) | exact H
  have Ny152 := Aside0.mk hy152
  clear hy152
  replace H := Option.bind_eq_some_iff.mp H
  obtain ⟨t155, A30, H⟩ := H
  replace H : (some t155) = some r := H
  have A3 := Aside0.mk A30
  clear A30
  obtain rfl := Option.some.inj H
  go_enter Tryd.func7, Tryd.ntmps7
  go_wp2_with (first | ((with_reducible refine gate_dst (N := 7) rfl ?_); refine Kd.R_lit (Kd.int .u8) _ 5 ?hg (N := 7) ?hd (xs := ([a1] : List Int)) (inner := [.int .u8 a1]) (ok := fun _ => True) (okp := fun _ => True) ?hr ?hp (fun _ hk => hk) trivial (Below.refl _ _) (Nat.le_refl _) (by simp) ?_; (case hd => rfl); (case hg => rfl); (case hr => first | (go_simp; done) | (go_simp; rfl)); (case hp => exact (Reps.one (show Kd.M (Kd.int .u8) _ _ _ a1 [.int .u8 a1] from rfl) (Reps.none _ _))); intro v153 w4 ho5 hb hg_ hnew_; clear hg_ hnew_; (first | rw [← Ny152.out] at ho5 | (simp only [Int.reduceToNat] at ho5; rw [← Ny152.out] at ho5)); have n0_ := Aside0.mk (Kd.R_lower ho5 (below_size (by repeat (first | (with_reducible first | exact HB.out | apply below_alloc | apply pw_below_drewN | apply below_drew1) | exact HB.out)))); have n1_ := Aside0.mk (below_step (by repeat (first | (with_reducible first | exact HB.out | apply below_alloc | apply pw_below_drewN | apply below_drew1) | exact HB.out)) hb); clear HB; have HO154 := n0_; have HB := n1_; clear n0_ n1_; clear hb ho5; have hcv6 := own_string (P := Tryd.prog) Tryd.underlying23 Tryd.underlying5 Tryd.underlying9 (Kd.own_of_R HO154.out)) | ((with_reducible refine gate_callee (f := 15) rfl ?_); refine goesL_ (some 9) rfl rfl Tryd.func15 (by kernel_rfl) rfl #[.string a0, .string (strOfNums y152)] rfl (by (try simp only [List.map_toArray, List.map_cons, List.map_nil]); first | done | rfl | (simp only [List.length_drop, List.length_take]; rfl)) ?_; (with_reducible refine (strings_Split.calls a0 (strOfNums y152) t155 _ A3.out).mono ?_); rintro e w7 ⟨v156, rfl, ho0, hb⟩; refine ⟨_, rfl, ?_⟩; have n0_ := Aside0.mk (Kd.R_below (by (with_reducible repeat (first | apply Kd.R_alloc | apply Kd.R_drewN | apply Kd.R_drew)); exact HO154.out) hb); have n1_ := Aside0.mk (Kd.R_lower ho0 (below_size (by repeat (first | (with_reducible first | exact HB.out | apply below_alloc | apply pw_below_drewN | apply below_drew1) | exact HB.out)))); have n2_ := Aside0.mk (below_step (by repeat (first | (with_reducible first | exact HB.out | apply below_alloc | apply pw_below_drewN | apply below_drew1) | exact HB.out)) hb); clear HO154; clear HB; have HO154 := n0_; have HO157 := n1_; have HB := n2_; clear n0_ n1_ n2_; (try clear hb); (try clear hb2); (try clear hk); (try clear hi); (try clear ho0)))
  go_ret
  exact ⟨_, by first | rfl | (simp [errW_none, errW_some] <;> rfl) | (simp [*, errW_none, errW_some] <;> rfl), by (with_reducible repeat (first | apply Kd.R_alloc | apply Kd.R_drewN | apply Kd.R_drew)); exact HO157.out, by repeat (first | (with_reducible first | exact HB.out | apply below_alloc | apply pw_below_drewN | apply below_drew1) | exact HB.out)⟩

/-! ### lamplighterlaw06_DelimParts: function 3 -/
mutual
def lamplighterlaw06_DelimParts.l0 : Nat → ByteArray → Int → Int → Int → Int → Int → Option (Bool)
  | 0, _, _, _, _, _, _ => none
  | k + 1, x0, x1, x2, x7, x19, x20 => if x20 < x19 then (if 0 ≤ x20 then (if x20 < (x0.size : Int) then (if (bt x0 x20) = x1 then (lamplighterlaw06_DelimParts.l0 k x0 x1 x2 (wrap64 (x7 + 1)) x19 (wrap64 (x20 + 1))) else (lamplighterlaw06_DelimParts.l0 k x0 x1 x2 x7 x19 (wrap64 (x20 + 1)))) else (none)) else (none)) else (lamplighterlaw06_DelimParts.l1 k x0 x1 x2 x7 x0 (Int.tmod x2 20) 0)
def lamplighterlaw06_DelimParts.l1 : Nat → ByteArray → Int → Int → Int → ByteArray → Int → Int → Option (Bool)
  | 0, _, _, _, _, _, _, _ => none
  | k + 1, x0, x1, x2, x7, x9, x33, x34 => if x34 < x33 then ((some (([x1] : List Int) : List Int)).bind fun y159 => (if x9.size + (strOfNums y159).size ≤ 9223372036854775807 then (lamplighterlaw06_DelimParts.l1 k x0 x1 x2 x7 (x9 ++ (strOfNums y159)) x33 ((x34 + 1) % 256)) else (none))) else ((delim_Cut.f x0 x1).bind fun t162 => ((delim_Cut.f x9 x1).bind fun t165 => ((lamplighterlaw06_alive.f k).bind fun t168 => (if t168 = true then (if (t162.length : Int) = x7 then (lamplighterlaw06_DelimParts.j2 k t162 t165 ((t165.length : Int) != (wrap64 (x7 + (wrap64 (Int.tmod x2 20)))))) else (lamplighterlaw06_DelimParts.j2 k t162 t165 true)) else (lamplighterlaw06_DelimParts.j2 k t162 t165 true)))))
def lamplighterlaw06_DelimParts.j2 : Nat → List ByteArray → List ByteArray → Bool → Option (Bool)
  | 0, _, _, _ => none
  | k + 1, x10, x11, x65 => if x65 = true then (some false) else (lamplighterlaw06_DelimParts.l2 k x10 x11 (x11.length : Int) 0)
def lamplighterlaw06_DelimParts.l2 : Nat → List ByteArray → List ByteArray → Int → Int → Option (Bool)
  | 0, _, _, _, _ => none
  | k + 1, x10, x66, x67, x68 => if x68 < x67 then (if 0 ≤ x68 then (if x68 < (x66.length : Int) then (if x68 < (x10.length : Int) then (if (rdOf ByteArray.empty x66 x68).toList = (rdOf ByteArray.empty x10 x68).toList then (if x68 ≥ (x10.length : Int) then (if (rdOf ByteArray.empty x66 x68).toList = ([] : List UInt8) then (lamplighterlaw06_DelimParts.l2 k x10 x66 x67 (wrap64 (x68 + 1))) else (some false)) else (lamplighterlaw06_DelimParts.l2 k x10 x66 x67 (wrap64 (x68 + 1)))) else (some false)) else (if x68 ≥ (x10.length : Int) then (if (rdOf ByteArray.empty x66 x68).toList = ([] : List UInt8) then (lamplighterlaw06_DelimParts.l2 k x10 x66 x67 (wrap64 (x68 + 1))) else (some false)) else (lamplighterlaw06_DelimParts.l2 k x10 x66 x67 (wrap64 (x68 + 1))))) else (none)) else (none)) else (some true)
end
def lamplighterlaw06_DelimParts.f (k : Nat) (a0 : ByteArray) (a1 : Int) (a2 : Int) : Option (Bool) := if (a0.size : Int) > 1500 then ((lamplighterlaw06_alive.f k).bind fun t158 => (some t158)) else (lamplighterlaw06_DelimParts.l0 k a0 a1 a2 1 (a0.size : Int) 0)
theorem lamplighterlaw06_DelimParts.mono_l : ∀ k, (∀ y0 y1 y2 y3 y4 y5, LeO (lamplighterlaw06_DelimParts.l0 k y0 y1 y2 y3 y4 y5) (lamplighterlaw06_DelimParts.l0 (k + 1) y0 y1 y2 y3 y4 y5)) ∧ (∀ y0 y1 y2 y3 y4 y5 y6, LeO (lamplighterlaw06_DelimParts.l1 k y0 y1 y2 y3 y4 y5 y6) (lamplighterlaw06_DelimParts.l1 (k + 1) y0 y1 y2 y3 y4 y5 y6)) ∧ (∀ y0 y1 y2, LeO (lamplighterlaw06_DelimParts.j2 k y0 y1 y2) (lamplighterlaw06_DelimParts.j2 (k + 1) y0 y1 y2)) ∧ (∀ y0 y1 y2 y3, LeO (lamplighterlaw06_DelimParts.l2 k y0 y1 y2 y3) (lamplighterlaw06_DelimParts.l2 (k + 1) y0 y1 y2 y3))
  | 0 => ⟨fun _ _ _ _ _ _ r h => by simp [lamplighterlaw06_DelimParts.l0] at h, fun _ _ _ _ _ _ _ r h => by simp [lamplighterlaw06_DelimParts.l1] at h, fun _ _ _ r h => by simp [lamplighterlaw06_DelimParts.j2] at h, fun _ _ _ _ r h => by simp [lamplighterlaw06_DelimParts.l2] at h⟩
  | k + 1 => by
    obtain ⟨ih0, ih1, ih2, ih3⟩ := lamplighterlaw06_DelimParts.mono_l k
    refine ⟨?_, ?_, ?_, ?_⟩
    · intro y0 y1 y2 y3 y4 y5
      unfold lamplighterlaw06_DelimParts.l0
      repeat' first
      | (with_reducible exact ih0 _ _ _ _ _ _)
      | (with_reducible exact ih1 _ _ _ _ _ _ _)
      | (with_reducible exact ih2 _ _ _)
      | (with_reducible exact ih3 _ _ _ _)
      | (with_reducible exact lamplighterlaw06_alive.mono _)
      | (with_reducible exact LeO.refl _)
      | (with_reducible exact LeO.none _)
      | (with_reducible refine LeO.ite ?_ ?_)
      | (with_reducible refine LeO.bind ?_ (fun _ => ?_))
      | exact ih0 _ _ _ _ _ _
      | exact ih1 _ _ _ _ _ _ _
      | exact ih2 _ _ _
      | exact ih3 _ _ _ _
      | exact lamplighterlaw06_alive.mono _
      | exact LeO.none _
      | refine LeO.ite ?_ ?_
      | refine LeO.bind ?_ (fun _ => ?_)
    · intro y0 y1 y2 y3 y4 y5 y6
      unfold lamplighterlaw06_DelimParts.l1
      repeat' first
      | (with_reducible exact ih0 _ _ _ _ _ _)
      | (with_reducible exact ih1 _ _ _ _ _ _ _)
      | (with_reducible exact ih2 _ _ _)
      | (with_reducible exact ih3 _ _ _ _)
      | (with_reducible exact lamplighterlaw06_alive.mono _)
      | (with_reducible exact LeO.refl _)
      | (with_reducible exact LeO.none _)
      | (with_reducible refine LeO.ite ?_ ?_)
      | (with_reducible refine LeO.bind ?_ (fun _ => ?_))
      | exact ih0 _ _ _ _ _ _
      | exact ih1 _ _ _ _ _ _ _
      | exact ih2 _ _ _
      | exact ih3 _ _ _ _
      | exact lamplighterlaw06_alive.mono _
      | exact LeO.none _
      | refine LeO.ite ?_ ?_
      | refine LeO.bind ?_ (fun _ => ?_)
    · intro y0 y1 y2
      unfold lamplighterlaw06_DelimParts.j2
      repeat' first
      | (with_reducible exact ih0 _ _ _ _ _ _)
      | (with_reducible exact ih1 _ _ _ _ _ _ _)
      | (with_reducible exact ih2 _ _ _)
      | (with_reducible exact ih3 _ _ _ _)
      | (with_reducible exact lamplighterlaw06_alive.mono _)
      | (with_reducible exact LeO.refl _)
      | (with_reducible exact LeO.none _)
      | (with_reducible refine LeO.ite ?_ ?_)
      | (with_reducible refine LeO.bind ?_ (fun _ => ?_))
      | exact ih0 _ _ _ _ _ _
      | exact ih1 _ _ _ _ _ _ _
      | exact ih2 _ _ _
      | exact ih3 _ _ _ _
      | exact lamplighterlaw06_alive.mono _
      | exact LeO.none _
      | refine LeO.ite ?_ ?_
      | refine LeO.bind ?_ (fun _ => ?_)
    · intro y0 y1 y2 y3
      unfold lamplighterlaw06_DelimParts.l2
      repeat' first
      | (with_reducible exact ih0 _ _ _ _ _ _)
      | (with_reducible exact ih1 _ _ _ _ _ _ _)
      | (with_reducible exact ih2 _ _ _)
      | (with_reducible exact ih3 _ _ _ _)
      | (with_reducible exact lamplighterlaw06_alive.mono _)
      | (with_reducible exact LeO.refl _)
      | (with_reducible exact LeO.none _)
      | (with_reducible refine LeO.ite ?_ ?_)
      | (with_reducible refine LeO.bind ?_ (fun _ => ?_))
      | exact ih0 _ _ _ _ _ _
      | exact ih1 _ _ _ _ _ _ _
      | exact ih2 _ _ _
      | exact ih3 _ _ _ _
      | exact lamplighterlaw06_alive.mono _
      | exact LeO.none _
      | refine LeO.ite ?_ ?_
      | refine LeO.bind ?_ (fun _ => ?_)
theorem lamplighterlaw06_DelimParts.mono : ∀ a0 a1 a2 k, LeO (lamplighterlaw06_DelimParts.f k a0 a1 a2) (lamplighterlaw06_DelimParts.f (k + 1) a0 a1 a2) := by
  intro a0 a1 a2 k
  obtain ⟨ih0, ih1, ih2, ih3⟩ := lamplighterlaw06_DelimParts.mono_l k
  unfold lamplighterlaw06_DelimParts.f
  repeat' first
      | (with_reducible exact ih0 _ _ _ _ _ _)
      | (with_reducible exact ih1 _ _ _ _ _ _ _)
      | (with_reducible exact ih2 _ _ _)
      | (with_reducible exact ih3 _ _ _ _)
      | (with_reducible exact lamplighterlaw06_alive.mono _)
      | (with_reducible exact LeO.refl _)
      | (with_reducible exact LeO.none _)
      | (with_reducible refine LeO.ite ?_ ?_)
      | (with_reducible refine LeO.bind ?_ (fun _ => ?_))
      | exact ih0 _ _ _ _ _ _
      | exact ih1 _ _ _ _ _ _ _
      | exact ih2 _ _ _
      | exact ih3 _ _ _ _
      | exact lamplighterlaw06_alive.mono _
      | exact LeO.none _
      | refine LeO.ite ?_ ?_
      | refine LeO.bind ?_ (fun _ => ?_)
set_option maxHeartbeats 8000000 in
set_option maxRecDepth 100000 in
theorem lamplighterlaw06_DelimParts.calls (k : Nat) (a0 : ByteArray) (a1 : Int) (a2 : Int) (r : Bool) (w : World) (h : lamplighterlaw06_DelimParts.f k a0 a1 a2 = some r) :
    Calls Tryd.prog 3 #[.string a0, .int .u8 a1, .int .u8 a2] w fun e w' => e = .returned (.bool r) ∧ Below w.heap.size w w' := by
  have HB := Aside0.mk (Below.refl w.heap.size w)
  have H : (if (a0.size : Int) > 1500 then ((lamplighterlaw06_alive.f k).bind fun t158 => (some t158)) else (lamplighterlaw06_DelimParts.l0 k a0 a1 a2 1 (a0.size : Int) 0)) = some r := h
  clear h
  by_cases c4 : (a0.size : Int) > 1500
  · rw [if_pos c4] at H
    have c4b0 : decide (1500 < (a0.size : Int)) = true := decide_eq_true c4
    have c4b1 : decide (1500 < a0.size) = true := decide_eq_true (by omega)
    clear c4
    replace H := Option.bind_eq_some_iff.mp H
    obtain ⟨t158, A50, H⟩ := H
    replace H : (some t158) = some r := H
    have A5 := Aside0.mk A50
    clear A50
    obtain rfl := Option.some.inj H
    go_enter Tryd.func3, Tryd.ntmps3
    go_wp2_with (first | ((with_reducible refine gate_callee (f := 6) rfl ?_); refine goesL_ (some 17) rfl rfl Tryd.func6 (by kernel_rfl) rfl #[] rfl (by (try simp only [List.map_toArray, List.map_cons, List.map_nil]); first | done | rfl | (simp only [List.length_drop, List.length_take]; rfl)) ?_; (with_reducible refine (lamplighterlaw06_alive.calls k  t158 _ A5.out).mono ?_); rintro e w6 ⟨rfl, hb⟩; refine ⟨_, rfl, ?_⟩; have n0_ := Aside0.mk (below_step (by repeat (first | (with_reducible first | exact HB.out | apply below_alloc | apply pw_below_drewN | apply below_drew1) | exact HB.out)) hb); clear HB; have HB := n0_; clear n0_; (try clear hb); (try clear hb2); (try clear hk); (try clear hi)))
    go_ret
    exact ⟨by first | rfl | (simp [errW_none, errW_some] <;> rfl) | (simp [*, errW_none, errW_some] <;> rfl), by repeat (first | (with_reducible first | exact HB.out | apply below_alloc | apply pw_below_drewN | apply below_drew1) | exact HB.out)⟩
  · rw [if_neg c4] at H
    have c4b0 : decide (1500 < (a0.size : Int)) = false := decide_eq_false c4
    have c4b1 : decide (1500 < a0.size) = false := decide_eq_false (by omega)
    clear c4
    have H' := Aside0.mk H
    clear H
    go_enter Tryd.func3, Tryd.ntmps3
    go_wp2
    go_loopg [7, 20] k (fun kq v7 v20 w' => ∃ (x7_1 : Int) (x20_1 : Int), v7 = .int .i64 x7_1 ∧ v20 = .int .i64 x20_1 ∧ Aside0 (lamplighterlaw06_DelimParts.l0 kq a0 a1 a2 x7_1 (a0.size : Int) x20_1 = some r) ∧ Aside0 (kq ≤ k) ∧ Aside0 (Below w.heap.size w w'))
    case atStart => exact ⟨(1), (0), (by first | rfl | (simp; done) | (simp [*]; done)), (by first | rfl | (simp; done) | (simp [*]; done)), H', ⟨Nat.le_refl _⟩, ⟨by repeat (first | (with_reducible first | exact HB.out | apply below_alloc | apply pw_below_drewN | apply below_drew1) | exact HB.out)⟩⟩
    case round =>
      clear H'
      try clear p2
      try clear c3
      try clear c4
      try clear c4b0
      try clear c4b1
      try clear c6
      obtain ⟨x7_1, x20_1, rfl, rfl, HA, HK1, HB⟩ := hrel
      cases gk with
      | zero => exact absurd HA.out (by simp [lamplighterlaw06_DelimParts.l0])
      | succ k1 =>
        have H := HA.out
        clear HA
        simp only [lamplighterlaw06_DelimParts.l0] at H
        by_cases c7 : x20_1 < (a0.size : Int)
        · rw [if_pos c7] at H
          have c7b0 : decide (x20_1 < (a0.size : Int)) = true := decide_eq_true c7
          clear c7
          by_cases c8 : 0 ≤ x20_1
          · rw [if_pos c8] at H
            have c8b0 : decide (0 ≤ x20_1) = true := decide_eq_true c8
            clear c8
            by_cases c9 : x20_1 < (a0.size : Int)
            · rw [if_pos c9] at H
              have c9b0 : decide (x20_1 < (a0.size : Int)) = true := decide_eq_true c9
              clear c9
              by_cases c11 : (bt a0 x20_1) = a1
              · rw [if_pos c11] at H
                have c11b0 : ((bt a0 x20_1) == a1) = true := beq_iff_eq.mpr c11
                have c11b1 : ((bt a0 x20_1) != a1) = false := bne_eq_false_iff_eq.mpr c11
                clear c11
                have H' := Aside0.mk H
                clear H
                have p10 : 0 ≤ (x20_1 : Int) := of_decide_eq_true (by first | (with_reducible assumption) | assumption)
                have q10 : x20_1 < (a0.size : Int) := of_decide_eq_true (by first | (with_reducible assumption) | assumption)
                have hx10 := bt_at a0 x20_1
                replace p10 := eq_true p10
                replace q10 := eq_true q10
                go_wp2
                go_roundg k1
                case measure => have := HK1.out; omega
                case rel => exact ⟨(wrap64 (x7_1 + 1)), (wrap64 (x20_1 + 1)), (by first | rfl | (simp; done) | (simp [*]; done)), (by first | rfl | (simp; done) | (simp [*]; done)), H', ⟨by have := HK1.out; omega⟩, ⟨by repeat (first | (with_reducible first | exact HB.out | apply below_alloc | apply pw_below_drewN | apply below_drew1) | exact HB.out)⟩⟩
              · rw [if_neg c11] at H
                have c11b0 : ((bt a0 x20_1) == a1) = false := beq_eq_false_iff_ne.mpr c11
                have c11b1 : ((bt a0 x20_1) != a1) = true := bne_iff_ne.mpr c11
                have H' := Aside0.mk H
                clear H
                have p10 : 0 ≤ (x20_1 : Int) := of_decide_eq_true (by first | (with_reducible assumption) | assumption)
                have q10 : x20_1 < (a0.size : Int) := of_decide_eq_true (by first | (with_reducible assumption) | assumption)
                have hx10 := bt_at a0 x20_1
                replace p10 := eq_true p10
                replace q10 := eq_true q10
                go_wp2
                go_roundg k1
                case measure => have := HK1.out; omega
                case rel => exact ⟨(x7_1), (wrap64 (x20_1 + 1)), (by first | rfl | (simp; done) | (simp [*]; done)), (by first | rfl | (simp; done) | (simp [*]; done)), H', ⟨by have := HK1.out; omega⟩, ⟨by repeat (first | (with_reducible first | exact HB.out | apply below_alloc | apply pw_below_drewN | apply below_drew1) | exact HB.out)⟩⟩
            · rw [if_neg c9] at H
              exact absurd H (by simp)
          · rw [if_neg c8] at H
            exact absurd H (by simp)
        · rw [if_neg c7] at H
          have c7b0 : decide (x20_1 < (a0.size : Int)) = false := decide_eq_false c7
          clear c7
          have H' := Aside0.mk H
          clear H
          go_wp2
          go_loopg [9, 34] k1 (fun kq v9 v34 w' => ∃ (x9_2 : ByteArray) (x34_2 : Int), v9 = .string x9_2 ∧ v34 = .int .u8 x34_2 ∧ Aside0 (lamplighterlaw06_DelimParts.l1 kq a0 a1 a2 x7_1 x9_2 (Int.tmod a2 20) x34_2 = some r) ∧ Aside0 (kq ≤ k1) ∧ Aside0 (Below w.heap.size w w'))
          case atStart => exact ⟨(a0), (0), (by first | rfl | (simp; done) | (simp [*]; done)), (by first | rfl | (simp; done) | (simp [*]; done)), H', ⟨Nat.le_refl _⟩, ⟨by repeat (first | (with_reducible first | exact HB.out | apply below_alloc | apply pw_below_drewN | apply below_drew1) | exact HB.out)⟩⟩
          case round =>
            clear H'
            try clear c1
            try clear p1
            try clear q1
            try clear hx1
            try clear p2
            try clear c3
            try clear c4
            try clear c4b0
            try clear c4b1
            try clear c6
            try clear p6
            try clear c7
            try clear c7b0
            try clear c8
            try clear c8b0
            try clear c9
            try clear c9b0
            try clear p10
            try clear q10
            try clear hx10
            try clear c11
            try clear c11b0
            try clear c11b1
            try clear p10
            try clear p2
            try clear q10
            obtain ⟨x9_2, x34_2, rfl, rfl, HA, HK2, HB⟩ := hrel
            cases gk with
            | zero => exact absurd HA.out (by simp [lamplighterlaw06_DelimParts.l1])
            | succ k2 =>
              have H := HA.out
              clear HA
              simp only [lamplighterlaw06_DelimParts.l1] at H
              by_cases c12 : x34_2 < (Int.tmod a2 20)
              · rw [if_pos c12] at H
                have c12b0 : decide (x34_2 < (Int.tmod a2 20)) = true := decide_eq_true c12
                clear c12
                obtain ⟨y159, hy159⟩ : ∃ y_ : List Int, y_ = (([a1] : List Int)) := ⟨_, rfl⟩
                replace H : (if x9_2.size + (strOfNums y159).size ≤ 9223372036854775807 then (lamplighterlaw06_DelimParts.l1 k2 a0 a1 a2 x7_1 (x9_2 ++ (strOfNums y159)) (Int.tmod a2 20) ((x34_2 + 1) % 256)) else (none)) = some r := by first | (rw [hy159]; with_reducible exact H) | (have H2_ := (Option.bind_some _ _).symm.trans H; rw [hy159]; with_reducible exact H2_) | (have H2_ := (Option.bind_some _ _).symm.trans H; with_reducible exact H2_) | with_reducible exact H | (rw [hy159]; exact H) | exact H
                have Ny159 := Aside0.mk hy159
                clear hy159
                by_cases c13 : x9_2.size + (strOfNums y159).size ≤ 9223372036854775807
                · rw [if_pos c13] at H
                  have c13b0 := eq_true c13
                  have c13b1 : decide (x9_2.size + (strOfNums y159).size ≤ 9223372036854775807) = true := decide_eq_true c13
                  try have c13b2 : (9223372036854775807 < x9_2.size + (strOfNums y159).size) = False := eq_false (Nat.not_lt.2 c13)
                  try (have c13b4 := c13b2; simp only [ByteArray.size_append] at c13b4)
                  have H' := Aside0.mk H
                  clear H
                  go_wp2_with (first | ((with_reducible refine gate_dst (N := 38) rfl ?_); (try (refine gate_guard (by rfl) ?_; dsimp only)); refine Kd.R_lit (Kd.int .u8) _ 5 ?hg (N := 38) ?hd (xs := ([a1] : List Int)) (inner := [.int .u8 a1]) (ok := fun _ => True) (okp := fun _ => True) ?hr ?hp (fun _ hk => hk) trivial (Below.refl _ _) (Nat.le_refl _) (by simp) ?_; (case hd => rfl); (case hg => rfl); (case hr => first | (go_simp; done) | (go_simp; rfl)); (case hp => exact (Reps.one (show Kd.M (Kd.int .u8) _ _ _ a1 [.int .u8 a1] from rfl) (Reps.none _ _))); intro v160 w14 ho15 hb hg_ hnew_; clear hg_ hnew_; (first | rw [← Ny159.out] at ho15 | (simp only [Int.reduceToNat] at ho15; rw [← Ny159.out] at ho15)); have n0_ := Aside0.mk (Kd.R_lower ho15 (below_size (by repeat (first | (with_reducible first | exact HB.out | apply below_alloc | apply pw_below_drewN | apply below_drew1) | exact HB.out)))); have n1_ := Aside0.mk (below_step (by repeat (first | (with_reducible first | exact HB.out | apply below_alloc | apply pw_below_drewN | apply below_drew1) | exact HB.out)) hb); clear HB; have HO161 := n0_; have HB := n1_; clear n0_ n1_; clear hb ho15; have hcv16 := own_string (P := Tryd.prog) Tryd.underlying23 Tryd.underlying5 Tryd.underlying9 (Kd.own_of_R HO161.out)))
                  go_roundg k2
                  case measure => have := HK1.out; have := HK2.out; omega
                  case rel => exact ⟨(x9_2 ++ (strOfNums y159)), ((x34_2 + 1) % 256), (by first | rfl | (simp; done) | (simp [*]; done)), (by first | rfl | (simp; done) | (simp [*]; done)), H', ⟨by have := HK1.out; have := HK2.out; omega⟩, ⟨by repeat (first | (with_reducible first | exact HB.out | apply below_alloc | apply pw_below_drewN | apply below_drew1) | exact HB.out)⟩⟩
                · rw [if_neg c13] at H
                  exact absurd H (by simp)
              · rw [if_neg c12] at H
                have c12b0 : decide (x34_2 < (Int.tmod a2 20)) = false := decide_eq_false c12
                clear c12
                replace H := Option.bind_eq_some_iff.mp H
                obtain ⟨t162, A170, H⟩ := H
                replace H : ((delim_Cut.f x9_2 a1).bind fun t165 => ((lamplighterlaw06_alive.f k2).bind fun t168 => (if t168 = true then (if (t162.length : Int) = x7_1 then (lamplighterlaw06_DelimParts.j2 k2 t162 t165 ((t165.length : Int) != (wrap64 (x7_1 + (wrap64 (Int.tmod a2 20)))))) else (lamplighterlaw06_DelimParts.j2 k2 t162 t165 true)) else (lamplighterlaw06_DelimParts.j2 k2 t162 t165 true)))) = some r := H
                have A17 := Aside0.mk A170
                clear A170
                replace H := Option.bind_eq_some_iff.mp H
                obtain ⟨t165, A180, H⟩ := H
                replace H : ((lamplighterlaw06_alive.f k2).bind fun t168 => (if t168 = true then (if (t162.length : Int) = x7_1 then (lamplighterlaw06_DelimParts.j2 k2 t162 t165 ((t165.length : Int) != (wrap64 (x7_1 + (wrap64 (Int.tmod a2 20)))))) else (lamplighterlaw06_DelimParts.j2 k2 t162 t165 true)) else (lamplighterlaw06_DelimParts.j2 k2 t162 t165 true))) = some r := H
                have A18 := Aside0.mk A180
                clear A180
                have HC19 := Aside0.mk H
                clear H
                go_upto_region 16 with (first | ((with_reducible refine gate_callee (f := 7) rfl ?_); refine goesL_ (some 44) rfl rfl Tryd.func7 (by kernel_rfl) rfl #[.string a0, .int .u8 a1] rfl (by (try simp only [List.map_toArray, List.map_cons, List.map_nil]); first | done | rfl | (simp only [List.length_drop, List.length_take]; rfl)) ?_; (with_reducible refine (delim_Cut.calls a0 a1 t162 _ A17.out).mono ?_); rintro e w20 ⟨v163, rfl, ho0, hb⟩; refine ⟨_, rfl, ?_⟩; have n0_ := Aside0.mk (Kd.R_lower ho0 (below_size (by repeat (first | (with_reducible first | exact HB.out | apply below_alloc | apply pw_below_drewN | apply below_drew1) | exact HB.out)))); have n1_ := Aside0.mk (below_step (by repeat (first | (with_reducible first | exact HB.out | apply below_alloc | apply pw_below_drewN | apply below_drew1) | exact HB.out)) hb); clear HB; have HO164 := n0_; have HB := n1_; clear n0_ n1_; (try clear hb); (try clear hb2); (try clear hk); (try clear hi); (try clear ho0)) | ((with_reducible refine gate_callee (f := 7) rfl ?_); refine goesL_ (some 47) rfl rfl Tryd.func7 (by kernel_rfl) rfl #[.string x9_2, .int .u8 a1] rfl (by (try simp only [List.map_toArray, List.map_cons, List.map_nil]); first | done | rfl | (simp only [List.length_drop, List.length_take]; rfl)) ?_; (with_reducible refine (delim_Cut.calls x9_2 a1 t165 _ A18.out).mono ?_); rintro e w21 ⟨v166, rfl, ho0, hb⟩; refine ⟨_, rfl, ?_⟩; have n0_ := Aside0.mk (Kd.R_elder' (by (with_reducible repeat (first | apply Kd.R_alloc | apply Kd.R_drewN | apply Kd.R_drew)); exact HO164.out) (Kd.R_base ho0) hb); have n1_ := Aside0.mk (Kd.R_lower (Kd.R_new' ho0 (Kd.R_lt (by (with_reducible repeat (first | apply Kd.R_alloc | apply Kd.R_drewN | apply Kd.R_drew)); exact HO164.out))) (below_size (by repeat (first | (with_reducible first | exact HB.out | apply below_alloc | apply pw_below_drewN | apply below_drew1) | exact HB.out)))); have n2_ := Aside0.mk (below_step (by repeat (first | (with_reducible first | exact HB.out | apply below_alloc | apply pw_below_drewN | apply below_drew1) | exact HB.out)) hb); clear HO164; clear HB; have HO164 := n0_; have HO167 := n1_; have HB := n2_; clear n0_ n1_ n2_; (try clear hb); (try clear hb2); (try clear hk); (try clear hi); (try clear ho0)))
                (try simp only [Act.put, List.setIfInBounds_toArray, List.set_cons_zero, List.set_cons_succ])
                go_cut [65] (fun v65 wc => ∃ (kq : Nat) (x65_18 : Bool), v65 = .bool x65_18 ∧ Aside0 (lamplighterlaw06_DelimParts.j2 kq t162 t165 x65_18 = some r) ∧ Aside0 (kq ≤ k2) ∧ Aside0 (Kd.R Kd.string 9 wc w.heap.size (fun k_ => some k_ ≠ (v166 : Value).ownBlock) v163 t162) ∧ Aside0 (Kd.R Kd.string 9 wc w.heap.size (fun k_ => some k_ ≠ (v163 : Value).ownBlock) v166 t165) ∧ Aside0 (Below w.heap.size w wc))
                case first =>
                  have H := HC19.out
                  clear HC19
                  replace H := Option.bind_eq_some_iff.mp H
                  obtain ⟨t168, A220, H⟩ := H
                  replace H : (if t168 = true then (if (t162.length : Int) = x7_1 then (lamplighterlaw06_DelimParts.j2 k2 t162 t165 ((t165.length : Int) != (wrap64 (x7_1 + (wrap64 (Int.tmod a2 20)))))) else (lamplighterlaw06_DelimParts.j2 k2 t162 t165 true)) else (lamplighterlaw06_DelimParts.j2 k2 t162 t165 true)) = some r := H
                  have A22 := Aside0.mk A220
                  clear A220
                  by_cases c23 : t168 = true
                  · subst c23
                    have H1 : (if (t162.length : Int) = x7_1 then (lamplighterlaw06_DelimParts.j2 k2 t162 t165 ((t165.length : Int) != (wrap64 (x7_1 + (wrap64 (Int.tmod a2 20)))))) else (lamplighterlaw06_DelimParts.j2 k2 t162 t165 true)) = some r := by rw [if_pos rfl] at H; exact H
                    clear H
                    have H := H1
                    clear H1
                    by_cases c24 : (t162.length : Int) = x7_1
                    · rw [if_pos c24] at H
                      have c24b0 : ((t162.length : Int) == x7_1) = true := beq_iff_eq.mpr c24
                      have c24b1 : ((t162.length : Int) != x7_1) = false := bne_eq_false_iff_eq.mpr c24
                      clear c24
                      (first | rw [c24b0] | (simp only [i64_w, i32_w]; rw [c24b0]) | skip)
                      have H' := Aside0.mk H
                      clear H
                      go_wp2_with (first | ((with_reducible refine gate_callee (f := 6) rfl ?_); refine goesL_ (some 48) rfl rfl Tryd.func6 (by kernel_rfl) rfl #[] rfl (by (try simp only [List.map_toArray, List.map_cons, List.map_nil]); first | done | rfl | (simp only [List.length_drop, List.length_take]; rfl)) ?_; (with_reducible refine (lamplighterlaw06_alive.calls k2  true _ A22.out).mono ?_); rintro e w25 ⟨rfl, hb⟩; refine ⟨_, rfl, ?_⟩; have n0_ := Aside0.mk (Kd.R_below (by (with_reducible repeat (first | apply Kd.R_alloc | apply Kd.R_drewN | apply Kd.R_drew)); exact HO164.out) hb); have n1_ := Aside0.mk (Kd.R_below (by (with_reducible repeat (first | apply Kd.R_alloc | apply Kd.R_drewN | apply Kd.R_drew)); exact HO167.out) hb); have n2_ := Aside0.mk (below_step (by repeat (first | (with_reducible first | exact HB.out | apply below_alloc | apply pw_below_drewN | apply below_drew1) | exact HB.out)) hb); clear HO164; clear HO167; clear HB; have HO164 := n0_; have HO167 := n1_; have HB := n2_; clear n0_ n1_ n2_; (try clear hb); (try clear hb2); (try clear hk); (try clear hi); obtain ⟨Ao26, co26, eo26⟩ := Kd.R_slice HO164.out; subst eo26; obtain ⟨Ao27, co27, eo27⟩ := Kd.R_slice HO167.out; subst eo27))
                      go_meet
                      case rel => exact ⟨_, (((t165.length : Int) != (wrap64 (x7_1 + (wrap64 (Int.tmod a2 20)))))), (by first | rfl | (simp; done) | (simp [*]; done)), H', ⟨by have := HK1.out; have := HK2.out; first | omega | exact Nat.le_refl _⟩, ⟨by (with_reducible repeat (first | apply Kd.R_alloc | apply Kd.R_drewN | apply Kd.R_drew)); exact Kd.R_mono HO164.out (fun _ hk => hk.2)⟩, ⟨by (with_reducible repeat (first | apply Kd.R_alloc | apply Kd.R_drewN | apply Kd.R_drew)); exact Kd.R_mono HO167.out (fun _ hk => hk.2)⟩, ⟨by repeat (first | (with_reducible first | exact HB.out | apply below_alloc | apply pw_below_drewN | apply below_drew1) | exact HB.out)⟩⟩
                    · rw [if_neg c24] at H
                      have c24b0 : ((t162.length : Int) == x7_1) = false := beq_eq_false_iff_ne.mpr c24
                      have c24b1 : ((t162.length : Int) != x7_1) = true := bne_iff_ne.mpr c24
                      (first | rw [c24b0] | (simp only [i64_w, i32_w]; rw [c24b0]) | skip)
                      have H' := Aside0.mk H
                      clear H
                      go_wp2_with (first | ((with_reducible refine gate_callee (f := 6) rfl ?_); refine goesL_ (some 48) rfl rfl Tryd.func6 (by kernel_rfl) rfl #[] rfl (by (try simp only [List.map_toArray, List.map_cons, List.map_nil]); first | done | rfl | (simp only [List.length_drop, List.length_take]; rfl)) ?_; (with_reducible refine (lamplighterlaw06_alive.calls k2  true _ A22.out).mono ?_); rintro e w28 ⟨rfl, hb⟩; refine ⟨_, rfl, ?_⟩; have n0_ := Aside0.mk (Kd.R_below (by (with_reducible repeat (first | apply Kd.R_alloc | apply Kd.R_drewN | apply Kd.R_drew)); exact HO164.out) hb); have n1_ := Aside0.mk (Kd.R_below (by (with_reducible repeat (first | apply Kd.R_alloc | apply Kd.R_drewN | apply Kd.R_drew)); exact HO167.out) hb); have n2_ := Aside0.mk (below_step (by repeat (first | (with_reducible first | exact HB.out | apply below_alloc | apply pw_below_drewN | apply below_drew1) | exact HB.out)) hb); clear HO164; clear HO167; clear HB; have HO164 := n0_; have HO167 := n1_; have HB := n2_; clear n0_ n1_ n2_; (try clear hb); (try clear hb2); (try clear hk); (try clear hi); obtain ⟨Ao29, co29, eo29⟩ := Kd.R_slice HO164.out; subst eo29))
                      go_meet
                      case rel => exact ⟨_, (true), (by first | rfl | (simp; done) | (simp [*]; done)), H', ⟨by have := HK1.out; have := HK2.out; first | omega | exact Nat.le_refl _⟩, ⟨by (with_reducible repeat (first | apply Kd.R_alloc | apply Kd.R_drewN | apply Kd.R_drew)); exact Kd.R_mono HO164.out (fun _ hk => hk.2)⟩, ⟨by (with_reducible repeat (first | apply Kd.R_alloc | apply Kd.R_drewN | apply Kd.R_drew)); exact Kd.R_mono HO167.out (fun _ hk => hk.2)⟩, ⟨by repeat (first | (with_reducible first | exact HB.out | apply below_alloc | apply pw_below_drewN | apply below_drew1) | exact HB.out)⟩⟩
                  · replace c23 := Bool.eq_false_iff.mpr c23
                    subst c23
                    have H1 : (lamplighterlaw06_DelimParts.j2 k2 t162 t165 true) = some r := by rw [if_neg (show ¬ (false = true) by decide)] at H; exact H
                    clear H
                    have H := H1
                    clear H1
                    have H' := Aside0.mk H
                    clear H
                    go_wp2_with (first | ((with_reducible refine gate_callee (f := 6) rfl ?_); refine goesL_ (some 48) rfl rfl Tryd.func6 (by kernel_rfl) rfl #[] rfl (by (try simp only [List.map_toArray, List.map_cons, List.map_nil]); first | done | rfl | (simp only [List.length_drop, List.length_take]; rfl)) ?_; (with_reducible refine (lamplighterlaw06_alive.calls k2  false _ A22.out).mono ?_); rintro e w30 ⟨rfl, hb⟩; refine ⟨_, rfl, ?_⟩; have n0_ := Aside0.mk (Kd.R_below (by (with_reducible repeat (first | apply Kd.R_alloc | apply Kd.R_drewN | apply Kd.R_drew)); exact HO164.out) hb); have n1_ := Aside0.mk (Kd.R_below (by (with_reducible repeat (first | apply Kd.R_alloc | apply Kd.R_drewN | apply Kd.R_drew)); exact HO167.out) hb); have n2_ := Aside0.mk (below_step (by repeat (first | (with_reducible first | exact HB.out | apply below_alloc | apply pw_below_drewN | apply below_drew1) | exact HB.out)) hb); clear HO164; clear HO167; clear HB; have HO164 := n0_; have HO167 := n1_; have HB := n2_; clear n0_ n1_ n2_; (try clear hb); (try clear hb2); (try clear hk); (try clear hi)))
                    go_meet
                    case rel => exact ⟨_, (true), (by first | rfl | (simp; done) | (simp [*]; done)), H', ⟨by have := HK1.out; have := HK2.out; first | omega | exact Nat.le_refl _⟩, ⟨by (with_reducible repeat (first | apply Kd.R_alloc | apply Kd.R_drewN | apply Kd.R_drew)); exact Kd.R_mono HO164.out (fun _ hk => hk.2)⟩, ⟨by (with_reducible repeat (first | apply Kd.R_alloc | apply Kd.R_drewN | apply Kd.R_drew)); exact Kd.R_mono HO167.out (fun _ hk => hk.2)⟩, ⟨by repeat (first | (with_reducible first | exact HB.out | apply below_alloc | apply pw_below_drewN | apply below_drew1) | exact HB.out)⟩⟩
                case rest =>
                  clear HC19
                  try clear c1
                  try clear p1
                  try clear q1
                  try clear hx1
                  try clear hcv1
                  try clear c2
                  try clear p2
                  try clear c3
                  try clear c4
                  try clear c4b0
                  try clear c4b1
                  try clear c6
                  try clear p6
                  try clear c7
                  try clear c7b0
                  try clear c8
                  try clear c8b0
                  try clear c9
                  try clear c9b0
                  try clear p10
                  try clear q10
                  try clear hx10
                  try clear c11
                  try clear c11b0
                  try clear c11b1
                  try clear c12
                  try clear c12b0
                  try clear c13
                  try clear c13b0
                  try clear c13b1
                  try clear c13b2
                  try clear hcv16
                  try clear c23
                  try clear c24
                  try clear c24b0
                  try clear c24b1
                  try clear p1
                  try clear p10
                  try clear p2
                  try clear p6
                  try clear q1
                  try clear q10
                  obtain ⟨kq, x65_18, rfl, HA, HJ18, HO_10, HO_11, HB⟩ := hcut
                  cases kq with
                  | zero => exact absurd HA.out (by simp [lamplighterlaw06_DelimParts.j2])
                  | succ kj18 =>
                    have H := HA.out
                    clear HA
                    simp only [lamplighterlaw06_DelimParts.j2] at H
                    by_cases c31 : x65_18 = true
                    · subst c31
                      have H1 : (some false) = some r := by rw [if_pos rfl] at H; exact H
                      clear H
                      have H := H1
                      clear H1
                      obtain rfl := Option.some.inj H
                      go_wp2
                      go_ret
                      exact ⟨by first | rfl | (simp [errW_none, errW_some] <;> rfl) | (simp [*, errW_none, errW_some] <;> rfl), by repeat (first | (with_reducible first | exact HB.out | apply below_alloc | apply pw_below_drewN | apply below_drew1) | exact HB.out)⟩
                    · replace c31 := Bool.eq_false_iff.mpr c31
                      subst c31
                      have H1 : (lamplighterlaw06_DelimParts.l2 kj18 t162 t165 (t165.length : Int) 0) = some r := by rw [if_neg (show ¬ (false = true) by decide)] at H; exact H
                      clear H
                      have H := H1
                      clear H1
                      have H' := Aside0.mk H
                      clear H
                      obtain ⟨Ao32, co32, eo32⟩ := Kd.R_slice HO_11.out
                      subst eo32
                      go_wp2
                      go_loopg [68] kj18 (fun kq v68 w' => ∃ (x68_4 : Int), v68 = .int .i64 x68_4 ∧ Aside0 (lamplighterlaw06_DelimParts.l2 kq t162 t165 (t165.length : Int) x68_4 = some r) ∧ Aside0 (kq ≤ kj18) ∧ Aside0 (Kd.R Kd.string 9 w' w.heap.size (fun k_ => some k_ ≠ ((.slice Ao32 t165.length co32) : Value).ownBlock) v163 t162) ∧ Aside0 (Kd.R Kd.string 9 w' w.heap.size (fun k_ => some k_ ≠ (v163 : Value).ownBlock) (.slice Ao32 t165.length co32) t165) ∧ Aside0 (Below w.heap.size w w'))
                      case atStart => exact ⟨(0), (by first | rfl | (simp; done) | (simp [*]; done)), H', ⟨Nat.le_refl _⟩, ⟨by (with_reducible repeat (first | apply Kd.R_alloc | apply Kd.R_drewN | apply Kd.R_drew)); exact HO_10.out⟩, ⟨by (with_reducible repeat (first | apply Kd.R_alloc | apply Kd.R_drewN | apply Kd.R_drew)); exact HO_11.out⟩, ⟨by repeat (first | (with_reducible first | exact HB.out | apply below_alloc | apply pw_below_drewN | apply below_drew1) | exact HB.out)⟩⟩
                      case round =>
                        clear H'
                        try clear c1
                        try clear p1
                        try clear q1
                        try clear hx1
                        try clear hcv1
                        try clear c2
                        try clear p2
                        try clear c3
                        try clear c4
                        try clear c4b0
                        try clear c4b1
                        try clear c6
                        try clear p6
                        try clear c7
                        try clear c7b0
                        try clear c8
                        try clear c8b0
                        try clear c9
                        try clear c9b0
                        try clear p10
                        try clear q10
                        try clear hx10
                        try clear c11
                        try clear c11b0
                        try clear c11b1
                        try clear c12
                        try clear c12b0
                        try clear c13
                        try clear c13b0
                        try clear c13b1
                        try clear c13b2
                        try clear hcv16
                        try clear c23
                        try clear c24
                        try clear c24b0
                        try clear c24b1
                        try clear c31
                        try clear p1
                        try clear p10
                        try clear p2
                        try clear p6
                        try clear q1
                        try clear q10
                        obtain ⟨x68_4, rfl, HA, HK4, HO_10, HO_66, HB⟩ := hrel
                        cases gk with
                        | zero => exact absurd HA.out (by simp [lamplighterlaw06_DelimParts.l2])
                        | succ k4 =>
                          have H := HA.out
                          clear HA
                          simp only [lamplighterlaw06_DelimParts.l2] at H
                          by_cases c33 : x68_4 < (t165.length : Int)
                          · rw [if_pos c33] at H
                            have c33b0 : decide (x68_4 < (t165.length : Int)) = true := decide_eq_true c33
                            clear c33
                            by_cases c34 : 0 ≤ x68_4
                            · rw [if_pos c34] at H
                              have c34b0 : decide (0 ≤ x68_4) = true := decide_eq_true c34
                              clear c34
                              by_cases c35 : x68_4 < (t165.length : Int)
                              · rw [if_pos c35] at H
                                have c35b0 : decide (x68_4 < (t165.length : Int)) = true := decide_eq_true c35
                                clear c35
                                by_cases c36 : x68_4 < (t162.length : Int)
                                · rw [if_pos c36] at H
                                  have c36b0 : decide (x68_4 < (t162.length : Int)) = true := decide_eq_true c36
                                  clear c36
                                  by_cases c37 : (rdOf ByteArray.empty t165 x68_4).toList = (rdOf ByteArray.empty t162 x68_4).toList
                                  · rw [if_pos c37] at H
                                    have c37b0 : ((rdOf ByteArray.empty t165 x68_4).toList == (rdOf ByteArray.empty t162 x68_4).toList) = true := beq_iff_eq.mpr c37
                                    have c37b1 : ((rdOf ByteArray.empty t165 x68_4).toList != (rdOf ByteArray.empty t162 x68_4).toList) = false := bne_eq_false_iff_eq.mpr c37
                                    clear c37
                                    by_cases c38 : x68_4 ≥ (t162.length : Int)
                                    · rw [if_pos c38] at H
                                      have c38b0 : decide ((t162.length : Int) ≤ x68_4) = true := decide_eq_true c38
                                      clear c38
                                      by_cases c39 : (rdOf ByteArray.empty t165 x68_4).toList = ([] : List UInt8)
                                      · rw [if_pos c39] at H
                                        have c39b0 : ((rdOf ByteArray.empty t165 x68_4).toList == ([] : List UInt8)) = true := beq_iff_eq.mpr c39
                                        have c39b1 : ((rdOf ByteArray.empty t165 x68_4).toList != ([] : List UInt8)) = false := bne_eq_false_iff_eq.mpr c39
                                        clear c39
                                        have H' := Aside0.mk H
                                        clear H
                                        have p169 : 0 ≤ (x68_4 : Int) := of_decide_eq_true (by first | (with_reducible assumption) | assumption)
                                        have q169 : x68_4 < (t165.length : Int) := of_decide_eq_true (by first | (with_reducible assumption) | assumption)
                                        obtain ⟨ad169, e169, hx169_0⟩ := Kd.at_string (Kd.R_reads' HO_66.out).2.2 x68_4 p169 q169
                                        cases e169
                                        replace p169 := eq_true p169
                                        replace q169 := eq_true q169
                                        obtain ⟨Ao40, co40, eo40⟩ := Kd.R_slice HO_10.out
                                        subst eo40
                                        have p170 : 0 ≤ (x68_4 : Int) := of_decide_eq_true (by first | (with_reducible assumption) | assumption)
                                        have q170 : x68_4 < (t162.length : Int) := of_decide_eq_true (by first | (with_reducible assumption) | assumption)
                                        obtain ⟨ad170, e170, hx170_0⟩ := Kd.at_string (Kd.R_reads' HO_10.out).2.2 x68_4 p170 q170
                                        cases e170
                                        replace p170 := eq_true p170
                                        replace q170 := eq_true q170
                                        go_wp2
                                        go_roundg k4
                                        case measure => have := HK1.out; have := HK2.out; have := HJ18.out; have := HK4.out; omega
                                        case rel => exact ⟨(wrap64 (x68_4 + 1)), (by first | rfl | (simp; done) | (simp [*]; done)), H', ⟨by have := HK1.out; have := HK2.out; have := HJ18.out; have := HK4.out; omega⟩, ⟨by (with_reducible repeat (first | apply Kd.R_alloc | apply Kd.R_drewN | apply Kd.R_drew)); exact HO_10.out⟩, ⟨by (with_reducible repeat (first | apply Kd.R_alloc | apply Kd.R_drewN | apply Kd.R_drew)); exact HO_66.out⟩, ⟨by repeat (first | (with_reducible first | exact HB.out | apply below_alloc | apply pw_below_drewN | apply below_drew1) | exact HB.out)⟩⟩
                                      · rw [if_neg c39] at H
                                        have c39b0 : ((rdOf ByteArray.empty t165 x68_4).toList == ([] : List UInt8)) = false := beq_eq_false_iff_ne.mpr c39
                                        have c39b1 : ((rdOf ByteArray.empty t165 x68_4).toList != ([] : List UInt8)) = true := bne_iff_ne.mpr c39
                                        obtain rfl := Option.some.inj H
                                        have p169 : 0 ≤ (x68_4 : Int) := of_decide_eq_true (by first | (with_reducible assumption) | assumption)
                                        have q169 : x68_4 < (t165.length : Int) := of_decide_eq_true (by first | (with_reducible assumption) | assumption)
                                        obtain ⟨ad169, e169, hx169_0⟩ := Kd.at_string (Kd.R_reads' HO_66.out).2.2 x68_4 p169 q169
                                        cases e169
                                        replace p169 := eq_true p169
                                        replace q169 := eq_true q169
                                        obtain ⟨Ao41, co41, eo41⟩ := Kd.R_slice HO_10.out
                                        subst eo41
                                        have p170 : 0 ≤ (x68_4 : Int) := of_decide_eq_true (by first | (with_reducible assumption) | assumption)
                                        have q170 : x68_4 < (t162.length : Int) := of_decide_eq_true (by first | (with_reducible assumption) | assumption)
                                        obtain ⟨ad170, e170, hx170_0⟩ := Kd.at_string (Kd.R_reads' HO_10.out).2.2 x68_4 p170 q170
                                        cases e170
                                        replace p170 := eq_true p170
                                        replace q170 := eq_true q170
                                        go_wp2
                                        go_ret
                                        exact ⟨by first | rfl | (simp [errW_none, errW_some] <;> rfl) | (simp [*, errW_none, errW_some] <;> rfl), by repeat (first | (with_reducible first | exact HB.out | apply below_alloc | apply pw_below_drewN | apply below_drew1) | exact HB.out)⟩
                                    · rw [if_neg c38] at H
                                      have c38b0 : decide ((t162.length : Int) ≤ x68_4) = false := decide_eq_false c38
                                      clear c38
                                      have H' := Aside0.mk H
                                      clear H
                                      have p169 : 0 ≤ (x68_4 : Int) := of_decide_eq_true (by first | (with_reducible assumption) | assumption)
                                      have q169 : x68_4 < (t165.length : Int) := of_decide_eq_true (by first | (with_reducible assumption) | assumption)
                                      obtain ⟨ad169, e169, hx169_0⟩ := Kd.at_string (Kd.R_reads' HO_66.out).2.2 x68_4 p169 q169
                                      cases e169
                                      replace p169 := eq_true p169
                                      replace q169 := eq_true q169
                                      obtain ⟨Ao42, co42, eo42⟩ := Kd.R_slice HO_10.out
                                      subst eo42
                                      have p170 : 0 ≤ (x68_4 : Int) := of_decide_eq_true (by first | (with_reducible assumption) | assumption)
                                      have q170 : x68_4 < (t162.length : Int) := of_decide_eq_true (by first | (with_reducible assumption) | assumption)
                                      obtain ⟨ad170, e170, hx170_0⟩ := Kd.at_string (Kd.R_reads' HO_10.out).2.2 x68_4 p170 q170
                                      cases e170
                                      replace p170 := eq_true p170
                                      replace q170 := eq_true q170
                                      go_wp2
                                      go_roundg k4
                                      case measure => have := HK1.out; have := HK2.out; have := HJ18.out; have := HK4.out; omega
                                      case rel => exact ⟨(wrap64 (x68_4 + 1)), (by first | rfl | (simp; done) | (simp [*]; done)), H', ⟨by have := HK1.out; have := HK2.out; have := HJ18.out; have := HK4.out; omega⟩, ⟨by (with_reducible repeat (first | apply Kd.R_alloc | apply Kd.R_drewN | apply Kd.R_drew)); exact HO_10.out⟩, ⟨by (with_reducible repeat (first | apply Kd.R_alloc | apply Kd.R_drewN | apply Kd.R_drew)); exact HO_66.out⟩, ⟨by repeat (first | (with_reducible first | exact HB.out | apply below_alloc | apply pw_below_drewN | apply below_drew1) | exact HB.out)⟩⟩
                                  · rw [if_neg c37] at H
                                    have c37b0 : ((rdOf ByteArray.empty t165 x68_4).toList == (rdOf ByteArray.empty t162 x68_4).toList) = false := beq_eq_false_iff_ne.mpr c37
                                    have c37b1 : ((rdOf ByteArray.empty t165 x68_4).toList != (rdOf ByteArray.empty t162 x68_4).toList) = true := bne_iff_ne.mpr c37
                                    obtain rfl := Option.some.inj H
                                    have p169 : 0 ≤ (x68_4 : Int) := of_decide_eq_true (by first | (with_reducible assumption) | assumption)
                                    have q169 : x68_4 < (t165.length : Int) := of_decide_eq_true (by first | (with_reducible assumption) | assumption)
                                    obtain ⟨ad169, e169, hx169_0⟩ := Kd.at_string (Kd.R_reads' HO_66.out).2.2 x68_4 p169 q169
                                    cases e169
                                    replace p169 := eq_true p169
                                    replace q169 := eq_true q169
                                    obtain ⟨Ao43, co43, eo43⟩ := Kd.R_slice HO_10.out
                                    subst eo43
                                    have p170 : 0 ≤ (x68_4 : Int) := of_decide_eq_true (by first | (with_reducible assumption) | assumption)
                                    have q170 : x68_4 < (t162.length : Int) := of_decide_eq_true (by first | (with_reducible assumption) | assumption)
                                    obtain ⟨ad170, e170, hx170_0⟩ := Kd.at_string (Kd.R_reads' HO_10.out).2.2 x68_4 p170 q170
                                    cases e170
                                    replace p170 := eq_true p170
                                    replace q170 := eq_true q170
                                    go_wp2
                                    go_ret
                                    exact ⟨by first | rfl | (simp [errW_none, errW_some] <;> rfl) | (simp [*, errW_none, errW_some] <;> rfl), by repeat (first | (with_reducible first | exact HB.out | apply below_alloc | apply pw_below_drewN | apply below_drew1) | exact HB.out)⟩
                                · rw [if_neg c36] at H
                                  have c36b0 : decide (x68_4 < (t162.length : Int)) = false := decide_eq_false c36
                                  clear c36
                                  by_cases c44 : x68_4 ≥ (t162.length : Int)
                                  · rw [if_pos c44] at H
                                    have c44b0 : decide ((t162.length : Int) ≤ x68_4) = true := decide_eq_true c44
                                    clear c44
                                    by_cases c45 : (rdOf ByteArray.empty t165 x68_4).toList = ([] : List UInt8)
                                    · rw [if_pos c45] at H
                                      have c45b0 : ((rdOf ByteArray.empty t165 x68_4).toList == ([] : List UInt8)) = true := beq_iff_eq.mpr c45
                                      have c45b1 : ((rdOf ByteArray.empty t165 x68_4).toList != ([] : List UInt8)) = false := bne_eq_false_iff_eq.mpr c45
                                      clear c45
                                      have H' := Aside0.mk H
                                      clear H
                                      have p169 : 0 ≤ (x68_4 : Int) := of_decide_eq_true (by first | (with_reducible assumption) | assumption)
                                      have q169 : x68_4 < (t165.length : Int) := of_decide_eq_true (by first | (with_reducible assumption) | assumption)
                                      obtain ⟨ad169, e169, hx169_0⟩ := Kd.at_string (Kd.R_reads' HO_66.out).2.2 x68_4 p169 q169
                                      cases e169
                                      replace p169 := eq_true p169
                                      replace q169 := eq_true q169
                                      obtain ⟨Ao46, co46, eo46⟩ := Kd.R_slice HO_10.out
                                      subst eo46
                                      go_wp2
                                      go_roundg k4
                                      case measure => have := HK1.out; have := HK2.out; have := HJ18.out; have := HK4.out; omega
                                      case rel => exact ⟨(wrap64 (x68_4 + 1)), (by first | rfl | (simp; done) | (simp [*]; done)), H', ⟨by have := HK1.out; have := HK2.out; have := HJ18.out; have := HK4.out; omega⟩, ⟨by (with_reducible repeat (first | apply Kd.R_alloc | apply Kd.R_drewN | apply Kd.R_drew)); exact HO_10.out⟩, ⟨by (with_reducible repeat (first | apply Kd.R_alloc | apply Kd.R_drewN | apply Kd.R_drew)); exact HO_66.out⟩, ⟨by repeat (first | (with_reducible first | exact HB.out | apply below_alloc | apply pw_below_drewN | apply below_drew1) | exact HB.out)⟩⟩
                                    · rw [if_neg c45] at H
                                      have c45b0 : ((rdOf ByteArray.empty t165 x68_4).toList == ([] : List UInt8)) = false := beq_eq_false_iff_ne.mpr c45
                                      have c45b1 : ((rdOf ByteArray.empty t165 x68_4).toList != ([] : List UInt8)) = true := bne_iff_ne.mpr c45
                                      obtain rfl := Option.some.inj H
                                      have p169 : 0 ≤ (x68_4 : Int) := of_decide_eq_true (by first | (with_reducible assumption) | assumption)
                                      have q169 : x68_4 < (t165.length : Int) := of_decide_eq_true (by first | (with_reducible assumption) | assumption)
                                      obtain ⟨ad169, e169, hx169_0⟩ := Kd.at_string (Kd.R_reads' HO_66.out).2.2 x68_4 p169 q169
                                      cases e169
                                      replace p169 := eq_true p169
                                      replace q169 := eq_true q169
                                      obtain ⟨Ao47, co47, eo47⟩ := Kd.R_slice HO_10.out
                                      subst eo47
                                      go_wp2
                                      go_ret
                                      exact ⟨by first | rfl | (simp [errW_none, errW_some] <;> rfl) | (simp [*, errW_none, errW_some] <;> rfl), by repeat (first | (with_reducible first | exact HB.out | apply below_alloc | apply pw_below_drewN | apply below_drew1) | exact HB.out)⟩
                                  · rw [if_neg c44] at H
                                    have c44b0 : decide ((t162.length : Int) ≤ x68_4) = false := decide_eq_false c44
                                    clear c44
                                    have H' := Aside0.mk H
                                    clear H
                                    have p169 : 0 ≤ (x68_4 : Int) := of_decide_eq_true (by first | (with_reducible assumption) | assumption)
                                    have q169 : x68_4 < (t165.length : Int) := of_decide_eq_true (by first | (with_reducible assumption) | assumption)
                                    obtain ⟨ad169, e169, hx169_0⟩ := Kd.at_string (Kd.R_reads' HO_66.out).2.2 x68_4 p169 q169
                                    cases e169
                                    replace p169 := eq_true p169
                                    replace q169 := eq_true q169
                                    obtain ⟨Ao48, co48, eo48⟩ := Kd.R_slice HO_10.out
                                    subst eo48
                                    go_wp2
                                    go_roundg k4
                                    case measure => have := HK1.out; have := HK2.out; have := HJ18.out; have := HK4.out; omega
                                    case rel => exact ⟨(wrap64 (x68_4 + 1)), (by first | rfl | (simp; done) | (simp [*]; done)), H', ⟨by have := HK1.out; have := HK2.out; have := HJ18.out; have := HK4.out; omega⟩, ⟨by (with_reducible repeat (first | apply Kd.R_alloc | apply Kd.R_drewN | apply Kd.R_drew)); exact HO_10.out⟩, ⟨by (with_reducible repeat (first | apply Kd.R_alloc | apply Kd.R_drewN | apply Kd.R_drew)); exact HO_66.out⟩, ⟨by repeat (first | (with_reducible first | exact HB.out | apply below_alloc | apply pw_below_drewN | apply below_drew1) | exact HB.out)⟩⟩
                              · rw [if_neg c35] at H
                                exact absurd H (by simp)
                            · rw [if_neg c34] at H
                              exact absurd H (by simp)
                          · rw [if_neg c33] at H
                            have c33b0 : decide (x68_4 < (t165.length : Int)) = false := decide_eq_false c33
                            clear c33
                            obtain rfl := Option.some.inj H
                            go_wp2
                            go_ret
                            exact ⟨by first | rfl | (simp [errW_none, errW_some] <;> rfl) | (simp [*, errW_none, errW_some] <;> rfl), by repeat (first | (with_reducible first | exact HB.out | apply below_alloc | apply pw_below_drewN | apply below_drew1) | exact HB.out)⟩

/-- THE ONE PURE STATEMENT of lamplighterlaw06_DelimParts: yours. -/
def lamplighterlaw06_DelimParts.Pure : Prop := ∀ (a0 : ByteArray) (a1 : Int) (a2 : Int), a0.size ≤ 140737488351232 → (Lit.int .u8 a1).wf = true → (Lit.int .u8 a2).wf = true → ∃ k, lamplighterlaw06_DelimParts.f k a0 a1 a2 = some true
theorem lamplighterlaw06_DelimParts.walk (P : lamplighterlaw06_DelimParts.Pure) (a0 : ByteArray) (a1 : Int) (a2 : Int) (w : World) (w0 : a0.size ≤ 140737488351232) (w1 : (Lit.int .u8 a1).wf = true) (w2 : (Lit.int .u8 a2).wf = true) :
    Calls Tryd.prog 3 #[.string a0, .int .u8 a1, .int .u8 a2] w fun e w' => e = .returned (.bool true) ∧ Below w.heap.size w w' := by
  obtain ⟨k, h⟩ := P a0 a1 a2 w0 w1 w2
  refine (lamplighterlaw06_DelimParts.calls k a0 a1 a2 true w h).mono ?_
  rintro e w' ⟨rfl, hd⟩
  exact ⟨rfl, hd⟩

end Go.Proofs.YtabcmcllcfapkaaDoor.PH
