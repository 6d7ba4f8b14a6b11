/- An append onto bytes that were just made of a text: what it hands back; conditions: at most 2^47 bytes in all. -/
import Derived.Test.YtcjcaojgminjpabDoorHelp
import Derived.Deep.AppendSrc
namespace Go.Proofs.YtcjcaojgminjpabDoor
open Go Go.RowKit Go.Proofs.YtcjcaojgminjpabDoorW.PrintWords Go.Proofs.YtcjcaojgminjpabDoorW.PrintLast Go.Proofs.YtcjcaojgminjpabDoorW.PrintMore

theorem blk_set_any {W : World} {g : Nat} {cur : Array Value} {e : TypeId} {fr : Nat × Nat} (h : W.heap[g]? = some (.cells cur e fr)) (j : Nat) (v : Value) : (W.setCell ⟨g, j, none⟩ v).heap[g]? = some (.cells (cur.setIfInBounds j v) e fr) := by
  have hg : g < W.heap.size := (Array.getElem?_eq_some_iff.1 h).1
  simp only [World.setCell, Array.getElem?_modify, if_true, h, Option.map_some]
  rfl
theorem setCells_any {g : Nat} {e : TypeId} {fr : Nat × Nat} : ∀ (vs : List Value) (o : Nat) (w : World) (cur : Array Value), w.heap[g]? = some (.cells cur e fr) → o + vs.length ≤ cur.size →
    ∃ cur', (w.setCells g o vs).heap[g]? = some (.cells cur' e fr) ∧ cur'.size = cur.size ∧ cur'.toList = cur.toList.take o ++ vs ++ cur.toList.drop (o + vs.length)
  | [], o, w, cur, h, _ => ⟨cur, h, rfl, by simp⟩
  | v :: r, o, w, cur, h, hl => by
    have h2 := blk_set_any h o v
    simp only [List.length_cons] at hl
    obtain ⟨cur', h3, h4, h5⟩ := setCells_any r (o + 1) (w.setCell ⟨g, o, none⟩ v) _ h2 (by simp; omega)
    refine ⟨cur', h3, by rw [h4]; simp, ?_⟩
    rw [h5, Array.toList_setIfInBounds]
    have ho : o < cur.toList.length := by rw [Array.length_toList]; omega
    rw [List.take_set, List.drop_set_of_lt (by omega)]
    simp only [List.length_cons]
    rw [show o + 1 + r.length = o + (r.length + 1) by omega]
    congr 1
    rw [List.take_succ_eq_append_getElem ho, List.set_append_right _ _ (by rw [List.length_take]; omega)]
    have ho' : o < cur.size := by omega
    simp [Nat.min_eq_left (Nat.le_of_lt ho')]
theorem nums_at {xs : List Int} {j : Nat} {u : Value} (h : (nums .u8 xs)[j]? = some u) : j < xs.length ∧ u = .int .u8 (xs.getD j 0) := by
  have hj : j < (nums .u8 xs).length := (List.getElem?_eq_some_iff.1 h).1
  have hj' : j < xs.length := by simpa [nums] using hj
  refine ⟨hj', ?_⟩
  have h2 := nums_get xs j hj'
  rw [List.getElem?_toArray] at h2
  exact Option.some.inj (h.symm.trans h2)
theorem src_row {P : Program} {t e : TypeId} (ht : P.underlying t = some (.slice e)) {W : World} {A : Option Addr} {c : Nat} {ys : List Int} (hr : Kd.C (Kd.int .u8) W A ys.length ys) : Src P 1 t (.slice A ys.length c) ys.length (nums .u8 ys) W := by
  cases A with
  | none =>
    have h0 : ys = [] := by
      rcases ys with _ | ⟨y, ys⟩
      · rfl
      · obtain ⟨ad, h, _⟩ := C_cell hr (j := 0) (by simp)
        cases h
    subst h0
    exact Src.ofNil W ht c
  | some ad =>
    refine Src.ofSlice W ht ad ys.length c _ (by simp [nums]) (fun j u hu => ?_) (fun u hu => ?_)
    · obtain ⟨hj, rfl⟩ := nums_at hu
      obtain ⟨ad', e', h⟩ := C_cell hr (j := j) hj
      cases e'
      rw [h]
      simp [rd]
    · obtain ⟨n, _, rfl⟩ := List.mem_map.1 hu
      rfl
theorem bytes_getD {x : ByteArray} {ys : List Int} {j : Nat} (h : j < x.size) : (bytesOf x ++ ys).getD j 0 = (bytesOf x).getD j 0 := by
  have hl : (bytesOf x).length = x.size := by simp [bytesOf]
  rw [List.getD_eq_getElem?_getD, List.getD_eq_getElem?_getD, List.getElem?_append_left (by omega)]
theorem app_conv_at {P : Program} {w W2 : World} {t ty e : TypeId} (ht : P.underlying t = some (.slice e)) (hinfo : (P.info? e).map (fun i => (i.zero, i.size, i.bytes)) = some (some (.int .u8 0), 1, 1)) (x : ByteArray) {A : Option Addr} {c : Nat} {ys : List Int}
    (hl : x.size + ys.length ≤ 140737488355328) (hr : Kd.C (Kd.int .u8) W2 A ys.length ys)
    (hnew : W2.heap[w.heap.size]? = some (.cells (Lib.bytesCells w e x) e ((Lib.bytesCells w e x).size, (Lib.bytesCells w e x).size + 1))) (hbw : Below w.heap.size w W2) :
    ∃ v w', (Builtin.append_ #[t, t] ty #[.slice (some ⟨w.heap.size, 0, none⟩) x.size (grownCap w x.size 0 e), .slice A ys.length c]).run P W2 = .ok v w' ∧
      Kd.V (Kd.int .u8) e w' w.heap.size (fun k => w.heap.size ≤ k) v (bytesOf x ++ ys) ∧ Below w.heap.size w w' := by
  obtain ⟨i, hi, hz⟩ := Option.map_eq_some_iff.1 hinfo
  simp only [Prod.mk.injEq] at hz
  obtain ⟨hz0, hz1, hz2⟩ := hz
  have hbl : (bytesOf x).length = x.size := by simp [bytesOf]
  have hcap := grownCap_ge w x.size 0 e
  have hcs : (Lib.bytesCells w e x).size = grownCap w x.size 0 e := by
    simp only [Lib.bytesCells, Array.size_append, Array.size_map, Array.size_replicate]
    have : x.data.size = x.size := rfl
    omega
  have hsrc := src_row (P := P) (t := t) ht (c := c) hr
  rw [← hz1] at hsrc
  have hold : ∀ j, j < x.size → W2.cell? ⟨w.heap.size, j, none⟩ = some (.int .u8 ((bytesOf x).getD j 0)) := fun j hj => by
    have h1 := Lib.bytesWorld_cell w e x j hj
    rw [cell_of_cells (Lib.bytesWorld_at_new w e x)] at h1
    rw [cell_of_cells hnew, h1]
    have hj' : j < x.data.size := hj
    have hg : x.data[j]? = some (x.data[j]'hj') := Array.getElem?_eq_getElem hj'
    simp only [bytesOf, List.getD_eq_getElem?_getD, List.getElem?_map, Array.getElem?_toList, hg]
    rfl
  have hlt : w.heap.size < W2.heap.size := (Array.getElem?_eq_some_iff.1 hnew).1
  have htot : (bytesOf x ++ ys).length = x.size + ys.length := by rw [List.length_append, hbl]
  by_cases hroom : x.size + ys.length ≤ grownCap w x.size 0 e
  · have hrun := run_append_room_src (P := P) W2 t t ty e i ht hi w.heap.size 0 x.size (grownCap w x.size 0 e) _ _ _ hsrc hroom
      (fun j hj => by
        have hj' : j < ys.length := by simpa [nums] using hj
        rw [cell_of_cells hnew, hz1, Nat.zero_add, Nat.mul_one, Array.getElem?_eq_getElem (by rw [hcs]; omega)]
        rfl)
      (fun j hj => by
        have hj' : j < ys.length := by simpa [nums] using hj
        simp only [World.frozen?, hnew, hcs, hz1]
        simp
        omega)
    rw [hz1] at hrun
    obtain ⟨cur', r1, r2, r3⟩ := setCells_any (nums .u8 ys) (0 + x.size * 1) W2 _ hnew (by rw [hcs]; simp [nums]; omega)
    obtain ⟨s1, s2, s3, s4⟩ := setCells_same w.heap.size (nums .u8 ys) (0 + x.size * 1) W2
    refine ⟨_, _, hrun, ?_, hbw.trans ⟨s1, s2, s3, by rw [s4]; exact Nat.le_refl _, fun k hk => setCells_far _ _ k (by omega)⟩⟩
    have hV := V_block (W := w) (w' := W2.setCells w.heap.size (0 + x.size * 1) (nums .u8 ys)) (t := e) (c := grownCap w x.size 0 e) (xs := bytesOf x ++ ys) (by rw [htot]; omega) (by rw [htot]; exact hroom) r1 ?_ (Nat.le_refl _)
    · rw [htot] at hV
      exact hV
    · intro j hj
      rw [htot] at hj
      rw [← Array.getElem?_toList, r3, Nat.zero_add, Nat.mul_one]
      have hlen : (Lib.bytesCells w e x).toList.length = grownCap w x.size 0 e := by rw [Array.length_toList, hcs]
      by_cases hjx : j < x.size
      · have h2 := hold j hjx
        rw [cell_of_cells hnew, ← Array.getElem?_toList] at h2
        rw [List.append_assoc, List.getElem?_append_left (by rw [List.length_take, hlen]; omega), List.getElem?_take, if_pos hjx, h2, bytes_getD hjx]
      · have hys : j - x.size < ys.length := by omega
        have h3 := nums_get ys (j - x.size) hys
        rw [List.getElem?_toArray] at h3
        rw [List.append_assoc, List.getElem?_append_right (by rw [List.length_take, hlen]; omega), List.length_take, hlen, Nat.min_eq_left (by omega), List.getElem?_append_left (by simp [nums]; omega), h3]
        rw [List.getD_eq_getElem?_getD, List.getD_eq_getElem?_getD, List.getElem?_append_right (by omega), hbl]
  · have hcells : (Builtin.firstCells i.size x.size (.slice (some ⟨w.heap.size, 0, none⟩) x.size (grownCap w x.size 0 e))).run P W2.drew = .ok (nums .u8 (bytesOf x)).toArray W2.drew := by
      refine run_firstCells_some W2.drew i.size x.size ⟨w.heap.size, 0, none⟩ x.size _ _ (by simp [nums, hbl, hz1]) (fun j u hu => ?_)
      obtain ⟨hj, rfl⟩ := nums_at hu
      rw [add_plain]
      exact hold j (by omega)
    have hrun := run_append_grow_src (P := P) W2 t t ty e i _ ht hi hz0 (some ⟨w.heap.size, 0, none⟩) x.size (grownCap w x.size 0 e) _ hcells _ _ _ hsrc (by omega) (by omega) (growslice_fits (by omega) (by rw [hz2]; omega))
    refine ⟨_, _, hrun, ?_, hbw.trans ((Below.refl _ W2).trans (below_drew1 (Below.refl _ _) |>.alloc (by show w.heap.size ≤ W2.heap.size; omega) _))⟩
    have hat := heap_new W2.drew (.cells ((nums .u8 (bytesOf x) ++ nums .u8 ys).toArray ++ Builtin.zeroCells (Value.int .u8 0).cells (grownCap W2 (x.size + ys.length) (grownCap w x.size 0 e) e - (x.size + ys.length))) e)
    have hV := V_block (W := w) (t := e) (c := grownCap W2 (x.size + ys.length) (grownCap w x.size 0 e) e) (xs := bytesOf x ++ ys) (by rw [htot]; omega) (by rw [htot]; exact grownCap_ge _ _ _ _) hat ?_ (by show w.heap.size ≤ W2.heap.size; omega)
    · rw [htot] at hV
      exact hV
    · intro j hj
      have h2 := nums_get (bytesOf x ++ ys) j hj
      rw [List.getElem?_toArray] at h2
      rw [Array.getElem?_append_left (by rw [List.size_toArray, List.length_append]; simp [nums]; rw [htot] at hj; omega), List.getElem?_toArray, ← nums_append, h2]
theorem app_conv {P : Program} {w : World} {t ty e : TypeId} (ht : P.underlying t = some (.slice e)) (hinfo : (P.info? e).map (fun i => (i.zero, i.size, i.bytes)) = some (some (.int .u8 0), 1, 1)) (x : ByteArray) {A : Option Addr} {c : Nat} {ys : List Int}
    (hl : x.size + ys.length ≤ 140737488355328) (hr : Kd.C (Kd.int .u8) (Lib.bytesWorld w e x) A ys.length ys) :
    ∃ v w', (Builtin.append_ #[t, t] ty #[.slice (some ⟨w.heap.size, 0, none⟩) x.size (grownCap w x.size 0 e), .slice A ys.length c]).run P (Lib.bytesWorld w e x) = .ok v w' ∧
      Kd.V (Kd.int .u8) e w' w.heap.size (fun k => w.heap.size ≤ k) v (bytesOf x ++ ys) ∧ Below w.heap.size w w' :=
  app_conv_at ht hinfo x hl hr (Lib.bytesWorld_at_new w e x) ⟨rfl, rfl, rfl, by rw [Lib.bytesWorld_size]; omega, fun k hk => Lib.bytesWorld_at_old w e x k hk⟩
theorem app_conv1 {P : Program} {w : World} {t ty e : TypeId} (ht : P.underlying t = some (.slice e)) (hinfo : (P.info? e).map (fun i => (i.zero, i.size, i.bytes)) = some (some (.int .u8 0), 1, 1)) (x : ByteArray) (c : Int) (hl : x.size + 1 ≤ 140737488355328) :
    ∃ v w', (Builtin.append_ #[t, t] ty #[.slice (some ⟨w.heap.size, 0, none⟩) x.size (grownCap w x.size 0 e), .slice (some ⟨(Lib.bytesWorld w e x).heap.size, 0, none⟩) 1 1]).run P ((Lib.bytesWorld w e x).alloc (.cells #[.int .u8 c] e)) = .ok v w' ∧
      Kd.V (Kd.int .u8) e w' w.heap.size (fun k => w.heap.size ≤ k) v (bytesOf x ++ [c]) ∧ Below w.heap.size w w' :=
  app_conv_at ht hinfo x (ys := [c]) (A := some ⟨(Lib.bytesWorld w e x).heap.size, 0, none⟩) (c := 1) hl (C_block (xs := [c]) (by simp) (heap_new (Lib.bytesWorld w e x) _)) (heap_old _ (Lib.bytesWorld_at_new w e x))
    ((⟨rfl, rfl, rfl, by rw [Lib.bytesWorld_size]; omega, fun k hk => Lib.bytesWorld_at_old w e x k hk⟩ : Below w.heap.size w (Lib.bytesWorld w e x)).alloc (by rw [Lib.bytesWorld_size]; omega) _)
/-- An append onto bytes made of a text, in the form of a call's contract. -/
def ConvApp (P : Program) (t ty : TypeId) (u v : Value) (W : World) (R : Ending → World → Prop) : Prop :=
  ∃ v' w', (Builtin.append_ #[t, t] ty #[u, v]).run P W = .ok v' w' ∧ R (.returned v') w'
theorem ConvApp.mono {P : Program} {t ty : TypeId} {u v : Value} {W : World} {R R' : Ending → World → Prop} (h : ConvApp P t ty u v W R) (hr : ∀ x w', R x w' → R' x w') : ConvApp P t ty u v W R' := by
  obtain ⟨v', w', h1, h2⟩ := h
  exact ⟨v', w', h1, hr _ _ h2⟩
theorem conv_app {P : Program} {w : World} {t ty e : TypeId} (ht : P.underlying t = some (.slice e)) (hinfo : (P.info? e).map (fun i => (i.zero, i.size, i.bytes)) = some (some (.int .u8 0), 1, 1)) (x : ByteArray) {A : Option Addr} {c : Nat} {ys : List Int}
    (hl : x.size + ys.length ≤ 140737488355328) (hr : Kd.C (Kd.int .u8) (Lib.bytesWorld w e x) A ys.length ys) :
    ConvApp P t ty (.slice (some ⟨w.heap.size, 0, none⟩) x.size (grownCap w x.size 0 e)) (.slice A ys.length c) (Lib.bytesWorld w e x) fun y w' => ∃ v0_ : Value, y = .returned v0_ ∧ Kd.V (Kd.int .u8) e w' w.heap.size (fun k_ => w.heap.size ≤ k_) v0_ (bytesOf x ++ ys) ∧ Below w.heap.size w w' := by
  obtain ⟨v, w', h1, h2, h3⟩ := app_conv (ty := ty) (c := c) ht hinfo x hl hr
  exact ⟨v, w', h1, v, rfl, h2, h3⟩
theorem conv_app1 {P : Program} {w : World} {t ty e : TypeId} (ht : P.underlying t = some (.slice e)) (hinfo : (P.info? e).map (fun i => (i.zero, i.size, i.bytes)) = some (some (.int .u8 0), 1, 1)) (x : ByteArray) (c : Int) (hl : x.size + 1 ≤ 140737488355328) :
    ConvApp P t ty (.slice (some ⟨w.heap.size, 0, none⟩) x.size (grownCap w x.size 0 e)) (.slice (some ⟨(Lib.bytesWorld w e x).heap.size, 0, none⟩) 1 1) ((Lib.bytesWorld w e x).alloc (.cells #[.int .u8 c] e)) fun y w' => ∃ v0_ : Value, y = .returned v0_ ∧ Kd.V (Kd.int .u8) e w' w.heap.size (fun k_ => w.heap.size ≤ k_) v0_ (bytesOf x ++ [c]) ∧ Below w.heap.size w w' := by
  obtain ⟨v, w', h1, h2, h3⟩ := app_conv1 (ty := ty) ht hinfo x c hl
  exact ⟨v, w', h1, v, rfl, h2, h3⟩
section
variable {P : Program} {ops : Array Oper} {Q : Exit → Act → World → Prop} {rest : List Oper} {o : Oper} {a : Act}
/-- The conversion itself, as one step of a walk: the world behind it is told by its name. -/
theorem goesStrX_ {W : World} {s t e : TypeId} {b : ByteArray} {x : Operand} {N : Option Tmp} (hgd : o.guard = none) (hd : o.dst = N) (hop : o.op = .convert s t x) (hx : a.eval x = .string b)
    (hs : P.underlying s = some .string) (ht : P.underlying t = some (.slice e)) (he : P.underlying e = some (.int .u8))
    (h : wpList P ops Q rest (a.put N (.slice (some ⟨W.heap.size, 0, none⟩) b.size (grownCap W b.size 0 e))) (Lib.bytesWorld W e b)) : wpList P ops Q (o :: rest) a W := by
  subst hd
  refine Kd.event_run hgd ?_ h
  unfold execOp
  simp only [hop, hx, Sem.run_bind, Lib.run_convert_string_bytes W s t e b hs ht he]
  simp [Result.andThen]
/-- The append behind it. -/
theorem goesApp_ {W : World} {t e : TypeId} {b : ByteArray} {g n cap : Nat} {v : Value} {s x : Operand} {N : Option Tmp} (hgd : o.guard = none) (hd : o.dst = N) (hop : o.op = .call { callee := .builtin .append, args := #[s, x], argTypes := #[t, t] })
    (hs : a.eval s = .slice (some ⟨g, 0, none⟩) n cap) (hx : a.eval x = v) (hg : g = W.heap.size) (hn : n = b.size) (hc : cap = grownCap W b.size 0 e)
    (h : ConvApp P t o.type (.slice (some ⟨W.heap.size, 0, none⟩) b.size (grownCap W b.size 0 e)) v (Lib.bytesWorld W e b) fun y w' => ∃ z, y = .returned z ∧ wpList P ops Q rest (a.put N z) w') : wpList P ops Q (o :: rest) a (Lib.bytesWorld W e b) := by
  obtain ⟨z, w', h1, z', hz, h2⟩ := h
  cases hz
  subst hd hg hn hc
  refine Kd.event_run hgd ?_ h2
  simp [execOp, hop, resolve, invoke, builtin, hs, hx, h1, Result.andThen]
/-- The append of one byte behind it. -/
theorem goesApp1_ {W : World} {t e : TypeId} {b : ByteArray} {g g2 n cap : Nat} {z : Value} {s x : Operand} {N : Option Tmp} (hgd : o.guard = none) (hd : o.dst = N) (hop : o.op = .call { callee := .builtin .append, args := #[s, x], argTypes := #[t, t] })
    (hs : a.eval s = .slice (some ⟨g, 0, none⟩) n cap) (hx : a.eval x = .slice (some ⟨g2, 0, none⟩) 1 1) (hg : g = W.heap.size) (hn : n = b.size) (hc : cap = grownCap W b.size 0 e) (hg2 : g2 = (Lib.bytesWorld W e b).heap.size)
    (h : ConvApp P t o.type (.slice (some ⟨W.heap.size, 0, none⟩) b.size (grownCap W b.size 0 e)) (.slice (some ⟨(Lib.bytesWorld W e b).heap.size, 0, none⟩) 1 1) ((Lib.bytesWorld W e b).alloc (.cells #[z] e)) fun y w' => ∃ z, y = .returned z ∧ wpList P ops Q rest (a.put N z) w') :
    wpList P ops Q (o :: rest) a ((Lib.bytesWorld W e b).alloc (.cells #[z] e)) := by
  obtain ⟨z, w', h1, z', hz, h2⟩ := h
  cases hz
  subst hd hg hn hc hg2
  refine Kd.event_run hgd ?_ h2
  simp [execOp, hop, resolve, invoke, builtin, hs, hx, h1, Result.andThen]
end
end Go.Proofs.YtcjcaojgminjpabDoor
