/- A store of a whole struct into a block of its own, as one step of a walk; no conditions. -/
import Derived.Test.YtljdbphojcglgaaDoorHelp
import Derived.Laws.EntriesVeiled
namespace Go.Proofs.YtljdbphojcglgaaDoor
open Go Go.RowKit Go.Proofs.YtljdbphojcglgaaDoorW.PrintWords Go.Proofs.YtljdbphojcglgaaDoorW.PrintLast Go.Proofs.YtljdbphojcglgaaDoorW.PrintMore
theorem store_whole {P : Program} {ops : Array Oper} {rest : List Oper} {o : Oper} {a : Act} {Q : Exit→Act→World→Prop} {W : World} (hgd : o.guard=none) (hN : o.dst=none) (t : TypeId) (p x : Operand) (ho : o.op = .store t p x) {g : Nat} {e : TypeId} {cur cs' : Array Value} {u : Value}
    (haddr : a.eval p = .pointer (some ⟨g,0,none⟩)) (hx : a.eval x=u) (hu : u.cells=cs') (hh : W.heap[g]?=some (.cells cur e (0,0))) (ht : (P.info? t).map (·.size)=some cs'.size) (hsz : cur.size=cs'.size) (h1 : ∀ q ∈ cs'.toList,q.oneCell'=true)
    (h : ∀ W',W'.heap[g]?=some (.cells cs' e (0,0))→(∀ j,j ≠ g→W'.heap[j]?=W.heap[j]?)→W'.heap.size=W.heap.size→(∀ (B : Nat) (w : World),B≤g→Below B w W→Below B w W')→wpList P ops Q rest a W') : wpList P ops Q (o :: rest) a W:=by
  refine wpList_plain hgd fun K hK=>?_
  have hrun : (Instr.storeAt t (.pointer (some ⟨g,0,none⟩)) u).run P W = .ok () (W.setCells g 0 cs'.toList) :=
    run_store_run t u cs'.toList hh (by rw [hu]) (by rw [ht,Array.length_toList]) (by rw [Array.length_toList]; omega) h1
  unfold Oper.wp execOp
  simp only [ho,haddr,hx,Sem.run_bind,Sem.run_pure,Result.andThen_ok,hrun]
  show K (a.put o.dst undef) _
  rw [hN]
  obtain ⟨cur',r1,r2,r3⟩:=setCells_row cs'.toList 0 W cur hh (by rw [Array.length_toList]; omega)
  obtain ⟨s1,s2,s3,s4⟩:=setCells_same g cs'.toList 0 W
  have hc:cur'=cs':=by
    apply Array.toList_inj.1
    rw [r3,List.take_zero,List.nil_append,Nat.zero_add,List.drop_of_length_le (by rw [Array.length_toList,Array.length_toList]; omega),List.append_nil]
  rw [hc] at r1
  refine hK a _ (h _ r1 (fun j hj=>setCells_far _ _ j hj) s4 (fun B w hB hb=>hb.trans ⟨s1,s2,s3,by rw [s4]; exact Nat.le_refl _,fun k hk=>setCells_far _ _ k (by omega)⟩))
theorem cell_far {W : World} {p a : Addr} {x : Option Value} (h : p.block ≠ a.block) (v : Value) (hx : W.cell? a=x) : (W.setCell p v).cell? a=x:=(World.cell?_setCell_far W p a v h).trans hx
end Go.Proofs.YtljdbphojcglgaaDoor
