/- The table of the bytes behind a frame, as the program's text lays it, and the library's number of the longest text to be looked for at once (whatever it is): what a world holds that bears them; no conditions. -/
import Derived.Test.YtljdbphojcglgaaDoorGlob
import Derived.Test.YtljdbphojcglgaaDoorBts
import Derived.ChangeArms
namespace Go.Proofs.YtljdbphojcglgaaDoor
open Go Go.ChangeShapes Go.WideShapes Go.ChangeAt Go.RowKit Go.Proofs.YtljdbphojcglgaaDoorW.PrintWords Go.Proofs.YtljdbphojcglgaaDoorW.PrintLast
set_option linter.unusedVariables false
/-- An array of two bytes that reads as the table holds the table's bytes, cell for cell. -/
theorem cells_of_two {H : Type} {enc : TypeId × Value→H} {P : Program} {w : World} {base : Nat} {sp : Nat→Bool} {held : Bool} {fuel : Nat} {t e : TypeId} {x y : Int} {cs : List Value} {p : List MemPlace}
    (ht : P.underlying t=some (.array 2 e)) (he : P.underlying e=some (.int .u8)) (hce : P.cellsOf e=1) (hct : P.cellsOf t=2)
    (h : DataW.trod enc P w base sp held fuel t cs=some (.agg [.lit (.int .u8 x), .lit (.int .u8 y)],p)) : cs=[Value.int .u8 x,Value.int .u8 y]:=by
  cases fuel with
  | zero=>simp [DataW.trod] at h
  | succ fuel =>
    simp only [DataW.trod,ht,hce,hct,Nat.mul_one] at h
    split at h
    · rename_i hl
      obtain ⟨xs,hm,hx⟩:=Option.map_eq_some_iff.1 h
      have hxs:xs.map (·.1)=[(DataW.lit (.int .u8 x) : DataW H), .lit (.int .u8 y)]:=by
        have:=congrArg Prod.fst hx
        simpa using this
      obtain ⟨b0,hb0,hf0⟩:=Lib.mapM_at hm 0 0 (by simp)
      obtain ⟨b1,hb1,hf1⟩:=Lib.mapM_at hm 1 1 (by simp)
      obtain ⟨z0,hc0,rfl,_⟩:=DataW.trod_int he hf0
      obtain ⟨z1,hc1,rfl,_⟩:=DataW.trod_int he hf1
      have g0 : (xs.map (·.1))[0]?=some (DataW.lit (.int .u8 z0) : DataW H):=by simp [hb0]
      have g1 : (xs.map (·.1))[1]?=some (DataW.lit (.int .u8 z1) : DataW H):=by simp [hb1]
      rw [hxs] at g0 g1
      simp only [List.getElem?_cons_zero,List.getElem?_cons_succ,Option.some.injEq,DataW.lit.injEq,Lit.int.injEq,true_and] at g0 g1
      subst g0 g1
      have k0:cs[0]?=some (.int .u8 x):=by
        have:=congrArg (·[0]?) hc0
        simpa [List.getElem?_take,List.getElem?_drop] using this
      have k1:cs[1]?=some (.int .u8 y):=by
        have:=congrArg (·[0]?) hc1
        simpa [List.getElem?_take,List.getElem?_drop] using this
      match cs,hl,k0,k1 with
      | [a,b],_,k0,k1 =>
        simp at k0 k1
        rw [k0,k1]
    · cases h
/-- The world bears the ends. -/
def GlobE (w : World) : Prop:=w.cell? ⟨0,0,none⟩=some (.int .u8 28)∧w.cell? ⟨0,1,none⟩=some (.int .u8 13)∧∃ m,w.cell? ⟨3,0,none⟩=some (.int .i64 m)
theorem globe_below {w W : World} (hG : GlobE w) (hb : Below w.heap.size w W) : GlobE W :=
  have up : ∀ {g i v},w.cell? ⟨g,i,none⟩=some v→W.cell? ⟨g,i,none⟩=some v:=fun {g i v} h=>(hb.cell (p:=⟨g,i,none⟩) (World.block_lt_of_cell? w ⟨g,i,none⟩ h)).trans h
  ⟨up hG.1,up hG.2.1,hG.2.2.elim fun m h=>⟨m,up h⟩⟩
theorem globe_at {w : World} (hG : GlobE w) : ∀ i,i < 2→w.cell? ((⟨0,0,none⟩ : Addr).add i)=some (.int .u8 ([28,13].getD i 0)):=fun i hi=>by
  rw [Go.Proofs.YtljdbphojcglgaaDoorW.PrintWords.add_plain]
  match i,hi with
  | 0,_=>exact hG.1
  | 1,_=>exact hG.2.1
theorem globe_laid {W : World} (h : laidMetH Tryd.prog Rows.acceptAnswersRow.laid W) (hs : W.ShapedOpen Tryd.prog) : GlobE W:=by
  have h0:laidMet Tryd.prog Rows.acceptAnswersRow.laid W:=h
  obtain ⟨ps,hv,_⟩:=h0
  obtain ⟨g',t',cs,fuel,p,hg',ht',hvar,hd⟩:=laid_at hv (n := "lamplighter/frame.ends") (d := .agg [.lit (.int .u8 28), .lit (.int .u8 13)]) (List.mem_of_getElem? (i:=0) (by kernel_rfl))
  obtain rfl:=Option.some.inj ((show Tryd.prog.globalNamed "lamplighter/frame.ends" = some 0 by kernel_rfl).symm.trans hg')
  obtain rfl:=Option.some.inj ((show (Tryd.prog.globals[0]?).map (·.type)=some 51 by kernel_rfl).symm.trans ht')
  have hc:=cells_of_two Tryd.underlying51 Tryd.underlying5 (by kernel_rfl) (by kernel_rfl) hd
  have c0:=World.var?_cell (show Tryd.prog.globalNamed "lamplighter/frame.ends" = some 0 by kernel_rfl) hvar 0
  have c1:=World.var?_cell (show Tryd.prog.globalNamed "lamplighter/frame.ends" = some 0 by kernel_rfl) hvar 1
  rw [← Array.getElem?_toList,hc] at c0 c1
  exact ⟨c0,c1,Tryd.laysM186.s1_3 W hs⟩
end Go.Proofs.YtljdbphojcglgaaDoor
