/- The table of versions that are known, as the program's text lays it: what a world holds that bears it; no conditions. -/
import Derived.Test.YtljdbphojcglgaaDoorRows
import Derived.Test.YtljdbphojcglgaaDoorHelp
import Derived.Lib.LaidTab
import Derived.WalkKit
import Derived.ProofKit
import Derived.OpenShut
namespace Go.Proofs.YtljdbphojcglgaaDoor
open Go Go.ChangeShapes Go.WideShapes Go.ChangeAt Go.RowKit Go.Proofs.YtljdbphojcglgaaDoorW.PrintWords Go.Proofs.YtljdbphojcglgaaDoorW.PrintLast
/-- An array of texts that reads as the table holds the table's texts, cell for cell. -/
theorem cells_of_texts {H : Type} {enc : TypeId × Value→H} {P : Program} {w : World} {base : Nat} {sp : Nat→Bool} {held : Bool} {fuel : Nat} {t e : TypeId} {n : Nat} {cs : List Value} {ss : List (List UInt8)} {p : List MemPlace}
    (ht : P.underlying t=some (.array n e)) (he : P.underlying e=some .string) (hce : P.cellsOf e=1) (hct : P.cellsOf t=n)
    (h : DataW.trod enc P w base sp held fuel t cs=some (.agg (ss.map fun s => .lit (.string s)),p)) : cs=ss.map fun s=>Value.string ⟨s.toArray⟩:=by
  cases fuel with
  | zero=>simp [DataW.trod] at h
  | succ fuel =>
    simp only [DataW.trod,ht,hce,hct,Nat.mul_one] at h
    split at h
    · rename_i hl
      obtain ⟨xs,hm,hx⟩:=Option.map_eq_some_iff.1 h
      have hxs:xs.map (·.1)=ss.map fun z=>(DataW.lit (.string z) : DataW H):=by
        have:=congrArg Prod.fst hx
        simpa using this
      have hxl:xs.length=n:=by simpa using Lib.mapM_length hm
      have hzl:ss.length=n:=by
        have:=congrArg List.length hxs
        simp at this
        omega
      apply List.ext_getElem?
      intro i
      by_cases hi : i < n
      · obtain ⟨b,hb,hf⟩:=Lib.mapM_at hm i i (by simp [hi])
        obtain ⟨z,hc,rfl,_⟩:=DataW.trod_string he hf
        have h1:cs[i]?=some (.string z):=by
          have:=congrArg (·[0]?) hc
          simpa [List.getElem?_take,List.getElem?_drop] using this
        have h2 : (xs.map (·.1))[i]?=some (DataW.lit (.string z.data.toList) : DataW H):=by simp [hb]
        rw [hxs] at h2
        simp only [List.getElem?_map,Option.map_eq_some_iff,DataW.lit.injEq,Lit.string.injEq] at h2
        obtain ⟨z',hz',hz2⟩:=h2
        rw [h1,List.getElem?_map,hz',hz2]
        rfl
      · rw [List.getElem?_eq_none (by omega),List.getElem?_eq_none (by simp; omega)]
    · cases h
theorem laid_at {P : Program} {w : World} : ∀ {laid : List (String × DataW Unit)} {ps : List MemPlace},DataW.LaidVars P w laid ps→∀ {n : String} {d : DataW Unit},(n,d) ∈ laid→∃ g t cs fuel p,P.globalNamed n=some g∧(P.globals[g]?).map (·.type)=some t∧w.var? P n=some cs∧DataW.trod (fun _=>()) P w 0 (fun _=>true) false fuel t cs.toList=some (d,p)
  | [],_,_,_,_,hm=>by cases hm
  | (_,_) :: _,_,⟨g,t,cs,fuel,p,_,h1,h2,h3,h4,h5,_⟩,_,_,hm=>by
    rcases List.mem_cons.1 hm with e | hm
    · cases e
      exact ⟨g,t,cs,fuel,p,h1,h2,h3,h4⟩
    · exact laid_at h5 hm
theorem texts_of_laid {P : Program} {W : World} {name : String} {ss : List (List UInt8)} {laid : List (String × DataW Unit)} {g : Nat} {t e : TypeId} {n : Nat}
    (hg : P.globalNamed name=some g) (hty : (P.globals[g]?).map (·.type)=some t) (ht : P.underlying t=some (.array n e)) (he : P.underlying e=some .string) (hce : P.cellsOf e=1) (hct : P.cellsOf t=n)
    (hm : (name, .agg (ss.map fun s => .lit (.string s))) ∈ laid) (h : laidMet P laid W) (i : Nat) (hi : i < ss.length) : W.cell? ⟨g,i,none⟩=some (.string ⟨(ss.getD i []).toArray⟩):=by
  obtain ⟨ps,hv,_⟩:=h
  obtain ⟨g',t',cs,fuel,p,hg',ht',hvar,hd⟩:=laid_at hv hm
  obtain rfl:=Option.some.inj (hg.symm.trans hg')
  obtain rfl:=Option.some.inj (hty.symm.trans ht')
  have hc:=cells_of_texts ht he hce hct hd
  have:=World.var?_cell hg hvar i
  rw [this,← Array.getElem?_toList,hc]
  simp [List.getD,hi]
def verB : List (List UInt8):=[[50,46,49],[50,46,50],[50,46,51],[50,46,51,46,49],[50,46,52],[50,46,53],[50,46,53,46,49],[50,46,54],[50,46,55],[50,46,56]]
/-- The versions that are known. -/
def versL : List ByteArray:=verB.map strOf
/-- The world bears the table. -/
def GlobOK (w : World) : Prop := ∀ i,i < 10→w.cell? ⟨1,i,none⟩=some (.string (versL.getD i ByteArray.empty))
theorem glob_below {w W : World} (hG : GlobOK w) (hb : Below w.heap.size w W) : GlobOK W:=fun i hi =>
  (hb.cell (p:=⟨1,i,none⟩) (World.block_lt_of_cell? w ⟨1,0,none⟩ (hG 0 (by decide)))).trans (hG i hi)
theorem glob_row {w : World} (hG : GlobOK w) : Kd.C Kd.string w (some ⟨1,0,none⟩) versL.length versL :=
  Kd.C_of_reads (d:=ByteArray.empty) (h1:=fun _=>rfl) ⟨rfl,by decide,fun _=>⟨_,rfl,fun j hj=>by rw [Go.Proofs.YtljdbphojcglgaaDoorW.PrintWords.add_plain]; exact hG j hj⟩⟩
theorem glob_laid {W : World} (h : laidMetH Tryd.prog Rows.acceptAnswersRow.laid W) : GlobOK W:=fun i hi=>by
  have h0:laidMet Tryd.prog Rows.acceptAnswersRow.laid W:=h
  have h1:=texts_of_laid (name := "lamplighter/msh.versions") (ss:=verB) (g:=1) (t:=71) (by kernel_rfl) (by kernel_rfl) Tryd.underlying71 Tryd.underlying9 (by kernel_rfl) (by kernel_rfl) (List.mem_of_getElem? (i:=1) (by kernel_rfl)) h0 i hi
  rw [h1]
  have : (versL.getD i ByteArray.empty)=strOf (verB.getD i []):=by
    unfold versL
    rw [List.getD_eq_getElem?_getD,List.getD_eq_getElem?_getD,List.getElem?_map]
    have hv:i < verB.length:=hi
    rw [List.getElem?_eq_getElem hv]
    rfl
  rw [this]
  rfl
end Go.Proofs.YtljdbphojcglgaaDoor
