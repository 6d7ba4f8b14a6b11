/- The table of answers' codes, as the program's text lays it: what a world holds that bears it; no conditions. -/
import Derived.Test.YtljdbphojcglgaaDoorGlob
namespace Go.Proofs.YtljdbphojcglgaaDoor
open Go Go.ChangeShapes Go.WideShapes Go.ChangeAt Go.RowKit Go.Proofs.YtljdbphojcglgaaDoorW.PrintWords Go.Proofs.YtljdbphojcglgaaDoorW.PrintLast
def codeB : List (List UInt8):=[[65,65],[65,69],[65,82]]
/-- The codes that are known. -/
def codesL : List ByteArray:=codeB.map strOf
/-- The world bears the codes. -/
def GlobC (w : World) : Prop := ∀ i,i < 3→w.cell? ⟨2,i,none⟩=some (.string (codesL.getD i ByteArray.empty))
theorem globc_below {w W : World} (hG : GlobC w) (hb : Below w.heap.size w W) : GlobC W:=fun i hi =>
  (hb.cell (p:=⟨2,i,none⟩) (World.block_lt_of_cell? w ⟨2,0,none⟩ (hG 0 (by decide)))).trans (hG i hi)
theorem globc_row {w : World} (hG : GlobC w) : Kd.C Kd.string w (some ⟨2,0,none⟩) codesL.length codesL :=
  Kd.C_of_reads (d:=ByteArray.empty) (h1:=fun _=>rfl) ⟨rfl,by decide,fun _=>⟨_,rfl,fun j hj=>by rw [Go.Proofs.YtljdbphojcglgaaDoorW.PrintWords.add_plain]; exact hG j hj⟩⟩
theorem globc_laid {W : World} (h : laidMetH Tryd.prog Rows.acceptAnswersRow.laid W) : GlobC W:=fun i hi=>by
  have h0:laidMet Tryd.prog Rows.acceptAnswersRow.laid W:=h
  have h1:=texts_of_laid (name := "lamplighter/ack.codes") (ss:=codeB) (g:=2) (t:=84) (by kernel_rfl) (by kernel_rfl) Tryd.underlying84 Tryd.underlying9 (by kernel_rfl) (by kernel_rfl) (List.mem_of_getElem? (i:=2) (by kernel_rfl)) h0 i hi
  rw [h1]
  have : (codesL.getD i ByteArray.empty)=strOf (codeB.getD i []):=by
    unfold codesL
    rw [List.getD_eq_getElem?_getD,List.getD_eq_getElem?_getD,List.getElem?_map]
    have hv:i < codeB.length:=hi
    rw [List.getElem?_eq_getElem hv]
    rfl
  rw [this]
  rfl
end Go.Proofs.YtljdbphojcglgaaDoor
