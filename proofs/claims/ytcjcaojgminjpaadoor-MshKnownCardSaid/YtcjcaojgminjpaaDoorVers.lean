/- msh.Versions: the versions that are known, in memory of its own; condition: the table lies as the program's text lays it. -/
import Derived.Test.YtcjcaojgminjpaaDoorGlob
import Derived.Test.YtcjcaojgminjpaaDoorClone
import Derived.Test.YtcjcaojgminjpaaDoorHelp
import Derived.WalkKit
import Derived.BigCall
namespace Go.Proofs.YtcjcaojgminjpaaDoor
open Go Go.RowKit Go.Proofs.YtcjcaojgminjpaaDoorW.PrintWords Go.Proofs.YtcjcaojgminjpaaDoorW.PrintLast Go.Proofs.YtcjcaojgminjpaaDoorW.PrintMore
set_option maxHeartbeats 1000000 in
set_option maxRecDepth 100000 in
theorem versions_calls (w : World) (hG : GlobOK w) :
    Calls Tryd.prog 21 #[] w fun e w' => ∃ v0_ : Value, e = .returned (v0_) ∧ Kd.R Kd.string 9 w' w.heap.size (fun _ => True) v0_ versL ∧ Below w.heap.size w w' := by
  have HG := Lib.hid hG
  clear hG
  go_enter Tryd.func21, Tryd.ntmps21
  go_wp2_with fail
  refine (Tryd.slices_Clone_string 1 0 10 10 versL _ (by decide) (by decide) (fun j hj => by rw [Nat.zero_add]; exact HG.out j hj)).mono ?_
  rintro e w' ⟨v, rfl, ho, _, hb⟩
  go_wp2_with fail
  refine bodyPost_ret (v := v) (by simp [results, Tryd.results21, go_sem]) rfl ⟨v, rfl, Kd.R_of_own ?_ (fun _ _ => trivial), hb⟩
  exact ho
end Go.Proofs.YtcjcaojgminjpaaDoor
