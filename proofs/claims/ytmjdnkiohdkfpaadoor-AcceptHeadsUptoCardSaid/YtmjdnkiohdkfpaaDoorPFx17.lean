import Derived.Test.YtmjdnkiohdkfpaaDoorPFx0
import Derived.Test.YtmjdnkiohdkfpaaDoorConvApp
namespace Go.Proofs.YtmjdnkiohdkfpaaDoor.PF
open Go.RowKit Go.Proofs.YtmjdnkiohdkfpaaDoorW.PrintWords Go.Proofs.YtmjdnkiohdkfpaaDoorW.PrintLast Go.Proofs.YtmjdnkiohdkfpaaDoorW.PrintMore
attribute [local go_sem] max2_int min2_int max_two min_two max_three min_three max_four min_four
set_option linter.unusedVariables false
set_option linter.unusedSimpArgs false

/-! ### cv_str: stands for a conversion -/
def cv_str.f (a0 : ByteArray) : Option (List Int):=if a0.size≤9223372036854775807 then some (bytesOf a0) else none
theorem cv_str.calls (a0 : ByteArray) (r : List Int) (w : World) (h : cv_str.f a0=some r) : ConvStr Tryd.prog 9 26 a0 w fun e w' => ∃ v0_ : Value,e = .returned (v0_)∧Kd.V (Kd.int .u8) 5 w' w.heap.size (fun k_=>w.heap.size≤k_) v0_ r∧Below w.heap.size w w':=by
 unfold cv_str.f at h
 split at h
 ·obtain rfl:=Option.some.inj h
  exact conv_str Tryd.underlying9 Tryd.underlying26 Tryd.underlying5 a0 (by assumption)
 ·cases h

/-! ### cv_app: stands for a conversion -/
def cv_app.f (a0 : ByteArray) (l1 : List Int) : Option (List Int):=if a0.size + l1.length≤140737488355328 then some (bytesOf a0 ++ l1) else none
theorem cv_app.calls {ty : TypeId} (a0 : ByteArray) (A1 : Option Addr) (c1 : Nat) (l1 : List Int) (r : List Int) (w : World) (hr1 : Kd.C (Kd.int .u8) w A1 l1.length l1) (_hc1 : l1.length≤c1) (h : cv_app.f a0 l1=some r) : ConvApp Tryd.prog 26 ty (.slice (some ⟨w.heap.size,0,none⟩) a0.size (grownCap w a0.size 0 5)) (.slice A1 l1.length c1) (Lib.bytesWorld w 5 a0) fun e w' => ∃ v0_ : Value,e = .returned (v0_)∧Kd.V (Kd.int .u8) 5 w' w.heap.size (fun k_=>w.heap.size≤k_) v0_ r∧Below w.heap.size w w':=by
 unfold cv_app.f at h
 split at h
 ·obtain rfl:=Option.some.inj h
  exact conv_app Tryd.underlying26 (by kernel_rfl) a0 (by assumption) (Kd.C_below hr1 ⟨rfl,rfl,rfl,by rw [Lib.bytesWorld_size]; omega,fun k hk=>Lib.bytesWorld_at_old w 5 a0 k hk⟩)
 ·cases h

end Go.Proofs.YtmjdnkiohdkfpaaDoor.PF
