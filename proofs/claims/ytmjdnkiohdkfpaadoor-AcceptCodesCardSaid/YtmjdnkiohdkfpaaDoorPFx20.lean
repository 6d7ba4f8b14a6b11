import Derived.Test.YtmjdnkiohdkfpaaDoorPFx0
import Derived.Test.YtmjdnkiohdkfpaaDoorPFx10
import Derived.Test.YtmjdnkiohdkfpaaDoorPFx16
import Derived.Test.YtmjdnkiohdkfpaaDoorPFx17
import Derived.Test.YtmjdnkiohdkfpaaDoorPFx19
namespace Go.Proofs.YtmjdnkiohdkfpaaDoor.PF
open Go.RowKit Go.Proofs.YtmjdnkiohdkfpaaDoorW.PrintWords Go.Proofs.YtmjdnkiohdkfpaaDoorW.PrintLast Go.Proofs.YtmjdnkiohdkfpaaDoorW.PrintMore
set_option maxHeartbeats 8000000
set_option maxRecDepth 100000
attribute [local go_sem] max2_int min2_int max_two min_two max_three min_three max_four min_four
set_option linter.unusedVariables false
set_option linter.unusedSimpArgs false

/-! ### lamplighterlaw11_AcceptCodes: function 6 -/
mutual
def lamplighterlaw11_AcceptCodes.l0 : Nat→ByteArray→ByteArray→Bool→List ByteArray→Int→Int→Option (Bool)
 | 0,_,_,_,_,_,_=>none
 | k + 1,x0,x1,x2,x22,x23,x24=>if x24 < x23 then (if 0≤x24 then (if x24 < (x22.length : Int) then (if ((rdOf ByteArray.empty x22 x24).size : Int) > 100 then ((lamplighterlaw11_alive.f k).bind fun t321=>(some t321)) else (lamplighterlaw11_AcceptCodes.l1 k x0 x1 x2 (rdOf ByteArray.empty x22 x24) x22 x23 x24 ((rdOf ByteArray.empty x22 x24).size : Int) 0)) else (none)) else (none)) else (if x2=true then (lamplighterlaw11_AcceptCodes.j2 k x0 x1 x2 (⟨#[55]⟩ : ByteArray)) else (lamplighterlaw11_AcceptCodes.j2 k x0 x1 x2 (⟨#[]⟩ : ByteArray)))
def lamplighterlaw11_AcceptCodes.l1 : Nat→ByteArray→ByteArray→Bool→ByteArray→List ByteArray→Int→Int→Int→Int→Option (Bool)
 | 0,_,_,_,_,_,_,_,_,_=>none
 | k + 1,x0,x1,x2,x8,x22,x23,x24,x33,x34=>if x34 < x33 then (if 0≤x34 then (if x34 < (x8.size : Int) then (if (bt x8 x34)=124 then ((lamplighterlaw11_alive.f k).bind fun t322=>(some t322)) else (if (bt x8 x34)=13 then ((lamplighterlaw11_alive.f k).bind fun t323=>(some t323)) else (if (bt x8 x34)=28 then ((lamplighterlaw11_alive.f k).bind fun t324=>(some t324)) else (if (bt x8 x34)=11 then ((lamplighterlaw11_alive.f k).bind fun t325=>(some t325)) else (if (bt x8 x34)=94 then ((lamplighterlaw11_alive.f k).bind fun t326=>(some t326)) else (if (bt x8 x34)=126 then ((lamplighterlaw11_alive.f k).bind fun t327=>(some t327)) else (lamplighterlaw11_AcceptCodes.l1 k x0 x1 x2 x8 x22 x23 x24 x33 (wrap64 (x34 + 1))))))))) else (none)) else (none)) else (lamplighterlaw11_AcceptCodes.l0 k x0 x1 x2 x22 x23 (wrap64 (x24 + 1)))
def lamplighterlaw11_AcceptCodes.j2 : Nat→ByteArray→ByteArray→Bool→ByteArray→Option (Bool)
 | 0,_,_,_,_=>none
 | k + 1,x0,x1,x2,x11=>if 19 + x11.size≤9223372036854775807 then (if ((⟨#[77,83,72,124,94,126,92,38,124,124,124,124,124,124,124,65,68,84,124]⟩ : ByteArray) ++ x11).size + 1≤9223372036854775807 then (if (((⟨#[77,83,72,124,94,126,92,38,124,124,124,124,124,124,124,65,68,84,124]⟩ : ByteArray) ++ x11) ++ (⟨#[124]⟩ : ByteArray)).size + x1.size≤9223372036854775807 then (if ((((⟨#[77,83,72,124,94,126,92,38,124,124,124,124,124,124,124,65,68,84,124]⟩ : ByteArray) ++ x11) ++ (⟨#[124]⟩ : ByteArray)) ++ x1).size + 1≤9223372036854775807 then (if (((((⟨#[77,83,72,124,94,126,92,38,124,124,124,124,124,124,124,65,68,84,124]⟩ : ByteArray) ++ x11) ++ (⟨#[124]⟩ : ByteArray)) ++ x1) ++ (⟨#[124]⟩ : ByteArray)).size + x0.size≤9223372036854775807 then (if ((((((⟨#[77,83,72,124,94,126,92,38,124,124,124,124,124,124,124,65,68,84,124]⟩ : ByteArray) ++ x11) ++ (⟨#[124]⟩ : ByteArray)) ++ x1) ++ (⟨#[124]⟩ : ByteArray)) ++ x0).size + 1≤9223372036854775807 then ((cv_str.f (((((((⟨#[77,83,72,124,94,126,92,38,124,124,124,124,124,124,124,65,68,84,124]⟩ : ByteArray) ++ x11) ++ (⟨#[124]⟩ : ByteArray)) ++ x1) ++ (⟨#[124]⟩ : ByteArray)) ++ x0) ++ (⟨#[13]⟩ : ByteArray))).bind fun t328=>((msh_Versions.f).bind fun t331=>(lamplighterlaw11_AcceptCodes.l2 k x0 x1 x2 t328 false t331 (t331.length : Int) 0))) else (none)) else (none)) else (none)) else (none)) else (none)) else (none)
def lamplighterlaw11_AcceptCodes.l2 : Nat→ByteArray→ByteArray→Bool→List Int→Bool→List ByteArray→Int→Int→Option (Bool)
 | 0,_,_,_,_,_,_,_,_=>none
 | k + 1,x0,x1,x2,x12,x13,x76,x77,x78=>if x78 < x77 then (if 0≤x78 then (if x78 < (x76.length : Int) then (if x13=true then (lamplighterlaw11_AcceptCodes.l2 k x0 x1 x2 x12 true x76 x77 (wrap64 (x78 + 1))) else (lamplighterlaw11_AcceptCodes.l2 k x0 x1 x2 x12 ((rdOf ByteArray.empty x76 x78).toList == x0.toList) x76 x77 (wrap64 (x78 + 1)))) else (none)) else (none)) else (if x2=true then (if x13=true then (if x1.toList=([80] : List UInt8) then (lamplighterlaw11_AcceptCodes.j4 k x12 (⟨#[65,65]⟩ : ByteArray) false) else (if x1.toList=([68] : List UInt8) then (lamplighterlaw11_AcceptCodes.j4 k x12 (⟨#[65,65]⟩ : ByteArray) false) else (lamplighterlaw11_AcceptCodes.j4 k x12 (⟨#[65,65]⟩ : ByteArray) (x1.toList != ([84] : List UInt8))))) else (lamplighterlaw11_AcceptCodes.j4 k x12 (⟨#[65,65]⟩ : ByteArray) true)) else ((accept_Verdict.f k x12).bind fun bt375=>((lamplighterlaw11_alive.f k).bind fun t393=>(if t393=true then (if bt375.2.2.2.2.2.2.2.2.2.2.2.2.2.2.2.1.toList=([65,69] : List UInt8) then ((accept_Stored.f k x12).bind fun t394=>(some (t394 == (([65,69] : List UInt8) == ([65,65] : List UInt8))))) else (some false)) else (some false)))))
def lamplighterlaw11_AcceptCodes.j4 : Nat→List Int→ByteArray→Bool→Option (Bool)
 | 0,_,_,_=>none
 | k + 1,x12,x16,x92=>if x92=true then ((accept_Verdict.f k x12).bind fun bt335=>((lamplighterlaw11_alive.f k).bind fun t353=>(if t353=true then (if bt335.2.2.2.2.2.2.2.2.2.2.2.2.2.2.2.1.toList=([65,82] : List UInt8) then ((accept_Stored.f k x12).bind fun t354=>(some (t354 == (([65,82] : List UInt8) == ([65,65] : List UInt8))))) else (some false)) else (some false)))) else ((accept_Verdict.f k x12).bind fun bt355=>((lamplighterlaw11_alive.f k).bind fun t373=>(if t373=true then (if bt355.2.2.2.2.2.2.2.2.2.2.2.2.2.2.2.1.toList=x16.toList then ((accept_Stored.f k x12).bind fun t374=>(some (t374 == (x16.toList == ([65,65] : List UInt8))))) else (some false)) else (some false))))
end
def lamplighterlaw11_AcceptCodes.f (k : Nat) (a0 : ByteArray) (a1 : ByteArray) (a2 : Bool) : Option (Bool):=(some (([a0,a1] : List ByteArray) : List ByteArray)).bind fun y317=>(lamplighterlaw11_AcceptCodes.l0 k a0 a1 a2 y317 (y317.length : Int) 0)
theorem lamplighterlaw11_AcceptCodes.mono_l : ∀ k,(∀ y0 y1 y2 y3 y4 y5,LeO (lamplighterlaw11_AcceptCodes.l0 k y0 y1 y2 y3 y4 y5) (lamplighterlaw11_AcceptCodes.l0 (k + 1) y0 y1 y2 y3 y4 y5))∧(∀ y0 y1 y2 y3 y4 y5 y6 y7 y8,LeO (lamplighterlaw11_AcceptCodes.l1 k y0 y1 y2 y3 y4 y5 y6 y7 y8) (lamplighterlaw11_AcceptCodes.l1 (k + 1) y0 y1 y2 y3 y4 y5 y6 y7 y8))∧(∀ y0 y1 y2 y3,LeO (lamplighterlaw11_AcceptCodes.j2 k y0 y1 y2 y3) (lamplighterlaw11_AcceptCodes.j2 (k + 1) y0 y1 y2 y3))∧(∀ y0 y1 y2 y3 y4 y5 y6 y7,LeO (lamplighterlaw11_AcceptCodes.l2 k y0 y1 y2 y3 y4 y5 y6 y7) (lamplighterlaw11_AcceptCodes.l2 (k + 1) y0 y1 y2 y3 y4 y5 y6 y7))∧(∀ y0 y1 y2,LeO (lamplighterlaw11_AcceptCodes.j4 k y0 y1 y2) (lamplighterlaw11_AcceptCodes.j4 (k + 1) y0 y1 y2))
 | 0=>⟨fun _ _ _ _ _ _ r h=>by simp [lamplighterlaw11_AcceptCodes.l0] at h,fun _ _ _ _ _ _ _ _ _ r h=>by simp [lamplighterlaw11_AcceptCodes.l1] at h,fun _ _ _ _ r h=>by simp [lamplighterlaw11_AcceptCodes.j2] at h,fun _ _ _ _ _ _ _ _ r h=>by simp [lamplighterlaw11_AcceptCodes.l2] at h,fun _ _ _ r h=>by simp [lamplighterlaw11_AcceptCodes.j4] at h⟩
 | k + 1=>by
  obtain ⟨ih0,ih1,ih2,ih3,ih4⟩:=lamplighterlaw11_AcceptCodes.mono_l k
  refine ⟨?_,?_,?_,?_,?_⟩
  ·intro y0 y1 y2 y3 y4 y5
   unfold lamplighterlaw11_AcceptCodes.l0
   repeat' first
   | (with_reducible exact ih0 _ _ _ _ _ _)
   | (with_reducible exact ih1 _ _ _ _ _ _ _ _ _)
   | (with_reducible exact ih2 _ _ _ _)
   | (with_reducible exact ih3 _ _ _ _ _ _ _ _)
   | (with_reducible exact ih4 _ _ _)
   | (with_reducible exact accept_Stored.mono _ _)
   | (with_reducible exact accept_Verdict.mono _ _)
   | (with_reducible exact lamplighterlaw11_alive.mono _)
   | (with_reducible exact LeO.refl _)
   | (with_reducible exact LeO.none _)
   | (with_reducible refine LeO.ite ?_ ?_)
   | (with_reducible refine LeO.bind ?_ (fun _=>?_))
   | exact ih0 _ _ _ _ _ _
   | exact ih1 _ _ _ _ _ _ _ _ _
   | exact ih2 _ _ _ _
   | exact ih3 _ _ _ _ _ _ _ _
   | exact ih4 _ _ _
   | exact accept_Stored.mono _ _
   | exact accept_Verdict.mono _ _
   | exact lamplighterlaw11_alive.mono _
   | exact LeO.none _
   | refine LeO.ite ?_ ?_
   | refine LeO.bind ?_ (fun _=>?_)
  ·intro y0 y1 y2 y3 y4 y5 y6 y7 y8
   unfold lamplighterlaw11_AcceptCodes.l1
   repeat' first
   | (with_reducible exact ih0 _ _ _ _ _ _)
   | (with_reducible exact ih1 _ _ _ _ _ _ _ _ _)
   | (with_reducible exact ih2 _ _ _ _)
   | (with_reducible exact ih3 _ _ _ _ _ _ _ _)
   | (with_reducible exact ih4 _ _ _)
   | (with_reducible exact accept_Stored.mono _ _)
   | (with_reducible exact accept_Verdict.mono _ _)
   | (with_reducible exact lamplighterlaw11_alive.mono _)
   | (with_reducible exact LeO.refl _)
   | (with_reducible exact LeO.none _)
   | (with_reducible refine LeO.ite ?_ ?_)
   | (with_reducible refine LeO.bind ?_ (fun _=>?_))
   | exact ih0 _ _ _ _ _ _
   | exact ih1 _ _ _ _ _ _ _ _ _
   | exact ih2 _ _ _ _
   | exact ih3 _ _ _ _ _ _ _ _
   | exact ih4 _ _ _
   | exact accept_Stored.mono _ _
   | exact accept_Verdict.mono _ _
   | exact lamplighterlaw11_alive.mono _
   | exact LeO.none _
   | refine LeO.ite ?_ ?_
   | refine LeO.bind ?_ (fun _=>?_)
  ·intro y0 y1 y2 y3
   unfold lamplighterlaw11_AcceptCodes.j2
   repeat' first
   | (with_reducible exact ih0 _ _ _ _ _ _)
   | (with_reducible exact ih1 _ _ _ _ _ _ _ _ _)
   | (with_reducible exact ih2 _ _ _ _)
   | (with_reducible exact ih3 _ _ _ _ _ _ _ _)
   | (with_reducible exact ih4 _ _ _)
   | (with_reducible exact accept_Stored.mono _ _)
   | (with_reducible exact accept_Verdict.mono _ _)
   | (with_reducible exact lamplighterlaw11_alive.mono _)
   | (with_reducible exact LeO.refl _)
   | (with_reducible exact LeO.none _)
   | (with_reducible refine LeO.ite ?_ ?_)
   | (with_reducible refine LeO.bind ?_ (fun _=>?_))
   | exact ih0 _ _ _ _ _ _
   | exact ih1 _ _ _ _ _ _ _ _ _
   | exact ih2 _ _ _ _
   | exact ih3 _ _ _ _ _ _ _ _
   | exact ih4 _ _ _
   | exact accept_Stored.mono _ _
   | exact accept_Verdict.mono _ _
   | exact lamplighterlaw11_alive.mono _
   | exact LeO.none _
   | refine LeO.ite ?_ ?_
   | refine LeO.bind ?_ (fun _=>?_)
  ·intro y0 y1 y2 y3 y4 y5 y6 y7
   unfold lamplighterlaw11_AcceptCodes.l2
   repeat' first
   | (with_reducible exact ih0 _ _ _ _ _ _)
   | (with_reducible exact ih1 _ _ _ _ _ _ _ _ _)
   | (with_reducible exact ih2 _ _ _ _)
   | (with_reducible exact ih3 _ _ _ _ _ _ _ _)
   | (with_reducible exact ih4 _ _ _)
   | (with_reducible exact accept_Stored.mono _ _)
   | (with_reducible exact accept_Verdict.mono _ _)
   | (with_reducible exact lamplighterlaw11_alive.mono _)
   | (with_reducible exact LeO.refl _)
   | (with_reducible exact LeO.none _)
   | (with_reducible refine LeO.ite ?_ ?_)
   | (with_reducible refine LeO.bind ?_ (fun _=>?_))
   | exact ih0 _ _ _ _ _ _
   | exact ih1 _ _ _ _ _ _ _ _ _
   | exact ih2 _ _ _ _
   | exact ih3 _ _ _ _ _ _ _ _
   | exact ih4 _ _ _
   | exact accept_Stored.mono _ _
   | exact accept_Verdict.mono _ _
   | exact lamplighterlaw11_alive.mono _
   | exact LeO.none _
   | refine LeO.ite ?_ ?_
   | refine LeO.bind ?_ (fun _=>?_)
  ·intro y0 y1 y2
   unfold lamplighterlaw11_AcceptCodes.j4
   repeat' first
   | (with_reducible exact ih0 _ _ _ _ _ _)
   | (with_reducible exact ih1 _ _ _ _ _ _ _ _ _)
   | (with_reducible exact ih2 _ _ _ _)
   | (with_reducible exact ih3 _ _ _ _ _ _ _ _)
   | (with_reducible exact ih4 _ _ _)
   | (with_reducible exact accept_Stored.mono _ _)
   | (with_reducible exact accept_Verdict.mono _ _)
   | (with_reducible exact lamplighterlaw11_alive.mono _)
   | (with_reducible exact LeO.refl _)
   | (with_reducible exact LeO.none _)
   | (with_reducible refine LeO.ite ?_ ?_)
   | (with_reducible refine LeO.bind ?_ (fun _=>?_))
   | exact ih0 _ _ _ _ _ _
   | exact ih1 _ _ _ _ _ _ _ _ _
   | exact ih2 _ _ _ _
   | exact ih3 _ _ _ _ _ _ _ _
   | exact ih4 _ _ _
   | exact accept_Stored.mono _ _
   | exact accept_Verdict.mono _ _
   | exact lamplighterlaw11_alive.mono _
   | exact LeO.none _
   | refine LeO.ite ?_ ?_
   | refine LeO.bind ?_ (fun _=>?_)
theorem lamplighterlaw11_AcceptCodes.mono : ∀ a0 a1 a2 k,LeO (lamplighterlaw11_AcceptCodes.f k a0 a1 a2) (lamplighterlaw11_AcceptCodes.f (k + 1) a0 a1 a2):=by
 intro a0 a1 a2 k
 obtain ⟨ih0,ih1,ih2,ih3,ih4⟩:=lamplighterlaw11_AcceptCodes.mono_l k
 unfold lamplighterlaw11_AcceptCodes.f
 repeat' first
   | (with_reducible exact ih0 _ _ _ _ _ _)
   | (with_reducible exact ih1 _ _ _ _ _ _ _ _ _)
   | (with_reducible exact ih2 _ _ _ _)
   | (with_reducible exact ih3 _ _ _ _ _ _ _ _)
   | (with_reducible exact ih4 _ _ _)
   | (with_reducible exact accept_Stored.mono _ _)
   | (with_reducible exact accept_Verdict.mono _ _)
   | (with_reducible exact lamplighterlaw11_alive.mono _)
   | (with_reducible exact LeO.refl _)
   | (with_reducible exact LeO.none _)
   | (with_reducible refine LeO.ite ?_ ?_)
   | (with_reducible refine LeO.bind ?_ (fun _=>?_))
   | exact ih0 _ _ _ _ _ _
   | exact ih1 _ _ _ _ _ _ _ _ _
   | exact ih2 _ _ _ _
   | exact ih3 _ _ _ _ _ _ _ _
   | exact ih4 _ _ _
   | exact accept_Stored.mono _ _
   | exact accept_Verdict.mono _ _
   | exact lamplighterlaw11_alive.mono _
   | exact LeO.none _
   | refine LeO.ite ?_ ?_
   | refine LeO.bind ?_ (fun _=>?_)
theorem lamplighterlaw11_AcceptCodes.calls (k : Nat) (a0 : ByteArray) (a1 : ByteArray) (a2 : Bool) (r : Bool) (w : World) (h : lamplighterlaw11_AcceptCodes.f k a0 a1 a2=some r) (hrt : r=true) (hG : GlobOK w) (hGC : GlobC w) (hGE : GlobE w) :
  Calls Tryd.prog 6 #[.string a0, .string a1, .bool a2] w fun e w'=>e = .returned (.bool r)∧Below w.heap.size w w':=by
 have HGLOB:=Lib.hid hG
 clear hG
 have HGLOC:=Lib.hid hGC
 clear hGC
 have HGLOE:=Lib.hid hGE
 clear hGE
 have hu25:=Tryd.underlying25
 have HB:=Aside0.mk (Below.refl w.heap.size w)
 have H : ((some (([a0,a1] : List ByteArray) : List ByteArray)).bind fun y317=>(lamplighterlaw11_AcceptCodes.l0 k a0 a1 a2 y317 (y317.length : Int) 0))=some r:=h
 clear h
 obtain ⟨y317,hy317⟩ : ∃ y_ : List ByteArray,y_=(([a0,a1] : List ByteArray)):=⟨_,rfl⟩
 replace H : (lamplighterlaw11_AcceptCodes.l0 k a0 a1 a2 y317 (y317.length : Int) 0)=some r:=by first | (rw [hy317]; with_reducible exact H) | (have H2_:=(Option.bind_some _ _).symm.trans H; rw [hy317]; with_reducible exact H2_) | (have H2_:=(Option.bind_some _ _).symm.trans H; with_reducible exact H2_) | with_reducible exact H | (rw [hy317]; exact H) | exact H
 have Ny317:=Aside0.mk hy317
 clear hy317
 have H':=Aside0.mk H
 clear H
 go_enter Tryd.func6,Tryd.ntmps6
 go_wp2_with (first | ((with_reducible refine gate_dst (N:=22) rfl ?_); refine Kd.R_lit Kd.string _ 9 ?hg (N:=22) ?hd (xs:=([a0,a1] : List ByteArray)) (inner:=[.string a0, .string a1]) (ok:=fun _=>True) (okp:=fun _=>True) ?hr ?hp (fun _ hk=>hk) trivial (Below.refl _ _) (Nat.le_refl _) (by simp) ?_; (case hd=>rfl); (case hg=>rfl); (case hr=>first | (go_simp; done) | (go_simp; rfl)); (case hp=>exact (Reps.one (show Kd.M Kd.string _ _ _ a0 [.string a0] from rfl) (Reps.one (show Kd.M Kd.string _ _ _ a1 [.string a1] from rfl) (Reps.none _ _)))); intro v318 w4 ho5 hb hg_ hnew_; clear hg_ hnew_; (first | rw [← Ny317.out] at ho5 | (simp only [Int.reduceToNat] at ho5; rw [← Ny317.out] at ho5)); have n0_:=Aside0.mk (Kd.R_lower ho5 (below_size (by repeat (first | (with_reducible first | exact HB.out | apply bA | apply bN | apply bD) | exact HB.out)))); have n1_:=Aside0.mk (below_step (by repeat (first | (with_reducible first | exact HB.out | apply bA | apply bN | apply bD) | exact HB.out)) hb); clear HB; have HO319:=n0_; have HB:=n1_; clear n0_ n1_; clear hb ho5; obtain ⟨Ao6,co6,eo6⟩:=Kd.R_slice HO319.out; subst eo6))
 go_loopg [24] k (fun kq v24 w' => ∃ (x24_1 : Int),v24 = .int .i64 x24_1∧Aside0 (lamplighterlaw11_AcceptCodes.l0 kq a0 a1 a2 y317 (y317.length : Int) x24_1=some r)∧Aside0 (kq≤k)∧Aside0 (Kd.R Kd.string 9 w' w.heap.size (fun _=>True) (.slice Ao6 y317.length co6) y317)∧Aside0 (Below w.heap.size w w'))
 case atStart=>exact ⟨(0),(by first | rfl | (simp; done) | (simp [*]; done)),H',⟨Nat.le_refl _⟩,⟨by (with_reducible repeat (first | apply Kd.R_alloc | apply Kd.R_drewN | apply Kd.R_drew)); exact HO319.out⟩,⟨by repeat (first | (with_reducible first | exact HB.out | apply bA | apply bN | apply bD) | exact HB.out)⟩⟩
 case round =>
  clear H'
  try clear p2
  try clear c6
  obtain ⟨x24_1,rfl,HA,HK1,HO_22,HB⟩:=hrel
  cases gk with
  | zero=>exact absurd HA.out (by simp [lamplighterlaw11_AcceptCodes.l0])
  | succ k1 =>
   have H:=HA.out
   clear HA
   simp only [lamplighterlaw11_AcceptCodes.l0] at H
   by_cases c7 : x24_1 < (y317.length : Int)
   ·rw [if_pos c7] at H
    have c7b0:decide (x24_1 < (y317.length : Int))=true:=decide_eq_true c7
    clear c7
    by_cases c8 : 0≤x24_1
    ·rw [if_pos c8] at H
     have c8b0:decide (0≤x24_1)=true:=decide_eq_true c8
     clear c8
     by_cases c9 : x24_1 < (y317.length : Int)
     ·rw [if_pos c9] at H
      have c9b0:decide (x24_1 < (y317.length : Int))=true:=decide_eq_true c9
      clear c9
      by_cases c10 : ((rdOf ByteArray.empty y317 x24_1).size : Int) > 100
      ·rw [if_pos c10] at H
       have c10b0:decide (100 < ((rdOf ByteArray.empty y317 x24_1).size : Int))=true:=decide_eq_true c10
       have c10b1:decide (100 < (rdOf ByteArray.empty y317 x24_1).size)=true:=decide_eq_true (by omega)
       clear c10
       replace H:=Option.bind_eq_some_iff.mp H
       obtain ⟨t321,A110,H⟩:=H
       replace H : (some t321)=some r:=H
       have A11:=Aside0.mk A110
       clear A110
       obtain rfl:=Option.some.inj H
       clear hrt
       have p320:0≤(x24_1 : Int):=of_decide_eq_true (by first | (with_reducible assumption) | assumption)
       have q320:x24_1 < (y317.length : Int):=of_decide_eq_true (by first | (with_reducible assumption) | assumption)
       obtain ⟨ad320,e320,hx320_0⟩:=Kd.at_string (Kd.R_reads' HO_22.out).2.2 x24_1 p320 q320
       cases e320
       replace p320:=eq_true p320
       replace q320:=eq_true q320
       go_wp2_with (first | ((with_reducible refine gate_callee (f:=9) rfl ?_); refine goesL_ (some 31) rfl rfl Tryd.func9 (by kernel_rfl) rfl #[] rfl (by (try simp only [List.map_toArray,List.map_cons,List.map_nil]); first | done | rfl | (simp only [List.length_drop,List.length_take]; rfl)) ?_; (with_reducible refine (lamplighterlaw11_alive.calls k1  t321 _ A11.out (glob_below HGLOB.out (by repeat (first | (with_reducible first | exact HB.out | apply bA | apply bN | apply bD) | exact HB.out))) (globc_below HGLOC.out (by repeat (first | (with_reducible first | exact HB.out | apply bA | apply bN | apply bD) | exact HB.out))) (globe_below HGLOE.out (by repeat (first | (with_reducible first | exact HB.out | apply bA | apply bN | apply bD) | exact HB.out)))).mono ?_); rintro e w12 ⟨rfl,hb⟩; refine ⟨_,rfl,?_⟩; have n0_:=Aside0.mk (Kd.R_below (by (with_reducible repeat (first | apply Kd.R_alloc | apply Kd.R_drewN | apply Kd.R_drew)); exact HO_22.out) hb); have n1_:=Aside0.mk (below_step (by repeat (first | (with_reducible first | exact HB.out | apply bA | apply bN | apply bD) | exact HB.out)) hb); clear HO_22; clear HB; have HO_22:=n0_; have HB:=n1_; clear n0_ n1_; (try clear hb)))
       go_ret
       exact ⟨by first | rfl | (simp [errW_none,errW_some] <;> rfl) | (simp [*,errW_none,errW_some] <;> rfl),by repeat (first | (with_reducible first | exact HB.out | apply bA | apply bN | apply bD) | exact HB.out)⟩
      ·rw [if_neg c10] at H
       have c10b0:decide (100 < ((rdOf ByteArray.empty y317 x24_1).size : Int))=false:=decide_eq_false c10
       have c10b1:decide (100 < (rdOf ByteArray.empty y317 x24_1).size)=false:=decide_eq_false (by omega)
       clear c10
       have H':=Aside0.mk H
       clear H
       have p320:0≤(x24_1 : Int):=of_decide_eq_true (by first | (with_reducible assumption) | assumption)
       have q320:x24_1 < (y317.length : Int):=of_decide_eq_true (by first | (with_reducible assumption) | assumption)
       obtain ⟨ad320,e320,hx320_0⟩:=Kd.at_string (Kd.R_reads' HO_22.out).2.2 x24_1 p320 q320
       cases e320
       replace p320:=eq_true p320
       replace q320:=eq_true q320
       go_wp2
       go_loopg [34] k1 (fun kq v34 w' => ∃ (x34_2 : Int),v34 = .int .i64 x34_2∧Aside0 (lamplighterlaw11_AcceptCodes.l1 kq a0 a1 a2 (rdOf ByteArray.empty y317 x24_1) y317 (y317.length : Int) x24_1 ((rdOf ByteArray.empty y317 x24_1).size : Int) x34_2=some r)∧Aside0 (kq≤k1)∧Aside0 (Kd.R Kd.string 9 w' w.heap.size (fun _=>True) (.slice (some ad320) y317.length co6) y317)∧Aside0 (Below w.heap.size w w'))
       case atStart=>exact ⟨(0),(by first | rfl | (simp; done) | (simp [*]; done)),H',⟨Nat.le_refl _⟩,⟨by (with_reducible repeat (first | apply Kd.R_alloc | apply Kd.R_drewN | apply Kd.R_drew)); exact HO_22.out⟩,⟨by repeat (first | (with_reducible first | exact HB.out | apply bA | apply bN | apply bD) | exact HB.out)⟩⟩
       case round =>
        clear H'
        try clear c1
        try clear p2
        try clear p3
        try clear q3
        try clear hx3
        try clear c6
        try clear c7
        try clear c7b0
        try clear c8
        try clear c8b0
        try clear c9
        try clear c9b0
        try clear c10
        try clear c10b0
        try clear c10b1
        try clear hx320_0
        try clear p2
        try clear p320
        try clear q320
        obtain ⟨x34_2,rfl,HA,HK2,HO_22,HB⟩:=hrel
        cases gk with
        | zero=>exact absurd HA.out (by simp [lamplighterlaw11_AcceptCodes.l1])
        | succ k2 =>
         have H:=HA.out
         clear HA
         simp only [lamplighterlaw11_AcceptCodes.l1] at H
         by_cases c13 : x34_2 < ((rdOf ByteArray.empty y317 x24_1).size : Int)
         ·rw [if_pos c13] at H
          have c13b0:decide (x34_2 < ((rdOf ByteArray.empty y317 x24_1).size : Int))=true:=decide_eq_true c13
          clear c13
          by_cases c14 : 0≤x34_2
          ·rw [if_pos c14] at H
           have c14b0:decide (0≤x34_2)=true:=decide_eq_true c14
           clear c14
           by_cases c15 : x34_2 < ((rdOf ByteArray.empty y317 x24_1).size : Int)
           ·rw [if_pos c15] at H
            have c15b0:decide (x34_2 < ((rdOf ByteArray.empty y317 x24_1).size : Int))=true:=decide_eq_true c15
            clear c15
            by_cases c17 : (bt (rdOf ByteArray.empty y317 x24_1) x34_2)=124
            ·rw [if_pos c17] at H
             have c17b0 : ((bt (rdOf ByteArray.empty y317 x24_1) x34_2) == 124)=true:=beq_iff_eq.mpr c17
             have c17b1 : ((bt (rdOf ByteArray.empty y317 x24_1) x34_2) != 124)=false:=bne_eq_false_iff_eq.mpr c17
             clear c17
             replace H:=Option.bind_eq_some_iff.mp H
             obtain ⟨t322,A180,H⟩:=H
             replace H : (some t322)=some r:=H
             have A18:=Aside0.mk A180
             clear A180
             obtain rfl:=Option.some.inj H
             clear hrt
             have p16:0≤(x34_2 : Int):=of_decide_eq_true (by first | (with_reducible assumption) | assumption)
             have q16:x34_2 < ((rdOf ByteArray.empty y317 x24_1).size : Int):=of_decide_eq_true (by first | (with_reducible assumption) | assumption)
             have hx16:=bt_at (rdOf ByteArray.empty y317 x24_1) x34_2
             replace p16:=eq_true p16
             replace q16:=eq_true q16
             go_wp2_with (first | ((with_reducible refine gate_callee (f:=9) rfl ?_); refine goesL_ (some 62) rfl rfl Tryd.func9 (by kernel_rfl) rfl #[] rfl (by (try simp only [List.map_toArray,List.map_cons,List.map_nil]); first | done | rfl | (simp only [List.length_drop,List.length_take]; rfl)) ?_; (with_reducible refine (lamplighterlaw11_alive.calls k2  t322 _ A18.out (glob_below HGLOB.out (by repeat (first | (with_reducible first | exact HB.out | apply bA | apply bN | apply bD) | exact HB.out))) (globc_below HGLOC.out (by repeat (first | (with_reducible first | exact HB.out | apply bA | apply bN | apply bD) | exact HB.out))) (globe_below HGLOE.out (by repeat (first | (with_reducible first | exact HB.out | apply bA | apply bN | apply bD) | exact HB.out)))).mono ?_); rintro e w19 ⟨rfl,hb⟩; refine ⟨_,rfl,?_⟩; have n0_:=Aside0.mk (Kd.R_below (by (with_reducible repeat (first | apply Kd.R_alloc | apply Kd.R_drewN | apply Kd.R_drew)); exact HO_22.out) hb); have n1_:=Aside0.mk (below_step (by repeat (first | (with_reducible first | exact HB.out | apply bA | apply bN | apply bD) | exact HB.out)) hb); clear HO_22; clear HB; have HO_22:=n0_; have HB:=n1_; clear n0_ n1_; (try clear hb)))
             go_ret
             exact ⟨by first | rfl | (simp [errW_none,errW_some] <;> rfl) | (simp [*,errW_none,errW_some] <;> rfl),by repeat (first | (with_reducible first | exact HB.out | apply bA | apply bN | apply bD) | exact HB.out)⟩
            ·rw [if_neg c17] at H
             have c17b0 : ((bt (rdOf ByteArray.empty y317 x24_1) x34_2) == 124)=false:=beq_eq_false_iff_ne.mpr c17
             have c17b1 : ((bt (rdOf ByteArray.empty y317 x24_1) x34_2) != 124)=true:=bne_iff_ne.mpr c17
             by_cases c20 : (bt (rdOf ByteArray.empty y317 x24_1) x34_2)=13
             ·rw [if_pos c20] at H
              have c20b0 : ((bt (rdOf ByteArray.empty y317 x24_1) x34_2) == 13)=true:=beq_iff_eq.mpr c20
              have c20b1 : ((bt (rdOf ByteArray.empty y317 x24_1) x34_2) != 13)=false:=bne_eq_false_iff_eq.mpr c20
              clear c20
              replace H:=Option.bind_eq_some_iff.mp H
              obtain ⟨t323,A210,H⟩:=H
              replace H : (some t323)=some r:=H
              have A21:=Aside0.mk A210
              clear A210
              obtain rfl:=Option.some.inj H
              clear hrt
              have p16:0≤(x34_2 : Int):=of_decide_eq_true (by first | (with_reducible assumption) | assumption)
              have q16:x34_2 < ((rdOf ByteArray.empty y317 x24_1).size : Int):=of_decide_eq_true (by first | (with_reducible assumption) | assumption)
              have hx16:=bt_at (rdOf ByteArray.empty y317 x24_1) x34_2
              replace p16:=eq_true p16
              replace q16:=eq_true q16
              go_wp2_with (first | ((with_reducible refine gate_callee (f:=9) rfl ?_); refine goesL_ (some 62) rfl rfl Tryd.func9 (by kernel_rfl) rfl #[] rfl (by (try simp only [List.map_toArray,List.map_cons,List.map_nil]); first | done | rfl | (simp only [List.length_drop,List.length_take]; rfl)) ?_; (with_reducible refine (lamplighterlaw11_alive.calls k2  t323 _ A21.out (glob_below HGLOB.out (by repeat (first | (with_reducible first | exact HB.out | apply bA | apply bN | apply bD) | exact HB.out))) (globc_below HGLOC.out (by repeat (first | (with_reducible first | exact HB.out | apply bA | apply bN | apply bD) | exact HB.out))) (globe_below HGLOE.out (by repeat (first | (with_reducible first | exact HB.out | apply bA | apply bN | apply bD) | exact HB.out)))).mono ?_); rintro e w22 ⟨rfl,hb⟩; refine ⟨_,rfl,?_⟩; have n0_:=Aside0.mk (Kd.R_below (by (with_reducible repeat (first | apply Kd.R_alloc | apply Kd.R_drewN | apply Kd.R_drew)); exact HO_22.out) hb); have n1_:=Aside0.mk (below_step (by repeat (first | (with_reducible first | exact HB.out | apply bA | apply bN | apply bD) | exact HB.out)) hb); clear HO_22; clear HB; have HO_22:=n0_; have HB:=n1_; clear n0_ n1_; (try clear hb)))
              go_ret
              exact ⟨by first | rfl | (simp [errW_none,errW_some] <;> rfl) | (simp [*,errW_none,errW_some] <;> rfl),by repeat (first | (with_reducible first | exact HB.out | apply bA | apply bN | apply bD) | exact HB.out)⟩
             ·rw [if_neg c20] at H
              have c20b0 : ((bt (rdOf ByteArray.empty y317 x24_1) x34_2) == 13)=false:=beq_eq_false_iff_ne.mpr c20
              have c20b1 : ((bt (rdOf ByteArray.empty y317 x24_1) x34_2) != 13)=true:=bne_iff_ne.mpr c20
              by_cases c23 : (bt (rdOf ByteArray.empty y317 x24_1) x34_2)=28
              ·rw [if_pos c23] at H
               have c23b0 : ((bt (rdOf ByteArray.empty y317 x24_1) x34_2) == 28)=true:=beq_iff_eq.mpr c23
               have c23b1 : ((bt (rdOf ByteArray.empty y317 x24_1) x34_2) != 28)=false:=bne_eq_false_iff_eq.mpr c23
               clear c23
               replace H:=Option.bind_eq_some_iff.mp H
               obtain ⟨t324,A240,H⟩:=H
               replace H : (some t324)=some r:=H
               have A24:=Aside0.mk A240
               clear A240
               obtain rfl:=Option.some.inj H
               clear hrt
               have p16:0≤(x34_2 : Int):=of_decide_eq_true (by first | (with_reducible assumption) | assumption)
               have q16:x34_2 < ((rdOf ByteArray.empty y317 x24_1).size : Int):=of_decide_eq_true (by first | (with_reducible assumption) | assumption)
               have hx16:=bt_at (rdOf ByteArray.empty y317 x24_1) x34_2
               replace p16:=eq_true p16
               replace q16:=eq_true q16
               go_wp2_with (first | ((with_reducible refine gate_callee (f:=9) rfl ?_); refine goesL_ (some 62) rfl rfl Tryd.func9 (by kernel_rfl) rfl #[] rfl (by (try simp only [List.map_toArray,List.map_cons,List.map_nil]); first | done | rfl | (simp only [List.length_drop,List.length_take]; rfl)) ?_; (with_reducible refine (lamplighterlaw11_alive.calls k2  t324 _ A24.out (glob_below HGLOB.out (by repeat (first | (with_reducible first | exact HB.out | apply bA | apply bN | apply bD) | exact HB.out))) (globc_below HGLOC.out (by repeat (first | (with_reducible first | exact HB.out | apply bA | apply bN | apply bD) | exact HB.out))) (globe_below HGLOE.out (by repeat (first | (with_reducible first | exact HB.out | apply bA | apply bN | apply bD) | exact HB.out)))).mono ?_); rintro e w25 ⟨rfl,hb⟩; refine ⟨_,rfl,?_⟩; have n0_:=Aside0.mk (Kd.R_below (by (with_reducible repeat (first | apply Kd.R_alloc | apply Kd.R_drewN | apply Kd.R_drew)); exact HO_22.out) hb); have n1_:=Aside0.mk (below_step (by repeat (first | (with_reducible first | exact HB.out | apply bA | apply bN | apply bD) | exact HB.out)) hb); clear HO_22; clear HB; have HO_22:=n0_; have HB:=n1_; clear n0_ n1_; (try clear hb)))
               go_ret
               exact ⟨by first | rfl | (simp [errW_none,errW_some] <;> rfl) | (simp [*,errW_none,errW_some] <;> rfl),by repeat (first | (with_reducible first | exact HB.out | apply bA | apply bN | apply bD) | exact HB.out)⟩
              ·rw [if_neg c23] at H
               have c23b0 : ((bt (rdOf ByteArray.empty y317 x24_1) x34_2) == 28)=false:=beq_eq_false_iff_ne.mpr c23
               have c23b1 : ((bt (rdOf ByteArray.empty y317 x24_1) x34_2) != 28)=true:=bne_iff_ne.mpr c23
               by_cases c26 : (bt (rdOf ByteArray.empty y317 x24_1) x34_2)=11
               ·rw [if_pos c26] at H
                have c26b0 : ((bt (rdOf ByteArray.empty y317 x24_1) x34_2) == 11)=true:=beq_iff_eq.mpr c26
                have c26b1 : ((bt (rdOf ByteArray.empty y317 x24_1) x34_2) != 11)=false:=bne_eq_false_iff_eq.mpr c26
                clear c26
                replace H:=Option.bind_eq_some_iff.mp H
                obtain ⟨t325,A270,H⟩:=H
                replace H : (some t325)=some r:=H
                have A27:=Aside0.mk A270
                clear A270
                obtain rfl:=Option.some.inj H
                clear hrt
                have p16:0≤(x34_2 : Int):=of_decide_eq_true (by first | (with_reducible assumption) | assumption)
                have q16:x34_2 < ((rdOf ByteArray.empty y317 x24_1).size : Int):=of_decide_eq_true (by first | (with_reducible assumption) | assumption)
                have hx16:=bt_at (rdOf ByteArray.empty y317 x24_1) x34_2
                replace p16:=eq_true p16
                replace q16:=eq_true q16
                go_wp2_with (first | ((with_reducible refine gate_callee (f:=9) rfl ?_); refine goesL_ (some 62) rfl rfl Tryd.func9 (by kernel_rfl) rfl #[] rfl (by (try simp only [List.map_toArray,List.map_cons,List.map_nil]); first | done | rfl | (simp only [List.length_drop,List.length_take]; rfl)) ?_; (with_reducible refine (lamplighterlaw11_alive.calls k2  t325 _ A27.out (glob_below HGLOB.out (by repeat (first | (with_reducible first | exact HB.out | apply bA | apply bN | apply bD) | exact HB.out))) (globc_below HGLOC.out (by repeat (first | (with_reducible first | exact HB.out | apply bA | apply bN | apply bD) | exact HB.out))) (globe_below HGLOE.out (by repeat (first | (with_reducible first | exact HB.out | apply bA | apply bN | apply bD) | exact HB.out)))).mono ?_); rintro e w28 ⟨rfl,hb⟩; refine ⟨_,rfl,?_⟩; have n0_:=Aside0.mk (Kd.R_below (by (with_reducible repeat (first | apply Kd.R_alloc | apply Kd.R_drewN | apply Kd.R_drew)); exact HO_22.out) hb); have n1_:=Aside0.mk (below_step (by repeat (first | (with_reducible first | exact HB.out | apply bA | apply bN | apply bD) | exact HB.out)) hb); clear HO_22; clear HB; have HO_22:=n0_; have HB:=n1_; clear n0_ n1_; (try clear hb)))
                go_ret
                exact ⟨by first | rfl | (simp [errW_none,errW_some] <;> rfl) | (simp [*,errW_none,errW_some] <;> rfl),by repeat (first | (with_reducible first | exact HB.out | apply bA | apply bN | apply bD) | exact HB.out)⟩
               ·rw [if_neg c26] at H
                have c26b0 : ((bt (rdOf ByteArray.empty y317 x24_1) x34_2) == 11)=false:=beq_eq_false_iff_ne.mpr c26
                have c26b1 : ((bt (rdOf ByteArray.empty y317 x24_1) x34_2) != 11)=true:=bne_iff_ne.mpr c26
                by_cases c29 : (bt (rdOf ByteArray.empty y317 x24_1) x34_2)=94
                ·rw [if_pos c29] at H
                 have c29b0 : ((bt (rdOf ByteArray.empty y317 x24_1) x34_2) == 94)=true:=beq_iff_eq.mpr c29
                 have c29b1 : ((bt (rdOf ByteArray.empty y317 x24_1) x34_2) != 94)=false:=bne_eq_false_iff_eq.mpr c29
                 clear c29
                 replace H:=Option.bind_eq_some_iff.mp H
                 obtain ⟨t326,A300,H⟩:=H
                 replace H : (some t326)=some r:=H
                 have A30:=Aside0.mk A300
                 clear A300
                 obtain rfl:=Option.some.inj H
                 clear hrt
                 have p16:0≤(x34_2 : Int):=of_decide_eq_true (by first | (with_reducible assumption) | assumption)
                 have q16:x34_2 < ((rdOf ByteArray.empty y317 x24_1).size : Int):=of_decide_eq_true (by first | (with_reducible assumption) | assumption)
                 have hx16:=bt_at (rdOf ByteArray.empty y317 x24_1) x34_2
                 replace p16:=eq_true p16
                 replace q16:=eq_true q16
                 go_wp2_with (first | ((with_reducible refine gate_callee (f:=9) rfl ?_); refine goesL_ (some 62) rfl rfl Tryd.func9 (by kernel_rfl) rfl #[] rfl (by (try simp only [List.map_toArray,List.map_cons,List.map_nil]); first | done | rfl | (simp only [List.length_drop,List.length_take]; rfl)) ?_; (with_reducible refine (lamplighterlaw11_alive.calls k2  t326 _ A30.out (glob_below HGLOB.out (by repeat (first | (with_reducible first | exact HB.out | apply bA | apply bN | apply bD) | exact HB.out))) (globc_below HGLOC.out (by repeat (first | (with_reducible first | exact HB.out | apply bA | apply bN | apply bD) | exact HB.out))) (globe_below HGLOE.out (by repeat (first | (with_reducible first | exact HB.out | apply bA | apply bN | apply bD) | exact HB.out)))).mono ?_); rintro e w31 ⟨rfl,hb⟩; refine ⟨_,rfl,?_⟩; have n0_:=Aside0.mk (Kd.R_below (by (with_reducible repeat (first | apply Kd.R_alloc | apply Kd.R_drewN | apply Kd.R_drew)); exact HO_22.out) hb); have n1_:=Aside0.mk (below_step (by repeat (first | (with_reducible first | exact HB.out | apply bA | apply bN | apply bD) | exact HB.out)) hb); clear HO_22; clear HB; have HO_22:=n0_; have HB:=n1_; clear n0_ n1_; (try clear hb)))
                 go_ret
                 exact ⟨by first | rfl | (simp [errW_none,errW_some] <;> rfl) | (simp [*,errW_none,errW_some] <;> rfl),by repeat (first | (with_reducible first | exact HB.out | apply bA | apply bN | apply bD) | exact HB.out)⟩
                ·rw [if_neg c29] at H
                 have c29b0 : ((bt (rdOf ByteArray.empty y317 x24_1) x34_2) == 94)=false:=beq_eq_false_iff_ne.mpr c29
                 have c29b1 : ((bt (rdOf ByteArray.empty y317 x24_1) x34_2) != 94)=true:=bne_iff_ne.mpr c29
                 by_cases c32 : (bt (rdOf ByteArray.empty y317 x24_1) x34_2)=126
                 ·rw [if_pos c32] at H
                  have c32b0 : ((bt (rdOf ByteArray.empty y317 x24_1) x34_2) == 126)=true:=beq_iff_eq.mpr c32
                  have c32b1 : ((bt (rdOf ByteArray.empty y317 x24_1) x34_2) != 126)=false:=bne_eq_false_iff_eq.mpr c32
                  clear c32
                  replace H:=Option.bind_eq_some_iff.mp H
                  obtain ⟨t327,A330,H⟩:=H
                  replace H : (some t327)=some r:=H
                  have A33:=Aside0.mk A330
                  clear A330
                  obtain rfl:=Option.some.inj H
                  clear hrt
                  have p16:0≤(x34_2 : Int):=of_decide_eq_true (by first | (with_reducible assumption) | assumption)
                  have q16:x34_2 < ((rdOf ByteArray.empty y317 x24_1).size : Int):=of_decide_eq_true (by first | (with_reducible assumption) | assumption)
                  have hx16:=bt_at (rdOf ByteArray.empty y317 x24_1) x34_2
                  replace p16:=eq_true p16
                  replace q16:=eq_true q16
                  go_wp2_with (first | ((with_reducible refine gate_callee (f:=9) rfl ?_); refine goesL_ (some 62) rfl rfl Tryd.func9 (by kernel_rfl) rfl #[] rfl (by (try simp only [List.map_toArray,List.map_cons,List.map_nil]); first | done | rfl | (simp only [List.length_drop,List.length_take]; rfl)) ?_; (with_reducible refine (lamplighterlaw11_alive.calls k2  t327 _ A33.out (glob_below HGLOB.out (by repeat (first | (with_reducible first | exact HB.out | apply bA | apply bN | apply bD) | exact HB.out))) (globc_below HGLOC.out (by repeat (first | (with_reducible first | exact HB.out | apply bA | apply bN | apply bD) | exact HB.out))) (globe_below HGLOE.out (by repeat (first | (with_reducible first | exact HB.out | apply bA | apply bN | apply bD) | exact HB.out)))).mono ?_); rintro e w34 ⟨rfl,hb⟩; refine ⟨_,rfl,?_⟩; have n0_:=Aside0.mk (Kd.R_below (by (with_reducible repeat (first | apply Kd.R_alloc | apply Kd.R_drewN | apply Kd.R_drew)); exact HO_22.out) hb); have n1_:=Aside0.mk (below_step (by repeat (first | (with_reducible first | exact HB.out | apply bA | apply bN | apply bD) | exact HB.out)) hb); clear HO_22; clear HB; have HO_22:=n0_; have HB:=n1_; clear n0_ n1_; (try clear hb)))
                  go_ret
                  exact ⟨by first | rfl | (simp [errW_none,errW_some] <;> rfl) | (simp [*,errW_none,errW_some] <;> rfl),by repeat (first | (with_reducible first | exact HB.out | apply bA | apply bN | apply bD) | exact HB.out)⟩
                 ·rw [if_neg c32] at H
                  have c32b0 : ((bt (rdOf ByteArray.empty y317 x24_1) x34_2) == 126)=false:=beq_eq_false_iff_ne.mpr c32
                  have c32b1 : ((bt (rdOf ByteArray.empty y317 x24_1) x34_2) != 126)=true:=bne_iff_ne.mpr c32
                  have H':=Aside0.mk H
                  clear H
                  have p16:0≤(x34_2 : Int):=of_decide_eq_true (by first | (with_reducible assumption) | assumption)
                  have q16:x34_2 < ((rdOf ByteArray.empty y317 x24_1).size : Int):=of_decide_eq_true (by first | (with_reducible assumption) | assumption)
                  have hx16:=bt_at (rdOf ByteArray.empty y317 x24_1) x34_2
                  replace p16:=eq_true p16
                  replace q16:=eq_true q16
                  go_wp2
                  go_roundg k2
                  case measure=>have:=HK1.out; have:=HK2.out; omega
                  case rel=>exact ⟨(wrap64 (x34_2 + 1)),(by first | rfl | (simp; done) | (simp [*]; done)),H',⟨by have:=HK1.out; have:=HK2.out; omega⟩,⟨by (with_reducible repeat (first | apply Kd.R_alloc | apply Kd.R_drewN | apply Kd.R_drew)); exact HO_22.out⟩,⟨by repeat (first | (with_reducible first | exact HB.out | apply bA | apply bN | apply bD) | exact HB.out)⟩⟩
           ·rw [if_neg c15] at H
            exact absurd H (by simp)
          ·rw [if_neg c14] at H
           exact absurd H (by simp)
         ·rw [if_neg c13] at H
          have c13b0:decide (x34_2 < ((rdOf ByteArray.empty y317 x24_1).size : Int))=false:=decide_eq_false c13
          clear c13
          have H':=Aside0.mk H
          clear H
          go_wp2
          go_roundg k2
          case measure=>have:=HK1.out; have:=HK2.out; omega
          case rel=>exact ⟨(wrap64 (x24_1 + 1)),(by first | rfl | (simp; done) | (simp [*]; done)),H',⟨by have:=HK1.out; have:=HK2.out; omega⟩,⟨by (with_reducible repeat (first | apply Kd.R_alloc | apply Kd.R_drewN | apply Kd.R_drew)); exact HO_22.out⟩,⟨by repeat (first | (with_reducible first | exact HB.out | apply bA | apply bN | apply bD) | exact HB.out)⟩⟩
     ·rw [if_neg c9] at H
      exact absurd H (by simp)
    ·rw [if_neg c8] at H
     exact absurd H (by simp)
   ·rw [if_neg c7] at H
    have c7b0:decide (x24_1 < (y317.length : Int))=false:=decide_eq_false c7
    clear c7
    have HC35:=Aside0.mk H
    clear H
    go_upto_if 65 with (fail)
    go_cut [11] (fun v11 wc => ∃ (kq : Nat) (x11_34 : ByteArray),v11 = .string x11_34∧Aside0 (lamplighterlaw11_AcceptCodes.j2 kq a0 a1 a2 x11_34=some r)∧Aside0 (kq≤k1)∧Aside0 (Below w.heap.size w wc))
    case first =>
     have H:=HC35.out
     clear HC35
     by_cases c36 : a2=true
     ·subst c36
      have H1 : (lamplighterlaw11_AcceptCodes.j2 k1 a0 a1 true (⟨#[55]⟩ : ByteArray))=some r:=by rw [if_pos rfl] at H; exact H
      clear H
      have H:=H1
      clear H1
      have H':=Aside0.mk H
      clear H
      go_wp2
      go_meet
      case rel=>exact ⟨_,((⟨#[55]⟩ : ByteArray)),(by first | rfl | (simp; done) | (simp [*]; done)),H',⟨by have:=HK1.out; first | omega | exact Nat.le_refl _⟩,⟨by repeat (first | (with_reducible first | exact HB.out | apply bA | apply bN | apply bD) | exact HB.out)⟩⟩
     ·replace c36:=Bool.eq_false_iff.mpr c36
      subst c36
      have H1 : (lamplighterlaw11_AcceptCodes.j2 k1 a0 a1 false (⟨#[]⟩ : ByteArray))=some r:=by rw [if_neg (show ¬ (false=true) by decide)] at H; exact H
      clear H
      have H:=H1
      clear H1
      have H':=Aside0.mk H
      clear H
      go_wp2
      go_meet
      case rel=>exact ⟨_,((⟨#[]⟩ : ByteArray)),(by first | rfl | (simp; done) | (simp [*]; done)),H',⟨by have:=HK1.out; first | omega | exact Nat.le_refl _⟩,⟨by repeat (first | (with_reducible first | exact HB.out | apply bA | apply bN | apply bD) | exact HB.out)⟩⟩
    case rest =>
     clear HC35
     try clear c1
     try clear p1
     try clear q1
     try clear hx1
     try clear c2
     try clear p2
     try clear c3
     try clear p3
     try clear q3
     try clear hx3
     try clear c6
     try clear p6
     try clear c7
     try clear c7b0
     try clear c8
     try clear c8b0
     try clear c9
     try clear c9b0
     try clear c10
     try clear c10b0
     try clear c10b1
     try clear c13
     try clear c13b0
     try clear c14
     try clear c14b0
     try clear c15
     try clear c15b0
     try clear p16
     try clear q16
     try clear hx16
     try clear c17
     try clear c17b0
     try clear c17b1
     try clear c20
     try clear c20b0
     try clear c20b1
     try clear c23
     try clear c23b0
     try clear c23b1
     try clear c26
     try clear c26b0
     try clear c26b1
     try clear c29
     try clear c29b0
     try clear c29b1
     try clear c32
     try clear c32b0
     try clear c32b1
     try clear p32
     try clear q32
     try clear hx32
     try clear c36
     try clear hx320_0
     try clear p16
     try clear p2
     try clear p3
     try clear p320
     try clear q16
     try clear q3
     try clear q320
     obtain ⟨kq,x11_34,rfl,HA,HJ34,HB⟩:=hcut
     cases kq with
     | zero=>exact absurd HA.out (by simp [lamplighterlaw11_AcceptCodes.j2])
     | succ kj34 =>
      have H:=HA.out
      clear HA
      simp only [lamplighterlaw11_AcceptCodes.j2] at H
      by_cases c37 : 19 + x11_34.size≤9223372036854775807
      ·rw [if_pos c37] at H
       have c37b0:=eq_true c37
       have c37b1:decide (19 + x11_34.size≤9223372036854775807)=true:=decide_eq_true c37
       try have c37b2 : (9223372036854775807 < 19 + x11_34.size)=False:=eq_false (Nat.not_lt.2 c37)
       try (have c37b4:=c37b2; simp only [ByteArray.size_append] at c37b4)
       by_cases c38 : ((⟨#[77,83,72,124,94,126,92,38,124,124,124,124,124,124,124,65,68,84,124]⟩ : ByteArray) ++ x11_34).size + 1≤9223372036854775807
       ·rw [if_pos c38] at H
        have c38b0:=eq_true c38
        have c38b1:decide (((⟨#[77,83,72,124,94,126,92,38,124,124,124,124,124,124,124,65,68,84,124]⟩ : ByteArray) ++ x11_34).size + 1≤9223372036854775807)=true:=decide_eq_true c38
        try have c38b2 : (9223372036854775807 < ((⟨#[77,83,72,124,94,126,92,38,124,124,124,124,124,124,124,65,68,84,124]⟩ : ByteArray) ++ x11_34).size + 1)=False:=eq_false (Nat.not_lt.2 c38)
        try (have c38b4:=c38b2; simp only [ByteArray.size_append] at c38b4)
        by_cases c39 : (((⟨#[77,83,72,124,94,126,92,38,124,124,124,124,124,124,124,65,68,84,124]⟩ : ByteArray) ++ x11_34) ++ (⟨#[124]⟩ : ByteArray)).size + a1.size≤9223372036854775807
        ·rw [if_pos c39] at H
         have c39b0:=eq_true c39
         have c39b1:decide ((((⟨#[77,83,72,124,94,126,92,38,124,124,124,124,124,124,124,65,68,84,124]⟩ : ByteArray) ++ x11_34) ++ (⟨#[124]⟩ : ByteArray)).size + a1.size≤9223372036854775807)=true:=decide_eq_true c39
         try have c39b2 : (9223372036854775807 < (((⟨#[77,83,72,124,94,126,92,38,124,124,124,124,124,124,124,65,68,84,124]⟩ : ByteArray) ++ x11_34) ++ (⟨#[124]⟩ : ByteArray)).size + a1.size)=False:=eq_false (Nat.not_lt.2 c39)
         try (have c39b4:=c39b2; simp only [ByteArray.size_append] at c39b4)
         by_cases c40 : ((((⟨#[77,83,72,124,94,126,92,38,124,124,124,124,124,124,124,65,68,84,124]⟩ : ByteArray) ++ x11_34) ++ (⟨#[124]⟩ : ByteArray)) ++ a1).size + 1≤9223372036854775807
         ·rw [if_pos c40] at H
          have c40b0:=eq_true c40
          have c40b1:decide (((((⟨#[77,83,72,124,94,126,92,38,124,124,124,124,124,124,124,65,68,84,124]⟩ : ByteArray) ++ x11_34) ++ (⟨#[124]⟩ : ByteArray)) ++ a1).size + 1≤9223372036854775807)=true:=decide_eq_true c40
          try have c40b2 : (9223372036854775807 < ((((⟨#[77,83,72,124,94,126,92,38,124,124,124,124,124,124,124,65,68,84,124]⟩ : ByteArray) ++ x11_34) ++ (⟨#[124]⟩ : ByteArray)) ++ a1).size + 1)=False:=eq_false (Nat.not_lt.2 c40)
          try (have c40b4:=c40b2; simp only [ByteArray.size_append] at c40b4)
          by_cases c41 : (((((⟨#[77,83,72,124,94,126,92,38,124,124,124,124,124,124,124,65,68,84,124]⟩ : ByteArray) ++ x11_34) ++ (⟨#[124]⟩ : ByteArray)) ++ a1) ++ (⟨#[124]⟩ : ByteArray)).size + a0.size≤9223372036854775807
          ·rw [if_pos c41] at H
           have c41b0:=eq_true c41
           have c41b1:decide ((((((⟨#[77,83,72,124,94,126,92,38,124,124,124,124,124,124,124,65,68,84,124]⟩ : ByteArray) ++ x11_34) ++ (⟨#[124]⟩ : ByteArray)) ++ a1) ++ (⟨#[124]⟩ : ByteArray)).size + a0.size≤9223372036854775807)=true:=decide_eq_true c41
           try have c41b2 : (9223372036854775807 < (((((⟨#[77,83,72,124,94,126,92,38,124,124,124,124,124,124,124,65,68,84,124]⟩ : ByteArray) ++ x11_34) ++ (⟨#[124]⟩ : ByteArray)) ++ a1) ++ (⟨#[124]⟩ : ByteArray)).size + a0.size)=False:=eq_false (Nat.not_lt.2 c41)
           try (have c41b4:=c41b2; simp only [ByteArray.size_append] at c41b4)
           by_cases c42 : ((((((⟨#[77,83,72,124,94,126,92,38,124,124,124,124,124,124,124,65,68,84,124]⟩ : ByteArray) ++ x11_34) ++ (⟨#[124]⟩ : ByteArray)) ++ a1) ++ (⟨#[124]⟩ : ByteArray)) ++ a0).size + 1≤9223372036854775807
           ·rw [if_pos c42] at H
            have c42b0:=eq_true c42
            have c42b1:decide (((((((⟨#[77,83,72,124,94,126,92,38,124,124,124,124,124,124,124,65,68,84,124]⟩ : ByteArray) ++ x11_34) ++ (⟨#[124]⟩ : ByteArray)) ++ a1) ++ (⟨#[124]⟩ : ByteArray)) ++ a0).size + 1≤9223372036854775807)=true:=decide_eq_true c42
            try have c42b2 : (9223372036854775807 < ((((((⟨#[77,83,72,124,94,126,92,38,124,124,124,124,124,124,124,65,68,84,124]⟩ : ByteArray) ++ x11_34) ++ (⟨#[124]⟩ : ByteArray)) ++ a1) ++ (⟨#[124]⟩ : ByteArray)) ++ a0).size + 1)=False:=eq_false (Nat.not_lt.2 c42)
            try (have c42b4:=c42b2; simp only [ByteArray.size_append] at c42b4)
            replace H:=Option.bind_eq_some_iff.mp H
            obtain ⟨t328,A430,H⟩:=H
            replace H : ((msh_Versions.f).bind fun t331=>(lamplighterlaw11_AcceptCodes.l2 kj34 a0 a1 a2 t328 false t331 (t331.length : Int) 0))=some r:=H
            have A43:=Aside0.mk A430
            clear A430
            replace H:=Option.bind_eq_some_iff.mp H
            obtain ⟨t331,A440,H⟩:=H
            replace H : (lamplighterlaw11_AcceptCodes.l2 kj34 a0 a1 a2 t328 false t331 (t331.length : Int) 0)=some r:=H
            have A44:=Aside0.mk A440
            clear A440
            have H':=Aside0.mk H
            clear H
            have zz380 : (9223372036854775807 < 19 + x11_34.size + 1)=False:=c38b4
            have zz381 : (9223372036854775807 < 19 + x11_34.size + 1 + a1.size + 1)=False:=c40b4
            have zz382 : (9223372036854775807 < 19 + x11_34.size + 1 + a1.size + 1 + a0.size + 1)=False:=c42b4
            go_wp2_with (first | ((with_reducible refine gate_dst (N:=75) rfl ?_); refine goesStr_ rfl rfl rfl rfl ?_; (with_reducible refine (cv_str.calls (((((((⟨#[77,83,72,124,94,126,92,38,124,124,124,124,124,124,124,65,68,84,124]⟩ : ByteArray) ++ x11_34) ++ (⟨#[124]⟩ : ByteArray)) ++ a1) ++ (⟨#[124]⟩ : ByteArray)) ++ a0) ++ (⟨#[13]⟩ : ByteArray)) t328 _ A43.out).mono ?_); rintro e w45 ⟨v329,rfl,ho0,hb⟩; refine ⟨_,rfl,?_⟩; have n0_:=Aside0.mk (Kd.V_lower (Kd.V_mono (ok':=fun k_=>True) ho0 (fun k_ hk_=>trivial)) (below_size (by repeat (first | (with_reducible first | exact HB.out | apply bA | apply bN | apply bD) | exact HB.out)))); have n1_:=Aside0.mk (below_step (by repeat (first | (with_reducible first | exact HB.out | apply bA | apply bN | apply bD) | exact HB.out)) hb); clear HB; have HO330:=n0_; have HB:=n1_; clear n0_ n1_; (try clear hb); (try clear ho0)) | ((with_reducible refine gate_callee (f:=14) rfl ?_); refine goesL_ (some 76) rfl rfl Tryd.func14 (by kernel_rfl) rfl #[] rfl (by (try simp only [List.map_toArray,List.map_cons,List.map_nil]); first | done | rfl | (simp only [List.length_drop,List.length_take]; rfl)) ?_; (with_reducible refine (msh_Versions.calls  t331 _ A44.out (glob_below HGLOB.out (by repeat (first | (with_reducible first | exact HB.out | apply bA | apply bN | apply bD) | exact HB.out)))).mono ?_); rintro e w46 ⟨v332,rfl,ho0,hb⟩; refine ⟨_,rfl,?_⟩; have n0_:=Aside0.mk (Kd.V_elder' (by (with_reducible repeat (first | apply Kd.V_alloc | apply Kd.V_drewN | apply Kd.V_drew)); exact HO330.out) (Kd.R_base ho0) hb); have n1_:=Aside0.mk (Kd.R_lower ho0 (below_size (by repeat (first | (with_reducible first | exact HB.out | apply bA | apply bN | apply bD) | exact HB.out)))); have n2_:=Aside0.mk (below_step (by repeat (first | (with_reducible first | exact HB.out | apply bA | apply bN | apply bD) | exact HB.out)) hb); clear HO330; clear HB; have HO330:=n0_; have HO333:=n1_; have HB:=n2_; clear n0_ n1_ n2_; (try clear hb); (try clear ho0); obtain ⟨Ao47,co47,eo47⟩:=Kd.R_slice HO333.out; subst eo47))
            go_loopg [13,78] kj34 (fun kq v13 v78 w' => ∃ (x13_3 : Bool) (x78_3 : Int),v13 = .bool x13_3∧v78 = .int .i64 x78_3∧Aside0 (lamplighterlaw11_AcceptCodes.l2 kq a0 a1 a2 t328 x13_3 t331 (t331.length : Int) x78_3=some r)∧Aside0 (kq≤kj34)∧Aside0 (Kd.V (Kd.int .u8) 5 w' w.heap.size (fun k_=>some k_ ≠ ((.slice Ao47 t331.length co47) : Value).ownBlock) v329 t328)∧Aside0 (Kd.R Kd.string 9 w' w.heap.size (fun _=>True) (.slice Ao47 t331.length co47) t331)∧Aside0 (Below w.heap.size w w'))
            case atStart=>exact ⟨(false),(0),(by first | rfl | (simp; done) | (simp [*]; done)),(by first | rfl | (simp; done) | (simp [*]; done)),H',⟨Nat.le_refl _⟩,⟨by (with_reducible repeat (first | apply Kd.V_alloc | apply Kd.V_drewN | apply Kd.V_drew)); exact Kd.V_mono HO330.out (fun _ hk=>hk.2)⟩,⟨by (with_reducible repeat (first | apply Kd.R_alloc | apply Kd.R_drewN | apply Kd.R_drew)); exact HO333.out⟩,⟨by repeat (first | (with_reducible first | exact HB.out | apply bA | apply bN | apply bD) | exact HB.out)⟩⟩
            case round =>
             clear H'
             try clear c1
             try clear p1
             try clear q1
             try clear hx1
             try clear c2
             try clear p2
             try clear c3
             try clear p3
             try clear q3
             try clear hx3
             try clear c4
             try clear c6
             try clear p6
             try clear c7
             try clear c7b0
             try clear c8
             try clear c8b0
             try clear c9
             try clear c9b0
             try clear c10
             try clear c10b0
             try clear c10b1
             try clear c13
             try clear c13b0
             try clear c14
             try clear c14b0
             try clear c15
             try clear c15b0
             try clear p16
             try clear q16
             try clear hx16
             try clear c17
             try clear c17b0
             try clear c17b1
             try clear c20
             try clear c20b0
             try clear c20b1
             try clear c23
             try clear c23b0
             try clear c23b1
             try clear c26
             try clear c26b0
             try clear c26b1
             try clear c29
             try clear c29b0
             try clear c29b1
             try clear c32
             try clear c32b0
             try clear c32b1
             try clear p32
             try clear q32
             try clear hx32
             try clear c36
             try clear c37
             try clear c37b0
             try clear c37b1
             try clear c37b2
             try clear c38
             try clear c38b0
             try clear c38b1
             try clear c38b2
             try clear c39
             try clear c39b0
             try clear c39b1
             try clear c39b2
             try clear c40
             try clear c40b0
             try clear c40b1
             try clear c40b2
             try clear c41
             try clear c41b0
             try clear c41b1
             try clear c41b2
             try clear c42
             try clear c42b0
             try clear c42b1
             try clear c42b2
             try clear hx320_0
             try clear p1
             try clear p16
             try clear p2
             try clear p3
             try clear p32
             try clear p320
             try clear p6
             try clear q1
             try clear q16
             try clear q3
             try clear q32
             try clear q320
             obtain ⟨x13_3,x78_3,rfl,rfl,HA,HK3,HO_12,HO_76,HB⟩:=hrel
             cases gk with
             | zero=>exact absurd HA.out (by simp [lamplighterlaw11_AcceptCodes.l2])
             | succ k3 =>
              have H:=HA.out
              clear HA
              simp only [lamplighterlaw11_AcceptCodes.l2] at H
              by_cases c48 : x78_3 < (t331.length : Int)
              ·rw [if_pos c48] at H
               have c48b0:decide (x78_3 < (t331.length : Int))=true:=decide_eq_true c48
               clear c48
               by_cases c49 : 0≤x78_3
               ·rw [if_pos c49] at H
                have c49b0:decide (0≤x78_3)=true:=decide_eq_true c49
                clear c49
                by_cases c50 : x78_3 < (t331.length : Int)
                ·rw [if_pos c50] at H
                 have c50b0:decide (x78_3 < (t331.length : Int))=true:=decide_eq_true c50
                 clear c50
                 by_cases c51 : x13_3=true
                 ·subst c51
                  have H1 : (lamplighterlaw11_AcceptCodes.l2 k3 a0 a1 a2 t328 true t331 (t331.length : Int) (wrap64 (x78_3 + 1)))=some r:=by rw [if_pos rfl] at H; exact H
                  clear H
                  have H:=H1
                  clear H1
                  have H':=Aside0.mk H
                  clear H
                  have p334:0≤(x78_3 : Int):=of_decide_eq_true (by first | (with_reducible assumption) | assumption)
                  have q334:x78_3 < (t331.length : Int):=of_decide_eq_true (by first | (with_reducible assumption) | assumption)
                  obtain ⟨ad334,e334,hx334_0⟩:=Kd.at_string (Kd.R_reads' HO_76.out).2.2 x78_3 p334 q334
                  cases e334
                  replace p334:=eq_true p334
                  replace q334:=eq_true q334
                  go_wp2
                  go_roundg k3
                  case measure=>have:=HK1.out; have:=HJ34.out; have:=HK3.out; omega
                  case rel=>exact ⟨(true),(wrap64 (x78_3 + 1)),(by first | rfl | (simp; done) | (simp [*]; done)),(by first | rfl | (simp; done) | (simp [*]; done)),H',⟨by have:=HK1.out; have:=HJ34.out; have:=HK3.out; omega⟩,⟨by (with_reducible repeat (first | apply Kd.V_alloc | apply Kd.V_drewN | apply Kd.V_drew)); exact HO_12.out⟩,⟨by (with_reducible repeat (first | apply Kd.R_alloc | apply Kd.R_drewN | apply Kd.R_drew)); exact HO_76.out⟩,⟨by repeat (first | (with_reducible first | exact HB.out | apply bA | apply bN | apply bD) | exact HB.out)⟩⟩
                 ·replace c51:=Bool.eq_false_iff.mpr c51
                  subst c51
                  have H1 : (lamplighterlaw11_AcceptCodes.l2 k3 a0 a1 a2 t328 ((rdOf ByteArray.empty t331 x78_3).toList == a0.toList) t331 (t331.length : Int) (wrap64 (x78_3 + 1)))=some r:=by rw [if_neg (show ¬ (false=true) by decide)] at H; exact H
                  clear H
                  have H:=H1
                  clear H1
                  have H':=Aside0.mk H
                  clear H
                  have p334:0≤(x78_3 : Int):=of_decide_eq_true (by first | (with_reducible assumption) | assumption)
                  have q334:x78_3 < (t331.length : Int):=of_decide_eq_true (by first | (with_reducible assumption) | assumption)
                  obtain ⟨ad334,e334,hx334_0⟩:=Kd.at_string (Kd.R_reads' HO_76.out).2.2 x78_3 p334 q334
                  cases e334
                  replace p334:=eq_true p334
                  replace q334:=eq_true q334
                  go_wp2
                  go_roundg k3
                  case measure=>have:=HK1.out; have:=HJ34.out; have:=HK3.out; omega
                  case rel=>exact ⟨(((rdOf ByteArray.empty t331 x78_3).toList == a0.toList)),(wrap64 (x78_3 + 1)),(by first | rfl | (simp; done) | (simp [*]; done)),(by first | rfl | (simp; done) | (simp [*]; done)),H',⟨by have:=HK1.out; have:=HJ34.out; have:=HK3.out; omega⟩,⟨by (with_reducible repeat (first | apply Kd.V_alloc | apply Kd.V_drewN | apply Kd.V_drew)); exact HO_12.out⟩,⟨by (with_reducible repeat (first | apply Kd.R_alloc | apply Kd.R_drewN | apply Kd.R_drew)); exact HO_76.out⟩,⟨by repeat (first | (with_reducible first | exact HB.out | apply bA | apply bN | apply bD) | exact HB.out)⟩⟩
                ·rw [if_neg c50] at H
                 exact absurd H (by simp)
               ·rw [if_neg c49] at H
                exact absurd H (by simp)
              ·rw [if_neg c48] at H
               have c48b0:decide (x78_3 < (t331.length : Int))=false:=decide_eq_false c48
               clear c48
               by_cases c52 : a2=true
               ·subst c52
                have H1 : (if x13_3=true then (if a1.toList=([80] : List UInt8) then (lamplighterlaw11_AcceptCodes.j4 k3 t328 (⟨#[65,65]⟩ : ByteArray) false) else (if a1.toList=([68] : List UInt8) then (lamplighterlaw11_AcceptCodes.j4 k3 t328 (⟨#[65,65]⟩ : ByteArray) false) else (lamplighterlaw11_AcceptCodes.j4 k3 t328 (⟨#[65,65]⟩ : ByteArray) (a1.toList != ([84] : List UInt8))))) else (lamplighterlaw11_AcceptCodes.j4 k3 t328 (⟨#[65,65]⟩ : ByteArray) true))=some r:=by rw [if_pos rfl] at H; exact H
                clear H
                have H:=H1
                clear H1
                have HC53:=Aside0.mk H
                clear H
                go_upto_region 27 with (fail)
                go_cut [92] (fun v92 wc => ∃ (kq : Nat) (x92_52 : Bool),v92 = .bool x92_52∧Aside0 (lamplighterlaw11_AcceptCodes.j4 kq t328 (⟨#[65,65]⟩ : ByteArray) x92_52=some r)∧Aside0 (kq≤k3)∧Aside0 (Kd.V (Kd.int .u8) 5 wc w.heap.size (fun _=>True) v329 t328)∧Aside0 (Below w.heap.size w wc))
                case first =>
                 have H:=HC53.out
                 clear HC53
                 by_cases c54 : x13_3=true
                 ·subst c54
                  have H1 : (if a1.toList=([80] : List UInt8) then (lamplighterlaw11_AcceptCodes.j4 k3 t328 (⟨#[65,65]⟩ : ByteArray) false) else (if a1.toList=([68] : List UInt8) then (lamplighterlaw11_AcceptCodes.j4 k3 t328 (⟨#[65,65]⟩ : ByteArray) false) else (lamplighterlaw11_AcceptCodes.j4 k3 t328 (⟨#[65,65]⟩ : ByteArray) (a1.toList != ([84] : List UInt8)))))=some r:=by rw [if_pos rfl] at H; exact H
                  clear H
                  have H:=H1
                  clear H1
                  by_cases c55 : a1.toList=([80] : List UInt8)
                  ·rw [if_pos c55] at H
                   have c55b0 : (a1.toList == ([80] : List UInt8))=true:=beq_iff_eq.mpr c55
                   have c55b1 : (a1.toList != ([80] : List UInt8))=false:=bne_eq_false_iff_eq.mpr c55
                   clear c55
                   (first | rw [c55b0] | (simp only [i64_w,i32_w]; rw [c55b0]) | skip)
                   have H':=Aside0.mk H
                   clear H
                   go_wp2
                   go_meet
                   case rel=>exact ⟨_,(false),(by first | rfl | (simp; done) | (simp [*]; done)),H',⟨by have:=HK1.out; have:=HJ34.out; have:=HK3.out; first | omega | exact Nat.le_refl _⟩,⟨by (with_reducible repeat (first | apply Kd.V_alloc | apply Kd.V_drewN | apply Kd.V_drew)); exact Kd.V_mono HO_12.out (fun _ hk=>trivial)⟩,⟨by repeat (first | (with_reducible first | exact HB.out | apply bA | apply bN | apply bD) | exact HB.out)⟩⟩
                  ·rw [if_neg c55] at H
                   have c55b0 : (a1.toList == ([80] : List UInt8))=false:=beq_eq_false_iff_ne.mpr c55
                   have c55b1 : (a1.toList != ([80] : List UInt8))=true:=bne_iff_ne.mpr c55
                   (first | rw [c55b0] | (simp only [i64_w,i32_w]; rw [c55b0]) | skip)
                   by_cases c56 : a1.toList=([68] : List UInt8)
                   ·rw [if_pos c56] at H
                    have c56b0 : (a1.toList == ([68] : List UInt8))=true:=beq_iff_eq.mpr c56
                    have c56b1 : (a1.toList != ([68] : List UInt8))=false:=bne_eq_false_iff_eq.mpr c56
                    clear c56
                    have H':=Aside0.mk H
                    clear H
                    go_wp2
                    go_meet
                    case rel=>exact ⟨_,(false),(by first | rfl | (simp; done) | (simp [*]; done)),H',⟨by have:=HK1.out; have:=HJ34.out; have:=HK3.out; first | omega | exact Nat.le_refl _⟩,⟨by (with_reducible repeat (first | apply Kd.V_alloc | apply Kd.V_drewN | apply Kd.V_drew)); exact Kd.V_mono HO_12.out (fun _ hk=>trivial)⟩,⟨by repeat (first | (with_reducible first | exact HB.out | apply bA | apply bN | apply bD) | exact HB.out)⟩⟩
                   ·rw [if_neg c56] at H
                    have c56b0 : (a1.toList == ([68] : List UInt8))=false:=beq_eq_false_iff_ne.mpr c56
                    have c56b1 : (a1.toList != ([68] : List UInt8))=true:=bne_iff_ne.mpr c56
                    have H':=Aside0.mk H
                    clear H
                    go_wp2
                    go_meet
                    case rel=>exact ⟨_,((a1.toList != ([84] : List UInt8))),(by first | rfl | (simp; done) | (simp [*]; done)),H',⟨by have:=HK1.out; have:=HJ34.out; have:=HK3.out; first | omega | exact Nat.le_refl _⟩,⟨by (with_reducible repeat (first | apply Kd.V_alloc | apply Kd.V_drewN | apply Kd.V_drew)); exact Kd.V_mono HO_12.out (fun _ hk=>trivial)⟩,⟨by repeat (first | (with_reducible first | exact HB.out | apply bA | apply bN | apply bD) | exact HB.out)⟩⟩
                 ·replace c54:=Bool.eq_false_iff.mpr c54
                  subst c54
                  have H1 : (lamplighterlaw11_AcceptCodes.j4 k3 t328 (⟨#[65,65]⟩ : ByteArray) true)=some r:=by rw [if_neg (show ¬ (false=true) by decide)] at H; exact H
                  clear H
                  have H:=H1
                  clear H1
                  have H':=Aside0.mk H
                  clear H
                  go_wp2
                  go_meet
                  case rel=>exact ⟨_,(true),(by first | rfl | (simp; done) | (simp [*]; done)),H',⟨by have:=HK1.out; have:=HJ34.out; have:=HK3.out; first | omega | exact Nat.le_refl _⟩,⟨by (with_reducible repeat (first | apply Kd.V_alloc | apply Kd.V_drewN | apply Kd.V_drew)); exact Kd.V_mono HO_12.out (fun _ hk=>trivial)⟩,⟨by repeat (first | (with_reducible first | exact HB.out | apply bA | apply bN | apply bD) | exact HB.out)⟩⟩
                case rest =>
                 clear HC53
                 try clear c1
                 try clear p1
                 try clear q1
                 try clear hx1
                 try clear c2
                 try clear p2
                 try clear c3
                 try clear p3
                 try clear q3
                 try clear hx3
                 try clear c4
                 try clear c5
                 try clear c6
                 try clear p6
                 try clear c7
                 try clear c7b0
                 try clear c8
                 try clear c8b0
                 try clear c9
                 try clear c9b0
                 try clear c10
                 try clear c10b0
                 try clear c10b1
                 try clear c13
                 try clear c13b0
                 try clear c14
                 try clear c14b0
                 try clear c15
                 try clear c15b0
                 try clear p16
                 try clear q16
                 try clear hx16
                 try clear c17
                 try clear c17b0
                 try clear c17b1
                 try clear c20
                 try clear c20b0
                 try clear c20b1
                 try clear c23
                 try clear c23b0
                 try clear c23b1
                 try clear c26
                 try clear c26b0
                 try clear c26b1
                 try clear c29
                 try clear c29b0
                 try clear c29b1
                 try clear c32
                 try clear c32b0
                 try clear c32b1
                 try clear p32
                 try clear q32
                 try clear hx32
                 try clear p33
                 try clear q33
                 try clear hx33
                 try clear c36
                 try clear c37
                 try clear c37b0
                 try clear c37b1
                 try clear c37b2
                 try clear c38
                 try clear c38b0
                 try clear c38b1
                 try clear c38b2
                 try clear c39
                 try clear c39b0
                 try clear c39b1
                 try clear c39b2
                 try clear c40
                 try clear c40b0
                 try clear c40b1
                 try clear c40b2
                 try clear c41
                 try clear c41b0
                 try clear c41b1
                 try clear c41b2
                 try clear c42
                 try clear c42b0
                 try clear c42b1
                 try clear c42b2
                 try clear c48
                 try clear c48b0
                 try clear c49
                 try clear c49b0
                 try clear c50
                 try clear c50b0
                 try clear c51
                 try clear c52
                 try clear c54
                 try clear c55
                 try clear c55b0
                 try clear c55b1
                 try clear c56
                 try clear c56b0
                 try clear c56b1
                 try clear hx320_0
                 try clear hx334_0
                 try clear p1
                 try clear p16
                 try clear p2
                 try clear p3
                 try clear p32
                 try clear p320
                 try clear p334
                 try clear p6
                 try clear q1
                 try clear q16
                 try clear q3
                 try clear q32
                 try clear q320
                 try clear q334
                 obtain ⟨kq,x92_52,rfl,HA,HJ52,HO_12,HB⟩:=hcut
                 cases kq with
                 | zero=>exact absurd HA.out (by simp [lamplighterlaw11_AcceptCodes.j4])
                 | succ kj52 =>
                  have H:=HA.out
                  clear HA
                  simp only [lamplighterlaw11_AcceptCodes.j4] at H
                  by_cases c57 : x92_52=true
                  ·subst c57
                   have H1 : ((accept_Verdict.f kj52 t328).bind fun bt335=>((lamplighterlaw11_alive.f kj52).bind fun t353=>(if t353=true then (if bt335.2.2.2.2.2.2.2.2.2.2.2.2.2.2.2.1.toList=([65,82] : List UInt8) then ((accept_Stored.f kj52 t328).bind fun t354=>(some (t354 == (([65,82] : List UInt8) == ([65,65] : List UInt8))))) else (some false)) else (some false))))=some r:=by rw [if_pos rfl] at H; exact H
                   clear H
                   have H:=H1
                   clear H1
                   replace H:=Option.bind_eq_some_iff.mp H
                   obtain ⟨⟨t335,t336,t337,t338,t339,t340,t341,t342,t343,t344,t345,t346,t347,t348,t349,t350,t351⟩,A580,H⟩:=H
                   replace H : ((lamplighterlaw11_alive.f kj52).bind fun t353=>(if t353=true then (if t350.toList=([65,82] : List UInt8) then ((accept_Stored.f kj52 t328).bind fun t354=>(some (t354 == (([65,82] : List UInt8) == ([65,65] : List UInt8))))) else (some false)) else (some false)))=some r:=H
                   have A58:=Aside0.mk A580
                   clear A580
                   replace H:=Option.bind_eq_some_iff.mp H
                   obtain ⟨t353,A590,H⟩:=H
                   replace H : (if t353=true then (if t350.toList=([65,82] : List UInt8) then ((accept_Stored.f kj52 t328).bind fun t354=>(some (t354 == (([65,82] : List UInt8) == ([65,65] : List UInt8))))) else (some false)) else (some false))=some r:=H
                   have A59:=Aside0.mk A590
                   clear A590
                   by_cases c60 : t353=true
                   ·subst c60
                    have H1 : (if t350.toList=([65,82] : List UInt8) then ((accept_Stored.f kj52 t328).bind fun t354=>(some (t354 == (([65,82] : List UInt8) == ([65,65] : List UInt8))))) else (some false))=some r:=by rw [if_pos rfl] at H; exact H
                    clear H
                    have H:=H1
                    clear H1
                    by_cases c61 : t350.toList=([65,82] : List UInt8)
                    ·rw [if_pos c61] at H
                     have c61b0 : (t350.toList == ([65,82] : List UInt8))=true:=beq_iff_eq.mpr c61
                     have c61b1 : (t350.toList != ([65,82] : List UInt8))=false:=bne_eq_false_iff_eq.mpr c61
                     clear c61
                     replace H:=Option.bind_eq_some_iff.mp H
                     obtain ⟨t354,A620,H⟩:=H
                     replace H : (some (t354 == (([65,82] : List UInt8) == ([65,65] : List UInt8))))=some r:=H
                     have A62:=Aside0.mk A620
                     clear A620
                     obtain rfl:=Option.some.inj H
                     clear hrt
                     obtain ⟨Ao63,co63,eo63⟩:=Kd.V_slice HO_12.out
                     subst eo63
                     go_wp2_with (first | ((with_reducible refine gate_callee (f:=10) rfl ?_); refine goesL_ (some 109) rfl rfl Tryd.func10 (by kernel_rfl) rfl #[.slice Ao63 t328.length co63] rfl (by (try simp only [List.map_toArray,List.map_cons,List.map_nil]); first | done | rfl | (simp only [List.length_drop,List.length_take]; rfl)) ?_; (with_reducible refine (accept_Verdict.calls kj52 _ _ t328 t335 t336 t337 t338 t339 t340 t341 t342 t343 t344 t345 t346 t347 t348 t349 t350 t351 _ ?side1 ?side2 A58.out (glob_below HGLOB.out (by repeat (first | (with_reducible first | exact HB.out | apply bA | apply bN | apply bD) | exact HB.out)))).mono ?_); (case side1=>repeat (first | exact (Kd.V_reads' HO_12.out).2.2 | (with_reducible refine Kd.C_alloc ?_ _) | (with_reducible refine Kd.C_drewN ?_ _) | (with_reducible refine Kd.C_drew ?_))); (case side2=>exact (Kd.V_reads' HO_12.out).2.1); rintro e w64 ⟨rfl,hb⟩; refine ⟨_,rfl,?_⟩; have n0_:=Aside0.mk (Kd.V_below (by (with_reducible repeat (first | apply Kd.V_alloc | apply Kd.V_drewN | apply Kd.V_drew)); exact HO_12.out) hb); have n1_:=Aside0.mk (below_step (by repeat (first | (with_reducible first | exact HB.out | apply bA | apply bN | apply bD) | exact HB.out)) hb); clear HO_12; clear HB; have HO_12:=n0_; have HB:=n1_; clear n0_ n1_; (try clear hb)) | ((with_reducible refine gate_dst (N:=17) rfl ?_); refine box_event ?hg (N:=17) ?hd (cs:=#[.int .u8 0, .int .u8 0, .int .u8 0, .int .u8 0, .int .u8 0, .string (⟨#[]⟩ : ByteArray), .string (⟨#[]⟩ : ByteArray), .string (⟨#[]⟩ : ByteArray), .string (⟨#[]⟩ : ByteArray), .string (⟨#[]⟩ : ByteArray), .string (⟨#[]⟩ : ByteArray), .string (⟨#[]⟩ : ByteArray), .string (⟨#[]⟩ : ByteArray), .string (⟨#[]⟩ : ByteArray), .string (⟨#[]⟩ : ByteArray)]) (t:=25) ?hr ?_; (case hd=>rfl); (case hg=>rfl); (case hr=>first | (go_simp; done) | (go_simp; rfl)); intro gb352 hg w65 hbox hb; have n0_:=Aside0.mk (Kd.V_below (Kd.V_elderB (by (with_reducible repeat (first | apply Kd.V_alloc | apply Kd.V_drewN | apply Kd.V_drew)); exact HO_12.out) gb352 (Nat.le_of_eq hg.symm)) hb); have n1_:=Aside0.mk (below_step (by repeat (first | (with_reducible first | exact HB.out | apply bA | apply bN | apply bD) | exact HB.out)) hb); have n2_:=Aside0.mk (hbox); have n3_:=Aside0.mk ((by rw [hg]; exact (below_size (by repeat (first | (with_reducible first | exact HB.out | apply bA | apply bN | apply bD) | exact HB.out))) : w.heap.size≤gb352)); have n4_:=Aside0.mk ((by rw [hg]; exact (below_size (by repeat (first | (with_reducible first | exact HB.out | apply bA | apply bN | apply bD) | exact HB.out))) : w.heap.size≤gb352)); clear HO_12; clear HB; have HO_12:=n0_; have HB:=n1_; have BK352:=n2_; have GW352:=n3_; have GE352:=n4_; clear n0_ n1_ n2_ n3_ n4_; clear hb hbox hg; have hcz66_0:w65.cell? ⟨gb352,0,none⟩=some (.int .u8 0):=blk_cell BK352.out 0; have hcz66_1:w65.cell? ⟨gb352,1,none⟩=some (.int .u8 0):=blk_cell BK352.out 1; have hcz66_2:w65.cell? ⟨gb352,2,none⟩=some (.int .u8 0):=blk_cell BK352.out 2; have hcz66_3:w65.cell? ⟨gb352,3,none⟩=some (.int .u8 0):=blk_cell BK352.out 3; have hcz66_4:w65.cell? ⟨gb352,4,none⟩=some (.int .u8 0):=blk_cell BK352.out 4; have hcz66_5:w65.cell? ⟨gb352,5,none⟩=some (.string (⟨#[]⟩ : ByteArray)):=blk_cell BK352.out 5; have hcz66_6:w65.cell? ⟨gb352,6,none⟩=some (.string (⟨#[]⟩ : ByteArray)):=blk_cell BK352.out 6; have hcz66_7:w65.cell? ⟨gb352,7,none⟩=some (.string (⟨#[]⟩ : ByteArray)):=blk_cell BK352.out 7; have hcz66_8:w65.cell? ⟨gb352,8,none⟩=some (.string (⟨#[]⟩ : ByteArray)):=blk_cell BK352.out 8; have hcz66_9:w65.cell? ⟨gb352,9,none⟩=some (.string (⟨#[]⟩ : ByteArray)):=blk_cell BK352.out 9; have hcz66_10:w65.cell? ⟨gb352,10,none⟩=some (.string (⟨#[]⟩ : ByteArray)):=blk_cell BK352.out 10; have hcz66_11:w65.cell? ⟨gb352,11,none⟩=some (.string (⟨#[]⟩ : ByteArray)):=blk_cell BK352.out 11; have hcz66_12:w65.cell? ⟨gb352,12,none⟩=some (.string (⟨#[]⟩ : ByteArray)):=blk_cell BK352.out 12; have hcz66_13:w65.cell? ⟨gb352,13,none⟩=some (.string (⟨#[]⟩ : ByteArray)):=blk_cell BK352.out 13; have hcz66_14:w65.cell? ⟨gb352,14,none⟩=some (.string (⟨#[]⟩ : ByteArray)):=blk_cell BK352.out 14; have hfz66_0:=blk_frozen BK352.out 0; have hfz66_1:=blk_frozen BK352.out 1; have hfz66_2:=blk_frozen BK352.out 2; have hfz66_3:=blk_frozen BK352.out 3; have hfz66_4:=blk_frozen BK352.out 4; have hfz66_5:=blk_frozen BK352.out 5; have hfz66_6:=blk_frozen BK352.out 6; have hfz66_7:=blk_frozen BK352.out 7; have hfz66_8:=blk_frozen BK352.out 8; have hfz66_9:=blk_frozen BK352.out 9; have hfz66_10:=blk_frozen BK352.out 10; have hfz66_11:=blk_frozen BK352.out 11; have hfz66_12:=blk_frozen BK352.out 12; have hfz66_13:=blk_frozen BK352.out 13; have hfz66_14:=blk_frozen BK352.out 14) | ((with_reducible refine gate_callee (f:=9) rfl ?_); refine goesL_ (some 113) rfl rfl Tryd.func9 (by kernel_rfl) rfl #[] rfl (by (try simp only [List.map_toArray,List.map_cons,List.map_nil]); first | done | rfl | (simp only [List.length_drop,List.length_take]; rfl)) ?_; (with_reducible refine (lamplighterlaw11_alive.calls kj52  true _ A59.out (glob_below HGLOB.out (by repeat (first | (with_reducible first | exact HB.out | apply bA | apply bN | apply bD | refine below_set ?_ GE352.out) | exact HB.out))) (globc_below HGLOC.out (by repeat (first | (with_reducible first | exact HB.out | apply bA | apply bN | apply bD | refine below_set ?_ GE352.out) | exact HB.out))) (globe_below HGLOE.out (by repeat (first | (with_reducible first | exact HB.out | apply bA | apply bN | apply bD | refine below_set ?_ GE352.out) | exact HB.out)))).mono ?_); rintro e w67 ⟨rfl,hb⟩; refine ⟨_,rfl,?_⟩; have n0_:=Aside0.mk (Kd.V_below (by (with_reducible repeat (first | apply Kd.V_alloc | apply Kd.V_drewN | apply Kd.V_drew)); exact (Kd.V_mono (Kd.V_far (p:=⟨gb352,14,none⟩) (Kd.V_far (p:=⟨gb352,13,none⟩) (Kd.V_far (p:=⟨gb352,12,none⟩) (Kd.V_far (p:=⟨gb352,11,none⟩) (Kd.V_far (p:=⟨gb352,10,none⟩) (Kd.V_far (p:=⟨gb352,9,none⟩) (Kd.V_far (p:=⟨gb352,8,none⟩) (Kd.V_far (p:=⟨gb352,7,none⟩) (Kd.V_far (p:=⟨gb352,6,none⟩) (Kd.V_far (p:=⟨gb352,5,none⟩) (Kd.V_far (p:=⟨gb352,4,none⟩) (Kd.V_far (p:=⟨gb352,3,none⟩) (Kd.V_far (p:=⟨gb352,2,none⟩) (Kd.V_far (p:=⟨gb352,1,none⟩) (Kd.V_far (p:=⟨gb352,0,none⟩) (Kd.V_mono HO_12.out (fun k_ hk=>(⟨hk,hk.2⟩ : _∧k_ ≠ gb352))) (fun _ hk=>hk.2) (.int .u8 t335)) (fun _ hk=>hk.2) (.int .u8 t336)) (fun _ hk=>hk.2) (.int .u8 t337)) (fun _ hk=>hk.2) (.int .u8 t338)) (fun _ hk=>hk.2) (.int .u8 t339)) (fun _ hk=>hk.2) (.string t340)) (fun _ hk=>hk.2) (.string t341)) (fun _ hk=>hk.2) (.string t342)) (fun _ hk=>hk.2) (.string t343)) (fun _ hk=>hk.2) (.string t344)) (fun _ hk=>hk.2) (.string t345)) (fun _ hk=>hk.2) (.string t346)) (fun _ hk=>hk.2) (.string t347)) (fun _ hk=>hk.2) (.string t348)) (fun _ hk=>hk.2) (.string t349)) (fun _ h_=>h_.1))) hb); have n1_:=Aside0.mk (blk_below (g:=gb352) (o := .cells #[.int .u8 t335, .int .u8 t336, .int .u8 t337, .int .u8 t338, .int .u8 t339, .string t340, .string t341, .string t342, .string t343, .string t344, .string t345, .string t346, .string t347, .string t348, .string t349] 25 (0,0)) (by (with_reducible repeat (first | refine kN ?_ _ | refine kD ?_ | refine kA ?_ _)); refine blk_put (cs:=#[.int .u8 t335, .int .u8 t336, .int .u8 t337, .int .u8 t338, .int .u8 t339, .string t340, .string t341, .string t342, .string t343, .string t344, .string t345, .string t346, .string t347, .string t348, .string (⟨#[]⟩ : ByteArray)]) ?_ 14 _ rfl; (with_reducible repeat (first | refine kN ?_ _ | refine kD ?_ | refine kA ?_ _)); refine blk_put (cs:=#[.int .u8 t335, .int .u8 t336, .int .u8 t337, .int .u8 t338, .int .u8 t339, .string t340, .string t341, .string t342, .string t343, .string t344, .string t345, .string t346, .string t347, .string (⟨#[]⟩ : ByteArray), .string (⟨#[]⟩ : ByteArray)]) ?_ 13 _ rfl; (with_reducible repeat (first | refine kN ?_ _ | refine kD ?_ | refine kA ?_ _)); refine blk_put (cs:=#[.int .u8 t335, .int .u8 t336, .int .u8 t337, .int .u8 t338, .int .u8 t339, .string t340, .string t341, .string t342, .string t343, .string t344, .string t345, .string t346, .string (⟨#[]⟩ : ByteArray), .string (⟨#[]⟩ : ByteArray), .string (⟨#[]⟩ : ByteArray)]) ?_ 12 _ rfl; (with_reducible repeat (first | refine kN ?_ _ | refine kD ?_ | refine kA ?_ _)); refine blk_put (cs:=#[.int .u8 t335, .int .u8 t336, .int .u8 t337, .int .u8 t338, .int .u8 t339, .string t340, .string t341, .string t342, .string t343, .string t344, .string t345, .string (⟨#[]⟩ : ByteArray), .string (⟨#[]⟩ : ByteArray), .string (⟨#[]⟩ : ByteArray), .string (⟨#[]⟩ : ByteArray)]) ?_ 11 _ rfl; (with_reducible repeat (first | refine kN ?_ _ | refine kD ?_ | refine kA ?_ _)); refine blk_put (cs:=#[.int .u8 t335, .int .u8 t336, .int .u8 t337, .int .u8 t338, .int .u8 t339, .string t340, .string t341, .string t342, .string t343, .string t344, .string (⟨#[]⟩ : ByteArray), .string (⟨#[]⟩ : ByteArray), .string (⟨#[]⟩ : ByteArray), .string (⟨#[]⟩ : ByteArray), .string (⟨#[]⟩ : ByteArray)]) ?_ 10 _ rfl; (with_reducible repeat (first | refine kN ?_ _ | refine kD ?_ | refine kA ?_ _)); refine blk_put (cs:=#[.int .u8 t335, .int .u8 t336, .int .u8 t337, .int .u8 t338, .int .u8 t339, .string t340, .string t341, .string t342, .string t343, .string (⟨#[]⟩ : ByteArray), .string (⟨#[]⟩ : ByteArray), .string (⟨#[]⟩ : ByteArray), .string (⟨#[]⟩ : ByteArray), .string (⟨#[]⟩ : ByteArray), .string (⟨#[]⟩ : ByteArray)]) ?_ 9 _ rfl; (with_reducible repeat (first | refine kN ?_ _ | refine kD ?_ | refine kA ?_ _)); refine blk_put (cs:=#[.int .u8 t335, .int .u8 t336, .int .u8 t337, .int .u8 t338, .int .u8 t339, .string t340, .string t341, .string t342, .string (⟨#[]⟩ : ByteArray), .string (⟨#[]⟩ : ByteArray), .string (⟨#[]⟩ : ByteArray), .string (⟨#[]⟩ : ByteArray), .string (⟨#[]⟩ : ByteArray), .string (⟨#[]⟩ : ByteArray), .string (⟨#[]⟩ : ByteArray)]) ?_ 8 _ rfl; (with_reducible repeat (first | refine kN ?_ _ | refine kD ?_ | refine kA ?_ _)); refine blk_put (cs:=#[.int .u8 t335, .int .u8 t336, .int .u8 t337, .int .u8 t338, .int .u8 t339, .string t340, .string t341, .string (⟨#[]⟩ : ByteArray), .string (⟨#[]⟩ : ByteArray), .string (⟨#[]⟩ : ByteArray), .string (⟨#[]⟩ : ByteArray), .string (⟨#[]⟩ : ByteArray), .string (⟨#[]⟩ : ByteArray), .string (⟨#[]⟩ : ByteArray), .string (⟨#[]⟩ : ByteArray)]) ?_ 7 _ rfl; (with_reducible repeat (first | refine kN ?_ _ | refine kD ?_ | refine kA ?_ _)); refine blk_put (cs:=#[.int .u8 t335, .int .u8 t336, .int .u8 t337, .int .u8 t338, .int .u8 t339, .string t340, .string (⟨#[]⟩ : ByteArray), .string (⟨#[]⟩ : ByteArray), .string (⟨#[]⟩ : ByteArray), .string (⟨#[]⟩ : ByteArray), .string (⟨#[]⟩ : ByteArray), .string (⟨#[]⟩ : ByteArray), .string (⟨#[]⟩ : ByteArray), .string (⟨#[]⟩ : ByteArray), .string (⟨#[]⟩ : ByteArray)]) ?_ 6 _ rfl; (with_reducible repeat (first | refine kN ?_ _ | refine kD ?_ | refine kA ?_ _)); refine blk_put (cs:=#[.int .u8 t335, .int .u8 t336, .int .u8 t337, .int .u8 t338, .int .u8 t339, .string (⟨#[]⟩ : ByteArray), .string (⟨#[]⟩ : ByteArray), .string (⟨#[]⟩ : ByteArray), .string (⟨#[]⟩ : ByteArray), .string (⟨#[]⟩ : ByteArray), .string (⟨#[]⟩ : ByteArray), .string (⟨#[]⟩ : ByteArray), .string (⟨#[]⟩ : ByteArray), .string (⟨#[]⟩ : ByteArray), .string (⟨#[]⟩ : ByteArray)]) ?_ 5 _ rfl; (with_reducible repeat (first | refine kN ?_ _ | refine kD ?_ | refine kA ?_ _)); refine blk_put (cs:=#[.int .u8 t335, .int .u8 t336, .int .u8 t337, .int .u8 t338, .int .u8 0, .string (⟨#[]⟩ : ByteArray), .string (⟨#[]⟩ : ByteArray), .string (⟨#[]⟩ : ByteArray), .string (⟨#[]⟩ : ByteArray), .string (⟨#[]⟩ : ByteArray), .string (⟨#[]⟩ : ByteArray), .string (⟨#[]⟩ : ByteArray), .string (⟨#[]⟩ : ByteArray), .string (⟨#[]⟩ : ByteArray), .string (⟨#[]⟩ : ByteArray)]) ?_ 4 _ rfl; (with_reducible repeat (first | refine kN ?_ _ | refine kD ?_ | refine kA ?_ _)); refine blk_put (cs:=#[.int .u8 t335, .int .u8 t336, .int .u8 t337, .int .u8 0, .int .u8 0, .string (⟨#[]⟩ : ByteArray), .string (⟨#[]⟩ : ByteArray), .string (⟨#[]⟩ : ByteArray), .string (⟨#[]⟩ : ByteArray), .string (⟨#[]⟩ : ByteArray), .string (⟨#[]⟩ : ByteArray), .string (⟨#[]⟩ : ByteArray), .string (⟨#[]⟩ : ByteArray), .string (⟨#[]⟩ : ByteArray), .string (⟨#[]⟩ : ByteArray)]) ?_ 3 _ rfl; (with_reducible repeat (first | refine kN ?_ _ | refine kD ?_ | refine kA ?_ _)); refine blk_put (cs:=#[.int .u8 t335, .int .u8 t336, .int .u8 0, .int .u8 0, .int .u8 0, .string (⟨#[]⟩ : ByteArray), .string (⟨#[]⟩ : ByteArray), .string (⟨#[]⟩ : ByteArray), .string (⟨#[]⟩ : ByteArray), .string (⟨#[]⟩ : ByteArray), .string (⟨#[]⟩ : ByteArray), .string (⟨#[]⟩ : ByteArray), .string (⟨#[]⟩ : ByteArray), .string (⟨#[]⟩ : ByteArray), .string (⟨#[]⟩ : ByteArray)]) ?_ 2 _ rfl; (with_reducible repeat (first | refine kN ?_ _ | refine kD ?_ | refine kA ?_ _)); refine blk_put (cs:=#[.int .u8 t335, .int .u8 0, .int .u8 0, .int .u8 0, .int .u8 0, .string (⟨#[]⟩ : ByteArray), .string (⟨#[]⟩ : ByteArray), .string (⟨#[]⟩ : ByteArray), .string (⟨#[]⟩ : ByteArray), .string (⟨#[]⟩ : ByteArray), .string (⟨#[]⟩ : ByteArray), .string (⟨#[]⟩ : ByteArray), .string (⟨#[]⟩ : ByteArray), .string (⟨#[]⟩ : ByteArray), .string (⟨#[]⟩ : ByteArray)]) ?_ 1 _ rfl; (with_reducible repeat (first | refine kN ?_ _ | refine kD ?_ | refine kA ?_ _)); refine blk_put (cs:=#[.int .u8 0, .int .u8 0, .int .u8 0, .int .u8 0, .int .u8 0, .string (⟨#[]⟩ : ByteArray), .string (⟨#[]⟩ : ByteArray), .string (⟨#[]⟩ : ByteArray), .string (⟨#[]⟩ : ByteArray), .string (⟨#[]⟩ : ByteArray), .string (⟨#[]⟩ : ByteArray), .string (⟨#[]⟩ : ByteArray), .string (⟨#[]⟩ : ByteArray), .string (⟨#[]⟩ : ByteArray), .string (⟨#[]⟩ : ByteArray)]) ?_ 0 _ rfl; (with_reducible repeat (first | refine kN ?_ _ | refine kD ?_ | refine kA ?_ _)); exact BK352.out) hb); have n2_:=Aside0.mk (below_step (by repeat (first | (with_reducible first | exact HB.out | apply bA | apply bN | apply bD | refine below_set ?_ GE352.out) | exact HB.out)) hb); clear HO_12; clear BK352; clear HB; have HO_12:=n0_; have BK352:=n1_; have HB:=n2_; clear n0_ n1_ n2_; (try clear hb)) | (go_at_call 13; (with_reducible refine (accept_Stored.calls kj52 _ _ t328 t354 _ ?side1 ?side2 A62.out (glob_below HGLOB.out (by repeat (first | (with_reducible first | exact HB.out | apply bA | apply bN | apply bD | refine below_set ?_ GE352.out) | exact HB.out)))).mono ?_); (case side1=>repeat (first | exact (Kd.V_reads' HO_12.out).2.2 | (with_reducible refine Kd.C_alloc ?_ _) | (with_reducible refine Kd.C_drewN ?_ _) | (with_reducible refine Kd.C_drew ?_))); (case side2=>exact (Kd.V_reads' HO_12.out).2.1); rintro e w68 ⟨rfl,hb⟩; have n0_:=Aside0.mk (Kd.V_below (by (with_reducible repeat (first | apply Kd.V_alloc | apply Kd.V_drewN | apply Kd.V_drew)); exact HO_12.out) hb); have n1_:=Aside0.mk (blk_below (g:=gb352) (o := .cells #[.int .u8 t335, .int .u8 t336, .int .u8 t337, .int .u8 t338, .int .u8 t339, .string t340, .string t341, .string t342, .string t343, .string t344, .string t345, .string t346, .string t347, .string t348, .string t349] 25 (0,0)) (by (with_reducible repeat (first | refine kN ?_ _ | refine kD ?_ | refine kA ?_ _)); exact BK352.out) hb); have n2_:=Aside0.mk (below_step (by repeat (first | (with_reducible first | exact HB.out | apply bA | apply bN | apply bD | refine below_set ?_ GE352.out) | exact HB.out)) hb); clear HO_12; clear BK352; clear HB; have HO_12:=n0_; have BK352:=n1_; have HB:=n2_; clear n0_ n1_ n2_; (try clear hb)))
                     go_ret
                     exact ⟨by first | rfl | (simp [errW_none,errW_some] <;> rfl) | (simp [*,errW_none,errW_some] <;> rfl),by repeat (first | (with_reducible first | exact HB.out | apply bA | apply bN | apply bD | refine below_set ?_ GE352.out) | exact HB.out)⟩
                    ·rw [if_neg c61] at H
                     have c61b0 : (t350.toList == ([65,82] : List UInt8))=false:=beq_eq_false_iff_ne.mpr c61
                     have c61b1 : (t350.toList != ([65,82] : List UInt8))=true:=bne_iff_ne.mpr c61
                     obtain rfl:=Option.some.inj H
                     cases hrt
                   ·replace c60:=Bool.eq_false_iff.mpr c60
                    subst c60
                    have H1 : (some false)=some r:=by rw [if_neg (show ¬ (false=true) by decide)] at H; exact H
                    clear H
                    have H:=H1
                    clear H1
                    obtain rfl:=Option.some.inj H
                    cases hrt
                  ·replace c57:=Bool.eq_false_iff.mpr c57
                   subst c57
                   have H1 : ((accept_Verdict.f kj52 t328).bind fun bt355=>((lamplighterlaw11_alive.f kj52).bind fun t373=>(if t373=true then (if bt355.2.2.2.2.2.2.2.2.2.2.2.2.2.2.2.1.toList=(⟨#[65,65]⟩ : ByteArray).toList then ((accept_Stored.f kj52 t328).bind fun t374=>(some (t374 == ((⟨#[65,65]⟩ : ByteArray).toList == ([65,65] : List UInt8))))) else (some false)) else (some false))))=some r:=by rw [if_neg (show ¬ (false=true) by decide)] at H; exact H
                   clear H
                   have H:=H1
                   clear H1
                   replace H:=Option.bind_eq_some_iff.mp H
                   obtain ⟨⟨t355,t356,t357,t358,t359,t360,t361,t362,t363,t364,t365,t366,t367,t368,t369,t370,t371⟩,A790,H⟩:=H
                   replace H : ((lamplighterlaw11_alive.f kj52).bind fun t373=>(if t373=true then (if t370.toList=(⟨#[65,65]⟩ : ByteArray).toList then ((accept_Stored.f kj52 t328).bind fun t374=>(some (t374 == ((⟨#[65,65]⟩ : ByteArray).toList == ([65,65] : List UInt8))))) else (some false)) else (some false)))=some r:=H
                   have A79:=Aside0.mk A790
                   clear A790
                   replace H:=Option.bind_eq_some_iff.mp H
                   obtain ⟨t373,A800,H⟩:=H
                   replace H : (if t373=true then (if t370.toList=(⟨#[65,65]⟩ : ByteArray).toList then ((accept_Stored.f kj52 t328).bind fun t374=>(some (t374 == ((⟨#[65,65]⟩ : ByteArray).toList == ([65,65] : List UInt8))))) else (some false)) else (some false))=some r:=H
                   have A80:=Aside0.mk A800
                   clear A800
                   by_cases c81 : t373=true
                   ·subst c81
                    have H1 : (if t370.toList=(⟨#[65,65]⟩ : ByteArray).toList then ((accept_Stored.f kj52 t328).bind fun t374=>(some (t374 == ((⟨#[65,65]⟩ : ByteArray).toList == ([65,65] : List UInt8))))) else (some false))=some r:=by rw [if_pos rfl] at H; exact H
                    clear H
                    have H:=H1
                    clear H1
                    by_cases c82 : t370.toList=(⟨#[65,65]⟩ : ByteArray).toList
                    ·rw [if_pos c82] at H
                     have c82b0 : (t370.toList == (⟨#[65,65]⟩ : ByteArray).toList)=true:=beq_iff_eq.mpr c82
                     have c82b1 : (t370.toList != (⟨#[65,65]⟩ : ByteArray).toList)=false:=bne_eq_false_iff_eq.mpr c82
                     have zy82 : t370.toList=([65,65] : List UInt8):=by have h:=beq_iff_eq.mp c82b0; rw [Lib.toList_data ⟨#[65,65]⟩] at h; exact h
                     have zx82 : (t370.toList == ([65,65] : List UInt8))=true:=beq_iff_eq.mpr zy82
                     clear c82
                     replace H:=Option.bind_eq_some_iff.mp H
                     obtain ⟨t374,A830,H⟩:=H
                     replace H : (some (t374 == ((⟨#[65,65]⟩ : ByteArray).toList == ([65,65] : List UInt8))))=some r:=H
                     have A83:=Aside0.mk A830
                     clear A830
                     obtain rfl:=Option.some.inj H
                     clear hrt
                     obtain ⟨Ao84,co84,eo84⟩:=Kd.V_slice HO_12.out
                     subst eo84
                     go_wp2_with (first | ((with_reducible refine gate_callee (f:=10) rfl ?_); refine goesL_ (some 109) rfl rfl Tryd.func10 (by kernel_rfl) rfl #[.slice Ao84 t328.length co84] rfl (by (try simp only [List.map_toArray,List.map_cons,List.map_nil]); first | done | rfl | (simp only [List.length_drop,List.length_take]; rfl)) ?_; (with_reducible refine (accept_Verdict.calls kj52 _ _ t328 t355 t356 t357 t358 t359 t360 t361 t362 t363 t364 t365 t366 t367 t368 t369 t370 t371 _ ?side1 ?side2 A79.out (glob_below HGLOB.out (by repeat (first | (with_reducible first | exact HB.out | apply bA | apply bN | apply bD) | exact HB.out)))).mono ?_); (case side1=>repeat (first | exact (Kd.V_reads' HO_12.out).2.2 | (with_reducible refine Kd.C_alloc ?_ _) | (with_reducible refine Kd.C_drewN ?_ _) | (with_reducible refine Kd.C_drew ?_))); (case side2=>exact (Kd.V_reads' HO_12.out).2.1); rintro e w85 ⟨rfl,hb⟩; refine ⟨_,rfl,?_⟩; have n0_:=Aside0.mk (Kd.V_below (by (with_reducible repeat (first | apply Kd.V_alloc | apply Kd.V_drewN | apply Kd.V_drew)); exact HO_12.out) hb); have n1_:=Aside0.mk (below_step (by repeat (first | (with_reducible first | exact HB.out | apply bA | apply bN | apply bD) | exact HB.out)) hb); clear HO_12; clear HB; have HO_12:=n0_; have HB:=n1_; clear n0_ n1_; (try clear hb)) | ((with_reducible refine gate_dst (N:=17) rfl ?_); refine box_event ?hg (N:=17) ?hd (cs:=#[.int .u8 0, .int .u8 0, .int .u8 0, .int .u8 0, .int .u8 0, .string (⟨#[]⟩ : ByteArray), .string (⟨#[]⟩ : ByteArray), .string (⟨#[]⟩ : ByteArray), .string (⟨#[]⟩ : ByteArray), .string (⟨#[]⟩ : ByteArray), .string (⟨#[]⟩ : ByteArray), .string (⟨#[]⟩ : ByteArray), .string (⟨#[]⟩ : ByteArray), .string (⟨#[]⟩ : ByteArray), .string (⟨#[]⟩ : ByteArray)]) (t:=25) ?hr ?_; (case hd=>rfl); (case hg=>rfl); (case hr=>first | (go_simp; done) | (go_simp; rfl)); intro gb372 hg w86 hbox hb; have n0_:=Aside0.mk (Kd.V_below (Kd.V_elderB (by (with_reducible repeat (first | apply Kd.V_alloc | apply Kd.V_drewN | apply Kd.V_drew)); exact HO_12.out) gb372 (Nat.le_of_eq hg.symm)) hb); have n1_:=Aside0.mk (below_step (by repeat (first | (with_reducible first | exact HB.out | apply bA | apply bN | apply bD) | exact HB.out)) hb); have n2_:=Aside0.mk (hbox); have n3_:=Aside0.mk ((by rw [hg]; exact (below_size (by repeat (first | (with_reducible first | exact HB.out | apply bA | apply bN | apply bD) | exact HB.out))) : w.heap.size≤gb372)); have n4_:=Aside0.mk ((by rw [hg]; exact (below_size (by repeat (first | (with_reducible first | exact HB.out | apply bA | apply bN | apply bD) | exact HB.out))) : w.heap.size≤gb372)); clear HO_12; clear HB; have HO_12:=n0_; have HB:=n1_; have BK372:=n2_; have GW372:=n3_; have GE372:=n4_; clear n0_ n1_ n2_ n3_ n4_; clear hb hbox hg; have hcz87_0:w86.cell? ⟨gb372,0,none⟩=some (.int .u8 0):=blk_cell BK372.out 0; have hcz87_1:w86.cell? ⟨gb372,1,none⟩=some (.int .u8 0):=blk_cell BK372.out 1; have hcz87_2:w86.cell? ⟨gb372,2,none⟩=some (.int .u8 0):=blk_cell BK372.out 2; have hcz87_3:w86.cell? ⟨gb372,3,none⟩=some (.int .u8 0):=blk_cell BK372.out 3; have hcz87_4:w86.cell? ⟨gb372,4,none⟩=some (.int .u8 0):=blk_cell BK372.out 4; have hcz87_5:w86.cell? ⟨gb372,5,none⟩=some (.string (⟨#[]⟩ : ByteArray)):=blk_cell BK372.out 5; have hcz87_6:w86.cell? ⟨gb372,6,none⟩=some (.string (⟨#[]⟩ : ByteArray)):=blk_cell BK372.out 6; have hcz87_7:w86.cell? ⟨gb372,7,none⟩=some (.string (⟨#[]⟩ : ByteArray)):=blk_cell BK372.out 7; have hcz87_8:w86.cell? ⟨gb372,8,none⟩=some (.string (⟨#[]⟩ : ByteArray)):=blk_cell BK372.out 8; have hcz87_9:w86.cell? ⟨gb372,9,none⟩=some (.string (⟨#[]⟩ : ByteArray)):=blk_cell BK372.out 9; have hcz87_10:w86.cell? ⟨gb372,10,none⟩=some (.string (⟨#[]⟩ : ByteArray)):=blk_cell BK372.out 10; have hcz87_11:w86.cell? ⟨gb372,11,none⟩=some (.string (⟨#[]⟩ : ByteArray)):=blk_cell BK372.out 11; have hcz87_12:w86.cell? ⟨gb372,12,none⟩=some (.string (⟨#[]⟩ : ByteArray)):=blk_cell BK372.out 12; have hcz87_13:w86.cell? ⟨gb372,13,none⟩=some (.string (⟨#[]⟩ : ByteArray)):=blk_cell BK372.out 13; have hcz87_14:w86.cell? ⟨gb372,14,none⟩=some (.string (⟨#[]⟩ : ByteArray)):=blk_cell BK372.out 14; have hfz87_0:=blk_frozen BK372.out 0; have hfz87_1:=blk_frozen BK372.out 1; have hfz87_2:=blk_frozen BK372.out 2; have hfz87_3:=blk_frozen BK372.out 3; have hfz87_4:=blk_frozen BK372.out 4; have hfz87_5:=blk_frozen BK372.out 5; have hfz87_6:=blk_frozen BK372.out 6; have hfz87_7:=blk_frozen BK372.out 7; have hfz87_8:=blk_frozen BK372.out 8; have hfz87_9:=blk_frozen BK372.out 9; have hfz87_10:=blk_frozen BK372.out 10; have hfz87_11:=blk_frozen BK372.out 11; have hfz87_12:=blk_frozen BK372.out 12; have hfz87_13:=blk_frozen BK372.out 13; have hfz87_14:=blk_frozen BK372.out 14) | ((with_reducible refine gate_callee (f:=9) rfl ?_); refine goesL_ (some 113) rfl rfl Tryd.func9 (by kernel_rfl) rfl #[] rfl (by (try simp only [List.map_toArray,List.map_cons,List.map_nil]); first | done | rfl | (simp only [List.length_drop,List.length_take]; rfl)) ?_; (with_reducible refine (lamplighterlaw11_alive.calls kj52  true _ A80.out (glob_below HGLOB.out (by repeat (first | (with_reducible first | exact HB.out | apply bA | apply bN | apply bD | refine below_set ?_ GE372.out) | exact HB.out))) (globc_below HGLOC.out (by repeat (first | (with_reducible first | exact HB.out | apply bA | apply bN | apply bD | refine below_set ?_ GE372.out) | exact HB.out))) (globe_below HGLOE.out (by repeat (first | (with_reducible first | exact HB.out | apply bA | apply bN | apply bD | refine below_set ?_ GE372.out) | exact HB.out)))).mono ?_); rintro e w88 ⟨rfl,hb⟩; refine ⟨_,rfl,?_⟩; have n0_:=Aside0.mk (Kd.V_below (by (with_reducible repeat (first | apply Kd.V_alloc | apply Kd.V_drewN | apply Kd.V_drew)); exact (Kd.V_mono (Kd.V_far (p:=⟨gb372,14,none⟩) (Kd.V_far (p:=⟨gb372,13,none⟩) (Kd.V_far (p:=⟨gb372,12,none⟩) (Kd.V_far (p:=⟨gb372,11,none⟩) (Kd.V_far (p:=⟨gb372,10,none⟩) (Kd.V_far (p:=⟨gb372,9,none⟩) (Kd.V_far (p:=⟨gb372,8,none⟩) (Kd.V_far (p:=⟨gb372,7,none⟩) (Kd.V_far (p:=⟨gb372,6,none⟩) (Kd.V_far (p:=⟨gb372,5,none⟩) (Kd.V_far (p:=⟨gb372,4,none⟩) (Kd.V_far (p:=⟨gb372,3,none⟩) (Kd.V_far (p:=⟨gb372,2,none⟩) (Kd.V_far (p:=⟨gb372,1,none⟩) (Kd.V_far (p:=⟨gb372,0,none⟩) (Kd.V_mono HO_12.out (fun k_ hk=>(⟨hk,hk.2⟩ : _∧k_ ≠ gb372))) (fun _ hk=>hk.2) (.int .u8 t355)) (fun _ hk=>hk.2) (.int .u8 t356)) (fun _ hk=>hk.2) (.int .u8 t357)) (fun _ hk=>hk.2) (.int .u8 t358)) (fun _ hk=>hk.2) (.int .u8 t359)) (fun _ hk=>hk.2) (.string t360)) (fun _ hk=>hk.2) (.string t361)) (fun _ hk=>hk.2) (.string t362)) (fun _ hk=>hk.2) (.string t363)) (fun _ hk=>hk.2) (.string t364)) (fun _ hk=>hk.2) (.string t365)) (fun _ hk=>hk.2) (.string t366)) (fun _ hk=>hk.2) (.string t367)) (fun _ hk=>hk.2) (.string t368)) (fun _ hk=>hk.2) (.string t369)) (fun _ h_=>h_.1))) hb); have n1_:=Aside0.mk (blk_below (g:=gb372) (o := .cells #[.int .u8 t355, .int .u8 t356, .int .u8 t357, .int .u8 t358, .int .u8 t359, .string t360, .string t361, .string t362, .string t363, .string t364, .string t365, .string t366, .string t367, .string t368, .string t369] 25 (0,0)) (by (with_reducible repeat (first | refine kN ?_ _ | refine kD ?_ | refine kA ?_ _)); refine blk_put (cs:=#[.int .u8 t355, .int .u8 t356, .int .u8 t357, .int .u8 t358, .int .u8 t359, .string t360, .string t361, .string t362, .string t363, .string t364, .string t365, .string t366, .string t367, .string t368, .string (⟨#[]⟩ : ByteArray)]) ?_ 14 _ rfl; (with_reducible repeat (first | refine kN ?_ _ | refine kD ?_ | refine kA ?_ _)); refine blk_put (cs:=#[.int .u8 t355, .int .u8 t356, .int .u8 t357, .int .u8 t358, .int .u8 t359, .string t360, .string t361, .string t362, .string t363, .string t364, .string t365, .string t366, .string t367, .string (⟨#[]⟩ : ByteArray), .string (⟨#[]⟩ : ByteArray)]) ?_ 13 _ rfl; (with_reducible repeat (first | refine kN ?_ _ | refine kD ?_ | refine kA ?_ _)); refine blk_put (cs:=#[.int .u8 t355, .int .u8 t356, .int .u8 t357, .int .u8 t358, .int .u8 t359, .string t360, .string t361, .string t362, .string t363, .string t364, .string t365, .string t366, .string (⟨#[]⟩ : ByteArray), .string (⟨#[]⟩ : ByteArray), .string (⟨#[]⟩ : ByteArray)]) ?_ 12 _ rfl; (with_reducible repeat (first | refine kN ?_ _ | refine kD ?_ | refine kA ?_ _)); refine blk_put (cs:=#[.int .u8 t355, .int .u8 t356, .int .u8 t357, .int .u8 t358, .int .u8 t359, .string t360, .string t361, .string t362, .string t363, .string t364, .string t365, .string (⟨#[]⟩ : ByteArray), .string (⟨#[]⟩ : ByteArray), .string (⟨#[]⟩ : ByteArray), .string (⟨#[]⟩ : ByteArray)]) ?_ 11 _ rfl; (with_reducible repeat (first | refine kN ?_ _ | refine kD ?_ | refine kA ?_ _)); refine blk_put (cs:=#[.int .u8 t355, .int .u8 t356, .int .u8 t357, .int .u8 t358, .int .u8 t359, .string t360, .string t361, .string t362, .string t363, .string t364, .string (⟨#[]⟩ : ByteArray), .string (⟨#[]⟩ : ByteArray), .string (⟨#[]⟩ : ByteArray), .string (⟨#[]⟩ : ByteArray), .string (⟨#[]⟩ : ByteArray)]) ?_ 10 _ rfl; (with_reducible repeat (first | refine kN ?_ _ | refine kD ?_ | refine kA ?_ _)); refine blk_put (cs:=#[.int .u8 t355, .int .u8 t356, .int .u8 t357, .int .u8 t358, .int .u8 t359, .string t360, .string t361, .string t362, .string t363, .string (⟨#[]⟩ : ByteArray), .string (⟨#[]⟩ : ByteArray), .string (⟨#[]⟩ : ByteArray), .string (⟨#[]⟩ : ByteArray), .string (⟨#[]⟩ : ByteArray), .string (⟨#[]⟩ : ByteArray)]) ?_ 9 _ rfl; (with_reducible repeat (first | refine kN ?_ _ | refine kD ?_ | refine kA ?_ _)); refine blk_put (cs:=#[.int .u8 t355, .int .u8 t356, .int .u8 t357, .int .u8 t358, .int .u8 t359, .string t360, .string t361, .string t362, .string (⟨#[]⟩ : ByteArray), .string (⟨#[]⟩ : ByteArray), .string (⟨#[]⟩ : ByteArray), .string (⟨#[]⟩ : ByteArray), .string (⟨#[]⟩ : ByteArray), .string (⟨#[]⟩ : ByteArray), .string (⟨#[]⟩ : ByteArray)]) ?_ 8 _ rfl; (with_reducible repeat (first | refine kN ?_ _ | refine kD ?_ | refine kA ?_ _)); refine blk_put (cs:=#[.int .u8 t355, .int .u8 t356, .int .u8 t357, .int .u8 t358, .int .u8 t359, .string t360, .string t361, .string (⟨#[]⟩ : ByteArray), .string (⟨#[]⟩ : ByteArray), .string (⟨#[]⟩ : ByteArray), .string (⟨#[]⟩ : ByteArray), .string (⟨#[]⟩ : ByteArray), .string (⟨#[]⟩ : ByteArray), .string (⟨#[]⟩ : ByteArray), .string (⟨#[]⟩ : ByteArray)]) ?_ 7 _ rfl; (with_reducible repeat (first | refine kN ?_ _ | refine kD ?_ | refine kA ?_ _)); refine blk_put (cs:=#[.int .u8 t355, .int .u8 t356, .int .u8 t357, .int .u8 t358, .int .u8 t359, .string t360, .string (⟨#[]⟩ : ByteArray), .string (⟨#[]⟩ : ByteArray), .string (⟨#[]⟩ : ByteArray), .string (⟨#[]⟩ : ByteArray), .string (⟨#[]⟩ : ByteArray), .string (⟨#[]⟩ : ByteArray), .string (⟨#[]⟩ : ByteArray), .string (⟨#[]⟩ : ByteArray), .string (⟨#[]⟩ : ByteArray)]) ?_ 6 _ rfl; (with_reducible repeat (first | refine kN ?_ _ | refine kD ?_ | refine kA ?_ _)); refine blk_put (cs:=#[.int .u8 t355, .int .u8 t356, .int .u8 t357, .int .u8 t358, .int .u8 t359, .string (⟨#[]⟩ : ByteArray), .string (⟨#[]⟩ : ByteArray), .string (⟨#[]⟩ : ByteArray), .string (⟨#[]⟩ : ByteArray), .string (⟨#[]⟩ : ByteArray), .string (⟨#[]⟩ : ByteArray), .string (⟨#[]⟩ : ByteArray), .string (⟨#[]⟩ : ByteArray), .string (⟨#[]⟩ : ByteArray), .string (⟨#[]⟩ : ByteArray)]) ?_ 5 _ rfl; (with_reducible repeat (first | refine kN ?_ _ | refine kD ?_ | refine kA ?_ _)); refine blk_put (cs:=#[.int .u8 t355, .int .u8 t356, .int .u8 t357, .int .u8 t358, .int .u8 0, .string (⟨#[]⟩ : ByteArray), .string (⟨#[]⟩ : ByteArray), .string (⟨#[]⟩ : ByteArray), .string (⟨#[]⟩ : ByteArray), .string (⟨#[]⟩ : ByteArray), .string (⟨#[]⟩ : ByteArray), .string (⟨#[]⟩ : ByteArray), .string (⟨#[]⟩ : ByteArray), .string (⟨#[]⟩ : ByteArray), .string (⟨#[]⟩ : ByteArray)]) ?_ 4 _ rfl; (with_reducible repeat (first | refine kN ?_ _ | refine kD ?_ | refine kA ?_ _)); refine blk_put (cs:=#[.int .u8 t355, .int .u8 t356, .int .u8 t357, .int .u8 0, .int .u8 0, .string (⟨#[]⟩ : ByteArray), .string (⟨#[]⟩ : ByteArray), .string (⟨#[]⟩ : ByteArray), .string (⟨#[]⟩ : ByteArray), .string (⟨#[]⟩ : ByteArray), .string (⟨#[]⟩ : ByteArray), .string (⟨#[]⟩ : ByteArray), .string (⟨#[]⟩ : ByteArray), .string (⟨#[]⟩ : ByteArray), .string (⟨#[]⟩ : ByteArray)]) ?_ 3 _ rfl; (with_reducible repeat (first | refine kN ?_ _ | refine kD ?_ | refine kA ?_ _)); refine blk_put (cs:=#[.int .u8 t355, .int .u8 t356, .int .u8 0, .int .u8 0, .int .u8 0, .string (⟨#[]⟩ : ByteArray), .string (⟨#[]⟩ : ByteArray), .string (⟨#[]⟩ : ByteArray), .string (⟨#[]⟩ : ByteArray), .string (⟨#[]⟩ : ByteArray), .string (⟨#[]⟩ : ByteArray), .string (⟨#[]⟩ : ByteArray), .string (⟨#[]⟩ : ByteArray), .string (⟨#[]⟩ : ByteArray), .string (⟨#[]⟩ : ByteArray)]) ?_ 2 _ rfl; (with_reducible repeat (first | refine kN ?_ _ | refine kD ?_ | refine kA ?_ _)); refine blk_put (cs:=#[.int .u8 t355, .int .u8 0, .int .u8 0, .int .u8 0, .int .u8 0, .string (⟨#[]⟩ : ByteArray), .string (⟨#[]⟩ : ByteArray), .string (⟨#[]⟩ : ByteArray), .string (⟨#[]⟩ : ByteArray), .string (⟨#[]⟩ : ByteArray), .string (⟨#[]⟩ : ByteArray), .string (⟨#[]⟩ : ByteArray), .string (⟨#[]⟩ : ByteArray), .string (⟨#[]⟩ : ByteArray), .string (⟨#[]⟩ : ByteArray)]) ?_ 1 _ rfl; (with_reducible repeat (first | refine kN ?_ _ | refine kD ?_ | refine kA ?_ _)); refine blk_put (cs:=#[.int .u8 0, .int .u8 0, .int .u8 0, .int .u8 0, .int .u8 0, .string (⟨#[]⟩ : ByteArray), .string (⟨#[]⟩ : ByteArray), .string (⟨#[]⟩ : ByteArray), .string (⟨#[]⟩ : ByteArray), .string (⟨#[]⟩ : ByteArray), .string (⟨#[]⟩ : ByteArray), .string (⟨#[]⟩ : ByteArray), .string (⟨#[]⟩ : ByteArray), .string (⟨#[]⟩ : ByteArray), .string (⟨#[]⟩ : ByteArray)]) ?_ 0 _ rfl; (with_reducible repeat (first | refine kN ?_ _ | refine kD ?_ | refine kA ?_ _)); exact BK372.out) hb); have n2_:=Aside0.mk (below_step (by repeat (first | (with_reducible first | exact HB.out | apply bA | apply bN | apply bD | refine below_set ?_ GE372.out) | exact HB.out)) hb); clear HO_12; clear BK372; clear HB; have HO_12:=n0_; have BK372:=n1_; have HB:=n2_; clear n0_ n1_ n2_; (try clear hb)) | (go_at_call 13; (with_reducible refine (accept_Stored.calls kj52 _ _ t328 t374 _ ?side1 ?side2 A83.out (glob_below HGLOB.out (by repeat (first | (with_reducible first | exact HB.out | apply bA | apply bN | apply bD | refine below_set ?_ GE372.out) | exact HB.out)))).mono ?_); (case side1=>repeat (first | exact (Kd.V_reads' HO_12.out).2.2 | (with_reducible refine Kd.C_alloc ?_ _) | (with_reducible refine Kd.C_drewN ?_ _) | (with_reducible refine Kd.C_drew ?_))); (case side2=>exact (Kd.V_reads' HO_12.out).2.1); rintro e w89 ⟨rfl,hb⟩; have n0_:=Aside0.mk (Kd.V_below (by (with_reducible repeat (first | apply Kd.V_alloc | apply Kd.V_drewN | apply Kd.V_drew)); exact HO_12.out) hb); have n1_:=Aside0.mk (blk_below (g:=gb372) (o := .cells #[.int .u8 t355, .int .u8 t356, .int .u8 t357, .int .u8 t358, .int .u8 t359, .string t360, .string t361, .string t362, .string t363, .string t364, .string t365, .string t366, .string t367, .string t368, .string t369] 25 (0,0)) (by (with_reducible repeat (first | refine kN ?_ _ | refine kD ?_ | refine kA ?_ _)); exact BK372.out) hb); have n2_:=Aside0.mk (below_step (by repeat (first | (with_reducible first | exact HB.out | apply bA | apply bN | apply bD | refine below_set ?_ GE372.out) | exact HB.out)) hb); clear HO_12; clear BK372; clear HB; have HO_12:=n0_; have BK372:=n1_; have HB:=n2_; clear n0_ n1_ n2_; (try clear hb)))
                     go_ret
                     exact ⟨by first | rfl | (simp [errW_none,errW_some] <;> rfl) | (simp [*,errW_none,errW_some] <;> rfl),by repeat (first | (with_reducible first | exact HB.out | apply bA | apply bN | apply bD | refine below_set ?_ GE372.out) | exact HB.out)⟩
                    ·rw [if_neg c82] at H
                     have c82b0 : (t370.toList == (⟨#[65,65]⟩ : ByteArray).toList)=false:=beq_eq_false_iff_ne.mpr c82
                     have c82b1 : (t370.toList != (⟨#[65,65]⟩ : ByteArray).toList)=true:=bne_iff_ne.mpr c82
                     obtain rfl:=Option.some.inj H
                     cases hrt
                   ·replace c81:=Bool.eq_false_iff.mpr c81
                    subst c81
                    have H1 : (some false)=some r:=by rw [if_neg (show ¬ (false=true) by decide)] at H; exact H
                    clear H
                    have H:=H1
                    clear H1
                    obtain rfl:=Option.some.inj H
                    cases hrt
               ·replace c52:=Bool.eq_false_iff.mpr c52
                subst c52
                have H1 : ((accept_Verdict.f k3 t328).bind fun bt375=>((lamplighterlaw11_alive.f k3).bind fun t393=>(if t393=true then (if bt375.2.2.2.2.2.2.2.2.2.2.2.2.2.2.2.1.toList=([65,69] : List UInt8) then ((accept_Stored.f k3 t328).bind fun t394=>(some (t394 == (([65,69] : List UInt8) == ([65,65] : List UInt8))))) else (some false)) else (some false))))=some r:=by rw [if_neg (show ¬ (false=true) by decide)] at H; exact H
                clear H
                have H:=H1
                clear H1
                replace H:=Option.bind_eq_some_iff.mp H
                obtain ⟨⟨t375,t376,t377,t378,t379,t380,t381,t382,t383,t384,t385,t386,t387,t388,t389,t390,t391⟩,A1000,H⟩:=H
                replace H : ((lamplighterlaw11_alive.f k3).bind fun t393=>(if t393=true then (if t390.toList=([65,69] : List UInt8) then ((accept_Stored.f k3 t328).bind fun t394=>(some (t394 == (([65,69] : List UInt8) == ([65,65] : List UInt8))))) else (some false)) else (some false)))=some r:=H
                have A100:=Aside0.mk A1000
                clear A1000
                replace H:=Option.bind_eq_some_iff.mp H
                obtain ⟨t393,A1010,H⟩:=H
                replace H : (if t393=true then (if t390.toList=([65,69] : List UInt8) then ((accept_Stored.f k3 t328).bind fun t394=>(some (t394 == (([65,69] : List UInt8) == ([65,65] : List UInt8))))) else (some false)) else (some false))=some r:=H
                have A101:=Aside0.mk A1010
                clear A1010
                by_cases c102 : t393=true
                ·subst c102
                 have H1 : (if t390.toList=([65,69] : List UInt8) then ((accept_Stored.f k3 t328).bind fun t394=>(some (t394 == (([65,69] : List UInt8) == ([65,65] : List UInt8))))) else (some false))=some r:=by rw [if_pos rfl] at H; exact H
                 clear H
                 have H:=H1
                 clear H1
                 by_cases c103 : t390.toList=([65,69] : List UInt8)
                 ·rw [if_pos c103] at H
                  have c103b0 : (t390.toList == ([65,69] : List UInt8))=true:=beq_iff_eq.mpr c103
                  have c103b1 : (t390.toList != ([65,69] : List UInt8))=false:=bne_eq_false_iff_eq.mpr c103
                  clear c103
                  replace H:=Option.bind_eq_some_iff.mp H
                  obtain ⟨t394,A1040,H⟩:=H
                  replace H : (some (t394 == (([65,69] : List UInt8) == ([65,65] : List UInt8))))=some r:=H
                  have A104:=Aside0.mk A1040
                  clear A1040
                  obtain rfl:=Option.some.inj H
                  clear hrt
                  obtain ⟨Ao105,co105,eo105⟩:=Kd.V_slice HO_12.out
                  subst eo105
                  go_wp2_with (first | ((with_reducible refine gate_callee (f:=10) rfl ?_); refine goesL_ (some 109) rfl rfl Tryd.func10 (by kernel_rfl) rfl #[.slice Ao105 t328.length co105] rfl (by (try simp only [List.map_toArray,List.map_cons,List.map_nil]); first | done | rfl | (simp only [List.length_drop,List.length_take]; rfl)) ?_; (with_reducible refine (accept_Verdict.calls k3 _ _ t328 t375 t376 t377 t378 t379 t380 t381 t382 t383 t384 t385 t386 t387 t388 t389 t390 t391 _ ?side1 ?side2 A100.out (glob_below HGLOB.out (by repeat (first | (with_reducible first | exact HB.out | apply bA | apply bN | apply bD) | exact HB.out)))).mono ?_); (case side1=>repeat (first | exact (Kd.V_reads' HO_12.out).2.2 | (with_reducible refine Kd.C_alloc ?_ _) | (with_reducible refine Kd.C_drewN ?_ _) | (with_reducible refine Kd.C_drew ?_))); (case side2=>exact (Kd.V_reads' HO_12.out).2.1); rintro e w106 ⟨rfl,hb⟩; refine ⟨_,rfl,?_⟩; have n0_:=Aside0.mk (Kd.V_below (by (with_reducible repeat (first | apply Kd.V_alloc | apply Kd.V_drewN | apply Kd.V_drew)); exact HO_12.out) hb); have n1_:=Aside0.mk (Kd.R_below (by (with_reducible repeat (first | apply Kd.R_alloc | apply Kd.R_drewN | apply Kd.R_drew)); exact HO_76.out) hb); have n2_:=Aside0.mk (below_step (by repeat (first | (with_reducible first | exact HB.out | apply bA | apply bN | apply bD) | exact HB.out)) hb); clear HO_12; clear HO_76; clear HB; have HO_12:=n0_; have HO_76:=n1_; have HB:=n2_; clear n0_ n1_ n2_; (try clear hb)) | ((with_reducible refine gate_dst (N:=17) rfl ?_); refine box_event ?hg (N:=17) ?hd (cs:=#[.int .u8 0, .int .u8 0, .int .u8 0, .int .u8 0, .int .u8 0, .string (⟨#[]⟩ : ByteArray), .string (⟨#[]⟩ : ByteArray), .string (⟨#[]⟩ : ByteArray), .string (⟨#[]⟩ : ByteArray), .string (⟨#[]⟩ : ByteArray), .string (⟨#[]⟩ : ByteArray), .string (⟨#[]⟩ : ByteArray), .string (⟨#[]⟩ : ByteArray), .string (⟨#[]⟩ : ByteArray), .string (⟨#[]⟩ : ByteArray)]) (t:=25) ?hr ?_; (case hd=>rfl); (case hg=>rfl); (case hr=>first | (go_simp; done) | (go_simp; rfl)); intro gb392 hg w107 hbox hb; have n0_:=Aside0.mk (Kd.V_below (Kd.V_elderB (by (with_reducible repeat (first | apply Kd.V_alloc | apply Kd.V_drewN | apply Kd.V_drew)); exact HO_12.out) gb392 (Nat.le_of_eq hg.symm)) hb); have n1_:=Aside0.mk (Kd.R_below (by (with_reducible repeat (first | apply Kd.R_alloc | apply Kd.R_drewN | apply Kd.R_drew)); exact HO_76.out) hb); have n2_:=Aside0.mk (below_step (by repeat (first | (with_reducible first | exact HB.out | apply bA | apply bN | apply bD) | exact HB.out)) hb); have n3_:=Aside0.mk (hbox); have n4_:=Aside0.mk ((by rw [hg]; exact (below_size (by repeat (first | (with_reducible first | exact HB.out | apply bA | apply bN | apply bD) | exact HB.out))) : w.heap.size≤gb392)); have n5_:=Aside0.mk ((by rw [hg]; exact (below_size (by repeat (first | (with_reducible first | exact HB.out | apply bA | apply bN | apply bD) | exact HB.out))) : w.heap.size≤gb392)); clear HO_12; clear HO_76; clear HB; have HO_12:=n0_; have HO_76:=n1_; have HB:=n2_; have BK392:=n3_; have GW392:=n4_; have GE392:=n5_; clear n0_ n1_ n2_ n3_ n4_ n5_; clear hb hbox hg; have hcz108_0:w107.cell? ⟨gb392,0,none⟩=some (.int .u8 0):=blk_cell BK392.out 0; have hcz108_1:w107.cell? ⟨gb392,1,none⟩=some (.int .u8 0):=blk_cell BK392.out 1; have hcz108_2:w107.cell? ⟨gb392,2,none⟩=some (.int .u8 0):=blk_cell BK392.out 2; have hcz108_3:w107.cell? ⟨gb392,3,none⟩=some (.int .u8 0):=blk_cell BK392.out 3; have hcz108_4:w107.cell? ⟨gb392,4,none⟩=some (.int .u8 0):=blk_cell BK392.out 4; have hcz108_5:w107.cell? ⟨gb392,5,none⟩=some (.string (⟨#[]⟩ : ByteArray)):=blk_cell BK392.out 5; have hcz108_6:w107.cell? ⟨gb392,6,none⟩=some (.string (⟨#[]⟩ : ByteArray)):=blk_cell BK392.out 6; have hcz108_7:w107.cell? ⟨gb392,7,none⟩=some (.string (⟨#[]⟩ : ByteArray)):=blk_cell BK392.out 7; have hcz108_8:w107.cell? ⟨gb392,8,none⟩=some (.string (⟨#[]⟩ : ByteArray)):=blk_cell BK392.out 8; have hcz108_9:w107.cell? ⟨gb392,9,none⟩=some (.string (⟨#[]⟩ : ByteArray)):=blk_cell BK392.out 9; have hcz108_10:w107.cell? ⟨gb392,10,none⟩=some (.string (⟨#[]⟩ : ByteArray)):=blk_cell BK392.out 10; have hcz108_11:w107.cell? ⟨gb392,11,none⟩=some (.string (⟨#[]⟩ : ByteArray)):=blk_cell BK392.out 11; have hcz108_12:w107.cell? ⟨gb392,12,none⟩=some (.string (⟨#[]⟩ : ByteArray)):=blk_cell BK392.out 12; have hcz108_13:w107.cell? ⟨gb392,13,none⟩=some (.string (⟨#[]⟩ : ByteArray)):=blk_cell BK392.out 13; have hcz108_14:w107.cell? ⟨gb392,14,none⟩=some (.string (⟨#[]⟩ : ByteArray)):=blk_cell BK392.out 14; have hfz108_0:=blk_frozen BK392.out 0; have hfz108_1:=blk_frozen BK392.out 1; have hfz108_2:=blk_frozen BK392.out 2; have hfz108_3:=blk_frozen BK392.out 3; have hfz108_4:=blk_frozen BK392.out 4; have hfz108_5:=blk_frozen BK392.out 5; have hfz108_6:=blk_frozen BK392.out 6; have hfz108_7:=blk_frozen BK392.out 7; have hfz108_8:=blk_frozen BK392.out 8; have hfz108_9:=blk_frozen BK392.out 9; have hfz108_10:=blk_frozen BK392.out 10; have hfz108_11:=blk_frozen BK392.out 11; have hfz108_12:=blk_frozen BK392.out 12; have hfz108_13:=blk_frozen BK392.out 13; have hfz108_14:=blk_frozen BK392.out 14) | ((with_reducible refine gate_callee (f:=9) rfl ?_); refine goesL_ (some 113) rfl rfl Tryd.func9 (by kernel_rfl) rfl #[] rfl (by (try simp only [List.map_toArray,List.map_cons,List.map_nil]); first | done | rfl | (simp only [List.length_drop,List.length_take]; rfl)) ?_; (with_reducible refine (lamplighterlaw11_alive.calls k3  true _ A101.out (glob_below HGLOB.out (by repeat (first | (with_reducible first | exact HB.out | apply bA | apply bN | apply bD | refine below_set ?_ GE392.out) | exact HB.out))) (globc_below HGLOC.out (by repeat (first | (with_reducible first | exact HB.out | apply bA | apply bN | apply bD | refine below_set ?_ GE392.out) | exact HB.out))) (globe_below HGLOE.out (by repeat (first | (with_reducible first | exact HB.out | apply bA | apply bN | apply bD | refine below_set ?_ GE392.out) | exact HB.out)))).mono ?_); rintro e w109 ⟨rfl,hb⟩; refine ⟨_,rfl,?_⟩; have n0_:=Aside0.mk (Kd.V_below (by (with_reducible repeat (first | apply Kd.V_alloc | apply Kd.V_drewN | apply Kd.V_drew)); exact (Kd.V_mono (Kd.V_far (p:=⟨gb392,14,none⟩) (Kd.V_far (p:=⟨gb392,13,none⟩) (Kd.V_far (p:=⟨gb392,12,none⟩) (Kd.V_far (p:=⟨gb392,11,none⟩) (Kd.V_far (p:=⟨gb392,10,none⟩) (Kd.V_far (p:=⟨gb392,9,none⟩) (Kd.V_far (p:=⟨gb392,8,none⟩) (Kd.V_far (p:=⟨gb392,7,none⟩) (Kd.V_far (p:=⟨gb392,6,none⟩) (Kd.V_far (p:=⟨gb392,5,none⟩) (Kd.V_far (p:=⟨gb392,4,none⟩) (Kd.V_far (p:=⟨gb392,3,none⟩) (Kd.V_far (p:=⟨gb392,2,none⟩) (Kd.V_far (p:=⟨gb392,1,none⟩) (Kd.V_far (p:=⟨gb392,0,none⟩) (Kd.V_mono HO_12.out (fun k_ hk=>(⟨hk,hk.2⟩ : _∧k_ ≠ gb392))) (fun _ hk=>hk.2) (.int .u8 t375)) (fun _ hk=>hk.2) (.int .u8 t376)) (fun _ hk=>hk.2) (.int .u8 t377)) (fun _ hk=>hk.2) (.int .u8 t378)) (fun _ hk=>hk.2) (.int .u8 t379)) (fun _ hk=>hk.2) (.string t380)) (fun _ hk=>hk.2) (.string t381)) (fun _ hk=>hk.2) (.string t382)) (fun _ hk=>hk.2) (.string t383)) (fun _ hk=>hk.2) (.string t384)) (fun _ hk=>hk.2) (.string t385)) (fun _ hk=>hk.2) (.string t386)) (fun _ hk=>hk.2) (.string t387)) (fun _ hk=>hk.2) (.string t388)) (fun _ hk=>hk.2) (.string t389)) (fun _ h_=>h_.1))) hb); have n1_:=Aside0.mk (Kd.R_below (by (with_reducible repeat (first | apply Kd.R_alloc | apply Kd.R_drewN | apply Kd.R_drew)); exact (Kd.R_mono (Kd.R_far (p:=⟨gb392,14,none⟩) (Kd.R_far (p:=⟨gb392,13,none⟩) (Kd.R_far (p:=⟨gb392,12,none⟩) (Kd.R_far (p:=⟨gb392,11,none⟩) (Kd.R_far (p:=⟨gb392,10,none⟩) (Kd.R_far (p:=⟨gb392,9,none⟩) (Kd.R_far (p:=⟨gb392,8,none⟩) (Kd.R_far (p:=⟨gb392,7,none⟩) (Kd.R_far (p:=⟨gb392,6,none⟩) (Kd.R_far (p:=⟨gb392,5,none⟩) (Kd.R_far (p:=⟨gb392,4,none⟩) (Kd.R_far (p:=⟨gb392,3,none⟩) (Kd.R_far (p:=⟨gb392,2,none⟩) (Kd.R_far (p:=⟨gb392,1,none⟩) (Kd.R_far (p:=⟨gb392,0,none⟩) (Kd.R_types HO_76.out BK392.out (by decide)) (fun _ hk=>hk.2) (.int .u8 t375)) (fun _ hk=>hk.2) (.int .u8 t376)) (fun _ hk=>hk.2) (.int .u8 t377)) (fun _ hk=>hk.2) (.int .u8 t378)) (fun _ hk=>hk.2) (.int .u8 t379)) (fun _ hk=>hk.2) (.string t380)) (fun _ hk=>hk.2) (.string t381)) (fun _ hk=>hk.2) (.string t382)) (fun _ hk=>hk.2) (.string t383)) (fun _ hk=>hk.2) (.string t384)) (fun _ hk=>hk.2) (.string t385)) (fun _ hk=>hk.2) (.string t386)) (fun _ hk=>hk.2) (.string t387)) (fun _ hk=>hk.2) (.string t388)) (fun _ hk=>hk.2) (.string t389)) (fun _ h_=>h_.1))) hb); have n2_:=Aside0.mk (blk_below (g:=gb392) (o := .cells #[.int .u8 t375, .int .u8 t376, .int .u8 t377, .int .u8 t378, .int .u8 t379, .string t380, .string t381, .string t382, .string t383, .string t384, .string t385, .string t386, .string t387, .string t388, .string t389] 25 (0,0)) (by (with_reducible repeat (first | refine kN ?_ _ | refine kD ?_ | refine kA ?_ _)); refine blk_put (cs:=#[.int .u8 t375, .int .u8 t376, .int .u8 t377, .int .u8 t378, .int .u8 t379, .string t380, .string t381, .string t382, .string t383, .string t384, .string t385, .string t386, .string t387, .string t388, .string (⟨#[]⟩ : ByteArray)]) ?_ 14 _ rfl; (with_reducible repeat (first | refine kN ?_ _ | refine kD ?_ | refine kA ?_ _)); refine blk_put (cs:=#[.int .u8 t375, .int .u8 t376, .int .u8 t377, .int .u8 t378, .int .u8 t379, .string t380, .string t381, .string t382, .string t383, .string t384, .string t385, .string t386, .string t387, .string (⟨#[]⟩ : ByteArray), .string (⟨#[]⟩ : ByteArray)]) ?_ 13 _ rfl; (with_reducible repeat (first | refine kN ?_ _ | refine kD ?_ | refine kA ?_ _)); refine blk_put (cs:=#[.int .u8 t375, .int .u8 t376, .int .u8 t377, .int .u8 t378, .int .u8 t379, .string t380, .string t381, .string t382, .string t383, .string t384, .string t385, .string t386, .string (⟨#[]⟩ : ByteArray), .string (⟨#[]⟩ : ByteArray), .string (⟨#[]⟩ : ByteArray)]) ?_ 12 _ rfl; (with_reducible repeat (first | refine kN ?_ _ | refine kD ?_ | refine kA ?_ _)); refine blk_put (cs:=#[.int .u8 t375, .int .u8 t376, .int .u8 t377, .int .u8 t378, .int .u8 t379, .string t380, .string t381, .string t382, .string t383, .string t384, .string t385, .string (⟨#[]⟩ : ByteArray), .string (⟨#[]⟩ : ByteArray), .string (⟨#[]⟩ : ByteArray), .string (⟨#[]⟩ : ByteArray)]) ?_ 11 _ rfl; (with_reducible repeat (first | refine kN ?_ _ | refine kD ?_ | refine kA ?_ _)); refine blk_put (cs:=#[.int .u8 t375, .int .u8 t376, .int .u8 t377, .int .u8 t378, .int .u8 t379, .string t380, .string t381, .string t382, .string t383, .string t384, .string (⟨#[]⟩ : ByteArray), .string (⟨#[]⟩ : ByteArray), .string (⟨#[]⟩ : ByteArray), .string (⟨#[]⟩ : ByteArray), .string (⟨#[]⟩ : ByteArray)]) ?_ 10 _ rfl; (with_reducible repeat (first | refine kN ?_ _ | refine kD ?_ | refine kA ?_ _)); refine blk_put (cs:=#[.int .u8 t375, .int .u8 t376, .int .u8 t377, .int .u8 t378, .int .u8 t379, .string t380, .string t381, .string t382, .string t383, .string (⟨#[]⟩ : ByteArray), .string (⟨#[]⟩ : ByteArray), .string (⟨#[]⟩ : ByteArray), .string (⟨#[]⟩ : ByteArray), .string (⟨#[]⟩ : ByteArray), .string (⟨#[]⟩ : ByteArray)]) ?_ 9 _ rfl; (with_reducible repeat (first | refine kN ?_ _ | refine kD ?_ | refine kA ?_ _)); refine blk_put (cs:=#[.int .u8 t375, .int .u8 t376, .int .u8 t377, .int .u8 t378, .int .u8 t379, .string t380, .string t381, .string t382, .string (⟨#[]⟩ : ByteArray), .string (⟨#[]⟩ : ByteArray), .string (⟨#[]⟩ : ByteArray), .string (⟨#[]⟩ : ByteArray), .string (⟨#[]⟩ : ByteArray), .string (⟨#[]⟩ : ByteArray), .string (⟨#[]⟩ : ByteArray)]) ?_ 8 _ rfl; (with_reducible repeat (first | refine kN ?_ _ | refine kD ?_ | refine kA ?_ _)); refine blk_put (cs:=#[.int .u8 t375, .int .u8 t376, .int .u8 t377, .int .u8 t378, .int .u8 t379, .string t380, .string t381, .string (⟨#[]⟩ : ByteArray), .string (⟨#[]⟩ : ByteArray), .string (⟨#[]⟩ : ByteArray), .string (⟨#[]⟩ : ByteArray), .string (⟨#[]⟩ : ByteArray), .string (⟨#[]⟩ : ByteArray), .string (⟨#[]⟩ : ByteArray), .string (⟨#[]⟩ : ByteArray)]) ?_ 7 _ rfl; (with_reducible repeat (first | refine kN ?_ _ | refine kD ?_ | refine kA ?_ _)); refine blk_put (cs:=#[.int .u8 t375, .int .u8 t376, .int .u8 t377, .int .u8 t378, .int .u8 t379, .string t380, .string (⟨#[]⟩ : ByteArray), .string (⟨#[]⟩ : ByteArray), .string (⟨#[]⟩ : ByteArray), .string (⟨#[]⟩ : ByteArray), .string (⟨#[]⟩ : ByteArray), .string (⟨#[]⟩ : ByteArray), .string (⟨#[]⟩ : ByteArray), .string (⟨#[]⟩ : ByteArray), .string (⟨#[]⟩ : ByteArray)]) ?_ 6 _ rfl; (with_reducible repeat (first | refine kN ?_ _ | refine kD ?_ | refine kA ?_ _)); refine blk_put (cs:=#[.int .u8 t375, .int .u8 t376, .int .u8 t377, .int .u8 t378, .int .u8 t379, .string (⟨#[]⟩ : ByteArray), .string (⟨#[]⟩ : ByteArray), .string (⟨#[]⟩ : ByteArray), .string (⟨#[]⟩ : ByteArray), .string (⟨#[]⟩ : ByteArray), .string (⟨#[]⟩ : ByteArray), .string (⟨#[]⟩ : ByteArray), .string (⟨#[]⟩ : ByteArray), .string (⟨#[]⟩ : ByteArray), .string (⟨#[]⟩ : ByteArray)]) ?_ 5 _ rfl; (with_reducible repeat (first | refine kN ?_ _ | refine kD ?_ | refine kA ?_ _)); refine blk_put (cs:=#[.int .u8 t375, .int .u8 t376, .int .u8 t377, .int .u8 t378, .int .u8 0, .string (⟨#[]⟩ : ByteArray), .string (⟨#[]⟩ : ByteArray), .string (⟨#[]⟩ : ByteArray), .string (⟨#[]⟩ : ByteArray), .string (⟨#[]⟩ : ByteArray), .string (⟨#[]⟩ : ByteArray), .string (⟨#[]⟩ : ByteArray), .string (⟨#[]⟩ : ByteArray), .string (⟨#[]⟩ : ByteArray), .string (⟨#[]⟩ : ByteArray)]) ?_ 4 _ rfl; (with_reducible repeat (first | refine kN ?_ _ | refine kD ?_ | refine kA ?_ _)); refine blk_put (cs:=#[.int .u8 t375, .int .u8 t376, .int .u8 t377, .int .u8 0, .int .u8 0, .string (⟨#[]⟩ : ByteArray), .string (⟨#[]⟩ : ByteArray), .string (⟨#[]⟩ : ByteArray), .string (⟨#[]⟩ : ByteArray), .string (⟨#[]⟩ : ByteArray), .string (⟨#[]⟩ : ByteArray), .string (⟨#[]⟩ : ByteArray), .string (⟨#[]⟩ : ByteArray), .string (⟨#[]⟩ : ByteArray), .string (⟨#[]⟩ : ByteArray)]) ?_ 3 _ rfl; (with_reducible repeat (first | refine kN ?_ _ | refine kD ?_ | refine kA ?_ _)); refine blk_put (cs:=#[.int .u8 t375, .int .u8 t376, .int .u8 0, .int .u8 0, .int .u8 0, .string (⟨#[]⟩ : ByteArray), .string (⟨#[]⟩ : ByteArray), .string (⟨#[]⟩ : ByteArray), .string (⟨#[]⟩ : ByteArray), .string (⟨#[]⟩ : ByteArray), .string (⟨#[]⟩ : ByteArray), .string (⟨#[]⟩ : ByteArray), .string (⟨#[]⟩ : ByteArray), .string (⟨#[]⟩ : ByteArray), .string (⟨#[]⟩ : ByteArray)]) ?_ 2 _ rfl; (with_reducible repeat (first | refine kN ?_ _ | refine kD ?_ | refine kA ?_ _)); refine blk_put (cs:=#[.int .u8 t375, .int .u8 0, .int .u8 0, .int .u8 0, .int .u8 0, .string (⟨#[]⟩ : ByteArray), .string (⟨#[]⟩ : ByteArray), .string (⟨#[]⟩ : ByteArray), .string (⟨#[]⟩ : ByteArray), .string (⟨#[]⟩ : ByteArray), .string (⟨#[]⟩ : ByteArray), .string (⟨#[]⟩ : ByteArray), .string (⟨#[]⟩ : ByteArray), .string (⟨#[]⟩ : ByteArray), .string (⟨#[]⟩ : ByteArray)]) ?_ 1 _ rfl; (with_reducible repeat (first | refine kN ?_ _ | refine kD ?_ | refine kA ?_ _)); refine blk_put (cs:=#[.int .u8 0, .int .u8 0, .int .u8 0, .int .u8 0, .int .u8 0, .string (⟨#[]⟩ : ByteArray), .string (⟨#[]⟩ : ByteArray), .string (⟨#[]⟩ : ByteArray), .string (⟨#[]⟩ : ByteArray), .string (⟨#[]⟩ : ByteArray), .string (⟨#[]⟩ : ByteArray), .string (⟨#[]⟩ : ByteArray), .string (⟨#[]⟩ : ByteArray), .string (⟨#[]⟩ : ByteArray), .string (⟨#[]⟩ : ByteArray)]) ?_ 0 _ rfl; (with_reducible repeat (first | refine kN ?_ _ | refine kD ?_ | refine kA ?_ _)); exact BK392.out) hb); have n3_:=Aside0.mk (below_step (by repeat (first | (with_reducible first | exact HB.out | apply bA | apply bN | apply bD | refine below_set ?_ GE392.out) | exact HB.out)) hb); clear HO_12; clear HO_76; clear BK392; clear HB; have HO_12:=n0_; have HO_76:=n1_; have BK392:=n2_; have HB:=n3_; clear n0_ n1_ n2_ n3_; (try clear hb)) | (go_at_call 13; (with_reducible refine (accept_Stored.calls k3 _ _ t328 t394 _ ?side1 ?side2 A104.out (glob_below HGLOB.out (by repeat (first | (with_reducible first | exact HB.out | apply bA | apply bN | apply bD | refine below_set ?_ GE392.out) | exact HB.out)))).mono ?_); (case side1=>repeat (first | exact (Kd.V_reads' HO_12.out).2.2 | (with_reducible refine Kd.C_alloc ?_ _) | (with_reducible refine Kd.C_drewN ?_ _) | (with_reducible refine Kd.C_drew ?_))); (case side2=>exact (Kd.V_reads' HO_12.out).2.1); rintro e w110 ⟨rfl,hb⟩; have n0_:=Aside0.mk (Kd.V_below (by (with_reducible repeat (first | apply Kd.V_alloc | apply Kd.V_drewN | apply Kd.V_drew)); exact HO_12.out) hb); have n1_:=Aside0.mk (Kd.R_below (by (with_reducible repeat (first | apply Kd.R_alloc | apply Kd.R_drewN | apply Kd.R_drew)); exact HO_76.out) hb); have n2_:=Aside0.mk (blk_below (g:=gb392) (o := .cells #[.int .u8 t375, .int .u8 t376, .int .u8 t377, .int .u8 t378, .int .u8 t379, .string t380, .string t381, .string t382, .string t383, .string t384, .string t385, .string t386, .string t387, .string t388, .string t389] 25 (0,0)) (by (with_reducible repeat (first | refine kN ?_ _ | refine kD ?_ | refine kA ?_ _)); exact BK392.out) hb); have n3_:=Aside0.mk (below_step (by repeat (first | (with_reducible first | exact HB.out | apply bA | apply bN | apply bD | refine below_set ?_ GE392.out) | exact HB.out)) hb); clear HO_12; clear HO_76; clear BK392; clear HB; have HO_12:=n0_; have HO_76:=n1_; have BK392:=n2_; have HB:=n3_; clear n0_ n1_ n2_ n3_; (try clear hb)))
                  go_ret
                  exact ⟨by first | rfl | (simp [errW_none,errW_some] <;> rfl) | (simp [*,errW_none,errW_some] <;> rfl),by repeat (first | (with_reducible first | exact HB.out | apply bA | apply bN | apply bD | refine below_set ?_ GE392.out) | exact HB.out)⟩
                 ·rw [if_neg c103] at H
                  have c103b0 : (t390.toList == ([65,69] : List UInt8))=false:=beq_eq_false_iff_ne.mpr c103
                  have c103b1 : (t390.toList != ([65,69] : List UInt8))=true:=bne_iff_ne.mpr c103
                  obtain rfl:=Option.some.inj H
                  cases hrt
                ·replace c102:=Bool.eq_false_iff.mpr c102
                 subst c102
                 have H1 : (some false)=some r:=by rw [if_neg (show ¬ (false=true) by decide)] at H; exact H
                 clear H
                 have H:=H1
                 clear H1
                 obtain rfl:=Option.some.inj H
                 cases hrt
           ·rw [if_neg c42] at H
            exact absurd H (by simp)
          ·rw [if_neg c41] at H
           exact absurd H (by simp)
         ·rw [if_neg c40] at H
          exact absurd H (by simp)
        ·rw [if_neg c39] at H
         exact absurd H (by simp)
       ·rw [if_neg c38] at H
        exact absurd H (by simp)
      ·rw [if_neg c37] at H
       exact absurd H (by simp)

end Go.Proofs.YtmjdnkiohdkfpaaDoor.PF
