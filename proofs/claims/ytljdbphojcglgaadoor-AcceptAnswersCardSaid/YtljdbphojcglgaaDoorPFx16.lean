import Derived.Test.YtljdbphojcglgaaDoorPFx0
namespace Go.Proofs.YtljdbphojcglgaaDoor.PF
open Go.RowKit Go.Proofs.YtljdbphojcglgaaDoorW.PrintWords Go.Proofs.YtljdbphojcglgaaDoorW.PrintLast Go.Proofs.YtljdbphojcglgaaDoorW.PrintMore
set_option maxHeartbeats 8000000
set_option maxRecDepth 100000
attribute [local go_sem] max2_int min2_int max_two min_two max_three min_three max_four min_four
set_option linter.unusedVariables false
set_option linter.unusedSimpArgs false

/-! ### lamplighterref04_Good: function 7 -/
def lamplighterref04_Good.l0 : Nat→List Int→Int→Option (Bool)
 | 0,_,_=>none
 | k + 1,x0,x3=>if x3 < (x0.length : Int) then (if 0≤x3 then (if (rd x0 x3)=11 then (some false) else (if (rd x0 x3)=28 then (if (wrap64 (x3 + 1))=(x0.length : Int) then (some false) else (if 0≤(wrap64 (x3 + 1)) then (if (wrap64 (x3 + 1)) < (x0.length : Int) then (if (rd x0 (wrap64 (x3 + 1)))=13 then (some false) else (lamplighterref04_Good.l0 k x0 (wrap64 (x3 + 1)))) else (none)) else (none))) else (lamplighterref04_Good.l0 k x0 (wrap64 (x3 + 1))))) else (none)) else (some true)
def lamplighterref04_Good.f (k : Nat) (l0 : List Int) : Option (Bool):=lamplighterref04_Good.l0 k l0 0
theorem lamplighterref04_Good.mono_l : ∀ k,(∀ y0 y1,LeO (lamplighterref04_Good.l0 k y0 y1) (lamplighterref04_Good.l0 (k + 1) y0 y1))
 | 0=>fun _ _ r h=>by simp [lamplighterref04_Good.l0] at h
 | k + 1=>by
  have ih0:=lamplighterref04_Good.mono_l k
  ·intro y0 y1
   unfold lamplighterref04_Good.l0
   repeat' first
   | (with_reducible exact ih0 _ _)
   | (with_reducible exact LeO.refl _)
   | (with_reducible exact LeO.none _)
   | (with_reducible refine LeO.ite ?_ ?_)
   | (with_reducible refine LeO.bind ?_ (fun _=>?_))
   | exact ih0 _ _
   | exact LeO.none _
   | refine LeO.ite ?_ ?_
   | refine LeO.bind ?_ (fun _=>?_)
theorem lamplighterref04_Good.mono : ∀ a0 k,LeO (lamplighterref04_Good.f k a0) (lamplighterref04_Good.f (k + 1) a0):=by
 intro a0 k
 have ih0:=lamplighterref04_Good.mono_l k
 unfold lamplighterref04_Good.f
 repeat' first
   | (with_reducible exact ih0 _ _)
   | (with_reducible exact LeO.refl _)
   | (with_reducible exact LeO.none _)
   | (with_reducible refine LeO.ite ?_ ?_)
   | (with_reducible refine LeO.bind ?_ (fun _=>?_))
   | exact ih0 _ _
   | exact LeO.none _
   | refine LeO.ite ?_ ?_
   | refine LeO.bind ?_ (fun _=>?_)
theorem lamplighterref04_Good.calls (k : Nat) (A0 : Option Addr) (c0 : Nat) (l0 : List Int) (r : Bool) (w : World) (hr0 : Kd.C (Kd.int .u8) w A0 l0.length l0) (hc0 : l0.length≤c0) (h : lamplighterref04_Good.f k l0=some r) :
  Calls Tryd.prog 7 #[.slice A0 l0.length c0] w fun e w'=>e = .returned (.bool r)∧Drawn0 w w':=by
 have HR0:=Aside0.mk hr0
 have HC0:=Aside0.mk hc0
 clear hr0 hc0
 have H : (lamplighterref04_Good.l0 k l0 0)=some r:=h
 clear h
 have H':=Aside0.mk H
 clear H
 go_enter Tryd.func7,Tryd.ntmps7
 go_wp2
 go_loopg [3] k (fun kq v3 w' => ∃ (x3_1 : Int),v3 = .int .i64 x3_1∧Aside0 (lamplighterref04_Good.l0 kq l0 x3_1=some r)∧Aside0 (kq≤k)∧Drawn0 w w')
 case atStart=>exact ⟨(0),(by first | rfl | (simp; done) | (simp [*]; done)),H',⟨Nat.le_refl _⟩,by repeat (first | exact Drawn0.refl _ | apply Drawn0.step)⟩
 case round =>
  clear H'
  obtain ⟨x3_1,rfl,HA,HK1,⟨m1,rfl⟩⟩:=hrel
  cases gk with
  | zero=>exact absurd HA.out (by simp [lamplighterref04_Good.l0])
  | succ k1 =>
   have H:=HA.out
   clear HA
   simp only [lamplighterref04_Good.l0] at H
   by_cases c2 : x3_1 < (l0.length : Int)
   ·rw [if_pos c2] at H
    have c2b0:decide (x3_1 < (l0.length : Int))=true:=decide_eq_true c2
    clear c2
    by_cases c3 : 0≤x3_1
    ·rw [if_pos c3] at H
     have c3b0:decide (0≤x3_1)=true:=decide_eq_true c3
     clear c3
     by_cases c4 : (rd l0 x3_1)=11
     ·rw [if_pos c4] at H
      have c4b0 : ((rd l0 x3_1) == 11)=true:=beq_iff_eq.mpr c4
      have c4b1 : ((rd l0 x3_1) != 11)=false:=bne_eq_false_iff_eq.mpr c4
      clear c4
      obtain rfl:=Option.some.inj H
      have p245:0≤(x3_1 : Int):=of_decide_eq_true (by first | (with_reducible assumption) | assumption)
      have q245:x3_1 < (l0.length : Int):=of_decide_eq_true (by first | (with_reducible assumption) | assumption)
      obtain ⟨ad245,e245,hx245_0⟩:=Kd.at_int HR0.out x3_1 p245 q245
      cases e245
      replace p245:=eq_true p245
      replace q245:=eq_true q245
      go_wp2
      go_ret
      exact ⟨by first | rfl | (simp; done) | (simp [*]; done),by repeat (first | exact Drawn0.refl _ | apply Drawn0.step)⟩
     ·rw [if_neg c4] at H
      have c4b0 : ((rd l0 x3_1) == 11)=false:=beq_eq_false_iff_ne.mpr c4
      have c4b1 : ((rd l0 x3_1) != 11)=true:=bne_iff_ne.mpr c4
      by_cases c5 : (rd l0 x3_1)=28
      ·rw [if_pos c5] at H
       have c5b0 : ((rd l0 x3_1) == 28)=true:=beq_iff_eq.mpr c5
       have c5b1 : ((rd l0 x3_1) != 28)=false:=bne_eq_false_iff_eq.mpr c5
       clear c5
       by_cases c6 : (wrap64 (x3_1 + 1))=(l0.length : Int)
       ·rw [if_pos c6] at H
        have c6b0 : ((wrap64 (x3_1 + 1)) == (l0.length : Int))=true:=beq_iff_eq.mpr c6
        have c6b1 : ((wrap64 (x3_1 + 1)) != (l0.length : Int))=false:=bne_eq_false_iff_eq.mpr c6
        clear c6
        obtain rfl:=Option.some.inj H
        have p245:0≤(x3_1 : Int):=of_decide_eq_true (by first | (with_reducible assumption) | assumption)
        have q245:x3_1 < (l0.length : Int):=of_decide_eq_true (by first | (with_reducible assumption) | assumption)
        obtain ⟨ad245,e245,hx245_0⟩:=Kd.at_int HR0.out x3_1 p245 q245
        cases e245
        replace p245:=eq_true p245
        replace q245:=eq_true q245
        have p246:0≤(x3_1 : Int):=of_decide_eq_true (by first | (with_reducible assumption) | assumption)
        have q246:x3_1 < (l0.length : Int):=of_decide_eq_true (by first | (with_reducible assumption) | assumption)
        obtain ⟨ad246,e246,hx246_0⟩:=Kd.at_int HR0.out x3_1 p246 q246
        obtain rfl : ad245=ad246:=(by injection e246)
        replace p246:=eq_true p246
        replace q246:=eq_true q246
        go_wp2
        go_ret
        exact ⟨by first | rfl | (simp; done) | (simp [*]; done),by repeat (first | exact Drawn0.refl _ | apply Drawn0.step)⟩
       ·rw [if_neg c6] at H
        have c6b0 : ((wrap64 (x3_1 + 1)) == (l0.length : Int))=false:=beq_eq_false_iff_ne.mpr c6
        have c6b1 : ((wrap64 (x3_1 + 1)) != (l0.length : Int))=true:=bne_iff_ne.mpr c6
        obtain ⟨ji7,hji7⟩ : ∃ j_ : Int,(wrap64 (x3_1 + 1))=j_:=⟨_,rfl⟩
        replace H : (if 0≤(ji7) then (if (ji7) < (l0.length : Int) then (if (rd l0 (ji7))=13 then (some false) else (lamplighterref04_Good.l0 k1 l0 ji7)) else (none)) else (none))=some r:=by first | (rw [hji7] at H; exact H) | (simp only [hji7] at H ⊢; exact H)
        (try rw [hji7] at c6b0)
        (try rw [hji7] at c6b1)
        have hji7w : (IntKind.i64.wrap (x3_1 + 1))=ji7:=(i64_w _).trans hji7
        by_cases c8 : 0≤(ji7)
        ·rw [if_pos c8] at H
         have c8b0:decide (0≤(ji7))=true:=decide_eq_true c8
         clear c8
         by_cases c9 : (ji7) < (l0.length : Int)
         ·rw [if_pos c9] at H
          have c9b0:decide ((ji7) < (l0.length : Int))=true:=decide_eq_true c9
          clear c9
          by_cases c10 : (rd l0 (ji7))=13
          ·rw [if_pos c10] at H
           have c10b0 : ((rd l0 (ji7)) == 13)=true:=beq_iff_eq.mpr c10
           have c10b1 : ((rd l0 (ji7)) != 13)=false:=bne_eq_false_iff_eq.mpr c10
           clear c10
           obtain rfl:=Option.some.inj H
           have p245:0≤(x3_1 : Int):=of_decide_eq_true (by first | (with_reducible assumption) | assumption)
           have q245:x3_1 < (l0.length : Int):=of_decide_eq_true (by first | (with_reducible assumption) | assumption)
           obtain ⟨ad245,e245,hx245_0⟩:=Kd.at_int HR0.out x3_1 p245 q245
           cases e245
           replace p245:=eq_true p245
           replace q245:=eq_true q245
           have p246:0≤(x3_1 : Int):=of_decide_eq_true (by first | (with_reducible assumption) | assumption)
           have q246:x3_1 < (l0.length : Int):=of_decide_eq_true (by first | (with_reducible assumption) | assumption)
           obtain ⟨ad246,e246,hx246_0⟩:=Kd.at_int HR0.out x3_1 p246 q246
           obtain rfl : ad245=ad246:=(by injection e246)
           replace p246:=eq_true p246
           replace q246:=eq_true q246
           have p247:0≤((ji7) : Int):=of_decide_eq_true (by first | (with_reducible assumption) | assumption)
           have q247 : (ji7) < (l0.length : Int):=of_decide_eq_true (by first | (with_reducible assumption) | assumption)
           obtain ⟨ad247,e247,hx247_0⟩:=Kd.at_int HR0.out (ji7) p247 q247
           obtain rfl : ad245=ad247:=(by injection e247)
           replace p247:=eq_true p247
           replace q247:=eq_true q247
           go_wp2
           go_ret
           exact ⟨by first | rfl | (simp; done) | (simp only [← hji7] <;> (first | rfl | simp)) | (simp [*]; done),by repeat (first | exact Drawn0.refl _ | apply Drawn0.step)⟩
          ·rw [if_neg c10] at H
           have c10b0 : ((rd l0 (ji7)) == 13)=false:=beq_eq_false_iff_ne.mpr c10
           have c10b1 : ((rd l0 (ji7)) != 13)=true:=bne_iff_ne.mpr c10
           have H':=Aside0.mk H
           clear H
           have p245:0≤(x3_1 : Int):=of_decide_eq_true (by first | (with_reducible assumption) | assumption)
           have q245:x3_1 < (l0.length : Int):=of_decide_eq_true (by first | (with_reducible assumption) | assumption)
           obtain ⟨ad245,e245,hx245_0⟩:=Kd.at_int HR0.out x3_1 p245 q245
           cases e245
           replace p245:=eq_true p245
           replace q245:=eq_true q245
           have p246:0≤(x3_1 : Int):=of_decide_eq_true (by first | (with_reducible assumption) | assumption)
           have q246:x3_1 < (l0.length : Int):=of_decide_eq_true (by first | (with_reducible assumption) | assumption)
           obtain ⟨ad246,e246,hx246_0⟩:=Kd.at_int HR0.out x3_1 p246 q246
           obtain rfl : ad245=ad246:=(by injection e246)
           replace p246:=eq_true p246
           replace q246:=eq_true q246
           have p247:0≤((ji7) : Int):=of_decide_eq_true (by first | (with_reducible assumption) | assumption)
           have q247 : (ji7) < (l0.length : Int):=of_decide_eq_true (by first | (with_reducible assumption) | assumption)
           obtain ⟨ad247,e247,hx247_0⟩:=Kd.at_int HR0.out (ji7) p247 q247
           obtain rfl : ad245=ad247:=(by injection e247)
           replace p247:=eq_true p247
           replace q247:=eq_true q247
           go_wp2
           go_roundg k1
           case measure=>have:=HK1.out; omega
           case rel=>exact ⟨(ji7),(by first | rfl | (simp; done) | (simp only [← hji7] <;> (first | rfl | simp)) | (simp [*]; done)),H',⟨by have:=HK1.out; omega⟩,by repeat (first | exact Drawn0.refl _ | apply Drawn0.step)⟩
         ·rw [if_neg c9] at H
          exact absurd H (by simp)
        ·rw [if_neg c8] at H
         exact absurd H (by simp)
      ·rw [if_neg c5] at H
       have c5b0 : ((rd l0 x3_1) == 28)=false:=beq_eq_false_iff_ne.mpr c5
       have c5b1 : ((rd l0 x3_1) != 28)=true:=bne_iff_ne.mpr c5
       have H':=Aside0.mk H
       clear H
       have p245:0≤(x3_1 : Int):=of_decide_eq_true (by first | (with_reducible assumption) | assumption)
       have q245:x3_1 < (l0.length : Int):=of_decide_eq_true (by first | (with_reducible assumption) | assumption)
       obtain ⟨ad245,e245,hx245_0⟩:=Kd.at_int HR0.out x3_1 p245 q245
       cases e245
       replace p245:=eq_true p245
       replace q245:=eq_true q245
       have p246:0≤(x3_1 : Int):=of_decide_eq_true (by first | (with_reducible assumption) | assumption)
       have q246:x3_1 < (l0.length : Int):=of_decide_eq_true (by first | (with_reducible assumption) | assumption)
       obtain ⟨ad246,e246,hx246_0⟩:=Kd.at_int HR0.out x3_1 p246 q246
       obtain rfl : ad245=ad246:=(by injection e246)
       replace p246:=eq_true p246
       replace q246:=eq_true q246
       go_wp2
       go_roundg k1
       case measure=>have:=HK1.out; omega
       case rel=>exact ⟨(wrap64 (x3_1 + 1)),(by first | rfl | (simp; done) | (simp [*]; done)),H',⟨by have:=HK1.out; omega⟩,by repeat (first | exact Drawn0.refl _ | apply Drawn0.step)⟩
    ·rw [if_neg c3] at H
     exact absurd H (by simp)
   ·rw [if_neg c2] at H
    have c2b0:decide (x3_1 < (l0.length : Int))=false:=decide_eq_false c2
    clear c2
    obtain rfl:=Option.some.inj H
    go_wp2
    go_ret
    exact ⟨by first | rfl | (simp; done) | (simp [*]; done),by repeat (first | exact Drawn0.refl _ | apply Drawn0.step)⟩

end Go.Proofs.YtljdbphojcglgaaDoor.PF
