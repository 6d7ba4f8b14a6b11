/- Five signs may be if each may be and no two are the same; no condition. -/
import Derived.Test.YtljdbphojcglgaaDoorDelim
namespace Go.Proofs.YtljdbphojcglgaaDoor
open Go Go.RowKit Go.Proofs.YtljdbphojcglgaaDoorW.PrintWords Go.Proofs.YtljdbphojcglgaaDoorW.PrintLast
theorem good_iff (a b c d e : Int) : GoodS a b c d e ↔ (OkS a∧OkS b∧OkS c∧OkS d∧OkS e)∧(a ≠ b∧a ≠ c∧a ≠ d∧a ≠ e)∧(b ≠ c∧b ≠ d∧b ≠ e)∧(c ≠ d∧c ≠ e)∧d ≠ e:=by
  have r0:rd [a,b,c,d,e] ((0 : Nat) : Int)=a:=rfl
  have r1:rd [a,b,c,d,e] ((1 : Nat) : Int)=b:=rfl
  have r2:rd [a,b,c,d,e] ((2 : Nat) : Int)=c:=rfl
  have r3:rd [a,b,c,d,e] ((3 : Nat) : Int)=d:=rfl
  have r4:rd [a,b,c,d,e] ((4 : Nat) : Int)=e:=rfl
  constructor
  · intro h
    have f0:=h 0 (by decide) (by decide)
    have f1:=h 1 (by decide) (by decide)
    have f2:=h 2 (by decide) (by decide)
    have f3:=h 3 (by decide) (by decide)
    have f4:=h 4 (by decide) (by decide)
    exact ⟨⟨f0.1,f1.1,f2.1,f3.1,f4.1⟩,⟨f1.2 0 (by decide),f2.2 0 (by decide),f3.2 0 (by decide),f4.2 0 (by decide)⟩,⟨f2.2 1 (by decide),f3.2 1 (by decide),f4.2 1 (by decide)⟩,⟨f3.2 2 (by decide),f4.2 2 (by decide)⟩,f4.2 3 (by decide)⟩
  · rintro ⟨⟨o0,o1,o2,o3,o4⟩,⟨n01,n02,n03,n04⟩,⟨n12,n13,n14⟩,⟨n23,n24⟩,n34⟩ j hj _
    match j,hj with
    | 0,_=>exact ⟨o0,fun m hm=>by omega⟩
    | 1,_=>exact ⟨o1,fun m hm=>by
        match m,hm with
        | 0,_=>exact n01⟩
    | 2,_=>exact ⟨o2,fun m hm=>by
        match m,hm with
        | 0,_=>exact n02
        | 1,_=>exact n12⟩
    | 3,_=>exact ⟨o3,fun m hm=>by
        match m,hm with
        | 0,_=>exact n03
        | 1,_=>exact n13
        | 2,_=>exact n23⟩
    | 4,_=>exact ⟨o4,fun m hm=>by
        match m,hm with
        | 0,_=>exact n04
        | 1,_=>exact n14
        | 2,_=>exact n24
        | 3,_=>exact n34⟩
theorem good_turned (a b c d e : Int) : GoodS e d a b c ↔ GoodS a b c d e:=by
  rw [good_iff,good_iff]
  constructor
  · rintro ⟨⟨o4,o3,o0,o1,o2⟩,⟨n1,n2,n3,n4⟩,⟨n5,n6,n7⟩,⟨n8,n9⟩,n10⟩
    exact ⟨⟨o0,o1,o2,o3,o4⟩,⟨n8,n9,Ne.symm n5,Ne.symm n2⟩,⟨n10,Ne.symm n6,Ne.symm n3⟩,⟨Ne.symm n7,Ne.symm n4⟩,Ne.symm n1⟩
  · rintro ⟨⟨o0,o1,o2,o3,o4⟩,⟨n8,n9,n5,n2⟩,⟨n10,n6,n3⟩,⟨n7,n4⟩,n1⟩
    exact ⟨⟨o4,o3,o0,o1,o2⟩,⟨Ne.symm n1,Ne.symm n2,Ne.symm n3,Ne.symm n4⟩,⟨Ne.symm n5,Ne.symm n6,Ne.symm n7⟩,⟨n8,n9⟩,n10⟩
theorem good_twice (a c d e : Int) : ¬ GoodS a a c d e:=fun h=>((good_iff _ _ _ _ _).1 h).2.1.1 rfl
theorem good_plain {a b c d e : Int} (h : ¬ OkS c) : ¬ GoodS a b c d e:=fun g=>h ((good_iff _ _ _ _ _).1 g).1.2.2.1
end Go.Proofs.YtljdbphojcglgaaDoor
