/- The example of the laws of messages that are taken is answered 'true'; condition: fuel for a step each. -/
import Derived.Test.YtljdbphojcglgaaDoorPFx15
import Derived.Test.YtljdbphojcglgaaDoorAccept
namespace Go.Proofs.YtljdbphojcglgaaDoor.Pure
open Go Go.RowKit Go.Proofs.YtljdbphojcglgaaDoor.PF Go.Proofs.YtljdbphojcglgaaDoorW.PrintWords Go.Proofs.YtljdbphojcglgaaDoorW.PrintLast
def exOne : List Int:=[77,83,72,124,94,126,92,38,124,124,124,124,124,124,124,65,68,84,124,55,124,80,124,50,46,53]
def exTwo : List Int:=[77,83,72,124,94,126,92,38,124,124,124,124,124,124,124,65,68,84,124,55,124,80,124,57]
theorem exOne_is : readM exOne=(124,94,126,92,38,strOf [],strOf [],strOf [],strOf [],strOf [],strOf [],strOf [65,68,84],strOf [55],strOf [80],strOf [50,46,53],0):=by
  have hr:readS exOne=(124,94,126,92,38,0):=by decide
  have hf:fieldsOf (UInt8.ofNat (124 : Int).toNat) ((segsOf (Lib.bytesOf exOne)).headD [])=[[124],[94,126,92,38],[],[],[],[],[],[],[65,68,84],[55],[80],[50,46,53]]:=by decide
  unfold readM
  rw [hr]
  dsimp only
  rw [if_pos rfl,hf,if_pos (by decide)]
  rfl
theorem exTwo_is : readM exTwo=(124,94,126,92,38,strOf [],strOf [],strOf [],strOf [],strOf [],strOf [],strOf [65,68,84],strOf [55],strOf [80],strOf [57],0):=by
  have hr:readS exTwo=(124,94,126,92,38,0):=by decide
  have hf:fieldsOf (UInt8.ofNat (124 : Int).toNat) ((segsOf (Lib.bytesOf exTwo)).headD [])=[[124],[94,126,92,38],[],[],[],[],[],[],[65,68,84],[55],[80],[57]]:=by decide
  unfold readM
  rw [hr]
  dsimp only
  rw [if_pos rfl,hf,if_pos (by decide)]
  rfl
def exSaid : List UInt8:=[77,83,72,124,94,126,92,38,124,124,124,124,124,124,124,65,67,75,124,55,124,80,124,50,46,53,13,77,83,65,124,65,69,124,55,13]
theorem exSaid_is : buildOf 124 94 126 92 38 (strOf []) (strOf []) (strOf []) (strOf []) (strOf []) (strOf [55]) (strOf [80]) (strOf [50,46,53]) (⟨#[65,69]⟩ : ByteArray)=(exSaid,0):=by
  rw [build_nums (by decide) (by decide) ?_]
  · rfl
  · rintro ⟨y,hy,hm⟩
    simp only [List.mem_cons,List.not_mem_nil,or_false] at hy
    rcases hy with rfl | rfl | rfl | rfl | rfl | rfl | rfl | rfl | rfl | rfl <;> revert hm <;> decide
theorem exLast_is : lastOf 124 94 126 92 38 (strOf []) (strOf []) (strOf []) (strOf []) (strOf []) (strOf [55]) (strOf [80]) (strOf [50,46,53]) (⟨#[65,69]⟩ : ByteArray)=((([] ++ [11]) ++ numsOf exSaid) ++ [28,13],true):=by
  unfold lastOf
  rw [exSaid_is,if_pos rfl,if_pos (by decide +kernel)]
theorem alive11_is (k : Nat) (hk : 100 < k) : lamplighterlaw11_alive.f k=some true:=by
  have hb1 : ∀ x ∈ exOne,IsByte x:=by unfold IsByte exOne; decide
  have hb2 : ∀ x ∈ exTwo,IsByte x:=by unfold IsByte exTwo; decide
  have b1:IsByte 124:=by unfold IsByte; decide
  have b2:IsByte 94:=by unfold IsByte; decide
  have b3:IsByte 126:=by unfold IsByte; decide
  have b4:IsByte 92:=by unfold IsByte; decide
  have b5:IsByte 38:=by unfold IsByte; decide
  have v1:=Verdict_head k (by omega) hb1 (by decide) exOne_is (by decide +kernel) b2 b3 (by decide) (by decide)
  have v2:=Verdict_head k (by omega) hb2 (by decide) exTwo_is (by decide +kernel) b2 b3 (by decide) (by decide)
  have c1:ckOf 94 126 (strOf [65,68,84]) (strOf [55]) (strOf [80]) (strOf [50,46,53])=0:=by decide +kernel
  have c2:ckOf 94 126 (strOf [65,68,84]) (strOf [55]) (strOf [80]) (strOf [57])=12:=by decide +kernel
  rw [c1] at v1
  rw [c2] at v2
  have r1:accept_Reply.f k exOne false=some ((([] ++ [11]) ++ numsOf exSaid) ++ [28,13],true):=by
    unfold accept_Reply.f
    rw [v1,Option.bind_some]
    dsimp only
    rw [if_neg (by rw [Lib.toList_data]; decide),Good_spec hb1 (by decide),Option.bind_some,show goodB exOne=true by decide +kernel,Bool.not_true,j0_good k (by omega) false (by decide) (by decide) b1 b2 b3 b4 b5,if_pos ⟨by rw [Lib.toList_data]; decide,rfl⟩,exLast_is]
  unfold lamplighterlaw11_alive.f
  rw [show ([77,83,72,124,94,126,92,38,124,124,124,124,124,124,124,65,68,84,124,55,124,80,124,50,46,53] : List Int)=exOne from rfl,show ([77,83,72,124,94,126,92,38,124,124,124,124,124,124,124,65,68,84,124,55,124,80,124,57] : List Int)=exTwo from rfl,v1,Option.bind_some,v2,Option.bind_some,r1,Option.bind_some]
  dsimp only
  rw [if_pos ⟨rfl,rfl,rfl,rfl,rfl,by decide +kernel⟩]
end Go.Proofs.YtljdbphojcglgaaDoor.Pure
