/-
  DERIVED: THE SHELF's CONTRACTS AT THIS DUMP,IN PLAIN WORDS (tools/lay-plain.mjs out of 'YtljdbphojcglgaaDoorSBts.lean',which tools/lay-shelf.mjs wrote): THE SAME DECLARATIONS UNDER THE SAME NAMES: 'import','namespace','open','def','theorem' AND NOTHING ELSE: no command of the shelf's: FOR A HAND-IN. Each laying: the table of numbers ('.._ren') and one theorem,a field a fact of the dump's own or the kernel's comparison; each contract: ONE APPLICATION.
-/
import Derived.Shelf.Bytes.SlIndexAt
import Derived.Shelf.Bytes.SlIndexWhole
import Derived.Shelf.Bytes.SlClone
import Derived.Shelf.Bytes.SlSmallAll
import Derived.Shelf.Bytes.SlCut
import Derived.Test.YtljdbphojcglgaaDoorProg
namespace Go.Proofs
open Go.Shelf
def Tryd.lays185_ren : Go.Shelf.Ren:=⟨fun | 185=>28 | 187=>13 | 115=>52 | 253=>53 | 224=>54 | 254=>55 | 255=>29 | 291=>68 | n=>n,fun | 37=>22 | 3=>3 | 4=>4 | 0=>0 | 5=>5 | 46=>86 | 9=>9 | 146=>99 | 51=>98 | n=>n,fun | 1=>3 | n=>n⟩
theorem Tryd.lays185 : Go.Proofs.Lays.n185 Tryd.prog Tryd.lays185_ren:={
  mixed:=by kernel_rfl
  f115:=Tryd.func52.trans (congrArg some (by kernel_rfl))
  f185:=Tryd.func28.trans (congrArg some (by kernel_rfl))
  f187:=Tryd.func13.trans (congrArg some (by kernel_rfl))
  f224:=Tryd.func54.trans (congrArg some (by kernel_rfl))
  f253:=Tryd.func53.trans (congrArg some (by kernel_rfl))
  f254:=Tryd.func55.trans (congrArg some (by kernel_rfl))
  f255:=Tryd.func29.trans (congrArg some (by kernel_rfl))
  f291:=Tryd.func68.trans (congrArg some (by kernel_rfl))
  t0:=Tryd.underlying0
  a0:=Tryd.isAgg0
  z0:=Tryd.sizeOf0
  v0:=Tryd.zeroValue0
  t3:=Tryd.underlying3
  a3:=Tryd.isAgg3
  z3:=Tryd.sizeOf3
  v3:=Tryd.zeroValue3
  t4:=Tryd.underlying4
  a4:=Tryd.isAgg4
  z4:=Tryd.sizeOf4
  v4:=Tryd.zeroValue4
  t5:=Tryd.underlying5
  a5:=Tryd.isAgg5
  z5:=Tryd.sizeOf5
  v5:=Tryd.zeroValue5
  t9:=Tryd.underlying9
  a9:=Tryd.isAgg9
  z9:=Tryd.sizeOf9
  v9:=Tryd.zeroValue9
  t37:=Tryd.underlying22
  a37:=Tryd.isAgg22
  z37:=Tryd.sizeOf22
  v37:=Tryd.zeroValue22
  t46:=Tryd.underlying86
  a46:=Tryd.isAgg86
  z46:=Tryd.sizeOf86
  v46:=Tryd.zeroValue86
  t51:=Tryd.underlying98
  a51:=Tryd.isAgg98
  z51:=Tryd.sizeOf98
  v51:=Tryd.zeroValue98
  t146:=Tryd.underlying99
  a146:=Tryd.isAgg99
  z146:=Tryd.sizeOf99
  v146:=Tryd.zeroValue99
  g1:=by kernel_rfl }
def Tryd.lays186_ren : Go.Shelf.Ren:=⟨fun | 186=>32 | 185=>28 | 187=>13 | 115=>52 | 253=>53 | 224=>54 | 254=>55 | 255=>29 | 291=>68 | n=>n,fun | 37=>22 | 4=>4 | 3=>3 | 0=>0 | 5=>5 | 46=>86 | 9=>9 | 146=>99 | 51=>98 | n=>n,fun | 1=>3 | n=>n⟩
theorem Tryd.lays186 : Go.Proofs.Lays.n186 Tryd.prog Tryd.lays186_ren:={
  mixed:=by kernel_rfl
  f115:=Tryd.func52.trans (congrArg some (by kernel_rfl))
  f185:=Tryd.func28.trans (congrArg some (by kernel_rfl))
  f186:=Tryd.func32.trans (congrArg some (by kernel_rfl))
  f187:=Tryd.func13.trans (congrArg some (by kernel_rfl))
  f224:=Tryd.func54.trans (congrArg some (by kernel_rfl))
  f253:=Tryd.func53.trans (congrArg some (by kernel_rfl))
  f254:=Tryd.func55.trans (congrArg some (by kernel_rfl))
  f255:=Tryd.func29.trans (congrArg some (by kernel_rfl))
  f291:=Tryd.func68.trans (congrArg some (by kernel_rfl))
  t0:=Tryd.underlying0
  a0:=Tryd.isAgg0
  z0:=Tryd.sizeOf0
  v0:=Tryd.zeroValue0
  t3:=Tryd.underlying3
  a3:=Tryd.isAgg3
  z3:=Tryd.sizeOf3
  v3:=Tryd.zeroValue3
  t4:=Tryd.underlying4
  a4:=Tryd.isAgg4
  z4:=Tryd.sizeOf4
  v4:=Tryd.zeroValue4
  t5:=Tryd.underlying5
  a5:=Tryd.isAgg5
  z5:=Tryd.sizeOf5
  v5:=Tryd.zeroValue5
  t9:=Tryd.underlying9
  a9:=Tryd.isAgg9
  z9:=Tryd.sizeOf9
  v9:=Tryd.zeroValue9
  t37:=Tryd.underlying22
  a37:=Tryd.isAgg22
  z37:=Tryd.sizeOf22
  v37:=Tryd.zeroValue22
  t46:=Tryd.underlying86
  a46:=Tryd.isAgg86
  z46:=Tryd.sizeOf86
  v46:=Tryd.zeroValue86
  t51:=Tryd.underlying98
  a51:=Tryd.isAgg98
  z51:=Tryd.sizeOf98
  v51:=Tryd.zeroValue98
  t146:=Tryd.underlying99
  a146:=Tryd.isAgg99
  z146:=Tryd.sizeOf99
  v146:=Tryd.zeroValue99
  g1:=by kernel_rfl }
open Go.RowKit Go.Lib in
/-- bytes.Index at a separator of one byte, s at whatever address. (LAID: no walk: one application.) -/
theorem Tryd.bytes_Index_one_at (a : Addr) (n c b2 o2 d : Nat) (xs : List Int) (cv : Int) (w : World) (hx : xs.length=n) (hc : ∀ i,i < n→w.cell? (a.add i)=some (.int .u8 (xs.getD i 0))) (hc2 : w.cell? ⟨b2,o2,none⟩=some (.int .u8 cv)) :
    Calls Tryd.prog 28 #[.slice (some a) n c, .slice (some ⟨b2,o2,none⟩) 1 d] w fun e w'=>e = .returned (.int .i64 (Lib.indexByte (Lib.bytesOf xs) cv.toNat.toUInt8))∧w'=w:=Any.bytes_Index_one_at Tryd.lays185 a n c b2 o2 d xs cv w hx hc hc2
open Go.Proofs Go.RowKit Go.Lib in
/-- bytes.Contains where b is nil: true at a subslice of no byte, else false. (LAID: no walk: one application.) -/
theorem Tryd.bytes_Contains_nil (p2 : Option Addr) (k c2 : Nat) (w : World) (hk : k≤9223372036854775807) (h1 : k=1→∃ b2 o2 cv,p2=some ⟨b2,o2,none⟩∧w.cell? ⟨b2,o2,none⟩=some (.int .u8 cv)) :
    Calls Tryd.prog 32 #[.slice none 0 0, .slice p2 k c2] w fun e w'=>e = .returned (.bool (decide (k=0)))∧w'=w:=Any.bytes_Contains_nil Tryd.lays186 p2 k c2 w hk h1
def Tryd.laysM186_ren : Go.Shelf.Ren:=⟨fun | 186=>32 | 185=>28 | 187=>13 | 115=>52 | 253=>53 | 224=>54 | 254=>55 | 255=>29 | 291=>68 | n=>n,fun | 37=>22 | 4=>4 | 3=>3 | 0=>0 | 5=>5 | 46=>86 | 9=>9 | 146=>99 | 51=>98 | n=>n,fun | 1=>3 | n=>n⟩
theorem Tryd.laysM186 : Go.Proofs.LaysM.n186 Tryd.prog Tryd.laysM186_ren:={
  mixed:=by kernel_rfl
  f115:=Tryd.func52.trans (congrArg some (by kernel_rfl))
  f185:=Tryd.func28.trans (congrArg some (by kernel_rfl))
  f186:=Tryd.func32.trans (congrArg some (by kernel_rfl))
  f187:=Tryd.func13.trans (congrArg some (by kernel_rfl))
  f224:=Tryd.func54.trans (congrArg some (by kernel_rfl))
  f253:=Tryd.func53.trans (congrArg some (by kernel_rfl))
  f254:=Tryd.func55.trans (congrArg some (by kernel_rfl))
  f255:=Tryd.func29.trans (congrArg some (by kernel_rfl))
  f291:=Tryd.func68.trans (congrArg some (by kernel_rfl))
  t0:=Tryd.underlying0
  a0:=Tryd.isAgg0
  z0:=Tryd.sizeOf0
  v0:=Tryd.zeroValue0
  t3:=Tryd.underlying3
  a3:=Tryd.isAgg3
  z3:=Tryd.sizeOf3
  v3:=Tryd.zeroValue3
  t4:=Tryd.underlying4
  a4:=Tryd.isAgg4
  z4:=Tryd.sizeOf4
  v4:=Tryd.zeroValue4
  t5:=Tryd.underlying5
  a5:=Tryd.isAgg5
  z5:=Tryd.sizeOf5
  v5:=Tryd.zeroValue5
  t9:=Tryd.underlying9
  a9:=Tryd.isAgg9
  z9:=Tryd.sizeOf9
  v9:=Tryd.zeroValue9
  t37:=Tryd.underlying22
  a37:=Tryd.isAgg22
  z37:=Tryd.sizeOf22
  v37:=Tryd.zeroValue22
  t46:=Tryd.underlying86
  a46:=Tryd.isAgg86
  z46:=Tryd.sizeOf86
  v46:=Tryd.zeroValue86
  t51:=Tryd.underlying98
  a51:=Tryd.isAgg98
  z51:=Tryd.sizeOf98
  v51:=Tryd.zeroValue98
  t146:=Tryd.underlying99
  a146:=Tryd.isAgg99
  z146:=Tryd.sizeOf99
  v146:=Tryd.zeroValue99
  g1:=by kernel_rfl
  i0:=by kernel_rfl
  i3:=by kernel_rfl
  i4:=by kernel_rfl
  i5:=by kernel_rfl
  i9:=by kernel_rfl
  i37:=by kernel_rfl
  i46:=by kernel_rfl
  i51:=by kernel_rfl
  i146:=by kernel_rfl
  m1:=by kernel_rfl
  s1_3:=fun w h=>Go.Proofs.cell_of_shapedOpen_int (zero:=#[.int .i64 0]) (t:=3) h (of_decide_eq_true (by kernel_rfl)) (by kernel_rfl) rfl (by kernel_rfl) (by kernel_rfl) Tryd.underlying3 }
open Go.Proofs Go.RowKit Go.Lib in
theorem Tryd.bytes_Contains_at_shaped (a1 a2 : Addr) (n c1 k c2 : Nat) (xs ys : List Int) (w : World) (hx : xs.length=n) (hy : ys.length=k) (hr1 : ∀ x ∈ xs,0≤x∧x < 256) (hr2 : ∀ y ∈ ys,0≤y∧y < 256) (hc1 : ∀ i,i < n→w.cell? (a1.add i)=some (.int .u8 (xs.getD i 0))) (hc2 : ∀ i,i < k→w.cell? (a2.add i)=some (.int .u8 (ys.getD i 0))) (hcap : n≤c1) (hs : n < 4294967281) (hk : k≤9223372036854775807) (h : w.ShapedOpen Tryd.prog) :
    Calls Tryd.prog 32 #[.slice (some a1) n c1, .slice (some a2) k c2] w fun e w'=>e = .returned (.bool (Lib.contains (Lib.bytesOf xs) (Lib.bytesOf ys)))∧∃ q,w'=w.drewN q:=Any.bytes_Contains_at_shaped Tryd.laysM186 a1 a2 n c1 k c2 xs ys w hx hy hr1 hr2 hc1 hc2 hcap hs hk h
def Tryd.laysSlK4_ren : Go.Shelf.Ren:=⟨fun | 4=>20 | n=>n,fun | 22=>22 | 4=>4 | 5=>5 | n=>n,fun | n=>n⟩
theorem Tryd.laysSlK4 : Go.Proofs.SlLaysK.n4 Tryd.prog Tryd.laysSlK4_ren:={
  mixed:=by kernel_rfl
  f4:=Tryd.func20.trans (congrArg some (by kernel_rfl))
  t4:=Tryd.underlying4
  a4:=Tryd.isAgg4
  z4:=Tryd.sizeOf4
  v4:=Tryd.zeroValue4
  t22:=Tryd.underlying22
  a22:=Tryd.isAgg22
  z22:=Tryd.sizeOf22
  v22:=Tryd.zeroValue22
  t5:=Tryd.underlying5
  i5:=by kernel_rfl }
open Go.RowKit Go.Lib in
/-- bytes.Clone: "Clone returns a copy of b[:len(b)]. The result may have additional unused capacity.": OF A SLICE THAT IS NOT nil IT RETURNS A SLICE THAT IS NOT nil, OF THE SAME BYTES, IN MEMORY OF THE CALL's OWN: in the how-to's words (6f): 'w'.ownsRow B e 1 v' n cells' · 'Below B w w'', B the heap's size at the call. b AT WHATEVER ADDRESS, its cells as 'open_ints' hands them ('a.add i'; the numbers 'xs'). No byte: no cell is asked for. (LAID: no walk: one application.) -/
theorem Tryd.bytes_Clone_at (a : Addr) (n c : Nat) (xs : List Int) (w : World) (hx : xs.length=n) (hbig : n≤140737488355328) (hc : ∀ i,i < n→w.cell? (a.add i)=some (.int .u8 (xs.getD i 0))) :
    Calls Tryd.prog 20 #[.slice (some a) n c] w fun e w' => ∃ v',e = .returned v'∧w'.ownsRow w.heap.size 5 1 v' n (xs.map (Value.int .u8))∧v' ≠ .slice none 0 0∧Below w.heap.size w w':=Any.bytes_Clone_at Tryd.laysSlK4 a n c xs w hx hbig hc
def Tryd.laysnb117_ren : Go.Shelf.Ren:=⟨fun | 117=>33 | 115=>52 | n=>n,fun | 37=>22 | 4=>4 | 3=>3 | 9=>9 | 5=>5 | n=>n,fun | n=>n⟩
theorem Tryd.laysnb117 : Go.Proofs.Lays.nb117 Tryd.prog Tryd.laysnb117_ren:={
  mixed:=by kernel_rfl
  f115:=Tryd.func52.trans (congrArg some (by kernel_rfl))
  f117:=Tryd.func33.trans (congrArg some (by kernel_rfl))
  t3:=Tryd.underlying3
  a3:=Tryd.isAgg3
  z3:=Tryd.sizeOf3
  v3:=Tryd.zeroValue3
  t4:=Tryd.underlying4
  a4:=Tryd.isAgg4
  z4:=Tryd.sizeOf4
  v4:=Tryd.zeroValue4
  t9:=Tryd.underlying9
  a9:=Tryd.isAgg9
  z9:=Tryd.sizeOf9
  v9:=Tryd.zeroValue9
  t37:=Tryd.underlying22
  a37:=Tryd.isAgg22
  z37:=Tryd.sizeOf22
  v37:=Tryd.zeroValue22
  t5:=Tryd.underlying5
  a5:=Tryd.isAgg5
  z5:=Tryd.sizeOf5
  v5:=Tryd.zeroValue5 }
def Tryd.laysnb142_ren : Go.Shelf.Ren:=⟨fun | 142=>19 | 117=>33 | 115=>52 | n=>n,fun | 37=>22 | 4=>4 | 3=>3 | 9=>9 | 5=>5 | n=>n,fun | n=>n⟩
theorem Tryd.laysnb142 : Go.Proofs.Lays.nb142 Tryd.prog Tryd.laysnb142_ren:={
  mixed:=by kernel_rfl
  f115:=Tryd.func52.trans (congrArg some (by kernel_rfl))
  f117:=Tryd.func33.trans (congrArg some (by kernel_rfl))
  f142:=Tryd.func19.trans (congrArg some (by kernel_rfl))
  t3:=Tryd.underlying3
  a3:=Tryd.isAgg3
  z3:=Tryd.sizeOf3
  v3:=Tryd.zeroValue3
  t4:=Tryd.underlying4
  a4:=Tryd.isAgg4
  z4:=Tryd.sizeOf4
  v4:=Tryd.zeroValue4
  t9:=Tryd.underlying9
  a9:=Tryd.isAgg9
  z9:=Tryd.sizeOf9
  v9:=Tryd.zeroValue9
  t37:=Tryd.underlying22
  a37:=Tryd.isAgg22
  z37:=Tryd.sizeOf22
  v37:=Tryd.zeroValue22
  t5:=Tryd.underlying5
  a5:=Tryd.isAgg5
  z5:=Tryd.sizeOf5
  v5:=Tryd.zeroValue5 }
/-- bytes.HasSuffix: WHOLE: each argument nil, or of no byte at whatever address, or at an address with its cells. (LAID: no walk: one application.) -/
theorem Tryd.bytes_HasSuffix_all (p1 p2 : Option Addr) (n c m d : Nat) (xs ys : List Int) (w : World) (hx : xs.length=n) (hy : ys.length=m) (hnc : n≤c) (hbig : n≤9223372036854775807) (h1 : Lib.BytesIn w p1 n xs) (h2 : Lib.BytesIn w p2 m ys) :
    Calls Tryd.prog 33 #[.slice p1 n c, .slice p2 m d] w fun e w'=>e = .returned (.bool (Lib.hasSuffix (Lib.bytesOf xs) (Lib.bytesOf ys)))∧w'=w:=Any.bytes_HasSuffix_all Tryd.laysnb117 p1 p2 n c m d xs ys w hx hy hnc hbig h1 h2
/-- bytes.CutSuffix: WHOLE. (LAID: no walk: one application.) -/
theorem Tryd.bytes_CutSuffix_all (p1 p2 : Option Addr) (n c m d : Nat) (xs ys : List Int) (w : World) (hx : xs.length=n) (hy : ys.length=m) (hnc : n≤c) (hbig : n≤9223372036854775807) (h1 : Lib.BytesIn w p1 n xs) (h2 : Lib.BytesIn w p2 m ys) :
    Calls Tryd.prog 19 #[.slice p1 n c, .slice p2 m d] w fun e w'=>e = .returned (.tuple #[Lib.trimSuffixV p1 n c xs ys, .bool (Lib.hasSuffix (Lib.bytesOf xs) (Lib.bytesOf ys))])∧w'=w:=Any.bytes_CutSuffix_all Tryd.laysnb142 p1 p2 n c m d xs ys w hx hy hnc hbig h1 h2
def Tryd.laysSlT4_ren : Go.Shelf.Ren:=⟨fun | 4=>12 | 5=>28 | 6=>13 | 7=>52 | 8=>53 | 9=>54 | 10=>55 | 11=>29 | 12=>68 | n=>n,fun | 22=>22 | 4=>4 | 3=>3 | 0=>0 | 5=>5 | 29=>86 | 9=>9 | 31=>99 | 30=>98 | n=>n,fun | 0=>3 | n=>n⟩
theorem Tryd.laysSlT4 : Go.Proofs.SlLaysT.n4 Tryd.prog Tryd.laysSlT4_ren:={
  mixed:=by kernel_rfl
  f4:=Tryd.func12.trans (congrArg some (by kernel_rfl))
  f5:=Tryd.func28.trans (congrArg some (by kernel_rfl))
  f6:=Tryd.func13.trans (congrArg some (by kernel_rfl))
  f7:=Tryd.func52.trans (congrArg some (by kernel_rfl))
  f8:=Tryd.func53.trans (congrArg some (by kernel_rfl))
  f9:=Tryd.func54.trans (congrArg some (by kernel_rfl))
  f10:=Tryd.func55.trans (congrArg some (by kernel_rfl))
  f11:=Tryd.func29.trans (congrArg some (by kernel_rfl))
  f12:=Tryd.func68.trans (congrArg some (by kernel_rfl))
  t0:=Tryd.underlying0
  a0:=Tryd.isAgg0
  z0:=Tryd.sizeOf0
  v0:=Tryd.zeroValue0
  t3:=Tryd.underlying3
  a3:=Tryd.isAgg3
  z3:=Tryd.sizeOf3
  v3:=Tryd.zeroValue3
  t4:=Tryd.underlying4
  a4:=Tryd.isAgg4
  z4:=Tryd.sizeOf4
  v4:=Tryd.zeroValue4
  t5:=Tryd.underlying5
  a5:=Tryd.isAgg5
  z5:=Tryd.sizeOf5
  v5:=Tryd.zeroValue5
  t9:=Tryd.underlying9
  a9:=Tryd.isAgg9
  z9:=Tryd.sizeOf9
  v9:=Tryd.zeroValue9
  t22:=Tryd.underlying22
  a22:=Tryd.isAgg22
  z22:=Tryd.sizeOf22
  v22:=Tryd.zeroValue22
  t29:=Tryd.underlying86
  a29:=Tryd.isAgg86
  z29:=Tryd.sizeOf86
  v29:=Tryd.zeroValue86
  t30:=Tryd.underlying98
  a30:=Tryd.isAgg98
  z30:=Tryd.sizeOf98
  v30:=Tryd.zeroValue98
  t31:=Tryd.underlying99
  a31:=Tryd.isAgg99
  z31:=Tryd.sizeOf99
  v31:=Tryd.zeroValue99
  g0:=by kernel_rfl }
/-- THE WALK, bytes.Index's answer a premise: whatever the two slices' addresses. (LAID: no walk: one application.) -/
theorem Tryd.bytes_Cut_of (p1 p2 : Option Addr) (n c1 k c2 : Nat) (i : Int) (w : World) (hcap : n≤c1) (hlo : -1≤i) (hroom : 0≤i→i + k≤n) (hn : n≤4611686018427387904) (hidx : Calls Tryd.prog 28 #[.slice p1 n c1, .slice p2 k c2] w fun e w'=>e = .returned (.int .i64 i)∧∃ q,w'=w.drewN q) :
    Calls Tryd.prog 12 #[.slice p1 n c1, .slice p2 k c2] w fun e w'=>e = .returned (Lib.cutV p1 n c1 k i)∧∃ q,w'=w.drewN q:=Any.bytes_Cut_of Tryd.laysSlT4 p1 p2 n c1 k c2 i w hcap hlo hroom hn hidx
end Go.Proofs
