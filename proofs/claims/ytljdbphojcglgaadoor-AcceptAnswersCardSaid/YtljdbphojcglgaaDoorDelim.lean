/- Which signs may be: what delim.Right answers, as a law over five bytes; condition: each is a byte, and fuel for a step a sign. -/
import Derived.Test.YtljdbphojcglgaaDoorPFx3
import Derived.Lib.IndexLaws
namespace Go.Proofs.YtljdbphojcglgaaDoor
open Go Go.RowKit Go.Proofs.YtljdbphojcglgaaDoor.PF Go.Proofs.YtljdbphojcglgaaDoorW.PrintWords Go.Proofs.YtljdbphojcglgaaDoorW.PrintLast

/-- A byte may be a sign. -/
def OkS (c : Int) : Prop:=33≤c∧c≤126∧¬ (65≤c∧c≤90)∧¬ (97≤c∧c≤122)∧¬ (48≤c∧c≤57)
instance (c : Int) : Decidable (OkS c):=by unfold OkS; exact inferInstance
theorem low_bits : ∀ n : Fin 256,(97≤Go.bits .or .u8 (n.val : Int) 32∧Go.bits .or .u8 (n.val : Int) 32≤122) ↔ ((65≤(n.val : Int)∧(n.val : Int)≤90)∨(97≤(n.val : Int)∧(n.val : Int)≤122)):=by decide +kernel
theorem low_bits_at (c : Int) (h : 0≤c∧c≤255) : (97≤Go.bits .or .u8 c 32∧Go.bits .or .u8 c 32≤122) ↔ ((65≤c∧c≤90)∨(97≤c∧c≤122)):=by
  obtain ⟨n,rfl⟩:=Int.eq_ofNat_of_zero_le h.1
  exact low_bits ⟨n,by omega⟩
/-- Five bytes. -/
def Bytes5 (l : List Int) : Prop:=l.length=5∧∀ c ∈ l,0≤c∧c≤255
theorem rd_byte {l : List Int} (h : Bytes5 l) {i : Nat} (hi : i < 5) : 0≤rd l i∧rd l i≤255:=by
  have e:rd l i=l[i]'(by rw [h.1]; exact hi):=by
    unfold rd
    rw [Int.toNat_natCast,List.getD_eq_getElem?_getD,List.getElem?_eq_getElem (by rw [h.1]; exact hi)]; rfl
  rw [e]
  exact h.2 _ (List.getElem_mem _)
/-- The sign i may be, and none ahead of it is the same. -/
def Fit (l : List Int) (i : Nat) : Prop:=OkS (rd l i)∧∀ m,m < i→rd l m ≠ rd l i
instance (l : List Int) (i : Nat) : Decidable (Fit l i):=by unfold Fit; exact inferInstance
/-- All from i on fit. -/
def FitFrom (l : List Int) (i : Nat) : Prop := ∀ j,j < 5→i≤j→Fit l j
instance (l : List Int) (i : Nat) : Decidable (FitFrom l i):=by unfold FitFrom; exact inferInstance
theorem fit_step {l : List Int} {i : Nat} (hi : i < 5) : FitFrom l i ↔ Fit l i∧FitFrom l (i + 1):=by
  constructor
  · intro h
    exact ⟨h i hi (Nat.le_refl _),fun j hj hij=>h j hj (by omega)⟩
  · intro h j hj hij
    by_cases e : j=i
    · subst e; exact h.1
    · exact h.2 j hj (by omega)
theorem index_lt {l : List Int} (hb : Bytes5 l) {i : Nat} (hi : i < 5) : Lib.indexByte (Lib.bytesOf l) (rd l i).toNat.toUInt8 < (i : Int) ↔ ¬ ∀ m,m < i→rd l m ≠ rd l i:=by
  have hget : ∀ m : Nat,m < 5→(Lib.bytesOf l)[m]?=some (UInt8.ofNat (rd l m).toNat):=by
    intro m hm
    unfold Lib.bytesOf rd
    rw [List.getElem?_map,List.getElem?_eq_getElem (by rw [hb.1]; exact hm),Int.toNat_natCast,List.getD_eq_getElem?_getD,List.getElem?_eq_getElem (by rw [hb.1]; exact hm)]
    rfl
  have hinj : ∀ m : Nat,m < 5→UInt8.ofNat (rd l m).toNat=UInt8.ofNat (rd l i).toNat→rd l m=rd l i:=by
    intro m hm e
    have h1:=rd_byte hb hm
    have h2:=rd_byte hb hi
    have:=congrArg UInt8.toNat e
    rw [UInt8.toNat_ofNat',UInt8.toNat_ofNat'] at this
    omega
  have hc : (rd l i).toNat.toUInt8=UInt8.ofNat (rd l i).toNat:=rfl
  rw [hc]
  have hge:=Lib.indexByte_ge (Lib.bytesOf l) (UInt8.ofNat (rd l i).toNat)
  by_cases hn : Lib.indexByte (Lib.bytesOf l) (UInt8.ofNat (rd l i).toNat) = -1
  · exact absurd (hget i hi) (Lib.indexByte_none hn i)
  · obtain ⟨o,ho⟩:=Int.eq_ofNat_of_zero_le (a:=Lib.indexByte (Lib.bytesOf l) (UInt8.ofNat (rd l i).toNat)) (by omega)
    obtain ⟨h1,h2⟩:=Lib.indexByte_some ho
    rw [ho]
    constructor
    · intro hlt h
      have hoi:o < i:=by omega
      have:=hget o (by omega)
      rw [h1] at this
      exact h o hoi (hinj o (by omega) (Option.some.inj this).symm)
    · intro h
      by_cases hlt : o < i
      · omega
      · exfalso
        refine h (fun m hm e=>?_)
        have:=hget m (by omega)
        rw [e] at this
        exact h2 m (by omega) this
theorem right_loop {l : List Int} (hb : Bytes5 l) (d : Nat) : ∀ (k i : Nat),i≤5→5 - i=d→d < k→delim_Right.l0 k l l 5 i=some (decide (FitFrom l i)):=by
  induction d with
  | zero =>
    intro k i hi hd hk
    obtain ⟨k,rfl⟩ : ∃ m,k=m + 1:=⟨k - 1,by omega⟩
    have q : ¬ ((i : Int) < 5):=by omega
    have q1:FitFrom l i:=fun j hj hij=>by omega
    rw [delim_Right.l0,if_neg q,decide_eq_true q1]
  | succ d ih =>
    intro k i hi hd hk
    obtain ⟨k,rfl⟩ : ∃ m,k=m + 1:=⟨k - 1,by omega⟩
    have hi5:i < 5:=by omega
    have q : (i : Int) < 5:=by omega
    have q0 : (0 : Int)≤(i : Int):=by omega
    have q1 : (i : Int) < (l.length : Int):=by rw [hb.1]; omega
    have hw:wrap64 ((i : Int) + 1)=((i + 1 : Nat) : Int):=by unfold wrap64; omega
    have ih:=ih k (i + 1) (by omega) (by omega) (by omega)
    have hbit:=low_bits_at _ (rd_byte hb hi5)
    have hidx:=index_lt hb hi5
    have hbb:=rd_byte hb hi5
    have hfs:=fit_step (l:=l) hi5
    have hF:Fit l i ↔ OkS (rd l i)∧∀ m,m < i→rd l m ≠ rd l i:=Iff.rfl
    have goal : ∀ (b p : Prop) [Decidable b],(b ↔ p)→True:=fun _ _ _ _=>trivial
    clear goal
    rw [delim_Right.l0,if_pos q,if_pos q0,if_pos q1,hw,ih]
    unfold bytes_IndexByte.f
    simp only [Option.bind_some]
    generalize Go.bits .or .u8 (rd l i) 32=bb at hbit ⊢
    generalize Lib.indexByte (Lib.bytesOf l) (rd l i).toNat.toUInt8=ix at hidx ⊢
    unfold OkS at hF
    repeat' split
    all_goals first
      | (congr 1; rw [eq_comm,decide_eq_false_iff_not,hfs,hF]; rintro ⟨⟨ho,hm⟩,_⟩; first | omega | exact hidx.1 (by assumption) hm)
      | (congr 1; rw [decide_eq_decide,hfs,hF]; refine ⟨fun h=>⟨⟨by omega,Classical.byContradiction fun hh=>absurd (hidx.2 hh) (by assumption)⟩,h⟩,fun h=>h.2⟩)
/-- These five bytes may be the signs. -/
def GoodS (a b c d e : Int) : Prop:=FitFrom [a,b,c,d,e] 0
instance (a b c d e : Int) : Decidable (GoodS a b c d e):=by unfold GoodS; exact inferInstance
theorem bytes5 {a b c d e : Int} (ha : 0≤a∧a≤255) (hb : 0≤b∧b≤255) (hc : 0≤c∧c≤255) (hd : 0≤d∧d≤255) (he : 0≤e∧e≤255) : Bytes5 [a,b,c,d,e] :=
  ⟨rfl,fun x hx=>by
    simp only [List.mem_cons,List.not_mem_nil,or_false] at hx
    rcases hx with rfl | rfl | rfl | rfl | rfl <;> assumption⟩
theorem Right_spec (k : Nat) (hk : 6≤k) (a b c d e : Int) (ha : 0≤a∧a≤255) (hb : 0≤b∧b≤255) (hc : 0≤c∧c≤255) (hd : 0≤d∧d≤255) (he : 0≤e∧e≤255) :
    delim_Right.f k a b c d e=some (decide (GoodS a b c d e)):=by
  unfold delim_Right.f delim_Plain.f
  rw [Option.bind_some]
  split
  · rename_i h
    simp only [Bool.and_eq_true,beq_iff_eq] at h
    obtain ⟨rfl,rfl,rfl,rfl,rfl⟩:=h
    rw [decide_eq_true (show GoodS 124 94 126 92 38 by decide)]
  · unfold delim_five.f
    rw [Option.bind_some]
    exact right_loop (bytes5 ha hb hc hd he) 5 k 0 (by omega) rfl (by omega)
end Go.Proofs.YtljdbphojcglgaaDoor
