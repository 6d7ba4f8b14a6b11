/- The law AcceptAnswers as a statement over bytes and a bool: an answer is a frame that bears the message's id, AA just if it was kept and is to be stored; condition: the numbers are bytes. -/
import Derived.Test.YtljdbphojcglgaaDoorPFx16
import Derived.Test.YtljdbphojcglgaaDoorPFx17
import Derived.Test.YtljdbphojcglgaaDoorPFx18
import Derived.Test.YtljdbphojcglgaaDoorPFx19
import Derived.Test.YtljdbphojcglgaaDoorPFx20
import Derived.Test.YtljdbphojcglgaaDoorAlive11
import Derived.Test.YtljdbphojcglgaaDoorAnsBuilt
namespace Go.Proofs.YtljdbphojcglgaaDoor.Pure
open Go Go.RowKit Go.Proofs.YtljdbphojcglgaaDoor.PF Go.Proofs.YtljdbphojcglgaaDoorW.PrintWords Go.Proofs.YtljdbphojcglgaaDoorW.PrintLast
set_option linter.unusedVariables false
/-- What the document says of bytes that may be in a frame, byte by byte. -/
def okI : List Int→Bool
  | []=>true
  | a :: r=>if a=11 then false else if a=28 then (if r=[] then false else if r.head?=some 13 then false else okI r) else okI r
theorem ok_loop (l : List Int) (hl : l.length≤1000000) (d : Nat) : ∀ (k i : Nat),l.length - i=d→d < k→lamplighterref04_Good.l0 k l (i : Int)=some (okI (l.drop i)):=by
  induction d with
  | zero =>
    intro k i hi hk
    obtain ⟨k,rfl⟩ : ∃ m,k=m + 1:=⟨k - 1,by omega⟩
    have q : ¬ ((i : Int) < (l.length : Int)):=by omega
    rw [lamplighterref04_Good.l0,if_neg q,List.drop_eq_nil_of_le (by omega)]
    rfl
  | succ d ih =>
    intro k i hi hk
    obtain ⟨k,rfl⟩ : ∃ m,k=m + 1:=⟨k - 1,by omega⟩
    have hin:i < l.length:=by omega
    have q : (i : Int) < (l.length : Int):=by omega
    have q0 : (0 : Int)≤(i : Int):=by omega
    have go:=ih k (i + 1) (by omega) (by omega)
    have hrd : ∀ j : Nat,(h : j < l.length)→rd l (j : Int)=l[j]'h:=by
      intro j h
      unfold rd
      rw [Int.toNat_natCast,List.getD_eq_getElem?_getD,List.getElem?_eq_getElem h]
      rfl
    rw [lamplighterref04_Good.l0,if_pos q,if_pos q0,wrap_succ i (by omega),hrd i hin,go,List.drop_eq_getElem_cons hin]
    show _=some (okI (l[i] :: l.drop (i + 1)))
    rw [okI]
    by_cases h11 : l[i]=11
    · rw [if_pos h11,if_pos h11]
    · rw [if_neg h11,if_neg h11]
      by_cases h28 : l[i]=28
      · rw [if_pos h28,if_pos h28]
        by_cases he : i + 1=l.length
        · have q2 : ((i + 1 : Nat) : Int)=(l.length : Int):=by omega
          rw [if_pos q2,if_pos (List.drop_eq_nil_of_le (by omega))]
        · have q2 : ¬ ((i + 1 : Nat) : Int)=(l.length : Int):=by omega
          have q3 : (0 : Int)≤((i + 1 : Nat) : Int):=by omega
          have q4 : ((i + 1 : Nat) : Int) < (l.length : Int):=by omega
          have hin2:i + 1 < l.length:=by omega
          have hd:=List.drop_eq_getElem_cons hin2
          have hne:l.drop (i + 1) ≠ []:=by rw [hd]; exact List.cons_ne_nil _ _
          have hhead : (l.drop (i + 1)).head?=some (l[i + 1]'hin2):=by rw [hd]; rfl
          rw [if_neg q2,if_pos q3,if_pos q4,hrd (i + 1) hin2,if_neg hne,hhead]
          by_cases h13 : l[i + 1]'hin2=13
          · rw [if_pos h13,if_pos (by rw [h13])]
          · rw [if_neg h13,if_neg (fun e=>h13 (Option.some.inj e))]
      · rw [if_neg h28,if_neg h28]
theorem Good4_spec (k : Nat) (l : List Int) (hl : l.length≤1000000) (hk : l.length < k) : lamplighterref04_Good.f k l=some (okI l):=by
  have:=ok_loop l hl _ k 0 rfl (by omega)
  exact this
theorem byte_is {a : Int} (h : IsByte a) {n : Nat} (hn : n≤255) (e : UInt8.ofNat a.toNat=UInt8.ofNat n) : a=(n : Int):=by
  have e2:=congrArg UInt8.toNat e
  rw [UInt8.toNat_ofNat',UInt8.toNat_ofNat'] at e2
  have h1:=h.1
  have h2:=h.2
  omega
theorem ok_good {l : List Int} (hb : ∀ x ∈ l,IsByte x) (h : okI l=true) : (11 : UInt8) ∉ Lib.bytesOf l∧Lib.index (Lib.bytesOf l) [28,13] = -1∧Lib.hasSuffix (Lib.bytesOf l) [28]=false:=by
  induction l with
  | nil=>exact ⟨by simp [Lib.bytesOf],rfl,rfl⟩
  | cons a r ih =>
    have hbr : ∀ x ∈ r,IsByte x:=fun x hx=>hb x (List.mem_cons_of_mem _ hx)
    have ha:=hb a List.mem_cons_self
    have eB:Lib.bytesOf (a :: r)=UInt8.ofNat a.toNat :: Lib.bytesOf r:=rfl
    rw [okI] at h
    by_cases h11 : a=11
    · rw [if_pos h11] at h
      cases h
    rw [if_neg h11] at h
    have n11 : (11 : UInt8) ≠ UInt8.ofNat a.toNat:=fun e=>h11 (byte_is ha (n:=11) (by decide) e.symm)
    have hr:okI r=true:=by
      by_cases h28 : a=28
      · rw [if_pos h28] at h
        by_cases he : r=[]
        · rw [if_pos he] at h
          cases h
        · rw [if_neg he] at h
          by_cases hh : r.head?=some 13
          · rw [if_pos hh] at h
            cases h
          · rw [if_neg hh] at h
            exact h
      · rw [if_neg h28] at h
        exact h
    obtain ⟨i1,i2,i3⟩:=ih hbr hr
    rw [eB]
    refine ⟨?_,?_,?_⟩
    · intro hm
      rcases List.mem_cons.1 hm with e | hm
      · exact n11 e
      · exact i1 hm
    · have hp:List.isPrefixOf [28,13] (UInt8.ofNat a.toNat :: Lib.bytesOf r)=false:=by
        rw [Bool.eq_false_iff]
        intro hp
        obtain ⟨t,ht⟩:=List.isPrefixOf_iff_prefix.1 hp
        have e1 : (28 : UInt8)=UInt8.ofNat a.toNat:=(List.cons.inj ht).1
        have e2:=(List.cons.inj ht).2
        have h28:a=28:=byte_is ha (n:=28) (by decide) e1.symm
        rw [if_pos h28] at h
        cases r with
        | nil=>simp [Lib.bytesOf] at e2
        | cons b r =>
          have e3 : (13 : UInt8)=UInt8.ofNat b.toNat:=(List.cons.inj e2).1
          have h13:b=13:=byte_is (hbr b List.mem_cons_self) (n:=13) (by decide) e3.symm
          rw [if_neg (List.cons_ne_nil _ _),h13] at h
          simp at h
      unfold Lib.index
      rw [i2,hp]
      rfl
    · rw [Bool.eq_false_iff]
      intro hs
      unfold Lib.hasSuffix at hs i3
      obtain ⟨t,ht⟩:=List.isSuffixOf_iff_suffix.1 hs
      cases r with
      | nil =>
        have e1:t ++ [28]=[UInt8.ofNat a.toNat]:=ht
        have e2:t=[]:=by
          have:=congrArg List.length e1
          simp at this
          exact this
        rw [e2] at e1
        have h28:a=28:=byte_is ha (n:=28) (by decide) (List.cons.inj e1).1.symm
        rw [if_pos h28,if_pos rfl] at h
        cases h
      | cons b r =>
        rw [Bool.eq_false_iff] at i3
        apply i3
        rw [List.isSuffixOf_iff_suffix]
        cases t with
        | nil =>
          have:=congrArg List.length ht
          simp [Lib.bytesOf] at this
        | cons x t=>exact ⟨t,(List.cons.inj ht).2⟩
theorem not_good {l : List Int} (hb : ∀ x ∈ l,IsByte x) (h : goodB l=false) : okI l=false:=by
  rw [Bool.eq_false_iff]
  intro hok
  obtain ⟨i1,i2,i3⟩:=ok_good hb hok
  unfold goodB Lib.contains at h
  rw [indexByte_miss i1,i2,i3] at h
  revert h
  decide
theorem code_in (e : Int) (h : e=0∨e=12∨e=13∨e=14) : (codeOf e).data.toList ∈ codeB∧((codeOf e).data.toList=[65,65] ↔ e=0):=by
  rcases h with rfl | rfl | rfl | rfl <;> decide
theorem unwrapped (s : List UInt8) (hg : goodB (numsOf s)=true) (hl : s.length≤1000000) : frame_Unwrap.f ((([] ++ [11]) ++ numsOf s) ++ [28,13])=some (numsOf s,0):=by
  have hn:=nums_length s
  have e : ((([] ++ [11]) ++ numsOf s) ++ [28,13] : List Int)=11 :: (numsOf s ++ [28,13]):=rfl
  have hlen : (11 :: (numsOf s ++ [28,13]) : List Int).length=s.length + 3:=by simp [hn]
  have hin:innerOf (11 :: (numsOf s ++ [28,13]))=numsOf s:=by
    unfold innerOf
    rw [hlen]
    show (numsOf s ++ [28,13]).take (s.length + 3 - 3)=numsOf s
    rw [Nat.add_sub_cancel,← hn,List.take_left]
  unfold frame_Unwrap.f
  rw [e,hin,if_pos ⟨⟨by omega,rfl,by omega⟩,by rw [Good_spec (nums_bytes _) (by omega),hg]⟩]
theorem AcceptAnswers (l : List Int) (kept : Bool) (hb : ∀ x ∈ l,IsByte x) : ∃ k,lamplighterlaw11_AcceptAnswers.f k l kept=some true:=by
  refine ⟨60001,?_⟩
  unfold lamplighterlaw11_AcceptAnswers.f
  by_cases h3 : (l.length : Int) > 3000
  · rw [if_pos h3,alive11_is 60001 (by decide)]
    rfl
  rw [if_neg h3]
  rcases readM_cases hb with ⟨e,he,hr⟩ | ⟨c,c1,c2,c3,c4,t5,t6,t7,t8,t9,t10,t11,t12,t13,t14,hr,hc,hc1,hc2,hc3,hc4,hg,hf,hsz⟩
  · have hV:=Verdict_bad 60001 (by decide) hb (by omega) he hr
    have hR:accept_Reply.f 60001 l kept=some ([],false):=by
      unfold accept_Reply.f
      rw [hV,Option.bind_some]
      dsimp only
      rw [if_pos nil_list,j0_bad 60001 (by decide)]
    rw [hV,Option.bind_some,hR,Option.bind_some]
    dsimp only
    rw [if_neg (by decide),alive11_is 60001 (by decide),Option.bind_some,if_pos rfl,if_pos (show ((([] : List Int).length : Nat) : Int)=0 from rfl),if_pos nil_list]
  · by_cases h28 : 0≤Lib.indexByte (Lib.bytesOf (firstL l)) 28
    · have hV:=Verdict_end 60001 (by decide) hb (by omega) hr h28
      have hR:accept_Reply.f 60001 l kept=some ([],false):=by
        unfold accept_Reply.f
        rw [hV,Option.bind_some]
        dsimp only
        rw [if_pos nil_list,j0_bad 60001 (by decide)]
      rw [hV,Option.bind_some,hR,Option.bind_some]
      dsimp only
      rw [if_neg (by decide),alive11_is 60001 (by decide),Option.bind_some,if_pos rfl,if_pos (show ((([] : List Int).length : Nat) : Int)=0 from rfl),if_pos nil_list]
    · have h13:t13.size≤140737488355328:=Nat.le_trans (hsz t13 (by simp)) (by omega)
      have h14:t14.size≤140737488355328:=Nat.le_trans (hsz t14 (by simp)) (by omega)
      have hck:=ck_four c1 c2 t11 t12 t13 t14
      obtain ⟨hne,hcs⟩:=code_full _ hck
      obtain ⟨hkb,hk0⟩:=code_in _ hck
      have hsum:=ten_sum hsz
      have hVk : ∀ k,10 < k→accept_Verdict.f k l=some (c,c1,c2,c3,c4,t5,t6,t7,t8,t9,t10,t11,t12,t13,t14,codeOf (ckOf c1 c2 t11 t12 t13 t14),ckOf c1 c2 t11 t12 t13 t14):=fun k hk=>Verdict_head k hk hb (by omega) hr h28 hc1 hc2 h13 h14
      have hV:=hVk 60001 (by decide)
      generalize hce : ckOf c1 c2 t11 t12 t13 t14=ce at *
      cases hgl : goodB l with
      | false =>
        have hR:accept_Reply.f 60001 l kept=some ([],false):=by
          unfold accept_Reply.f
          rw [hV,Option.bind_some]
          dsimp only
          rw [if_neg hne,Good_spec hb (by omega),Option.bind_some,hgl,Bool.not_false,j0_bad 60001 (by decide)]
        rw [hV,Option.bind_some,hR,Option.bind_some]
        dsimp only
        rw [if_neg (by decide),alive11_is 60001 (by decide),Option.bind_some,if_pos rfl,if_pos (show ((([] : List Int).length : Nat) : Int)=0 from rfl),if_neg hne,Good4_spec 60001 l (by omega) (by omega),not_good hb hgl]
        rfl
      | true =>
        obtain ⟨cd,hcd⟩ : ∃ cd,cd=(if (codeOf ce).toList=[65,65]∧kept=false then (⟨#[65,69]⟩ : ByteArray) else codeOf ce):=⟨_,rfl⟩
        have hR:accept_Reply.f 60001 l kept=some (lastOf c c1 c2 c3 c4 t5 t6 t7 t8 t9 t12 t13 t14 cd):=by
          unfold accept_Reply.f
          rw [hV,Option.bind_some]
          dsimp only
          rw [if_neg hne,Good_spec hb (by omega),Option.bind_some,hgl,Bool.not_true,j0_good 60001 (by decide) kept (by omega) hcs hc hc1 hc2 hc3 hc4,hcd]
        have hcdk:cd.data.toList ∈ codeB:=by
          rw [hcd]
          split
          · decide
          · exact hkb
        have hcds:cd.size≤1000:=by
          rw [hcd]
          split
          · decide
          · exact hcs
        obtain ⟨s,e1,e2,e3⟩:=answer_ok hgl h28 hr hc hc1 hc2 hc3 hc4 hg hf cd hcdk
        have hsl:=build_length (c:=c) (c1:=c1) (c2:=c2) (c3:=c3) (c4:=c4) (t5:=t5) (t6:=t6) (t7:=t7) (t8:=t8) (t9:=t9) (t12:=t12) (t13:=t13) (t14:=t14) (code:=cd) (by omega) hcds
        rw [e1] at hsl
        have hlast:lastOf c c1 c2 c3 c4 t5 t6 t7 t8 t9 t12 t13 t14 cd=((([] ++ [11]) ++ numsOf s) ++ [28,13],true):=by
          unfold lastOf
          rw [e1]
          dsimp only
          rw [if_pos rfl,if_pos e2]
        have hA:=ackRead_spec 60001 (by decide) (numsOf s) (nums_bytes _) (by rw [nums_length]; have : s.length≤1000000:=hsl; omega)
        rw [e3] at hA
        dsimp only at hA
        rw [strOf_of,strOf_of] at hA
        have hst : ∀ k,10 < k→accept_Stored.f k l=some ((codeOf ce).toList == ([65,65] : List UInt8)):=by
          intro k hk
          unfold accept_Stored.f
          rw [hVk k hk,Option.bind_some]
        have hcl : (codeOf ce).toList=(codeOf ce).data.toList:=Lib.toList_data _
        have hj0 : ∀ st : Bool,((cd.toList == ([65,65] : List UInt8)) != st)=false→lamplighterlaw11_AcceptAnswers.j0 60001 l (codeOf ce) ce ((cd.toList == ([65,65] : List UInt8)) != st) cd t12=some true:=by
          intro st hz
          rw [hz]
          show lamplighterlaw11_AcceptAnswers.j0 (60000 + 1) l (codeOf ce) ce false cd t12=some true
          have q1 : (((codeOf ce).toList == ([65,65] : List UInt8)) == (ce == 0))=true:=by
            rw [beq_iff_eq,Bool.eq_iff_iff,beq_iff_eq,beq_iff_eq,hcl]
            exact hk0
          rw [lamplighterlaw11_AcceptAnswers.j0,if_neg (by decide),alive11_is 60000 (by decide),Option.bind_some,if_pos rfl,hst 60000 (by decide),Option.bind_some,if_pos q1]
          by_cases hx : (codeOf ce).toList=cd.toList
          · rw [if_pos hx]
          · rw [if_neg hx]
            by_cases hy : (codeOf ce).toList=([65,65] : List UInt8)∧kept=false
            · rw [if_pos hy.1]
              rw [if_pos hy] at hcd
              rw [hcd,Lib.toList_data]
              rfl
            · rw [if_neg hy] at hcd
              exact absurd (by rw [hcd]) hx
        rw [hV,Option.bind_some,hR,Option.bind_some,hlast]
        dsimp only
        rw [if_pos rfl,unwrapped s e2 hsl,Option.bind_some]
        dsimp only
        rw [hA,Option.bind_some]
        dsimp only
        rw [if_pos rfl,if_pos rfl,if_pos rfl]
        cases kept with
        | true =>
          have hcd2:cd=codeOf ce:=by rw [hcd,if_neg (by simp)]
          rw [if_pos rfl,hst 60001 (by decide),Option.bind_some]
          refine hj0 _ ?_
          rw [hcd2]
          simp
        | false =>
          rw [if_neg (by decide)]
          refine hj0 _ ?_
          have : (cd.toList == ([65,65] : List UInt8))=false:=by
            rw [beq_eq_false_iff_ne,hcd]
            split
            · rw [Lib.toList_data]; decide
            · rename_i h
              exact fun e=>h ⟨e,rfl⟩
          rw [this]
          rfl
end Go.Proofs.YtljdbphojcglgaaDoor.Pure
