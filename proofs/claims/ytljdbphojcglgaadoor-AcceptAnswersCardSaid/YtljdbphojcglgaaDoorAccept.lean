/- What accept's functions answer, in plain words: conditions: bytes, and not more than some thousands of them. -/
import Derived.Test.YtljdbphojcglgaaDoorPFx13
import Derived.Test.YtljdbphojcglgaaDoorPFx14
import Derived.Test.YtljdbphojcglgaaDoorPFx7
import Derived.Test.YtljdbphojcglgaaDoorPFx9
import Derived.Test.YtljdbphojcglgaaDoorAck
import Derived.Test.YtljdbphojcglgaaDoorMsh
namespace Go.Proofs.YtljdbphojcglgaaDoor.Pure
open Go Go.RowKit Go.Proofs.YtljdbphojcglgaaDoor.PF Go.Proofs.YtljdbphojcglgaaDoorW.PrintWords Go.Proofs.YtljdbphojcglgaaDoorW.PrintLast
/-- What is wrong with a head of such signs and texts. -/
def ckOf (c1 c2 : Int) (kind id proc ver : ByteArray) : Int:=checkOf (UInt8.ofNat c1.toNat) (UInt8.ofNat c2.toNat) kind.data.toList id.data.toList proc.data.toList ver.data.toList
theorem ck_four (c1 c2 : Int) (kind id proc ver : ByteArray) : ckOf c1 c2 kind id proc ver=0∨ckOf c1 c2 kind id proc ver=12∨ckOf c1 c2 kind id proc ver=13∨ckOf c1 c2 kind id proc ver=14:=by
  unfold ckOf checkOf
  split
  · exact .inr (.inr (.inr rfl))
  · split
    · exact .inr (.inl rfl)
    · split
      · exact .inr (.inr (.inl rfl))
      · exact .inl rfl
theorem Verdict_bad (k : Nat) (hk : 10 < k) {l : List Int} (hb : ∀ x ∈ l,IsByte x) (hl : l.length≤100000) {e : Int} (he : e ≠ 0)
    (hr : readM l=(0,0,0,0,0,strOf [],strOf [],strOf [],strOf [],strOf [],strOf [],strOf [],strOf [],strOf [],strOf [],e)) :
    accept_Verdict.f k l=some (0,0,0,0,0,⟨#[]⟩,⟨#[]⟩,⟨#[]⟩,⟨#[]⟩,⟨#[]⟩,⟨#[]⟩,⟨#[]⟩,⟨#[]⟩,⟨#[]⟩,⟨#[]⟩,⟨#[]⟩,e):=by
  unfold accept_Verdict.f
  rw [if_pos (by omega),MRead_spec k (by omega) l hb (by omega),hr,Option.bind_some]
  dsimp only
  rw [if_neg he]
theorem Verdict_end (k : Nat) (hk : 10 < k) {l : List Int} (hb : ∀ x ∈ l,IsByte x) (hl : l.length≤100000) {c c1 c2 c3 c4 : Int} {t5 t6 t7 t8 t9 t10 t11 t12 t13 t14 : ByteArray}
    (hr : readM l=(c,c1,c2,c3,c4,t5,t6,t7,t8,t9,t10,t11,t12,t13,t14,0)) (h28 : 0≤Lib.indexByte (Lib.bytesOf (firstL l)) 28) :
    accept_Verdict.f k l=some (0,0,0,0,0,⟨#[]⟩,⟨#[]⟩,⟨#[]⟩,⟨#[]⟩,⟨#[]⟩,⟨#[]⟩,⟨#[]⟩,⟨#[]⟩,⟨#[]⟩,⟨#[]⟩,⟨#[]⟩,10):=by
  unfold accept_Verdict.f
  rw [if_pos (by omega),MRead_spec k (by omega) l hb (by omega),hr,Option.bind_some]
  dsimp only
  rw [if_pos rfl,if_pos h28]
theorem Verdict_head (k : Nat) (hk : 10 < k) {l : List Int} (hb : ∀ x ∈ l,IsByte x) (hl : l.length≤100000) {c c1 c2 c3 c4 : Int} {t5 t6 t7 t8 t9 t10 t11 t12 t13 t14 : ByteArray}
    (hr : readM l=(c,c1,c2,c3,c4,t5,t6,t7,t8,t9,t10,t11,t12,t13,t14,0)) (h28 : ¬ 0≤Lib.indexByte (Lib.bytesOf (firstL l)) 28) (hc1 : IsByte c1) (hc2 : IsByte c2) (h13 : t13.size≤140737488355328) (h14 : t14.size≤140737488355328) :
    accept_Verdict.f k l=some (c,c1,c2,c3,c4,t5,t6,t7,t8,t9,t10,t11,t12,t13,t14,codeOf (ckOf c1 c2 t11 t12 t13 t14),ckOf c1 c2 t11 t12 t13 t14):=by
  unfold accept_Verdict.f
  rw [if_pos (by omega),MRead_spec k (by omega) l hb (by omega),hr,Option.bind_some]
  dsimp only
  rw [if_pos rfl,if_neg h28,Check_spec k hk c c1 c2 c3 c4 t5 t6 t7 t8 t9 t10 t11 t12 t13 t14 h13 h14 hc1 hc2,Option.bind_some]
  rfl
theorem Good_spec {l : List Int} (hb : ∀ x ∈ l,IsByte x) (hl : l.length≤4000000000) : frame_Good.f l=some (goodB l) :=
  if_pos ⟨fun x hx=>⟨(hb x hx).1,by have:=(hb x hx).2; omega⟩,by omega⟩
theorem Wrap_spec {l : List Int} (hb : ∀ x ∈ l,IsByte x) (hl : l.length≤4000000000) : frame_Wrap.f l=some (if goodB l=true then ((([] ++ [11]) ++ l) ++ [28,13],0) else ([],10)):=by
  unfold frame_Wrap.f
  rw [Good_spec hb hl,Option.bind_some]
  by_cases h : goodB l=true
  · rw [if_pos h,if_pos h]
  · rw [if_neg h,if_neg h]
theorem build_length {c c1 c2 c3 c4 : Int} {t5 t6 t7 t8 t9 t12 t13 t14 code : ByteArray} (hb : t5.size + t6.size + t7.size + t8.size + t9.size + t12.size + t13.size + t14.size≤90000) (hcode : code.size≤1000) : (buildOf c c1 c2 c3 c4 t5 t6 t7 t8 t9 t12 t13 t14 code).1.length≤1000000:=by
  by_cases h0 : (buildOf c c1 c2 c3 c4 t5 t6 t7 t8 t9 t12 t13 t14 code).2=0
  · obtain ⟨hk,hgood,hf⟩:=build_zero h0
    have hAs:ACK.size=3:=rfl
    have h0s : (⟨#[]⟩ : ByteArray).size=0:=rfl
    have hbk:bulkOf [t7,t8,t5,t6,t9,⟨#[]⟩,ACK,t12,t13,t14]≤90010 + 3:=bulk10 (n:=90003) (by omega)
    have hsl:=seg_length c c1 c2 c3 c4 (trimB [t7,t8,t5,t6,t9,⟨#[]⟩,ACK,t12,t13,t14])
    have hbt:=trim_bulk [t7,t8,t5,t6,t9,⟨#[]⟩,ACK,t12,t13,t14]
    have hms:=msa_length c code t12
    rw [build_nums hk hgood hf]
    dsimp only
    rw [List.length_append,List.length_cons,List.length_append,List.length_singleton]
    omega
  · have h1 : (buildOf c c1 c2 c3 c4 t5 t6 t7 t8 t9 t12 t13 t14 code).1=[]:=by
      unfold buildOf at h0 ⊢
      split at h0
      · rename_i hc
        split at h0
        · exact absurd rfl h0
        · rename_i hw
          rw [if_pos hc,if_neg hw]
      · rename_i hc
        rw [if_neg hc]
    rw [h1]
    exact Nat.zero_le _
open Classical in
/-- A reply, given what is to be answered. -/
noncomputable def lastOf (c c1 c2 c3 c4 : Int) (t5 t6 t7 t8 t9 t12 t13 t14 code : ByteArray) : List Int × Bool :=
  if (buildOf c c1 c2 c3 c4 t5 t6 t7 t8 t9 t12 t13 t14 code).2=0 then
    if goodB (numsOf (buildOf c c1 c2 c3 c4 t5 t6 t7 t8 t9 t12 t13 t14 code).1)=true then ((([] ++ [11]) ++ numsOf (buildOf c c1 c2 c3 c4 t5 t6 t7 t8 t9 t12 t13 t14 code).1) ++ [28,13],true) else ([],false)
  else ([],false)
theorem j2_spec (k : Nat) (hk : 11 < k) {c c1 c2 c3 c4 : Int} {t5 t6 t7 t8 t9 t10 t11 t12 t13 t14 code : ByteArray} (hb : t5.size + t6.size + t7.size + t8.size + t9.size + t12.size + t13.size + t14.size≤90000) (hcode : code.size≤1000)
    (hc : IsByte c) (hc1 : IsByte c1) (hc2 : IsByte c2) (hc3 : IsByte c3) (hc4 : IsByte c4) : accept_Reply.j2 k code c c1 c2 c3 c4 t5 t6 t7 t8 t9 t10 t11 t12 t13 t14=some (lastOf c c1 c2 c3 c4 t5 t6 t7 t8 t9 t12 t13 t14 code):=by
  obtain ⟨k,rfl⟩ : ∃ m,k=m + 1:=⟨k - 1,by omega⟩
  have hl:=build_length (c:=c) (c1:=c1) (c2:=c2) (c3:=c3) (c4:=c4) hb hcode
  rw [accept_Reply.j2,Build_spec k (by omega) c c1 c2 c3 c4 t5 t6 t7 t8 t9 t10 t11 t12 t13 t14 code (by omega) hcode hc hc1 hc2 hc3 hc4,Option.bind_some]
  dsimp only
  unfold lastOf
  by_cases h0 : (buildOf c c1 c2 c3 c4 t5 t6 t7 t8 t9 t12 t13 t14 code).2=0
  · rw [if_pos h0,if_pos h0,Wrap_spec (nums_bytes _) (by rw [nums_length]; omega),Option.bind_some]
    by_cases hg : goodB (numsOf (buildOf c c1 c2 c3 c4 t5 t6 t7 t8 t9 t12 t13 t14 code).1)=true
    · rw [if_pos hg,if_pos hg]
      rfl
    · rw [if_neg hg,if_neg hg]
      rfl
  · rw [if_neg h0,if_neg h0]
theorem j1_spec (k : Nat) (hk : 12 < k) (b : Bool) {c c1 c2 c3 c4 : Int} {t5 t6 t7 t8 t9 t10 t11 t12 t13 t14 code : ByteArray} (hb : t5.size + t6.size + t7.size + t8.size + t9.size + t12.size + t13.size + t14.size≤90000) (hcode : code.size≤1000)
    (hc : IsByte c) (hc1 : IsByte c1) (hc2 : IsByte c2) (hc3 : IsByte c3) (hc4 : IsByte c4) : accept_Reply.j1 k code b c c1 c2 c3 c4 t5 t6 t7 t8 t9 t10 t11 t12 t13 t14=some (lastOf c c1 c2 c3 c4 t5 t6 t7 t8 t9 t12 t13 t14 (if b=true then ⟨#[65,69]⟩ else code)):=by
  obtain ⟨k,rfl⟩ : ∃ m,k=m + 1:=⟨k - 1,by omega⟩
  cases b with
  | true=>rw [accept_Reply.j1,if_pos rfl,if_pos rfl,j2_spec k (by omega) hb (by decide) hc hc1 hc2 hc3 hc4]
  | false=>rw [accept_Reply.j1,if_neg (by decide),if_neg (by decide),j2_spec k (by omega) hb hcode hc hc1 hc2 hc3 hc4]
theorem j0_bad (k : Nat) (hk : 0 < k) (kept : Bool) (code : ByteArray) (c c1 c2 c3 c4 : Int) (t5 t6 t7 t8 t9 t10 t11 t12 t13 t14 : ByteArray) : accept_Reply.j0 k kept code true c c1 c2 c3 c4 t5 t6 t7 t8 t9 t10 t11 t12 t13 t14=some ([],false):=by
  obtain ⟨k,rfl⟩ : ∃ m,k=m + 1:=⟨k - 1,by omega⟩
  rw [accept_Reply.j0,if_pos rfl]
theorem j0_good (k : Nat) (hk : 13 < k) (kept : Bool) {c c1 c2 c3 c4 : Int} {t5 t6 t7 t8 t9 t10 t11 t12 t13 t14 code : ByteArray} (hb : t5.size + t6.size + t7.size + t8.size + t9.size + t12.size + t13.size + t14.size≤90000) (hcode : code.size≤1000)
    (hc : IsByte c) (hc1 : IsByte c1) (hc2 : IsByte c2) (hc3 : IsByte c3) (hc4 : IsByte c4) : accept_Reply.j0 k kept code false c c1 c2 c3 c4 t5 t6 t7 t8 t9 t10 t11 t12 t13 t14=some (lastOf c c1 c2 c3 c4 t5 t6 t7 t8 t9 t12 t13 t14 (if code.toList=[65,65]∧kept=false then ⟨#[65,69]⟩ else code)):=by
  obtain ⟨k,rfl⟩ : ∃ m,k=m + 1:=⟨k - 1,by omega⟩
  rw [accept_Reply.j0,if_neg (by decide)]
  by_cases h : code.toList=([65,65] : List UInt8)
  · rw [if_pos h,j1_spec k (by omega) _ hb hcode hc hc1 hc2 hc3 hc4]
    cases kept with
    | true=>rw [if_neg (by decide),if_neg (by simp)]
    | false=>rw [if_pos (by decide),if_pos ⟨h,rfl⟩]
  · rw [if_neg h,j1_spec k (by omega) _ hb hcode hc hc1 hc2 hc3 hc4,if_neg (by decide),if_neg (fun e=>h e.1)]
theorem nil_list : (⟨#[]⟩ : ByteArray).toList=([] : List UInt8):=by rw [Lib.toList_data]
theorem code_full (c : Int) (h : c=0∨c=12∨c=13∨c=14) : ¬ (codeOf c).toList=([] : List UInt8)∧(codeOf c).size≤1000:=by
  rcases h with rfl | rfl | rfl | rfl <;> exact ⟨by rw [Lib.toList_data]; decide,by decide⟩
theorem ten_sum {t5 t6 t7 t8 t9 t10 t11 t12 t13 t14 : ByteArray} {n : Nat} (h : ∀ y ∈ [t5,t6,t7,t8,t9,t10,t11,t12,t13,t14],y.size≤n) : t5.size + t6.size + t7.size + t8.size + t9.size + t12.size + t13.size + t14.size≤8 * n:=by
  have h5:=h t5 (by simp)
  have h6:=h t6 (by simp)
  have h7:=h t7 (by simp)
  have h8:=h t8 (by simp)
  have h9:=h t9 (by simp)
  have h12:=h t12 (by simp)
  have h13:=h t13 (by simp)
  have h14:=h t14 (by simp)
  omega
/-- A reply hangs on the bytes alone. -/
theorem Reply_total {l : List Int} (hb : ∀ x ∈ l,IsByte x) (hl : l.length≤10000) (kept : Bool) : ∃ r,∀ k,20 < k→accept_Reply.f k l kept=some r:=by
  rcases readM_cases hb with ⟨e,he,hr⟩ | ⟨c,c1,c2,c3,c4,t5,t6,t7,t8,t9,t10,t11,t12,t13,t14,hr,hc,hc1,hc2,hc3,hc4,_,_,hsz⟩
  · refine ⟨([],false),fun k hk=>?_⟩
    unfold accept_Reply.f
    rw [Verdict_bad k (by omega) hb (by omega) he hr,Option.bind_some]
    dsimp only
    rw [if_pos nil_list,j0_bad k (by omega)]
  · by_cases h28 : 0≤Lib.indexByte (Lib.bytesOf (firstL l)) 28
    · refine ⟨([],false),fun k hk=>?_⟩
      unfold accept_Reply.f
      rw [Verdict_end k (by omega) hb (by omega) hr h28,Option.bind_some]
      dsimp only
      rw [if_pos nil_list,j0_bad k (by omega)]
    · have h13:t13.size≤140737488355328:=Nat.le_trans (hsz t13 (by simp)) (by omega)
      have h14:t14.size≤140737488355328:=Nat.le_trans (hsz t14 (by simp)) (by omega)
      obtain ⟨hne,hcs⟩:=code_full _ (ck_four c1 c2 t11 t12 t13 t14)
      have hsum:=ten_sum hsz
      cases hg : goodB l with
      | true =>
        refine ⟨lastOf c c1 c2 c3 c4 t5 t6 t7 t8 t9 t12 t13 t14 (if (codeOf (ckOf c1 c2 t11 t12 t13 t14)).toList=[65,65]∧kept=false then ⟨#[65,69]⟩ else codeOf (ckOf c1 c2 t11 t12 t13 t14)),fun k hk=>?_⟩
        unfold accept_Reply.f
        rw [Verdict_head k (by omega) hb (by omega) hr h28 hc1 hc2 h13 h14,Option.bind_some]
        dsimp only
        rw [if_neg hne,Good_spec hb (by omega),Option.bind_some,hg,Bool.not_true,j0_good k (by omega) kept (by omega) hcs hc hc1 hc2 hc3 hc4]
      | false =>
        refine ⟨([],false),fun k hk=>?_⟩
        unfold accept_Reply.f
        rw [Verdict_head k (by omega) hb (by omega) hr h28 hc1 hc2 h13 h14,Option.bind_some]
        dsimp only
        rw [if_neg hne,Good_spec hb (by omega),Option.bind_some,hg,Bool.not_false,j0_bad k (by omega)]
end Go.Proofs.YtljdbphojcglgaaDoor.Pure
