/- The texts between a byte: plain laws on lists of bytes, no program in sight; no conditions. -/
import Derived.Lib.SplitLaws
import Derived.Lib.Join
namespace Go.Proofs.YtljdbphojcglgaaDoor
open Go

/-- The texts between the bytes c. -/
def cutL (c : UInt8) : List UInt8→List (List UInt8)
  | []=>[[]]
  | x :: r=>if x=c then [] :: cutL c r else (x :: (cutL c r).headD []) :: (cutL c r).tail

theorem cutL_nil (c : UInt8) : cutL c []=[[]]:=rfl
theorem cutL_hit (c : UInt8) (r : List UInt8) : cutL c (c :: r)=[] :: cutL c r:=by simp [cutL]
theorem cutL_miss {c x : UInt8} (h : x ≠ c) (r : List UInt8) : cutL c (x :: r)=(x :: (cutL c r).headD []) :: (cutL c r).tail:=by simp [cutL,h]

theorem cutL_form (c : UInt8) (l : List UInt8) : ∃ h t,cutL c l=h :: t:=by
  cases l with
  | nil=>exact ⟨_,_,rfl⟩
  | cons x r =>
    by_cases h : x=c
    · subst h; exact ⟨_,_,cutL_hit _ _⟩
    · exact ⟨_,_,cutL_miss h _⟩
theorem cutL_ne (c : UInt8) (l : List UInt8) : cutL c l ≠ []:=by
  obtain ⟨h,t,e⟩:=cutL_form c l
  rw [e]; exact List.cons_ne_nil _ _
theorem cutL_length_pos (c : UInt8) (l : List UInt8) : 0 < (cutL c l).length:=by
  obtain ⟨h,t,e⟩:=cutL_form c l
  rw [e]; simp

theorem cutL_length (c : UInt8) (l : List UInt8) : (cutL c l).length=l.count c + 1:=by
  induction l with
  | nil=>rfl
  | cons x r ih =>
    by_cases h : x=c
    · subst h; rw [cutL_hit,List.length_cons,ih,List.count_cons_self]
    · rw [cutL_miss h,List.length_cons,List.length_tail,ih,List.count_cons_of_ne h]; omega

/-- A text without the byte is one. -/
theorem cutL_clean {c : UInt8} {l : List UInt8} (h : c ∉ l) : cutL c l=[l]:=by
  induction l with
  | nil=>rfl
  | cons x r ih =>
    have hx:x ≠ c:=fun e=>h (by simp [e])
    have hr:c ∉ r:=fun e=>h (List.mem_cons_of_mem _ e)
    rw [cutL_miss hx,ih hr]; rfl

theorem cutL_append_hit {c : UInt8} {a : List UInt8} (h : c ∉ a) (r : List UInt8) : cutL c (a ++ c :: r)=a :: cutL c r:=by
  induction a with
  | nil=>exact cutL_hit c r
  | cons x a ih =>
    have hx:x ≠ c:=fun e=>h (by simp [e])
    have hr:c ∉ a:=fun e=>h (List.mem_cons_of_mem _ e)
    rw [List.cons_append,cutL_miss hx,ih hr]; rfl

/-- No text between has the byte. -/
theorem cutL_clean_parts (c : UInt8) (l : List UInt8) : ∀ x ∈ cutL c l,c ∉ x:=by
  induction l with
  | nil=>simp [cutL]
  | cons y r ih =>
    obtain ⟨h,t,e⟩:=cutL_form c r
    by_cases hy : y=c
    · subst hy
      rw [cutL_hit]
      intro x hx
      rcases List.mem_cons.1 hx with rfl | hx
      · simp
      · exact ih x hx
    · rw [cutL_miss hy,e]
      rw [e] at ih
      intro x hx
      rcases List.mem_cons.1 hx with rfl | hx
      · have:=ih h (List.mem_cons_self ..)
        simp only [List.headD_cons,List.mem_cons,not_or]
        exact ⟨fun e=>hy e.symm,this⟩
      · exact ih x (List.mem_cons_of_mem _ hx)

/-- One byte more at the end. -/
theorem cutL_snoc_hit (c : UInt8) (l : List UInt8) : cutL c (l ++ [c])=cutL c l ++ [[]]:=by
  induction l with
  | nil=>simp [cutL]
  | cons x r ih =>
    obtain ⟨h,t,e⟩:=cutL_form c r
    by_cases hx : x=c
    · subst hx; rw [List.cons_append,cutL_hit,cutL_hit,ih]; rfl
    · rw [List.cons_append,cutL_miss hx,cutL_miss hx,ih,e]; rfl
theorem cutL_snoc_miss {c x : UInt8} (hx : x ≠ c) (l : List UInt8) : cutL c (l ++ [x])=(cutL c l).dropLast ++ [(cutL c l).getLastD [] ++ [x]]:=by
  induction l with
  | nil=>simp [cutL,hx]
  | cons y r ih =>
    obtain ⟨h,t,e⟩:=cutL_form c r
    by_cases hy : y=c
    · subst hy
      rw [List.cons_append,cutL_hit,cutL_hit,ih,e]
      simp
    · rw [List.cons_append,cutL_miss hy,cutL_miss hy,ih,e]
      cases t with
      | nil=>simp
      | cons a t=>simp

/-- What strings.Cut tells: the first text between, and the rest. -/
theorem cutL_some {c : UInt8} {l a b : List UInt8} (h : l=a ++ c :: b) (ha : c ∉ a) : cutL c l=a :: cutL c b:=by
  subst h; exact cutL_append_hit ha b

theorem index_one_none {c : UInt8} {l : List UInt8} (h : c ∉ l) : Lib.index l [c] = -1:=by
  induction l with
  | nil=>rfl
  | cons x r ih =>
    have hx:x ≠ c:=fun e=>h (by simp [e])
    have hr:c ∉ r:=fun e=>h (List.mem_cons_of_mem _ e)
    unfold Lib.index
    rw [ih hr]
    have hp:List.isPrefixOf [c] (x :: r)=false:=by simp [List.isPrefixOf]; exact fun e=>hx e.symm
    rw [hp]; rfl
theorem index_one_some {c : UInt8} {a : List UInt8} (h : c ∉ a) (b : List UInt8) : Lib.index (a ++ c :: b) [c]=a.length:=by
  induction a with
  | nil=>simp [Lib.index,List.isPrefixOf]
  | cons x a ih =>
    have hx:x ≠ c:=fun e=>h (by simp [e])
    have hr:c ∉ a:=fun e=>h (List.mem_cons_of_mem _ e)
    rw [List.cons_append]
    unfold Lib.index
    rw [ih hr]
    have hp:List.isPrefixOf [c] (x :: (a ++ c :: b))=false:=by simp [List.isPrefixOf]; exact fun e=>hx e.symm
    rw [hp]
    have hn : ((a.length : Int) == -1)=false:=by rw [beq_eq_false_iff_ne]; omega
    rw [hn]; simp

theorem first_hit {c : UInt8} {l : List UInt8} (h : c ∈ l) : ∃ a b,l=a ++ c :: b∧c ∉ a:=by
  induction l with
  | nil=>cases h
  | cons x r ih =>
    by_cases hx : x=c
    · exact ⟨[],r,by simp [hx],by simp⟩
    · have hr:c ∈ r:=by
        rcases List.mem_cons.1 h with e | e
        · exact absurd e.symm hx
        · exact e
      obtain ⟨a,b,e,ha⟩:=ih hr
      refine ⟨x :: a,b,by rw [e]; rfl,?_⟩
      simp only [List.mem_cons,not_or]
      exact ⟨fun e=>hx e.symm,ha⟩

theorem cut_one_none {c : UInt8} {l : List UInt8} (h : c ∉ l) : Lib.cut l [c]=(l,[],false):=by
  unfold Lib.cut; rw [index_one_none h]; rfl
theorem cut_one_some {c : UInt8} {a : List UInt8} (h : c ∉ a) (b : List UInt8) : Lib.cut (a ++ c :: b) [c]=(a,b,true):=by
  unfold Lib.cut
  rw [index_one_some h,if_pos (by omega)]
  simp

/-- strings.Split at one byte. -/
theorem splitK_one (c : UInt8) : ∀ (n : Nat) (l : List UInt8),l.count c≤n→Lib.splitK [c] 0 n l=cutL c l:=by
  intro n
  induction n with
  | zero =>
    intro l hl
    have hc:c ∉ l:=by
      intro hm
      have:=List.count_pos_iff.2 hm
      omega
    rw [cutL_clean hc]; rfl
  | succ n ih =>
    intro l hl
    by_cases hm : c ∈ l
    · obtain ⟨a,b,rfl,ha⟩:=first_hit hm
      unfold Lib.splitK
      rw [index_one_some ha,cutL_append_hit ha]
      have hn : ((a.length : Int) == -1)=false:=by rw [beq_eq_false_iff_ne]; omega
      rw [hn]
      have hb:b.count c≤n:=by
        rw [List.count_append,List.count_cons_self] at hl; omega
      simp [ih b hb]
    · unfold Lib.splitK
      rw [index_one_none hm,cutL_clean hm]; rfl
theorem split_one (c : UInt8) (l : List UInt8) : Lib.split l [c]=cutL c l:=by
  unfold Lib.split
  exact splitK_one c _ l (by rw [Lib.count_one]; exact Nat.le_refl _)

/-! ### Joining -/
def joinL (c : UInt8) : List (List UInt8)→List UInt8
  | []=>[]
  | [x]=>x
  | x :: y :: r=>x ++ c :: joinL c (y :: r)
theorem joinL_cons (c : UInt8) (x : List UInt8) {r : List (List UInt8)} (h : r ≠ []) : joinL c (x :: r)=x ++ c :: joinL c r:=by
  cases r with
  | nil=>exact absurd rfl h
  | cons y r=>rfl
theorem join_one_byte (c : UInt8) (l : List (List UInt8)) : Lib.join l [c]=joinL c l:=by
  induction l with
  | nil=>rfl
  | cons x r ih =>
    cases r with
    | nil=>exact Lib.join_one x [c]
    | cons y r =>
      rw [Lib.join_cons]
      rw [Lib.join_cons] at ih
      show _=x ++ c :: joinL c (y :: r)
      rw [← ih]
      simp [Lib.joinTail]
theorem joinL_cutL (c : UInt8) (l : List UInt8) : joinL c (cutL c l)=l:=by
  induction l with
  | nil=>rfl
  | cons x r ih =>
    obtain ⟨h,t,e⟩:=cutL_form c r
    by_cases hx : x=c
    · subst hx; rw [cutL_hit,joinL_cons _ _ (cutL_ne _ _),ih]; rfl
    · rw [cutL_miss hx,e]
      rw [e] at ih
      simp only [List.headD_cons,List.tail_cons]
      cases t with
      | nil=>simp only [joinL] at ih ⊢; rw [ih]
      | cons a t=>rw [joinL_cons _ _ (List.cons_ne_nil _ _)] at ih ⊢; rw [List.cons_append,ih]
theorem cutL_joinL {c : UInt8} {l : List (List UInt8)} (hne : l ≠ []) (h : ∀ x ∈ l,c ∉ x) : cutL c (joinL c l)=l:=by
  induction l with
  | nil=>exact absurd rfl hne
  | cons x r ih =>
    have hx:=h x (List.mem_cons_self ..)
    cases r with
    | nil=>exact cutL_clean hx
    | cons y r =>
      rw [joinL_cons _ _ (List.cons_ne_nil _ _),cutL_append_hit hx,ih (List.cons_ne_nil _ _) (fun z hz=>h z (List.mem_cons_of_mem _ hz))]
theorem joinL_snoc (c : UInt8) {l : List (List UInt8)} (h : l ≠ []) (x : List UInt8) : joinL c (l ++ [x])=joinL c l ++ c :: x:=by
  induction l with
  | nil=>exact absurd rfl h
  | cons y r ih =>
    cases r with
    | nil=>rfl
    | cons z r =>
      rw [List.cons_append,joinL_cons _ _ (by simp),ih (List.cons_ne_nil _ _),joinL_cons _ _ (List.cons_ne_nil _ _)]
      simp [List.append_assoc]
theorem joinL_length (c : UInt8) (l : List (List UInt8)) : (joinL c l).length≤(l.map fun x=>1 + x.length).sum:=by
  induction l with
  | nil=>simp [joinL]
  | cons x r ih =>
    cases r with
    | nil=>simp only [joinL,List.map_cons,List.map_nil,List.sum_cons,List.sum_nil]; omega
    | cons y r =>
      rw [joinL_cons _ _ (List.cons_ne_nil _ _)]
      rw [List.map_cons,List.sum_cons]
      simp only [List.length_append,List.length_cons] at ih ⊢
      omega
theorem cutL_part_le (c : UInt8) (l : List UInt8) : ∀ x ∈ cutL c l,x.length≤l.length:=by
  induction l with
  | nil=>simp [cutL]
  | cons y r ih =>
    obtain ⟨h,t,e⟩:=cutL_form c r
    rw [e] at ih
    by_cases hy : y=c
    · subst hy
      rw [cutL_hit,e]
      intro x hx
      rcases List.mem_cons.1 hx with rfl | hx
      · simp
      · have:=ih x hx; simp only [List.length_cons]; omega
    · rw [cutL_miss hy,e]
      intro x hx
      rcases List.mem_cons.1 hx with rfl | hx
      · have:=ih h (List.mem_cons_self ..); simp only [List.headD_cons,List.length_cons]; omega
      · have:=ih x (List.mem_cons_of_mem _ hx); simp only [List.length_cons]; omega
end Go.Proofs.YtljdbphojcglgaaDoor
