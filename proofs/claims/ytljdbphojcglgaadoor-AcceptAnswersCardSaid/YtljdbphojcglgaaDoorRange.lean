/- A range over a function whose iterator keeps a variable of its own in memory (block Bs) and whose loop body always goes on: what the caller holds between two rounds comes out at the end; the conditions are those of the theorem. -/
import Derived.Test.YtljdbphojcglgaaDoorHelp
namespace Go.Proofs.YtljdbphojcglgaaDoor
open Go Go.RowKit

/-- What minds neither the iterator's own variable nor what is no row of cells. -/
def Steady {β : Type} (Bs B : Nat) (I : β→World→Prop) : Prop :=
  ∀ s W W' row,I s W→W.grownBy W' row→(∀ r,row=some r→r=Bs∨B≤r∧∃ o : Obj,W.heap[r]?=some o∧o.isCells=false)→I s W'
theorem Steady.put {β : Type} {Bs B : Nat} {I : β→World→Prop} (h : Steady Bs B I) {s : β} {W : World} {l : Nat} {o : Obj} (o' : Obj) (hs : I s W) (hB : B≤l) (hl : W.heap[l]?=some o) (ho : o.isCells=false) : I s (W.putObj l o') :=
  h s W _ (some l) hs (grownBy_putObj' W l o') (fun r e=>by cases e; exact .inr ⟨hB,o,hl,ho⟩)
theorem Steady.new {β : Type} {Bs B : Nat} {I : β→World→Prop} (h : Steady Bs B I) {s : β} {W : World} (o : Obj) (hs : I s W) : I s (W.alloc o) :=
  h s W _ none hs (World.grownBy_alloc W o none) (fun r e=>by cases e)

/-- How a round's body ends: it goes on. -/
def onward (I : World→Prop) (Bs Bc : Nat) (W : World) : Exit→Act→World→Prop
  | .normal,_,W'=>KeepsOthers W W'∧W'.heap[Bs]?=W.heap[Bs]?∧W'.heap[Bc]?=W.heap[Bc]?∧I W'
  | _,_,_=>False

/-- The walk goes on from a world of which only S is known. -/
theorem at_worldIn {F : Fence} {n : Nat} {P : Program} {c : Code} {Q : Exit→Act→World→Prop} {a : Act} {W0 : World} (S : World→Prop) (h0 : S W0) (h : ∀ W,S W→c.wpIn F n P Q a W) : c.wpIn F n P Q a W0:=h W0 h0
theorem range_all {α : Type} {P : Program} {g : Operand} {ps : Array Tmp} {assign body : Code} {Q : Exit→Act→World→Prop} {a : Act} {w : World} {Bs Bc gf : Nat} {lb : Array Value}
    (hg : a.eval g = .func (.func gf) #[] lb) (eg : ∀ args w,(callFunc gf args).run P w = .ok (.enter gf args) w) (enc : α→Value) (hps : ps.size=1) (hBs : Bs < w.heap.size) (hBc : Bc < w.heap.size)
    (S Ok : List α→Prop) (I : List α→World→Prop) (hI : Steady Bs w.heap.size I) (h0 : I [] w)
    (hiter : ∀ (l : Nat) (J : List α→World→Prop) (W : World),W.heap[Bs]?=w.heap[Bs]?→W.heap[Bc]?=w.heap[Bc]?→(∀ pre W W',J pre W→W.grownBy W' (some Bs)→J pre W') →
      (∀ pre x W,Ok (pre ++ [x])→J pre W→YieldAt Fence.wide 0 P l #[enc x] W fun e W'=>e = .returned (.bool true)∧J (pre ++ [x]) W'∧W'.heap[Bs]?=W.heap[Bs]?∧W'.heap[Bc]?=W.heap[Bc]?)→J [] W →
      CallsIn Fence.wide 1 P gf (#[.func (.yield l) #[] #[]] ++ lb) W fun e W'=>(∃ v,e = .returned v)∧∃ ys,S ys∧J ys W')
    (a₁ : α→Act)
    (hassign : ∀ (l : Nat) (x : α) (W : World) (K : Act→World→Prop),K (a₁ x) W →
      assign.wpIn (Fence.wide.inRound l) 0 P (Exit.then K (fun _ _ _=>False)) { tmps:=(ps.zip #[enc x]).foldl (fun t (p,v)=>t.setIfInBounds p v) a.tmps,defers:=[] } W)
    (hbody : ∀ (l : Nat) (pre : List α) (x : α) (W : World),Ok (pre ++ [x])→I pre W→body.wpIn (Fence.wide.inRound l) 0 P (onward (I (pre ++ [x])) Bs Bc W) (a₁ x) W)
    (hdone : ∀ (D : Nat) (xs : List α) (W : World),S xs→I xs W→w.heap.size≤D→W.heap[D]?=some (.deferred (some []))→Q .normal { a with defers:={ target := .collected D,args:=#[] } :: a.defers } W) :
    (Code.rangeFunc g ps assign body).wpIn Fence.wide 2 P Q a w:=by
  refine wpIn_rangeFunc fun fn _=>?_
  obtain ⟨rec,hrec⟩ : ∃ rec : LoopState→Loop,rec=fun st=>{ state:=st,pending:=none,fn,tmps:=a.tmps,params:=ps,assign,body,defers:=w.heap.size }:=⟨_,rfl⟩
  have hnew : ((w.alloc (.deferred (some []))).alloc (.loop (rec .ready))).heap[w.heap.size + 1]?=some (.loop (rec .ready)):=by
    have:=heap_new (w.alloc (.deferred (some []))) (.loop (rec .ready))
    rwa [World.size_alloc] at this
  have hdef : ((w.alloc (.deferred (some []))).alloc (.loop (rec .ready))).heap[w.heap.size]?=some (.deferred (some [])):=heap_old _ (heap_new w _)
  refine ⟨w.heap.size + 1,[{ target := .collected w.heap.size,args:=#[] }],(w.alloc (.deferred (some []))).alloc (.loop (rec .ready)),{ target := .fn (.func gf) lb,args:=#[.func (.yield (w.heap.size + 1)) #[] #[]] },(w.alloc (.deferred (some []))).alloc (.loop (rec .ready)),gf,
    #[.func (.yield (w.heap.size + 1)) #[] #[]] ++ lb,(w.alloc (.deferred (some []))).alloc (.loop (rec .ready)),by rw [hrec]; exact run_enterLoop_outer _ _ _ _ _,by simp only [resolve,hg]; simp [go_sem],fun _ _=>trivial,by simp [invoke,go_sem,eg],fun _=>by decide,?_⟩
  have hold : ∀ k,k < w.heap.size→((w.alloc (.deferred (some []))).alloc (.loop (rec .ready))).heap[k]?=w.heap[k]?:=fun k hk =>
    (Below.heap_alloc _ _ k (by simp; omega)).trans (Below.heap_alloc w _ k hk)
  refine (hiter (w.heap.size + 1) (fun pre W=>I pre W∧W.heap[w.heap.size + 1]?=some (.loop (rec .ready))∧W.heap[w.heap.size]?=some (.deferred (some []))) _ (hold Bs hBs) (hold Bc hBc) ?_ ?_ ⟨hI.new _ (hI.new _ h0),hnew,hdef⟩).mono ?_
  · -- a step of the iterator's own
    rintro pre W W' ⟨h1,h2,h3⟩ hgr
    refine ⟨hI _ W W' _ h1 hgr (fun r e=>by cases e; exact .inl rfl),?_,?_⟩
    · exact (hgr.block _ (Array.getElem?_eq_some_iff.1 h2).1 (fun e=>by injection e with e; omega)).trans h2
    · exact (hgr.block _ (Array.getElem?_eq_some_iff.1 h3).1 (fun e=>by injection e with e; omega)).trans h3
  · -- one round
    rintro pre x W hok ⟨h1,h2,h3⟩
    have hlt:w.heap.size + 1 < W.heap.size:=(Array.getElem?_eq_some_iff.1 h2).1
    have hy:=run_yield (P:=P) (args:=#[enc x]) h2 (by rw [hrec]; exact hps.symm)
    have hbeg:=run_beginRound (P:=P) h2 (by rw [hrec])
    have hbusy : (W.putObj (w.heap.size + 1) (.loop { rec .ready with state := .busy })).heap[w.heap.size + 1]?=some (.loop { rec .ready with state := .busy }):=World.putObj_heap_same hlt
    have hfar : ∀ (V : World) (o : Obj) (k : Nat),k ≠ w.heap.size + 1→(V.putObj (w.heap.size + 1) o).heap[k]?=V.heap[k]?:=fun V o k hk=>World.putObj_heap_other hk
    rw [hrec] at hy
    refine ⟨fn,_,assign,body,hy,roundIn_of_wpIn trivial (hassign _ x W _ ⟨_,hbeg,?_⟩)⟩
    refine wpIn_mono (hbody _ pre x _ hok (hI.put _ h1 (by omega) h2 rfl)) ?_
    intro e a3 W3 hp
    cases e with
    | normal =>
      obtain ⟨hk,hb1,hb2,hi3⟩:=hp
      have hl3:=hk.same _ _ hbusy rfl
      have hd3:=hk.same _ _ ((hfar _ _ _ (by omega)).trans h3) rfl
      have hend:=run_endRound (P:=P) none hl3
      refine ⟨_,_,hend,rfl,⟨hI.put _ hi3 (by omega) hl3 rfl,?_,(hfar _ _ _ (by omega)).trans hd3⟩,?_,?_⟩
      · rw [World.putObj_heap_same (Array.getElem?_eq_some_iff.1 hl3).1,hrec]; rfl
      · rw [hfar _ _ _ (by omega),hb1,hfar _ _ _ (by omega)]
      · rw [hfar _ _ _ (by omega),hb2,hfar _ _ _ (by omega)]
    | ret=>exact hp.elim
    | exit id=>exact hp.elim
    | goto t=>exact hp.elim
    | panic ch=>exact hp.elim
    | outgrown=>exact hp.elim
  · -- behind the iterator
    rintro e W2 ⟨⟨v,rfl⟩,ys,hS,hi,hl,hd⟩
    have hend:=run_endLoop (P:=P) hl (by rw [hrec]; simp)
    have hp : (rec .ready).pending=none:=by rw [hrec]
    rw [hp] at hend
    refine ⟨none,_,hend,?_⟩
    exact hdone _ ys _ hS (hI.put _ hi (by omega) hl rfl) (Nat.le_refl _) ((World.putObj_heap_other (by omega)).trans hd)
end Go.Proofs.YtljdbphojcglgaaDoor
