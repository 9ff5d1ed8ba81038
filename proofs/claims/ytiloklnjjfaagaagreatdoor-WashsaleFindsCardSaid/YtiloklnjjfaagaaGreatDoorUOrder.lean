/- Last FracMul RangeS -/
import Derived.Test.YtiloklnjjfaagaaGreatDoorUOther
set_option maxHeartbeats 16000000
set_option maxRecDepth 100000
namespace Go.Proofs.YtiloklnjjfaagaaGreatDoor
section
open Go Go.RowKit Go.Shelf Num
theorem Boxed.box{W:World}{b:Nat}{t:TypeId}{v:Value}(h:Boxed W b t v):aP W b #[v] t:=⟨h.lt,h⟩
structure eK(P:Nat->Prop)(A B:World):Prop where
 os:B.os=A.os
 tape:B.tape=A.tape
 output:B.output=A.output
 size:A.heap.size<=B.heap.size
 block:∀k,P k->B.heap[k]?=A.heap[k]?
theorem eK.trans{P:Nat->Prop}{A B C:World}(h:eK P A B)(g:eK P B C):eK P A C:=⟨g.os.trans h.os,g.tape.trans h.tape,g.output.trans h.output,Nat.le_trans h.size g.size,fun k hk=>(g.block k hk).trans (h.block k hk)⟩
theorem eK.of_below{P:Nat->Prop}{n:Nat}{A B:World}(h:Below n A B)(hp:∀k,P k->k<n):eK P A B:=⟨h.os,h.tape,h.output,h.size,fun k hk=>h.block k (hp k hk)⟩
theorem eK.below{P:Nat->Prop}{n:Nat}{A B:World}(h:eK P A B)(hp:∀k,k<n->P k):Below n A B:=⟨h.os,h.tape,h.output,h.size,fun k hk=>h.block k (hp k hk)⟩
theorem eK.box{P:Nat->Prop}{A B:World}(h:eK P A B){b:Nat}{cs:Array Value}{T:TypeId}(hp:P b)(hb:aP A b cs T):aP B b cs T:=⟨Nat.lt_of_lt_of_le hb.1 h.size,(h.block b hp).trans hb.2⟩
theorem eK.refl(P:Nat->Prop)(A:World):eK P A A:=⟨rfl,rfl,rfl,Nl _,fun _ _=>rfl⟩
theorem eK.putObj{P:Nat->Prop}(W:World)(l:Nat)(o':Obj)(hp:¬ P l):eK P W (W.putObj l o'):=by
 have g:=grownBy_putObj' W l o';exact⟨g.os,g.tape,g.output,g.size,fun k hk=>by
  rcases Nat.lt_or_ge k W.heap.size with h|h
  ·exact g.block k h (fun e=>hp (by cases e;exact hk))
  ·have:(W.putObj l o').heap.size=W.heap.size:=by simp[World.putObj]
   rw[Array.getElem?_eq_none h,Array.getElem?_eq_none (by omega)]⟩
theorem eK.setRow{P:Nat->Prop}{A W:World}(h:eK P A W){b:Nat}(hp:¬ P b)(cs:Array Value):eK P A (W.setRow b cs) :=
 ⟨h.os,h.tape,h.output,by simp[World.setRow];exact h.size,fun k hk=>(setRow_other W b k cs (fun e=>hp (e ▸ hk))).trans (h.block k hk)⟩
theorem eK.setCell{P:Nat->Prop}{A W:World}(h:eK P A W){b:Nat}(hp:¬ P b)(v:Value):eK P A (W.setCell ⟨b,0,none⟩ v) :=
 have g:=grownBy_setCell' W b v
 ⟨g.os.trans h.os,g.tape.trans h.tape,g.output.trans h.output,Nat.le_trans h.size g.size,fun k hk=>by
  rcases Nat.lt_or_ge k W.heap.size with hl|hl
  ·exact(g.block k hl (fun e=>hp (by cases e;exact hk))).trans (h.block k hk)
  ·have hs:(W.setCell ⟨b,0,none⟩ v).heap.size=W.heap.size:=by simp[World.setCell]
   have:=h.block k hk;rw[Array.getElem?_eq_none (by omega)] at this ⊢;exact this⟩
theorem eK.of_grown{P:Nat->Prop}{A B:World}{b:Nat}(g:A.grownBy B (some b))(hb:¬ P b)(hP:∀k,P k->k<A.heap.size):eK P A B:=⟨g.os,g.tape,g.output,g.size,fun k hk=>g.block k (hP k hk) (fun e=>hb (by cases e;exact hk))⟩
structure LaC where
 W0:World
 b4:Nat
 b6:Nat
 b7:Nat
 arr:Array Value
 bb:Bool
def LaC.val(C:LaC)(_:Unit):Nat->Value
 |0=>.agg C.arr
 |_=>.bool C.bb
def LaC.g(C:LaC)(_:Unit)(l:Array Bool)(W:World):Prop:=(¬ lP l 2/\W=C.W0)∨(lP l 2/\W=C.W0.setRow C.b4 C.arr)
section
variable {C:LaC}{t0:Array Value}{d0:List Deferred}{Q:Exit->Act->World->Prop}{l:Array Bool}{w:World}{n:Nat}
theorem LaC.keep{i:Nat}(hi:i≠2)(h:C.g () l w):C.g () (l.setIfInBounds i true) w:=by
 rcases h with⟨h,e⟩|⟨h,e⟩
 ·exact .inl ⟨fun h'=>h (mQ h' (Ne.symm hi)),e⟩
 ·exact .inr ⟨fH h,e⟩
end
end
section
open Go Go.RowKit Num
structure aSk where
 W0:World
 bm:Nat
 a:List UInt8
 b:List UInt8
 c:List UInt8
 d:List UInt8
 r1:List UInt8
 r2:List UInt8
def aSk.val(C:aSk)(_:Unit):Nat->Value
 |0=>.func (.func 138) #[] #[]
 |1=>.string ⟨C.a.toArray⟩
 |2=>.string ⟨C.c.toArray⟩
 |3=>.string ⟨C.r1.toArray⟩
 |4=>.func (.func 138) #[] #[]
 |5=>.string ⟨C.b.toArray⟩
 |6=>.string ⟨C.d.toArray⟩
 |7=>.string ⟨C.r2.toArray⟩
 |8=>.string ⟨C.r1.toArray⟩
 |_=>.string ⟨C.r2.toArray⟩
def aSk.gg(C:aSk)(_:Unit)(_:Array Bool)(W:World):Prop:=Below C.W0.heap.size C.W0 W
section
variable {C:aSk}{t0:Array Value}{Q:Exit->Act->World->Prop}
end
structure aSj where
 W0:World
 bm:Nat
 a:List UInt8
 b:List UInt8
 c:List UInt8
 d:List UInt8
 r1:List UInt8
 r2:List UInt8
def aSj.val(C:aSj)(_:Unit):Nat->Value
 |0=>.func (.func 138) #[] #[]
 |1=>.string ⟨C.a.toArray⟩
 |2=>.string ⟨C.d.toArray⟩
 |3=>.string ⟨C.r1.toArray⟩
 |4=>.func (.func 138) #[] #[]
 |5=>.string ⟨C.b.toArray⟩
 |6=>.string ⟨C.c.toArray⟩
 |7=>.string ⟨C.r2.toArray⟩
 |8=>.string ⟨C.r1.toArray⟩
 |_=>.string ⟨C.r2.toArray⟩
def aSj.gg(C:aSj)(_:Unit)(_:Array Bool)(W:World):Prop:=Below C.W0.heap.size C.W0 W
section
variable {C:aSj}{t0:Array Value}{Q:Exit->Act->World->Prop}
end
end
section
open Go Go.RowKit Go.Shelf
theorem dCi{P:Program}{n:Nat}{β:Type}{g:Operand}{ps:Array Tmp}{assign body:Code}{Q:Exit->Act->World->Prop}{a:Act}{w:World}
  {gf:Nat}{lb:Array Value}(hg:a.eval g=.func (.func gf) #[] lb) (eg:∀args w,(callFunc gf args).run P w=.ok (.enter gf args) w)
  (encs:β->Array Value) (hps:∀s,(encs s).size=ps.size) (I I' Ix:β->World->Prop) (hI:OwnFrom w.heap.size I) (hI':OwnFrom w.heap.size I') (hIx:OwnFrom w.heap.size Ix) (s0:β) (h0:I' s0 w) (Fin:β->Prop) (a₁:β->Act)
  (hassign:∀(l:Nat) (s:β) (W:World) (K:Act->World->Prop),K (a₁ s) W->assign.wpIn (Fence.wide.inRound l) (n-1-1) P (Exit.then K (fun _ _ _=>False)) { tmps:=(ps.zip (encs s)).foldl (fun t (p,v)=>t.setIfInBounds p v) a.tmps,defers:=[] } W)
  (hbody:∀(l:Nat) (s:β) (W:World),I s W->body.wpIn (Fence.wide.inRound l) (n-1-1) P (fun e _ W'=>KeepsOthers W W'/\((e=.normal/\I' s W')∨(e=.ret/\Ix s W'))) (a₁ s) W)
  (hiter:∀(l:Nat) (R Rx:World->Prop) (W1:World),(∀A B,R A->KeepsOthers A B->R B)->(∀A B,Rx A->KeepsOthers A B->Rx B) ->
   (∀s W,I s W->R W->YieldAt Fence.wide (n-1-1) P l (encs s) W fun e W'=>(e=.returned (.bool true)/\I' s W'/\R W')∨(e=.returned (.bool false)/\Ix s W'/\Rx W')) ->
   I' s0 W1->R W1->CallsIn Fence.wide (n-1) P gf (#[.func (.yield l) #[] #[]]++lb) W1 fun e W'=>(∃v,e=.returned v)/\((∃s,Fin s/\I' s W'/\R W')∨(∃s,Ix s W'/\Rx W')))
  (hdone:∀(D:Nat) (s:β) (W:World),w.heap.size<=D->Fin s->I' s W->W.heap[D]?=some (.deferred (some []))->Q .normal { a with defers:={ target:=.collected D,args:=#[] }::a.defers } W)
  (hstop:∀(D:Nat) (s:β) (W:World),w.heap.size<=D->Ix s W->W.heap[D]?=some (.deferred (some []))->Code.ret.wpIn Fence.wide n P Q { a with defers:={ target:=.collected D,args:=#[] }::a.defers } W) :
  (Code.rangeFunc g ps assign body).wpIn Fence.wide n P Q a w:=by
 refine wpIn_rangeFunc fun fn hfn=>?_
 obtain⟨L,hL⟩:∃L:LoopState->Option Code->Loop,L=fun st pe=>{ state:=st,pending:=pe,fn,tmps:=a.tmps,params:=ps,assign,body,defers:=w.heap.size }:=⟨_,rfl⟩
 have hR:∀(st:LoopState) (pe:Option Code) (A B:World),(A.heap[w.heap.size+1]?=some (.loop (L st pe))/\A.heap[w.heap.size]?=some (.deferred (some [])))->KeepsOthers A B->(B.heap[w.heap.size+1]?=some (.loop (L st pe))/\B.heap[w.heap.size]?=some (.deferred (some []))) :=
  fun st pe A B h k=>⟨k.same _ _ h.1 rfl,k.same _ _ h.2 rfl⟩
 have hR1:((w.alloc (.deferred (some []))).alloc (.loop (L .ready none))).heap[w.heap.size+1]?=some (.loop (L .ready none))/\((w.alloc (.deferred (some []))).alloc (.loop (L .ready none))).heap[w.heap.size]?=some (.deferred (some [])):=by
  refine⟨?_,(Below.heap_alloc _ _ _ (by simp)).trans (World.alloc_heap_new w _)⟩;have:=World.alloc_heap_new (w.alloc (.deferred (some []))) (.loop (L .ready none))
  rwa [World.size_alloc] at this
 have hI1:I' s0 ((w.alloc (.deferred (some []))).alloc (.loop (L .ready none))):=hI'.alloc _ (hI'.alloc _ h0);refine⟨w.heap.size+1,[{ target:=.collected w.heap.size,args:=#[] }],(w.alloc (.deferred (some []))).alloc (.loop (L .ready none)),{ target:=.fn (.func gf) lb,args:=#[.func (.yield (w.heap.size+1)) #[] #[]] },(w.alloc (.deferred (some []))).alloc (.loop (L .ready none)),gf,
  #[.func (.yield (w.heap.size+1)) #[] #[]]++lb,(w.alloc (.deferred (some []))).alloc (.loop (L .ready none)),?_,?_,fun _ _=>trivial,?_,fun h=>absurd h (by decide),?_⟩
 ·rw[hL];exact run_enterLoop_outer _ _ _ _ _
 ·simp only[resolve,hg];simp[go_sem]
 ·simp[invoke,go_sem,eg]
 ·refine(hiter (w.heap.size+1) _ (fun A=>A.heap[w.heap.size+1]?=some (.loop (L .done (some .ret)))/\A.heap[w.heap.size]?=some (.deferred (some []))) _ (hR .ready none) (hR .done (some .ret)) ?_ hI1 hR1).mono ?_
  ·rintro s W hi ⟨hl,hk⟩;have hlt:w.heap.size+1<W.heap.size:=(Ai.1 hl).1;have hy:=run_yield (P:=P) (args:=encs s) hl (by rw[hL];exact hps s);rw[hL] at hy;refine⟨fn,_,assign,body,hy,roundIn_of_wpIn hfn (hassign _ s W _ ⟨_,run_beginRound hl (by rw[hL]),?_⟩)⟩;have hl2:(W.putObj (w.heap.size+1) (.loop { L .ready none with state:=.busy })).heap[w.heap.size+1]?=some (.loop { L .ready none with state:=.busy }):=World.putObj_heap_same hlt;have hk2:(W.putObj (w.heap.size+1) (.loop { L .ready none with state:=.busy })).heap[w.heap.size]?=some (.deferred (some [])):=(World.putObj_heap_other (by omega)).trans hk;refine wpIn_mono (hbody _ s _ (hI.putObj _ hi (by omega) hl rfl)) ?_;rintro e a3 W3 ⟨hk3,hcase⟩;have hl3:=hk3.same _ _ hl2 rfl;have hlt3:=(Ai.1 hl3).1;rcases hcase with⟨rfl,hi3⟩|⟨rfl,hi3⟩
   ·have hr:=run_endRound (P:=P) none hl3;rw[hL] at hr;refine⟨_,_,hr,.inl ⟨rfl,hI'.putObj _ hi3 (by omega) hl3 rfl,?_,(World.putObj_heap_other (by omega)).trans (hk3.same _ _ hk2 rfl)⟩⟩;rw[World.putObj_heap_same hlt3,hL];rfl
   ·have hr:=run_endRound (P:=P) (some .ret) hl3;rw[hL] at hr;refine⟨_,_,hr,.inr ⟨rfl,hIx.putObj _ hi3 (by omega) hl3 rfl,?_,(World.putObj_heap_other (by omega)).trans (hk3.same _ _ hk2 rfl)⟩⟩;rw[World.putObj_heap_same hlt3,hL];rfl
  ·rintro e W2 ⟨⟨v,rfl⟩,⟨s,hF,hi,hl,hk⟩|⟨s,hi,hl,hk⟩⟩
   ·have he:=run_endLoop (P:=P) hl (by rw[hL];simp);rw[hL] at he;exact⟨none,_,he,hdone _ s _ (Nl _) hF (hI'.putObj _ hi (by omega) hl rfl) ((World.putObj_heap_other (by omega)).trans hk)⟩
   ·have he:=run_endLoop (P:=P) hl (by rw[hL];simp);rw[hL] at he;exact⟨some .ret,_,he,hstop _ s _ (Nl _) (hIx.putObj _ hi (by omega) hl rfl) ((World.putObj_heap_other (by omega)).trans hk)⟩
end
end Go.Proofs.YtiloklnjjfaagaaGreatDoor
