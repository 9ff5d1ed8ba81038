/- RangeL PriceP PriceQ Quotes QLast QLatest QFresh PCheck17 QMissing -/
import Derived.Test.YtejkibnaidiklaaGreatDoorJWhereA
set_option maxHeartbeats 16000000
set_option maxRecDepth 100000
namespace Go.Proofs.YtejkibnaidiklaaGreatDoor
open Go.Proofs.Tryz
section
open Go Go.RowKit Go.Shelf
structure aPg(N:Nat)(P:Nat->Prop)(A B:World):Prop where
 os:B.os=A.os
 tape:B.tape=A.tape
 output:B.output=A.output
 size:A.heap.size<=B.heap.size
 block:∀k o,P k->A.heap[k]?=some o->(k<N∨o.isCells=true)->B.heap[k]?=some o
theorem aPg.refl(N:Nat)(P:Nat->Prop)(A:World):aPg N P A A:=⟨rfl,rfl,rfl,Nl _,fun _ _ _ h _=>h⟩
theorem aPg.trans{N:Nat}{P:Nat->Prop}{A B C:World}(h:aPg N P A B)(g:aPg N P B C):aPg N P A C :=
 ⟨g.os.trans h.os,g.tape.trans h.tape,g.output.trans h.output,Nat.le_trans h.size g.size,fun k o hp ho hk=>g.block k o hp (h.block k o hp ho hk) hk⟩
theorem aPg.of_grown{N:Nat}{P:Nat->Prop}{A B:World}{b:Nat}(g:A.grownBy B (some b))(hb:¬ P b):aPg N P A B :=
 ⟨g.os,g.tape,g.output,g.size,fun k o hk ho _=>(g.block k (Ai.1 ho).1 (fun e=>hb (by injection e with e;exact e ▸ hk))).trans ho⟩
theorem aPg.of_none{N:Nat}{P:Nat->Prop}{A B:World}(g:A.grownBy B none):aPg N P A B :=
 ⟨g.os,g.tape,g.output,g.size,fun k o _ ho _=>(g.block k (Ai.1 ho).1 (by simp)).trans ho⟩
theorem aPg.of_below{N:Nat}{P:Nat->Prop}{A B:World}(h:Below A.heap.size A B):aPg N P A B:=aPg.of_none (gZ h)
theorem aPg.putObj{N:Nat}{P:Nat->Prop}(W:World)(l:Nat)(o o':Obj)(hl:N<=l)(ho:W.heap[l]?=some o)(hc:o.isCells=false):aPg N P W (W.putObj l o'):=by
 refine⟨rfl,rfl,rfl,by simp[World.putObj],fun k ob _ hk hn=>?_⟩;refine(World.putObj_heap_other fun e=>?_).trans hk;subst e;rw[ho] at hk;cases hk;rcases hn with h|h
 ·omega
 ·rw[hc] at h;cases h
theorem aPg.box{N:Nat}{P:Nat->Prop}{A B:World}(h:aPg N P A B){b:Nat}{cs:Array Value}{T:TypeId}(hp:P b)(hb:aP A b cs T):aP B b cs T :=
 ⟨Nat.lt_of_lt_of_le hb.1 h.size,h.block b _ hp hb.2 (.inr rfl)⟩
theorem aPg.below{N:Nat}{P:Nat->Prop}{n:Nat}{A B:World}(h:aPg N P A B)(hA:n<=A.heap.size)(hp:∀k,k<n->P k/\k<N):Below n A B :=
 ⟨h.os,h.tape,h.output,h.size,fun k hk=>by
  obtain⟨o,ho⟩:∃o,A.heap[k]?=some o:=⟨A.heap[k]'(by omega),Array.getElem?_eq_getElem (by omega)⟩
  rw[ho,h.block k o (hp k hk).1 ho (.inl (hp k hk).2)]⟩
def aR4(b:Nat)(A B:World):Prop:=A.grownBy B none∨A.grownBy B (some b)
def aTa{α:Type}(n:Nat)(P:Program)(gf:Nat)(lb:Array Value)(encs:α->Array Value)(Kp:World->World->Prop)(S:List α->Prop)(N:Nat)(w1:World):Prop :=
 ∀(l:Nat) (J:List α->World->Prop),(∀pre A B,J pre A->aR4 w1.heap.size A B->J pre B) ->
  (∀pre x W,J pre W->pre.length<N->YieldAt Fence.wide (n-1) P l (encs x) W fun e W'=>e=.returned (.bool true)/\J (pre ++ [x]) W'/\Kp W W')->J [] w1 ->
  CallsIn Fence.wide n P gf (#[.func (.yield l) #[] #[]]++lb) w1 fun e W'=>(∃v,e=.returned v)/\∃xs,S xs/\J xs W'
theorem aQf{b B:Nat}{A A':World}{cs:Array Value}{T:TypeId}(h:aP A B cs T)(hm:aR4 b A A')(hne:B≠b):aP A' B cs T:=by
 rcases hm with hm|hm
 ·exact⟨Nat.lt_of_lt_of_le h.1 hm.size,(hm.block B h.1 (by simp)).trans h.2⟩
 ·exact⟨Nat.lt_of_lt_of_le h.1 hm.size,(hm.block B h.1 (fun e=>hne (by injection e))).trans h.2⟩
theorem aRz{n b:Nat}{w A A':World}(h:Below n w A)(hn:n<=A.heap.size)(hm:aR4 b A A')(hb:n<=b):Below n w A':=by
 rcases hm with hm|hm
 ·exact h.grown hm hn (fun k e=>by cases e)
 ·exact h.grown hm hn (fun k e=>by injection e with e;omega)
theorem aSa{b:Nat}{A A':World}(hm:aR4 b A A'):A.heap.size<=A'.heap.size:=by
 rcases hm with hm|hm
 ·exact hm.size
 ·exact hm.size
structure aR1(N:Nat)(X:World->Nat->Prop)(A B:World):Prop where
 os:B.os=A.os
 tape:B.tape=A.tape
 output:B.output=A.output
 size:A.heap.size<=B.heap.size
 block:∀k o,¬ X A k->A.heap[k]?=some o->(k<N∨o.isCells=true)->B.heap[k]?=some o
 grow:∀k,X B k->X A k∨A.heap.size<=k
def aUg(X:World->Nat->Prop)(m:Nat)(W:World):Prop:=(∀k,X W k->k<W.heap.size)/\¬ X W m
def KpX(N:Nat)(X:World->Nat->Prop)(A B:World):Prop:=aR1 N X A B/\((∀k,X A k->k<A.heap.size)->∀k,X B k->k<B.heap.size)
def XR(X:World->Nat->Prop)(m:Nat)(W:World)(k:Nat):Prop:=X W k∨m<=k
def aVj{α:Type}(n:Nat)(P:Program)(gf:Nat)(lb:Array Value)(encs:α->Array Value)(Kp:World->World->Prop)(S:List α->Prop)(N:Nat)(w1:World)(G:α->Prop):Prop :=
 ∀(l:Nat) (J:List α->World->Prop),(∀pre A B,J pre A->aR4 w1.heap.size A B->J pre B) ->
  (∀pre x W,J pre W->pre.length<N->G x->YieldAt Fence.wide (n-1) P l (encs x) W fun e W'=>e=.returned (.bool true)/\J (pre ++ [x]) W'/\Kp W W')->J [] w1 ->
  CallsIn Fence.wide n P gf (#[.func (.yield l) #[] #[]]++lb) w1 fun e W'=>(∃v,e=.returned v)/\∃xs,S xs/\J xs W'
section
variable {N m:Nat}{X:World->Nat->Prop}{A B C:World}
theorem aR1.refl(N:Nat)(X:World->Nat->Prop)(A:World):aR1 N X A A:=⟨rfl,rfl,rfl,Nl _,fun _ _ _ h _=>h,fun _ h=>.inl h⟩
theorem aR1.trans(h:aR1 N X A B)(g:aR1 N X B C):aR1 N X A C :=
 ⟨g.os.trans h.os,g.tape.trans h.tape,g.output.trans h.output,Nat.le_trans h.size g.size,fun k o hk ho hn=>g.block k o (fun hx=>by
  have hl:=(Ai.1 ho).1;rcases h.grow k hx with h'|h'
  ·exact hk h'
  ·omega) (h.block k o hk ho hn) hn,fun k hx=>by
  rcases g.grow k hx with h'|h'
  ·exact h.grow k h'
  ·exact .inr (Nat.le_trans h.size h')⟩
theorem KpX.trans(h:KpX N X A B)(g:KpX N X B C):KpX N X A C:=⟨h.1.trans g.1,fun hl=>g.2 (h.2 hl)⟩
theorem aR1.box(h:aR1 N X A B){b:Nat}{cs:Array Value}{T:TypeId}(hp:¬ X A b)(hb:aP A b cs T):aP B b cs T :=
 ⟨Nat.lt_of_lt_of_le hb.1 h.size,h.block b _ hp hb.2 (.inr rfl)⟩
theorem aR1.below{n:Nat}(h:aR1 N X A B)(hA:n<=A.heap.size)(hp:∀k,k<n->¬ X A k/\k<N):Below n A B :=
 ⟨h.os,h.tape,h.output,h.size,fun k hk=>by
  have hl:k<A.heap.size:=Nat.lt_of_lt_of_le hk hA;rw[h.block k _ (hp k hk).1 (Array.getElem?_eq_getElem hl) (.inl (hp k hk).2),Array.getElem?_eq_getElem hl]⟩
theorem aUx(hXm:∀A B,m<=A.heap.size->aR4 m A B->∀k,X B k->X A k)(hA:m<=A.heap.size)(h:aR4 m A B):aR1 N (XR X m) A B:=by
 have hg:∀k,XR X m B k->XR X m A k∨A.heap.size<=k:=fun k hx=>by
  rcases hx with hx|hx
  ·exact .inl (.inl (hXm A B hA h k hx))
  ·exact .inl (.inr hx)
 rcases h with h|h
 ·exact⟨h.os,h.tape,h.output,h.size,fun k o _ ho _=>(h.block k (Ai.1 ho).1 (by simp)).trans ho,hg⟩
 ·exact⟨h.os,h.tape,h.output,h.size,fun k o hk ho _=>(h.block k (Ai.1 ho).1 (fun e=>hk (.inr (by injection e with e;omega)))).trans ho,hg⟩
theorem aRw(hXm:∀A B,m<=A.heap.size->aR4 m A B->∀k,X B k->X A k)(hA:m<=A.heap.size)(h:Below A.heap.size A B):aR1 N (XR X m) A B:=aUx hXm hA (.inl (gZ h))
theorem aU2(hXm:∀A B,m<=A.heap.size->aR4 m A B->∀k,X B k->X A k)(hA:m<=A.heap.size)(h:A.grownBy B (some m)):aR1 N (XR X m) A B:=aUx hXm hA (.inr h)
theorem aVb(h:aR1 N X A B):aR1 N (XR X m) A B:=⟨h.os,h.tape,h.output,h.size,fun k o hk ho hn=>h.block k o (fun hx=>hk (.inl hx)) ho hn,fun k hx=>by
 rcases hx with hx|hx
 ·rcases h.grow k hx with h'|h'
  ·exact .inl (.inl h')
  ·exact .inr h'
 ·exact .inl (.inr hx)⟩
theorem aS0(hXm:∀A B,m<=A.heap.size->aR4 m A B->∀k,X B k->X A k)(hA:m<=A.heap.size)(h:aR4 m A B)(hl:aUg X m A):aUg X m B :=
 ⟨fun k hx=>Nat.lt_of_lt_of_le (hl.1 k (hXm A B hA h k hx)) (aSa h),fun hx=>hl.2 (hXm A B hA h m hx)⟩
theorem aU9(hl:aUg X m A)(h:KpX N X A B)(hm:m<A.heap.size):aUg X m B :=
 ⟨h.2 hl.1,fun hx=>by
  rcases h.1.grow m hx with h'|h'
  ·exact hl.2 h'
  ·omega⟩
end
theorem aUe{P:Program}{n:Nat}{α:Type}{g:Operand}{ps:Array Tmp}{assign body:Code}{Q:Exit->Act->World->Prop}{a:Act}{w:World}
  {gf:Nat}{lb:Array Value}(hg:a.eval g=.func (.func gf) #[] lb) (eg:∀args w,(callFunc gf args).run P w=.ok (.enter gf args) w)
  {encs:α->Array Value}{Kp:World->World->Prop}{S:List α->Prop}{N:Nat}
  (hKt:∀ {A B C:World},Kp A B->Kp B C->Kp A C) (hKb:∀(W:World) (l:Nat) (o o':Obj),w.heap.size<=l->W.heap[l]?=some o->o.isCells=false->Kp W (W.putObj l o')) (hps:∀x,(encs x).size=ps.size)
  {G:α->Prop}(hseq:∀W1,Below w.heap.size w W1->W1.heap.size=w.heap.size+2->aVj (n-1) P gf lb encs Kp S N W1 G)
  (I:List α->World->Prop) (hI:OwnFrom w.heap.size I) (hIm:∀pre A B,I pre A->aR4 (w.heap.size+2) A B->I pre B) (h0:I [] w) (Asg:α->Act->World->Prop) (hAx:∀x a',OwnFrom w.heap.size (fun (_:Unit) W=>Asg x a' W))
  (hassign:∀(l:Nat) (pre:List α) (x:α) (W:World) (K:Act->World->Prop),I pre W->w.heap.size+2<=W.heap.size->(∀a' W',KeepsFrom w.heap.size W W'->Kp W W'->I pre W'->Asg x a' W'->K a' W') ->
   assign.wpIn (Fence.wide.inRound l) (n-1-1) P (Exit.then K (fun _ _ _=>False)) { tmps:=(ps.zip (encs x)).foldl (fun t (p,v)=>t.setIfInBounds p v) a.tmps,defers:=[] } W)
  (hbody:∀(l:Nat) (pre:List α) (x:α) (a':Act) (W:World),I pre W->w.heap.size+2<=W.heap.size->Asg x a' W->pre.length<N->G x->body.wpIn (Fence.wide.inRound l) (n-1-1) P (fun e _ W'=>e=.normal/\KeepsFrom w.heap.size W W'/\Kp W W'/\I (pre ++ [x]) W') a' W)
  (hdone:∀(D:Nat) (xs:List α) (W:World),w.heap.size<=D->S xs->I xs W->W.heap[D]?=some (.deferred (some []))->Q .normal { a with defers:={ target:=.collected D,args:=#[] }::a.defers } W) :
  (Code.rangeFunc g ps assign body).wpIn Fence.wide n P Q a w:=by
 refine wpIn_rangeFunc fun fn hfn=>?_
 obtain⟨L,hL⟩:∃L:LoopState->Loop,L=fun st=>{ state:=st,pending:=none,fn,tmps:=a.tmps,params:=ps,assign,body,defers:=w.heap.size }:=⟨_,rfl⟩
 have hs1:((w.alloc (.deferred (some []))).alloc (.loop (L .ready))).heap.size=w.heap.size+2:=by rw[World.size_alloc,World.size_alloc]
 have hb1:Below w.heap.size w ((w.alloc (.deferred (some []))).alloc (.loop (L .ready))):=((Br _ w).alloc (Nl _) _).alloc (by simp) _;have hR1:((w.alloc (.deferred (some []))).alloc (.loop (L .ready))).heap[w.heap.size+1]?=some (.loop (L .ready))/\((w.alloc (.deferred (some []))).alloc (.loop (L .ready))).heap[w.heap.size]?=some (.deferred (some [])):=by
  refine⟨?_,(Below.heap_alloc _ _ _ (by simp)).trans (World.alloc_heap_new w _)⟩;have:=World.alloc_heap_new (w.alloc (.deferred (some []))) (.loop (L .ready))
  rwa [World.size_alloc] at this
 have hI1:I [] ((w.alloc (.deferred (some []))).alloc (.loop (L .ready))):=hI.alloc _ (hI.alloc _ h0);have hq:=hseq _ hb1 hs1;rw[show aVj (n-1) P gf lb encs Kp S N ((w.alloc (.deferred (some []))).alloc (.loop (L .ready))) G=_ from rfl] at hq;unfold aVj at hq;rw[hs1] at hq;refine⟨w.heap.size+1,[{ target:=.collected w.heap.size,args:=#[] }],(w.alloc (.deferred (some []))).alloc (.loop (L .ready)),{ target:=.fn (.func gf) lb,args:=#[.func (.yield (w.heap.size+1)) #[] #[]] },(w.alloc (.deferred (some []))).alloc (.loop (L .ready)),gf,
  #[.func (.yield (w.heap.size+1)) #[] #[]]++lb,(w.alloc (.deferred (some []))).alloc (.loop (L .ready)),?_,?_,fun _ _=>trivial,?_,fun h=>absurd h (by decide),?_⟩
 ·rw[hL];exact run_enterLoop_outer _ _ _ _ _
 ·simp only[resolve,hg];simp[go_sem]
 ·simp[invoke,go_sem,eg]
 ·refine(hq (w.heap.size+1) (fun pre W=>I pre W/\W.heap[w.heap.size+1]?=some (.loop (L .ready))/\W.heap[w.heap.size]?=some (.deferred (some []))) ?_ ?_ ⟨hI1,hR1⟩).mono ?_
  ·rintro pre A B ⟨hi,hl,hk⟩ hm;refine⟨hIm pre A B hi hm,?_⟩;have h1:=(Ai.1 hl).1;have h2:=(Ai.1 hk).1;rcases hm with hm|hm
   ·exact⟨(hm.block _ h1 (by simp)).trans hl,(hm.block _ h2 (by simp)).trans hk⟩
   ·exact⟨(hm.block _ h1 (by simp)).trans hl,(hm.block _ h2 (by simp)).trans hk⟩
  ·rintro pre x W ⟨hi,hl,hk⟩ hlen hG;have hlt:w.heap.size+1<W.heap.size:=(Ai.1 hl).1;have hy:=run_yield (P:=P) (args:=encs x) hl (by rw[hL];exact hps x);rw[hL] at hy;refine⟨fn,_,assign,body,hy,roundIn_of_wpIn hfn (hassign (w.heap.size+1) pre x W _ hi (by omega) fun a' W' hkf hkp hi' hax=>?_)⟩;have hl':W'.heap[w.heap.size+1]?=some (.loop (L .ready)):=hkf.same _ _ (by omega) hl rfl;have hk':W'.heap[w.heap.size]?=some (.deferred (some [])):=hkf.same _ _ (Nl _) hk rfl;have hlt':w.heap.size+1<W'.heap.size:=(Ai.1 hl').1;refine⟨_,run_beginRound hl' (by rw[hL]),?_⟩;have hl2:(W'.putObj (w.heap.size+1) (.loop { L .ready with state:=.busy })).heap[w.heap.size+1]?=some (.loop { L .ready with state:=.busy }):=World.putObj_heap_same hlt';have hk2:(W'.putObj (w.heap.size+1) (.loop { L .ready with state:=.busy })).heap[w.heap.size]?=some (.deferred (some [])):=(World.putObj_heap_other (by omega)).trans hk';have hp2:=hKb W' (w.heap.size+1) _ (.loop { L .ready with state:=.busy }) (by omega) hl' rfl;refine wpIn_mono (hbody (w.heap.size+1) pre x a' _ (hI.putObj _ hi' (by omega) hl' rfl) (Nat.le_trans (show w.heap.size+2<=W'.heap.size by omega) (by simp[World.putObj])) ((hAx x a').putObj (s:=()) _ hax (by omega) hl' rfl) hlen hG) ?_;rintro e a3 W3 ⟨rfl,hk3,hp3,hi3⟩;have hl3:=hk3.same _ _ (by omega) hl2 rfl;have hr:=run_endRound (P:=P) none hl3;rw[hL] at hr;refine⟨_,_,hr,rfl,⟨hI.putObj _ hi3 (by omega) hl3 rfl,?_,(World.putObj_heap_other (by omega)).trans (hk3.same _ _ (Nl _) hk2 rfl)⟩,hKt (hKt (hKt hkp hp2) hp3) (hKb _ _ _ _ (by omega) hl3 rfl)⟩;rw[World.putObj_heap_same (Ai.1 hl3).1,hL];rfl
  ·rintro e W2 ⟨⟨v,rfl⟩,xs,hS,hi,hl,hk⟩;have he:=run_endLoop (P:=P) hl (by rw[hL];simp);rw[hL] at he;exact⟨none,_,he,hdone _ xs _ (Nl _) hS (hI.putObj _ hi (by omega) hl rfl) ((World.putObj_heap_other (by omega)).trans hk)⟩
theorem aR6{P:Program}{n:Nat}{α:Type}{g:Operand}{ps:Array Tmp}{assign body:Code}{Q:Exit->Act->World->Prop}{a:Act}{w:World}
  {gf:Nat}{lb:Array Value}(hg:a.eval g=.func (.func gf) #[] lb) (eg:∀args w,(callFunc gf args).run P w=.ok (.enter gf args) w)
  {encs:α->Array Value}{Kp:World->World->Prop}{S:List α->Prop}{N:Nat}
  (hKt:∀ {A B C:World},Kp A B->Kp B C->Kp A C) (hKb:∀(W:World) (l:Nat) (o o':Obj),w.heap.size<=l->W.heap[l]?=some o->o.isCells=false->Kp W (W.putObj l o')) (hps:∀x,(encs x).size=ps.size)
  (hseq:∀W1,Below w.heap.size w W1->W1.heap.size=w.heap.size+2->aTa (n-1) P gf lb encs Kp S N W1)
  (I:List α->World->Prop) (hI:OwnFrom w.heap.size I) (hIm:∀pre A B,I pre A->aR4 (w.heap.size+2) A B->I pre B) (h0:I [] w) (Asg:α->Act->World->Prop) (hAx:∀x a',OwnFrom w.heap.size (fun (_:Unit) W=>Asg x a' W))
  (hassign:∀(l:Nat) (pre:List α) (x:α) (W:World) (K:Act->World->Prop),I pre W->(∀a' W',KeepsFrom w.heap.size W W'->Kp W W'->I pre W'->Asg x a' W'->K a' W') ->
   assign.wpIn (Fence.wide.inRound l) (n-1-1) P (Exit.then K (fun _ _ _=>False)) { tmps:=(ps.zip (encs x)).foldl (fun t (p,v)=>t.setIfInBounds p v) a.tmps,defers:=[] } W)
  (hbody:∀(l:Nat) (pre:List α) (x:α) (a':Act) (W:World),I pre W->Asg x a' W->pre.length<N->body.wpIn (Fence.wide.inRound l) (n-1-1) P (fun e _ W'=>e=.normal/\KeepsFrom w.heap.size W W'/\Kp W W'/\I (pre ++ [x]) W') a' W)
  (hdone:∀(D:Nat) (xs:List α) (W:World),w.heap.size<=D->S xs->I xs W->W.heap[D]?=some (.deferred (some []))->Q .normal { a with defers:={ target:=.collected D,args:=#[] }::a.defers } W) :
  (Code.rangeFunc g ps assign body).wpIn Fence.wide n P Q a w :=
 aUe (G:=fun _=>True) (Kp:=Kp) hg eg hKt hKb hps (fun W1 hb hs l J hm hy h0=>hseq W1 hb hs l J hm (fun pre x W hj hl=>hy pre x W hj hl trivial) h0) I hI hIm h0 Asg hAx (fun l pre x W K hi _=>hassign l pre x W K hi) (fun l pre x a' W hi _ hax hl _=>hbody l pre x a' W hi hax hl) hdone
end
section
open Go.RowKit Num
structure aJv where
 day:Int
 price:bZ
def aJz(f:aE):aJv:=⟨f.day,f.price⟩
def isQ(ins:List UInt8)(f:aE):Bool:=decide (f.kind=15)&&(f.ins==ins)
def aJ9(l:List aJv)(q:aJv):List aJv:=match l.getLast? with
 |some p=>if p.day=q.day then l.dropLast ++ [q] else l ++ [q]
 |none=>l ++ [q]
def aJ1(ins:List UInt8)(l:List aJv)(f:aE):List aJv:=if isQ ins f=true then aJ9 l (aJz f) else l
def ser(ins:List UInt8)(fs:List aE):List aJv:=fs.foldl (aJ1 ins) []
def aKf(d:Int)(q:aJv):Bool:=decide (q.day<=d)
def aJ0(fs:List aE)(ins:List UInt8)(d:Int):Option aJv:=((ser ins fs).filter (aKf d)).getLast?
def aL1(fs:List aE)(ins:List UInt8)(d stale:Int):Option bZ:=match aJ0 fs ins d with
 |some q=>if stale<d-q.day then none else some q.price
 |none=>none
theorem aLm{ins:List UInt8}{fs:List aE}{k:Nat}{f:aE}(h:fs[k]?=some f):ser ins (fs.take (k+1))=aJ1 ins (ser ins (fs.take k)) f:=by
 unfold ser;rw[List.take_add_one,h,List.foldl_append];rfl
theorem aKl{l:List aJv}{p q:aJv}(h:p.day=q.day):aJ9 (l ++ [p]) q=l ++ [q]:=by
 unfold aJ9;rw[List.getLast?_concat];simp[h]
theorem aKm{l:List aJv}{p q:aJv}(h:p.day≠q.day):aJ9 (l ++ [p]) q=l ++ [p] ++ [q]:=by
 unfold aJ9;rw[List.getLast?_concat];simp[h]
theorem aLw(ins:List UInt8)(fs:List aE):(ser ins fs).length<=fs.length:=by
 have h:∀(fs:List aE) (acc:List aJv),(fs.foldl (aJ1 ins) acc).length<=acc.length+fs.length:=by
  intro fs
  induction fs with
  |nil=>intro acc;simp
  |cons f r ih =>
   intro acc;rw[List.foldl_cons,List.length_cons];have h1:=ih (aJ1 ins acc f);have h2:(aJ1 ins acc f).length<=acc.length+1:=by
    unfold aJ1;split
    ·unfold aJ9;split
     ·split
      ·rw[List.length_append,List.length_dropLast,List.length_singleton];omega
      ·simp
     ·simp
    ·omega
   omega
 have:=h fs [];unfold ser;simpa using this
abbrev Asc(l:List aJv):Prop:=l.Pairwise fun a b=>a.day<b.day
theorem aKq{l:List aJv}{q:aJv}(h1:Asc l)(h2:∀p,p∈l->p.day<=q.day):aJ9 l q=l.filter (fun p=>decide (p.day<q.day)) ++ [q]:=by
 cases hl:l.getLast? with
 |none =>
  obtain rfl:=List.getLast?_eq_none_iff.1 hl;rfl
 |some p =>
  obtain⟨l',rfl⟩:=List.getLast?_eq_some_iff.1 hl;have h3:∀a,a∈l'->a.day<p.day:=fun a ha=>(List.pairwise_append.1 h1).2.2 a ha p (by simp)
  have hp:=h2 p (by simp);have e:l'.filter (fun p=>decide (p.day<q.day))=l':=List.filter_eq_self.2 fun a ha=>by have:=h3 a ha;simp;omega
  by_cases hd:p.day=q.day
  ·rw[aKl hd,List.filter_append,e];simp[hd]
  ·rw[aKm hd,List.filter_append,e];have:p.day<q.day:=by omega
   simp[this]
theorem aKs(ins:List UInt8):∀(fs:List aE) (acc:List aJv),Asc acc->(∀q,q∈acc->∀f,f∈fs->q.day<=f.day)->fs.Pairwise (fun a b=>a.day<=b.day) ->
  Asc (fs.foldl (aJ1 ins) acc)/\(∀q,q∈fs.foldl (aJ1 ins) acc->q∈acc∨∃f,f∈fs/\isQ ins f=true/\q=aJz f) /\
  ∀d,((fs.foldl (aJ1 ins) acc).filter (aKf d)).getLast?=(((fs.filter fun f=>isQ ins f&&decide (f.day<=d)).getLast?).map aJz).or (acc.filter (aKf d)).getLast? := by
 intro fs
 induction fs with
 |nil=>intro acc h1 _ _;exact⟨h1,fun q hq=>.inl hq,fun d=>by simp⟩
 |cons f r ih =>
  intro acc h1 h2 h3;rw[List.foldl_cons];obtain⟨h4,h5⟩:=List.pairwise_cons.1 h3;cases hq:isQ ins f with
  |false =>
   have e:aJ1 ins acc f=acc:=by unfold aJ1;rw[if_neg (by simp[hq])]
   rw[e];obtain⟨a1,a2,a3⟩:=ih acc h1 (fun q hq f hf=>h2 q hq f (List.mem_cons_of_mem _ hf)) h5;refine⟨a1,fun q hq'=>?_,fun d=>?_⟩
   ·rcases a2 q hq' with h|⟨g,hg,hi⟩
    ·exact .inl h
    ·exact .inr ⟨g,List.mem_cons_of_mem _ hg,hi⟩
   ·rw[a3 d,List.filter_cons,if_neg (by simp[hq])]
  |true =>
   have hle:∀p,p∈acc->p.day<=(aJz f).day:=fun p hp=>h2 p hp f (by simp)
   have e:aJ1 ins acc f=acc.filter (fun p=>decide (p.day<f.day)) ++ [aJz f]:=by
    unfold aJ1;rw[if_pos hq,aKq h1 hle];rfl
   rw[e];obtain⟨a1,a2,a3⟩:=ih (acc.filter (fun p=>decide (p.day<f.day)) ++ [aJz f]) (by
    refine List.pairwise_append.2 ⟨h1.sublist List.filter_sublist,by simp,fun a ha b hb=>?_⟩;rw[List.mem_singleton] at hb;subst hb;show a.day<f.day;simpa using(List.mem_filter.1 ha).2) (fun q hq' g hg=>by
    rcases List.mem_append.1 hq' with h|h
    ·exact h2 q (List.mem_filter.1 h).1 g (List.mem_cons_of_mem _ hg)
    ·rw[List.mem_singleton] at h;subst h;exact h4 g hg) h5
   refine⟨a1,fun q hq'=>?_,fun d=>?_⟩
   ·rcases a2 q hq' with h|⟨g,hg,hi⟩
    ·rcases List.mem_append.1 h with h|h
     ·exact .inl (List.mem_filter.1 h).1
     ·rw[List.mem_singleton] at h;exact .inr ⟨f,by simp,hq,h⟩
    ·exact .inr ⟨g,List.mem_cons_of_mem _ hg,hi⟩
   ·rw[a3 d,List.filter_cons,List.filter_append]
    by_cases hd:f.day<=d
    ·have e1:[aJz f].filter (aKf d)=[aJz f]:=by simp[aKf,aJz,hd]
     rw[if_pos (by simp[hq,hd]),e1,List.getLast?_concat,show f::List.filter (fun f=>isQ ins f&&decide (f.day<=d)) r=[f]++List.filter (fun f=>isQ ins f&&decide (f.day<=d)) r from rfl,List.getLast?_append];cases(List.filter (fun f=>isQ ins f&&decide (f.day<=d)) r).getLast? <;> simp
    ·have e1:[aJz f].filter (aKf d)=[]:=by simp[aKf,aJz,hd]
     have e2:(acc.filter (fun p=>decide (p.day<f.day))).filter (aKf d)=acc.filter (aKf d):=by
      rw[List.filter_filter];refine List.filter_congr fun x hx=>?_
      unfold aKf
      by_cases hxd:x.day<=d
      ·have:x.day<f.day:=by omega
       simp[hxd,this]
      ·simp[hxd]
     rw[if_neg (by simp[hd]),e1,List.append_nil,e2]
theorem aKe{fs:List aE}(h:dF fs=0):fs.Pairwise (fun a b=>a.day<=b.day) :=
 (oW.1 h).2.2.2.imp fun h=>by rcases Zv.1 h with h|⟨h,_⟩ <;> omega
theorem aLv{fs:List aE}{ins:List UInt8}{q:aJv}(h:dF fs=0)(hq:q∈ser ins fs):∃f,f∈fs/\isQ ins f=true/\q=aJz f:=by
 rcases(aKs ins fs [] List.Pairwise.nil (fun q hq=>by cases hq) (aKe h)).2.1 q hq with h|h
 ·cases h
 ·exact h
theorem aK5{fs:List aE}{ins:List UInt8}{d:Int}{q:aJv}(h:aJ0 fs ins d=some q):q∈ser ins fs:=(List.mem_filter.1 (List.mem_of_getLast? h)).1
end
section
open Go Go.RowKit Num
def mkF(N D:Int):bZ:=⟨aJ (eT N D),nD (fT N D)⟩
theorem aKk{N D k:Int}:gE (N*k) (D*k)=gE N D*k.natAbs:=by
 unfold gE;rw[Int.natAbs_mul,Int.natAbs_mul,Nat.gcd_mul_right]
theorem aKw{k:Int}(h:k≠0):0<(k.natAbs:Int):=by omega
theorem aKg{N D k:Int}(hD:D≠0)(hk:k≠0):eT (N*k) (D*k)=eT N D:=by
 unfold eT;rw[aKk];have hp:=aKw hk;have e:(if D*k<0 then -(N*k) else N*k)=(k.natAbs:Int)*(if D<0 then -N else N):=by
  rcases Int.lt_or_gt_of_ne hD with hd|hd <;> rcases Int.lt_or_gt_of_ne hk with h|h
  ·have h1:¬ D*k<0:=by have:=Int.mul_pos_of_neg_of_neg hd h;omega
   rw[if_neg h1,if_pos hd,show (k.natAbs:Int) = -k by omega,Int.neg_mul_neg,Int.mul_comm]
  ·have h1:D*k<0:=Int.mul_neg_of_neg_of_pos hd h;rw[if_pos h1,if_pos hd,show (k.natAbs:Int)=k by omega,Int.mul_neg,Int.mul_comm]
  ·have h1:D*k<0:=Int.mul_neg_of_pos_of_neg hd h;rw[if_pos h1,if_neg (by omega),show (k.natAbs:Int) = -k by omega,Int.neg_mul,Int.mul_comm]
  ·have h1:¬ D*k<0:=by have:=Int.mul_pos hd h;omega
   rw[if_neg h1,if_neg (by omega),show (k.natAbs:Int)=k by omega,Int.mul_comm]
 rw[e,show ((gE N D*k.natAbs:Nat):Int)=(k.natAbs:Int)*(gE N D:Int) by rw[Int.natCast_mul,Int.mul_comm],Int.mul_fdiv_mul_of_pos _ _ hp]
theorem aKh{N D k:Int}(hD:D≠0)(hk:k≠0):fT (N*k) (D*k)=fT N D:=by
 unfold fT;rw[aKk];have hp:=aKw hk;have e:(if D*k<0 then -(D*k) else D*k)=(k.natAbs:Int)*(if D<0 then -D else D):=by
  rcases Int.lt_or_gt_of_ne hD with hd|hd <;> rcases Int.lt_or_gt_of_ne hk with h|h
  ·have h1:¬ D*k<0:=by have:=Int.mul_pos_of_neg_of_neg hd h;omega
   rw[if_neg h1,if_pos hd,show (k.natAbs:Int) = -k by omega,Int.neg_mul_neg,Int.mul_comm]
  ·have h1:D*k<0:=Int.mul_neg_of_neg_of_pos hd h;rw[if_pos h1,if_pos hd,show (k.natAbs:Int)=k by omega,Int.mul_neg,Int.mul_comm]
  ·have h1:D*k<0:=Int.mul_neg_of_pos_of_neg hd h;rw[if_pos h1,if_neg (by omega),show (k.natAbs:Int) = -k by omega,Int.neg_mul,Int.mul_comm]
  ·have h1:¬ D*k<0:=by have:=Int.mul_pos hd h;omega
   rw[if_neg h1,if_neg (by omega),show (k.natAbs:Int)=k by omega,Int.mul_comm]
 rw[e,show ((gE N D*k.natAbs:Nat):Int)=(k.natAbs:Int)*(gE N D:Int) by rw[Int.natCast_mul,Int.mul_comm],Int.mul_fdiv_mul_of_pos _ _ hp]
theorem aKc(N D:Int):(gE N D:Int)∣N:=Int.ofNat_dvd_left.2 (Nat.gcd_dvd_left _ _)
theorem aKd(N D:Int):(gE N D:Int)∣D:=Int.ofNat_dvd_left.2 (Nat.gcd_dvd_right _ _)
theorem aKo{N D:Int}(hD:D≠0):eT N D*gE N D=if D<0 then -N else N:=by
 have hg:=qJ (N:=N) hD;have hd:(gE N D:Int)∣(if D<0 then -N else N):=by
  split
  ·exact Int.dvd_neg.2 (aKc N D)
  ·exact aKc N D
 obtain⟨k,hk⟩:=hd;unfold eT;rw[hk,Int.mul_fdiv_cancel_left _ (by omega),Int.mul_comm]
theorem aKp{N D:Int}(hD:D≠0):fT N D*gE N D=if D<0 then -D else D:=by
 have hg:=qJ (N:=N) hD;have hd:(gE N D:Int)∣(if D<0 then -D else D):=by
  split
  ·exact Int.dvd_neg.2 (aKd N D)
  ·exact aKd N D
 obtain⟨k,hk⟩:=hd;unfold fT;rw[hk,Int.mul_fdiv_cancel_left _ (by omega),Int.mul_comm]
theorem aKn{N D:Int}(hD:D≠0):0<fT N D:=by
 have h:=aKp (N:=N) hD;have hg:=qJ (N:=N) hD;have hp:0<fT N D*gE N D:=by rw[h];split <;> omega
 exact Int.pos_of_mul_pos_left hp (by omega)
theorem aKt{N D:Int}(hD:D≠0):eT N D*D=N*fT N D:=by
 have h1:=aKo (N:=N) hD;have h2:=aKp (N:=N) hD;have hg:=qJ (N:=N) hD;have hz:(gE N D:Int)≠0:=by omega
 refine Int.eq_of_mul_eq_mul_right hz ?_;rw[Int.mul_right_comm,h1,Int.mul_assoc,h2];split
 ·rw[Int.neg_mul,Int.mul_neg]
 ·rfl
theorem aK1{z:Int}(h:0<z):lU (nD z)=z:=by
 unfold nD;split
 ·rename_i e;have:=congrArg val e;rw[bE,jB] at this;rw[this];rfl
 ·unfold lU;rw[bE,if_neg (by omega)]
def aJ3(p q:bZ):Int:=bG (eT (iY p.n p.d q.n q.d) (iG p.d q.d)) 0
theorem aLa{N D:Int}(hD:0<D):(eT N D<0↔N<0)/\(0<eT N D↔0<N):=by
 have h:=aKo (N:=N) (show D≠0 by omega);have hg:=qJ (N:=N) (show D≠0 by omega);rw[if_neg (by omega)] at h;have hg':0<(gE N D:Int):=by omega
 generalize eT N D=x at *;generalize(gE N D:Int)=g at *;subst h;constructor
 ·constructor
  ·exact fun h=>Int.mul_neg_of_neg_of_pos h hg'
  ·intro h;rcases Int.lt_or_le x 0 with h1|h1
   ·exact h1
   ·have:=Int.mul_nonneg h1 (Int.le_of_lt hg');omega
 ·constructor
  ·exact fun h=>Int.mul_pos h hg'
  ·intro h;exact Int.pos_of_mul_pos_left h hg'
theorem aJ2{p q:bZ}(hp:0<lU p.d)(hq:0<lU q.d):(aJ3 p q<0↔val p.n*lU q.d<val q.n*lU p.d)/\(0<aJ3 p q↔val q.n*lU p.d<val p.n*lU q.d):=by
 have h:=aLa (N:=iY p.n p.d q.n q.d) (show 0<iG p.d q.d from Int.mul_pos hp hq);unfold aJ3 bG;unfold iY at h ⊢;generalize eT (val p.n*lU q.d-val q.n*lU p.d) (iG p.d q.d)=x at *;constructor
 ·rw[show (val p.n*lU q.d<val q.n*lU p.d)↔(val p.n*lU q.d-val q.n*lU p.d<0) by omega,<-h.1];split
  ·rename_i hx;simp[hx]
  ·split <;> simp <;> omega
 ·rw[show (val q.n*lU p.d<val p.n*lU q.d)↔(0<val p.n*lU q.d-val q.n*lU p.d) by omega,<-h.2];split
  ·simp;omega
  ·split <;> simp <;> omega
def aKj(m:Option bZ)(p:bZ):Option bZ:=match m with
 |none=>some p
 |some x=>if aJ3 p x<0 then some p else some x
def aKb(m:Option bZ)(p:bZ):Option bZ:=match m with
 |none=>some p
 |some x=>if 0<aJ3 p x then some p else some x
def aLq(l:List bZ):Option bZ:=l.foldl aKj none
def aK0(l:List bZ):Option bZ:=l.foldl aKb none
theorem aLo(l:List bZ)(p:bZ):aLq (l ++ [p])=aKj (aLq l) p:=by unfold aLq;rw[List.foldl_append];rfl
theorem aLf(l:List bZ)(p:bZ):aK0 (l ++ [p])=aKb (aK0 l) p:=by unfold aK0;rw[List.foldl_append];rfl
end
section
open Go Go.RowKit Go.Shelf Num
def aPt(d:Int):Bool:=decide (-25567<=d)&&decide (d<=84005)
def aTi(ds:List Int):List Value:=ds.map (Value.int .i64)
def aPk(fs:List aE)(stale:Int)(ds:List Int):Int:=if dF fs≠0 then 1 else if ds.all aPt=false then 13 else if stale<0 then 2 else 0
theorem aMr(ds:List Int)(a:Option Addr)(c:Nat)(w:World)(hn:ds.length<=1000000)(hr:dT w a (aTi ds)):
  Calls prog 86 #[.slice a ds.length c] w fun e w'=>e=.returned (.bool (ds.all aPt))/\w=w':=by
 have HR:=Hd hr;obtain⟨r,hrr⟩:∃r,r=ds.all aPt:=⟨_,rfl⟩
 have HBAD:Hid (∀d,d∈ds->aPt d=false->r=false):=fun d hd h=>by rw[hrr];exact List.all_eq_false.2 ⟨d,hd,by simp[h]⟩
 have HGOOD:Hid ((∀j d,j<ds.length->ds[j]?=some d->aPt d=true)->r=true):=fun h=>by
  rw[hrr];refine List.all_eq_true.2 fun d hd=>?_
  obtain⟨j,hj⟩:=List.getElem?_of_mem hd;exact h j d (Li.1 hj).1 hj
 rw[<-hrr];clear hr hrr;go_enter func86,ntmps86;go_wp2_with fail;go_loopw [7] (fun iv wr=>∃k:Nat,k<=ds.length/\iv=.int .i64 k/\wr=w/\Hid (∀j d,j<k->ds[j]?=some d->aPt d=true)) (fun iv _=>ds.length-(intOf iv).toNat)
 case atStart=>exact⟨0,Nat.zero_le _,rfl,rfl,fun j d h=>absurd h (Nat.not_lt_zero j)⟩
 case round =>
  obtain⟨k,hk,rfl,rfl,HS⟩:=hrel
  by_cases hlt:k<ds.length
  ·obtain⟨d,hd⟩:∃d,ds[k]?=some d:=⟨ds[k],Lg hlt⟩
   obtain⟨b,off,rfl,hbl,hcc⟩:=HR.out.addr (by intro e;unfold aTi at e;rw[List.map_eq_nil_iff] at e;subst e;simp at hlt);have hc:=hcc k (.int .i64 d) (by unfold aTi;rw[List.getElem?_map,hd];rfl);have HB:=Hd (HBAD.out d (List.mem_of_getElem? hd));have HOK:Hid (aPt d=(decide (-25567<=d)&&decide (d<=84005))):=rfl;have HK:Hid (aPt d=true->∀j e,j<k+1->ds[j]?=some e->aPt e=true):=fun h j e hj he=>by
    by_cases hjk:j=k
    ·subst hjk;rw[hd] at he;injection he with he;subst he;exact h
    ·exact HS.out j e (by omega) he
   clear HS hcc hd HBAD hbl
   by_cases h1:d < -25567
   ·have HV:=Hd (HB.out (by rw[HOK.out];simp;omega));clear HB HK HOK;go_wp2;go_ret;exact⟨by rw[HV.out];rfl,rfl⟩
   ·by_cases h2:84005<d
    ·have HV:=Hd (HB.out (by rw[HOK.out];simp;omega));clear HB HK HOK;go_wp2;go_ret;exact⟨by rw[HV.out];rfl,rfl⟩
    ·have HV:=Hd (HK.out (by rw[HOK.out];simp;omega));clear HB HK HOK;go_wp2;go_roundw
     case rel=>exact⟨k+1,by omega,by go_num,by trivial,HV⟩
     case measure=>simp[intOf];omega
  ·obtain rfl:k=ds.length:=by omega
   have HV:=Hd (HGOOD.out HS.out);clear HS HGOOD HBAD;go_wp2;go_ret;exact⟨by rw[HV.out];rfl,rfl⟩
theorem aQa(xs:List aF)(a:Option Addr)(c:Nat)(stale:Int)(ds:List Int)(ad:Option Addr)(cd:Nat)(w:World)(hE:iE w)(hv:gT w a c xs)(hn:ds.length<=1000000)(hr:dT w ad (aTi ds)):
  Calls prog 49 #[.slice a xs.length c,.int .i64 stale,.slice ad ds.length cd] w fun e w'=>e=.returned (.int .i64 (aPk (xs.map aF.f) stale ds))/\Below w.heap.size w w':=by
 have HVC:Hid (Calls prog 46 #[.slice a xs.length c] w fun e w'=>e=.returned (.int .i64 (dF (xs.map aF.f)))/\Below w.heap.size w w'):=lC xs a c w hE hv.len hv.facts hv.ok;have HVD:Hid (∀W,Below w.heap.size w W->Calls prog 86 #[.slice ad ds.length cd] W fun e w'=>e=.returned (.bool (ds.all aPt))/\W=w'):=fun W hb=>aMr ds ad cd W hn (hr.below hb)
 have HPC:Hid (aPk (xs.map aF.f) stale ds=if dF (xs.map aF.f)≠0 then 1 else if ds.all aPt=false then 13 else if stale<0 then 2 else 0):=rfl;clear hE hv hr;generalize aPk (xs.map aF.f) stale ds=r at *;generalize dF (xs.map aF.f)=ve at *;generalize ds.all aPt=bd at *;generalize xs.length=n at *;generalize ds.length=m at *;go_enter func49,ntmps49;go_wp2_with fail;refine HVC.out.mono ?_;rintro e w1 ⟨rfl,hb⟩;have HB1:=Hd hb;clear hb HVC
 by_cases h1:ve=0
 ·subst h1;go_wp2_with fail;refine(HVD.out _ HB1.out).mono ?_;rintro e w2 ⟨rfl,rfl⟩;cases bd with
  |false =>
   have HV:Hid (r=13):=by show _=_;rw[HPC.out];simp
   clear HPC HVD;go_wp2;go_ret;exact⟨by rw[HV.out];rfl,HB1.out⟩
  |true =>
   by_cases h3:stale<0
   ·have HV:Hid (r=2):=by show _=_;rw[HPC.out];simp[h3]
    clear HPC HVD;go_wp2;go_ret;exact⟨by rw[HV.out];rfl,HB1.out⟩
   ·have HV:Hid (r=0):=by show _=_;rw[HPC.out];simp[h3]
    clear HPC HVD;go_wp2;go_ret;exact⟨by rw[HV.out];rfl,HB1.out⟩
 ·have h1':(ve==0)=false:=by simpa using h1
  have HV:Hid (r=1):=by show _=_;rw[HPC.out,if_pos h1]
  clear HPC HVD h1;go_wp2;go_ret;exact⟨by rw[HV.out];rfl,HB1.out⟩
theorem aR7(a:Option Addr)(n c:Nat)(ins:List UInt8)(w:World):
  Calls prog 69 #[.slice a n c,.string ⟨ins.toArray⟩] w fun e w'=>∃bl bi,e=.returned (.func (.func 118) #[] #[.pointer (some ⟨bl,0,none⟩),.pointer (some ⟨bi,0,none⟩)])/\w.heap.size<=bl/\w.heap.size<=bi/\aP w' bl #[.slice a n c] 22/\aP w' bi #[.string ⟨ins.toArray⟩] 9/\Below w.heap.size w w':=by
 go_enter func69,ntmps69;go_wp2;go_ret;refine⟨w.heap.size,w.heap.size+1,rfl,Nl _,Nat.le_succ _,(aP.new0 w _ _).below (aB _ _),?_,((Br _ _).alloc (Nl _) _).alloc (by simp) _⟩;have h:=aP.new0 (w.alloc (.cells #[.slice a n c] 22)) #[.string ⟨ins.toArray⟩] 9;rw[World.size_alloc] at h;exact h
def aOx(q:aJv):Array Value:=#[.int .i64 q.day,.string ⟨q.price.n.toArray⟩,.string ⟨q.price.d.toArray⟩]
def Z3:Array Value:=#[.int .i64 0,.string ⟨#[]⟩,.string ⟨#[]⟩]
def aSy(q:aJv):Array Value:=#[.agg (aOx q)]
def aPs(l:List aJv):Array Value:=match l.getLast? with
 |some q=>aOx q
 |none=>Z3
theorem aP1(l:List aJv)(q:aJv):aPs (l ++ [q])=aOx q:=by simp[aPs]
theorem aPm:(prog.info? 46).map (·.size)=some 3:=by kernel_rfl
theorem aQu{α:Type}(l:List α):l=[]∨∃l' p,l=l' ++ [p]:=by
 cases h:l.getLast? with
 |none=>exact .inl (List.getLast?_eq_none_iff.1 h)
 |some p=>obtain⟨l',e⟩:=List.getLast?_eq_some_iff.1 h;exact .inr ⟨l',p,e⟩
structure aRa(W:World)(xs:List aF)(a:Option Addr)(c bl bi:Nat)(ins:List UInt8):Prop where
 facts:fS W a xs
 kl:aP W bl #[.slice a xs.length c] 22
 ki:aP W bi #[.string ⟨ins.toArray⟩] 9
def aUj(ins:List UInt8)(fs:List aE)(q:aJv):Prop:=∃f,f∈fs/\isQ ins f=true/\q=aJz f
theorem aU0{l:List aJv}{p q:aJv}(h:q∈aJ9 l p):q∈l∨q=p:=by
 unfold aJ9 at h;split at h
 ·split at h
  ·rcases List.mem_append.1 h with h|h
   ·exact .inl ((List.dropLast_sublist _).subset h)
   ·exact .inr (List.mem_singleton.1 h)
  ·rcases List.mem_append.1 h with h|h
   ·exact .inl h
   ·exact .inr (List.mem_singleton.1 h)
 ·rcases List.mem_append.1 h with h|h
  ·exact .inl h
  ·exact .inr (List.mem_singleton.1 h)
theorem aUt{ins:List UInt8}:∀(fs:List aE) (acc:List aJv) (q:aJv),q∈fs.foldl (aJ1 ins) acc->q∈acc∨aUj ins fs q:=by
 intro fs
 induction fs with
 |nil=>exact fun acc q h=>.inl h
 |cons f r ih =>
  intro acc q h;rw[List.foldl_cons] at h;rcases ih _ q h with h|⟨g,hg,h1,h2⟩
  ·unfold aJ1 at h;split at h
   ·rename_i hq;rcases aU0 h with h|h
    ·exact .inl h
    ·exact .inr ⟨f,List.mem_cons_self,hq,h⟩
   ·exact .inl h
  ·exact .inr ⟨g,List.mem_cons_of_mem _ hg,h1,h2⟩
theorem aVo{ins:List UInt8}{fs:List aE}{q:aJv}(h:q∈ser ins fs):aUj ins fs q:=by
 rcases aUt fs [] q h with h|h
 ·cases h
 ·exact h
attribute [local go_sem] Oper.semAt_some
theorem aT9(n:Nat)(xs:List aF)(a:Option Addr)(c bl bi:Nat)(ins:List UInt8)(N:Nat)(X:World->Nat->Prop)(w1:World)(hn:xs.length<=1000000)(hXm:∀A B,w1.heap.size<=A.heap.size->aR4 w1.heap.size A B->∀k,X B k->X A k)(hX0:aUg X w1.heap.size w1)(hS:∀W,aR1 N (XR X w1.heap.size) w1 W->aRa W xs a c bl bi ins):
  aVj n prog 118 #[.pointer (some ⟨bl,0,none⟩),.pointer (some ⟨bi,0,none⟩)] aSy (KpX N X) (fun ys=>ys=ser ins (xs.map aF.f)) (xs.length+1) w1 (aUj ins (xs.map aF.f)):=by
 intro l J hJ hY h0;have HY:=Hd hY;have HJM:=Hd hJ;have HS:=Hd hS;have HXM:=Hd hXm;have HLX0:Hid (aUg X w1.heap.size (w1.alloc (.cells Z3 46))):=aS0 hXm (Nl _) (.inl (World.grownBy_alloc _ _ none)) hX0;have H0:Hid (J [] (w1.alloc (.cells Z3 46))):=hJ [] _ _ h0 (.inl (World.grownBy_alloc _ _ none));have HQ0:=Hd (aP.new0 w1 Z3 46);have HK0:Hid (aR1 N (XR X w1.heap.size) w1 (w1.alloc (.cells Z3 46))):=aRw hXm (Nl _) (aB _ _);have k1:(w1.alloc (.cells #[.int .i64 0,.string ⟨#[]⟩,.string ⟨#[]⟩] 46)).cell? ⟨bl,0,none⟩=some (.slice a xs.length c):=((hS _ (aR1.refl _ _ _)).kl.below (aB w1 (.cells Z3 46))).cell 0;obtain⟨L,hL⟩:∃L:Nat->List aJv,L=fun k=>ser ins ((xs.map aF.f).take k):=⟨_,rfl⟩
 have HL0:Hid (L 0=[]):=by show _=_;rw[hL];rfl
 have HLS:Hid (∀k x,xs[k]?=some x->L (k+1)=aJ1 ins (L k) x.f):=fun k x hx=>by rw[hL];exact aLm (by rw[List.getElem?_map,hx];rfl)
 have HLE:Hid (L xs.length=ser ins (xs.map aF.f)):=by show _=_;rw[hL];simp only;rw[List.take_of_length_le (by simp)]
 have HLN:Hid (∀k,(L k).length<=k):=fun k=>by rw[hL];exact Nat.le_trans (aLw _ _) (by simp;omega)
 have HLG:Hid (∀k q,q∈L k->aUj ins (xs.map aF.f) q):=fun k q hq=>by rw[hL] at hq;obtain⟨f,hf,h⟩:=aVo hq;exact⟨f,List.mem_of_mem_take hf,h⟩
 clear hY hJ hS hXm hX0 h0 hL;refine callsIn_of_wp func118 rfl trivial ?_ rfl;simp only[ntmps118,List.size_toArray,List.length_cons,List.length_nil,Nat.reduceAdd,Nat.reduceSub,Array.replicate_succ,Array.replicate_zero,List.push_toArray,List.append_toArray,List.nil_append,List.cons_append];gi_wp2;gi_loopw [5,10] (fun bv iv wr=>∃k:Nat,k<=xs.length/\iv=.int .i64 k/\bv=.bool (!(L k).isEmpty)/\Hid (J (L k).dropLast wr)/\Hid (aP wr w1.heap.size (aPs (L k)) 46)/\Hid (aR1 N (XR X w1.heap.size) w1 wr)/\Hid (aUg X w1.heap.size wr)) (fun _ iv _=>xs.length-(intOf iv).toNat)
 case atStart=>exact⟨0,Nat.zero_le _,rfl,by rw[HL0.out];rfl,by show J _ _;rw[HL0.out];exact H0.out,by show aP _ _ _ _;rw[HL0.out];exact HQ0.out,HK0,HLX0⟩
 case round =>
  obtain⟨k,hk,rfl,rfl,HJ,HQ,HK,HLX⟩:=hrel;clear k1 H0 HQ0 HK0 HL0 HLX0;have HW:=Hd (HS.out _ HK.out);have HONE3:Hid (∀q,(aOx q).all (·.oneCell')=true):=fun q=>by simp[aOx,Value.oneCell']
  have HSQ:Hid (∀q,(prog.info? 46).map (·.size)=some (aOx q).size):=fun _=>aPm
  have HLK:=Hd (HLN.out k);have HGK:=Hd (HLG.out k);clear HLG
  by_cases hlt:k<xs.length
  ·obtain⟨x,hx⟩:∃x,xs[k]?=some x:=⟨xs[k],Lg hlt⟩
   obtain⟨b,off,rfl,_,hc⟩:=HW.out.facts.1.addr (k:=k) (cs:=x.cells) (by rw[List.getElem?_map,hx];rfl);have HC:Hid (∀j v,x.arr.toList[j]?=some v->wr.cell? ⟨b,off+k*21+j,none⟩=some v):=hc;have k1:=HW.out.kl.cell 0;have HSZ:Hid ((prog.info? 59).map (·.size)=some x.arr.size):=aY x.f x.pa x.oa x.pc x.oc;have HONE:=Hd (dV x);have HSTEP:=Hd (HLS.out k x hx);have hsz21:x.arr.size=21:=rfl;have HXC:Hid (x.arr[3]?=some (.int .i64 x.f.day)/\x.arr[4]?=some (.int .i64 x.f.kind)/\x.arr[5]?=some (.string ⟨x.f.ins.toArray⟩)/\x.arr[12]?=some (.string ⟨x.f.price.n.toArray⟩)/\x.arr[13]?=some (.string ⟨x.f.price.d.toArray⟩)):=⟨rfl,rfl,rfl,rfl,rfl⟩
   have HNQ:Hid (aOx (aJz x.f)=#[.int .i64 x.f.day,.string ⟨x.f.price.n.toArray⟩,.string ⟨x.f.price.d.toArray⟩]/\(aJz x.f).day=x.f.day):=⟨rfl,rfl⟩
   have HIQ:Hid (isQ ins x.f=(decide (x.f.kind=15)&&(x.f.ins==ins))):=rfl;unfold aJ1 at HSTEP;generalize hfc:x.arr=fc at *;generalize x.f.day=xd at *;generalize x.f.kind=kd at *;generalize x.f.ins=xi at *;generalize x.f.price.n=pn at *;generalize x.f.price.d=pd at *;generalize aJz x.f=nq at *;generalize isQ ins x.f=iq at *;have HBa:Hid (Below wr.heap.size wr (wr.alloc (.cells eS 59))):=aB _ _;have HS21:Hid (eS.size=fc.size):=hsz21.symm;have HNEW:=Hd (heap_alloc_new wr (.cells eS 59));clear hsz21 hc hx hfc
   by_cases hk15:kd=15
   case neg =>
    have h15:(kd==15)=false:=by simpa using hk15
    have HSAME:Hid (L (k+1)=L k):=by show _=_;rw[HSTEP.out,HIQ.out];simp[hk15]
    clear HSTEP HIQ HNQ;gi_wp2_with (first|(refine uP (by rfl) 59 _ rfl b (off+k*21) rfl fc _ HC.out underlying59 rfl HSZ.out ?_)|(refine bQ (by rfl) 59 _ _ rfl wr.heap.size rfl fc rfl HNEW.out HSZ.out HS21.out HONE.out ?_;intro w4 kx bx _ _ _;have hb4:=HBa.out.trans (bx _ (Nl _));have KX4:=Hd kx;have HB4:=Hd hb4;have k2:=(HS.out _ (HK.out.trans (aRw HXM.out HK.out.size hb4))).ki.cell 0;have x3:=(kx.cell 3).trans HXC.out.1;have x4:=(kx.cell 4).trans HXC.out.2.1;have x5:=(kx.cell 5).trans HXC.out.2.2.1;have x12:=(kx.cell 12).trans HXC.out.2.2.2.1;have x13:=(kx.cell 13).trans HXC.out.2.2.2.2;clear kx bx hb4));go_roundw
    case rel=>exact⟨k+1,by omega,by go_num,by rw[HSAME.out],by show J _ _;rw[HSAME.out];exact HJM.out _ _ _ HJ.out (.inl (gZ HB4.out)),by show aP _ _ _ _;rw[HSAME.out];exact HQ.out.below HB4.out,HK.out.trans (aRw HXM.out HK.out.size HB4.out),aS0 HXM.out HK.out.size (.inl (gZ HB4.out)) HLX.out⟩
    case measure=>simp[intOf];omega
   subst hk15;cases hin:(xi==ins) with
   |false =>
    have HSAME:Hid (L (k+1)=L k):=by show _=_;rw[HSTEP.out,HIQ.out,hin];simp
    clear HSTEP HIQ HNQ;gi_wp2_with (first|(refine uP (by rfl) 59 _ rfl b (off+k*21) rfl fc _ HC.out underlying59 rfl HSZ.out ?_)|(refine bQ (by rfl) 59 _ _ rfl wr.heap.size rfl fc rfl HNEW.out HSZ.out HS21.out HONE.out ?_;intro w4 kx bx _ _ _;have hb4:=HBa.out.trans (bx _ (Nl _));have KX4:=Hd kx;have HB4:=Hd hb4;have k2:=(HS.out _ (HK.out.trans (aRw HXM.out HK.out.size hb4))).ki.cell 0;have x3:=(kx.cell 3).trans HXC.out.1;have x4:=(kx.cell 4).trans HXC.out.2.1;have x5:=(kx.cell 5).trans HXC.out.2.2.1;have x12:=(kx.cell 12).trans HXC.out.2.2.2.1;have x13:=(kx.cell 13).trans HXC.out.2.2.2.2;clear kx bx hb4));go_roundw
    case rel=>exact⟨k+1,by omega,by go_num,by rw[HSAME.out],by show J _ _;rw[HSAME.out];exact HJM.out _ _ _ HJ.out (.inl (gZ HB4.out)),by show aP _ _ _ _;rw[HSAME.out];exact HQ.out.below HB4.out,HK.out.trans (aRw HXM.out HK.out.size HB4.out),aS0 HXM.out HK.out.size (.inl (gZ HB4.out)) HLX.out⟩
    case measure=>simp[intOf];omega
   |true =>
    have HADD:Hid (L (k+1)=aJ9 (L k) nq):=by show _=_;rw[HSTEP.out,HIQ.out,hin];simp
    clear HSTEP HIQ;generalize L k=lk at *;rcases aQu lk with rfl|⟨l',p,rfl⟩
    ·have HNEXT:Hid (L (k+1)=[nq]):=HADD.out;have HJ0:Hid (J [] wr):=HJ.out;have HQ1:Hid (aP wr w1.heap.size Z3 46):=HQ.out;clear HADD HJ HQ;simp only[List.isEmpty_nil,Bool.not_true];gi_wp2_with (first|(refine uP (by rfl) 59 _ rfl b (off+k*21) rfl fc _ HC.out underlying59 rfl HSZ.out ?_)|(refine bQ (by rfl) 59 _ _ rfl wr.heap.size rfl fc rfl HNEW.out HSZ.out HS21.out HONE.out ?_;intro w4 kx bx _ _ _;have hb4:=HBa.out.trans (bx _ (Nl _));have KX4:=Hd kx;have HB4:=Hd hb4;have k2:=(HS.out _ (HK.out.trans (aRw HXM.out HK.out.size hb4))).ki.cell 0;have x3:=(kx.cell 3).trans HXC.out.1;have x4:=(kx.cell 4).trans HXC.out.2.1;have x5:=(kx.cell 5).trans HXC.out.2.2.1;have x12:=(kx.cell 12).trans HXC.out.2.2.2.1;have x13:=(kx.cell 13).trans HXC.out.2.2.2.2;clear kx bx hb4));refine⟨fun f h=>(by cases h),?_⟩;have HQ4:=Hd (HQ1.out.below HB4.out);gi_wp2_with (first|(refine bQ (by rfl) 46 _ _ rfl w1.heap.size rfl #[.int .i64 xd,.string ⟨pn.toArray⟩,.string ⟨pd.toArray⟩] rfl HQ4.out.2 (HSQ.out ⟨xd,⟨pn,pd⟩⟩) rfl (HONE3.out ⟨xd,⟨pn,pd⟩⟩) ?_;intro w6 kq _ _ _ gq;have KQ6:=Hd kq;have GQ6:=Hd gq;clear kq gq));have hj6:=HJM.out _ _ _ (HJM.out _ _ _ HJ0.out (.inl (gZ HB4.out))) (.inr GQ6.out);have hk4:=HK.out.trans (aRw HXM.out HK.out.size HB4.out);have hk6:aR1 N (XR X w1.heap.size) w1 w6:=hk4.trans (aU2 HXM.out hk4.size GQ6.out);have HLX6:=Hd (aS0 HXM.out hk4.size (.inr GQ6.out) (aS0 HXM.out HK.out.size (.inl (gZ HB4.out)) HLX.out));have HJ6:=Hd hj6;have HK6:=Hd hk6;clear hj6 hk6 hk4;go_roundw
     case rel=>exact⟨k+1,by omega,by go_num,by rw[HNEXT.out];simp,by show J _ _;rw[HNEXT.out];skip;exact HJ6.out,by show aP _ _ _ _;rw[HNEXT.out];rw[show aPs [nq]=aOx nq from rfl,HNQ.out.1];exact KQ6.out,HK6,HLX6⟩
     case measure=>simp[intOf];omega
    ·rw[show (!(l' ++ [p]).isEmpty)=true by simp];have hj':=HJ.out;rw[List.dropLast_concat] at hj';have HJ1:=Hd hj';have hq':=HQ.out;rw[aP1] at hq';have HQ1:=Hd hq';have HLL:Hid (l'.length<xs.length+1):=by have:=HLK.out;rw[List.length_append] at this;show _<_;simp at this;omega
     clear hj' hq' HJ HQ HLK
     by_cases hd:p.day=xd
     ·have HNEXT:Hid (L (k+1)=l' ++ [nq]):=by show _=_;rw[HADD.out,aKl (by rw[HNQ.out.2];exact hd)]
      clear HADD;obtain⟨pq,hpq⟩:∃pq,pq=p.day:=⟨_,rfl⟩
      have HQ0c:Hid ((aOx p)[0]?=some (.int .i64 xd)):=by show _=_;rw[<-hd];rfl
      clear hpq hd;gi_wp2_with (first|(refine uP (by rfl) 59 _ rfl b (off+k*21) rfl fc _ HC.out underlying59 rfl HSZ.out ?_)|(refine bQ (by rfl) 59 _ _ rfl wr.heap.size rfl fc rfl HNEW.out HSZ.out HS21.out HONE.out ?_;intro w4 kx bx _ _ _;have hb4:=HBa.out.trans (bx _ (Nl _));have KX4:=Hd kx;have HB4:=Hd hb4;have q0:=((HQ1.out.below hb4).cell 0).trans HQ0c.out;have k2:=(HS.out _ (HK.out.trans (aRw HXM.out HK.out.size hb4))).ki.cell 0;have x3:=(kx.cell 3).trans HXC.out.1;have x4:=(kx.cell 4).trans HXC.out.2.1;have x5:=(kx.cell 5).trans HXC.out.2.2.1;have x12:=(kx.cell 12).trans HXC.out.2.2.2.1;have x13:=(kx.cell 13).trans HXC.out.2.2.2.2;clear kx bx hb4));refine⟨fun f h=>(by cases h),?_⟩;have HQ4:=Hd (HQ1.out.below HB4.out);gi_wp2_with (first|(refine bQ (by rfl) 46 _ _ rfl w1.heap.size rfl #[.int .i64 xd,.string ⟨pn.toArray⟩,.string ⟨pd.toArray⟩] rfl HQ4.out.2 (HSQ.out ⟨xd,⟨pn,pd⟩⟩) rfl (HONE3.out ⟨xd,⟨pn,pd⟩⟩) ?_;intro w6 kq _ _ _ gq;have KQ6:=Hd kq;have GQ6:=Hd gq;clear kq gq));have hj6:=HJM.out _ _ _ (HJM.out _ _ _ HJ1.out (.inl (gZ HB4.out))) (.inr GQ6.out);have hk4:=HK.out.trans (aRw HXM.out HK.out.size HB4.out);have hk6:aR1 N (XR X w1.heap.size) w1 w6:=hk4.trans (aU2 HXM.out hk4.size GQ6.out);have HLX6:=Hd (aS0 HXM.out hk4.size (.inr GQ6.out) (aS0 HXM.out HK.out.size (.inl (gZ HB4.out)) HLX.out));have HJ6:=Hd hj6;have HK6:=Hd hk6;clear hj6 hk6 hk4;go_roundw
      case rel=>exact⟨k+1,by omega,by go_num,by rw[HNEXT.out];simp,by show J _ _;rw[HNEXT.out];rw[List.dropLast_concat];exact HJ6.out,by show aP _ _ _ _;rw[HNEXT.out];rw[aP1,HNQ.out.1];exact KQ6.out,HK6,HLX6⟩
      case measure=>simp[intOf];omega
     ·have HNEXT:Hid (L (k+1)=(l' ++ [p]) ++ [nq]):=by show _=_;rw[HADD.out,aKm (by rw[HNQ.out.2];exact hd)]
      clear HADD;have HQ0c:Hid ((aOx p)[0]?=some (.int .i64 p.day)):=rfl;have hd':(p.day==xd)=false:=by simpa using hd
      have hd2:(p.day != xd)=true:=by simpa using hd
      generalize p.day=pq at *;gi_wp2_with (first|(refine uP (by rfl) 59 _ rfl b (off+k*21) rfl fc _ HC.out underlying59 rfl HSZ.out ?_)|(refine bQ (by rfl) 59 _ _ rfl wr.heap.size rfl fc rfl HNEW.out HSZ.out HS21.out HONE.out ?_;intro w4 kx bx _ _ _;have hb4:=HBa.out.trans (bx _ (Nl _));have KX4:=Hd kx;have HB4:=Hd hb4;have q0:=((HQ1.out.below hb4).cell 0).trans HQ0c.out;have k2:=(HS.out _ (HK.out.trans (aRw HXM.out HK.out.size hb4))).ki.cell 0;have x3:=(kx.cell 3).trans HXC.out.1;have x4:=(kx.cell 4).trans HXC.out.2.1;have x5:=(kx.cell 5).trans HXC.out.2.2.1;have x12:=(kx.cell 12).trans HXC.out.2.2.2.1;have x13:=(kx.cell 13).trans HXC.out.2.2.2.2;obtain⟨fn,tmps,assign,body,hy,hRd⟩:=HY.out l' p w4 (HJM.out _ _ _ HJ1.out (.inl (gZ hb4))) HLL.out (HGK.out p (by simp));rw[show aSy p=#[.agg (aOx p)] from rfl] at hy;have HRD:=Hd hRd;clear kx bx hb4 hRd)|(refine eP (by rfl) 46 _ rfl w1.heap.size rfl (aOx p) _ (HQ1.out.below HB4.out) underlying46 rfl (HSQ.out p) ?_));refine⟨fun h=>absurd h (by decide),HRD.out.mono ?_⟩;rintro e W3 ⟨rfl,hJ3,hk3⟩;have HJ3:=Hd hJ3;have HK3:=Hd hk3;have HB4s:Hid (w1.heap.size<=wr.heap.size):=HK.out.size;have hl4:=aS0 HXM.out HB4s.out (.inl (gZ HB4.out)) HLX.out;have HLX3:Hid (aUg X w1.heap.size W3):=aU9 hl4 hk3 (Nat.lt_of_lt_of_le HQ1.out.1 HB4.out.size);have kx3:=hk3.1.box (fun h=>absurd (HLX.out.1 _ (HXM.out _ _ HB4s.out (.inl (gZ HB4.out)) _ h)) (Nat.lt_irrefl _)) KX4.out;have x3:=(kx3.cell 3).trans HXC.out.1;have x12:=(kx3.cell 12).trans HXC.out.2.2.2.1;have x13:=(kx3.cell 13).trans HXC.out.2.2.2.2;have HQ3:=Hd (hk3.1.box hl4.2 (HQ1.out.below HB4.out));clear hJ3 hk3 kx3 hl4 hy HRD q0 k2 x4 x5 k1;gi_wp2_with (first|(refine bQ (by rfl) 46 _ _ rfl w1.heap.size rfl #[.int .i64 xd,.string ⟨pn.toArray⟩,.string ⟨pd.toArray⟩] rfl HQ3.out.2 (HSQ.out ⟨xd,⟨pn,pd⟩⟩) rfl (HONE3.out ⟨xd,⟨pn,pd⟩⟩) ?_;intro w6 kq _ _ _ gq;have KQ6:=Hd kq;have GQ6:=Hd gq;clear kq gq));have hj6:=HJM.out _ _ _ (HJ3.out) (.inr GQ6.out);have hk4:=(HK.out.trans (aRw HXM.out HK.out.size HB4.out)).trans (aVb HK3.out.1);have hk6:aR1 N (XR X w1.heap.size) w1 w6:=hk4.trans (aU2 HXM.out hk4.size GQ6.out);have HLX6:=Hd (aS0 HXM.out hk4.size (.inr GQ6.out) HLX3.out);have HJ6:=Hd hj6;have HK6:=Hd hk6;clear hj6 hk6 hk4;go_roundw
      case rel=>exact⟨k+1,by omega,by go_num,by rw[HNEXT.out];simp,by show J _ _;rw[HNEXT.out];rw[List.dropLast_concat];exact HJ6.out,by show aP _ _ _ _;rw[HNEXT.out];rw[aP1,HNQ.out.1];exact KQ6.out,HK6,HLX6⟩
      case measure=>simp[intOf];omega
  ·obtain rfl:k=xs.length:=by omega
   have k1:=HW.out.kl.cell 0;have HLE':=HLE;generalize L xs.length=lk at *;rcases aQu lk with rfl|⟨l',p,rfl⟩
   ·have HJ0:Hid (J [] wr):=HJ.out;simp only[List.isEmpty_nil,Bool.not_true];clear HJ HQ;gi_wp2;go_end0;exact⟨⟨_,rfl⟩,[],HLE'.out,HJ0.out⟩
   ·rw[show (!(l' ++ [p]).isEmpty)=true by simp];have hj':=HJ.out;rw[List.dropLast_concat] at hj';have hq':=HQ.out;rw[aP1] at hq';have HQ1:=Hd hq';have HLL:l'.length<xs.length+1:=by have:=HLK.out;rw[List.length_append] at this;simp at this;omega
    obtain⟨fn,tmps,assign,body,hy,hRd⟩:=HY.out l' p wr hj' HLL (HGK.out p (by simp));rw[show aSy p=#[.agg (aOx p)] from rfl] at hy;have HRD:=Hd hRd;clear hj' hq' hRd HLL HLK HJ HQ;gi_wp2_with (first|(refine eP (by rfl) 46 _ rfl w1.heap.size rfl (aOx p) _ HQ1.out underlying46 rfl (HSQ.out p) ?_));refine⟨fun h=>absurd h (by decide),HRD.out.mono ?_⟩;rintro e W3 ⟨rfl,hJ3,hk3⟩;have HJ3:=Hd hJ3;clear hJ3 hk3 hy HRD;gi_wp2;go_end0;exact⟨⟨_,rfl⟩,_,HLE'.out,HJ3.out⟩
theorem aRu(n:Nat)(xs:List aF)(a:Option Addr)(c bl bi:Nat)(ins:List UInt8)(N:Nat)(P:Nat->Prop)(w1:World)(hn:xs.length<=1000000)(hP:∀k,w1.heap.size<=k->P k)(hS:∀W,aPg N (fun k=>P k/\k<w1.heap.size) w1 W->aRa W xs a c bl bi ins):
  aTa n prog 118 #[.pointer (some ⟨bl,0,none⟩),.pointer (some ⟨bi,0,none⟩)] aSy (aPg N P) (fun ys=>ys=ser ins (xs.map aF.f)) (xs.length+1) w1:=by
 have hc:∀A B,aPg N P A B->KpX N (fun _ k=>¬ P k) A B:=fun A B h=>⟨⟨h.os,h.tape,h.output,h.size,fun k o hk ho hn=>h.block k o (Classical.not_not.1 hk) ho hn,fun k hx=>.inl hx⟩,fun hl k hx=>Nat.lt_of_lt_of_le (hl k hx) h.size⟩
 have hq:=aT9 n xs a c bl bi ins N (fun _ k=>¬ P k) w1 hn (fun _ _ _ _ _ hx=>hx) ⟨fun k hx=>Nat.lt_of_not_le fun h=>hx (hP k h),fun hx=>hx (hP _ (Nl _))⟩ (fun W hW=>hS W ⟨hW.os,hW.tape,hW.output,hW.size,fun k o hk ho hn=>hW.block k o (fun hx=>by
  rcases hx with hx|hx
  ·exact hx hk.1
  ·exact absurd hk.2 (Nat.not_lt.2 hx)) ho hn⟩)
 intro l J hJ hY h0;refine hq l J hJ (fun pre x W hj hl _=>?_) h0;obtain⟨fn,tmps,assign,body,hy,hRd⟩:=hY pre x W hj hl;exact⟨fn,tmps,assign,body,hy,hRd.mono fun e W' h=>⟨h.1,h.2.1,hc _ _ h.2.2⟩⟩
end
section
open Go Go.RowKit Go.Shelf Num
def aPv(d:Int)(l:List aJv):List aJv:=l.filter (aKf d)
theorem aSr{d:Int}{x:aJv}(pre:List aJv)(h:aKf d x=true):aPv d (pre ++ [x])=aPv d pre ++ [x]:=by unfold aPv;rw[List.filter_append];simp[h]
theorem aS2{d:Int}{x:aJv}(pre:List aJv)(h:aKf d x=false):aPv d (pre ++ [x])=aPv d pre:=by unfold aPv;rw[List.filter_append];simp[h]
theorem aQd(l:List aJv):(aPs l).size=3:=by
 unfold aPs;split <;> rfl
theorem aSe(l:List aJv):(aPs l).all (·.oneCell')=true:=by
 unfold aPs;split
 ·simp[aOx,Value.oneCell']
 ·simp[Z3,Value.oneCell']
theorem aR0(q:aJv)(d:Int)(bd:Nat)(w:World)(hb:aP w bd #[.int .i64 d] 23):
  Calls prog 88 #[.agg (aOx q),.pointer (some ⟨bd,0,none⟩)] w fun e w'=>e=.returned (.bool (aKf d q))/\Below w.heap.size w w':=by
 have KX:=aP.new0 w (aOx q) 46;have x0:=(KX.cell 0).trans (show _=some (.int .i64 q.day) from rfl);have cd:=(hb.below (aB w (.cells (aOx q) 46))).cell 0;have HB0:=Hd (aB w (.cells (aOx q) 46));have HR:Hid (aKf d q=decide (q.day<=d)):=rfl;clear KX hb;generalize aKf d q=res at *;generalize aOx q=qa at *;generalize q.day=qd at *
 by_cases h1:qd<=d
 ·have HV:Hid (res=true):=by show _=_;rw[HR.out];simp[h1]
  clear HR;go_enter func88,ntmps88;go_wp2;go_ret;exact⟨by rw[HV.out];rfl,HB0.out⟩
 ·have HV:Hid (res=false):=by show _=_;rw[HR.out];simp[h1]
  clear HR;go_enter func88,ntmps88;go_wp2;go_ret;exact⟨by rw[HV.out];rfl,HB0.out⟩
noncomputable def aTl:Array Oper:=(f87.body.bind (jE 7)).getD #[]
def aTd:List (Nat×Nat):=[(0,15),(1,16),(3,5)]
structure QlC where
 W0:World
 b4:Nat
 b6:Nat
 b7:Nat
 arr:Array Value
 bb:Bool
def QlC.val(C:QlC)(_:Unit):Nat->Value
 |0=>.agg C.arr
 |_=>.bool C.bb
def QlC.g(C:QlC)(_:Unit)(l:Array Bool)(W:World):Prop:=(¬ lP l 2/\W=C.W0)∨(lP l 2/\W=C.W0.setRow C.b4 C.arr)
structure QlM(C:QlC)(t0:Array Value):Prop where
 sz:t0.size=17
 t4:t0[4]?=some (.pointer (some ⟨C.b4,0,none⟩))
 t6:t0[6]?=some (.pointer (some ⟨C.b6,0,none⟩))
 t7:t0[7]?=some (.pointer (some ⟨C.b7,0,none⟩))
 k4:aP C.W0 C.b4 Z3 46
 k6:aP C.W0 C.b6 C.arr 46
 k7:aP C.W0 C.b7 #[.bool C.bb] 4
 n6:C.b6≠C.b4
 n7:C.b7≠C.b4
 asz:C.arr.size=3
 one:C.arr.all (·.oneCell')=true
section
variable {C:QlC}{t0:Array Value}{d0:List Deferred}{Q:Exit->Act->World->Prop}{l:Array Bool}{w:World}{n:Nat}
theorem QlC.keep{i:Nat}(hi:i≠2)(h:C.g () l w):C.g () (l.setIfInBounds i true) w:=by
 rcases h with⟨h,e⟩|⟨h,e⟩
 ·exact .inl ⟨fun h'=>h (mQ h' (Ne.symm hi)),e⟩
 ·exact .inr ⟨fH h,e⟩
theorem QlC.boxes(M:QlM C t0)(h:C.g () l w):aP w C.b6 C.arr 46/\aP w C.b7 #[.bool C.bb] 4:=by
 rcases h with⟨_,rfl⟩|⟨_,rfl⟩
 ·exact⟨M.k6,M.k7⟩
 ·exact⟨pM M.k6 M.n6,pM M.k7 M.n7⟩
theorem aRl(M:QlM C t0){a:Act}(hdf:a.defers=d0)(ht:a.tmps=t0)(hw:w.drewN 1=C.W0)
  (hQ:Q .normal { tmps:=iZ (C.val ()) aTd t0,defers:=d0 } (C.W0.setRow C.b4 C.arr)):(Code.region 7 aTl true).wpIn Fence.wide n prog Q a w:=by
 have hsz:aTl.size=4:=by kernel_rfl
 refine Bq (ds:=aTd) (val:=C.val) (G:=C.g) (by kernel_rfl) (by kernel_rfl) (by decide) (fun p hp=>?_) (by kernel_rfl) ?_ (γ:=()) hdf ht (.inl ⟨Gu _ _,hw⟩) ?_
 ·rw[M.sz];have:∀p,p∈aTd->p.2<17:=by decide
  exact this p hp
 ·intro γ l a w i H hr;cases γ;have hi:i<4:=by
   obtain⟨_,o,ho,_⟩:=mem_ready.1 hr;have:=(Ai.1 ho).1;rw[hsz] at this;exact this
  have t4:=H.low (s:=4) (by decide) M.t4;have t6:=H.low (s:=6) (by decide) M.t6;have t7:=H.low (s:=7) (by decide) M.t7;have hbx:=QlC.boxes M H.g
  match i,hi,hr with
  |0,_,hr=>exact sQ (X:=.load 46 (.tmp 6)) (by kernel_rfl) (fun o h=>aW h (oC t6) (gR hbx.1) underlying46 rfl (by rw[M.asz];exact aPm)) (fun _ _=>rfl) (QlC.keep (by decide) H.g)
  |1,_,hr =>
   have hc:=hbx.2.cell 0;exact sQ (X:=.load 4 (.tmp 7)) (v:=.bool C.bb) (by kernel_rfl) (fun o h=>by simp[execOp,h,t7,hc,go_sem]) (fun _ _=>rfl) (QlC.keep (by decide) H.g)
  |2,_,hr =>
   have v0:a.tmps[15]?=some (.agg C.arr):=H.dep hr 0 15;have hw:w=C.W0:=by
    rcases H.g with⟨_,e⟩|⟨h,_⟩
    ·exact e
    ·exact absurd h (aX6 (mem_ready.1 hr).1)
   subst hw;exact Ia (X:=.store 46 (.tmp 4) (.tmp 15)) (by kernel_rfl) (fun o h=>Bi h (oC t4) (oC v0) M.k4 (by rw[M.asz];exact aPm) (by rw[M.asz];rfl) M.one) (.inr ⟨zE (by rw[H.sz,hsz];decide),rfl⟩)
  |3,_,hr =>
   have v0:a.tmps[16]?=some (.bool C.bb):=H.dep hr 1 16;exact sQ (X:=.assign (.tmp 16)) (v:=.bool C.bb) (by kernel_rfl) (fun o h=>by simp[execOp,h,v0,go_sem]) (fun _ _=>rfl) (QlC.keep (by decide) H.g)
  |n+4,h,_=>exact absurd h (by omega)
 ·rintro⟨⟩ l W hall hg;rcases hg with⟨h,_⟩|⟨_,rfl⟩
  ·exact absurd (hall 2 (by rw[hsz];decide)) h
  ·exact hQ
end
attribute [local go_sem] Oper.semAt_some
theorem aSt(xs:List aF)(a:Option Addr)(c bl bi bd:Nat)(ins:List UInt8)(d:Int)(w:World)(hn:xs.length<=1000000)(hq:aRa w xs a c bl bi ins)(hd:aP w bd #[.int .i64 d] 23):
  Calls prog 87 #[.func (.func 118) #[] #[.pointer (some ⟨bl,0,none⟩),.pointer (some ⟨bi,0,none⟩)],.func (.func 88) #[] #[.pointer (some ⟨bd,0,none⟩)]] w fun e w'=>e=.returned (.tuple #[.agg (aPs (aPv d (ser ins (xs.map aF.f)))),.bool (!(aPv d (ser ins (xs.map aF.f))).isEmpty)])/\Below w.heap.size w w':=by
 have HQ:=Hd hq;have HD:=Hd hd;have HL1:Hid (∀(q:aJv) W,Below w.heap.size w W->Calls prog 88 #[.agg (aOx q),.pointer (some ⟨bd,0,none⟩)] W fun e w'=>e=.returned (.bool (aKf d q))/\Below W.heap.size W w'):=fun q W hb=>aR0 q d bd W (hd.below hb)
 clear hq hd;have HFS:=Hd (rfl:ser ins (xs.map aF.f)=ser ins (xs.map aF.f));refine(callsIn_wide (n:=6)).1 ?_;refine callsIn_of_wp_marks func87 rfl trivial ?_ rfl;simp only[ntmps87,List.size_toArray,List.length_cons,List.length_nil,Nat.reduceAdd,Nat.reduceSub,Array.replicate_succ,Array.replicate_zero,List.push_toArray,List.append_toArray,List.nil_append,List.cons_append];obtain⟨w3,hw3⟩:∃w3,w3=(((w.alloc (.cells #[.func (.func 88) #[] #[.pointer (some ⟨bd,0,none⟩)]] 127)).alloc (.cells #[.int .i64 0,.string ⟨#[]⟩,.string ⟨#[]⟩] 46)).alloc (.cells #[.int .i64 0,.string ⟨#[]⟩,.string ⟨#[]⟩] 46)).alloc (.cells #[.bool false] 4):=⟨_,rfl⟩
 have b1:=aB w (.cells #[.func (.func 88) #[] #[.pointer (some ⟨bd,0,none⟩)]] 127);have b2:=aB (w.alloc (.cells #[.func (.func 88) #[] #[.pointer (some ⟨bd,0,none⟩)]] 127)) (.cells Z3 46);have b3:=aB ((w.alloc (.cells #[.func (.func 88) #[] #[.pointer (some ⟨bd,0,none⟩)]] 127)).alloc (.cells Z3 46)) (.cells Z3 46);have b4:=aB (((w.alloc (.cells #[.func (.func 88) #[] #[.pointer (some ⟨bd,0,none⟩)]] 127)).alloc (.cells Z3 46)).alloc (.cells Z3 46)) (.cells #[.bool false] 4);have KF:aP w3 w.heap.size #[.func (.func 88) #[] #[.pointer (some ⟨bd,0,none⟩)]] 127:=by rw[hw3];exact(((aP.new0 w _ _).below b2).below b3).below b4
 have KR:aP w3 (w.heap.size+1) Z3 46:=by
  have h:=((aP.new0 (w.alloc (.cells #[.func (.func 88) #[] #[.pointer (some ⟨bd,0,none⟩)]] 127)) Z3 46).below b3).below b4;rw[World.size_alloc] at h;rw[hw3];exact h
 have KO:aP w3 (w.heap.size+1+1) Z3 46:=by
  have h:=(aP.new0 ((w.alloc (.cells #[.func (.func 88) #[] #[.pointer (some ⟨bd,0,none⟩)]] 127)).alloc (.cells Z3 46)) Z3 46).below b4;rw[World.size_alloc,World.size_alloc] at h;rw[hw3];exact h
 have KB:aP w3 (w.heap.size+1+1+1) #[.bool false] 4:=by
  have h:=aP.new0 (((w.alloc (.cells #[.func (.func 88) #[] #[.pointer (some ⟨bd,0,none⟩)]] 127)).alloc (.cells Z3 46)).alloc (.cells Z3 46)) #[.bool false] 4;rw[World.size_alloc,World.size_alloc,World.size_alloc] at h;rw[hw3];exact h
 have HB3:Hid (Below w.heap.size w w3):=by show Below _ _ _;rw[hw3];exact aA (aA (aA b1 b2) b3) b4
 have S3:Hid (w3.heap.size=w.heap.size+1+1+1+1):=by show _=_;rw[hw3];simp only[World.size_alloc]
 have KF:=Hd KF;have KR:=Hd KR;have KO:=Hd KO;have KB:=Hd KB;clear b1 b2 b3 b4;gi_wp2_with fail;rw[<-hw3];clear hw3;obtain⟨P,hP⟩:∃P:Nat->Prop,P=fun k=>k≠w.heap.size+1+1/\k≠w.heap.size+1+1+1:=⟨_,rfl⟩
 have HPP:Hid (∀k,P k↔k≠w.heap.size+1+1/\k≠w.heap.size+1+1+1):=fun k=>by rw[hP]
 clear hP;have HSEQ:Hid (∀W1,Below w3.heap.size w3 W1->W1.heap.size=w3.heap.size+2->aTa 5 prog 118 #[.pointer (some ⟨bl,0,none⟩),.pointer (some ⟨bi,0,none⟩)] aSy (aPg w3.heap.size P) (fun ys=>ys=ser ins (xs.map aF.f)) (xs.length+1) W1):=fun W1 hb1 hs1=>aRu 5 xs a c bl bi ins w3.heap.size P W1 hn (fun k hk=>(HPP.out k).2 ⟨by have:=S3.out;omega,by have:=S3.out;omega⟩) (fun W hW=>by
  have s3:=S3.out;have hwW:Below w.heap.size w W:=(HB3.out.trans (hb1.mono (by omega))).trans (hW.below (by omega) (fun k hk=>⟨⟨(HPP.out k).2 ⟨by omega,by omega⟩,by omega⟩,by omega⟩));exact⟨HQ.out.facts.below hwW,HQ.out.kl.below hwW,HQ.out.ki.below hwW⟩)
 refine aR6 (n:=6) (gf:=118) (lb:=#[.pointer (some ⟨bl,0,none⟩),.pointer (some ⟨bi,0,none⟩)]) rfl (aXb func118) (encs:=aSy) (Kp:=aPg w3.heap.size P) (S:=fun ys=>ys=ser ins (xs.map aF.f)) (N:=xs.length+1) (fun h g=>h.trans g) (fun W l o o' hl ho hc=>aPg.putObj W l o o' hl ho hc) (fun _=>rfl) HSEQ.out
  (fun pre W=>(aP W (w.heap.size+1+1) (aPs (aPv d pre)) 46/\aP W (w.heap.size+1+1+1) #[.bool (!(aPv d pre).isEmpty)] 4/\aP W (w.heap.size+1) Z3 46/\aP W w.heap.size #[.func (.func 88) #[] #[.pointer (some ⟨bd,0,none⟩)]] 127)/\(Below w.heap.size w W/\w3.heap.size<=W.heap.size))
  (OwnFrom.and (Own.from (fun s A B row hs hg hr=>⟨nP _ _ (fun pre:List aJv=>aPs (aPv d pre)) s A B row hs.1 hg hr,nP _ _ (fun pre:List aJv=>#[.bool (!(aPv d pre).isEmpty)]) s A B row hs.2.1 hg hr,nP _ _ (fun _=>Z3) s A B row hs.2.2.1 hg hr,nP _ _ (fun _=>#[.func (.func 88) #[] #[.pointer (some ⟨bd,0,none⟩)]]) s A B row hs.2.2.2 hg hr⟩) _) (OwnFrom.and (ownFrom_below (Nl _) (by have:=S3.out;omega)) (fun _ A B row hs hg _=>Nat.le_trans hs hg.size)))
  (fun pre A B h hm=>by
   have s3:=S3.out;obtain⟨⟨k6,k7,k4,k3⟩,hB,hsz⟩:=h;exact⟨⟨aQf k6 hm (by omega),aQf k7 hm (by omega),aQf k4 hm (by omega),aQf k3 hm (by omega)⟩,aRz hB (by omega) hm (by omega),Nat.le_trans hsz (aSa hm)⟩)
  ⟨⟨KO.out,KB.out,KR.out,KF.out⟩,HB3.out,Nl _⟩
  (fun x a' W=>∃Bx,w3.heap.size<=Bx/\aP W Bx (aOx x) 46/\a' = { tmps:=#[.func (.func 118) #[] #[.pointer (some ⟨bl,0,none⟩),.pointer (some ⟨bi,0,none⟩)],.func (.func 88) #[] #[.pointer (some ⟨bd,0,none⟩)],undef,.pointer (some ⟨w.heap.size,0,none⟩),.pointer (some ⟨w.heap.size+1,0,none⟩),.bool false,.pointer (some ⟨w.heap.size+1+1,0,none⟩),.pointer (some ⟨w.heap.size+1+1+1,0,none⟩),.pointer (some ⟨Bx,0,none⟩),.func (.func 118) #[] #[.pointer (some ⟨bl,0,none⟩),.pointer (some ⟨bi,0,none⟩)],.agg (aOx x),undef,undef,undef,undef,undef,undef],defers:=[] })
  (fun x a' _ A B row hs hg hr=>by obtain⟨Bx,h1,h2,h3⟩:=hs;exact⟨Bx,h1,nP Bx _ (fun (_:Unit)=>aOx x) () A B row h2 hg (fun r e=>(hr r e).2),h3⟩)
  ?assign ?body ?done
 case assign =>
  rintro l pre x W K ⟨⟨k6,k7,k4,k3⟩,hB,hsz⟩ hK;have HN:=Hd (heap_alloc_new W (.cells #[.int .i64 0,.string ⟨#[]⟩,.string ⟨#[]⟩] 46));have HBA:=Hd (aB W (.cells #[.int .i64 0,.string ⟨#[]⟩,.string ⟨#[]⟩] 46));have HKA:=Hd (KeepsOthers.alloc W (.cells #[.int .i64 0,.string ⟨#[]⟩,.string ⟨#[]⟩] 46));have K6:=Hd k6;have K7:=Hd k7;have K4:=Hd k4;have K3:=Hd k3;have HB:=Hd hB;have HSX:Hid ((prog.info? 46).map (·.size)=some (aOx x).size):=aPm;have HONE:Hid ((aOx x).all (·.oneCell')=true):=by show _=_;simp[aOx,Value.oneCell']
  have HS3:Hid ((#[.int .i64 0,.string ⟨#[]⟩,.string ⟨#[]⟩]:Array Value).size=(aOx x).size):=rfl;have HKK:=Hd hK;unfold aSy;clear k6 k7 k4 k3 hB hK;gi_wp2_with (refine bQ (by rfl) 46 _ _ rfl W.heap.size rfl (aOx x) rfl HN.out HSX.out HS3.out HONE.out ?_;intro w4 kx bx ko Rt _);have hb4:=HBA.out.trans (bx _ (Nl _));exact HKK.out _ _ ((HKA.out.trans ko).from _) (aPg.of_below hb4) ⟨⟨K6.out.below hb4,K7.out.below hb4,K4.out.below hb4,K3.out.below hb4⟩,aA HB.out hb4,Nat.le_trans hsz hb4.size⟩ ⟨W.heap.size,hsz,kx,rfl⟩
 case body =>
  rintro l pre x a' W ⟨⟨k6,k7,k4,k3⟩,hB,hsz⟩ ⟨Bx,hBx,kX,rfl⟩ hlt;have K6:=Hd k6;have K7:=Hd k7;have K4:=Hd k4;have K3:=Hd k3;have KX:=Hd kX;have HB:=Hd hB;have c3:=k3.cell 0;have HSX:Hid ((prog.info? 46).map (·.size)=some (aOx x).size):=aPm;have HONE:Hid ((aOx x).all (·.oneCell')=true):=by show _=_;simp[aOx,Value.oneCell']
  have HOS:Hid ((aPs (aPv d pre)).size=(aOx x).size):=aQd _;have HC1:=Hd (HL1.out x W hB);clear k6 k7 k4 k3 kX hB;gi_wp2_with (refine eP (by rfl) 46 _ rfl Bx rfl (aOx x) _ KX.out underlying46 rfl HSX.out ?_);refine⟨trivial,(CallsIn.inRound l (callsIn_wide.2 HC1.out)).mono ?_⟩;rintro e W5 ⟨rfl,hb5⟩;have K6:=Hd (K6.out.below hb5);have K7:=Hd (K7.out.below hb5);have K4:=Hd (K4.out.below hb5);have K3:=Hd (K3.out.below hb5);have KX:=Hd (KX.out.below hb5);have HB5:=Hd hb5;have HSZ5:Hid (w3.heap.size<=W5.heap.size):=Nat.le_trans hsz hb5.size;clear hb5 c3 HC1;cases hu:aKf d x with
  |false =>
   have HSN2:Hid (aPv d (pre ++ [x])=aPv d pre):=aS2 pre hu;clear hu;gi_wp2_with fail;exact⟨(zN HB5.out).from _,aPg.of_below HB5.out,⟨by rw[HSN2.out];exact K6.out,by rw[HSN2.out];exact K7.out,K4.out,K3.out⟩,aA HB.out HB5.out,HSZ5.out⟩
  |true =>
   have HSN2:Hid (aPv d (pre ++ [x])=aPv d pre ++ [x]):=aSr pre hu;clear hu;have hs3:=S3.out;have n1:w.heap.size+1+1+1≠w.heap.size+1+1:=by omega
   have n2:w.heap.size+1≠w.heap.size+1+1:=by omega
   have n3:w.heap.size≠w.heap.size+1+1:=by omega
   have n4:w.heap.size+1+1≠w.heap.size+1+1+1:=by omega
   have n5:w.heap.size+1≠w.heap.size+1+1+1:=by omega
   have n6:w.heap.size≠w.heap.size+1+1+1:=by omega
   clear hs3;gi_wp2_with (first|(refine eP (by rfl) 46 _ rfl Bx rfl (aOx x) _ KX.out underlying46 rfl HSX.out ?_)|(refine bQ (by rfl) 46 _ _ rfl (w.heap.size+1+1) rfl (aOx x) rfl K6.out.2 HSX.out HOS.out HONE.out ?_;intro w4 kx bx ko Rt gr;have HKX4:=Hd kx;have HBX4:=Hd bx;have HKO4:=Hd ko;have HKOT:=Hd Rt;have HGR:=Hd gr;have c7:=(Rt _ _ _ n1 K7.out).cell 0;have f7:=Boxed.frozen (aP.boxed (Rt _ _ _ n1 K7.out));clear kx bx ko Rt gr));have hs3:=S3.out;have hP2:¬ P (w.heap.size+1+1):=fun hp=>((HPP.out _).1 hp).1 rfl
   have hP3:¬ P (w.heap.size+1+1+1):=fun hp=>((HPP.out _).1 hp).2 rfl
   have hk4:aPg w3.heap.size P W5 w4:=aPg.of_grown HGR.out hP2;have hk5:aPg w3.heap.size P w4 (w4.setCell ⟨w.heap.size+1+1+1,0,none⟩ (.bool true)):=aPg.of_grown (grownBy_setCell' w4 _ _) hP3;have hb4:Below w.heap.size W5 w4:=HBX4.out _ (by omega);have hb5:=hb4.setCell (p:=⟨w.heap.size+1+1+1,0,none⟩) (by simp;omega) (.bool true);exact⟨(((zN HB5.out).trans HKO4.out).trans (KeepsOthers.setCell _ _ _)).from _,((aPg.of_below HB5.out).trans hk4).trans hk5,⟨by rw[HSN2.out,aP1];exact xK HKX4.out n4,by have:=Boxed.box (Boxed.set (.bool true) (aP.boxed (HKOT.out _ _ _ n1 K7.out)));rw[HSN2.out,show (!(aPv d pre ++ [x]).isEmpty)=true by simp];exact this,xK (HKOT.out _ _ _ n2 K4.out) n5,xK (HKOT.out _ _ _ n3 K3.out) n6⟩,(aA HB.out HB5.out).trans hb5,Nat.le_trans HSZ5.out hk4.size⟩
 case done =>
  rintro D ys W hD rfl ⟨⟨k6,k7,k4,k3⟩,hB,hsz⟩ hK;have hs3:=S3.out;have hD1:D≠w.heap.size+1:=by omega
  have HK:=Hd hK;have HB:=Hd hB;have HHD:=Hd hD;obtain⟨ql,hql⟩:∃ql,ql=aPv d (ser ins (xs.map aF.f)):=⟨_,rfl⟩
  rw[<-hql] at k6 k7;have HQL:=Hd hql;clear hql;have M:QlM ⟨W.drewN 1,w.heap.size+1,w.heap.size+1+1,w.heap.size+1+1+1,aPs ql,!ql.isEmpty⟩ #[.func (.func 118) #[] #[.pointer (some ⟨bl,0,none⟩),.pointer (some ⟨bi,0,none⟩)],.func (.func 88) #[] #[.pointer (some ⟨bd,0,none⟩)],undef,.pointer (some ⟨w.heap.size,0,none⟩),.pointer (some ⟨w.heap.size+1,0,none⟩),.bool false,.pointer (some ⟨w.heap.size+1+1,0,none⟩),.pointer (some ⟨w.heap.size+1+1+1,0,none⟩),undef,.func (.func 118) #[] #[.pointer (some ⟨bl,0,none⟩),.pointer (some ⟨bi,0,none⟩)],undef,undef,undef,undef,undef,undef,undef]:=⟨rfl,rfl,rfl,rfl,k4,k6,k7,by show w.heap.size+1+1≠w.heap.size+1;omega,by show w.heap.size+1+1+1≠w.heap.size+1;omega,aQd _,aSe _⟩
  gi_wp2_with fail;refine aRl M rfl rfl rfl ?_;clear M;have HARR:=Hd (aQd ql);have k4':aP (W.drewN 1) (w.heap.size+1) Z3 46:=k4;have HK4:=Hd (Ip (cs':=aPs ql) k4');have HK5:Hid (((W.drewN 1).setRow (w.heap.size+1) (aPs ql)).heap[D]?=some (.deferred (some []))):=(setRow_other _ _ D _ hD1).trans hK;have HB5:Hid (Below w.heap.size w ((W.drewN 1).setRow (w.heap.size+1) (aPs ql))):=below_setRow (aD hB 1) (Nat.le_succ _) _;simp only[iZ,aTd,List.foldl,List.setIfInBounds_toArray,List.set_cons_zero,List.set_cons_succ,QlC.val];clear k6 k7 k4 k3 hB hK hD hsz hs3 k4';generalize(W.drewN 1).setRow (w.heap.size+1) (aPs ql)=W5 at *;gi_wp2;refine⟨by simp,.inl ⟨_,_,rfl,run_takeDeferred HK5.out,?_⟩⟩;have hh:=(World.putObj_heap_other (w:=W5) (o:=.deferred none) (Ne.symm hD1)).trans HK4.out.2;exact⟨_,fX rfl _ _ _ _ _ (0,0) _ rfl hh underlying46 rfl (by rw[HARR.out];exact aPm),by rw[<-HQL.out];rfl,HB5.out.trans (belowK_b (w:=w) (Nl _) W5 D _ _ (by have:=HHD.out;have:=S3.out;omega) HK5.out rfl rfl)⟩
end
section
open Go Go.RowKit Num
theorem aOw{P:Program}{ops:Array Oper}{rest:List Oper}{o:Oper}{a:Act}{w:World}{Q:Exit->Act->World->Prop}(hgd:o.guard=none)(ty:TypeId)(x y:Operand)(ho:o.op=.store ty x y)(g:Nat)(hx:a.eval x=.pointer (some ⟨g,0,none⟩))(cells:Array Value)(hy:a.eval y=.agg cells)
  {t:TypeId}{old:Array Value}(hg:aP w g old t) (hi:(P.info? ty).map (·.size)=some cells.size) (hold:old.size=cells.size) (h1:cells.all (·.oneCell')=true)
  (h:∀w',aP w' g cells t->(∀B,B<=g->Below B w w')->(∀b cs T,b≠g->aP w b cs T->aP w' b cs T)->w'.heap.size=w.heap.size->wpList P ops Q rest (a.put o.dst undef) w'):wpList P ops Q (o::rest) a w :=
 wpList_store_row hgd ty x y ho g cells hx hy t old hg.2 hi hold h1 (h _ ⟨by simp[World.setRow];exact hg.1,setRow_heap _ _ _ _ _ _ hg.2⟩ (fun B hB=>below_setRow (Br _ _) hB _) (fun b cs T hne hb=>pM hb hne) (by simp[World.setRow]))
theorem aP8{P:Program}{fn:Func}{p u v:Tmp}{ty:TypeId}(h:fn.results=#[.cell p ty,.tmp u,.tmp v])(tmps:Array Value)(w:World)(g:Nat)(t:TypeId)(cs:Array Value)(fr:Nat×Nat)(d:TypeDesc)
  (hp:tmps.getD p undef=.pointer (some ⟨g,0,none⟩)) (hg:w.heap[g]?=some (.cells cs t fr))
  (hu:P.underlying ty=some d) (hd:(match d with | .struct _ | .array _ _=>true|_=>false)=true) (hi:(P.info? ty).map (·.size)=some cs.size) :
  (results fn tmps).run P w=.ok (.tuple #[.agg cs,tmps.getD u undef,tmps.getD v undef]) w:=by
 have hp':tmps[p]?.getD undef=.pointer (some ⟨g,0,none⟩):=by simpa using hp
 simp[results,h,hp',asAddr,run_loadVar_row w g t ty cs fr d hg hu hd hi]
def QV(o:Option aJv):aJv:=o.getD ⟨0,⟨[],[]⟩⟩
def FV(o:Option bZ):bZ:=o.getD ⟨[],[]⟩
def aPf(f:bZ):Array Value:=#[.string ⟨f.n.toArray⟩,.string ⟨f.d.toArray⟩]
def Z2:Array Value:=#[.string ⟨#[]⟩,.string ⟨#[]⟩]
theorem aSz(l:List aJv):aPs l=aOx (QV l.getLast?):=by
 unfold aPs QV;cases l.getLast? <;> rfl
theorem aPw(q:aJv):(aOx q).all (·.oneCell')=true:=by simp[aOx,Value.oneCell']
theorem aP0(f:bZ):(aPf f).all (·.oneCell')=true:=by simp[aPf,Value.oneCell']
theorem aPp:(prog.info? 28).map (·.size)=some 2:=by kernel_rfl
theorem aQ1{w:World}{b:Nat}{cs:Array Value}{T:TypeId}(h:aP w b cs T):dT w (some ⟨b,0,none⟩) cs.toList :=
 .inr ⟨b,0,rfl,h.1,fun k u hu=>by rw[Nat.zero_add,h.cell k,<-Array.getElem?_toList];exact hu⟩
theorem aRn{α:Type}(l:List α):(!l.isEmpty)=l.getLast?.isSome:=by
 cases h:l.getLast? with
 |none=>rw[List.getLast?_eq_none_iff.1 h];rfl
 |some p=>obtain⟨l',rfl⟩:=List.getLast?_eq_some_iff.1 h;simp
theorem aQm(xs:List aF)(a:Option Addr)(c:Nat)(ins:List UInt8)(d:Int)(w:World)(hn:xs.length<=1000000)(hr:fS w a xs):
  Calls prog 50 #[.slice a xs.length c,.string ⟨ins.toArray⟩,.int .i64 d] w fun e w'=>e=.returned (.tuple #[.agg (aOx (QV (aJ0 (xs.map aF.f) ins d))),.bool (aJ0 (xs.map aF.f) ins d).isSome])/\Below w.heap.size w w':=by
 have HR:=Hd hr;have HQL:Hid (∀bl bi W,aRa W xs a c bl bi ins->aP W w.heap.size #[.int .i64 d] 23->Calls prog 87 #[.func (.func 118) #[] #[.pointer (some ⟨bl,0,none⟩),.pointer (some ⟨bi,0,none⟩)],.func (.func 88) #[] #[.pointer (some ⟨w.heap.size,0,none⟩)]] W fun e w'=>e=.returned (.tuple #[.agg (aOx (QV (aJ0 (xs.map aF.f) ins d))),.bool (aJ0 (xs.map aF.f) ins d).isSome])/\Below W.heap.size W w'):=fun bl bi W h1 h2=>by
  have h:=aSt xs a c bl bi w.heap.size ins d W hn h1 h2;rw[aSz,aRn] at h;exact h
 clear hr;generalize aJ0 (xs.map aF.f) ins d=o at *;have HB0:=Hd (((Br w.heap.size w).alloc (Nl _) (.cells #[.int .i64 d] 23)).alloc (by simp) (.cells Z3 46));have KD:=Hd ((aP.new0 w #[.int .i64 d] 23).below (aB _ (.cells Z3 46)));have kr:=aP.new0 (w.alloc (.cells #[.int .i64 d] 23)) Z3 46;rw[World.size_alloc] at kr;have KR:=Hd kr;have HSQ:Hid ((prog.info? 46).map (·.size)=some (aOx (QV o)).size):=aPm;have HONE:=Hd (aPw (QV o));have HS3:Hid (Z3.size=(aOx (QV o)).size):=rfl;clear kr;go_enter func50,ntmps50;go_wp2_with fail;refine(aR7 _ _ _ _ _).mono ?_;rintro e w1 ⟨bl,bi,rfl,_,_,kbl,kbi,hb⟩;have HB1:=Hd (aA HB0.out hb);have KD1:=Hd (KD.out.below hb);have KR1:=Hd (KR.out.below hb);have HC:=Hd (HQL.out bl bi w1 ⟨HR.out.below HB1.out,kbl,kbi⟩ KD1.out);clear kbl kbi hb HQL KD KR HB0;go_wp2_with fail;refine HC.out.mono ?_;rintro e w2 ⟨rfl,hb⟩;have HB2:=Hd (aA HB1.out hb);have KR2:=Hd (KR1.out.below hb);clear hb HC KD1 KR1 HB1;go_wp2_with (refine aOw rfl 46 _ _ rfl (w.heap.size+1) rfl (aOx (QV o)) rfl KR2.out HSQ.out HS3.out HONE.out ?_;intro w3 kx bx _ _;have HB3:=Hd (HB2.out.trans (bx _ (Nat.le_succ _)));have KX:=Hd kx;clear kx bx);refine bodyPost_ret (fX rfl _ _ _ _ _ (0,0) _ rfl KX.out.2 underlying46 rfl HSQ.out) rfl ?_;exact⟨rfl,HB3.out⟩
def aPz(fs:List aE)(ins:List UInt8)(d:Int):Option aJv:=if aPk fs 0 [d]=0 then aJ0 fs ins d else none
theorem aQo(xs:List aF)(a:Option Addr)(c:Nat)(ins:List UInt8)(d:Int)(w:World)(hE:iE w)(hv:gT w a c xs):
  Calls prog 28 #[.slice a xs.length c,.string ⟨ins.toArray⟩,.int .i64 d] w fun e w'=>e=.returned (.tuple #[.agg (aOx (QV (aPz (xs.map aF.f) ins d))),.bool (aPz (xs.map aF.f) ins d).isSome,.int .i64 (aPk (xs.map aF.f) 0 [d])])/\Below w.heap.size w w':=by
 have hn:=hv.len;have HLA:Hid (∀W,Below w.heap.size w W->Calls prog 50 #[.slice a xs.length c,.string ⟨ins.toArray⟩,.int .i64 d] W fun e w'=>e=.returned (.tuple #[.agg (aOx (QV (aJ0 (xs.map aF.f) ins d))),.bool (aJ0 (xs.map aF.f) ins d).isSome])/\Below W.heap.size W w'):=fun W hb=>aQm xs a c ins d W hn (hv.facts.below hb)
 have HB0:=Hd (((Br w.heap.size w).alloc (Nl _) (.cells Z3 46)).alloc (by simp) (.cells #[.int .i64 d] 23));have kd:=aP.new0 (w.alloc (.cells Z3 46)) #[.int .i64 d] 23;rw[World.size_alloc] at kd;have hpc:=aQa xs a c 0 [d] (some ⟨w.heap.size+1,0,none⟩) 1 _ (hE.below HB0.out) (hv.below HB0.out) (by simp) (aQ1 kd);rw[show [d].length=1 from rfl] at hpc;have HPC:=Hd hpc;have KR:=Hd ((aP.new0 w Z3 46).below (aB _ (.cells #[.int .i64 d] 23)));have HLV:Hid (aPz (xs.map aF.f) ins d=if aPk (xs.map aF.f) 0 [d]=0 then aJ0 (xs.map aF.f) ins d else none):=rfl;have HSQ:Hid (∀q,(prog.info? 46).map (·.size)=some (aOx q).size):=fun _=>aPm
 have HONE:Hid (∀q,(aOx q).all (·.oneCell')=true):=aPw;have HS3:Hid (∀q,Z3.size=(aOx q).size):=fun _=>rfl
 clear hE hv kd hpc;generalize aPz (xs.map aF.f) ins d=lo at *;generalize aJ0 (xs.map aF.f) ins d=o at *;generalize aPk (xs.map aF.f) 0 [d]=pe at *;generalize xs.length=n at *;go_enter func28,ntmps28;go_wp2_with fail;refine HPC.out.mono ?_;rintro e w1 ⟨rfl,hb⟩;have HB1:=Hd (aA HB0.out hb);have KR1:=Hd (KR.out.below hb);clear hb HPC KR HB0
 by_cases he:pe=0
 ·subst he;have HV:Hid (lo=o):=by show _=_;rw[HLV.out];simp
  clear HLV;go_wp2_with fail;refine(HLA.out _ HB1.out).mono ?_;rintro e w2 ⟨rfl,hb⟩;have HB2:=Hd (aA HB1.out hb);have KR2:=Hd (KR1.out.below hb);have HN2:=Hd (aB w2 (.cells Z3 46));have KN2:=Hd (aP.new0 w2 Z3 46);have HNE:Hid (w.heap.size≠w2.heap.size):=by have:=KR2.out.1;show _≠_;omega
  clear hb HLA HB1 KR1;go_wp2_with (first|(refine aOw rfl 46 _ _ rfl w2.heap.size rfl (aOx (QV o)) rfl KN2.out (HSQ.out _) (HS3.out _) (HONE.out _) ?_;intro w3 kx bx Rt _;have HB3:=Hd (aA HB2.out (HN2.out.trans (bx _ (Nl _))));have KX3:=Hd kx;have KR3:=Hd (Rt _ _ _ HNE.out (KR2.out.below HN2.out));clear kx bx Rt)|(refine wpList_load_row rfl 46 _ rfl w2.heap.size rfl 46 (aOx (QV o)) (0,0) _ KX3.out.2 underlying46 rfl (HSQ.out _) ?_;simp only[pS])|(refine aOw rfl 46 _ _ rfl w.heap.size rfl (aOx (QV o)) rfl KR3.out (HSQ.out _) (HS3.out _) (HONE.out _) ?_;intro w4 kx bx _ _;have HB4:=Hd (HB3.out.trans (bx _ (Nl _)));have KX4:=Hd kx;clear kx bx));refine bodyPost_ret (aP8 rfl _ _ _ _ _ (0,0) _ rfl KX4.out.2 underlying46 rfl (HSQ.out _)) rfl ?_;exact⟨by rw[HV.out];rfl,HB4.out⟩
 ·have he':(pe==0)=false:=by simpa using he
  have HV:Hid (lo=none):=by show _=_;rw[HLV.out,if_neg he]
  have HZ:Hid (aOx (QV none)=#[.int .i64 0,.string ⟨#[]⟩,.string ⟨#[]⟩]):=rfl;clear HLV HLA;go_wp2_with (refine aOw rfl 46 _ _ rfl w.heap.size rfl #[.int .i64 0,.string ⟨#[]⟩,.string ⟨#[]⟩] rfl KR1.out (HSQ.out (QV none)) (HS3.out (QV none)) (HONE.out (QV none)) ?_;intro w4 kx bx _ _;have HB4:=Hd (HB1.out.trans (bx _ (Nl _)));have KX4:=Hd kx;clear kx bx);refine bodyPost_ret (aP8 rfl _ _ _ _ _ (0,0) _ rfl KX4.out.2 underlying46 rfl (HSQ.out (QV none))) rfl ?_;exact⟨by rw[HV.out];rfl,HB4.out⟩
end
section
open Go Go.RowKit Num
theorem aSx{d:Int}:aPt d=true↔-25567<=d/\d<=84005:=by unfold aPt;simp
theorem aQ6{fs:List aE}{ins:List UInt8}{d:Int}{q:aJv}(hv:dF fs=0)(h:aJ0 fs ins d=some q):-25567<=q.day/\q.day<=84005:=by
 obtain⟨f,hf,_,rfl⟩:=aLv hv (aK5 h);obtain⟨h1,h2,_⟩:=(oW.1 hv).2.1 f hf;exact((mY h2).1 h1).2.2.1
theorem aRg(xs:List aF)(a:Option Addr)(c:Nat)(ins:List UInt8)(d stale:Int)(w:World)(hn:xs.length<=1000000)(hr:fS w a xs)(hv:dF (xs.map aF.f)=0)(hd:aPt d=true):
  Calls prog 67 #[.slice a xs.length c,.string ⟨ins.toArray⟩,.int .i64 d,.int .i64 stale] w fun e w'=>e=.returned (.tuple #[.agg (aPf (FV (aL1 (xs.map aF.f) ins d stale))),.bool (aL1 (xs.map aF.f) ins d stale).isSome])/\Below w.heap.size w w':=by
 have HLA:Hid (∀W,Below w.heap.size w W->Calls prog 50 #[.slice a xs.length c,.string ⟨ins.toArray⟩,.int .i64 d] W fun e w'=>e=.returned (.tuple #[.agg (aOx (QV (aJ0 (xs.map aF.f) ins d))),.bool (aJ0 (xs.map aF.f) ins d).isSome])/\Below W.heap.size W w'):=fun W hb=>aQm xs a c ins d W hn (hr.below hb)
 have HFV:Hid (aL1 (xs.map aF.f) ins d stale=match aJ0 (xs.map aF.f) ins d with|some q=>if stale<d-q.day then none else some q.price|none=>none):=rfl;have HLD:Hid (∀q,aJ0 (xs.map aF.f) ins d=some q->-25567<=q.day/\q.day<=84005):=fun q h=>aQ6 hv h
 have HDD:=Hd (aSx.1 hd);have HB0:=Hd (aB w (.cells Z2 28));have KR:=Hd (aP.new0 w Z2 28);have HSQ:Hid (∀q,(prog.info? 46).map (·.size)=some (aOx q).size):=fun _=>aPm
 have HONE:Hid (∀q,(aOx q).all (·.oneCell')=true):=aPw;have HS3:Hid (∀q,Z3.size=(aOx q).size):=fun _=>rfl
 have HSF:Hid (∀f,(prog.info? 28).map (·.size)=some (aPf f).size):=fun _=>aPp
 have HONF:Hid (∀f,(aPf f).all (·.oneCell')=true):=aP0;have HS2:Hid (∀f,Z2.size=(aPf f).size):=fun _=>rfl
 clear hr hv hd;generalize aL1 (xs.map aF.f) ins d stale=fo at *;generalize aJ0 (xs.map aF.f) ins d=o at *;generalize xs.length=n at *;go_enter func67,ntmps67;go_wp2_with fail;refine(HLA.out _ HB0.out).mono ?_;rintro e w2 ⟨rfl,hb⟩;have HB2:=Hd (aA HB0.out hb);have KR2:=Hd (KR.out.below hb);have HN2:=Hd (aB w2 (.cells Z3 46));have KN2:=Hd (aP.new0 w2 Z3 46);have HNE:Hid (w.heap.size≠w2.heap.size):=by have:=KR2.out.1;show _≠_;omega
 clear hb HLA HB0 KR;cases o with
 |none =>
  have HV:Hid (fo=none):=HFV.out;clear HFV HLD;simp only[Option.isSome_none];go_wp2_with (first|(refine aOw rfl 46 _ _ rfl w2.heap.size rfl (aOx (QV none)) rfl KN2.out (HSQ.out _) (HS3.out _) (HONE.out _) ?_;intro w3 kx bx Rt _;have HB3:=Hd (aA HB2.out (HN2.out.trans (bx _ (Nl _))));have KX3:=Hd kx;have KR3:=Hd (Rt _ _ _ HNE.out (KR2.out.below HN2.out));clear kx bx Rt)|(refine aOw rfl 28 _ _ rfl w.heap.size rfl #[.string ⟨#[]⟩,.string ⟨#[]⟩] rfl KR3.out (HSF.out (FV none)) (HS2.out (FV none)) (HONF.out (FV none)) ?_;intro w4 kx bx _ _;have HB4:=Hd (HB3.out.trans (bx _ (Nl _)));have KX4:=Hd kx;clear kx bx));refine bodyPost_ret (fX rfl _ _ _ _ _ (0,0) _ rfl KX4.out.2 underlying28 rfl (HSF.out (FV none))) rfl ?_;exact⟨by rw[HV.out];rfl,HB4.out⟩
 |some q =>
  have HDQ:=Hd (HLD.out q rfl);have HW:Hid (wrap64 (d-q.day)=d-q.day):=by have h1:=HDQ.out;have h2:=HDD.out;show _=_;unfold wrap64;omega
  have HFV2:Hid (fo=if stale<d-q.day then none else some q.price):=HFV.out;have HQC:Hid ((aOx (QV (some q)))[0]?=some (.int .i64 q.day)/\(aOx (QV (some q)))[1]?=some (.string ⟨q.price.n.toArray⟩)/\(aOx (QV (some q)))[2]?=some (.string ⟨q.price.d.toArray⟩)):=⟨rfl,rfl,rfl⟩
  have HPF:Hid (aPf (FV (some q.price))=#[.string ⟨q.price.n.toArray⟩,.string ⟨q.price.d.toArray⟩]):=rfl;clear HFV HLD HDD HDQ;simp only[Option.isSome_some];have HSA:Hid ((prog.info? 46).map (·.size)=some (aOx (QV (some q))).size):=aPm;have HONA:=Hd (aPw (QV (some q)));have HS3A:Hid (Z3.size=(aOx (QV (some q))).size):=rfl;generalize aOx (QV (some q))=qa at *;generalize q.day=qd at *;have hw:=HW.out;clear HW
  by_cases hs:stale<d-qd
  ·have HV:Hid (fo=none):=by show _=_;rw[HFV2.out,if_pos hs]
   clear HFV2;go_wp2_with (first|(refine aOw rfl 46 _ _ rfl w2.heap.size rfl qa rfl KN2.out HSA.out HS3A.out HONA.out ?_;intro w3 kx bx Rt _;have HB3:=Hd (aA HB2.out (HN2.out.trans (bx _ (Nl _))));have KX3:=Hd kx;have KR3:=Hd (Rt _ _ _ HNE.out (KR2.out.below HN2.out));have q0:=(kx.cell 0).trans HQC.out.1;have q1:=(kx.cell 1).trans HQC.out.2.1;have q2:=(kx.cell 2).trans HQC.out.2.2;clear kx bx Rt)|(refine aOw rfl 28 _ _ rfl w.heap.size rfl #[.string ⟨#[]⟩,.string ⟨#[]⟩] rfl KR3.out (HSF.out (FV none)) (HS2.out (FV none)) (HONF.out (FV none)) ?_;intro w4 kx bx _ _;have HB4:=Hd (HB3.out.trans (bx _ (Nl _)));have KX4:=Hd kx;clear kx bx));refine bodyPost_ret (fX rfl _ _ _ _ _ (0,0) _ rfl KX4.out.2 underlying28 rfl (HSF.out (FV none))) rfl ?_;exact⟨by rw[HV.out];rfl,HB4.out⟩
  ·have HV:Hid (fo=some q.price):=by show _=_;rw[HFV2.out,if_neg hs]
   clear HFV2;go_wp2_with (first|(refine aOw rfl 46 _ _ rfl w2.heap.size rfl qa rfl KN2.out HSA.out HS3A.out HONA.out ?_;intro w3 kx bx Rt _;have HB3:=Hd (aA HB2.out (HN2.out.trans (bx _ (Nl _))));have KX3:=Hd kx;have KR3:=Hd (Rt _ _ _ HNE.out (KR2.out.below HN2.out));have q0:=(kx.cell 0).trans HQC.out.1;have q1:=(kx.cell 1).trans HQC.out.2.1;have q2:=(kx.cell 2).trans HQC.out.2.2;clear kx bx Rt)|(refine aOw rfl 28 _ _ rfl w.heap.size rfl #[.string ⟨q.price.n.toArray⟩,.string ⟨q.price.d.toArray⟩] rfl KR3.out (HSF.out (FV (some q.price))) (HS2.out (FV (some q.price))) (HONF.out (FV (some q.price))) ?_;intro w4 kx bx _ _;have HB4:=Hd (HB3.out.trans (bx _ (Nl _)));have KX4:=Hd kx;clear kx bx));refine bodyPost_ret (fX rfl _ _ _ _ _ (0,0) _ rfl KX4.out.2 underlying28 rfl (HSF.out (FV (some q.price)))) rfl ?_;exact⟨by rw[HV.out];rfl,HB4.out⟩
def aQp(fs:List aE)(ins:List UInt8)(d stale:Int):Option bZ:=if aPk fs stale [d]=0 then aL1 fs ins d stale else none
def aP4(fs:List aE)(ins:List UInt8)(d stale:Int):Int:=if aPk fs stale [d]=0 then(if(aL1 fs ins d stale).isSome=true then 0 else 17) else aPk fs stale [d]
theorem aPx{fs:List aE}{stale:Int}{ds:List Int}(h:aPk fs stale ds=0):dF fs=0/\ds.all aPt=true/\¬ stale<0:=by
 unfold aPk at h
 by_cases h1:dF fs=0
 ·rw[if_neg (by simpa using h1)] at h;cases h2:ds.all aPt with
  |false=>rw[if_pos h2] at h;cases h
  |true =>
   rw[if_neg (by rw[h2];decide)] at h
   by_cases h3:stale<0
   ·rw[if_pos h3] at h;cases h
   ·exact⟨h1,rfl,h3⟩
 ·rw[if_pos h1] at h;cases h
theorem aQt(xs:List aF)(a:Option Addr)(c:Nat)(ins:List UInt8)(d stale:Int)(w:World)(hE:iE w)(hv:gT w a c xs):
  Calls prog 30 #[.slice a xs.length c,.string ⟨ins.toArray⟩,.int .i64 d,.int .i64 stale] w fun e w'=>e=.returned (.tuple #[.agg (aPf (FV (aQp (xs.map aF.f) ins d stale))),.int .i64 (aP4 (xs.map aF.f) ins d stale)])/\Below w.heap.size w w':=by
 have hn:=hv.len;have HFR:Hid (aPk (xs.map aF.f) stale [d]=0->∀W,Below w.heap.size w W->Calls prog 67 #[.slice a xs.length c,.string ⟨ins.toArray⟩,.int .i64 d,.int .i64 stale] W fun e w'=>e=.returned (.tuple #[.agg (aPf (FV (aL1 (xs.map aF.f) ins d stale))),.bool (aL1 (xs.map aF.f) ins d stale).isSome])/\Below W.heap.size W w'):=fun h W hb=>aRg xs a c ins d stale W hn (hv.facts.below hb) (aPx h).1 (by have:=(aPx h).2.1;simpa using this)
 have HB0:=Hd (((Br w.heap.size w).alloc (Nl _) (.cells Z2 28)).alloc (by simp) (.cells #[.int .i64 d] 23));have kd:=aP.new0 (w.alloc (.cells Z2 28)) #[.int .i64 d] 23;rw[World.size_alloc] at kd;have hpc:=aQa xs a c stale [d] (some ⟨w.heap.size+1,0,none⟩) 1 _ (hE.below HB0.out) (hv.below HB0.out) (by simp) (aQ1 kd);rw[show [d].length=1 from rfl] at hpc;have HPC:=Hd hpc;have KR:=Hd ((aP.new0 w Z2 28).below (aB _ (.cells #[.int .i64 d] 23)));have HLV:Hid (aQp (xs.map aF.f) ins d stale=if aPk (xs.map aF.f) stale [d]=0 then aL1 (xs.map aF.f) ins d stale else none):=rfl;have HEV:Hid (aP4 (xs.map aF.f) ins d stale=if aPk (xs.map aF.f) stale [d]=0 then(if(aL1 (xs.map aF.f) ins d stale).isSome=true then 0 else 17) else aPk (xs.map aF.f) stale [d]):=rfl;have HSF:Hid (∀f,(prog.info? 28).map (·.size)=some (aPf f).size):=fun _=>aPp
 have HONF:Hid (∀f,(aPf f).all (·.oneCell')=true):=aP0;have HS2:Hid (∀f,Z2.size=(aPf f).size):=fun _=>rfl
 clear hE hv kd hpc;generalize aQp (xs.map aF.f) ins d stale=lo at *;generalize aP4 (xs.map aF.f) ins d stale=le at *;generalize aL1 (xs.map aF.f) ins d stale=o at *;generalize aPk (xs.map aF.f) stale [d]=pe at *;generalize xs.length=n at *;go_enter func30,ntmps30;go_wp2_with fail;refine HPC.out.mono ?_;rintro e w1 ⟨rfl,hb⟩;have HB1:=Hd (aA HB0.out hb);have KR1:=Hd (KR.out.below hb);clear hb HPC KR HB0
 by_cases he:pe=0
 ·subst he;have HFR2:=Hd (HFR.out rfl);have HV:Hid (lo=o):=by show _=_;rw[HLV.out];simp
  have HV2:Hid (le=if o.isSome=true then 0 else 17):=by show _=_;rw[HEV.out];simp
  clear HLV HEV HFR;go_wp2_with fail;refine(HFR2.out _ HB1.out).mono ?_;rintro e w2 ⟨rfl,hb⟩;have HB2:=Hd (aA HB1.out hb);have KR2:=Hd (KR1.out.below hb);have HN2:=Hd (aB w2 (.cells Z2 28));have KN2:=Hd (aP.new0 w2 Z2 28);have HNE:Hid (w.heap.size≠w2.heap.size):=by have:=KR2.out.1;show _≠_;omega
  clear hb HFR2 HB1 KR1;cases o with
  |none =>
   simp only[Option.isSome_none];have HV3:Hid (le=17):=HV2.out;go_wp2_with (first|(refine aOw rfl 28 _ _ rfl w2.heap.size rfl (aPf (FV none)) rfl KN2.out (HSF.out _) (HS2.out _) (HONF.out _) ?_;intro w3 kx bx Rt _;have HB3:=Hd (aA HB2.out (HN2.out.trans (bx _ (Nl _))));have KX3:=Hd kx;have KR3:=Hd (Rt _ _ _ HNE.out (KR2.out.below HN2.out));clear kx bx Rt)|(refine aOw rfl 28 _ _ rfl w.heap.size rfl #[.string ⟨#[]⟩,.string ⟨#[]⟩] rfl KR3.out (HSF.out (FV none)) (HS2.out (FV none)) (HONF.out (FV none)) ?_;intro w4 kx bx _ _;have HB4:=Hd (HB3.out.trans (bx _ (Nl _)));have KX4:=Hd kx;clear kx bx));refine bodyPost_ret (fX rfl _ _ _ _ _ (0,0) _ rfl KX4.out.2 underlying28 rfl (HSF.out (FV none))) rfl ?_;exact⟨by rw[HV.out,HV3.out];rfl,HB4.out⟩
  |some p =>
   simp only[Option.isSome_some];have HV3:Hid (le=0):=HV2.out;go_wp2_with (first|(refine aOw rfl 28 _ _ rfl w2.heap.size rfl (aPf (FV (some p))) rfl KN2.out (HSF.out _) (HS2.out _) (HONF.out _) ?_;intro w3 kx bx Rt _;have HB3:=Hd (aA HB2.out (HN2.out.trans (bx _ (Nl _))));have KX3:=Hd kx;have KR3:=Hd (Rt _ _ _ HNE.out (KR2.out.below HN2.out));clear kx bx Rt)|(refine wpList_load_row rfl 28 _ rfl w2.heap.size rfl 28 (aPf (FV (some p))) (0,0) _ KX3.out.2 underlying28 rfl (HSF.out _) ?_;simp only[pS])|(refine aOw rfl 28 _ _ rfl w.heap.size rfl (aPf (FV (some p))) rfl KR3.out (HSF.out _) (HS2.out _) (HONF.out _) ?_;intro w4 kx bx _ _;have HB4:=Hd (HB3.out.trans (bx _ (Nl _)));have KX4:=Hd kx;clear kx bx));refine bodyPost_ret (fX rfl _ _ _ _ _ (0,0) _ rfl KX4.out.2 underlying28 rfl (HSF.out _)) rfl ?_;exact⟨by rw[HV.out,HV3.out];rfl,HB4.out⟩
 ·have he':(pe==0)=false:=by simpa using he
  have HV:Hid (lo=none):=by show _=_;rw[HLV.out,if_neg he]
  have HV2:Hid (le=pe):=by show _=_;rw[HEV.out,if_neg he]
  clear HLV HEV HFR;go_wp2_with (refine aOw rfl 28 _ _ rfl w.heap.size rfl #[.string ⟨#[]⟩,.string ⟨#[]⟩] rfl KR1.out (HSF.out (FV none)) (HS2.out (FV none)) (HONF.out (FV none)) ?_;intro w4 kx bx _ _;have HB4:=Hd (HB1.out.trans (bx _ (Nl _)));have KX4:=Hd kx;clear kx bx);refine bodyPost_ret (fX rfl _ _ _ _ _ (0,0) _ rfl KX4.out.2 underlying28 rfl (HSF.out (FV none))) rfl ?_;exact⟨by rw[HV.out,HV2.out];rfl,HB4.out⟩
end
section
open Go Go.RowKit Num
theorem aPl{w w':World}{base:Nat}{e:TypeId}{size:Nat}{x:Value}{n:Nat}{xs:List Value}(h:w.ownsRow base e size x n xs)(hb:Below w.heap.size w w'):w'.ownsRow base e size x n xs :=
 h.kept (row:=none) ⟨hb.os,hb.tape,hb.output,hb.size,fun k hk _=>hb.block k hk⟩ (Classical.em _)
def aP9(fs:List aE)(d stale:Int)(s:List UInt8):Bool:=(aL1 fs s d stale).isNone
def aPu(fs:List aE)(d stale:Int)(l:List (List UInt8))(k:Nat):List (List UInt8):=(l.take k).filter (aP9 fs d stale)
def aPq(fs:List aE)(d stale:Int)(l:List (List UInt8)):List (List UInt8):=l.filter (aP9 fs d stale)
def aRj(fs:List aE)(d stale:Int)(l:List (List UInt8)):List (List UInt8):=if aPk fs stale [d]=0 then aPq fs d stale l else[]
theorem aQv{fs:List aE}{d stale:Int}{l:List (List UInt8)}{k:Nat}{s:List UInt8}(h:l[k]?=some s):aPu fs d stale l (k+1)=if aP9 fs d stale s=true then aPu fs d stale l k ++ [s] else aPu fs d stale l k:=by
 unfold aPu;rw[List.take_add_one,h,List.filter_append];cases e:aP9 fs d stale s <;> simp[e]
theorem aQ5(fs:List aE)(d stale:Int)(l:List (List UInt8))(k:Nat):(aPu fs d stale l k).length<=k :=
 Nat.le_trans (List.length_filter_le _ _) (by rw[List.length_take];exact Nat.min_le_left _ _)
theorem aQl(fs:List aE)(d stale:Int)(l:List (List UInt8)):aPu fs d stale l l.length=aPq fs d stale l:=by unfold aPu aPq;rw[List.take_length]
theorem aR5(xs:List aF)(a:Option Addr)(c:Nat)(l:List (List UInt8))(al:Option Addr)(cl:Nat)(d stale:Int)(w:World)(hE:iE w)(hv:gT w a c xs)(hl:l.length<=1000)(hrl:dT w al (iS l)):
  Calls prog 37 #[.slice a xs.length c,.slice al l.length cl,.int .i64 d,.int .i64 stale] w fun e w'=>(∃v,e=.returned (.tuple #[v,.int .i64 (aPk (xs.map aF.f) stale [d])])/\w'.ownsRow w.heap.size 9 1 v (aRj (xs.map aF.f) d stale l).length (iS (aRj (xs.map aF.f) d stale l)))/\Below w.heap.size w w':=by
 obtain⟨i0,hi,hz0,hz1,hz2⟩:=info_parts Ys;have hn:=hv.len;have HFR:Hid (aPk (xs.map aF.f) stale [d]=0->∀s W,Below w.heap.size w W->Calls prog 67 #[.slice a xs.length c,.string ⟨s.toArray⟩,.int .i64 d,.int .i64 stale] W fun e w'=>e=.returned (.tuple #[.agg (aPf (FV (aL1 (xs.map aF.f) s d stale))),.bool (aL1 (xs.map aF.f) s d stale).isSome])/\Below W.heap.size W w'):=fun h s W hb=>aRg xs a c s d stale W hn (hv.facts.below hb) (aPx h).1 (by have:=(aPx h).2.1;simpa using this)
 have HB0:=Hd (aB w (.cells #[.int .i64 d] 23));have hpc:=aQa xs a c stale [d] (some ⟨w.heap.size,0,none⟩) 1 _ (hE.below HB0.out) (hv.below HB0.out) (by simp) (aQ1 (aP.new0 w #[.int .i64 d] 23));rw[show [d].length=1 from rfl] at hpc;have HPC:=Hd hpc;have HRL:=Hd hrl;obtain⟨fs,hfs⟩:∃fs,fs=xs.map aF.f:=⟨_,rfl⟩
 rw[<-hfs] at HFR HPC ⊢;have HMV:Hid (aRj fs d stale l=if aPk fs stale [d]=0 then aPq fs d stale l else[]):=rfl;have HINF:=Hd (And.intro hi (And.intro hz0 (And.intro hz1 hz2)));have HSF:Hid (∀f,(prog.info? 28).map (·.size)=some (aPf f).size):=fun _=>aPp
 have HONF:Hid (∀f,(aPf f).all (·.oneCell')=true):=aP0;have HS2:Hid (∀f,Z2.size=(aPf f).size):=fun _=>rfl
 clear hE hv hpc hrl hi hz0 hz1 hz2 hfs;generalize aRj fs d stale l=mv at *;generalize aPk fs stale [d]=pe at *;generalize xs.length=n at *;go_enter func37,ntmps37;go_wp2_with fail;refine HPC.out.mono ?_;rintro e w1 ⟨rfl,hb⟩;have HB1:=Hd (aA HB0.out hb);clear hb HPC HB0
 by_cases he:pe=0
 ·subst he;have HFR2:=Hd (HFR.out rfl);have HMV2:Hid (mv=aPq fs d stale l):=by show _=_;rw[HMV.out,if_pos rfl]
  clear HMV HFR;go_wp2_with fail;go_loopw [11,26] (fun ov iv wr=>∃k:Nat,k<=l.length/\iv=.int .i64 k/\Hid (wr.ownsRow w.heap.size 9 1 ov (aPu fs d stale l k).length (iS (aPu fs d stale l k)))/\Hid (Below w.heap.size w wr)) (fun _ iv _=>l.length-(intOf iv).toNat)
  case atStart=>exact⟨0,Nat.zero_le _,rfl,World.ownsRow_nil _ _ _ _,HB1⟩
  case round =>
   obtain⟨k,hk,rfl,HOa,HBa⟩:=hrel
   by_cases hlt:k<l.length
   ·obtain⟨s,hs⟩:∃s,l[k]?=some s:=⟨l[k],Lg hlt⟩
    obtain⟨b,off,rfl,hbl,hcc⟩:=(HRL.out.below HBa.out).addr (by intro e;unfold iS at e;rw[List.map_eq_nil_iff] at e;subst e;simp at hlt);have hc:=hcc k (.string ⟨s.toArray⟩) (by unfold iS;rw[List.getElem?_map,hs];rfl);have HK:=Hd (aQv (fs:=fs) (d:=d) (stale:=stale) hs);have hll:=aQ5 fs d stale l k;have HSP:Hid (aP9 fs d stale s=(aL1 fs s d stale).isNone):=rfl;have HC:=Hd (HFR2.out s wr HBa.out);obtain⟨s',hs'⟩:∃s',s'=aPu fs d stale l (k+1):=⟨_,rfl⟩
    rw[<-hs'] at HK;have HS':=Hd hs';clear hs' hs hcc hbl;generalize aPu fs d stale l k=m at *;generalize aL1 fs s d stale=o at *;generalize aP9 fs d stale s=sp at *;go_wp2_with fail;refine HC.out.mono ?_;rintro e w4 ⟨rfl,hb⟩;have HO4:=Hd (aPl HOa.out hb);have HB4:=Hd (aA HBa.out hb);have HN4:=Hd (aB w4 (.cells Z2 28));have KN4:=Hd (aP.new0 w4 Z2 28);have HSZ4:=Hd HB4.out.size;clear hb HC HOa HBa hc;cases o with
    |some p =>
     have HK2:Hid (s'=m):=by show _=_;rw[HK.out,HSP.out];simp
     clear HK HSP;simp only[Option.isSome_some];go_wp2_with (refine aOw rfl 28 _ _ rfl w4.heap.size rfl (aPf (FV (some p))) rfl KN4.out (HSF.out _) (HS2.out _) (HONF.out _) ?_;intro w5 kx bx Rt _;have hb5:=HN4.out.trans (bx _ (Nl _));have HO5:=Hd (aPl HO4.out hb5);have HB5:=Hd (aA HB4.out hb5);clear kx bx Rt hb5);go_roundw
     case rel=>exact⟨k+1,by omega,by go_num,(by rw[<-HS'.out,HK2.out];exact HO5),HB5⟩
     case measure=>simp[intOf];omega
    |none =>
     have HK2:Hid (s'=m ++ [s]):=by show _=_;rw[HK.out,HSP.out];simp
     clear HK HSP;simp only[Option.isSome_none];go_wp2_with (first|(refine aOw rfl 28 _ _ rfl w4.heap.size rfl (aPf (FV none)) rfl KN4.out (HSF.out _) (HS2.out _) (HONF.out _) ?_;intro w5 kx bx Rt hsz5;have hb5:=HN4.out.trans (bx _ (Nl _));have HO5:=Hd (aPl HO4.out hb5);have HB5:=Hd (aA HB4.out hb5);have HSZ5:=Hd HB5.out.size;clear kx bx Rt hb5 hsz5)|(at_builtin;refine wpList_append_own_at _ rfl _ _ 62 rfl w.heap.size 9 i0 (.string ⟨#[]⟩) 1 16 underlying62 HINF.out.1 HINF.out.2.1 HINF.out.2.2.1 HINF.out.2.2.2 rfl (by decide) _ _ _ rfl (HO5.out.alloc _) ⟨w5.heap.size,0,none⟩ 1 1 [.string ⟨s.toArray⟩] rfl rfl (cell_one_new _ _ _) (by simp[Value.oneCell']) (by unfold maxLen;omega) (by omega) (by have:=HSZ5.out;simp;omega) ?_));intro v' w9 hown' hgrow _ _;have HB9:=Hd (Ut (HO5.out.alloc (.cells #[.string ⟨s.toArray⟩] 9)) hgrow (aA HB5.out (aB _ _)) (by have:=HSZ5.out;simp;omega));have HO9:Hid (w9.ownsRow w.heap.size 9 1 v' s'.length (iS s')):=by
      show World.ownsRow _ _ _ _ _ _ _;rw[HK2.out];simpa[iS] using hown'
     clear hgrow hown';go_wp2;go_roundw
     case rel=>exact⟨k+1,by omega,by go_num,(by rw[<-HS'.out];exact HO9),HB9⟩
     case measure=>simp[intOf];omega
   ·obtain rfl:k=l.length:=by omega
    have hoe:=HOa.out;rw[aQl,<-HMV2.out] at hoe;have HOE:=Hd hoe;clear hoe HOa;go_wp2;go_ret2;exact⟨⟨_,rfl,HOE.out⟩,HBa.out⟩
 ·have he':(pe==0)=false:=by simpa using he
  have HV:Hid (mv=[]):=by show _=_;rw[HMV.out,if_neg he]
  clear HMV HFR;go_wp2;go_ret2;exact⟨⟨_,rfl,by rw[HV.out];exact World.ownsRow_nil _ _ _ _⟩,HB1.out⟩
end
end Go.Proofs.YtejkibnaidiklaaGreatDoor
