/- RangeL RowX Belong BelongS -/
import Derived.Test.YthjekgfoidmagaaGreatDoorUClassA
import Derived.Maps.OwnIn
set_option maxHeartbeats 16000000
set_option maxRecDepth 100000
namespace Go.Proofs.YthjekgfoidmagaaGreatDoor
open Go.Proofs.Tryz
section
open Go Go.RowKit Go.Shelf
structure aPg(N:Nat)(P:Nat->Prop)(A B:World):Prop where
 os:B.os=A.os
 tape:B.tape=A.tape
 output:B.output=A.output
 size:A.heap.size<=B.heap.size
 block:∀k o,P k->A.heap[k]?=some o->(k<N∨o.isCells=true)->B.heap[k]?=some o
theorem aPg.refl(N:Nat)(P:Nat->Prop)(A:World):aPg N P A A:=⟨rfl,rfl,rfl,Nl _,fun _ _ _ h _=>h⟩
theorem aPg.trans{N:Nat}{P:Nat->Prop}{A B C:World}(h:aPg N P A B)(g:aPg N P B C):aPg N P A C :=
 ⟨g.os.trans h.os,g.tape.trans h.tape,g.output.trans h.output,Nat.le_trans h.size g.size,fun k o hp ho hk=>g.block k o hp (h.block k o hp ho hk) hk⟩
theorem aPg.weaken{N:Nat}{P P':Nat->Prop}{A B:World}(h:aPg N P A B)(hp:∀k,P' k->P k):aPg N P' A B:=⟨h.os,h.tape,h.output,h.size,fun k o hk ho hn=>h.block k o (hp k hk) ho hn⟩
theorem aPg.of_none{N:Nat}{P:Nat->Prop}{A B:World}(g:A.grownBy B none):aPg N P A B :=
 ⟨g.os,g.tape,g.output,g.size,fun k o _ ho _=>(g.block k (Ai.1 ho).1 (by simp)).trans ho⟩
theorem aPg.of_below{N:Nat}{P:Nat->Prop}{A B:World}(h:Below A.heap.size A B):aPg N P A B:=aPg.of_none (gZ h)
theorem aPg.putObj{N:Nat}{P:Nat->Prop}(W:World)(l:Nat)(o o':Obj)(hl:N<=l)(ho:W.heap[l]?=some o)(hc:o.isCells=false):aPg N P W (W.putObj l o'):=by
 refine⟨rfl,rfl,rfl,by simp[World.putObj],fun k ob _ hk hn=>?_⟩;refine(World.putObj_heap_other fun e=>?_).trans hk;subst e;rw[ho] at hk;cases hk;rcases hn with h|h
 ·omega
 ·rw[hc] at h;cases h
theorem aPg.box{N:Nat}{P:Nat->Prop}{A B:World}(h:aPg N P A B){b:Nat}{cs:Array Value}{T:TypeId}(hp:P b)(hb:aP A b cs T):aP B b cs T :=
 ⟨Nat.lt_of_lt_of_le hb.1 h.size,h.block b _ hp hb.2 (.inr rfl)⟩
theorem aPg.below{N:Nat}{P:Nat->Prop}{n:Nat}{A B:World}(h:aPg N P A B)(hA:n<=A.heap.size)(hp:∀k,k<n->P k/\k<N):Below n A B :=
 ⟨h.os,h.tape,h.output,h.size,fun k hk=>by
  obtain⟨o,ho⟩:∃o,A.heap[k]?=some o:=⟨A.heap[k]'(by omega),Array.getElem?_eq_getElem (by omega)⟩
  rw[ho,h.block k o (hp k hk).1 ho (.inl (hp k hk).2)]⟩
def aR4(b:Nat)(A B:World):Prop:=A.grownBy B none∨A.grownBy B (some b)
theorem aQf{b B:Nat}{A A':World}{cs:Array Value}{T:TypeId}(h:aP A B cs T)(hm:aR4 b A A')(hne:B≠b):aP A' B cs T:=by
 rcases hm with hm|hm
 ·exact⟨Nat.lt_of_lt_of_le h.1 hm.size,(hm.block B h.1 (by simp)).trans h.2⟩
 ·exact⟨Nat.lt_of_lt_of_le h.1 hm.size,(hm.block B h.1 (fun e=>hne (by injection e))).trans h.2⟩
theorem aRz{n b:Nat}{w A A':World}(h:Below n w A)(hn:n<=A.heap.size)(hm:aR4 b A A')(hb:n<=b):Below n w A':=by
 rcases hm with hm|hm
 ·exact h.grown hm hn (fun k e=>by cases e)
 ·exact h.grown hm hn (fun k e=>by injection e with e;omega)
theorem aSa{b:Nat}{A A':World}(hm:aR4 b A A'):A.heap.size<=A'.heap.size:=by
 rcases hm with hm|hm
 ·exact hm.size
 ·exact hm.size
structure aR1(N:Nat)(X:World->Nat->Prop)(A B:World):Prop where
 os:B.os=A.os
 tape:B.tape=A.tape
 output:B.output=A.output
 size:A.heap.size<=B.heap.size
 block:∀k o,¬ X A k->A.heap[k]?=some o->(k<N∨o.isCells=true)->B.heap[k]?=some o
 grow:∀k,X B k->X A k∨A.heap.size<=k
def KpX(N:Nat)(X:World->Nat->Prop)(A B:World):Prop:=aR1 N X A B/\((∀k,X A k->k<A.heap.size)->∀k,X B k->k<B.heap.size)
def aVj{α:Type}(n:Nat)(P:Program)(gf:Nat)(lb:Array Value)(encs:α->Array Value)(Kp:World->World->Prop)(S:List α->Prop)(N:Nat)(w1:World)(G:α->Prop):Prop :=
 ∀(l:Nat) (J:List α->World->Prop),(∀pre A B,J pre A->aR4 w1.heap.size A B->J pre B) ->
  (∀pre x W,J pre W->pre.length<N->G x->YieldAt Fence.wide (n-1) P l (encs x) W fun e W'=>e=.returned (.bool true)/\J (pre ++ [x]) W'/\Kp W W')->J [] w1 ->
  CallsIn Fence.wide n P gf (#[.func (.yield l) #[] #[]]++lb) w1 fun e W'=>(∃v,e=.returned v)/\∃xs,S xs/\J xs W'
section
variable {N m:Nat}{X:World->Nat->Prop}{A B C:World}
theorem aR1.refl(N:Nat)(X:World->Nat->Prop)(A:World):aR1 N X A A:=⟨rfl,rfl,rfl,Nl _,fun _ _ _ h _=>h,fun _ h=>.inl h⟩
theorem aR1.trans(h:aR1 N X A B)(g:aR1 N X B C):aR1 N X A C :=
 ⟨g.os.trans h.os,g.tape.trans h.tape,g.output.trans h.output,Nat.le_trans h.size g.size,fun k o hk ho hn=>g.block k o (fun hx=>by
  have hl:=(Ai.1 ho).1;rcases h.grow k hx with h'|h'
  ·exact hk h'
  ·omega) (h.block k o hk ho hn) hn,fun k hx=>by
  rcases g.grow k hx with h'|h'
  ·exact h.grow k h'
  ·exact .inr (Nat.le_trans h.size h')⟩
theorem KpX.trans(h:KpX N X A B)(g:KpX N X B C):KpX N X A C:=⟨h.1.trans g.1,fun hl=>g.2 (h.2 hl)⟩
theorem aR1.box(h:aR1 N X A B){b:Nat}{cs:Array Value}{T:TypeId}(hp:¬ X A b)(hb:aP A b cs T):aP B b cs T :=
 ⟨Nat.lt_of_lt_of_le hb.1 h.size,h.block b _ hp hb.2 (.inr rfl)⟩
theorem aR1.below{n:Nat}(h:aR1 N X A B)(hA:n<=A.heap.size)(hp:∀k,k<n->¬ X A k/\k<N):Below n A B :=
 ⟨h.os,h.tape,h.output,h.size,fun k hk=>by
  have hl:k<A.heap.size:=Nat.lt_of_lt_of_le hk hA;rw[h.block k _ (hp k hk).1 (Array.getElem?_eq_getElem hl) (.inl (hp k hk).2),Array.getElem?_eq_getElem hl]⟩
end
theorem aUe{P:Program}{n:Nat}{α:Type}{g:Operand}{ps:Array Tmp}{assign body:Code}{Q:Exit->Act->World->Prop}{a:Act}{w:World}
  {gf:Nat}{lb:Array Value}(hg:a.eval g=.func (.func gf) #[] lb) (eg:∀args w,(callFunc gf args).run P w=.ok (.enter gf args) w)
  {encs:α->Array Value}{Kp:World->World->Prop}{S:List α->Prop}{N:Nat}
  (hKt:∀ {A B C:World},Kp A B->Kp B C->Kp A C) (hKb:∀(W:World) (l:Nat) (o o':Obj),w.heap.size<=l->W.heap[l]?=some o->o.isCells=false->Kp W (W.putObj l o')) (hps:∀x,(encs x).size=ps.size)
  {G:α->Prop}(hseq:∀W1,Below w.heap.size w W1->W1.heap.size=w.heap.size+2->aVj (n-1) P gf lb encs Kp S N W1 G)
  (I:List α->World->Prop) (hI:OwnFrom w.heap.size I) (hIm:∀pre A B,I pre A->aR4 (w.heap.size+2) A B->I pre B) (h0:I [] w) (Asg:α->Act->World->Prop) (hAx:∀x a',OwnFrom w.heap.size (fun (_:Unit) W=>Asg x a' W))
  (hassign:∀(l:Nat) (pre:List α) (x:α) (W:World) (K:Act->World->Prop),I pre W->w.heap.size+2<=W.heap.size->(∀a' W',KeepsFrom w.heap.size W W'->Kp W W'->I pre W'->Asg x a' W'->K a' W') ->
   assign.wpIn (Fence.wide.inRound l) (n-1-1) P (Exit.then K (fun _ _ _=>False)) { tmps:=(ps.zip (encs x)).foldl (fun t (p,v)=>t.setIfInBounds p v) a.tmps,defers:=[] } W)
  (hbody:∀(l:Nat) (pre:List α) (x:α) (a':Act) (W:World),I pre W->w.heap.size+2<=W.heap.size->Asg x a' W->pre.length<N->G x->body.wpIn (Fence.wide.inRound l) (n-1-1) P (fun e _ W'=>e=.normal/\KeepsFrom w.heap.size W W'/\Kp W W'/\I (pre ++ [x]) W') a' W)
  (hdone:∀(D:Nat) (xs:List α) (W:World),w.heap.size<=D->S xs->I xs W->W.heap[D]?=some (.deferred (some []))->Q .normal { a with defers:={ target:=.collected D,args:=#[] }::a.defers } W) :
  (Code.rangeFunc g ps assign body).wpIn Fence.wide n P Q a w:=by
 refine wpIn_rangeFunc fun fn hfn=>?_
 obtain⟨L,hL⟩:∃L:LoopState->Loop,L=fun st=>{ state:=st,pending:=none,fn,tmps:=a.tmps,params:=ps,assign,body,defers:=w.heap.size }:=⟨_,rfl⟩
 have hs1:((w.alloc (.deferred (some []))).alloc (.loop (L .ready))).heap.size=w.heap.size+2:=by rw[World.size_alloc,World.size_alloc]
 have hb1:Below w.heap.size w ((w.alloc (.deferred (some []))).alloc (.loop (L .ready))):=((Br _ w).alloc (Nl _) _).alloc (by simp) _;have hR1:((w.alloc (.deferred (some []))).alloc (.loop (L .ready))).heap[w.heap.size+1]?=some (.loop (L .ready))/\((w.alloc (.deferred (some []))).alloc (.loop (L .ready))).heap[w.heap.size]?=some (.deferred (some [])):=by
  refine⟨?_,(Below.heap_alloc _ _ _ (by simp)).trans (World.alloc_heap_new w _)⟩;have:=World.alloc_heap_new (w.alloc (.deferred (some []))) (.loop (L .ready))
  rwa [World.size_alloc] at this
 have hI1:I [] ((w.alloc (.deferred (some []))).alloc (.loop (L .ready))):=hI.alloc _ (hI.alloc _ h0);have hq:=hseq _ hb1 hs1;rw[show aVj (n-1) P gf lb encs Kp S N ((w.alloc (.deferred (some []))).alloc (.loop (L .ready))) G=_ from rfl] at hq;unfold aVj at hq;rw[hs1] at hq;refine⟨w.heap.size+1,[{ target:=.collected w.heap.size,args:=#[] }],(w.alloc (.deferred (some []))).alloc (.loop (L .ready)),{ target:=.fn (.func gf) lb,args:=#[.func (.yield (w.heap.size+1)) #[] #[]] },(w.alloc (.deferred (some []))).alloc (.loop (L .ready)),gf,
  #[.func (.yield (w.heap.size+1)) #[] #[]]++lb,(w.alloc (.deferred (some []))).alloc (.loop (L .ready)),?_,?_,fun _ _=>trivial,?_,fun h=>absurd h (by decide),?_⟩
 ·rw[hL];exact run_enterLoop_outer _ _ _ _ _
 ·simp only[resolve,hg];simp[go_sem]
 ·simp[invoke,go_sem,eg]
 ·refine(hq (w.heap.size+1) (fun pre W=>I pre W/\W.heap[w.heap.size+1]?=some (.loop (L .ready))/\W.heap[w.heap.size]?=some (.deferred (some []))) ?_ ?_ ⟨hI1,hR1⟩).mono ?_
  ·rintro pre A B ⟨hi,hl,hk⟩ hm;refine⟨hIm pre A B hi hm,?_⟩;have h1:=(Ai.1 hl).1;have h2:=(Ai.1 hk).1;rcases hm with hm|hm
   ·exact⟨(hm.block _ h1 (by simp)).trans hl,(hm.block _ h2 (by simp)).trans hk⟩
   ·exact⟨(hm.block _ h1 (by simp)).trans hl,(hm.block _ h2 (by simp)).trans hk⟩
  ·rintro pre x W ⟨hi,hl,hk⟩ hlen hG;have hlt:w.heap.size+1<W.heap.size:=(Ai.1 hl).1;have hy:=run_yield (P:=P) (args:=encs x) hl (by rw[hL];exact hps x);rw[hL] at hy;refine⟨fn,_,assign,body,hy,roundIn_of_wpIn hfn (hassign (w.heap.size+1) pre x W _ hi (by omega) fun a' W' hkf hkp hi' hax=>?_)⟩;have hl':W'.heap[w.heap.size+1]?=some (.loop (L .ready)):=hkf.same _ _ (by omega) hl rfl;have hk':W'.heap[w.heap.size]?=some (.deferred (some [])):=hkf.same _ _ (Nl _) hk rfl;have hlt':w.heap.size+1<W'.heap.size:=(Ai.1 hl').1;refine⟨_,run_beginRound hl' (by rw[hL]),?_⟩;have hl2:(W'.putObj (w.heap.size+1) (.loop { L .ready with state:=.busy })).heap[w.heap.size+1]?=some (.loop { L .ready with state:=.busy }):=World.putObj_heap_same hlt';have hk2:(W'.putObj (w.heap.size+1) (.loop { L .ready with state:=.busy })).heap[w.heap.size]?=some (.deferred (some [])):=(World.putObj_heap_other (by omega)).trans hk';have hp2:=hKb W' (w.heap.size+1) _ (.loop { L .ready with state:=.busy }) (by omega) hl' rfl;refine wpIn_mono (hbody (w.heap.size+1) pre x a' _ (hI.putObj _ hi' (by omega) hl' rfl) (Nat.le_trans (show w.heap.size+2<=W'.heap.size by omega) (by simp[World.putObj])) ((hAx x a').putObj (s:=()) _ hax (by omega) hl' rfl) hlen hG) ?_;rintro e a3 W3 ⟨rfl,hk3,hp3,hi3⟩;have hl3:=hk3.same _ _ (by omega) hl2 rfl;have hr:=run_endRound (P:=P) none hl3;rw[hL] at hr;refine⟨_,_,hr,rfl,⟨hI.putObj _ hi3 (by omega) hl3 rfl,?_,(World.putObj_heap_other (by omega)).trans (hk3.same _ _ (Nl _) hk2 rfl)⟩,hKt (hKt (hKt hkp hp2) hp3) (hKb _ _ _ _ (by omega) hl3 rfl)⟩;rw[World.putObj_heap_same (Ai.1 hl3).1,hL];rfl
  ·rintro e W2 ⟨⟨v,rfl⟩,xs,hS,hi,hl,hk⟩;have he:=run_endLoop (P:=P) hl (by rw[hL];simp);rw[hL] at he;exact⟨none,_,he,hdone _ xs _ (Nl _) hS (hI.putObj _ hi (by omega) hl rfl) ((World.putObj_heap_other (by omega)).trans hk)⟩
end
section
open Go Go.RowKit Go.Shelf Num
theorem aUb(W:World)(cs:Array Value)(T:TypeId)(j:Nat)(u:Value)(h:cs.toList[j]?=some u):(W.alloc (.cells cs T)).cell? ((⟨W.heap.size,0,none⟩:Addr).add j)=some u:=by
 rw[show (⟨W.heap.size,0,none⟩:Addr).add j=⟨W.heap.size,j,none⟩ by by_cases hk:j=0 <;> simp[Addr.add,hk],aS (heap_alloc_new W _),<-h,Array.getElem?_toList]
section
variable {A B:World}{o m N:Nat}{T:TypeId}
end
end
section
open Go Go.RowKit Go.Shelf Num
theorem bG4(cs:Array Value)(w:World):
  Calls prog 58 #[.agg cs] w fun e w'=>e=.returned (.func (.func 118) #[] #[.pointer (some ⟨w.heap.size,0,none⟩)])/\w'=w.alloc (.cells cs 62):=by
 go_enter func58,ntmps58;go_wp2;go_ret;exact⟨rfl,rfl⟩
def bDs(hs:List Bool)(k:Nat):List Nat:=(List.range k).filter fun i=>hs.getD i false
theorem bHt{hs:List Bool}{k:Nat}(h:hs.getD k false=true):bDs hs (k+1)=bDs hs k ++ [k]:=by
 unfold bDs;rw[List.range_succ,List.filter_append];simp only[List.filter_cons,List.filter_nil,h,if_true]
theorem bIo{hs:List Bool}{k:Nat}(h:hs.getD k false=false):bDs hs (k+1)=bDs hs k:=by
 unfold bDs;rw[List.range_succ,List.filter_append];simp only[List.filter_cons,List.filter_nil,h,Bool.false_eq_true,if_false,List.append_nil]
theorem bHu(hs:List Bool)(k:Nat):(bDs hs k).length<=k:=by
 unfold bDs;exact Nat.le_trans (List.length_filter_le _ _) (by simp)
def bKr(i:Nat):Array Value:=#[.int .i64 (i:Int)]
def bHd(hs:List Bool):Array Value:=(hs.map Value.bool).toArray
theorem bK8{hs:List Bool}(hl:hs.length=13)(k:Nat)(hk:k<13)(W:World):(Instr.index 59 (.agg (bHd hs)) (.int .i64 (k:Int))).run prog W=.ok (.bool (hs.getD k false)) W:=by
 match hs,hl with
 | [h0,h1,h2,h3,h4,h5,h6,h7,h8,h9,h10,h11,h12],_ =>
  match k,hk with
  |0,_|1,_|2,_|3,_|4,_|5,_|6,_|7,_|8,_|9,_|10,_|11,_|12,_=>show _=_;kernel_rfl
  |n+13,h=>exact absurd h (by omega)
attribute [local go_sem] Oper.semAt_some
theorem bI0(n:Nat)(word:List UInt8)(cls:Int)(hs:List Bool)(hl:hs.length=13)(m:Value)(code:Bool)(b:Nat)(Kp:World->World->Prop)(w1:World)(hB:aP w1 b (aK word cls hs m code) 62):
  aVj n prog 118 #[.pointer (some ⟨b,0,none⟩)] bKr Kp (fun ys=>ys=bDs hs 13) 14 w1 (fun i=>i<13/\hs.getD i false=true):=by
 intro l J hJ hY h0;have HY:=Hd hY;have HR:=Hd (fun k hk W=>bK8 hl k hk W);have HB:=Hd hB;have HC:Hid (∀j v,(bHd hs).toList[j]?=some v->w1.cell? ⟨b,2+j,none⟩=some v):=fun j v hv=>by
  refine(hB.cell (2+j)).trans ?_;have hlt:j<13:=by
   have:=(Li.1 hv).1;simpa[bHd,hl] using this
  rw[pA (by omega)];unfold bHd at hv;rw[<-hv];simp[List.getD_eq_getElem?_getD,Lg (show j<hs.length by omega)]
 have HN:Hid (∀k,(bDs hs k).length<=k):=fun k=>bHu hs k
 have HJ0:Hid (J (bDs hs 0) w1):=h0;have HSZ:Hid ((prog.info? 59).map (·.size)=some (bHd hs).size):=by
  show _=_;rw[show (bHd hs).size=13 by simp[bHd,hl]]
  kernel_rfl
 have HYES:Hid (∀k,hs.getD k false=true->bDs hs (k+1)=bDs hs k ++ [k]):=fun k h=>bHt h
 have HNO:Hid (∀k,hs.getD k false=false->bDs hs (k+1)=bDs hs k):=fun k h=>bIo h
 clear hY hJ hB h0;generalize bHd hs=arr at *;refine callsIn_of_wp func118 rfl trivial ?_ rfl;simp only[ntmps118,List.size_toArray,List.length_cons,List.length_nil,Nat.reduceAdd,Nat.reduceSub,Array.replicate_succ,Array.replicate_zero,List.push_toArray,List.append_toArray,List.nil_append,List.cons_append];gi_wp2_with (first|(refine uP (by rfl) 59 _ rfl b 2 rfl arr _ HC.out underlying59 rfl HSZ.out ?_));gi_loopw [7] (fun iv wr=>∃k:Nat,k<=13/\iv=.int .i64 k/\Hid (J (bDs hs k) wr)) (fun iv _=>13-(intOf iv).toNat)
 case atStart=>exact⟨0,Nat.zero_le _,rfl,HJ0⟩
 case round =>
  obtain⟨k,hk,rfl,HJ⟩:=hrel;clear HJ0
  by_cases hlt:k<13
  ·have hix:=HR.out k hlt;have HLEN:=Hd (HN.out k);have HY1:=Hd (HYES.out k);have HN1:=Hd (HNO.out k);obtain⟨hb,hhb⟩:∃hb,hb=hs.getD k false:=⟨_,rfl⟩
   rw[<-hhb] at hix HY1 HN1;have HH:=Hd hhb;clear hhb;cases hb with
   |true =>
    obtain⟨fn,tmps,assign,body,hy,hRd⟩:=HY.out (bDs hs k) k wr HJ.out (by have:=HLEN.out;omega) ⟨hlt,HH.out.symm⟩;rw[show bKr k=#[.int .i64 (k:Int)] from rfl] at hy;have HRD:=Hd hRd;have HE:=Hd (HY1.out rfl);clear hRd HY1 HN1 HJ;gi_wp2;refine⟨fun h=>absurd h (by decide),HRD.out.mono ?_⟩;rintro e W3 ⟨rfl,hJ3,hk3⟩;have HJ3:=Hd hJ3;clear hJ3 hk3 hy HRD;gi_wp2;go_roundw
    case rel=>exact⟨k+1,by omega,by go_num,by show J _ _;rw[HE.out];exact HJ3.out⟩
    case measure=>simp[intOf];omega
   |false =>
    have HE:=Hd (HN1.out rfl);clear HY1 HN1;gi_wp2;refine⟨fun f h=>(by cases h),?_⟩;gi_wp2;go_roundw
    case rel=>exact⟨k+1,by omega,by go_num,by show J _ _;rw[HE.out];exact HJ.out⟩
    case measure=>simp[intOf];omega
  ·obtain rfl:k=13:=by omega
   gi_wp2;go_end0;exact⟨⟨_,rfl⟩,_,rfl,HJ.out⟩
end
section
open Go Go.RowKit Go.Shelf Num
def bDq(hs:List Bool):Nat->List (Fin 13)
 |0=>[]
 |k+1=>bDq hs k++(if h:k<13 then(if hs.getD k false=true then[⟨k,h⟩] else[]) else[])
theorem bIp{hs:List Bool}{k:Nat}(hk:k<13)(h:hs.getD k false=true):bDq hs (k+1)=bDq hs k ++ [⟨k,hk⟩]:=by
 unfold bDq;rw[dif_pos hk,if_pos h];cases k <;> rfl
theorem bJi{hs:List Bool}{k:Nat}(h:hs.getD k false=false):bDq hs (k+1)=bDq hs k:=by
 have e:bDq hs (k+1)=bDq hs k++(if h:k<13 then(if hs.getD k false=true then[⟨k,h⟩] else[]) else[]):=rfl;rw[e,h];simp
theorem bFy(hs:List Bool):∀k,k<=13->(bDq hs k).map (·.val)=bDs hs k
 |0,_=>rfl
 |k+1,h=>by
  have ih:=bFy hs k (by omega);cases hb:hs.getD k false with
  |true=>rw[bIp (by omega) hb,bHt hb,List.map_append,ih];rfl
  |false=>rw[bJi hb,bIo hb,ih]
theorem bLc(hs:List Bool)(k:Nat)(h:k<=13):(bDq hs k).length<=k:=by
 have h1:=bHu hs k;rw[<-bFy hs k h,List.length_map] at h1;exact h1
def bP7(i:Fin 13):Array Value:=#[.int .i64 (i.val:Int)]
attribute [local go_sem] Oper.semAt_some
theorem bId(n:Nat)(word:List UInt8)(cls:Int)(hs:List Bool)(hl:hs.length=13)(m:Value)(code:Bool)(b:Nat)(Kp:World->World->Prop)(w:World)(hB:aP w b (aK word cls hs m code) 62):
  SeqStopsK Fence.wide n prog 118 #[.pointer (some ⟨b,0,none⟩)] bP7 Kp (fun ys=>ys=bDq hs 13) (fun p=>∃k,k<13/\hs.getD k false=true/\p=bDq hs (k+1)) 14 w:=by
 intro l J Jx W hW hJ hJx hY h0;have HY:=Hd hY;have HR:=Hd (fun k hk W=>bK8 hl k hk W);have HB:=Hd (hB.below hW);have HC:Hid (∀j v,(bHd hs).toList[j]?=some v->W.cell? ⟨b,2+j,none⟩=some v):=fun j v hv=>by
  refine(HB.out.cell (2+j)).trans ?_;have hlt:j<13:=by
   have:=(Li.1 hv).1;simpa[bHd,hl] using this
  rw[pA (by omega)];unfold bHd at hv;rw[<-hv];simp[List.getD_eq_getElem?_getD,Lg (show j<hs.length by omega)]
 have HN:Hid (∀k,k<=13->(bDq hs k).length<=k):=fun k h=>bLc hs k h
 have HJ0:Hid (J (bDq hs 0) W):=h0;have HSZ:Hid ((prog.info? 59).map (·.size)=some (bHd hs).size):=by
  show _=_;rw[show (bHd hs).size=13 by simp[bHd,hl]]
  kernel_rfl
 have HYES:Hid (∀k (hk:k<13),hs.getD k false=true->bDq hs (k+1)=bDq hs k ++ [⟨k,hk⟩]):=fun k hk h=>bIp hk h
 have HNO:Hid (∀k,hs.getD k false=false->bDq hs (k+1)=bDq hs k):=fun k h=>bJi h
 clear hY hJ hJx hB h0 hW;generalize bHd hs=arr at *;refine callsIn_of_wp func118 rfl trivial ?_ rfl;simp only[ntmps118,List.size_toArray,List.length_cons,List.length_nil,Nat.reduceAdd,Nat.reduceSub,Array.replicate_succ,Array.replicate_zero,List.push_toArray,List.append_toArray,List.nil_append,List.cons_append];gi_wp2_with (first|(refine uP (by rfl) 59 _ rfl b 2 rfl arr _ HC.out underlying59 rfl HSZ.out ?_));gi_loopw [7] (fun iv wr=>∃k:Nat,k<=13/\iv=.int .i64 k/\Hid (J (bDq hs k) wr)) (fun iv _=>13-(intOf iv).toNat)
 case atStart=>exact⟨0,Nat.zero_le _,rfl,HJ0⟩
 case round =>
  obtain⟨k,hk,rfl,HJ⟩:=hrel;clear HJ0
  by_cases hlt:k<13
  ·have hix:=HR.out k hlt;have HLEN:=Hd (HN.out k hk);have HY1:=Hd (HYES.out k hlt);have HN1:=Hd (HNO.out k);obtain⟨hb,hhb⟩:∃hb,hb=hs.getD k false:=⟨_,rfl⟩
   rw[<-hhb] at hix HY1 HN1;have HH:=Hd hhb;clear hhb;cases hb with
   |true =>
    obtain⟨fn,tmps,assign,body,hy,hRd⟩:=HY.out (bDq hs k) ⟨k,hlt⟩ wr HJ.out (by have:=HLEN.out;omega);rw[show bP7 ⟨k,hlt⟩=#[.int .i64 (k:Int)] from rfl] at hy;have HRD:=Hd hRd;have HE:=Hd (HY1.out rfl);clear hRd HY1 HN1 HJ;gi_wp2;refine⟨fun h=>absurd h (by decide),HRD.out.mono ?_⟩;rintro e W3 (⟨rfl,hJ3,hk3⟩|⟨rfl,hJ3⟩)
    ·have HJ3:=Hd hJ3;clear hJ3 hk3 hy HRD;gi_wp2;go_roundw
     case rel=>exact⟨k+1,by omega,by go_num,by show J _ _;rw[HE.out];exact HJ3.out⟩
     case measure=>simp[intOf];omega
    ·have HJ3:=Hd hJ3;clear hJ3 hy HRD;gi_wp2;refine bodyPost_ret (results_none rfl _ _ _) rfl ?_;exact⟨⟨_,rfl⟩,.inr ⟨_,⟨k,hlt,HH.out.symm,rfl⟩,by rw[HE.out];exact HJ3.out⟩⟩
   |false =>
    have HE:=Hd (HN1.out rfl);clear HY1 HN1;gi_wp2;refine⟨fun f h=>(by cases h),?_⟩;gi_wp2;go_roundw
    case rel=>exact⟨k+1,by omega,by go_num,by show J _ _;rw[HE.out];exact HJ.out⟩
    case measure=>simp[intOf];omega
  ·obtain rfl:k=13:=by omega
   gi_wp2;go_end0;exact⟨⟨_,rfl⟩,.inl ⟨_,rfl,HJ.out⟩⟩
end
end Go.Proofs.YthjekgfoidmagaaGreatDoor
