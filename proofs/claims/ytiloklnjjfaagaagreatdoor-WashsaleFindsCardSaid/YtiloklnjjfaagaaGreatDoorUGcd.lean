/- Range Gcd Frac -/
import Derived.Test.YtiloklnjjfaagaaGreatDoorUDiv
import Derived.RangeFuncNested
import Derived.RangeFuncBound
import Derived.Shelf.RegionOpen
import Derived.OwnWalkIn
import Derived.LoopNIn
import Derived.LoopIn
set_option maxHeartbeats 16000000
set_option maxRecDepth 100000
namespace Go.Proofs.YtiloklnjjfaagaaGreatDoor
open Tryz
section
open Go Go.RowKit Go.Shelf
theorem To{P:Program}{n:Nat}{β:Type}{g:Operand}{ps:Array Tmp}{assign body:Code}{Q:Exit->Act->World->Prop}{a:Act}{w:World}
  {gf:Nat}{lb:Array Value}(hg:a.eval g=.func (.func gf) #[] lb) (eg:∀args w,(callFunc gf args).run P w=.ok (.enter gf args) w)
  (encs:β->Array Value) (hps:∀s,(encs s).size=ps.size) (I I':β->World->Prop) (hI:OwnFrom w.heap.size I) (hI':OwnFrom w.heap.size I') (s0:β) (h0:I s0 w) (Fin:β->Prop) (a₁:β->Act)
  (hassign:∀(l:Nat) (s:β) (W:World) (K:Act->World->Prop),K (a₁ s) W->assign.wpIn (Fence.wide.inRound l) (n-1-1) P (Exit.then K (fun _ _ _=>False)) { tmps:=(ps.zip (encs s)).foldl (fun t (p,v)=>t.setIfInBounds p v) a.tmps,defers:=[] } W)
  (hbody:∀(l:Nat) (s:β) (W:World),I s W->body.wpIn (Fence.wide.inRound l) (n-1-1) P (fun e _ W'=>e=.normal/\KeepsOthers W W'/\I' s W') (a₁ s) W)
  (hiter:∀(l:Nat) (R:World->Prop) (W1:World),(∀A B,R A->KeepsOthers A B->R B) ->
   (∀s W,I s W->R W->YieldAt Fence.wide (n-1-1) P l (encs s) W fun e W'=>e=.returned (.bool true)/\I' s W'/\R W') ->
   I s0 W1->R W1->CallsIn Fence.wide (n-1) P gf (#[.func (.yield l) #[] #[]]++lb) W1 fun e W'=>(∃v,e=.returned v)/\∃s,Fin s/\I' s W'/\R W')
  (hdone:∀(D:Nat) (s:β) (W:World),w.heap.size<=D->Fin s->I' s W->W.heap[D]?=some (.deferred (some []))->Q .normal { a with defers:={ target:=.collected D,args:=#[] }::a.defers } W) :
  (Code.rangeFunc g ps assign body).wpIn Fence.wide n P Q a w:=by
 refine wpIn_rangeFunc fun fn hfn=>?_
 obtain⟨L,hL⟩:∃L:LoopState->Loop,L=fun st=>{ state:=st,pending:=none,fn,tmps:=a.tmps,params:=ps,assign,body,defers:=w.heap.size }:=⟨_,rfl⟩
 have hR:∀A B:World,(A.heap[w.heap.size+1]?=some (.loop (L .ready))/\A.heap[w.heap.size]?=some (.deferred (some [])))->KeepsOthers A B->(B.heap[w.heap.size+1]?=some (.loop (L .ready))/\B.heap[w.heap.size]?=some (.deferred (some []))) :=
  fun A B h k=>⟨k.same _ _ h.1 rfl,k.same _ _ h.2 rfl⟩
 have hR1:((w.alloc (.deferred (some []))).alloc (.loop (L .ready))).heap[w.heap.size+1]?=some (.loop (L .ready))/\((w.alloc (.deferred (some []))).alloc (.loop (L .ready))).heap[w.heap.size]?=some (.deferred (some [])):=by
  refine⟨?_,(Below.heap_alloc _ _ _ (by simp)).trans (World.alloc_heap_new w _)⟩;have:=World.alloc_heap_new (w.alloc (.deferred (some []))) (.loop (L .ready))
  rwa [World.size_alloc] at this
 have hI1:I s0 ((w.alloc (.deferred (some []))).alloc (.loop (L .ready))):=hI.alloc _ (hI.alloc _ h0);refine⟨w.heap.size+1,[{ target:=.collected w.heap.size,args:=#[] }],(w.alloc (.deferred (some []))).alloc (.loop (L .ready)),{ target:=.fn (.func gf) lb,args:=#[.func (.yield (w.heap.size+1)) #[] #[]] },(w.alloc (.deferred (some []))).alloc (.loop (L .ready)),gf,
  #[.func (.yield (w.heap.size+1)) #[] #[]]++lb,(w.alloc (.deferred (some []))).alloc (.loop (L .ready)),?_,?_,fun _ _=>trivial,?_,fun h=>absurd h (by decide),?_⟩
 ·rw[hL];exact run_enterLoop_outer _ _ _ _ _
 ·simp only[resolve,hg];simp[go_sem]
 ·simp[invoke,go_sem,eg]
 ·refine(hiter (w.heap.size+1) _ _ hR ?_ hI1 hR1).mono ?_
  ·rintro s W hi ⟨hl,hk⟩;have hlt:w.heap.size+1<W.heap.size:=(Ai.1 hl).1;have hy:=run_yield (P:=P) (args:=encs s) hl (by rw[hL];exact hps s);rw[hL] at hy;refine⟨fn,_,assign,body,hy,roundIn_of_wpIn hfn (hassign _ s W _ ⟨_,run_beginRound hl (by rw[hL]),?_⟩)⟩;have hl2:(W.putObj (w.heap.size+1) (.loop { L .ready with state:=.busy })).heap[w.heap.size+1]?=some (.loop { L .ready with state:=.busy }):=World.putObj_heap_same hlt;have hk2:(W.putObj (w.heap.size+1) (.loop { L .ready with state:=.busy })).heap[w.heap.size]?=some (.deferred (some [])):=(World.putObj_heap_other (by omega)).trans hk;refine wpIn_mono (hbody _ s _ (hI.putObj _ hi (by omega) hl rfl)) ?_;rintro e a3 W3 ⟨rfl,hk3,hi3⟩;have hl3:=hk3.same _ _ hl2 rfl;have hr:=run_endRound (P:=P) none hl3;rw[hL] at hr;refine⟨_,_,hr,rfl,hI'.putObj _ hi3 (by omega) hl3 rfl,?_,(World.putObj_heap_other (by omega)).trans (hk3.same _ _ hk2 rfl)⟩;rw[World.putObj_heap_same (Ai.1 hl3).1,hL];rfl
  ·rintro e W2 ⟨⟨v,rfl⟩,s,hF,hi,hl,hk⟩;have he:=run_endLoop (P:=P) hl (by rw[hL];simp);rw[hL] at he;exact⟨none,_,he,hdone _ s _ (Nl _) hF (hI'.putObj _ hi (by omega) hl rfl) ((World.putObj_heap_other (by omega)).trans hk)⟩
end
section
open Go Go.RowKit Go.Shelf Num
attribute [local go_sem] Oper.semAt_some
theorem Ii(x y:Nat)(a a':Option Addr)(cap cap':Nat)(w:World)(hy:y≠0)(h1:(aC x).length<=10000000000)(h2:(aC y).length<=10000000000)(hcap:(aC x).length<=cap)
  (hr:dT w a (gs (aC x))) (hr':dT w a' (gs (aC y))) :
  Calls prog 213 #[.slice a (aC x).length cap,.slice a' (aC y).length cap'] w fun e w'=>∃q b' c',e=.returned (.tuple #[q,.slice b' (aC (x%y)).length c'])/\(aC (x%y)).length<=c'/\(b'=a∨eO w.heap.size b')/\dT w' b' (gs (aC (x%y)))/\Below w.heap.size w w':=by
 by_cases hxy:x<y
 ·refine(Cz x y a a' cap cap' w hxy (by omega) (by omega) hr hr').mono ?_;rintro e w' ⟨rfl,hb⟩;rw[Nat.mod_eq_of_lt hxy];exact⟨_,a,cap,rfl,hcap,.inl rfl,hr.below hb,hb⟩
 ·by_cases h2l:2<=(aC y).length
  ·refine(Aj x y a a' cap cap' w h2l (by omega) h1 hr hr').mono ?_;rintro e w' ⟨b,b',c,c',he,k1,k2,_,f2,k3,k4,k5⟩;exact⟨_,b',c',he,k2,.inr f2,k4,k5⟩
  ·have hlt:y<1000000000:=by
    have h:=fW (aO y);rw[aQ] at h;have:1000000000^(aC y).length<=1000000000^1:=Nat.pow_le_pow_right (by decide) (by omega);omega
   have hg:=jK y (by omega) hlt;rw[hg] at hr' ⊢;refine(Ah x y a a' cap cap' w (by omega) hlt (by omega) (by omega) hr hr').mono ?_;rintro e w' ⟨b,b',c,c',he,k1,k2,_,f2,k3,k4,k5⟩;exact⟨_,b',c',he,k2,.inr f2,k4,k5⟩
structure GS where
 x:Nat
 y:Nat
 a:Option Addr
 a':Option Addr
 c:Nat
 c':Nat
def Rz(b0 b1 b2:Nat)(a:Option Addr):Prop:=∀b off,a=some ⟨b,off,none⟩->b≠b0/\b≠b1/\b≠b2
def Bx(W:World)(b:Nat)(v:Value):Prop:=W.cell? ⟨b,0,none⟩=some v/\W.frozen? ⟨b,0,none⟩=false
def GS.m(s:GS):Value:=.slice s.a (aC s.x).length s.c
def GS.n(s:GS):Value:=.slice s.a' (aC s.y).length s.c'
def GS.fit(b0 b1 b2 G:Nat)(s:GS):Prop:=Nat.gcd s.x s.y=G/\(aC s.x).length<=10000000000/\(aC s.y).length<=10000000000/\(aC s.x).length<=s.c/\(aC s.y).length<=s.c'/\(s.x=0∨Rz b0 b1 b2 s.a)/\(s.y=0∨Rz b0 b1 b2 s.a')
def GI(w0:World)(b0 b1 b2 G:Nat)(s:GS)(W:World):Prop :=
 s.fit b0 b1 b2 G/\dT W s.a (gs (aC s.x))/\dT W s.a' (gs (aC s.y))/\(∃v,Bx W b0 v)/\Bx W b1 s.m/\Bx W b2 s.n/\Below w0.heap.size w0 W
def GI'(w0:World)(b0 b1 b2 G:Nat)(s:GS)(W:World):Prop :=
 s.fit b0 b1 b2 G/\dT W s.a (gs (aC s.x))/\dT W s.a' (gs (aC s.y))/\Bx W b0 s.m/\Bx W b1 s.m/\Bx W b2 s.n/\Below w0.heap.size w0 W
theorem rH{W W':World}{row:Option Nat}{b:Nat}{v:Value}(h:Bx W b v)(hg:W.grownBy W' row)(hr:∀r,row=some r->∃o:Obj,W.heap[r]?=some o/\o.isCells=false):Bx W' b v :=
 ⟨cell_kept h.1 hg hr,(frozen_kept h.1 hg hr).trans h.2⟩
theorem tG{W W':World}{row:Option Nat}{a:Option Addr}{xs:List Value}(h:dT W a xs)(hg:W.grownBy W' row)(hr:∀r,row=some r->∃o:Obj,W.heap[r]?=some o/\o.isCells=false):dT W' a xs:=by
 rcases h with h|⟨b,off,ha,hlt,hc⟩
 ·exact .inl h
 ·exact .inr ⟨b,off,ha,Nat.lt_of_lt_of_le hlt hg.size,fun k u hu=>cell_kept (hc k u hu) hg hr⟩
theorem aDj(w0:World)(b0 b1 b2 G B:Nat)(hB:w0.heap.size<=B):OwnFrom B (GI w0 b0 b1 b2 G):=by
 rintro s W W' row ⟨h1,h2,h3,⟨v,h4⟩,h5,h6,h7⟩ hg hr;have hr':∀r,row=some r->∃o:Obj,W.heap[r]?=some o/\o.isCells=false:=fun r e=>(hr r e).2
 exact⟨h1,tG h2 hg hr',tG h3 hg hr',⟨v,rH h4 hg hr'⟩,rH h5 hg hr',rH h6 hg hr',ownFrom_below (β:=GS) (Nl _) hB s W W' row h7 hg hr⟩
theorem Yv(w0:World)(b0 b1 b2 G B:Nat)(hB:w0.heap.size<=B):OwnFrom B (GI' w0 b0 b1 b2 G):=by
 rintro s W W' row ⟨h1,h2,h3,h4,h5,h6,h7⟩ hg hr;have hr':∀r,row=some r->∃o:Obj,W.heap[r]?=some o/\o.isCells=false:=fun r e=>(hr r e).2
 exact⟨h1,tG h2 hg hr',tG h3 hg hr',rH h4 hg hr',rH h5 hg hr',rH h6 hg hr',ownFrom_below (β:=GS) (Nl _) hB s W W' row h7 hg hr⟩
theorem zN{W W':World}(h:Below W.heap.size W W'):KeepsOthers W W':=⟨h.size,fun k _ hk _=>(h.block k (Ai.1 hk).1).trans hk⟩
theorem Bx.lt{W:World}{b:Nat}{v:Value}(h:Bx W b v):b<W.heap.size:=by
 rcases Nat.lt_or_ge b W.heap.size with hl|hl
 ·exact hl
 ·have:=h.1;simp[World.cell?,Array.getElem?_eq_none hl] at this
theorem Bx.below{W W':World}{b:Nat}{v:Value}(h:Bx W b v)(hb:Below W.heap.size W W'):Bx W' b v :=
 ⟨(hb.cell (p:=⟨b,0,none⟩) h.lt).trans h.1,(hb.frozen (p:=⟨b,0,none⟩) h.lt).trans h.2⟩
theorem Bx.set{W:World}{b:Nat}{v:Value}(h:Bx W b v)(u:Value):Bx (W.setCell ⟨b,0,none⟩ u) b u :=
 ⟨World.cell?_setCell_same' _ _ _ (by rw[h.1];rfl),by rw[World.frozen?_setCell];exact h.2⟩
theorem Bx.other{W:World}{b b':Nat}{v:Value}(h:Bx W b v)(hne:b≠b')(u:Value):Bx (W.setCell ⟨b',0,none⟩ u) b v :=
 ⟨by rw[World.cell?_setCell_other _ _ _ _ (fun e=>hne (by injection e with e1;exact e1.symm))];exact h.1,by rw[World.frozen?_setCell];exact h.2⟩
theorem dT.away{W:World}{b0 b1 b2 b x:Nat}{a:Option Addr}(h:dT W a (gs (aC x)))(ha:x=0∨Rz b0 b1 b2 a)(hb:b=b0∨b=b1∨b=b2)(u:Value):dT (W.setCell ⟨b,0,none⟩ u) a (gs (aC x)):=by
 rcases ha with rfl|ha
 ·rw[aT];exact .inl rfl
 ·exact h.setCell (p:=⟨b,0,none⟩) (fun b' off e=>by have:=ha b' off e;show b'≠b;omega) u
def Dx(b2:Nat)(W:World):Nat :=
 match W.cell? ⟨b2,0,none⟩ with
 |some (.slice (some p) n _)=>aI ((List.range n).map fun k=>match W.cell? ⟨p.block,p.off+k,none⟩ with|some (.int _ z)=>z.toNat|_=>0)
 |_=>0
theorem Cp{b2:Nat}{W:World}{y:Nat}{a':Option Addr}{c':Nat}(hc:W.cell? ⟨b2,0,none⟩=some (.slice a' (aC y).length c'))(hr:dT W a' (gs (aC y))):Dx b2 W=y:=by
 unfold Dx;rw[hc]
 by_cases hg:aC y=[]
 ·have hy:=(bO y).1 hg;rw[hg];cases a' with
  |none=>exact hy.symm
  |some p=>simp[aI,hy]
 ·obtain⟨b,off,rfl,hlt,hcell⟩:=hr.addr (tT hg);show aI _=y
  conv=>rhs;rw[<-aQ y]
  congr 1;apply List.ext_getElem
  ·simp
  ·intro k h1 h2;have:=hcell k _ (mW (aC y) k h2);simp only[List.getElem_map,List.getElem_range,this];rw[List.getD_eq_getElem?_getD,Lg h2];simp
theorem Po(n:Nat)(l:Nat)(w0:World)(b0 b1 b2 G:Nat)(h01:b0≠b1)(h02:b0≠b2)(h12:b1≠b2)(hw1:w0.heap.size<=b1)(hw2:w0.heap.size<=b2)(R:World->Prop)(hR:∀A B,R A->KeepsOthers A B->R B)
  (hY:∀s W,GI w0 b0 b1 b2 G s W->R W->YieldAt Fence.wide (n-1) prog l #[s.m,s.n] W fun e W'=>e=.returned (.bool true)/\GI' w0 b0 b1 b2 G s W'/\R W')
  (s0:GS) (W:World) (h0:GI w0 b0 b1 b2 G s0 W) (hR0:R W) :
  CallsIn Fence.wide n prog 259 #[.func (.yield l) #[] #[],.pointer (some ⟨b1,0,none⟩),.pointer (some ⟨b2,0,none⟩)] W fun e W'=>(∃v,e=.returned v)/\∃s:GS,s.y=0/\GI' w0 b0 b1 b2 G s W'/\R W':=by
 have HY:=Hd hY;have HRR:=Hd hR;have H0:=Hd h0;have HR0:=Hd hR0;clear hY hR h0 hR0;refine callsIn_of_wp func259 rfl trivial ?_ rfl;simp only[ntmps259,List.size_toArray,List.length_cons,List.length_nil,Nat.reduceAdd,Nat.reduceSub,Array.replicate_succ,Array.replicate_zero,List.push_toArray,List.append_toArray,List.nil_append,List.cons_append];gi_wp2;gi_loopw [4] (fun _ wr=>∃s:GS,Hid (GI w0 b0 b1 b2 G s wr)/\Hid (R wr)) (fun _ wr=>Dx b2 wr)
 case atStart=>exact⟨s0,H0,HR0⟩
 case round =>
  clear H0 HR0;obtain⟨s,hG,hRr⟩:=hrel;obtain⟨fn,tmps,assign,body,hy,hRd⟩:=HY.out s wr hG.out hRr.out;have c1:=hG.out.2.2.2.2.1.1;have c2:=hG.out.2.2.2.2.2.1.1;obtain⟨x,y,a,a',c,c'⟩:=s;dsimp only[GS.m,GS.n] at c1 c2 hy;have HLEFT:=Hd (Cp c2 hG.out.2.2.1);have hlen:=And.intro hG.out.1.2.1 hG.out.1.2.2.1;gi_wp2;refine⟨fun h=>absurd h (by decide),hRd.mono ?_⟩;rintro e W3 ⟨rfl,hG3,hR3⟩;have HG3:=Hd hG3;have HR3:=Hd hR3;obtain⟨⟨fg,f1,f2,f3,f4,f5,f6⟩,r1,r2,hb0,hb1,hb2,hB⟩:=hG3;dsimp only at fg f1 f2 f3 f4 f5 f6 r1 r2;have HF:=Hd (And.intro fg (And.intro f1 (And.intro f2 (And.intro f3 (And.intro f4 (And.intro f5 f6))))));have HROW:=Hd (And.intro r1 r2);have HBX:=Hd (And.intro hb0 (And.intro hb1 (And.intro hb2 hB)));have d1:=hb1.1;have d2:=hb2.1;have e1:=hb1.2;have e2:=hb2.2;have l1:=hb1.lt;have l2:=hb2.lt;dsimp only[GS.m,GS.n] at d1 d2;clear hG hRr c1 c2 hy hRd HY hR3 fg f1 f2 f3 f4 f5 f6 r1 r2 hb0 hb1 hb2 hB
  by_cases hy0:y=0
  ·have HY0:=Hd hy0;have hz:(aC y).length=0:=by rw[hy0,aT];rfl
   rw[hz] at d2;clear hy0;gi_wp2;go_end0;exact⟨⟨_,rfl⟩,_,HY0.out,HG3.out,HR3.out⟩
  ·have hz:0<(aC y).length:=by
    rcases Nat.eq_zero_or_pos (aC y).length with e|e
    ·exact absurd ((bO _).1 (List.eq_nil_of_length_eq_zero e)) hy0
    ·exact e
   have hz':(0:Int)<((aC y).length:Int):=by omega
   have HD:=Hd (Ii x y a a' c c' W3 hy0 HF.out.2.1 HF.out.2.2.1 HF.out.2.2.2.1 HROW.out.1 HROW.out.2);have hgl:=bP (Nat.le_of_lt (Nat.mod_lt x (Nat.pos_of_ne_zero hy0)));have HZ:=Hd (And.intro hy0 hgl);clear hy0 hgl hz;gi_wp2;refine⟨trivial,fun h=>absurd h (by decide),(callsIn_wide.2 HD.out).mono ?_⟩;rintro e W4 ⟨qv,br,cr,rfl,hcr,hfr,hrr,hB4⟩;have d3:=(hB4.cell (p:=⟨b1,0,none⟩) l1).trans d1;have d4:=(hB4.cell (p:=⟨b2,0,none⟩) l2).trans d2;have e3:=(hB4.frozen (p:=⟨b1,0,none⟩) l1).trans e1;have e4:=(hB4.frozen (p:=⟨b2,0,none⟩) l2).trans e2;have HNEW:Hid (GI w0 b0 b1 b2 G ⟨y,x%y,a',br,c',cr⟩ ((W4.setCell ⟨b1,0,none⟩ (.slice a' (aC y).length c')).setCell ⟨b2,0,none⟩ (.slice br (aC (x%y)).length cr))):=by
    obtain⟨fg,f1,f2,f3,f4,f5,f6⟩:=HF.out;obtain⟨r1,r2⟩:=HROW.out;obtain⟨hb0,hb1,hb2,hB⟩:=HBX.out;have hbr:x%y=0∨Rz b0 b1 b2 br:=by
     rcases hfr with rfl|hf
     ·rcases f5 with f5|f5
      ·left;rw[f5];exact Nat.zero_mod _
      ·exact .inr f5
     ·right;intro b off e;have:=hf b off e;have:=hb0.lt;omega
    refine⟨⟨?_,f2,Nat.le_trans HZ.out.2 f2,f4,hcr,f6,hbr⟩,?_,?_,⟨GS.m ⟨x,y,a,a',c,c'⟩,?_⟩,?_,?_,?_⟩
    ·show Nat.gcd y (x%y)=G;rw[<-fg,Nat.gcd_comm y,<-Nat.gcd_rec,Nat.gcd_comm]
    ·exact((r2.below hB4).away f6 (.inr (.inl rfl)) _).away f6 (.inr (.inr rfl)) _
    ·exact(hrr.away hbr (.inr (.inl rfl)) _).away hbr (.inr (.inr rfl)) _
    ·exact((hb0.below hB4).other h01 _).other h02 _
    ·exact((hb1.below hB4).set _).other h12 _
    ·exact((hb2.below hB4).other (Ne.symm h12) _).set _
    ·exact((hB.trans (hB4.mono hB.size)).setCell (p:=⟨b1,0,none⟩) hw1 _).setCell (p:=⟨b2,0,none⟩) hw2 _
   have HRN:Hid (R ((W4.setCell ⟨b1,0,none⟩ (.slice a' (aC y).length c')).setCell ⟨b2,0,none⟩ (.slice br (aC (x%y)).length cr))) :=
    HRR.out _ _ HR3.out ((zN hB4).trans ((KeepsOthers.setCell _ _ _).trans (KeepsOthers.setCell _ _ _)))
   have HLN:Hid (Dx b2 ((W4.setCell ⟨b1,0,none⟩ (.slice a' (aC y).length c')).setCell ⟨b2,0,none⟩ (.slice br (aC (x%y)).length cr))=x%y):=Cp HNEW.out.2.2.2.2.2.1.1 HNEW.out.2.2.1;clear hrr hfr hB4 d1 d2 e1 e2 hcr;gi_wp2;refine⟨⟨_,HNEW,HRN⟩,?_⟩;rw[HLN.out,HLEFT.out];exact Nat.mod_lt _ (Nat.pos_of_ne_zero HZ.out.1)
theorem Pn(a a':Option Addr)(k k' c c':Nat)(w:World):
  Calls prog 255 #[.slice a k c,.slice a' k' c'] w fun e w'=>e=.returned (.func (.func 259) #[] #[.pointer (some ⟨w.heap.size,0,none⟩),.pointer (some ⟨w.heap.size+1,0,none⟩)])/\(w.alloc (.cells #[.slice a k c] 95)).alloc (.cells #[.slice a' k' c'] 95)=w':=by
 go_enter func255,ntmps255;go_wp2;go_ret;exact⟨rfl,rfl⟩
theorem Oz(l m:List UInt8)(w:World)(hE:iE w)(hl:l.length<=10000000000)(hm:m.length<=10000000000):
  Calls prog 239 #[.string ⟨l.toArray⟩,.string ⟨m.toArray⟩] w fun e w'=>e=.returned (.string ⟨(aU (Nat.gcd (val l).natAbs (val m).natAbs)).toArray⟩)/\Below w.heap.size w w':=by
 have H1:=Hd (fun W=>dX l W (by omega));have H2:=Hd (fun W=>dX m W (by omega));have g1:=dL l;have g2:=dL m;have ex:(val l).natAbs=bK (aZ l):=by rw[fG];cases dD l <;> simp[lX]
 have ey:(val m).natAbs=bK (aZ m):=by rw[fG];cases dD m <;> simp[lX]
 rw[ex,ey];generalize bK (aZ l)=x at *;generalize bK (aZ m)=y at *;generalize dD l=nx at *;generalize dD m=ny at *;have HE:=Hd hE;have HG:=Hd (And.intro g1 g2);clear hE g1 g2 ex ey;have hfl:∀(b:Bool) (a:Option Addr) (k c:Nat) (W:World),(Instr.field 97 (.agg #[.bool b,.slice a k c]) 1).run prog W=.ok (.slice a k c) W:=fun _ _ _ _ _=>by kernel_rfl
 refine(callsIn_wide (n:=3)).1 ?_;refine callsIn_of_wp_marks func239 rfl trivial ?_ rfl;simp only[ntmps239,List.size_toArray,List.length_cons,List.length_nil,Nat.reduceAdd,Nat.reduceSub,Array.replicate_succ,Array.replicate_zero,List.push_toArray,List.append_toArray,List.nil_append,List.cons_append];gi_wp2;refine⟨trivial,(callsIn_wide.2 (H1.out _)).mono ?_⟩;rintro e w1 ⟨a,c,rfl,hc,hf,hr,hb⟩;gi_wp2;refine⟨trivial,(callsIn_wide.2 (H2.out _)).mono ?_⟩;rintro e w2 ⟨a',c',rfl,hc',hf',hr',hb'⟩;gi_wp2;refine⟨trivial,(callsIn_wide.2 (Pn a a' _ _ c c' _)).mono ?_⟩;rintro e w3 ⟨rfl,hw3⟩;have hW1:=hb.size;have hW2:=hb'.size;simp only[World.size_alloc] at hW1;have hB2:Below w.heap.size w w2:=aA (aA (aB w _) hb) hb';have hB3:Below w2.heap.size w2 w3:=by rw[<-hw3];exact((Br _ _).alloc (Nl _) _).alloc (by simp) _
 have hsz:w3.heap.size=w2.heap.size+2:=by rw[<-hw3];simp
 have hx1:Bx w3 w2.heap.size (.slice a (aC x).length c):=by
  have h:=(Below.heap_alloc (w2.alloc (.cells #[.slice a (aC x).length c] 95)) (.cells #[.slice a' (aC y).length c'] 95) w2.heap.size (by simp)).trans (heap_alloc_new w2 _);rw[hw3] at h;exact⟨aS h 0,aR h 0⟩
 have hx2:Bx w3 (w2.heap.size+1) (.slice a' (aC y).length c'):=by
  have h:=heap_alloc_new (w2.alloc (.cells #[.slice a (aC x).length c] 95)) (.cells #[.slice a' (aC y).length c'] 95);rw[hw3,World.size_alloc] at h;exact⟨aS h 0,aR h 0⟩
 have hx0:Bx w3 w.heap.size (.slice none 0 0):=by
  have h0:Bx (w.alloc (.cells #[.slice none 0 0] 95)) w.heap.size (.slice none 0 0):=⟨aS (heap_alloc_new w _) 0,aR (heap_alloc_new w _) 0⟩
  exact((h0.below hb).below hb').below hB3
 have haw:x=0∨Rz w.heap.size w2.heap.size (w2.heap.size+1) a:=by
  by_cases h0:x=0
  ·exact .inl h0
  ·right;obtain⟨b,off,ha,hlt,_⟩:=hr.addr (tT (by rw[Ne,bO];exact h0));intro b' off' e;have h1:=hf b' off' e;rw[ha] at e;injection e with e
   injection e with e1 e2
   simp at h1;omega
 have haw':y=0∨Rz w.heap.size w2.heap.size (w2.heap.size+1) a':=by
  by_cases h0:y=0
  ·exact .inl h0
  ·right;obtain⟨b,off,ha,hlt,_⟩:=hr'.addr (tT (by rw[Ne,bO];exact h0));intro b' off' e;have h1:=hf' b' off' e;rw[ha] at e;injection e with e
   injection e with e1 e2
   omega
 have HGI:Hid (GI w w.heap.size w2.heap.size (w2.heap.size+1) (Nat.gcd x y) ⟨x,y,a,a',c,c'⟩ w3) :=
  ⟨⟨rfl,by have:=HG.out.1;show (aC x).length<=_;omega,by have:=HG.out.2;show (aC y).length<=_;omega,hc,hc',haw,haw'⟩,(hr.below hb').below hB3,hr'.below hB3,⟨_,hx0⟩,hx1,hx2,aA hB2 hB3⟩
 have hne:w.heap.size≠w2.heap.size:=by omega
 have hle:w.heap.size<=w2.heap.size:=by omega
 have HB3:=Hd hB3;clear hr hr' hb hb' hf hf' hx0 hx1 hx2 haw haw' hw3 hB2 hB3 hc hc';generalize w2.heap.size=b1 at *;gi_wp2;refine To (P:=prog) (n:=3) (gf:=259) (lb:=#[.pointer (some ⟨b1,0,none⟩),.pointer (some ⟨b1+1,0,none⟩)]) rfl (aXb func259)
  (fun s:GS=>#[s.m,s.n]) (fun _=>rfl) (GI w w.heap.size b1 (b1+1) (Nat.gcd x y)) (GI' w w.heap.size b1 (b1+1) (Nat.gcd x y)) (aDj _ _ _ _ _ _ (by omega)) (Yv _ _ _ _ _ _ (by omega)) ⟨x,y,a,a',c,c'⟩ HGI.out (fun s=>s.y=0)
  (fun s=>{ tmps:=#[.string ⟨l.toArray⟩,.string ⟨m.toArray⟩,undef,undef,.string ⟨#[]⟩,.pointer (some ⟨w.heap.size,0,none⟩),s.m,.string ⟨l.toArray⟩,.agg #[.bool nx,.slice a (aC x).length c],.slice a (aC x).length c,.string ⟨m.toArray⟩,.agg #[.bool ny,.slice a' (aC y).length c'],.slice a' (aC y).length c',.func (.func 259) #[] #[.pointer (some ⟨b1,0,none⟩),.pointer (some ⟨b1+1,0,none⟩)],s.m,s.n,undef,undef,undef,undef],defers:=[] })
  ?assign ?body ?iter ?done
 case assign =>
  intro l s W K hK;gi_wp2;exact hK
 case body =>
  rintro l s W ⟨hfit,r1,r2,⟨v,hv⟩,h1,h2,hB⟩;have d:=hv.1;have e:=hv.2;have HN:Hid (GI' w w.heap.size b1 (b1+1) (Nat.gcd x y) s (W.setCell ⟨w.heap.size,0,none⟩ s.m)) :=
   ⟨hfit,r1.away hfit.2.2.2.2.2.1 (.inl rfl) _,r2.away hfit.2.2.2.2.2.2 (.inl rfl) _,hv.set _,h1.other (Ne.symm hne) _,h2.other (by omega) _,hB.setCell (p:=⟨w.heap.size,0,none⟩) (Nl _) _⟩
  clear hfit r1 r2 hv h1 h2 hB;obtain⟨x',y',a2,a2',c2,c2'⟩:=s;simp only[GS.m,GS.n] at HN ⊢;gi_wp2;exact⟨KeepsOthers.setCell _ _ _,HN.out⟩
 case iter =>
  intro l R W1 hR hY hI hR1;exact Po 2 l w w.heap.size b1 (b1+1) (Nat.gcd x y) hne (by omega) (by omega) hle (by omega) R hR hY _ W1 hI hR1
 case done =>
  rintro D s W hD hy0 ⟨hfit,r1,_,h0,_,_,hB⟩ hK;obtain⟨x',y',a2,a2',c2,c2'⟩:=s;dsimp only at hy0 hfit r1;subst hy0;obtain⟨f0,f1,_,f3,_⟩:=hfit;dsimp only at f0 f1 f3;rw[Nat.gcd_zero_right] at f0;have d:=h0.1;dsimp only[GS.m] at d;have HT:=Hd (fJ x' false a2 c2 W (HE.out.below hB) f3 (by omega) r1);have HBW:=Hd hB;have HKK:=Hd hK;have HF:=Hd f0;have htx:Fw false x'=aU x':=by unfold Fw aU;simp
  rw[htx] at HT;clear hB hK f0 r1 h0 htx;gi_wp2;refine⟨trivial,(callsIn_wide.2 HT.out).mono ?_⟩;rintro e W5 ⟨rfl,hB5⟩;have hKD:=(Ai.1 HKK.out).1;have hK5:W5.heap[D]?=some (.deferred (some [])):=(hB5.block D hKD).trans HKK.out;have hsz5:=HBW.out.size;have HB5:=Hd (HBW.out.trans (hB5.mono hsz5));clear hB5;gi_wp2;refine⟨by simp,.inl ⟨_,_,rfl,run_takeDeferred hK5,?_⟩⟩;refine⟨_,results_tmp rfl _ _ _,by rw[<-HF.out];rfl,?_⟩;exact HB5.out.trans (belowK_b (w:=w) (Nl _) W5 D _ _ (by omega) hK5 rfl rfl)
end
section
open Go.RowKit Num
theorem pT(l:List UInt8)(g:Nat)(w:World)(hE:iE w)(hl:l.length<=10000000000)(hg:0<g)(hgl:(aU g).length<=10000000000)(h:(val l).natAbs%g=0):
  Calls prog 173 #[.string ⟨l.toArray⟩,.string ⟨(aU g).toArray⟩] w fun e w'=>(∃r:ByteArray,e=.returned (.tuple #[.string ⟨(aJ ((val l).fdiv g)).toArray⟩,.string r,.int .i64 0]))/\Below w.heap.size w w':=by
 refine(Ry l (aU g) w hE hl hgl (by rw[eQ];omega) (.inr (by rw[tN,tN,eQ];exact h))).mono ?_;rintro e w' ⟨rfl,hb⟩;rw[eQ];exact⟨⟨_,rfl⟩,hb⟩
theorem bGf(n d:List UInt8)(w:World)(hE:iE w){K:Nat}(hK:1<=K)(hK2:K<=70000)(hn:n.length<=K)(hd:d.length<=K)(h0:val d≠0):
  Calls prog 211 #[.string ⟨n.toArray⟩,.string ⟨d.toArray⟩] w fun e w'=>e=.returned (.tuple #[.string ⟨(aJ (eT (val n) (val d))).toArray⟩,.string ⟨(aJ (fT (val n) (val d))).toArray⟩])/\Below w.heap.size w w':=by
 have HE:=Hd hE;have gp:=qJ (N:=val n) h0;have gle:=Oi (N:=val n) h0;have hgl:(aU (gE (val n) (val d))).length<=K+1:=As hK (Nat.lt_of_le_of_lt gle (lO hd));have HC:=Hd (fun W=>nV d [] W (by omega) (by simp));rw[show val []=0 from rfl] at HC
 by_cases hlt:val d<0
 ·have hc:bG (val d) 0 = -1:=by unfold bG;rw[if_pos hlt]
  rw[hc] at HC;have nl:=yH (l:=n) hK hn;have dl:=yH (l:=d) hK hd;have HN1:=Hd (fun W hE=>Ox n W hE (by omega));have HN2:=Hd (fun W hE=>Ox d W hE (by omega));have HG:=Hd (fun W hE=>Oz (aJ (-val n)) (aJ (-val d)) W hE (by omega) (by omega));rw[bE,bE,show Nat.gcd (-val n).natAbs (-val d).natAbs=gE (val n) (val d) from Hw _ _] at HG;have HD1:=Hd (fun W hE=>pT (aJ (-val n)) _ W hE (by omega) gp (by omega) (by rw[bE,Int.natAbs_neg];exact yF _ _));have HD2:=Hd (fun W hE=>pT (aJ (-val d)) _ W hE (by omega) gp (by omega) (by rw[bE,Int.natAbs_neg];exact Ev _ _));rw[bE] at HD1 HD2;have e1:(-val n).fdiv (gE (val n) (val d))=eT (val n) (val d):=by unfold eT;rw[if_pos hlt]
  have e2:(-val d).fdiv (gE (val n) (val d))=fT (val n) (val d):=by unfold fT;rw[if_pos hlt]
  rw[e1] at HD1;rw[e2] at HD2;generalize aJ (eT (val n) (val d))=rn at *;generalize aJ (fT (val n) (val d))=rd at *;generalize aU (gE (val n) (val d))=gs' at *;generalize aJ (-val n)=n1 at *;generalize aJ (-val d)=d1 at *;clear e1 e2 gp gle hgl hlt hc h0 hE nl dl;go_enter func211,ntmps211;go_wp2_with fail;refine(HC.out _).mono ?_;rintro e w1 ⟨rfl,hb1⟩;go_wp2_with fail;refine(HN1.out _ (HE.out.below hb1)).mono ?_;rintro e w2 ⟨rfl,hb2⟩;have B2:=aA hb1 hb2;go_wp2_with fail;refine(HN2.out _ (HE.out.below B2)).mono ?_;rintro e w3 ⟨rfl,hb3⟩;have B3:=aA B2 hb3;go_wp2_with fail;refine(HG.out _ (HE.out.below B3)).mono ?_;rintro e w4 ⟨rfl,hb4⟩;have B4:=aA B3 hb4;go_wp2_with fail;refine(HD1.out _ (HE.out.below B4)).mono ?_;rintro e w5 ⟨⟨r5,rfl⟩,hb5⟩;have B5:=aA B4 hb5;go_wp2_with fail;refine(HD2.out _ (HE.out.below B5)).mono ?_;rintro e w6 ⟨⟨r6,rfl⟩,hb6⟩;go_wp2;go_ret2;exact⟨rfl,aA B5 hb6⟩
 ·have hc:bG (val d) 0=1:=by unfold bG;rw[if_neg hlt,if_pos (by omega)]
  rw[hc] at HC;have HG:=Hd (fun W hE=>Oz n d W hE (by omega) (by omega));rw[show Nat.gcd (val n).natAbs (val d).natAbs=gE (val n) (val d) from rfl] at HG;have HD1:=Hd (fun W hE=>pT n _ W hE (by omega) gp (by omega) (yF _ _));have HD2:=Hd (fun W hE=>pT d _ W hE (by omega) gp (by omega) (Ev (val n) (val d)));have e1:(val n).fdiv (gE (val n) (val d))=eT (val n) (val d):=by unfold eT;rw[if_neg hlt]
  have e2:(val d).fdiv (gE (val n) (val d))=fT (val n) (val d):=by unfold fT;rw[if_neg hlt]
  rw[e1] at HD1;rw[e2] at HD2;generalize aJ (eT (val n) (val d))=rn at *;generalize aJ (fT (val n) (val d))=rd at *;generalize aU (gE (val n) (val d))=gs' at *;clear e1 e2 gp gle hgl hlt hc h0 hE;go_enter func211,ntmps211;go_wp2_with fail;refine(HC.out _).mono ?_;rintro e w1 ⟨rfl,hb1⟩;go_wp2_with fail;refine(HG.out _ (HE.out.below hb1)).mono ?_;rintro e w4 ⟨rfl,hb4⟩;have B4:=aA hb1 hb4;go_wp2_with fail;refine(HD1.out _ (HE.out.below B4)).mono ?_;rintro e w5 ⟨⟨r5,rfl⟩,hb5⟩;have B5:=aA B4 hb5;go_wp2_with fail;refine(HD2.out _ (HE.out.below B5)).mono ?_;rintro e w6 ⟨⟨r6,rfl⟩,hb6⟩;go_wp2;go_ret2;exact⟨rfl,aA B5 hb6⟩
theorem Gf(n d:List UInt8)(w:World)(hE:iE w)(hn:n.length<=2000)(hd:d.length<=2000)(h0:val d≠0):
  Calls prog 211 #[.string ⟨n.toArray⟩,.string ⟨d.toArray⟩] w fun e w'=>e=.returned (.tuple #[.string ⟨(aJ (eT (val n) (val d))).toArray⟩,.string ⟨(aJ (fT (val n) (val d))).toArray⟩])/\Below w.heap.size w w' :=
 bGf n d w hE (K:=2000) (by decide) (by decide) hn hd h0
theorem bK4(n d:List UInt8)(w:World)(hE:iE w){K:Nat}(hK:1<=K)(hK2:K<=70000)(hn:n.length<=K)(hd:d.length<=K)(h0:val d≠0):
  Calls prog 170 #[.string ⟨n.toArray⟩,.string ⟨d.toArray⟩] w fun e w'=>e=.returned (.agg #[.string ⟨(aJ (eT (val n) (val d))).toArray⟩,.string ⟨(nD (fT (val n) (val d))).toArray⟩])/\Below w.heap.size w w':=by
 have HR:=Hd (fun W hE=>bGf n d W hE hK hK2 hn hd h0);have HE:=Hd hE;unfold nD;generalize aJ (eT (val n) (val d))=rn at *;generalize aJ (fT (val n) (val d))=rd at *;clear hE h0
 by_cases h1:rd=[49]
 ·subst h1;rw[if_pos rfl];go_enter func170,ntmps170;go_wp2_with fail;refine(HR.out _ (HE.out.below (aB w _))).mono ?_;rintro e w1 ⟨rfl,hb1⟩;have q:=sT (n:=0) hb1;have k0:=aS q 0;have k1:=aS q 1;have f0:=aR q 0;have f1:=aR q 1;have HB:=Hd (((aA (aB w _) hb1).setCell (p:=⟨w.heap.size,0,none⟩) (Nl _) (.string ⟨rn.toArray⟩)).setCell (p:=⟨w.heap.size,1,none⟩) (Nl _) (.string ⟨#[]⟩));clear q hb1;go_wp2;exact bodyPost_ret (v:=.agg #[.string ⟨rn.toArray⟩,.string ⟨#[]⟩]) (by simp[results,results170,go_sem,k0,k1]) rfl ⟨rfl,HB.out⟩
 ·rw[if_neg h1];have h2:(rd == [49])=false:=by simp[h1]
  clear h1;go_enter func170,ntmps170;go_wp2_with fail;refine(HR.out _ (HE.out.below (aB w _))).mono ?_;rintro e w1 ⟨rfl,hb1⟩;have q:=sT (n:=0) hb1;have k0:=aS q 0;have k1:=aS q 1;have f0:=aR q 0;have f1:=aR q 1;have HB:=Hd (((aA (aB w _) hb1).setCell (p:=⟨w.heap.size,0,none⟩) (Nl _) (.string ⟨rn.toArray⟩)).setCell (p:=⟨w.heap.size,1,none⟩) (Nl _) (.string ⟨rd.toArray⟩));clear q hb1;go_wp2;exact bodyPost_ret (v:=.agg #[.string ⟨rn.toArray⟩,.string ⟨rd.toArray⟩]) (by simp[results,results170,go_sem,k0,k1]) rfl ⟨rfl,HB.out⟩
theorem zH(n d:List UInt8)(w:World)(hE:iE w)(hn:n.length<=2000)(hd:d.length<=2000)(h0:val d≠0):
  Calls prog 170 #[.string ⟨n.toArray⟩,.string ⟨d.toArray⟩] w fun e w'=>e=.returned (.agg #[.string ⟨(aJ (eT (val n) (val d))).toArray⟩,.string ⟨(nD (fT (val n) (val d))).toArray⟩])/\Below w.heap.size w w' :=
 bK4 n d w hE (K:=2000) (by decide) (by decide) hn hd h0
theorem rD(n d:List UInt8)(w:World)(hd:d.length<=10000000000):
  Calls prog 212 #[.agg #[.string ⟨n.toArray⟩,.string ⟨d.toArray⟩]] w fun e w'=>e=.returned (.tuple #[.string ⟨n.toArray⟩,.string ⟨(jN d).toArray⟩])/\Below w.heap.size w w':=by
 have HC:=Hd (fun W=>nV d [] W (by omega) (by simp));rw[show val []=0 from rfl] at HC;unfold jN
 by_cases h0:val d=0
 ·rw[if_pos h0];have hc:bG (val d) 0=0:=by unfold bG;rw[if_neg (by omega),if_neg (by omega)]
  rw[hc] at HC;clear hc h0;go_enter func212,ntmps212;go_wp2_with fail;refine(HC.out _).mono ?_;rintro e w1 ⟨rfl,hb1⟩;have q:=sT (n:=0) hb1;have k0:=aS q 0;have HB:=Hd (aA (aB w _) hb1);clear q hb1;go_wp2;go_ret2;exact⟨rfl,HB.out⟩
 ·rw[if_neg h0];have hc:(bG (val d) 0==0)=false:=by unfold bG;split;rfl;split;rfl;omega
  generalize bG (val d) 0=cv at *;clear h0;go_enter func212,ntmps212;go_wp2_with fail;refine(HC.out _).mono ?_;rintro e w1 ⟨rfl,hb1⟩;have q:=sT (n:=0) hb1;have k0:=aS q 0;have k1:=aS q 1;have HB:=Hd (aA (aB w _) hb1);clear q hb1;go_wp2_with fail;go_quiet (fail);go_wp2;go_ret2;exact⟨rfl,aD HB.out _⟩
end
end Go.Proofs.YtiloklnjjfaagaaGreatDoor
