/- QuotesX Series SerRow -/
import Derived.Test.YtejkibnaidiklaaGreatDoorJMem
import Derived.Test.YtejkibnaidiklaaGreatDoorJPriceA
import Derived.Test.YtejkibnaidiklaaGreatDoorJWhereA
import Derived.Test.YtejkibnaidiklaaGreatDoorJPriceB
import Derived.Test.YtejkibnaidiklaaGreatDoorJRowF
import Derived.Maps.OwnIn
set_option maxHeartbeats 16000000
set_option maxRecDepth 100000
namespace Go.Proofs.YtejkibnaidiklaaGreatDoor
section
open Go Go.RowKit Go.Shelf Num
structure aR1(N:Nat)(X:World→Nat→Prop)(A B:World):Prop where
 os:B.os=A.os
 tape:B.tape=A.tape
 output:B.output=A.output
 size:A.heap.size≤B.heap.size
 block:∀k o,¬ X A k→A.heap[k]?=some o→(k<N∨o.isCells=true)→B.heap[k]?=some o
 grow:∀k,X B k→X A k∨A.heap.size≤k
def aUg(X:World→Nat→Prop)(m:Nat)(W:World):Prop:=(∀k,X W k→k<W.heap.size)∧¬ X W m
def KpX(N:Nat)(X:World→Nat→Prop)(A B:World):Prop:=aR1 N X A B∧((∀k,X A k→k<A.heap.size)→∀k,X B k→k<B.heap.size)
def XR(X:World→Nat→Prop)(m:Nat)(W:World)(k:Nat):Prop:=X W k∨m≤k
def aUj(ins:List UInt8)(fs:List aE)(q:aJv):Prop:=∃f,f∈fs∧isQ ins f=true∧q=aJz f
theorem aU0{l:List aJv}{p q:aJv}(h:q∈aJ9 l p):q∈l∨q=p:=by
 unfold aJ9 at h;split at h
 ·split at h
  ·rcases List.mem_append.1 h with h|h
   ·exact .inl ((List.dropLast_sublist _).subset h)
   ·exact .inr (List.mem_singleton.1 h)
  ·rcases List.mem_append.1 h with h|h
   ·exact .inl h
   ·exact .inr (List.mem_singleton.1 h)
 ·rcases List.mem_append.1 h with h|h
  ·exact .inl h
  ·exact .inr (List.mem_singleton.1 h)
theorem aUt{ins:List UInt8}:∀(fs:List aE) (acc:List aJv) (q:aJv),q∈fs.foldl (aJ1 ins) acc→q∈acc∨aUj ins fs q:=by
 intro fs
 induction fs with
 |nil=>exact fun acc q h=>.inl h
 |cons f r ih =>
  intro acc q h;rw[List.foldl_cons] at h;rcases ih _ q h with h|⟨g,hg,h1,h2⟩
  ·unfold aJ1 at h;split at h
   ·rename_i hq;rcases aU0 h with h|h
    ·exact .inl h
    ·exact .inr ⟨f,List.mem_cons_self,hq,h⟩
   ·exact .inl h
  ·exact .inr ⟨g,List.mem_cons_of_mem _ hg,h1,h2⟩
theorem aVo{ins:List UInt8}{fs:List aE}{q:aJv}(h:q∈ser ins fs):aUj ins fs q:=by
 rcases aUt fs [] q h with h|h
 ·cases h
 ·exact h
def aVj{α:Type}(n:Nat)(P:Program)(gf:Nat)(lb:Array Value)(encs:α→Array Value)(Kp:World→World→Prop)(S:List α→Prop)(N:Nat)(w1:World)(G:α→Prop):Prop :=
 ∀(l:Nat) (J:List α→World→Prop),(∀pre A B,J pre A→aR4 w1.heap.size A B→J pre B) →
  (∀pre x W,J pre W→pre.length<N→G x→YieldAt Fence.wide (n-1) P l (encs x) W fun e W'=>e=.returned (.bool true)∧J (pre ++ [x]) W'∧Kp W W')→J [] w1 →
  CallsIn Fence.wide n P gf (#[.func (.yield l) #[] #[]]++lb) w1 fun e W'=>(∃v,e=.returned v)∧∃xs,S xs∧J xs W'
section
variable {N m:Nat}{X:World→Nat→Prop}{A B C:World}
theorem aR1.refl(N:Nat)(X:World→Nat→Prop)(A:World):aR1 N X A A:=⟨rfl,rfl,rfl,Nl _,fun _ _ _ h _=>h,fun _ h=>.inl h⟩
theorem aR1.trans(h:aR1 N X A B)(g:aR1 N X B C):aR1 N X A C :=
 ⟨g.os.trans h.os,g.tape.trans h.tape,g.output.trans h.output,Nat.le_trans h.size g.size,fun k o hk ho hn=>g.block k o (fun hx=>by
  have hl:=(Ai.1 ho).1;rcases h.grow k hx with h'|h'
  ·exact hk h'
  ·omega) (h.block k o hk ho hn) hn,fun k hx=>by
  rcases g.grow k hx with h'|h'
  ·exact h.grow k h'
  ·exact .inr (Nat.le_trans h.size h')⟩
theorem KpX.trans(h:KpX N X A B)(g:KpX N X B C):KpX N X A C:=⟨h.1.trans g.1,fun hl=>g.2 (h.2 hl)⟩
theorem aR1.box(h:aR1 N X A B){b:Nat}{cs:Array Value}{T:TypeId}(hp:¬ X A b)(hb:aP A b cs T):aP B b cs T :=
 ⟨Nat.lt_of_lt_of_le hb.1 h.size,h.block b _ hp hb.2 (.inr rfl)⟩
theorem aR1.below{n:Nat}(h:aR1 N X A B)(hA:n≤A.heap.size)(hp:∀k,k<n→¬ X A k∧k<N):Below n A B :=
 ⟨h.os,h.tape,h.output,h.size,fun k hk=>by
  have hl:k<A.heap.size:=Nat.lt_of_lt_of_le hk hA;rw[h.block k _ (hp k hk).1 (Array.getElem?_eq_getElem hl) (.inl (hp k hk).2),Array.getElem?_eq_getElem hl]⟩
theorem aUx(hXm:∀A B,m≤A.heap.size→aR4 m A B→∀k,X B k→X A k)(hA:m≤A.heap.size)(h:aR4 m A B):aR1 N (XR X m) A B:=by
 have hg:∀k,XR X m B k→XR X m A k∨A.heap.size≤k:=fun k hx=>by
  rcases hx with hx|hx
  ·exact .inl (.inl (hXm A B hA h k hx))
  ·exact .inl (.inr hx)
 rcases h with h|h
 ·exact⟨h.os,h.tape,h.output,h.size,fun k o _ ho _=>(h.block k (Ai.1 ho).1 (by simp)).trans ho,hg⟩
 ·exact⟨h.os,h.tape,h.output,h.size,fun k o hk ho _=>(h.block k (Ai.1 ho).1 (fun e=>hk (.inr (by injection e with e;omega)))).trans ho,hg⟩
theorem aRw(hXm:∀A B,m≤A.heap.size→aR4 m A B→∀k,X B k→X A k)(hA:m≤A.heap.size)(h:Below A.heap.size A B):aR1 N (XR X m) A B:=aUx hXm hA (.inl (gZ h))
theorem aU2(hXm:∀A B,m≤A.heap.size→aR4 m A B→∀k,X B k→X A k)(hA:m≤A.heap.size)(h:A.grownBy B (some m)):aR1 N (XR X m) A B:=aUx hXm hA (.inr h)
theorem aVb(h:aR1 N X A B):aR1 N (XR X m) A B:=⟨h.os,h.tape,h.output,h.size,fun k o hk ho hn=>h.block k o (fun hx=>hk (.inl hx)) ho hn,fun k hx=>by
 rcases hx with hx|hx
 ·rcases h.grow k hx with h'|h'
  ·exact .inl (.inl h')
  ·exact .inr h'
 ·exact .inl (.inr hx)⟩
theorem aS0(hXm:∀A B,m≤A.heap.size→aR4 m A B→∀k,X B k→X A k)(hA:m≤A.heap.size)(h:aR4 m A B)(hl:aUg X m A):aUg X m B :=
 ⟨fun k hx=>Nat.lt_of_lt_of_le (hl.1 k (hXm A B hA h k hx)) (aSa h),fun hx=>hl.2 (hXm A B hA h m hx)⟩
theorem aU9(hl:aUg X m A)(h:KpX N X A B)(hm:m<A.heap.size):aUg X m B :=
 ⟨h.2 hl.1,fun hx=>by
  rcases h.1.grow m hx with h'|h'
  ·exact hl.2 h'
  ·omega⟩
end
theorem aUe{P:Program}{n:Nat}{α:Type}{g:Operand}{ps:Array Tmp}{assign body:Code}{Q:Exit→Act→World→Prop}{a:Act}{w:World}
  {gf:Nat}{lb:Array Value}(hg:a.eval g=.func (.func gf) #[] lb) (eg:∀args w,(callFunc gf args).run P w=.ok (.enter gf args) w)
  {encs:α→Array Value}{Kp:World→World→Prop}{S:List α→Prop}{N:Nat}
  (hKt:∀ {A B C:World},Kp A B→Kp B C→Kp A C) (hKb:∀(W:World) (l:Nat) (o o':Obj),w.heap.size≤l→W.heap[l]?=some o→o.isCells=false→Kp W (W.putObj l o')) (hps:∀x,(encs x).size=ps.size)
  {G:α→Prop}(hseq:∀W1,Below w.heap.size w W1→W1.heap.size=w.heap.size+2→aVj (n-1) P gf lb encs Kp S N W1 G)
  (I:List α→World→Prop) (hI:OwnFrom w.heap.size I) (hIm:∀pre A B,I pre A→aR4 (w.heap.size+2) A B→I pre B) (h0:I [] w) (Asg:α→Act→World→Prop) (hAx:∀x a',OwnFrom w.heap.size (fun (_:Unit) W=>Asg x a' W))
  (hassign:∀(l:Nat) (pre:List α) (x:α) (W:World) (K:Act→World→Prop),I pre W→w.heap.size+2≤W.heap.size→(∀a' W',KeepsFrom w.heap.size W W'→Kp W W'→I pre W'→Asg x a' W'→K a' W') →
   assign.wpIn (Fence.wide.inRound l) (n-1-1) P (Exit.then K (fun _ _ _=>False)) { tmps:=(ps.zip (encs x)).foldl (fun t (p,v)=>t.setIfInBounds p v) a.tmps,defers:=[] } W)
  (hbody:∀(l:Nat) (pre:List α) (x:α) (a':Act) (W:World),I pre W→w.heap.size+2≤W.heap.size→Asg x a' W→pre.length<N→G x→body.wpIn (Fence.wide.inRound l) (n-1-1) P (fun e _ W'=>e=.normal∧KeepsFrom w.heap.size W W'∧Kp W W'∧I (pre ++ [x]) W') a' W)
  (hdone:∀(D:Nat) (xs:List α) (W:World),w.heap.size≤D→S xs→I xs W→W.heap[D]?=some (.deferred (some []))→Q .normal { a with defers:={ target:=.collected D,args:=#[] }::a.defers } W) :
  (Code.rangeFunc g ps assign body).wpIn Fence.wide n P Q a w:=by
 refine wpIn_rangeFunc fun fn hfn=>?_
 obtain⟨L,hL⟩:∃L:LoopState→Loop,L=fun st=>{ state:=st,pending:=none,fn,tmps:=a.tmps,params:=ps,assign,body,defers:=w.heap.size }:=⟨_,rfl⟩
 have hs1:((w.alloc (.deferred (some []))).alloc (.loop (L .ready))).heap.size=w.heap.size+2:=by rw[World.size_alloc,World.size_alloc]
 have hb1:Below w.heap.size w ((w.alloc (.deferred (some []))).alloc (.loop (L .ready))):=((Br _ w).alloc (Nl _) _).alloc (by simp) _;have hR1:((w.alloc (.deferred (some []))).alloc (.loop (L .ready))).heap[w.heap.size+1]?=some (.loop (L .ready))∧((w.alloc (.deferred (some []))).alloc (.loop (L .ready))).heap[w.heap.size]?=some (.deferred (some [])):=by
  refine⟨?_,(Below.heap_alloc _ _ _ (by simp)).trans (World.alloc_heap_new w _)⟩;have:=World.alloc_heap_new (w.alloc (.deferred (some []))) (.loop (L .ready))
  rwa [World.size_alloc] at this
 have hI1:I [] ((w.alloc (.deferred (some []))).alloc (.loop (L .ready))):=hI.alloc _ (hI.alloc _ h0);have hq:=hseq _ hb1 hs1;rw[show aVj (n-1) P gf lb encs Kp S N ((w.alloc (.deferred (some []))).alloc (.loop (L .ready))) G=_ from rfl] at hq;unfold aVj at hq;rw[hs1] at hq;refine⟨w.heap.size+1,[{ target:=.collected w.heap.size,args:=#[] }],(w.alloc (.deferred (some []))).alloc (.loop (L .ready)),{ target:=.fn (.func gf) lb,args:=#[.func (.yield (w.heap.size+1)) #[] #[]] },(w.alloc (.deferred (some []))).alloc (.loop (L .ready)),gf,
  #[.func (.yield (w.heap.size+1)) #[] #[]]++lb,(w.alloc (.deferred (some []))).alloc (.loop (L .ready)),?_,?_,fun _ _=>trivial,?_,fun h=>absurd h (by decide),?_⟩
 ·rw[hL];exact run_enterLoop_outer _ _ _ _ _
 ·simp only[resolve,hg];simp[go_sem]
 ·simp[invoke,go_sem,eg]
 ·refine(hq (w.heap.size+1) (fun pre W=>I pre W∧W.heap[w.heap.size+1]?=some (.loop (L .ready))∧W.heap[w.heap.size]?=some (.deferred (some []))) ?_ ?_ ⟨hI1,hR1⟩).mono ?_
  ·rintro pre A B ⟨hi,hl,hk⟩ hm;refine⟨hIm pre A B hi hm,?_⟩;have h1:=(Ai.1 hl).1;have h2:=(Ai.1 hk).1;rcases hm with hm|hm
   ·exact⟨(hm.block _ h1 (by simp)).trans hl,(hm.block _ h2 (by simp)).trans hk⟩
   ·exact⟨(hm.block _ h1 (by simp)).trans hl,(hm.block _ h2 (by simp)).trans hk⟩
  ·rintro pre x W ⟨hi,hl,hk⟩ hlen hG;have hlt:w.heap.size+1<W.heap.size:=(Ai.1 hl).1;have hy:=run_yield (P:=P) (args:=encs x) hl (by rw[hL];exact hps x);rw[hL] at hy;refine⟨fn,_,assign,body,hy,roundIn_of_wpIn hfn (hassign (w.heap.size+1) pre x W _ hi (by omega) fun a' W' hkf hkp hi' hax=>?_)⟩;have hl':W'.heap[w.heap.size+1]?=some (.loop (L .ready)):=hkf.same _ _ (by omega) hl rfl;have hk':W'.heap[w.heap.size]?=some (.deferred (some [])):=hkf.same _ _ (Nl _) hk rfl;have hlt':w.heap.size+1<W'.heap.size:=(Ai.1 hl').1;refine⟨_,run_beginRound hl' (by rw[hL]),?_⟩;have hl2:(W'.putObj (w.heap.size+1) (.loop { L .ready with state:=.busy })).heap[w.heap.size+1]?=some (.loop { L .ready with state:=.busy }):=World.putObj_heap_same hlt';have hk2:(W'.putObj (w.heap.size+1) (.loop { L .ready with state:=.busy })).heap[w.heap.size]?=some (.deferred (some [])):=(World.putObj_heap_other (by omega)).trans hk';have hp2:=hKb W' (w.heap.size+1) _ (.loop { L .ready with state:=.busy }) (by omega) hl' rfl;refine wpIn_mono (hbody (w.heap.size+1) pre x a' _ (hI.putObj _ hi' (by omega) hl' rfl) (Nat.le_trans (show w.heap.size+2≤W'.heap.size by omega) (by simp[World.putObj])) ((hAx x a').putObj (s:=()) _ hax (by omega) hl' rfl) hlen hG) ?_;rintro e a3 W3 ⟨rfl,hk3,hp3,hi3⟩;have hl3:=hk3.same _ _ (by omega) hl2 rfl;have hr:=run_endRound (P:=P) none hl3;rw[hL] at hr;refine⟨_,_,hr,rfl,⟨hI.putObj _ hi3 (by omega) hl3 rfl,?_,(World.putObj_heap_other (by omega)).trans (hk3.same _ _ (Nl _) hk2 rfl)⟩,hKt (hKt (hKt hkp hp2) hp3) (hKb _ _ _ _ (by omega) hl3 rfl)⟩;rw[World.putObj_heap_same (Ai.1 hl3).1,hL];rfl
  ·rintro e W2 ⟨⟨v,rfl⟩,xs,hS,hi,hl,hk⟩;have he:=run_endLoop (P:=P) hl (by rw[hL];simp);rw[hL] at he;exact⟨none,_,he,hdone _ xs _ (Nl _) hS (hI.putObj _ hi (by omega) hl rfl) ((World.putObj_heap_other (by omega)).trans hk)⟩
attribute [local go_sem] Oper.semAt_some
theorem aT9(n:Nat)(xs:List aF)(a:Option Addr)(c bl bi:Nat)(ins:List UInt8)(N:Nat)(X:World→Nat→Prop)(w1:World)(hn:xs.length≤1000000)(hXm:∀A B,w1.heap.size≤A.heap.size→aR4 w1.heap.size A B→∀k,X B k→X A k)(hX0:aUg X w1.heap.size w1)(hS:∀W,aR1 N (XR X w1.heap.size) w1 W→aRa W xs a c bl bi ins):
  aVj n Tryz.prog 118 #[.pointer (some ⟨bl,0,none⟩),.pointer (some ⟨bi,0,none⟩)] aSy (KpX N X) (fun ys=>ys=ser ins (xs.map aF.f)) (xs.length+1) w1 (aUj ins (xs.map aF.f)):=by
 intro l J hJ hY h0;have HY:=Hd hY;have HJM:=Hd hJ;have HS:=Hd hS;have HXM:=Hd hXm;have HLX0:Hid (aUg X w1.heap.size (w1.alloc (.cells Z3 46))):=aS0 hXm (Nl _) (.inl (World.grownBy_alloc _ _ none)) hX0;have H0:Hid (J [] (w1.alloc (.cells Z3 46))):=hJ [] _ _ h0 (.inl (World.grownBy_alloc _ _ none));have HQ0:=Hd (aP.new0 w1 Z3 46);have HK0:Hid (aR1 N (XR X w1.heap.size) w1 (w1.alloc (.cells Z3 46))):=aRw hXm (Nl _) (aB _ _);have k1:(w1.alloc (.cells #[.int .i64 0,.string ⟨#[]⟩,.string ⟨#[]⟩] 46)).cell? ⟨bl,0,none⟩=some (.slice a xs.length c):=((hS _ (aR1.refl _ _ _)).kl.below (aB w1 (.cells Z3 46))).cell 0;obtain⟨L,hL⟩:∃L:Nat→List aJv,L=fun k=>ser ins ((xs.map aF.f).take k):=⟨_,rfl⟩
 have HL0:Hid (L 0=[]):=by show _=_;rw[hL];rfl
 have HLS:Hid (∀k x,xs[k]?=some x→L (k+1)=aJ1 ins (L k) x.f):=fun k x hx=>by rw[hL];exact aLm (by rw[List.getElem?_map,hx];rfl)
 have HLE:Hid (L xs.length=ser ins (xs.map aF.f)):=by show _=_;rw[hL];simp only;rw[List.take_of_length_le (by simp)]
 have HLN:Hid (∀k,(L k).length≤k):=fun k=>by rw[hL];exact Nat.le_trans (aLw _ _) (by simp;omega)
 have HLG:Hid (∀k q,q∈L k→aUj ins (xs.map aF.f) q):=fun k q hq=>by rw[hL] at hq;obtain⟨f,hf,h⟩:=aVo hq;exact⟨f,List.mem_of_mem_take hf,h⟩
 clear hY hJ hS hXm hX0 h0 hL;refine callsIn_of_wp Tryz.func118 rfl trivial ?_ rfl;simp only[Tryz.ntmps118,List.size_toArray,List.length_cons,List.length_nil,Nat.reduceAdd,Nat.reduceSub,Array.replicate_succ,Array.replicate_zero,List.push_toArray,List.append_toArray,List.nil_append,List.cons_append];gi_wp2;gi_loopw [5,10] (fun bv iv wr=>∃k:Nat,k≤xs.length∧iv=.int .i64 k∧bv=.bool (!(L k).isEmpty)∧Hid (J (L k).dropLast wr)∧Hid (aP wr w1.heap.size (aPs (L k)) 46)∧Hid (aR1 N (XR X w1.heap.size) w1 wr)∧Hid (aUg X w1.heap.size wr)) (fun _ iv _=>xs.length-(intOf iv).toNat)
 case atStart=>exact⟨0,Nat.zero_le _,rfl,by rw[HL0.out];rfl,by show J _ _;rw[HL0.out];exact H0.out,by show aP _ _ _ _;rw[HL0.out];exact HQ0.out,HK0,HLX0⟩
 case round =>
  obtain⟨k,hk,rfl,rfl,HJ,HQ,HK,HLX⟩:=hrel;clear k1 H0 HQ0 HK0 HL0 HLX0;have HW:=Hd (HS.out _ HK.out);have HONE3:Hid (∀q,(aOx q).all (·.oneCell')=true):=fun q=>by simp[aOx,Value.oneCell']
  have HSQ:Hid (∀q,(Tryz.prog.info? 46).map (·.size)=some (aOx q).size):=fun _=>aPm
  have HLK:=Hd (HLN.out k);have HGK:=Hd (HLG.out k);clear HLG
  by_cases hlt:k<xs.length
  ·obtain⟨x,hx⟩:∃x,xs[k]?=some x:=⟨xs[k],Lg hlt⟩
   obtain⟨b,off,rfl,_,hc⟩:=HW.out.facts.1.addr (k:=k) (cs:=x.cells) (by rw[List.getElem?_map,hx];rfl);have HC:Hid (∀j v,x.arr.toList[j]?=some v→wr.cell? ⟨b,off+k*21+j,none⟩=some v):=hc;have k1:=HW.out.kl.cell 0;have HSZ:Hid ((Tryz.prog.info? 59).map (·.size)=some x.arr.size):=aY x.f x.pa x.oa x.pc x.oc;have HONE:=Hd (dV x);have HSTEP:=Hd (HLS.out k x hx);have hsz21:x.arr.size=21:=rfl;have HXC:Hid (x.arr[3]?=some (.int .i64 x.f.day)∧x.arr[4]?=some (.int .i64 x.f.kind)∧x.arr[5]?=some (.string ⟨x.f.ins.toArray⟩)∧x.arr[12]?=some (.string ⟨x.f.price.n.toArray⟩)∧x.arr[13]?=some (.string ⟨x.f.price.d.toArray⟩)):=⟨rfl,rfl,rfl,rfl,rfl⟩
   have HNQ:Hid (aOx (aJz x.f)=#[.int .i64 x.f.day,.string ⟨x.f.price.n.toArray⟩,.string ⟨x.f.price.d.toArray⟩]∧(aJz x.f).day=x.f.day):=⟨rfl,rfl⟩
   have HIQ:Hid (isQ ins x.f=(decide (x.f.kind=15)&&(x.f.ins==ins))):=rfl;unfold aJ1 at HSTEP;generalize hfc:x.arr=fc at *;generalize x.f.day=xd at *;generalize x.f.kind=kd at *;generalize x.f.ins=xi at *;generalize x.f.price.n=pn at *;generalize x.f.price.d=pd at *;generalize aJz x.f=nq at *;generalize isQ ins x.f=iq at *;have HBa:Hid (Below wr.heap.size wr (wr.alloc (.cells eS 59))):=aB _ _;have HS21:Hid (eS.size=fc.size):=hsz21.symm;have HNEW:=Hd (heap_alloc_new wr (.cells eS 59));clear hsz21 hc hx hfc
   by_cases hk15:kd=15
   case neg =>
    have h15:(kd==15)=false:=by simpa using hk15
    have HSAME:Hid (L (k+1)=L k):=by show _=_;rw[HSTEP.out,HIQ.out];simp[hk15]
    clear HSTEP HIQ HNQ;gi_wp2_with (first|(refine uP (by rfl) 59 _ rfl b (off+k*21) rfl fc _ HC.out Tryz.underlying59 rfl HSZ.out ?_)|(refine bQ (by rfl) 59 _ _ rfl wr.heap.size rfl fc rfl HNEW.out HSZ.out HS21.out HONE.out ?_;intro w4 kx bx _ _ _;have hb4:=HBa.out.trans (bx _ (Nl _));have KX4:=Hd kx;have HB4:=Hd hb4;have k2:=(HS.out _ (HK.out.trans (aRw HXM.out HK.out.size hb4))).ki.cell 0;have x3:=(kx.cell 3).trans HXC.out.1;have x4:=(kx.cell 4).trans HXC.out.2.1;have x5:=(kx.cell 5).trans HXC.out.2.2.1;have x12:=(kx.cell 12).trans HXC.out.2.2.2.1;have x13:=(kx.cell 13).trans HXC.out.2.2.2.2;clear kx bx hb4));go_roundw
    case rel=>exact⟨k+1,by omega,by go_num,by rw[HSAME.out],by show J _ _;rw[HSAME.out];exact HJM.out _ _ _ HJ.out (.inl (gZ HB4.out)),by show aP _ _ _ _;rw[HSAME.out];exact HQ.out.below HB4.out,HK.out.trans (aRw HXM.out HK.out.size HB4.out),aS0 HXM.out HK.out.size (.inl (gZ HB4.out)) HLX.out⟩
    case measure=>simp[intOf];omega
   subst hk15;cases hin:(xi==ins) with
   |false =>
    have HSAME:Hid (L (k+1)=L k):=by show _=_;rw[HSTEP.out,HIQ.out,hin];simp
    clear HSTEP HIQ HNQ;gi_wp2_with (first|(refine uP (by rfl) 59 _ rfl b (off+k*21) rfl fc _ HC.out Tryz.underlying59 rfl HSZ.out ?_)|(refine bQ (by rfl) 59 _ _ rfl wr.heap.size rfl fc rfl HNEW.out HSZ.out HS21.out HONE.out ?_;intro w4 kx bx _ _ _;have hb4:=HBa.out.trans (bx _ (Nl _));have KX4:=Hd kx;have HB4:=Hd hb4;have k2:=(HS.out _ (HK.out.trans (aRw HXM.out HK.out.size hb4))).ki.cell 0;have x3:=(kx.cell 3).trans HXC.out.1;have x4:=(kx.cell 4).trans HXC.out.2.1;have x5:=(kx.cell 5).trans HXC.out.2.2.1;have x12:=(kx.cell 12).trans HXC.out.2.2.2.1;have x13:=(kx.cell 13).trans HXC.out.2.2.2.2;clear kx bx hb4));go_roundw
    case rel=>exact⟨k+1,by omega,by go_num,by rw[HSAME.out],by show J _ _;rw[HSAME.out];exact HJM.out _ _ _ HJ.out (.inl (gZ HB4.out)),by show aP _ _ _ _;rw[HSAME.out];exact HQ.out.below HB4.out,HK.out.trans (aRw HXM.out HK.out.size HB4.out),aS0 HXM.out HK.out.size (.inl (gZ HB4.out)) HLX.out⟩
    case measure=>simp[intOf];omega
   |true =>
    have HADD:Hid (L (k+1)=aJ9 (L k) nq):=by show _=_;rw[HSTEP.out,HIQ.out,hin];simp
    clear HSTEP HIQ;generalize L k=lk at *;rcases aQu lk with rfl|⟨l',p,rfl⟩
    ·have HNEXT:Hid (L (k+1)=[nq]):=HADD.out;have HJ0:Hid (J [] wr):=HJ.out;have HQ1:Hid (aP wr w1.heap.size Z3 46):=HQ.out;clear HADD HJ HQ;simp only[List.isEmpty_nil,Bool.not_true];gi_wp2_with (first|(refine uP (by rfl) 59 _ rfl b (off+k*21) rfl fc _ HC.out Tryz.underlying59 rfl HSZ.out ?_)|(refine bQ (by rfl) 59 _ _ rfl wr.heap.size rfl fc rfl HNEW.out HSZ.out HS21.out HONE.out ?_;intro w4 kx bx _ _ _;have hb4:=HBa.out.trans (bx _ (Nl _));have KX4:=Hd kx;have HB4:=Hd hb4;have k2:=(HS.out _ (HK.out.trans (aRw HXM.out HK.out.size hb4))).ki.cell 0;have x3:=(kx.cell 3).trans HXC.out.1;have x4:=(kx.cell 4).trans HXC.out.2.1;have x5:=(kx.cell 5).trans HXC.out.2.2.1;have x12:=(kx.cell 12).trans HXC.out.2.2.2.1;have x13:=(kx.cell 13).trans HXC.out.2.2.2.2;clear kx bx hb4));refine⟨fun f h=>(by cases h),?_⟩;have HQ4:=Hd (HQ1.out.below HB4.out);gi_wp2_with (first|(refine bQ (by rfl) 46 _ _ rfl w1.heap.size rfl #[.int .i64 xd,.string ⟨pn.toArray⟩,.string ⟨pd.toArray⟩] rfl HQ4.out.2 (HSQ.out ⟨xd,⟨pn,pd⟩⟩) rfl (HONE3.out ⟨xd,⟨pn,pd⟩⟩) ?_;intro w6 kq _ _ _ gq;have KQ6:=Hd kq;have GQ6:=Hd gq;clear kq gq));have hj6:=HJM.out _ _ _ (HJM.out _ _ _ HJ0.out (.inl (gZ HB4.out))) (.inr GQ6.out);have hk4:=HK.out.trans (aRw HXM.out HK.out.size HB4.out);have hk6:aR1 N (XR X w1.heap.size) w1 w6:=hk4.trans (aU2 HXM.out hk4.size GQ6.out);have HLX6:=Hd (aS0 HXM.out hk4.size (.inr GQ6.out) (aS0 HXM.out HK.out.size (.inl (gZ HB4.out)) HLX.out));have HJ6:=Hd hj6;have HK6:=Hd hk6;clear hj6 hk6 hk4;go_roundw
     case rel=>exact⟨k+1,by omega,by go_num,by rw[HNEXT.out];simp,by show J _ _;rw[HNEXT.out];skip;exact HJ6.out,by show aP _ _ _ _;rw[HNEXT.out];rw[show aPs [nq]=aOx nq from rfl,HNQ.out.1];exact KQ6.out,HK6,HLX6⟩
     case measure=>simp[intOf];omega
    ·rw[show (!(l' ++ [p]).isEmpty)=true by simp];have hj':=HJ.out;rw[List.dropLast_concat] at hj';have HJ1:=Hd hj';have hq':=HQ.out;rw[aP1] at hq';have HQ1:=Hd hq';have HLL:Hid (l'.length<xs.length+1):=by have:=HLK.out;rw[List.length_append] at this;show _<_;simp at this;omega
     clear hj' hq' HJ HQ HLK
     by_cases hd:p.day=xd
     ·have HNEXT:Hid (L (k+1)=l' ++ [nq]):=by show _=_;rw[HADD.out,aKl (by rw[HNQ.out.2];exact hd)]
      clear HADD;obtain⟨pq,hpq⟩:∃pq,pq=p.day:=⟨_,rfl⟩
      have HQ0c:Hid ((aOx p)[0]?=some (.int .i64 xd)):=by show _=_;rw[←hd];rfl
      clear hpq hd;gi_wp2_with (first|(refine uP (by rfl) 59 _ rfl b (off+k*21) rfl fc _ HC.out Tryz.underlying59 rfl HSZ.out ?_)|(refine bQ (by rfl) 59 _ _ rfl wr.heap.size rfl fc rfl HNEW.out HSZ.out HS21.out HONE.out ?_;intro w4 kx bx _ _ _;have hb4:=HBa.out.trans (bx _ (Nl _));have KX4:=Hd kx;have HB4:=Hd hb4;have q0:=((HQ1.out.below hb4).cell 0).trans HQ0c.out;have k2:=(HS.out _ (HK.out.trans (aRw HXM.out HK.out.size hb4))).ki.cell 0;have x3:=(kx.cell 3).trans HXC.out.1;have x4:=(kx.cell 4).trans HXC.out.2.1;have x5:=(kx.cell 5).trans HXC.out.2.2.1;have x12:=(kx.cell 12).trans HXC.out.2.2.2.1;have x13:=(kx.cell 13).trans HXC.out.2.2.2.2;clear kx bx hb4));refine⟨fun f h=>(by cases h),?_⟩;have HQ4:=Hd (HQ1.out.below HB4.out);gi_wp2_with (first|(refine bQ (by rfl) 46 _ _ rfl w1.heap.size rfl #[.int .i64 xd,.string ⟨pn.toArray⟩,.string ⟨pd.toArray⟩] rfl HQ4.out.2 (HSQ.out ⟨xd,⟨pn,pd⟩⟩) rfl (HONE3.out ⟨xd,⟨pn,pd⟩⟩) ?_;intro w6 kq _ _ _ gq;have KQ6:=Hd kq;have GQ6:=Hd gq;clear kq gq));have hj6:=HJM.out _ _ _ (HJM.out _ _ _ HJ1.out (.inl (gZ HB4.out))) (.inr GQ6.out);have hk4:=HK.out.trans (aRw HXM.out HK.out.size HB4.out);have hk6:aR1 N (XR X w1.heap.size) w1 w6:=hk4.trans (aU2 HXM.out hk4.size GQ6.out);have HLX6:=Hd (aS0 HXM.out hk4.size (.inr GQ6.out) (aS0 HXM.out HK.out.size (.inl (gZ HB4.out)) HLX.out));have HJ6:=Hd hj6;have HK6:=Hd hk6;clear hj6 hk6 hk4;go_roundw
      case rel=>exact⟨k+1,by omega,by go_num,by rw[HNEXT.out];simp,by show J _ _;rw[HNEXT.out];rw[List.dropLast_concat];exact HJ6.out,by show aP _ _ _ _;rw[HNEXT.out];rw[aP1,HNQ.out.1];exact KQ6.out,HK6,HLX6⟩
      case measure=>simp[intOf];omega
     ·have HNEXT:Hid (L (k+1)=(l' ++ [p]) ++ [nq]):=by show _=_;rw[HADD.out,aKm (by rw[HNQ.out.2];exact hd)]
      clear HADD;have HQ0c:Hid ((aOx p)[0]?=some (.int .i64 p.day)):=rfl;have hd':(p.day==xd)=false:=by simpa using hd
      have hd2:(p.day != xd)=true:=by simpa using hd
      generalize p.day=pq at *;gi_wp2_with (first|(refine uP (by rfl) 59 _ rfl b (off+k*21) rfl fc _ HC.out Tryz.underlying59 rfl HSZ.out ?_)|(refine bQ (by rfl) 59 _ _ rfl wr.heap.size rfl fc rfl HNEW.out HSZ.out HS21.out HONE.out ?_;intro w4 kx bx _ _ _;have hb4:=HBa.out.trans (bx _ (Nl _));have KX4:=Hd kx;have HB4:=Hd hb4;have q0:=((HQ1.out.below hb4).cell 0).trans HQ0c.out;have k2:=(HS.out _ (HK.out.trans (aRw HXM.out HK.out.size hb4))).ki.cell 0;have x3:=(kx.cell 3).trans HXC.out.1;have x4:=(kx.cell 4).trans HXC.out.2.1;have x5:=(kx.cell 5).trans HXC.out.2.2.1;have x12:=(kx.cell 12).trans HXC.out.2.2.2.1;have x13:=(kx.cell 13).trans HXC.out.2.2.2.2;obtain⟨fn,tmps,assign,body,hy,hRd⟩:=HY.out l' p w4 (HJM.out _ _ _ HJ1.out (.inl (gZ hb4))) HLL.out (HGK.out p (by simp));rw[show aSy p=#[.agg (aOx p)] from rfl] at hy;have HRD:=Hd hRd;clear kx bx hb4 hRd)|(refine eP (by rfl) 46 _ rfl w1.heap.size rfl (aOx p) _ (HQ1.out.below HB4.out) Tryz.underlying46 rfl (HSQ.out p) ?_));refine⟨fun h=>absurd h (by decide),HRD.out.mono ?_⟩;rintro e W3 ⟨rfl,hJ3,hk3⟩;have HJ3:=Hd hJ3;have HK3:=Hd hk3;have HB4s:Hid (w1.heap.size≤wr.heap.size):=HK.out.size;have hl4:=aS0 HXM.out HB4s.out (.inl (gZ HB4.out)) HLX.out;have HLX3:Hid (aUg X w1.heap.size W3):=aU9 hl4 hk3 (Nat.lt_of_lt_of_le HQ1.out.1 HB4.out.size);have kx3:=hk3.1.box (fun h=>absurd (HLX.out.1 _ (HXM.out _ _ HB4s.out (.inl (gZ HB4.out)) _ h)) (Nat.lt_irrefl _)) KX4.out;have x3:=(kx3.cell 3).trans HXC.out.1;have x12:=(kx3.cell 12).trans HXC.out.2.2.2.1;have x13:=(kx3.cell 13).trans HXC.out.2.2.2.2;have HQ3:=Hd (hk3.1.box hl4.2 (HQ1.out.below HB4.out));clear hJ3 hk3 kx3 hl4 hy HRD q0 k2 x4 x5 k1;gi_wp2_with (first|(refine bQ (by rfl) 46 _ _ rfl w1.heap.size rfl #[.int .i64 xd,.string ⟨pn.toArray⟩,.string ⟨pd.toArray⟩] rfl HQ3.out.2 (HSQ.out ⟨xd,⟨pn,pd⟩⟩) rfl (HONE3.out ⟨xd,⟨pn,pd⟩⟩) ?_;intro w6 kq _ _ _ gq;have KQ6:=Hd kq;have GQ6:=Hd gq;clear kq gq));have hj6:=HJM.out _ _ _ (HJ3.out) (.inr GQ6.out);have hk4:=(HK.out.trans (aRw HXM.out HK.out.size HB4.out)).trans (aVb HK3.out.1);have hk6:aR1 N (XR X w1.heap.size) w1 w6:=hk4.trans (aU2 HXM.out hk4.size GQ6.out);have HLX6:=Hd (aS0 HXM.out hk4.size (.inr GQ6.out) HLX3.out);have HJ6:=Hd hj6;have HK6:=Hd hk6;clear hj6 hk6 hk4;go_roundw
      case rel=>exact⟨k+1,by omega,by go_num,by rw[HNEXT.out];simp,by show J _ _;rw[HNEXT.out];rw[List.dropLast_concat];exact HJ6.out,by show aP _ _ _ _;rw[HNEXT.out];rw[aP1,HNQ.out.1];exact KQ6.out,HK6,HLX6⟩
      case measure=>simp[intOf];omega
  ·obtain rfl:k=xs.length:=by omega
   have k1:=HW.out.kl.cell 0;have HLE':=HLE;generalize L xs.length=lk at *;rcases aQu lk with rfl|⟨l',p,rfl⟩
   ·have HJ0:Hid (J [] wr):=HJ.out;simp only[List.isEmpty_nil,Bool.not_true];clear HJ HQ;gi_wp2;go_end0;exact⟨⟨_,rfl⟩,[],HLE'.out,HJ0.out⟩
   ·rw[show (!(l' ++ [p]).isEmpty)=true by simp];have hj':=HJ.out;rw[List.dropLast_concat] at hj';have hq':=HQ.out;rw[aP1] at hq';have HQ1:=Hd hq';have HLL:l'.length<xs.length+1:=by have:=HLK.out;rw[List.length_append] at this;simp at this;omega
    obtain⟨fn,tmps,assign,body,hy,hRd⟩:=HY.out l' p wr hj' HLL (HGK.out p (by simp));rw[show aSy p=#[.agg (aOx p)] from rfl] at hy;have HRD:=Hd hRd;clear hj' hq' hRd HLL HLK HJ HQ;gi_wp2_with (first|(refine eP (by rfl) 46 _ rfl w1.heap.size rfl (aOx p) _ HQ1.out Tryz.underlying46 rfl (HSQ.out p) ?_));refine⟨fun h=>absurd h (by decide),HRD.out.mono ?_⟩;rintro e W3 ⟨rfl,hJ3,hk3⟩;have HJ3:=Hd hJ3;clear hJ3 hk3 hy HRD;gi_wp2;go_end0;exact⟨⟨_,rfl⟩,_,HLE'.out,HJ3.out⟩
end
section
open Go Go.RowKit Go.Shelf Num
def aT7(l:List aJv):List Value:=l.flatMap fun q=>(aOx q).toList
theorem aU3(l:List aJv)(q:aJv):aT7 (l ++ [q])=aT7 l++(aOx q).toList:=by simp[aT7]
def aVm:Value:=.agg #[.int .i64 0,.string ⟨#[]⟩,.string ⟨#[]⟩]
theorem aVd:(Tryz.prog.info? 46).map (fun i=>(i.zero,i.size,i.bytes))=some (some aVm,3,40):=by kernel_rfl
theorem aUb(W:World)(cs:Array Value)(T:TypeId)(j:Nat)(u:Value)(h:cs.toList[j]?=some u):(W.alloc (.cells cs T)).cell? ((⟨W.heap.size,0,none⟩:Addr).add j)=some u:=by
 rw[show (⟨W.heap.size,0,none⟩:Addr).add j=⟨W.heap.size,j,none⟩ by by_cases hk:j=0 <;> simp[Addr.add,hk],aS (heap_alloc_new W _),←h,Array.getElem?_toList]
def aUh(o:Nat)(T:TypeId)(W:World)(k:Nat):Prop:=k=o∨∃v,Boxed W o T v∧v.ownBlock=some k
section
variable {A B:World}{o m N:Nat}{T:TypeId}
theorem aT6(h:B.heap[o]?=A.heap[o]?)(k:Nat)(hx:aUh o T B k):aUh o T A k:=by
 rcases hx with h'|⟨v,hv,hb⟩
 ·exact .inl h'
 ·exact .inr ⟨v,h.symm.trans hv,hb⟩
theorem aU1(ho:o<m):∀A B,m≤A.heap.size→aR4 m A B→∀k,aUh o T B k→aUh o T A k:=fun A B hA hm k hx=>by
 have hlt:o<A.heap.size:=by omega
 rcases hm with hm|hm
 ·exact aT6 (hm.block o hlt (by simp)) k hx
 ·exact aT6 (hm.block o hlt (fun e=>by injection e with e;omega)) k hx
theorem aVc(ho:o<A.heap.size)(h:Below A.heap.size A B):KpX N (aUh o T) A B:=by
 have hb:=fun k hx=>aT6 (T:=T) (h.block o ho) k hx
 exact⟨⟨h.os,h.tape,h.output,h.size,fun k ob _ hk _=>(h.block k (Ai.1 hk).1).trans hk,fun k hx=>.inl (hb k hx)⟩,fun hl k hx=>Nat.lt_of_lt_of_le (hl k (hb k hx)) h.size⟩
theorem aVy(W:World)(l:Nat)(ob ob':Obj)(hl:N≤l)(ho:o<N)(hw:W.heap[l]?=some ob)(hc:ob.isCells=false):KpX N (aUh o T) W (W.putObj l ob'):=by
 have hb:=fun k hx=>aT6 (A:=W) (B:=W.putObj l ob') (T:=T) (show (W.putObj l ob').heap[o]?=W.heap[o]? from World.putObj_heap_other (by omega)) k hx
 refine⟨⟨rfl,rfl,rfl,by simp[World.putObj],fun k x _ hk hn=>?_,fun k hx=>.inl (hb k hx)⟩,fun h k hx=>?_⟩
 ·refine(World.putObj_heap_other fun e=>?_).trans hk;subst e;rw[hw] at hk;cases hk;rcases hn with h|h
  ·omega
  ·rw[hc] at h;cases h
 ·have:=h k (hb k hx);simpa[World.putObj] using this
theorem aVi{W w1:World}{n₀:Nat}{t e:TypeId}{size:Nat}{v v':Value}{k j:Nat}{xs ys:List Value}{tmp:Obj}(hv:Boxed W o t v)(hte:t≠e)(hrow:W.ownsRow n₀ e size v k xs)(hn₀:n₀≤W.heap.size)
  (hown':w1.ownsRow n₀ e size v' j ys) (hgrow:(W.alloc tmp).grownBy w1 v.ownBlock) (hob:v'.ownBlock=v.ownBlock∨v'.ownBlock=some (W.alloc tmp).heap.size) :
  (Boxed w1 o t v∧Boxed (w1.setCell ⟨o,0,none⟩ v') o t v'∧(w1.setCell ⟨o,0,none⟩ v').ownsRow n₀ e size v' j ys∧KeepsOthers W (w1.setCell ⟨o,0,none⟩ v'))∧KpX N (aUh o t) W (w1.setCell ⟨o,0,none⟩ v'):=by
 obtain⟨h1,h2,h3,h4,_⟩:=Dc (P:=fun _=>False) hv hte hrow hn₀ (fun _ h=>h.elim) hown' hgrow;have hs:W.heap.size≤w1.heap.size:=Nat.le_trans (by simp) hgrow.size;have g2:=grownBy_setCell' w1 o v';refine⟨⟨h1,h2,h3,h4⟩,⟨⟨g2.os.trans hgrow.os,g2.tape.trans hgrow.tape,g2.output.trans hgrow.output,Nat.le_trans hs g2.size,fun i ob hx hi _=>?_,fun i hx=>?_⟩,fun _ i hx=>?_⟩⟩
 ·have hl:=(Ai.1 hi).1;have e1:w1.heap[i]?=(W.alloc tmp).heap[i]? := hgrow.block i (by simp;omega) (fun e=>hx (.inr ⟨v,hv,e.symm⟩));have e2:(w1.setCell ⟨o,0,none⟩ v').heap[i]?=w1.heap[i]? := g2.block i (by omega) (fun e=>hx (.inl (by injection e)));rw[e2,e1];exact(Below.heap_alloc _ _ _ hl).trans hi
 ·rcases hx with h|⟨u,hu,hb⟩
  ·exact .inl (.inl h)
  ·have:u=v':=by
    have e:(w1.setCell ⟨o,0,none⟩ v').heap[o]?=_:=h2;rw[show (w1.setCell ⟨o,0,none⟩ v').heap[o]?=_ from hu] at e;injection e with e
    injection e with e _ _
    have:=congrArg (fun (z:Array Value)=>z[0]?) e;simpa using this
   subst this;rcases hob with h|h
   ·exact .inl (.inr ⟨v,hv,h.symm.trans hb⟩)
   ·right;rw[h] at hb;injection hb with hb
    rw[←hb];simp
 ·rcases hx with h|⟨u,hu,hb⟩
  ·subst h;exact h2.lt
  ·have:u=v':=by
    have e:(w1.setCell ⟨o,0,none⟩ v').heap[o]?=_:=h2;rw[show (w1.setCell ⟨o,0,none⟩ v').heap[o]?=_ from hu] at e;injection e with e
    injection e with e _ _
    have:=congrArg (fun (z:Array Value)=>z[0]?) e;simpa using this
   subst this;rcases h3.2 with⟨rfl,_⟩|⟨g,cap,cur,rfl,_,hgb,_⟩
   ·simp[Value.ownBlock] at hb
   ·obtain rfl:g=i:=by simpa[Value.ownBlock] using hb
    exact(Ai.1 hgb).1
end
attribute [local go_sem] Oper.semAt_some
theorem aUz(xs:List aF)(a:Option Addr)(c:Nat)(ins:List UInt8)(w:World)(hE:iE w)(hv:gT w a c xs)(he:aPk (xs.map aF.f) 0 []=0):
  Calls Tryz.prog 32 #[.slice a xs.length c,.string ⟨ins.toArray⟩] w fun e w'=>(∃v,e=.returned (.tuple #[v,.int .i64 0])∧w'.ownsRow w.heap.size 46 3 v (ser ins (xs.map aF.f)).length (aT7 (ser ins (xs.map aF.f))))∧Below w.heap.size w w':=by
 obtain⟨i0,hi,hz0,hz1,hz2⟩:=info_parts aVd;have HINF:=Hd (And.intro hi (And.intro hz0 (And.intro hz1 hz2)));have hpc:=aQa xs a c 0 [] none 0 w hE hv (by simp) (.inl rfl);rw[he] at hpc;have HPC:=Hd hpc;have hn:=hv.len;have HFA:=Hd hv.facts;clear hE hv he hpc hi hz0 hz1 hz2;refine(callsIn_wide (n:=6)).1 ?_;refine callsIn_of_wp_marks Tryz.func32 rfl trivial ?_ rfl;simp only[Tryz.ntmps32,List.size_toArray,List.length_cons,List.length_nil,Nat.reduceAdd,Nat.reduceSub,Array.replicate_succ,Array.replicate_zero,List.push_toArray,List.append_toArray,List.nil_append,List.cons_append];gi_wp2_with fail;refine⟨trivial,(callsIn_wide.2 HPC.out).mono ?_⟩;rintro e w1 ⟨rfl,hb⟩;have HB1:=Hd hb;have HB2:=Hd (aA hb (aB w1 (.cells #[.slice none 0 0] 50)));have KO:=Hd (aP.new0 w1 #[.slice none 0 0] 50);have HO1:Hid (w.heap.size≤w1.heap.size):=hb.size;have HS2:Hid ((w1.alloc (.cells #[.slice none 0 0] 50)).heap.size=w1.heap.size+1):=World.size_alloc _ _;obtain⟨w2,hw2⟩:∃w2,w2=w1.alloc (.cells #[.slice none 0 0] 50):=⟨_,rfl⟩
 rw[←hw2] at HB2 KO HS2;clear hb HPC HB1;gi_wp2_with fail;rw[←hw2];clear hw2;refine⟨trivial,(callsIn_wide.2 (aR7 _ _ _ _ _)).mono ?_⟩;rintro e w3 ⟨bl,bi,rfl,lbl,lbi,kbl,kbi,hb⟩;have HB3:=Hd (aA HB2.out hb);have KO3:=Hd (KO.out.below hb);have KBL:=Hd kbl;have KBI:=Hd kbi;obtain⟨o,ho⟩:∃o,o=w1.heap.size:=⟨_,rfl⟩
 have HO:Hid (w.heap.size≤o∧o<w3.heap.size∧o<bl∧o<bi):=by
  have h1:=HO1.out;have h2:=HS2.out;have h3:=hb.size;show _∧_;omega
 rw[←ho] at KO3 ⊢;clear hb lbl lbi kbl kbi KO HB2 HO1 HS2 ho;have HX1:Hid (∀W1,Below w3.heap.size w3 W1→∀k,aUh o 50 W1 k→k=o):=fun W1 hb1 k hx=>by
  rcases hx with h|⟨v,hv,hk⟩
  ·exact h
  ·have h1:W1.heap[o]?=_:=(hb1.block o HO.out.2.1).trans KO3.out.2;rw[show W1.heap[o]?=_ from hv] at h1;injection h1 with h1
   injection h1 with h1 _ _
   have h2:=congrArg (fun (z:Array Value)=>z[0]?) h1;simp at h2;subst h2;simp[Value.ownBlock] at hk
 have HSEQ:Hid (∀W1,Below w3.heap.size w3 W1→W1.heap.size=w3.heap.size+2→aVj 5 Tryz.prog 118 #[.pointer (some ⟨bl,0,none⟩),.pointer (some ⟨bi,0,none⟩)] aSy (KpX w3.heap.size (aUh o 50)) (fun ys=>ys=ser ins (xs.map aF.f)) (xs.length+1) W1 (aUj ins (xs.map aF.f))):=fun W1 hb1 hs1=>aT9 5 xs a c bl bi ins w3.heap.size (aUh o 50) W1 hn (aU1 (by have:=HO.out.2.1;omega)) ⟨fun k hx=>by have:=HX1.out W1 hb1 k hx;have:=HO.out.2.1;omega,fun hx=>by have:=HX1.out W1 hb1 _ hx;have:=HO.out.2.1;omega⟩ (fun W hW=>by
  have h1:=HO.out;have hno:∀k,k<w3.heap.size→k≠o→¬ XR (aUh o 50) W1.heap.size W1 k:=fun k hk hne hx=>by
   rcases hx with hx|hx
   ·exact hne (HX1.out W1 hb1 k hx)
   ·omega
  have hwW:Below w.heap.size w W:=(HB3.out.trans (hb1.mono (by omega))).trans (hW.below (by omega) (fun k hk=>⟨hno k (by omega) (by omega),by omega⟩));exact⟨HFA.out.below hwW,hW.box (hno bl KBL.out.1 (by omega)) (KBL.out.below hb1),hW.box (hno bi KBI.out.1 (by omega)) (KBI.out.below hb1)⟩)
 gi_wp2_with fail;refine aUe (n:=6) (gf:=118) (lb:=#[.pointer (some ⟨bl,0,none⟩),.pointer (some ⟨bi,0,none⟩)]) rfl (enters_of Tryz.func118 (by kernel_rfl) rfl) (encs:=aSy) (Kp:=KpX w3.heap.size (aUh o 50)) (S:=fun ys=>ys=ser ins (xs.map aF.f)) (N:=xs.length+1) (fun h g=>h.trans g) (fun W l ob ob' hl ho hc=>aVy W l ob ob' hl HO.out.2.1 ho hc) (fun _=>rfl) HSEQ.out
  (fun pre W=>(∃v,Boxed W o 50 v∧W.ownsRow (w3.heap.size+3) 46 3 v pre.length (aT7 pre)∧True)∧(Below w.heap.size w W∧w3.heap.size≤W.heap.size))
  (OwnFrom.and (Own.from (holdsRow_own (w3.heap.size+3) o 50 46 3 (fun pre:List aJv=>pre.length) (fun pre=>aT7 pre) (fun _ _=>True)) _) (OwnFrom.and (ownFrom_below (Nl _) (by have:=HB3.out.size;omega)) (fun _ A B row hs hg _=>Nat.le_trans hs hg.size)))
  (fun pre A B h hm=>by
   have h1:=HO.out;obtain⟨⟨v,hvb,hvr,_⟩,hB,hsz⟩:=h;refine⟨⟨v,?_,?_,trivial⟩,aRz hB (by omega) hm (by omega),Nat.le_trans hsz (aSa hm)⟩
   ·rcases hm with hm|hm
    ·exact hvb.kept hm (by simp)
    ·exact hvb.kept hm (fun e=>by injection e with e;omega)
   ·rcases hm with hm|hm
    ·exact hvr.kept hm (Classical.em _)
    ·exact hvr.kept hm (.inr fun e=>by have:=hvr.lt _ e;omega))
  ⟨⟨_,aP.boxed KO3.out,World.ownsRow_nil _ _ _ _,trivial⟩,HB3.out,Nl _⟩
  (fun x a' W=>∃Bx,w3.heap.size+2≤Bx∧aP W Bx (aOx x) 46∧a' = { tmps:=#[.slice a xs.length c,.string ⟨ins.toArray⟩,undef,undef,.slice none 0 0,.int .i64 0,.int .i64 0,.pointer (some ⟨o,0,none⟩),.pointer (some ⟨Bx,0,none⟩),.slice a xs.length c,.int .i64 0,.int .i64 0,.bool false,undef,.slice a xs.length c,.string ⟨ins.toArray⟩,.func (.func 118) #[] #[.pointer (some ⟨bl,0,none⟩),.pointer (some ⟨bi,0,none⟩)],.agg (aOx x),undef,undef,undef,undef,undef],defers:=[] })
  (fun x a' _ A B row hs hg hr=>by obtain⟨Bx,h1,h2,h3⟩:=hs;exact⟨Bx,h1,nP Bx _ (fun (_:Unit)=>aOx x) () A B row h2 hg (fun r e=>(hr r e).2),h3⟩)
  ?assign ?body ?done
 case assign =>
  rintro l pre x W K ⟨⟨v,hvb,hvr,_⟩,hB,hsz⟩ hs2 hK;have HN:=Hd (heap_alloc_new W (.cells #[.int .i64 0,.string ⟨#[]⟩,.string ⟨#[]⟩] 46));have HBA:=Hd (aB W (.cells #[.int .i64 0,.string ⟨#[]⟩,.string ⟨#[]⟩] 46));have HKA:=Hd (KeepsOthers.alloc W (.cells #[.int .i64 0,.string ⟨#[]⟩,.string ⟨#[]⟩] 46));have HVB:=Hd hvb;have HVR:=Hd hvr;have HBB:=Hd hB;have HSX:Hid ((Tryz.prog.info? 46).map (·.size)=some (aOx x).size):=aPm;have HONE:Hid ((aOx x).all (·.oneCell')=true):=aPw x;have HS3:Hid ((#[.int .i64 0,.string ⟨#[]⟩,.string ⟨#[]⟩]:Array Value).size=(aOx x).size):=rfl;have HKK:=Hd hK;unfold aSy;clear hvb hvr hB hK;gi_wp2_with (refine bQ (by rfl) 46 _ _ rfl W.heap.size rfl (aOx x) rfl HN.out HSX.out HS3.out HONE.out ?_;intro w4 kx bx ko kot _);have hb4:=HBA.out.trans (bx _ (Nl _));have hgr4:=gZ hb4;exact HKK.out _ _ ((HKA.out.trans ko).from _) (aVc HVB.out.lt hb4) ⟨⟨v,HVB.out.kept hgr4 (by simp),HVR.out.kept hgr4 (Classical.em _),trivial⟩,aA HBB.out hb4,Nat.le_trans hsz hb4.size⟩ ⟨W.heap.size,hs2,kx,rfl⟩
 case body =>
  rintro l pre x a' W ⟨⟨v,hvb,hvr,_⟩,hB,hsz⟩ hs2 ⟨Bx,hBx,kX,rfl⟩ hlt _;have hqa:aOx x=#[.int .i64 x.day,.string ⟨x.price.n.toArray⟩,.string ⟨x.price.d.toArray⟩]:=rfl;have HSX:Hid ((Tryz.prog.info? 46).map (·.size)=some (aOx x).size):=aPm;have HFS:=Hd (aU3 pre x);rw[hqa] at kX HSX HFS;generalize x.day=xd at *;generalize(⟨x.price.n.toArray⟩:ByteArray)=xn at *;generalize(⟨x.price.d.toArray⟩:ByteArray)=xm at *;have HVB:=Hd hvb;have HVR:=Hd hvr;have HBB:=Hd hB;have KX:=Hd kX;have cO:=hvb.cell;have HSZ3:Hid (w3.heap.size+3≤W.heap.size):=by have:=kX.1;show _≤_;omega
  have HSZ2:Hid (w3.heap.size+3≤W.heap.size+1):=by show _≤_;omega
  have hpl:pre.length+1≤1000001:=by omega
  clear hvb hvr hB kX hqa;gi_wp2_with (first|(refine eP (by rfl) 46 _ rfl Bx rfl #[.int .i64 xd,.string xn,.string xm] _ KX.out Tryz.underlying46 rfl HSX.out ?_)|(gi_at_builtin;refine wpListIn_append_own_at _ rfl _ _ 50 rfl (w3.heap.size+3) 46 i0 aVm 3 40 Tryz.underlying50 HINF.out.1 HINF.out.2.1 HINF.out.2.2.1 HINF.out.2.2.2 rfl (by decide) _ _ _ rfl (HVR.out.alloc _) ⟨W.heap.size,0,none⟩ 1 1 [.int .i64 xd,.string xn,.string xm] rfl rfl (fun j u hj=>aUb W #[.int .i64 xd,.string xn,.string xm] _ j u hj) (by simp[Value.oneCell']) (by unfold maxLen;omega) (by omega) (by rw[World.size_alloc];exact HSZ2.out) ?_;intro v' w5 hown' hgrow _ hob;obtain⟨g',cap',rfl⟩:=ownsRow_succ hown';obtain⟨⟨hv1,hv2,hr2,hk2⟩,hx2⟩:=aVi (N:=w3.heap.size) HVB.out (by decide) HVR.out HSZ3.out hown' hgrow hob;have hc1:=hv1.cell;have hf1:=hv1.frozen;have HE1:=Hd hv2;have HE2:=Hd hr2;have HE4:=Hd hk2;have HE5:=Hd hx2;clear hv2 hr2 hk2 hx2 hown' hgrow hob));have hbw:Below w.heap.size W (w5.setCell ⟨o,0,none⟩ (.slice (some ⟨g',0,none⟩) (pre.length+1) cap')):=HE5.out.1.below HBB.out.size (fun k hk=>by
   have h1:=HO.out;have h2:=HB3.out.size;refine⟨fun hx=>?_,by omega⟩;rcases hx with hx|⟨u,hu,hb⟩
   ·omega
   ·have e:W.heap[o]?=_:=HVB.out;rw[show W.heap[o]?=_ from hu] at e;injection e with e
    injection e with e _ _
    have e2:=congrArg (fun (z:Array Value)=>z[0]?) e;simp at e2;subst e2;have:=HVR.out.lt _ hb;omega)
  exact⟨HE4.out.from _,HE5.out,⟨_,HE1.out,by rw[HFS.out];exact HE2.out⟩,HBB.out.trans hbw,by have:=Nat.le_trans hsz HE5.out.1.size;simpa using this⟩
 case done =>
  rintro D ys W hD rfl ⟨⟨v,hvb,hvr,_⟩,hB,hsz⟩ hK;have cO:=hvb.cell;have HBB:=Hd hB;have HK:=Hd hK;have HVR:=Hd hvr;have HHD:=Hd hD;clear hvb hvr hB hK hD;gi_wp2;refine⟨by simp,.inl ⟨_,_,rfl,run_takeDeferred HK.out,?_⟩⟩;refine⟨_,results_tmp2 rfl _ _ _,⟨v,rfl,?_⟩,HBB.out.trans (belowK_b (w:=w) (Nl _) W D _ _ (by have:=HB3.out.size;have:=HHD.out;omega) HK.out rfl rfl)⟩;exact Ck (ownsRow_putObj HVR.out _ HK.out rfl) (by have:=HB3.out.size;omega)
end
section
open Go Go.RowKit Num
def aUp(q:aJv):List Value:=(aOx q).toList
theorem aVt(l:List aJv):aT7 l=(l.map aUp).flatten:=by
 unfold aT7;rw[List.flatMap_def];rfl
theorem aUo{w:World}{a:Option Addr}{l:List aJv}(h:dT w a (aT7 l)):gJ w a 3 (l.map aUp):=by
 rw[aVt] at h;refine oY (by decide) (fun cs hcs=>?_) h;obtain⟨q,_,rfl⟩:=List.mem_map.1 hcs;rfl
end
end Go.Proofs.YtejkibnaidiklaaGreatDoor
