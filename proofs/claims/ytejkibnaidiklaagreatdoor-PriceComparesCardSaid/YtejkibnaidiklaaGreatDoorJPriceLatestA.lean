/- Series SerRow Extremes QIndex RSeries RLatest RFresh RQuo RChange RMissing RExtReg RExtremes PriceExtremesLaw PriceComparesLaw OpenStrs -/
import Derived.Test.YtejkibnaidiklaaGreatDoorJRViewA
import Derived.Test.YtejkibnaidiklaaGreatDoorJPriceC
import Derived.Maps.OwnIn
set_option maxHeartbeats 16000000
set_option maxRecDepth 100000
namespace Go.Proofs.YtejkibnaidiklaaGreatDoor
open Go.Proofs.Tryz
section
open Go Go.RowKit Go.Shelf Num
def aT7(l:List aJv):List Value:=l.flatMap fun q=>(aOx q).toList
theorem aU3(l:List aJv)(q:aJv):aT7 (l ++ [q])=aT7 l++(aOx q).toList:=by simp[aT7]
def aVm:Value:=.agg #[.int .i64 0,.string ⟨#[]⟩,.string ⟨#[]⟩]
theorem aVd:(prog.info? 46).map (fun i=>(i.zero,i.size,i.bytes))=some (some aVm,3,40):=by kernel_rfl
theorem aUb(W:World)(cs:Array Value)(T:TypeId)(j:Nat)(u:Value)(h:cs.toList[j]?=some u):(W.alloc (.cells cs T)).cell? ((⟨W.heap.size,0,none⟩:Addr).add j)=some u:=by
 rw[show (⟨W.heap.size,0,none⟩:Addr).add j=⟨W.heap.size,j,none⟩ by by_cases hk:j=0 <;> simp[Addr.add,hk],aS (heap_alloc_new W _),<-h,Array.getElem?_toList]
section
variable {A B:World}{o m N:Nat}{T:TypeId}
end
attribute [local go_sem] Oper.semAt_some
end
section
open Go Go.RowKit Num
def aUp(q:aJv):List Value:=(aOx q).toList
theorem aVt(l:List aJv):aT7 l=(l.map aUp).flatten:=by
 unfold aT7;rw[List.flatMap_def];rfl
theorem aUo{w:World}{a:Option Addr}{l:List aJv}(h:dT w a (aT7 l)):gJ w a 3 (l.map aUp):=by
 rw[aVt] at h;refine oY (by decide) (fun cs hcs=>?_) h;obtain⟨q,_,rfl⟩:=List.mem_map.1 hcs;rfl
theorem aV6(fs:List aE)(ins:List UInt8)(d:Int):aJ0 fs ins d=(aPv d (ser ins fs)).getLast? := rfl
end
section
open Go Go.RowKit Go.Shelf Num
def inP(fr til:Int)(q:aJv):Bool:=decide (fr<=q.day)&&decide (q.day<til)
def aRm(fr til:Int)(l:List aJv):List bZ:=(l.filter (inP fr til)).map (·.price)
theorem aT5{fr til:Int}{x:aJv}(pre:List aJv)(h:inP fr til x=true):aRm fr til (pre ++ [x])=aRm fr til pre ++ [x.price]:=by unfold aRm;rw[List.filter_append];simp[h]
theorem aU5{fr til:Int}{x:aJv}(pre:List aJv)(h:inP fr til x=false):aRm fr til (pre ++ [x])=aRm fr til pre:=by unfold aRm;rw[List.filter_append];simp[h]
def aU6(b:Bool):Int:=if b=true then 0 else 11
def aUs(l:List aJv):Prop:=∀q,q∈l->q.price.small
def SzL(n:Nat)(W:World):Prop:=n<=W.heap.size
def aTp(fr til:Int)(pre:List aJv):Array Value:=aPf (FV (aLq (aRm fr til pre)))
def aRk(fr til:Int)(pre:List aJv):Array Value:=aPf (FV (aK0 (aRm fr til pre)))
def aTx(fr til:Int)(pre:List aJv):Bool:=!(aRm fr til pre).isEmpty
theorem aVq:∀(l:List bZ) (m:bZ),∃x,l.foldl aKj (some m)=some x/\(x=m∨x∈l):=by
 intro l
 induction l with
 |nil=>exact fun m=>⟨m,rfl,.inl rfl⟩
 |cons p r ih =>
  intro m;rw[List.foldl_cons,show aKj (some m) p=if aJ3 p m<0 then some p else some m from rfl];split
  ·obtain⟨x,h1,h2⟩:=ih p;exact⟨x,h1,.inr (by rcases h2 with rfl|h2;exact List.mem_cons_self;exact List.mem_cons_of_mem _ h2)⟩
  ·obtain⟨x,h1,h2⟩:=ih m;exact⟨x,h1,by rcases h2 with rfl|h2;exact .inl rfl;exact .inr (List.mem_cons_of_mem _ h2)⟩
theorem aVf:∀(l:List bZ) (m:bZ),∃x,l.foldl aKb (some m)=some x/\(x=m∨x∈l):=by
 intro l
 induction l with
 |nil=>exact fun m=>⟨m,rfl,.inl rfl⟩
 |cons p r ih =>
  intro m;rw[List.foldl_cons,show aKb (some m) p=if 0<aJ3 p m then some p else some m from rfl];split
  ·obtain⟨x,h1,h2⟩:=ih p;exact⟨x,h1,.inr (by rcases h2 with rfl|h2;exact List.mem_cons_self;exact List.mem_cons_of_mem _ h2)⟩
  ·obtain⟨x,h1,h2⟩:=ih m;exact⟨x,h1,by rcases h2 with rfl|h2;exact .inl rfl;exact .inr (List.mem_cons_of_mem _ h2)⟩
theorem aVp{l:List bZ}(h:l ≠ []):∃x,aLq l=some x/\x∈l:=by
 cases l with
 |nil=>exact absurd rfl h
 |cons m r =>
  obtain⟨x,h1,h2⟩:=aVq r m;exact⟨x,h1,by rcases h2 with rfl|h2;exact List.mem_cons_self;exact List.mem_cons_of_mem _ h2⟩
theorem aVe{l:List bZ}(h:l ≠ []):∃x,aK0 l=some x/\x∈l:=by
 cases l with
 |nil=>exact absurd rfl h
 |cons m r =>
  obtain⟨x,h1,h2⟩:=aVf r m;exact⟨x,h1,by rcases h2 with rfl|h2;exact List.mem_cons_self;exact List.mem_cons_of_mem _ h2⟩
theorem aUi{fr til:Int}{l:List aJv}{p:bZ}(h:p∈aRm fr til l):∃q,q∈l/\inP fr til q=true/\p=q.price:=by
 unfold aRm at h;obtain⟨q,hq,rfl⟩:=List.mem_map.1 h;exact⟨q,(List.mem_filter.1 hq).1,(List.mem_filter.1 hq).2,rfl⟩
theorem aVw{fr til:Int}{x:aJv}(pre:List aJv)(h:inP fr til x=false):aTp fr til (pre ++ [x])=aTp fr til pre/\aRk fr til (pre ++ [x])=aRk fr til pre/\aTx fr til (pre ++ [x])=aTx fr til pre:=by
 unfold aTp aRk aTx;rw[aU5 pre h];exact⟨rfl,rfl,rfl⟩
theorem aVn{fr til:Int}{x:aJv}(pre:List aJv)(h:inP fr til x=true):aTx fr til (pre ++ [x])=true:=by
 unfold aTx;rw[aT5 pre h];simp
theorem aUy{fr til:Int}{x:aJv}(pre:List aJv)(h:inP fr til x=true)(h0:aRm fr til pre=[]):aTp fr til (pre ++ [x])=aPf x.price/\aRk fr til (pre ++ [x])=aPf x.price/\aTp fr til pre=Z2/\aRk fr til pre=Z2/\aTx fr til pre=false:=by
 unfold aTp aRk aTx;rw[aT5 pre h,h0];exact⟨rfl,rfl,rfl,rfl,rfl⟩
theorem aU7{fr til:Int}{x:aJv}(pre:List aJv)(h:inP fr til x=true)(h0:aRm fr til pre ≠ []):∃lo hi,lo∈aRm fr til pre/\hi∈aRm fr til pre/\aTp fr til pre=aPf lo/\aRk fr til pre=aPf hi/\aTx fr til pre=true /\
  aTp fr til (pre ++ [x])=(if aJ3 x.price lo<0 then aPf x.price else aPf lo)/\aRk fr til (pre ++ [x])=(if 0<aJ3 x.price hi then aPf x.price else aPf hi):=by
 obtain⟨lo,h1,h2⟩:=aVp h0;obtain⟨hi,h3,h4⟩:=aVe h0;refine⟨lo,hi,h2,h4,?_,?_,?_,?_,?_⟩
 ·unfold aTp;rw[h1];rfl
 ·unfold aRk;rw[h3];rfl
 ·unfold aTx;cases hc:aRm fr til pre with
  |nil=>exact absurd hc h0
  |cons _ _=>rfl
 ·unfold aTp;rw[aT5 pre h,aLo,h1];unfold aKj;simp only;split <;> rfl
 ·unfold aRk;rw[aT5 pre h,aLf,h3];unfold aKb;simp only;split <;> rfl
def aUk(fs:List aE)(ins:List UInt8)(fr til:Int):Int:=if aPk fs 0 [fr,til]=0 then(if til<fr then 8 else aU6 (aTx fr til (ser ins fs))) else aPk fs 0 [fr,til]
def aUc(fs:List aE)(ins:List UInt8)(fr til:Int):List bZ:=if aPk fs 0 [fr,til]=0 then(if til<fr then[] else aRm fr til (ser ins fs)) else[]
theorem aTw{P:Program}{fn:Func}{p q u:Tmp}{ty:TypeId}(h:fn.results=#[.cell p ty,.cell q ty,.tmp u])(tmps:Array Value)(w:World)(g g2:Nat)(t t2:TypeId)(cs cs2:Array Value)(d:TypeDesc)
  (hp:tmps.getD p undef=.pointer (some ⟨g,0,none⟩)) (hq:tmps.getD q undef=.pointer (some ⟨g2,0,none⟩)) (hg:w.heap[g]?=some (.cells cs t (0,0))) (hg2:w.heap[g2]?=some (.cells cs2 t2 (0,0)))
  (hu:P.underlying ty=some d) (hd:(match d with | .struct _ | .array _ _=>true|_=>false)=true) (hi:(P.info? ty).map (·.size)=some cs.size) (hi2:(P.info? ty).map (·.size)=some cs2.size) :
  (results fn tmps).run P w=.ok (.tuple #[.agg cs,.agg cs2,tmps.getD u undef]) w:=by
 have hp':tmps[p]?.getD undef=.pointer (some ⟨g,0,none⟩):=by simpa using hp
 have hq':tmps[q]?.getD undef=.pointer (some ⟨g2,0,none⟩):=by simpa using hq
 simp[results,h,hp',hq',asAddr,run_loadVar_row w g t ty cs (0,0) d hg hu hd hi,run_loadVar_row w g2 t2 ty cs2 (0,0) d hg2 hu hd hi2]
theorem aVu(xs:List aF)(a:Option Addr)(c:Nat)(ins:List UInt8)(fr til:Int)(w:World)(hE:iE w)(hv:gT w a c xs)(he:aPk (xs.map aF.f) 0 [fr,til]=0->til<fr):
  Calls prog 41 #[.slice a xs.length c,.string ⟨ins.toArray⟩,.agg #[.int .i64 fr,.int .i64 til]] w fun e w'=>e=.returned (.tuple #[.agg Z2,.agg Z2,.int .i64 (if aPk (xs.map aF.f) 0 [fr,til]=0 then 8 else aPk (xs.map aF.f) 0 [fr,til])])/\Below w.heap.size w w':=by
 obtain⟨wa,hwa⟩:∃wa,wa=((w.alloc (.cells #[.int .i64 fr,.int .i64 til] 70)).alloc (.cells #[.string ⟨#[]⟩,.string ⟨#[]⟩] 28)).alloc (.cells #[.string ⟨#[]⟩,.string ⟨#[]⟩] 28):=⟨_,rfl⟩
 have HBA:Hid (Below w.heap.size w wa):=by show Below _ _ _;rw[hwa];exact aA (aA (aB _ _) (aB _ _)) (aB _ _)
 have HSA:Hid (wa.heap.size=w.heap.size+3):=by show _=_;rw[hwa];simp only[World.size_alloc]
 have K5:Hid (aP wa w.heap.size #[.int .i64 fr,.int .i64 til] 70):=by
  show aP _ _ _ _;rw[hwa];exact((aP.new0 w _ _).below (aB _ _)).below (aB _ _)
 have K6:Hid (aP wa (w.heap.size+1) Z2 28):=by
  have h:=(aP.new0 (w.alloc (.cells #[.int .i64 fr,.int .i64 til] 70)) Z2 28).below (aB _ (.cells Z2 28));rw[World.size_alloc] at h;show aP _ _ _ _;rw[hwa];exact h
 have K7:Hid (aP wa (w.heap.size+1+1) Z2 28):=by
  have h:=aP.new0 ((w.alloc (.cells #[.int .i64 fr,.int .i64 til] 70)).alloc (.cells Z2 28)) Z2 28;rw[World.size_alloc,World.size_alloc] at h;show aP _ _ _ _;rw[hwa];exact h
 have HBB:=Hd (aA HBA.out (aB wa (.cells #[.int .i64 fr,.int .i64 til] 23)));have hpc:=aQa xs a c 0 [fr,til] (some ⟨wa.heap.size,0,none⟩) 2 _ (hE.below HBB.out) (hv.below HBB.out) (by simp) (aQ1 (aP.new0 wa #[.int .i64 fr,.int .i64 til] 23));rw[show [fr,til].length=2 from rfl] at hpc;have HPC:=Hd hpc;have K5b:=Hd (K5.out.below (aB wa (.cells #[.int .i64 fr,.int .i64 til] 23)));have K6b:=Hd (K6.out.below (aB wa (.cells #[.int .i64 fr,.int .i64 til] 23)));have K7b:=Hd (K7.out.below (aB wa (.cells #[.int .i64 fr,.int .i64 til] 23)));have HE:=Hd he;have HSF:Hid ((prog.info? 28).map (·.size)=some Z2.size):=aPp;have HZ1:Hid (Z2.all (·.oneCell')=true):=aP0 ⟨[],[]⟩;have HNE:Hid (w.heap.size+1+1≠w.heap.size+1):=by show _≠_;omega
 clear hE hv hpc he HBA K5 K6 K7;generalize aPk (xs.map aF.f) 0 [fr,til]=pe at *;generalize xs.length=n at *;have k0:=(K5b.out.cell 0).trans (show _=some (.int .i64 fr) from rfl);have k1:=(K5b.out.cell 1).trans (show _=some (.int .i64 til) from rfl);obtain⟨wb,hwb⟩:∃wb,wb=wa.alloc (.cells #[.int .i64 fr,.int .i64 til] 23):=⟨_,rfl⟩
 rw[<-hwb] at HPC K5b K6b K7b HBB k0 k1;clear k0 k1;go_enter func41,ntmps41;go_wp2_with fail;rw[<-hwa];rw[show w.heap.size+1+1+1=wa.heap.size from by rw[HSA.out],<-hwb];clear hwa hwb;refine HPC.out.mono ?_;rintro e w1 ⟨rfl,hb⟩;have HB1:=Hd (aA HBB.out hb);have K61:=Hd (K6b.out.below hb);have K71:=Hd (K7b.out.below hb);have K51:=Hd (K5b.out.below hb);have k0:=(K51.out.cell 0).trans (show _=some (.int .i64 fr) from rfl);have k1:=(K51.out.cell 1).trans (show _=some (.int .i64 til) from rfl);clear hb HPC HBB K5b K6b K7b HSA
 by_cases he:pe=0
 ·subst he;have hlt:=HE.out rfl;go_wp2_with (first|(refine aOw rfl 28 _ _ rfl (w.heap.size+1) rfl #[.string ⟨#[]⟩,.string ⟨#[]⟩] rfl K61.out HSF.out rfl HZ1.out ?_;intro w2 kx bx Rt _;have HB2:=Hd (HB1.out.trans (bx _ (by omega)));have KX2:=Hd kx;have K72:=Hd (Rt _ _ _ HNE.out K71.out);clear kx bx Rt)|(refine aOw rfl 28 _ _ rfl (w.heap.size+1+1) rfl #[.string ⟨#[]⟩,.string ⟨#[]⟩] rfl K72.out HSF.out rfl HZ1.out ?_;intro w3 kx bx Rt _;have HB3:=Hd (HB2.out.trans (bx _ (by omega)));have KX3:=Hd (Rt _ _ _ HNE.out.symm KX2.out);have K73:=Hd kx;clear kx bx Rt));refine bodyPost_ret (aTw rfl _ _ _ _ _ _ _ _ _ rfl rfl KX3.out.2 K73.out.2 underlying28 rfl HSF.out HSF.out) rfl ?_;exact⟨rfl,HB3.out⟩
 ·have he':(pe==0)=false:=by simpa using he
  go_wp2_with (first|(refine aOw rfl 28 _ _ rfl (w.heap.size+1) rfl #[.string ⟨#[]⟩,.string ⟨#[]⟩] rfl K61.out HSF.out rfl HZ1.out ?_;intro w2 kx bx Rt _;have HB2:=Hd (HB1.out.trans (bx _ (by omega)));have KX2:=Hd kx;have K72:=Hd (Rt _ _ _ HNE.out K71.out);clear kx bx Rt)|(refine aOw rfl 28 _ _ rfl (w.heap.size+1+1) rfl #[.string ⟨#[]⟩,.string ⟨#[]⟩] rfl K72.out HSF.out rfl HZ1.out ?_;intro w3 kx bx Rt _;have HB3:=Hd (HB2.out.trans (bx _ (by omega)));have KX3:=Hd (Rt _ _ _ HNE.out.symm KX2.out);have K73:=Hd kx;clear kx bx Rt));refine bodyPost_ret (aTw rfl _ _ _ _ _ _ _ _ _ rfl rfl KX3.out.2 K73.out.2 underlying28 rfl HSF.out HSF.out) rfl ?_;exact⟨rfl,HB3.out⟩
section
variable {A B:World}{N:Nat}{X:World->Nat->Prop}
theorem aTr(hX:∀A B k,X A k↔X B k)(h:Below A.heap.size A B)(hl:∀k,X A k->k<A.heap.size):KpX N X A B :=
 ⟨⟨h.os,h.tape,h.output,h.size,fun k _ _ hk _=>(h.block k (Ai.1 hk).1).trans hk,fun k hx=>.inl ((hX B A k).1 hx)⟩,fun _ k hx=>Nat.lt_of_lt_of_le (hl k ((hX B A k).1 hx)) h.size⟩
theorem aS1(hX:∀A B k,X A k↔X B k){b:Nat}(h:A.grownBy B (some b))(hb:X A b)(hl:∀k,X A k->k<A.heap.size):KpX N X A B :=
 ⟨⟨h.os,h.tape,h.output,h.size,fun k _ hx hk _=>(h.block k (Ai.1 hk).1 (fun e=>hx (by injection e with e;rw[e];exact hb))).trans hk,fun k hx=>.inl ((hX B A k).1 hx)⟩,fun _ k hx=>Nat.lt_of_lt_of_le (hl k ((hX B A k).1 hx)) h.size⟩
theorem aVr(W:World)(l:Nat)(ob ob':Obj)(hl:N<=l)(hX:∀A B k,X A k↔X B k)(hw:W.heap[l]?=some ob)(hc:ob.isCells=false)(hx0:∀k,X W k->k<W.heap.size):KpX N X W (W.putObj l ob'):=by
 refine⟨⟨rfl,rfl,rfl,by simp[World.putObj],fun k x _ hk hn=>?_,fun k hx=>.inl ((hX _ W k).1 hx)⟩,fun _ k hx=>?_⟩
 ·refine(World.putObj_heap_other fun e=>?_).trans hk;subst e;rw[hw] at hk;cases hk;rcases hn with h|h
  ·omega
  ·rw[hc] at h;cases h
 ·have:=hx0 k ((hX _ W k).1 hx);simpa[World.putObj] using this
end
noncomputable def aV2:Array Oper:=(f41.body.bind (jE 18)).getD #[]
def aV1:List (Nat×Nat):=[(0,75),(1,76),(4,8)]
structure ExC where
 w:World
 n:Nat
 b6:Nat
 b7:Nat
 b10:Nat
 b11:Nat
 D:Nat
 lo:Array Value
 hi:Array Value
def ExC.val(C:ExC)(_:Unit):Nat->Value
 |0=>.agg C.lo
 |1=>.agg C.hi
 |_=>.int .i64 0
def ExC.g(C:ExC)(_:Unit)(l:Array Bool)(W:World):Prop:=(aP W C.b10 C.lo 28/\aP W C.b11 C.hi 28)/\(∃u,u.size=2/\aP W C.b6 u 28/\(lP l 2->u=C.lo))/\(∃u,u.size=2/\aP W C.b7 u 28/\(lP l 3->u=C.hi))/\Below C.n C.w W/\W.heap[C.D]?=some (.deferred (some []))
structure ExM(C:ExC)(t0:Array Value):Prop where
 sz:t0.size=77
 t6:t0[6]?=some (.pointer (some ⟨C.b6,0,none⟩))
 t7:t0[7]?=some (.pointer (some ⟨C.b7,0,none⟩))
 t10:t0[10]?=some (.pointer (some ⟨C.b10,0,none⟩))
 t11:t0[11]?=some (.pointer (some ⟨C.b11,0,none⟩))
 n67:C.b6≠C.b7
 n610:C.b10≠C.b6/\C.b11≠C.b6/\C.b10≠C.b7/\C.b11≠C.b7
 neD:C.D≠C.b6/\C.D≠C.b7
 nn:C.n<=C.b6/\C.n<=C.b7
 lsz:C.lo.size=2/\C.hi.size=2
 lone:C.lo.all (·.oneCell')=true/\C.hi.all (·.oneCell')=true
section
variable {C:ExC}{t0:Array Value}{d0:List Deferred}{Q:Exit->Act->World->Prop}{l:Array Bool}{w:World}{n:Nat}
theorem ExC.keep{i:Nat}(h2:i≠2)(h3:i≠3)(h:C.g () l w):C.g () (l.setIfInBounds i true) w:=by
 obtain⟨k,⟨u,a1,a2,a3⟩,⟨v,b1,b2,b3⟩,r⟩:=h;exact⟨k,⟨u,a1,a2,fun h'=>a3 (mQ h' (Ne.symm h2))⟩,⟨v,b1,b2,fun h'=>b3 (mQ h' (Ne.symm h3))⟩,r⟩
theorem aVh(M:ExM C t0){a:Act}(hdf:a.defers=d0)(ht:a.tmps=t0)(hw:∀l,(∀j,¬ lP l j)->C.g () l (w.drewN 1))
  (hQ:∀W,aP W C.b6 C.lo 28->aP W C.b7 C.hi 28->Below C.n C.w W->W.heap[C.D]?=some (.deferred (some []))->Q .normal { tmps:=iZ (C.val ()) aV1 t0,defers:=d0 } W):(Code.region 18 aV2 true).wpIn Fence.wide n prog Q a w:=by
 have hsz:aV2.size=5:=by kernel_rfl
 refine Bq (ds:=aV1) (val:=C.val) (G:=C.g) (by kernel_rfl) (by kernel_rfl) (by decide) (fun p hp=>?_) (by kernel_rfl) ?_ (γ:=()) hdf ht (hw _ (fun j=>Gu _ _)) ?_
 ·rw[M.sz];have:∀p,p∈aV1->p.2<77:=by decide
  exact this p hp
 ·intro γ l a w i H hr;cases γ;have hi:i<5:=by
   obtain⟨_,o,ho,_⟩:=mem_ready.1 hr;have:=(Ai.1 ho).1;rw[hsz] at this;exact this
  have t6:=H.low (s:=6) (by decide) M.t6;have t7:=H.low (s:=7) (by decide) M.t7;have t10:=H.low (s:=10) (by decide) M.t10;have t11:=H.low (s:=11) (by decide) M.t11;obtain⟨⟨k10,k11⟩,⟨u,a1,a2,a3⟩,⟨v,b1,b2,b3⟩,hB,hD⟩:=H.g
  match i,hi,hr with
  |0,_,hr=>exact sQ (X:=.load 28 (.tmp 10)) (by kernel_rfl) (fun o h=>aW h (oC t10) (gR k10) underlying28 rfl (by rw[M.lsz.1];exact aPp)) (fun _ _=>rfl) (ExC.keep (by decide) (by decide) H.g)
  |1,_,hr=>exact sQ (X:=.load 28 (.tmp 11)) (by kernel_rfl) (fun o h=>aW h (oC t11) (gR k11) underlying28 rfl (by rw[M.lsz.2];exact aPp)) (fun _ _=>rfl) (ExC.keep (by decide) (by decide) H.g)
  |2,_,hr =>
   have v0:a.tmps[75]?=some (.agg C.lo):=H.dep hr 0 75;exact Ia (X:=.store 28 (.tmp 6) (.tmp 75)) (by kernel_rfl) (fun o h=>Bi h (oC t6) (oC v0) a2 (by rw[M.lsz.1];exact aPp) (by rw[M.lsz.1];exact a1) M.lone.1) ⟨⟨pM k10 M.n610.1,pM k11 M.n610.2.1⟩,⟨C.lo,M.lsz.1,Ip a2,fun _=>rfl⟩,⟨v,b1,pM b2 (Ne.symm M.n67),fun h'=>b3 (mQ h' (by decide))⟩,below_setRow hB M.nn.1 _,(setRow_other _ _ C.D _ M.neD.1).trans hD⟩
  |3,_,hr =>
   have v0:a.tmps[76]?=some (.agg C.hi):=H.dep hr 1 76;exact Ia (X:=.store 28 (.tmp 7) (.tmp 76)) (by kernel_rfl) (fun o h=>Bi h (oC t7) (oC v0) b2 (by rw[M.lsz.2];exact aPp) (by rw[M.lsz.2];exact b1) M.lone.2) ⟨⟨pM k10 M.n610.2.2.1,pM k11 M.n610.2.2.2⟩,⟨u,a1,pM a2 M.n67,fun h'=>a3 (mQ h' (by decide))⟩,⟨C.hi,M.lsz.2,Ip b2,fun _=>rfl⟩,below_setRow hB M.nn.2 _,(setRow_other _ _ C.D _ M.neD.2).trans hD⟩
  |4,_,hr=>exact sQ (X:=.assign (.const (.int .i64 0))) (v:=.int .i64 0) (by kernel_rfl) (fun o h=>by simp[execOp,h,go_sem]) (fun _ _=>rfl) (ExC.keep (by decide) (by decide) H.g)
  |n+5,h,_=>exact absurd h (by omega)
 ·rintro⟨⟩ l W hall ⟨_,⟨u,_,a2,a3⟩,⟨v,_,b2,b3⟩,hB,hD⟩;obtain rfl:=a3 (hall 2 (by rw[hsz];decide));obtain rfl:=b3 (hall 3 (by rw[hsz];decide));exact hQ W a2 b2 hB hD
end
def exT(a:Option Addr)(n c:Nat)(ins:List UInt8)(fr til:Int)(b r o bl bi:Nat)(x t:Value):Array Value:=#[.slice a n c,.string ⟨ins.toArray⟩,.agg #[.int .i64 fr,.int .i64 til],undef,undef,.pointer (some ⟨b,0,none⟩),.pointer (some ⟨b+1,0,none⟩),.pointer (some ⟨b+1+1,0,none⟩),.int .i64 0,.int .i64 0,.pointer (some ⟨o,0,none⟩),.pointer (some ⟨o+1,0,none⟩),.pointer (some ⟨o+1+1,0,none⟩),t,.slice a n c,.pointer (some ⟨b,0,none⟩),.int .i64 fr,.pointer (some ⟨b,1,none⟩),.int .i64 til,.slice (some ⟨r,0,none⟩) 2 2,.int .i64 0,.int .i64 0,.bool false,undef,undef,undef,.pointer (some ⟨b,0,none⟩),.int .i64 fr,.pointer (some ⟨b,1,none⟩),.int .i64 til,.bool false,undef,undef,.slice a n c,.string ⟨ins.toArray⟩,.func (.func 118) #[] #[.pointer (some ⟨bl,0,none⟩),.pointer (some ⟨bi,0,none⟩)],x,undef,undef,undef,undef,undef,undef,undef,undef,undef,undef,undef,undef,undef,undef,undef,undef,undef,undef,undef,undef,undef,undef,undef,undef,undef,undef,undef,undef,undef,undef,undef,undef,undef,undef,undef,undef,undef,undef,undef,undef]
attribute [local go_sem] Oper.semAt_some
theorem aV0(xs:List aF)(a:Option Addr)(c:Nat)(ins:List UInt8)(fr til:Int)(w:World)(hE:iE w)(hv:gT w a c xs)(he:aPk (xs.map aF.f) 0 [fr,til]=0)(hle:¬ til<fr):
  Calls prog 41 #[.slice a xs.length c,.string ⟨ins.toArray⟩,.agg #[.int .i64 fr,.int .i64 til]] w fun e w'=>e=.returned (.tuple #[.agg (aTp fr til (ser ins (xs.map aF.f))),.agg (aRk fr til (ser ins (xs.map aF.f))),.int .i64 (aU6 (aTx fr til (ser ins (xs.map aF.f))))])/\Below w.heap.size w w':=by
 obtain⟨wa,hwa⟩:∃wa,wa=((w.alloc (.cells #[.int .i64 fr,.int .i64 til] 70)).alloc (.cells #[.string ⟨#[]⟩,.string ⟨#[]⟩] 28)).alloc (.cells #[.string ⟨#[]⟩,.string ⟨#[]⟩] 28):=⟨_,rfl⟩
 have HBA:Hid (Below w.heap.size w wa):=by show Below _ _ _;rw[hwa];exact aA (aA (aB _ _) (aB _ _)) (aB _ _)
 have HSA:Hid (wa.heap.size=w.heap.size+3):=by show _=_;rw[hwa];simp only[World.size_alloc]
 have K5:Hid (aP wa w.heap.size #[.int .i64 fr,.int .i64 til] 70):=by
  show aP _ _ _ _;rw[hwa];exact((aP.new0 w _ _).below (aB _ _)).below (aB _ _)
 have K6:Hid (aP wa (w.heap.size+1) Z2 28):=by
  have h:=(aP.new0 (w.alloc (.cells #[.int .i64 fr,.int .i64 til] 70)) Z2 28).below (aB _ (.cells Z2 28));rw[World.size_alloc] at h;show aP _ _ _ _;rw[hwa];exact h
 have K7:Hid (aP wa (w.heap.size+1+1) Z2 28):=by
  have h:=aP.new0 ((w.alloc (.cells #[.int .i64 fr,.int .i64 til] 70)).alloc (.cells Z2 28)) Z2 28;rw[World.size_alloc,World.size_alloc] at h;show aP _ _ _ _;rw[hwa];exact h
 have HBB:=Hd (aA HBA.out (aB wa (.cells #[.int .i64 fr,.int .i64 til] 23)));have hpc:=aQa xs a c 0 [fr,til] (some ⟨wa.heap.size,0,none⟩) 2 _ (hE.below HBB.out) (hv.below HBB.out) (by simp) (aQ1 (aP.new0 wa #[.int .i64 fr,.int .i64 til] 23));rw[show [fr,til].length=2 from rfl] at hpc;have HPC:=Hd hpc;have K5b:=Hd (K5.out.below (aB wa (.cells #[.int .i64 fr,.int .i64 til] 23)));have K6b:=Hd (K6.out.below (aB wa (.cells #[.int .i64 fr,.int .i64 til] 23)));have K7b:=Hd (K7.out.below (aB wa (.cells #[.int .i64 fr,.int .i64 til] 23)));rw[he] at HPC;have hn:=hv.len;have HFA:=Hd hv.facts;have HGD:Hid (∀x,aUj ins (xs.map aF.f) x->x.price.small):=fun x h=>by
  obtain⟨f,hf,_,rfl⟩:=h;obtain⟨y,hy,rfl⟩:=List.mem_map.1 hf;exact(hv.ok y hy).small.price
 have HE:=Hd hE;have hle':decide (til<fr)=false:=decide_eq_false hle;clear hE hv hpc he HBA K5 K6 K7;obtain⟨wb,hwb⟩:∃wb,wb=wa.alloc (.cells #[.int .i64 fr,.int .i64 til] 23):=⟨_,rfl⟩
 rw[<-hwb] at HPC K5b K6b K7b HBB;refine(callsIn_wide (n:=6)).1 ?_;refine callsIn_of_wp_marks func41 rfl trivial ?_ rfl;simp only[ntmps41,List.size_toArray,List.length_cons,List.length_nil,Nat.reduceAdd,Nat.reduceSub,Array.replicate_succ,Array.replicate_zero,List.push_toArray,List.append_toArray,List.nil_append,List.cons_append];gi_wp2_with fail;rw[<-hwa];rw[show w.heap.size+1+1+1=wa.heap.size from by rw[HSA.out],<-hwb];clear hwa hwb;refine⟨trivial,(callsIn_wide.2 HPC.out).mono ?_⟩;rintro e w1 ⟨rfl,hb⟩;have HB1:=Hd (aA HBB.out hb);have K61:=Hd (K6b.out.below hb);have K71:=Hd (K7b.out.below hb);have K51:=Hd (K5b.out.below hb);have k0:=(K51.out.cell 0).trans (show _=some (.int .i64 fr) from rfl);have k1:=(K51.out.cell 1).trans (show _=some (.int .i64 til) from rfl);obtain⟨o,ho⟩:∃o,o=w1.heap.size:=⟨_,rfl⟩
 obtain⟨w2,hw2⟩:∃w2,w2=((w1.alloc (.cells #[.string ⟨#[]⟩,.string ⟨#[]⟩] 28)).alloc (.cells #[.string ⟨#[]⟩,.string ⟨#[]⟩] 28)).alloc (.cells #[.bool false] 4):=⟨_,rfl⟩
 have hb2:Below w1.heap.size w1 w2:=by rw[hw2];exact aA (aA (aB _ _) (aB _ _)) (aB _ _)
 have HS2:Hid (w2.heap.size=o+3):=by show _=_;rw[hw2,ho];simp only[World.size_alloc]
 have K10:Hid (aP w2 o Z2 28):=by show aP _ _ _ _;rw[hw2,ho];exact((aP.new0 w1 Z2 _).below (aB _ (.cells Z2 28))).below (aB _ _)
 have K11:Hid (aP w2 (o+1) Z2 28):=by
  have h:=(aP.new0 (w1.alloc (.cells Z2 28)) Z2 28).below (aB _ (.cells #[.bool false] 4));rw[World.size_alloc] at h;show aP _ _ _ _;rw[hw2,ho];exact h
 have K12:Hid (aP w2 (o+1+1) #[.bool false] 4):=by
  have h:=aP.new0 ((w1.alloc (.cells Z2 28)).alloc (.cells Z2 28)) #[.bool false] 4;rw[World.size_alloc,World.size_alloc] at h;show aP _ _ _ _;rw[hw2,ho];exact h
 have HB2:=Hd (aA HB1.out hb2);have K52:=Hd (K51.out.below hb2);have K62:=Hd (K61.out.below hb2);have K72:=Hd (K71.out.below hb2);have HWO:Hid (w.heap.size+3<=o):=by have h1:=K71.out.1;rw[ho];show _<=_;omega
 have HR0:Hid (∃r,r=wa.heap.size):=⟨_,rfl⟩
 clear hb hb2 HPC HBB K5b K6b K7b HB1 K51 K61 K71;gi_wp2_with fail;rw[<-hw2,<-ho];clear hw2 ho k0 k1;refine⟨trivial,(callsIn_wide.2 (aR7 _ _ _ _ _)).mono ?_⟩;rintro e w3 ⟨bl,bi,rfl,lbl,lbi,kbl,kbi,hb⟩;have HB3:=Hd (aA HB2.out hb);have K53:=Hd (K52.out.below hb);have K63:=Hd (K62.out.below hb);have K73:=Hd (K72.out.below hb);have K103:=Hd (K10.out.below hb);have K113:=Hd (K11.out.below hb);have K123:=Hd (K12.out.below hb);have KBL:=Hd kbl;have KBI:=Hd kbi;have HO:Hid (o+3<=bl/\o+3<=bi/\o+3<=w3.heap.size):=by have h1:=HS2.out;have h2:=hb.size;show _/\_;omega
 obtain⟨rr,hrr⟩:∃rr,rr=wa.heap.size:=⟨_,rfl⟩
 rw[<-hrr];clear hb lbl lbi kbl kbi HB2 K52 K62 K72 K10 K11 K12 HS2 hrr HSA HR0;obtain⟨X,hX⟩:∃X:World->Nat->Prop,X=fun _ k=>k=o∨k=o+1∨k=o+1+1:=⟨_,rfl⟩
 have HXX:Hid (∀W k,X W k↔k=o∨k=o+1∨k=o+1+1):=fun W k=>by rw[hX]
 clear hX;have HSEQ:Hid (∀W1,Below w3.heap.size w3 W1->W1.heap.size=w3.heap.size+2->aVj 5 prog 118 #[.pointer (some ⟨bl,0,none⟩),.pointer (some ⟨bi,0,none⟩)] aSy (KpX w3.heap.size X) (fun ys=>ys=ser ins (xs.map aF.f)) (xs.length+1) W1 (aUj ins (xs.map aF.f))):=fun W1 hb1 hs1=>aT9 5 xs a c bl bi ins w3.heap.size X W1 hn (fun A B _ _ k hx=>(HXX.out A k).2 ((HXX.out B k).1 hx)) ⟨fun k hx=>by have:=(HXX.out _ k).1 hx;have:=HO.out;omega,fun hx=>by have:=(HXX.out _ _).1 hx;have:=HO.out;omega⟩ (fun W hW=>by
  have h1:=HO.out;have h2:=HWO.out;have hno:∀k,k<w3.heap.size->k≠o->k≠o+1->k≠o+1+1->¬ XR X W1.heap.size W1 k:=fun k hk n1 n2 n3 hx=>by
   rcases hx with hx|hx
   ·have:=(HXX.out _ k).1 hx;omega
   ·omega
  have hwW:Below w.heap.size w W:=(HB3.out.trans (hb1.mono (by omega))).trans (hW.below (by omega) (fun k hk=>⟨hno k (by omega) (by omega) (by omega) (by omega),by omega⟩));exact⟨HFA.out.below hwW,hW.box (hno bl KBL.out.1 (by omega) (by omega) (by omega)) (KBL.out.below hb1),hW.box (hno bi KBI.out.1 (by omega) (by omega) (by omega)) (KBI.out.below hb1)⟩)
 gi_wp2_with fail;refine aUe (n:=6) (gf:=118) (lb:=#[.pointer (some ⟨bl,0,none⟩),.pointer (some ⟨bi,0,none⟩)]) rfl (aXb func118) (encs:=aSy) (Kp:=KpX w3.heap.size X) (S:=fun ys=>ys=ser ins (xs.map aF.f)) (N:=xs.length+1) (fun h g=>h.trans g) (fun W l ob ob' hl ho hc=>aVr W l ob ob' hl (fun A B k=>((HXX.out A k).trans (HXX.out B k).symm)) ho hc (fun k hx=>by have:=(HXX.out W k).1 hx;have:=HO.out;have:=(Ai.1 ho).1;omega)) (fun _=>rfl) HSEQ.out
  (fun pre W=>(aP W o (aTp fr til pre) 28/\aP W (o+1) (aRk fr til pre) 28/\aP W (o+1+1) #[.bool (aTx fr til pre)] 4/\aP W w.heap.size #[.int .i64 fr,.int .i64 til] 70/\aP W (w.heap.size+1) Z2 28/\aP W (w.heap.size+1+1) Z2 28)/\(aUs pre/\Below w.heap.size w W/\SzL w3.heap.size W))
  (OwnFrom.and (Own.from (fun s A B row hs hg hr=>⟨nP _ _ (fun pre:List aJv=>aTp fr til pre) s A B row hs.1 hg hr,nP _ _ (fun pre:List aJv=>aRk fr til pre) s A B row hs.2.1 hg hr,nP _ _ (fun pre:List aJv=>#[.bool (aTx fr til pre)]) s A B row hs.2.2.1 hg hr,nP _ _ (fun _=>#[.int .i64 fr,.int .i64 til]) s A B row hs.2.2.2.1 hg hr,nP _ _ (fun _=>Z2) s A B row hs.2.2.2.2.1 hg hr,nP _ _ (fun _=>Z2) s A B row hs.2.2.2.2.2 hg hr⟩) _) (OwnFrom.and (fun _ A B row hs _ _=>hs) (OwnFrom.and (ownFrom_below (Nl _) (by have:=HB3.out.size;omega)) (fun _ A B row hs hg _=>Nat.le_trans hs hg.size))))
  (fun pre A B h hm=>by
   have h1:=HO.out;have h2:=HWO.out;obtain⟨⟨e1,e2,e3,e4,e5,e6⟩,hs,hB,hsz⟩:=h;have h3:w3.heap.size<=A.heap.size:=hsz;exact⟨⟨aQf e1 hm (by omega),aQf e2 hm (by omega),aQf e3 hm (by omega),aQf e4 hm (by omega),aQf e5 hm (by omega),aQf e6 hm (by omega)⟩,hs,aRz hB (by omega) hm (by omega),Nat.le_trans hsz (aSa hm)⟩)
  ⟨⟨K103.out,K113.out,K123.out,K53.out,K63.out,K73.out⟩,fun q hq=>(by cases hq),HB3.out,Nl _⟩
  (fun x a' W=>∃Bx,w3.heap.size<=Bx/\aP W Bx (aOx x) 46/\a' = { tmps:=exT a xs.length c ins fr til w.heap.size rr o bl bi (.agg (aOx x)) (.pointer (some ⟨Bx,0,none⟩)),defers:=[] })
  (fun x a' _ A B row hs hg hr=>by obtain⟨Bx,h1,h2,h3⟩:=hs;exact⟨Bx,h1,nP Bx _ (fun (_:Unit)=>aOx x) () A B row h2 hg (fun r e=>(hr r e).2),h3⟩)
  ?assign ?body ?done
 case assign =>
  rintro l pre x W K ⟨⟨e1,e2,e3,e4,e5,e6⟩,hs,hB,hsz⟩ hs2 hK;have HN:=Hd (heap_alloc_new W (.cells #[.int .i64 0,.string ⟨#[]⟩,.string ⟨#[]⟩] 46));have HBA:=Hd (aB W (.cells #[.int .i64 0,.string ⟨#[]⟩,.string ⟨#[]⟩] 46));have HKA:=Hd (KeepsOthers.alloc W (.cells #[.int .i64 0,.string ⟨#[]⟩,.string ⟨#[]⟩] 46));have HEE:=Hd (And.intro e1 (And.intro e2 (And.intro e3 (And.intro e4 (And.intro e5 e6)))));have HBB:=Hd hB;have HSX:Hid ((prog.info? 46).map (·.size)=some (aOx x).size):=aPm;have HONE:Hid ((aOx x).all (·.oneCell')=true):=aPw x;have HS3:Hid ((#[.int .i64 0,.string ⟨#[]⟩,.string ⟨#[]⟩]:Array Value).size=(aOx x).size):=rfl;have HKK:=Hd hK;have HSS:=Hd hs;unfold aSy;clear e1 e2 e3 e4 e5 e6 hB hK hs;gi_wp2_with (refine bQ (by rfl) 46 _ _ rfl W.heap.size rfl (aOx x) rfl HN.out HSX.out HS3.out HONE.out ?_;intro w4 kx bx ko Rt _);have hb4:=HBA.out.trans (bx _ (Nl _));obtain⟨e1,e2,e3,e4,e5,e6⟩:=HEE.out;exact HKK.out _ _ ((HKA.out.trans ko).from _) (aTr (fun A B k=>((HXX.out A k).trans (HXX.out B k).symm)) hb4 (fun k hx=>by have:=(HXX.out W k).1 hx;have:=HO.out;omega)) ⟨⟨e1.below hb4,e2.below hb4,e3.below hb4,e4.below hb4,e5.below hb4,e6.below hb4⟩,HSS.out,aA HBB.out hb4,Nat.le_trans hsz hb4.size⟩ ⟨W.heap.size,hsz,kx,rfl⟩
 case body =>
  rintro l pre x a' W ⟨⟨e1,e2,e3,e4,e5,e6⟩,hs,hB,hsz⟩ hs2 ⟨Bx,hBx,kX,rfl⟩ hlt hG;unfold exT;have hsx:=HGD.out x hG;have h1O:=HO.out;have h2O:=HWO.out;have HLV:Hid (∀W' k,w3.heap.size<=W'.heap.size->X W' k->k<W'.heap.size):=fun W' k h hx=>by have:=(HXX.out W' k).1 hx;have:=HO.out;omega
  have HXI:Hid (∀A B k,X A k↔X B k):=fun A B k=>((HXX.out A k).trans (HXX.out B k).symm)
  have HSS:Hid (aUs (pre ++ [x])):=fun q hq=>by
   rcases List.mem_append.1 hq with h|h
   ·exact hs q h
   ·rw[List.mem_singleton] at h;subst h;exact hsx
  have q0:=(kX.cell 0).trans (show _=some (.int .i64 x.day) from rfl);have c50:=(e4.cell 0).trans (show _=some (.int .i64 fr) from rfl);have c51:=(e4.cell 1).trans (show _=some (.int .i64 til) from rfl);have HBX:Hid (w3.heap.size<=Bx):=hBx;have hstay:inP fr til x=false->KeepsFrom w3.heap.size W W/\KpX w3.heap.size X W W/\((aP W o (aTp fr til (pre ++ [x])) 28/\aP W (o+1) (aRk fr til (pre ++ [x])) 28/\aP W (o+1+1) #[.bool (aTx fr til (pre ++ [x]))] 4/\aP W w.heap.size #[.int .i64 fr,.int .i64 til] 70/\aP W (w.heap.size+1) Z2 28/\aP W (w.heap.size+1+1) Z2 28)/\(aUs (pre ++ [x])/\Below w.heap.size w W/\SzL w3.heap.size W)):=fun h=>by
   obtain⟨h1,h2,h3⟩:=aVw pre h;rw[h1,h2,h3];exact⟨(zN (Br _ _)).from _,aTr HXI.out (Br _ _) (fun k hx=>HLV.out W k hsz hx),⟨e1,e2,e3,e4,e5,e6⟩,HSS.out,hB,hsz⟩
  have HSTAY:=Hd hstay;have HSZ:Hid (w3.heap.size<=W.heap.size):=hsz;clear hstay hsz
  by_cases hd1:x.day<fr
  ·have hin:inP fr til x=false:=by unfold inP;simp;omega
   have HST:=Hd (HSTAY.out hin);clear HSTAY HSS e1 e2 e3 e4 e5 e6 hs hB kX hG hsx;obtain⟨xd,hxd⟩:∃xd,xd=x.day:=⟨_,rfl⟩
   rw[<-hxd] at q0 hd1;clear hxd hin;gi_wp2_with fail;exact HST.out
  by_cases hd2:til<=x.day
  ·have hin:inP fr til x=false:=by unfold inP;simp;omega
   have HST:=Hd (HSTAY.out hin);clear HSTAY HSS e1 e2 e3 e4 e5 e6 hs hB kX hG hsx;obtain⟨xd,hxd⟩:∃xd,xd=x.day:=⟨_,rfl⟩
   rw[<-hxd] at q0 hd1 hd2;clear hxd hin;gi_wp2_with fail;exact HST.out
  have hin:inP fr til x=true:=by unfold inP;simp;omega
  have hany:=aVn pre hin;have HSP:Hid ((prog.info? 28).map (·.size)=some (aPf x.price).size):=aPp;have HPO:=Hd (aP0 x.price);have HSL:Hid ((aTp fr til pre).size=(aPf x.price).size):=rfl;have HSH:Hid ((aRk fr til pre).size=(aPf x.price).size):=rfl;have hfp:aPf x.price=#[.string ⟨x.price.n.toArray⟩,.string ⟨x.price.d.toArray⟩]:=rfl;have q1:=(kX.cell 1).trans (show _=some (.string ⟨x.price.n.toArray⟩) from rfl);have q2:=(kX.cell 2).trans (show _=some (.string ⟨x.price.d.toArray⟩) from rfl);have KXX:=Hd kX;have HQ1:Hid ((aOx x)[1]?=some (.string ⟨x.price.n.toArray⟩)/\(aOx x)[2]?=some (.string ⟨x.price.d.toArray⟩)):=⟨rfl,rfl⟩
  have n1:o+1≠o:=by omega
  have n2:o+1+1≠o:=by omega
  have n3:o+1+1≠o+1:=by omega
  have nb:Bx≠o/\Bx≠o+1/\Bx≠o+1+1:=by omega
  have nw:(w.heap.size≠o/\w.heap.size≠o+1/\w.heap.size≠o+1+1)/\(w.heap.size+1≠o/\w.heap.size+1≠o+1/\w.heap.size+1≠o+1+1)/\(w.heap.size+1+1≠o/\w.heap.size+1+1≠o+1/\w.heap.size+1+1≠o+1+1):=by omega
  have HNB:=Hd nb;have HNW:=Hd nw;have HN1:=Hd (And.intro n1 (And.intro n2 n3));have HWL:Hid (w.heap.size<=o):=by show _<=_;omega
  have K12:=Hd e3;have K5:=Hd e4;have K6:=Hd e5;have K7:=Hd e6;have HBW:=Hd hB;have HX0:Hid (X W o/\(∀W',X W' (o+1))/\∀W',X W' (o+1+1)):=⟨(HXX.out W o).2 (.inl rfl),fun W'=>(HXX.out W' _).2 (.inr (.inl rfl)),fun W'=>(HXX.out W' _).2 (.inr (.inr rfl))⟩
  have hfin:∀(W9:World),KeepsOthers W W9->KpX w3.heap.size X W W9->aP W9 o (aTp fr til (pre ++ [x])) 28->aP W9 (o+1) (aRk fr til (pre ++ [x])) 28->aP W9 (o+1+1) #[.bool (aTx fr til pre)] 4->aP W9 w.heap.size #[.int .i64 fr,.int .i64 til] 70->aP W9 (w.heap.size+1) Z2 28->aP W9 (w.heap.size+1+1) Z2 28->Below w.heap.size W W9 ->
    KeepsFrom w3.heap.size W (W9.setCell ⟨o+1+1,0,none⟩ (.bool true))/\KpX w3.heap.size X W (W9.setCell ⟨o+1+1,0,none⟩ (.bool true))/\((aP (W9.setCell ⟨o+1+1,0,none⟩ (.bool true)) o (aTp fr til (pre ++ [x])) 28/\aP (W9.setCell ⟨o+1+1,0,none⟩ (.bool true)) (o+1) (aRk fr til (pre ++ [x])) 28/\aP (W9.setCell ⟨o+1+1,0,none⟩ (.bool true)) (o+1+1) #[.bool (aTx fr til (pre ++ [x]))] 4/\aP (W9.setCell ⟨o+1+1,0,none⟩ (.bool true)) w.heap.size #[.int .i64 fr,.int .i64 til] 70/\aP (W9.setCell ⟨o+1+1,0,none⟩ (.bool true)) (w.heap.size+1) Z2 28/\aP (W9.setCell ⟨o+1+1,0,none⟩ (.bool true)) (w.heap.size+1+1) Z2 28)/\(aUs (pre ++ [x])/\Below w.heap.size w (W9.setCell ⟨o+1+1,0,none⟩ (.bool true))/\SzL w3.heap.size (W9.setCell ⟨o+1+1,0,none⟩ (.bool true)))):=by
   intro W9 hk hkp b0 b1 b2 b3 b4 b5 hbw;have hs9:w3.heap.size<=W9.heap.size:=Nat.le_trans HSZ.out hkp.1.size;have hkp2:KpX w3.heap.size X W9 (W9.setCell ⟨o+1+1,0,none⟩ (.bool true)):=aS1 HXI.out (grownBy_setCell' W9 _ _) (HX0.out.2.2 W9) (fun k hx=>HLV.out W9 k hs9 hx);refine⟨(hk.trans (KeepsOthers.setCell _ _ _)).from _,hkp.trans hkp2,⟨xK b0 (by omega),xK b1 (by omega),?_,xK b3 (by omega),xK b4 (by omega),xK b5 (by omega)⟩,HSS.out,HBW.out.trans (hbw.setCell (p:=⟨o+1+1,0,none⟩) (by simp;omega) (.bool true)),Nat.le_trans hs9 hkp2.1.size⟩;rw[hany];exact Boxed.box (Boxed.set (.bool true) (aP.boxed b2))
  have HFIN:=Hd hfin;clear hfin;have c12:=e3.cell 0
  by_cases h0:aRm fr til pre=[]
  ·obtain⟨s1,s2,s3,s4,s5⟩:=aUy pre hin h0;rw[s5] at c12;have K10:=Hd e1;have K11:=Hd e2;have HS12:Hid (aTp fr til (pre ++ [x])=#[.string ⟨x.price.n.toArray⟩,.string ⟨x.price.d.toArray⟩]/\aRk fr til (pre ++ [x])=#[.string ⟨x.price.n.toArray⟩,.string ⟨x.price.d.toArray⟩]):=⟨s1.trans hfp,s2.trans hfp⟩
   have HK5:Hid (aTx fr til pre=false):=s5;rw[hfp] at HSP HPO HSL HSH;clear hsx hG hs e1 e2 e3 e4 e5 e6 hB kX s1 s2 s3 s4 h0 hin hany hfp HSTAY n1 n2 n3 nb nw;generalize x.day=xd at *;generalize(⟨x.price.n.toArray⟩:ByteArray)=pn at *;generalize(⟨x.price.d.toArray⟩:ByteArray)=pd at *;gi_wp2_with fail;refine⟨trivial,?_⟩;gi_wp2_with ((refine bQ (by rfl) 28 _ _ rfl o rfl #[.string pn,.string pd] rfl K10.out.2 HSP.out HSL.out HPO.out ?_;intro W4 kx bx ko Rt gr;have KXW4:=Hd kx;have BXW4:=Hd bx;have KOW4:=Hd ko;have OTW4:=Hd Rt;have GRW4:=Hd gr;have q1:=((Rt _ _ _ HNB.out.1 KXX.out).cell 1).trans HQ1.out.1;have q2:=((Rt _ _ _ HNB.out.1 KXX.out).cell 2).trans HQ1.out.2;have K11b:=Hd (Rt _ _ _ HN1.out.1 K11.out);have K12b:=Hd (Rt _ _ _ HN1.out.2.1 K12.out);have c12:=(Rt _ _ _ HN1.out.2.1 K12.out).cell 0;rw[HK5.out] at c12;clear kx bx ko Rt gr));refine⟨trivial,?_⟩;gi_wp2_with ((refine bQ (by rfl) 28 _ _ rfl (o+1) rfl #[.string pn,.string pd] rfl K11b.out.2 HSP.out HSH.out HPO.out ?_;intro W5 kx bx ko Rt gr;have KXW5:=Hd kx;have BXW5:=Hd bx;have KOW5:=Hd ko;have OTW5:=Hd Rt;have GRW5:=Hd gr;have c12:=(Rt _ _ _ HN1.out.2.2 K12b.out).cell 0;have f12:=Boxed.frozen (aP.boxed (Rt _ _ _ HN1.out.2.2 K12b.out));clear kx bx ko Rt gr));have hk4:=aS1 (N:=w3.heap.size) HXI.out GRW4.out HX0.out.1 (fun k hx=>HLV.out W k HSZ.out hx);have hs4:=Nat.le_trans HSZ.out hk4.1.size;have hk5:=aS1 (N:=w3.heap.size) HXI.out GRW5.out (HX0.out.2.1 W4) (fun k hx=>HLV.out W4 k hs4 hx);exact HFIN.out W5 (KOW4.out.trans KOW5.out) (hk4.trans hk5) (by rw[HS12.out.1];exact OTW5.out _ _ _ HN1.out.1.symm KXW4.out) (by rw[HS12.out.2];exact KXW5.out) (OTW5.out _ _ _ HN1.out.2.2 K12b.out) (OTW5.out _ _ _ HNW.out.1.2.1 (OTW4.out _ _ _ HNW.out.1.1 K5.out)) (OTW5.out _ _ _ HNW.out.2.1.2.1 (OTW4.out _ _ _ HNW.out.2.1.1 K6.out)) (OTW5.out _ _ _ HNW.out.2.2.2.1 (OTW4.out _ _ _ HNW.out.2.2.1 K7.out)) ((BXW4.out _ HWL.out).trans (BXW5.out _ (Nat.le_succ_of_le HWL.out)))
  ·obtain⟨lo,hi,m1,m2,s1,s2,s3,s4,s5⟩:=aU7 pre hin h0;have hlo:lo.small:=by obtain⟨q,hq,_,rfl⟩:=aUi m1;exact hs q hq
   have hhi:hi.small:=by obtain⟨q,hq,_,rfl⟩:=aUi m2;exact hs q hq
   have HC1:Hid (∀W',Below w.heap.size w W'->Calls prog 25 #[.agg #[.string ⟨x.price.n.toArray⟩,.string ⟨x.price.d.toArray⟩],.agg #[.string ⟨lo.n.toArray⟩,.string ⟨lo.d.toArray⟩]] W' fun e w'=>e=.returned (.int .i64 (aJ3 x.price lo))/\Below W'.heap.size W' w'):=fun W' hb=>fB x.price.n x.price.d lo.n lo.d W' (HE.out.below hb) hsx.1 hsx.2 hlo.1 hlo.2
   have HC2:Hid (∀W',Below w.heap.size w W'->Calls prog 25 #[.agg #[.string ⟨x.price.n.toArray⟩,.string ⟨x.price.d.toArray⟩],.agg #[.string ⟨hi.n.toArray⟩,.string ⟨hi.d.toArray⟩]] W' fun e w'=>e=.returned (.int .i64 (aJ3 x.price hi))/\Below W'.heap.size W' w'):=fun W' hb=>fB x.price.n x.price.d hi.n hi.d W' (HE.out.below hb) hsx.1 hsx.2 hhi.1 hhi.2
   rw[s3] at c12;have K10:=Hd e1;have K11:=Hd e2;have HK5:Hid (aTx fr til pre=true):=s3;have HLO:Hid ((aTp fr til pre)[0]?=some (.string ⟨lo.n.toArray⟩)/\(aTp fr til pre)[1]?=some (.string ⟨lo.d.toArray⟩)):=by rw[s1];exact⟨rfl,rfl⟩
   have HHI:Hid ((aRk fr til pre)[0]?=some (.string ⟨hi.n.toArray⟩)/\(aRk fr til pre)[1]?=some (.string ⟨hi.d.toArray⟩)):=by rw[s2];exact⟨rfl,rfl⟩
   have HS4:Hid (aTp fr til (pre ++ [x])=if aJ3 x.price lo<0 then #[.string ⟨x.price.n.toArray⟩,.string ⟨x.price.d.toArray⟩] else aTp fr til pre):=by show _=_;rw[s4,s1,hfp]
   have HS5:Hid (aRk fr til (pre ++ [x])=if 0<aJ3 x.price hi then #[.string ⟨x.price.n.toArray⟩,.string ⟨x.price.d.toArray⟩] else aRk fr til pre):=by show _=_;rw[s5,s2,hfp]
   rw[hfp] at HSP HPO HSL HSH;have a0:=(e1.cell 0).trans HLO.out.1;have a1:=(e1.cell 1).trans HLO.out.2;clear hsx hG hs e1 e2 e3 e4 e5 e6 hB kX s1 s2 s3 s4 s5 h0 hin hany hfp HSTAY n1 n2 n3 nb nw hlo hhi m1 m2;generalize aJ3 x.price lo=r1 at *;generalize aJ3 x.price hi=r2 at *;generalize x.day=xd at *;generalize(⟨x.price.n.toArray⟩:ByteArray)=pn at *;generalize(⟨x.price.d.toArray⟩:ByteArray)=pd at *;generalize(⟨lo.n.toArray⟩:ByteArray)=ln at *;generalize(⟨lo.d.toArray⟩:ByteArray)=ld at *;generalize(⟨hi.n.toArray⟩:ByteArray)=gn at *;generalize(⟨hi.d.toArray⟩:ByteArray)=gd at *;gi_wp2_with fail;refine⟨trivial,(CallsIn.inRound l (callsIn_wide.2 (HC1.out W HBW.out))).mono ?_⟩;rintro e W5 ⟨rfl,hb5⟩;have HB5:=Hd hb5;have KX5:=Hd (KXX.out.below hb5);have K105:=Hd (K10.out.below hb5);have K115:=Hd (K11.out.below hb5);have K125:=Hd (K12.out.below hb5);have K55:=Hd (K5.out.below hb5);have K65:=Hd (K6.out.below hb5);have K75:=Hd (K7.out.below hb5);have HSZ5:Hid (w3.heap.size<=W5.heap.size):=Nat.le_trans HSZ.out hb5.size;have hk5:=aTr (N:=w3.heap.size) HXI.out hb5 (fun k hx=>HLV.out W k HSZ.out hx);have HK5X:=Hd hk5;have q1:=(KX5.out.cell 1).trans HQ1.out.1;have q2:=(KX5.out.cell 2).trans HQ1.out.2;have c12:=K125.out.cell 0;rw[HK5.out] at c12;have b0:=(K115.out.cell 0).trans HHI.out.1;have b1:=(K115.out.cell 1).trans HHI.out.2;clear hb5 hk5 a0 a1 c50 c51 q0 HC1
   by_cases t1:r1<0
   ·have HE4:Hid (aTp fr til (pre ++ [x])=#[.string pn,.string pd]):=by show _=_;rw[HS4.out,if_pos t1]
    clear HS4;gi_wp2_with ((refine bQ (by rfl) 28 _ _ rfl o rfl #[.string pn,.string pd] rfl K105.out.2 HSP.out HSL.out HPO.out ?_;intro W6 kx bx ko Rt gr;have KXW6:=Hd kx;have BXW6:=Hd bx;have KOW6:=Hd ko;have OTW6:=Hd Rt;have GRW6:=Hd gr;have q1:=((Rt _ _ _ HNB.out.1 KX5.out).cell 1).trans HQ1.out.1;have q2:=((Rt _ _ _ HNB.out.1 KX5.out).cell 2).trans HQ1.out.2;have b0:=((Rt _ _ _ HN1.out.1 K115.out).cell 0).trans HHI.out.1;have b1:=((Rt _ _ _ HN1.out.1 K115.out).cell 1).trans HHI.out.2;have c12:=(Rt _ _ _ HN1.out.2.1 K125.out).cell 0;rw[HK5.out] at c12;clear kx bx ko Rt gr));have KX6:=Hd (OTW6.out _ _ _ HNB.out.1 KX5.out);have K116:=Hd (OTW6.out _ _ _ HN1.out.1 K115.out);have K126:=Hd (OTW6.out _ _ _ HN1.out.2.1 K125.out);have K56:=Hd (OTW6.out _ _ _ HNW.out.1.1 K55.out);have K66:=Hd (OTW6.out _ _ _ HNW.out.2.1.1 K65.out);have K76:=Hd (OTW6.out _ _ _ HNW.out.2.2.1 K75.out);have K106:=KXW6;have HSZ6:Hid (w3.heap.size<=W6.heap.size):=Nat.le_trans HSZ5.out (aS1 (N:=w3.heap.size) HXI.out GRW6.out ((HXX.out W5 o).2 (.inl rfl)) (fun k hx=>HLV.out W5 k HSZ5.out hx)).1.size;have HK6X:=Hd (HK5X.out.trans (aS1 (N:=w3.heap.size) HXI.out GRW6.out ((HXX.out W5 o).2 (.inl rfl)) (fun k hx=>HLV.out W5 k HSZ5.out hx)));have HKO6:=Hd ((zN HB5.out).trans KOW6.out);have HBL6:Hid (Below w.heap.size W W6):=(HB5.out.mono HBW.out.size).trans (BXW6.out _ HWL.out);have HBW6:=Hd (HBW.out.trans HBL6.out);refine⟨trivial,(CallsIn.inRound l (callsIn_wide.2 (HC2.out W6 HBW6.out))).mono ?_⟩;rintro e W7 ⟨rfl,hb7⟩;have KX7:=Hd (KX6.out.below hb7);have K107:=Hd (K106.out.below hb7);have K117:=Hd (K116.out.below hb7);have K127:=Hd (K126.out.below hb7);have K57:=Hd (K56.out.below hb7);have K67:=Hd (K66.out.below hb7);have K77:=Hd (K76.out.below hb7);have HB7:=Hd hb7;have HSZ7:Hid (w3.heap.size<=W7.heap.size):=Nat.le_trans HSZ6.out hb7.size;have HK7X:=Hd (HK6X.out.trans (aTr (N:=w3.heap.size) HXI.out hb7 (fun k hx=>HLV.out W6 k HSZ6.out hx)));have HKO7:=Hd (HKO6.out.trans (zN hb7));have HBL7:Hid (Below w.heap.size W W7):=HBL6.out.trans (hb7.mono (Nat.le_trans HWL.out (by have:=HO.out;have:=HSZ6.out;omega)));have q1:=(KX7.out.cell 1).trans HQ1.out.1;have q2:=(KX7.out.cell 2).trans HQ1.out.2;clear hb7 b0 b1 c12 HC2
    by_cases t2:0<r2
    ·have e5:aRk fr til (pre ++ [x])=#[.string pn,.string pd]:=by rw[HS5.out,if_pos t2]
     have HE5:=Hd e5;clear e5 HS5;gi_wp2_with ((refine bQ (by rfl) 28 _ _ rfl (o+1) rfl #[.string pn,.string pd] rfl K117.out.2 HSP.out HSH.out HPO.out ?_;intro W8 kx bx ko Rt gr;have KXW8:=Hd kx;have BXW8:=Hd bx;have KOW8:=Hd ko;have OTW8:=Hd Rt;have GRW8:=Hd gr;have c12:=(Rt _ _ _ HN1.out.2.2 K127.out).cell 0;have f12:=Boxed.frozen (aP.boxed (Rt _ _ _ HN1.out.2.2 K127.out));clear kx bx ko Rt gr));have hk8:=HK7X.out.trans (aS1 (N:=w3.heap.size) HXI.out GRW8.out (HX0.out.2.1 W7) (fun k hx=>HLV.out W7 k HSZ7.out hx));exact HFIN.out W8 (HKO7.out.trans KOW8.out) hk8 (by rw[HE4.out];exact OTW8.out _ _ _ HN1.out.1.symm K107.out) (by rw[HE5.out];exact KXW8.out) (OTW8.out _ _ _ HN1.out.2.2 K127.out) (OTW8.out _ _ _ HNW.out.1.2.1 K57.out) (OTW8.out _ _ _ HNW.out.2.1.2.1 K67.out) (OTW8.out _ _ _ HNW.out.2.2.2.1 K77.out) (HBL7.out.trans (BXW8.out _ (Nat.le_succ_of_le HWL.out)))
    ·have e5:aRk fr til (pre ++ [x])=aRk fr til pre:=by rw[HS5.out,if_neg t2]
     have HE5:=Hd e5;have c12:=K127.out.cell 0;have f12:=Boxed.frozen (aP.boxed K127.out);clear e5 HS5;gi_wp2_with fail;exact HFIN.out W7 HKO7.out HK7X.out (by rw[HE4.out];exact K107.out) (by rw[HE5.out];exact K117.out) K127.out K57.out K67.out K77.out HBL7.out
   ·have HE4:Hid (aTp fr til (pre ++ [x])=aTp fr til pre):=by show _=_;rw[HS4.out,if_neg t1]
    clear HS4;gi_wp2_with fail;have KX6:=KX5;have K106:=K105;have K116:=K115;have K126:=K125;have K56:=K55;have K66:=K65;have K76:=K75;have HSZ6:=HSZ5;have HK6X:=HK5X;have HKO6:=Hd (zN HB5.out);have HBL6:Hid (Below w.heap.size W W5):=HB5.out.mono HBW.out.size;have HBW6:=Hd (HBW.out.trans HBL6.out);refine⟨trivial,(CallsIn.inRound l (callsIn_wide.2 (HC2.out W5 HBW6.out))).mono ?_⟩;rintro e W7 ⟨rfl,hb7⟩;have KX7:=Hd (KX6.out.below hb7);have K107:=Hd (K106.out.below hb7);have K117:=Hd (K116.out.below hb7);have K127:=Hd (K126.out.below hb7);have K57:=Hd (K56.out.below hb7);have K67:=Hd (K66.out.below hb7);have K77:=Hd (K76.out.below hb7);have HB7:=Hd hb7;have HSZ7:Hid (w3.heap.size<=W7.heap.size):=Nat.le_trans HSZ6.out hb7.size;have HK7X:=Hd (HK6X.out.trans (aTr (N:=w3.heap.size) HXI.out hb7 (fun k hx=>HLV.out W5 k HSZ6.out hx)));have HKO7:=Hd (HKO6.out.trans (zN hb7));have HBL7:Hid (Below w.heap.size W W7):=HBL6.out.trans (hb7.mono (Nat.le_trans HWL.out (by have:=HO.out;have:=HSZ6.out;omega)));have q1:=(KX7.out.cell 1).trans HQ1.out.1;have q2:=(KX7.out.cell 2).trans HQ1.out.2;clear hb7 b0 b1 c12 HC2
    by_cases t2:0<r2
    ·have e5:aRk fr til (pre ++ [x])=#[.string pn,.string pd]:=by rw[HS5.out,if_pos t2]
     have HE5:=Hd e5;clear e5 HS5;gi_wp2_with ((refine bQ (by rfl) 28 _ _ rfl (o+1) rfl #[.string pn,.string pd] rfl K117.out.2 HSP.out HSH.out HPO.out ?_;intro W8 kx bx ko Rt gr;have KXW8:=Hd kx;have BXW8:=Hd bx;have KOW8:=Hd ko;have OTW8:=Hd Rt;have GRW8:=Hd gr;have c12:=(Rt _ _ _ HN1.out.2.2 K127.out).cell 0;have f12:=Boxed.frozen (aP.boxed (Rt _ _ _ HN1.out.2.2 K127.out));clear kx bx ko Rt gr));have hk8:=HK7X.out.trans (aS1 (N:=w3.heap.size) HXI.out GRW8.out (HX0.out.2.1 W7) (fun k hx=>HLV.out W7 k HSZ7.out hx));exact HFIN.out W8 (HKO7.out.trans KOW8.out) hk8 (by rw[HE4.out];exact OTW8.out _ _ _ HN1.out.1.symm K107.out) (by rw[HE5.out];exact KXW8.out) (OTW8.out _ _ _ HN1.out.2.2 K127.out) (OTW8.out _ _ _ HNW.out.1.2.1 K57.out) (OTW8.out _ _ _ HNW.out.2.1.2.1 K67.out) (OTW8.out _ _ _ HNW.out.2.2.2.1 K77.out) (HBL7.out.trans (BXW8.out _ (Nat.le_succ_of_le HWL.out)))
    ·have e5:aRk fr til (pre ++ [x])=aRk fr til pre:=by rw[HS5.out,if_neg t2]
     have HE5:=Hd e5;have c12:=K127.out.cell 0;have f12:=Boxed.frozen (aP.boxed K127.out);clear e5 HS5;gi_wp2_with fail;exact HFIN.out W7 HKO7.out HK7X.out (by rw[HE4.out];exact K107.out) (by rw[HE5.out];exact K117.out) K127.out K57.out K67.out K77.out HBL7.out
 case done =>
  rintro D ys W hD rfl ⟨⟨e1,e2,e3,e4,e5,e6⟩,hs,hB,hsz⟩ hK;have h1:=HO.out;have h2:=HWO.out;have hD1:w.heap.size+1≠D/\w.heap.size+1+1≠D:=by omega
  have HK:=Hd hK;have HBB:=Hd hB;have HDD:=Hd hD1;have HHD:Hid (w.heap.size<=D):=by show _<=_;omega
  obtain⟨L,hL⟩:∃L,L=ser ins (xs.map aF.f):=⟨_,rfl⟩
  rw[<-hL] at e1 e2 e3;have HLE:=Hd hL;have c12:=e3.cell 0;have K6:=Hd e5;have K7:=Hd e6;have K10:=Hd e1;have K11:=Hd e2;have HSF:Hid ((prog.info? 28).map (·.size)=some Z2.size):=aPp;have HZ1:Hid (Z2.all (·.oneCell')=true):=aP0 ⟨[],[]⟩;have HN:Hid (w.heap.size+1+1≠w.heap.size+1/\o≠w.heap.size+1/\o+1≠w.heap.size+1/\o≠w.heap.size+1+1/\o+1≠w.heap.size+1+1):=by show _/\_;omega
  clear e1 e2 e3 e4 e5 e6 hs hB hK hD1 hL hsz hD;cases hany:aTx fr til L with
  |false =>
   rw[hany] at c12;have hlz:aTp fr til L=Z2/\aRk fr til L=Z2:=by
    unfold aTx at hany;unfold aTp aRk;cases hc:aRm fr til L with
    |nil=>exact⟨rfl,rfl⟩
    |cons _ _=>rw[hc] at hany;cases hany
   have HLZ:=Hd hlz;have HAN:=Hd hany;clear hlz hany K10 K11;gi_wp2_with (first|(refine bQ (by rfl) 28 _ _ rfl (w.heap.size+1) rfl #[.string ⟨#[]⟩,.string ⟨#[]⟩] rfl K6.out.2 HSF.out rfl HZ1.out ?_;intro W4 kx bx ko Rt _;have KX4:=Hd kx;have K74:=Hd (Rt _ _ _ HN.out.1 K7.out);have BX4:=Hd (bx _ (Nat.le_succ _));have HK4:=Hd (ko.2 D _ HK.out rfl);clear kx bx ko Rt)|(refine bQ (by rfl) 28 _ _ rfl (w.heap.size+1+1) rfl #[.string ⟨#[]⟩,.string ⟨#[]⟩] rfl K74.out.2 HSF.out rfl HZ1.out ?_;intro W5 kx bx ko Rt _;have KX5:=Hd (Rt _ _ _ HN.out.1.symm KX4.out);have K75:=Hd kx;have BX5:=Hd (bx w.heap.size (by omega));have HK5:=Hd (ko.2 D _ HK4.out rfl);clear kx bx ko Rt));refine⟨by simp,.inl ⟨_,_,rfl,run_takeDeferred HK5.out,?_⟩⟩;have hh6:=(World.putObj_heap_other (w:=W5) (o:=.deferred none) HDD.out.1).trans KX5.out.2;have hh7:=(World.putObj_heap_other (w:=W5) (o:=.deferred none) HDD.out.2).trans K75.out.2;exact⟨_,aTw rfl _ _ _ _ _ _ _ _ _ rfl rfl hh6 hh7 underlying28 rfl HSF.out HSF.out,by rw[<-HLE.out,HLZ.out.1,HLZ.out.2,HAN.out];rfl,((HBB.out.trans BX4.out).trans BX5.out).trans (belowK_b (w:=w) (Nl _) W5 D _ _ HHD.out HK5.out rfl rfl)⟩
  |true =>
   rw[hany] at c12;have HLO:Hid ((aTp fr til L).size=2/\(aRk fr til L).size=2):=⟨rfl,rfl⟩
   have HL1:Hid ((aTp fr til L).all (·.oneCell')=true/\(aRk fr til L).all (·.oneCell')=true):=⟨aP0 _,aP0 _⟩
   have HAN:=Hd hany;obtain⟨lo,hlo⟩:∃lo,lo=aTp fr til L:=⟨_,rfl⟩
   obtain⟨hi,hhi⟩:∃hi,hi=aRk fr til L:=⟨_,rfl⟩
   rw[<-hlo] at K10 HLO HL1;rw[<-hhi] at K11 HLO HL1;have HEQ:=Hd (And.intro hlo hhi);clear hany hlo hhi;gi_wp2_with fail;refine aVh (C:=⟨w,w.heap.size,w.heap.size+1,w.heap.size+1+1,o,o+1,D,lo,hi⟩) ⟨rfl,rfl,rfl,rfl,rfl,HN.out.1.symm,⟨HN.out.2.1,HN.out.2.2.1,HN.out.2.2.2.1,HN.out.2.2.2.2⟩,⟨HDD.out.1.symm,HDD.out.2.symm⟩,⟨Nat.le_succ _,by show w.heap.size<=w.heap.size+1+1;omega⟩,HLO.out,HL1.out⟩ rfl rfl (fun l hno=>⟨⟨K10.out,K11.out⟩,⟨Z2,rfl,K6.out,fun h=>absurd h (hno 2)⟩,⟨Z2,rfl,K7.out,fun h=>absurd h (hno 3)⟩,aD HBB.out 1,HK.out⟩) ?_;intro W5 k6 k7 hb5 hk5;have K65:=Hd k6;have K75:=Hd k7;have HB5:=Hd hb5;have HK5:=Hd hk5;simp only[iZ,aV1,List.foldl,List.setIfInBounds_toArray,List.set_cons_zero,List.set_cons_succ,ExC.val];clear k6 k7 hb5 hk5 K6 K7 K10 K11 HBB HK;gi_wp2;refine⟨by simp,.inl ⟨_,_,rfl,run_takeDeferred HK5.out,?_⟩⟩;have hh6:=(World.putObj_heap_other (w:=W5) (o:=.deferred none) HDD.out.1).trans K65.out.2;have hh7:=(World.putObj_heap_other (w:=W5) (o:=.deferred none) HDD.out.2).trans K75.out.2;exact⟨_,aTw rfl _ _ _ _ _ _ _ _ _ rfl rfl hh6 hh7 underlying28 rfl (by rw[HLO.out.1];exact aPp) (by rw[HLO.out.2];exact aPp),by rw[<-HLE.out,<-HEQ.out.1,<-HEQ.out.2,HAN.out];rfl,HB5.out.trans (belowK_b (w:=w) (Nl _) W5 D _ _ HHD.out HK5.out rfl rfl)⟩
end
section
open Go Go.RowKit Num
theorem aV4:∃q pq,aX.find? (fun p=>p.1==(15:Int))=some q/\q.2.has.getD 7 false=true/\q.2.nums.find? (fun p=>p.1==(7:Int))=some pq:=⟨_,_,rfl,rfl,rfl⟩
theorem aU8{f:aE}(h:bY f=0)(hc:f.cancelled=false)(hk:f.kind=15):Cu f.price.n f.price.d=true:=by
 obtain⟨_,_,_,q,hq,hf⟩:=(mY hc).1 h;obtain⟨q',pq,h1,h2,h3⟩:=aV4;rw[hk,h1] at hq;obtain rfl:=Option.some.inj hq;have h4:=hf 7 (by decide);unfold bX at h4;rw[if_pos h2] at h4;have h5:bT f q'.2 7=lim pq.2.1 pq.2.2 f.price.n f.price.d:=by
  unfold bT;rw[if_neg (by decide),if_neg (by decide),if_neg (by decide),if_neg (by decide),if_neg (by decide),if_neg (by decide),if_neg (by decide),show ((7:Nat):Int)=7 from rfl,h3];rfl
 rw[h5] at h4;unfold lim at h4;cases hfk:Cu f.price.n f.price.d with
 |true=>rfl
 |false=>rw[if_pos hfk] at h4;cases h4
theorem aVz{n d:List UInt8}(h:Cu n d=true):0<lU d:=by
 unfold Cu at h;rw[Bool.and_eq_true] at h;have h2:d=nD (fT (val n) (lU d)):=by simpa using h.2
 have h3:=aKn (N:=val n) (qQ d);rw[h2,aK1 h3];exact h3
theorem aVx{fs:List aE}{ins:List UInt8}{q:aJv}(hv:dF fs=0)(h:q∈ser ins fs):0<lU q.price.d:=by
 obtain⟨f,hf,hq,rfl⟩:=aLv hv h;obtain⟨h1,h2,_⟩:=(oW.1 hv).2.1 f hf;unfold isQ at hq;simp at hq;exact aVz (aU8 h1 h2 hq.1)
end
section
open Go Go.RowKit Num
theorem aV7{w:World}{g:Nat}{cur:Array Value}{e:TypeId}{fr:Nat×Nat}(h:w.heap[g]?=some (.cells cur e fr))(j:Nat)(u:Value):(w.setCell ⟨g,j,none⟩ u).heap[g]?=some (.cells (cur.setIfInBounds j u) e fr):=by
 have hlt:=(Ai.1 h).1;have h':w.heap[g]=.cells cur e fr:=(Ai.1 h).2;show (w.heap.modify g _)[g]?=_;rw[Array.getElem?_eq_getElem (by simpa using hlt),Array.getElem_modify_self,h'];rfl
theorem aVv{w:World}{base n cap g j:Nat}{e:TypeId}{size:Nat}{xs:List Value}(h:w.ownsRow base e size (.slice (some ⟨g,0,none⟩) n cap) n xs)(u:Value):
  (w.setCell ⟨g,j,none⟩ u).ownsRow base e size (.slice (some ⟨g,0,none⟩) n cap) n (xs.set j u)/\w.grownBy (w.setCell ⟨g,j,none⟩ u) (some g):=by
 obtain⟨h1,h2⟩:=h;rcases h2 with⟨hv,_⟩|⟨g',cap',cur,hv,hg,hh,hc,hm,hs,ht⟩
 ·cases hv
 ·injection hv with e1 _ e2
  injection e1 with e1
  injection e1 with e1 _ _
  subst e1 e2;refine⟨⟨by rw[List.length_set];exact h1,.inr ⟨g,cap,cur.setIfInBounds j u,rfl,hg,aV7 hh j u,hc,hm,by simp[hs],?_⟩⟩,?_⟩
  ·rw[Array.toList_setIfInBounds,List.take_set,ht]
  ·exact⟨rfl,rfl,rfl,by simp[World.setCell],fun k hk hne=>Below.heap_setCell _ _ _ _ (fun e=>hne (by simp at e;rw[e]))⟩
theorem aV3{w:World}{base n:Nat}{e:TypeId}{size:Nat}{v:Value}{xs:List Value}(h:w.ownsRow base e size v n xs)(hn:0<n):∃g cap,v=.slice (some ⟨g,0,none⟩) n cap/\base<=g/\(∀j u,xs[j]?=some u->w.cell? ⟨g,j,none⟩=some u)/\∀j,w.frozen? ⟨g,j,none⟩=false:=by
 obtain⟨h1,h2⟩:=h;rcases h2 with⟨_,h0⟩|⟨g,cap,cur,hv,hg,hh,hc,hm,hs,ht⟩
 ·omega
 ·refine⟨g,cap,hv,hg,fun j u hu=>?_,fun j=>by simp[World.frozen?,hh]⟩;rw[aS hh,<-Array.getElem?_toList,<-hu,<-ht];have hl:=(Li.1 hu).1;rw[List.getElem?_take_of_lt (by omega)]
theorem aWd(l:List aJv)(p q:aJv):(((aT7 (l ++ [p])).set (l.length*3) (.int .i64 q.day)).set (l.length*3+1) (.string ⟨q.price.n.toArray⟩)).set (l.length*3+2) (.string ⟨q.price.d.toArray⟩)=aT7 (l ++ [q]):=by
 rw[aU3,aU3];have hl:(aT7 l).length=l.length*3:=by
  unfold aT7
  induction l with
  |nil=>rfl
  |cons a r ih=>rw[List.flatMap_cons,List.length_append,ih,List.length_cons];show 3+_=_;omega
 rw[List.set_append_right _ _ (by omega),List.set_append_right _ _ (by omega),List.set_append_right _ _ (by omega),hl];simp[aOx]
theorem aTu(l:List aJv)(p:aJv):(aT7 (l ++ [p]))[l.length*3]?=some (.int .i64 p.day)/\(aT7 (l ++ [p]))[l.length*3+1]?=some (.string ⟨p.price.n.toArray⟩)/\(aT7 (l ++ [p]))[l.length*3+2]?=some (.string ⟨p.price.d.toArray⟩):=by
 rw[aU3];have hl:(aT7 l).length=l.length*3:=by
  unfold aT7
  induction l with
  |nil=>rfl
  |cons a r ih=>rw[List.flatMap_cons,List.length_append,ih,List.length_cons];show 3+_=_;omega
 refine⟨?_,?_,?_⟩
 ·rw[List.getElem?_append_right (by omega),hl];simp[aOx]
 ·rw[List.getElem?_append_right (by omega),hl];simp[aOx]
 ·rw[List.getElem?_append_right (by omega),hl];simp[aOx]
theorem aUu(xs:List aF)(a:Option Addr)(c:Nat)(ins:List UInt8)(w:World)(hn:xs.length<=1000000)(hr:fS w a xs):
  Calls prog 71 #[.slice a xs.length c,.string ⟨ins.toArray⟩] w fun e w'=>(∃v,e=.returned v/\w'.ownsRow w.heap.size 46 3 v (ser ins (xs.map aF.f)).length (aT7 (ser ins (xs.map aF.f))))/\Below w.heap.size w w':=by
 obtain⟨i0,hi,hz0,hz1,hz2⟩:=info_parts aVd;have HINF:=Hd (And.intro hi (And.intro hz0 (And.intro hz1 hz2)));have HR:=Hd hr;obtain⟨L,hL⟩:∃L:Nat->List aJv,L=fun k=>ser ins ((xs.map aF.f).take k):=⟨_,rfl⟩
 have HL0:Hid (L 0=[]):=by show _=_;rw[hL];rfl
 have HLS:Hid (∀k x,xs[k]?=some x->L (k+1)=aJ1 ins (L k) x.f):=fun k x hx=>by rw[hL];exact aLm (by rw[List.getElem?_map,hx];rfl)
 have HLE:Hid (L xs.length=ser ins (xs.map aF.f)):=by show _=_;rw[hL];simp only;rw[List.take_of_length_le (by simp)]
 have HLN:Hid (∀k,(L k).length<=k):=fun k=>by rw[hL];exact Nat.le_trans (aLw _ _) (by simp;omega)
 have HOM:=Hd (World.ownsRow_made (e:=46) (size:=3) w #[] 0 (Nl _) (Nat.zero_le _) rfl);have HB0:=Hd (aB w (.cells #[] 46));clear hr hi hz0 hz1 hz2 hL;go_enter func71,ntmps71;go_wp2_with fail;go_loopw [5,6] (fun ov iv wr=>∃k:Nat,k<=xs.length/\iv=.int .i64 k/\Hid (wr.ownsRow w.heap.size 46 3 ov (L k).length (aT7 (L k)))/\Hid (Below w.heap.size w wr)) (fun _ iv _=>xs.length-(intOf iv).toNat)
 case atStart=>exact⟨0,Nat.zero_le _,rfl,by show World.ownsRow _ _ _ _ _ _ _;rw[HL0.out];exact HOM.out,HB0⟩
 case round =>
  obtain⟨k,hk,rfl,HO,HB⟩:=hrel;have HLK:=Hd (HLN.out k)
  by_cases hlt:k<xs.length
  ·obtain⟨x,hx⟩:∃x,xs[k]?=some x:=⟨xs[k],Lg hlt⟩
   obtain⟨b,off,rfl,hbl,hc⟩:=(HR.out.below HB.out).1.addr (k:=k) (cs:=x.cells) (by rw[List.getElem?_map,hx];rfl);have x3:wr.cell? ⟨b,off+k*21+3,none⟩=some (.int .i64 x.f.day):=hc 3 _ rfl;have x4:wr.cell? ⟨b,off+k*21+4,none⟩=some (.int .i64 x.f.kind):=hc 4 _ rfl;have x5:wr.cell? ⟨b,off+k*21+5,none⟩=some (.string ⟨x.f.ins.toArray⟩):=hc 5 _ rfl;have x12:wr.cell? ⟨b,off+k*21+12,none⟩=some (.string ⟨x.f.price.n.toArray⟩):=hc 12 _ rfl;have x13:wr.cell? ⟨b,off+k*21+12+1,none⟩=some (.string ⟨x.f.price.d.toArray⟩):=hc 13 _ rfl;have HSTEP:=Hd (HLS.out k x hx);have HIQ:Hid (isQ ins x.f=(decide (x.f.kind=15)&&(x.f.ins==ins))):=rfl;have HQN:Hid ((aJz x.f).day=x.f.day/\aOx (aJz x.f)=#[.int .i64 x.f.day,.string ⟨x.f.price.n.toArray⟩,.string ⟨x.f.price.d.toArray⟩]):=⟨rfl,rfl⟩
   have HLAST:Hid (∀l p,(((aT7 (l ++ [p])).set (l.length*3) (.int .i64 x.f.day)).set (l.length*3+1) (.string ⟨x.f.price.n.toArray⟩)).set (l.length*3+2) (.string ⟨x.f.price.d.toArray⟩)=aT7 (l ++ [aJz x.f])):=fun l p=>aWd l p (aJz x.f)
   clear hc hx HLS;unfold aJ1 at HSTEP;generalize aJz x.f=qn at *;generalize isQ ins x.f=iq at *;generalize x.f.day=xd at *;generalize x.f.kind=kd at *;generalize x.f.ins=xi at *;generalize(⟨x.f.price.n.toArray⟩:ByteArray)=xn at *;generalize(⟨x.f.price.d.toArray⟩:ByteArray)=xm at *
   by_cases hk15:kd=15
   case neg =>
    have h15:(kd==15)=false:=by simpa using hk15
    have HSAME:Hid (L (k+1)=L k):=by show _=_;rw[HSTEP.out,HIQ.out];simp[hk15]
    clear HSTEP HIQ HQN HLAST;go_wp2_with fail;go_roundw
    case rel=>exact⟨k+1,by omega,by go_num,by rw[HSAME.out];exact HO,HB⟩
    case measure=>simp[intOf];omega
   subst hk15;cases hin:(xi==ins) with
   |false =>
    have HSAME:Hid (L (k+1)=L k):=by show _=_;rw[HSTEP.out,HIQ.out,hin];simp
    clear HSTEP HIQ HQN HLAST;go_wp2_with fail;go_roundw
    case rel=>exact⟨k+1,by omega,by go_num,by rw[HSAME.out];exact HO,HB⟩
    case measure=>simp[intOf];omega
   |true =>
    have HADD:Hid (L (k+1)=aJ9 (L k) qn):=by show _=_;rw[HSTEP.out,HIQ.out,hin];simp
    clear HSTEP HIQ;obtain⟨a',cap',rfl,_⟩:=gK HO.out;go_wp2_with fail;go_region;obtain⟨w6,hw6⟩:∃w6,w6=(wr.alloc (.cells #[.int .i64 xd,.string xn,.string xm] 46)).drew:=⟨_,rfl⟩
    have hb6:Below wr.heap.size wr w6:=by rw[hw6];exact(aB _ _).drew
    have KX6:Hid (aP w6 wr.heap.size #[.int .i64 xd,.string xn,.string xm] 46):=by show aP _ _ _ _;rw[hw6];exact aP.new0 wr _ _
    have HO6:=Hd (aPl HO.out hb6);have HB6:=Hd (aA HB.out hb6);have HS6:=Hd HB6.out.size;rw[<-hw6];clear hw6 hb6 x3 x4 x5 x12 x13 HO hbl;have y0:=(KX6.out.cell 0).trans (show _=some (.int .i64 xd) from rfl);generalize L k=lk at *;rcases aQu lk with rfl|⟨l',p,rfl⟩
    ·have HNEXT:Hid (L (k+1)=[] ++ [qn]):=HADD.out;have HO6:Hid (w6.ownsRow w.heap.size 46 3 (.slice a' 0 cap') 0 (aT7 [])):=HO6.out;clear HADD;go_wp2_with fail;go_quiet (fail);obtain⟨w7,hw7⟩:∃w7,w7=w6.drewN nq:=⟨_,rfl⟩
     have hb7:Below w6.heap.size w6 w7:=by rw[hw7];exact aD (Br _ _) _
     rw[<-hw7];have HO7:=Hd (aPl HO6.out hb7);have HB7:=Hd (aA HB6.out hb7);have HS7:=Hd HB7.out.size;have K7:=Hd (KX6.out.below hb7);have y0:=(K7.out.cell 0).trans (show _=some (.int .i64 xd) from rfl);have y1:=(K7.out.cell 1).trans (show _=some (.string xn) from rfl);have y2:=(K7.out.cell 2).trans (show _=some (.string xm) from rfl);clear hw7 hb7;go_wp2_with (at_builtin;refine wpList_append_own_at _ rfl _ _ 50 rfl w.heap.size 46 i0 aVm 3 40 underlying50 HINF.out.1 HINF.out.2.1 HINF.out.2.2.1 HINF.out.2.2.2 rfl (by decide) _ _ _ rfl (HO7.out.alloc _) ⟨w7.heap.size,0,none⟩ 1 1 [.int .i64 xd,.string xn,.string xm] rfl rfl (fun j u hj=>aUb w7 #[.int .i64 xd,.string xn,.string xm] _ j u hj) (by simp[Value.oneCell']) (by unfold maxLen;omega) (by omega) (by have:=HS7.out;simp;omega) ?_);intro v' w9 hown' hgrow _ _;have HB9:=Hd (Ut (HO7.out.alloc (.cells #[.int .i64 xd,.string xn,.string xm] 46)) hgrow (aA HB7.out (aB _ _)) (by have:=HS7.out;simp;omega));have HO9:Hid (w9.ownsRow w.heap.size 46 3 v' (L (k+1)).length (aT7 (L (k+1)))):=by
      show World.ownsRow _ _ _ _ _ _ _;rw[HNEXT.out,aU3,HQN.out.2];simpa using hown'
     clear hgrow hown';go_wp2;go_roundw
     case rel=>exact⟨k+1,by omega,by go_num,HO9,HB9⟩
     case measure=>simp[intOf];omega
    ·have hll:(l' ++ [p]).length=l'.length+1:=by simp
     rw[hll] at HO6 HLK ⊢;obtain⟨g,cap,hv,hg,hcell,hfz⟩:=aV3 HO6.out (Nat.succ_pos _);injection hv with e1 _ e2
     subst e1 e2;have hgd:w6.cell? ⟨g,l'.length*3,none⟩=some (.int .i64 p.day):=hcell _ _ (aTu l' p).1;have hml:l'.length+1<=1000000:=by have:=HLK.out;omega
     by_cases hd:p.day=xd
     ·have HNEXT:Hid (L (k+1)=l' ++ [qn]):=by show _=_;rw[HADD.out,aKl (by rw[HQN.out.1];exact hd)]
      clear HADD;rw[hd] at hgd;go_wp2_with fail;go_quiet (fail);obtain⟨w7,hw7⟩:∃w7,w7=w6.drewN nq:=⟨_,rfl⟩
      have hb7:Below w6.heap.size w6 w7:=by rw[hw7];exact aD (Br _ _) _
      rw[<-hw7];have HO7:=Hd (aPl HO6.out hb7);have HB7:=Hd (aA HB6.out hb7);have HS7:=Hd HB7.out.size;have K7:=Hd (KX6.out.below hb7);have y0:=(K7.out.cell 0).trans (show _=some (.int .i64 xd) from rfl);have y1:=(K7.out.cell 1).trans (show _=some (.string xn) from rfl);have y2:=(K7.out.cell 2).trans (show _=some (.string xm) from rfl);obtain⟨g2,cap2,hv2,hg2,hcell2,hfz2⟩:=aV3 HO7.out (Nat.succ_pos _);injection hv2 with e1 _ e2
      injection e1 with e1
      injection e1 with e1 _ _
      subst e1 e2;have z0:=hcell2 _ _ (aTu l' p).1;have z1:=hcell2 _ _ (aTu l' p).2.1;have z2:=hcell2 _ _ (aTu l' p).2.2;have f0:=hfz2 (l'.length*3);have f1:=hfz2 (l'.length*3+1);have f2:=hfz2 (l'.length*3+2);clear hw7 hb7 hcell hfz hcell2 hfz2 hgd;go_wp2_with fail;go_roundw
      case rel =>
       obtain⟨s1,r1⟩:=aVv (j:=l'.length*3) HO7.out (.int .i64 xd);obtain⟨s2,r2⟩:=aVv (j:=l'.length*3+1) s1 (.string xn);obtain⟨s3,r3⟩:=aVv (j:=l'.length*3+2) s2 (.string xm);refine⟨k+1,by omega,by go_num,?_,?_⟩
       ·show World.ownsRow _ _ _ _ _ _ _;rw[HNEXT.out,<-HLAST.out l' p,show (l' ++ [qn]).length=l'.length+1 by simp];exact s3
       ·exact((HB7.out.setCell (p:=⟨g,l'.length*3,none⟩) hg _).setCell (p:=⟨g,l'.length*3+1,none⟩) hg _).setCell (p:=⟨g,l'.length*3+2,none⟩) hg _
      case measure=>simp[intOf];omega
     ·have HNEXT:Hid (L (k+1)=(l' ++ [p]) ++ [qn]):=by show _=_;rw[HADD.out,aKm (by rw[HQN.out.1];exact hd)]
      clear HADD;have hd':(p.day==xd)=false:=by simpa using hd
      generalize p.day=pq at *;go_wp2_with fail;go_quiet (fail);obtain⟨w7,hw7⟩:∃w7,w7=w6.drewN nq:=⟨_,rfl⟩
      have hb7:Below w6.heap.size w6 w7:=by rw[hw7];exact aD (Br _ _) _
      rw[<-hw7];have HO7:=Hd (aPl HO6.out hb7);have HB7:=Hd (aA HB6.out hb7);have HS7:=Hd HB7.out.size;have K7:=Hd (KX6.out.below hb7);have y0:=(K7.out.cell 0).trans (show _=some (.int .i64 xd) from rfl);have y1:=(K7.out.cell 1).trans (show _=some (.string xn) from rfl);have y2:=(K7.out.cell 2).trans (show _=some (.string xm) from rfl);clear hw7 hb7 hcell hfz hgd;go_wp2_with (at_builtin;refine wpList_append_own_at _ rfl _ _ 50 rfl w.heap.size 46 i0 aVm 3 40 underlying50 HINF.out.1 HINF.out.2.1 HINF.out.2.2.1 HINF.out.2.2.2 rfl (by decide) _ _ _ rfl (HO7.out.alloc _) ⟨w7.heap.size,0,none⟩ 1 1 [.int .i64 xd,.string xn,.string xm] rfl rfl (fun j u hj=>aUb w7 #[.int .i64 xd,.string xn,.string xm] _ j u hj) (by simp[Value.oneCell']) (by unfold maxLen;omega) (by omega) (by have:=HS7.out;simp;omega) ?_);intro v' w9 hown' hgrow _ _;have HB9:=Hd (Ut (HO7.out.alloc (.cells #[.int .i64 xd,.string xn,.string xm] 46)) hgrow (aA HB7.out (aB _ _)) (by have:=HS7.out;simp;omega));have HO9:Hid (w9.ownsRow w.heap.size 46 3 v' (L (k+1)).length (aT7 (L (k+1)))):=by
       show World.ownsRow _ _ _ _ _ _ _;rw[HNEXT.out,aU3,HQN.out.2];simpa using hown'
      clear hgrow hown';go_wp2;go_roundw
      case rel=>exact⟨k+1,by omega,by go_num,HO9,HB9⟩
      case measure=>simp[intOf];omega
  ·obtain rfl:k=xs.length:=by omega
   have hoe:=HO.out;rw[HLE.out] at hoe;have HOE:=Hd hoe;clear hoe HO;go_wp2;go_ret;exact⟨⟨_,rfl,HOE.out⟩,HB.out⟩
end
section
open Go Go.RowKit Num
theorem aWh{l:List aJv}{d:Int}(h:∀(j:Nat) y,l[j]?=some y->aKf d y=false):(aPv d l).getLast?=none:=by
 have:aPv d l=[]:=List.filter_eq_nil_iff.2 fun y hy=>by
  obtain⟨j,hj⟩:=List.getElem?_of_mem hy;rw[h j y hj];decide
 rw[this];rfl
theorem aWn{l:List aJv}{d:Int}{m:Nat}{x:aJv}(hx:l[m]?=some x)(hu:aKf d x=true)(h:∀(j:Nat) y,m+1<=j->l[j]?=some y->aKf d y=false):(aPv d l).getLast?=some x:=by
 have e:l=l.take m++x::l.drop (m+1):=by
  obtain⟨hm,rfl⟩:=Li.1 hx;rw[<-List.drop_eq_getElem_cons hm,List.take_append_drop]
 have h2:(l.drop (m+1)).filter (aKf d)=[]:=List.filter_eq_nil_iff.2 fun y hy=>by
  obtain⟨j,hj⟩:=List.getElem?_of_mem hy;rw[List.getElem?_drop] at hj;rw[h _ y (by omega) hj];decide
 rw[e];unfold aPv;rw[List.filter_append,List.filter_cons,if_pos hu,h2,List.getLast?_append];simp
theorem aU4(xs:List aF)(a:Option Addr)(c:Nat)(ins:List UInt8)(d:Int)(w:World)(hn:xs.length<=1000000)(hr:fS w a xs):
  Calls prog 66 #[.slice a xs.length c,.string ⟨ins.toArray⟩,.int .i64 d] w fun e w'=>e=.returned (.tuple #[.agg (aOx (QV (aJ0 (xs.map aF.f) ins d))),.bool (aJ0 (xs.map aF.f) ins d).isSome])/\Below w.heap.size w w':=by
 have HB0:=Hd (aB w (.cells Z3 46));have KR:=Hd (aP.new0 w Z3 46);have HSE:=Hd (aUu xs a c ins (w.alloc (.cells Z3 46)) hn (hr.below HB0.out));have HLT:=Hd (aV6 (xs.map aF.f) ins d);have HLEN:Hid ((ser ins (xs.map aF.f)).length<=1000000):=by have h1:=aLw ins (xs.map aF.f);rw[List.length_map] at h1;show _<=_;omega
 have HSQ:Hid (∀q,(prog.info? 46).map (·.size)=some (aOx q).size):=fun _=>aPm
 have HONE:Hid (∀q,(aOx q).all (·.oneCell')=true):=aPw;have HS3:Hid (∀q,Z3.size=(aOx q).size):=fun _=>rfl
 clear hr;obtain⟨o,ho⟩:∃o,o=aJ0 (xs.map aF.f) ins d:=⟨_,rfl⟩
 obtain⟨L,hL⟩:∃L,L=ser ins (xs.map aF.f):=⟨_,rfl⟩
 rw[<-ho,<-hL] at HLT;rw[<-hL] at HSE HLEN;rw[<-ho];clear ho hL;generalize xs.length=n at *;go_enter func66,ntmps66;go_wp2_with fail;refine HSE.out.mono ?_;rintro e w1 ⟨⟨v1,rfl,ho1⟩,hb⟩;have HB1:=Hd (aA HB0.out hb);have KR1:=Hd (KR.out.below hb);obtain⟨a1,c1,rfl,hr1⟩:=gK ho1;have HR1:=Hd (aUo hr1);have hll:=HLEN.out;clear hb ho1 hr1 HSE HB0 KR;go_wp2_with fail;go_loopw [9] (fun iv wr=>∃k:Nat,k<=L.length/\iv=.int .i64 ((k:Int)-1)/\Hid (∀j y,k<=j->L[j]?=some y->aKf d y=false)/\Hid (Below w1.heap.size w1 wr)) (fun iv _=>(intOf iv+1).toNat)
 case atStart=>exact⟨L.length,Nl _,by go_num,fun j y h1 h2=>absurd (Li.1 h2).1 (by omega),Br _ _⟩
 case round =>
  obtain⟨k,hk,rfl,HN,HBa⟩:=hrel;cases k with
  |zero =>
   have HV:Hid (o=none):=by show _=_;rw[HLT.out];exact aWh (fun j y h=>HN.out j y (Nat.zero_le _) h)
   have KRr:=Hd (KR1.out.below HBa.out);have HBr:=Hd (aA HB1.out HBa.out);clear HN HLT;go_wp2_with (refine aOw rfl 46 _ _ rfl w.heap.size rfl #[.int .i64 0,.string ⟨#[]⟩,.string ⟨#[]⟩] rfl KRr.out (HSQ.out (QV none)) (HS3.out (QV none)) (HONE.out (QV none)) ?_;intro w4 kx bx _ _;have HB4:=Hd (HBr.out.trans (bx _ (Nl _)));have KX4:=Hd kx;clear kx bx);refine bodyPost_ret (fX rfl _ _ _ _ _ (0,0) _ rfl KX4.out.2 underlying46 rfl (HSQ.out (QV none))) rfl ?_;exact⟨by rw[HV.out];rfl,HB4.out⟩
  |succ m =>
   obtain⟨x,hx⟩:∃x,L[m]?=some x:=⟨L[m],Lg (by omega)⟩
   obtain⟨bb,off,rfl,hbl,hcc⟩:=(HR1.out.below HBa.out).addr (k:=m) (cs:=aUp x) (by rw[List.getElem?_map,hx];rfl);have HC:Hid (∀j v,(aOx x).toList[j]?=some v->wr.cell? ⟨bb,off+m*3+j,none⟩=some v):=hcc;have c0:wr.cell? ⟨bb,off+m*3,none⟩=some (.int .i64 x.day):=hcc 0 _ rfl;have hm1:((m+1:Nat):Int)-1=(m:Int):=by omega
   rw[hm1];have HUP:Hid (aKf d x=decide (x.day<=d)):=rfl;have HX:=Hd hx;have hml:m<L.length:=by omega
   by_cases hu:x.day<=d
   ·have HV:Hid (o=some x):=by show _=_;rw[HLT.out];exact aWn HX.out (by rw[HUP.out];exact decide_eq_true hu) HN.out
    have KRr:=Hd (KR1.out.below HBa.out);have HBr:=Hd (aA HB1.out HBa.out);have HXS:=Hd (HSQ.out x);have HX1:=Hd (HONE.out x);have HX3:=Hd (HS3.out x);obtain⟨qx,hqx⟩:∃qx,qx=aOx x:=⟨_,rfl⟩
    have HQX:=Hd hqx;rw[<-hqx] at HC HXS HX1 HX3;clear HN HLT hcc hx hqx HUP HX;generalize x.day=xd at *;go_wp2_with (first|(refine aM rfl 46 _ rfl bb (off+m*3) rfl qx _ HC.out underlying46 rfl HXS.out ?_)|(refine aOw rfl 46 _ _ rfl w.heap.size rfl qx rfl KRr.out HXS.out HX3.out HX1.out ?_;intro w4 kx bx _ _;have HB4:=Hd (HBr.out.trans (bx _ (Nl _)));have KX4:=Hd kx;clear kx bx));refine bodyPost_ret (fX rfl _ _ _ _ _ (0,0) _ rfl KX4.out.2 underlying46 rfl HXS.out) rfl ?_;exact⟨by rw[HV.out,HQX.out];rfl,HB4.out⟩
   ·have HN2:Hid (∀j y,m<=j->L[j]?=some y->aKf d y=false):=fun j y hj hy=>by
     by_cases e:j=m
     ·subst e;rw[HX.out] at hy;obtain rfl:=Option.some.inj hy;rw[HUP.out];exact decide_eq_false hu
     ·exact HN.out j y (by omega) hy
    clear HN HLT hcc hx HUP HX HC;generalize x.day=xd at *;go_wp2_with fail;go_roundw
    case rel=>exact⟨m,by omega,by go_num,HN2,HBa⟩
    case measure=>simp[intOf]
theorem aVl(xs:List aF)(a:Option Addr)(c:Nat)(d:Int)(w:World)(hn:xs.length<=1000000)(hcap:xs.length<=c)(hr:fS w a xs)(hok:∀x,x∈xs->x.f.tight):
  Calls prog 65 #[.slice a xs.length c,.int .i64 d] w fun e w'=>e=.returned (.int .i64 (aPk (xs.map aF.f) 0 [d]))/\Below w.heap.size w w':=by
 have HV:=Hd (Fp xs a c w hn hcap hr hok);have HPV:Hid (aPk (xs.map aF.f) 0 [d]=if dF (xs.map aF.f)≠0 then 1 else if d < -25567∨84005<d then 13 else 0):=by
  show _=_;unfold aPk
  by_cases h:dF (xs.map aF.f)=0
  ·have h1:¬ dF (xs.map aF.f)≠0:=by simpa using h
   rw[if_neg h1,if_neg h1]
   by_cases hd:d < -25567∨84005<d
   ·have h2:[d].all aPt=false:=by simp[aPt];omega
    rw[if_pos hd,if_pos h2]
   ·have h2:¬ [d].all aPt=false:=by simp[aPt];omega
    have h3:¬ (0:Int)<0:=by decide
    rw[if_neg hd,if_neg h2,if_neg h3]
  ·rw[if_pos h,if_pos h]
 clear hn hcap hr hok;generalize aPk (xs.map aF.f) 0 [d]=pe at *;generalize dF (xs.map aF.f)=ve at *;generalize xs.length=n at *;go_enter func65,ntmps65;go_wp2_with fail;refine HV.out.mono ?_;rintro e w1 ⟨rfl,hb⟩;have HB1:=Hd hb;clear hb HV
 by_cases hv:ve=0
 ·subst hv;have HP2:Hid (pe=if d < -25567∨84005<d then 13 else 0):=by show _=_;rw[HPV.out,if_neg (by simp)]
  clear HPV;go_wp2_with fail;refine(We d w1).mono ?_;rintro e w2 ⟨rfl,rfl⟩
  by_cases hd:d < -25567∨84005<d
  ·have HP3:Hid (pe=13):=by show _=_;rw[HP2.out,if_pos hd]
   rw[if_pos hd];clear HP2;go_wp2;go_ret;exact⟨by rw[HP3.out];rfl,HB1.out⟩
  ·have HP3:Hid (pe=0):=by show _=_;rw[HP2.out,if_neg hd]
   rw[if_neg hd];clear HP2;go_wp2;go_ret;exact⟨by rw[HP3.out];rfl,HB1.out⟩
 ·have hv':(ve==0)=false:=by simpa using hv
  have HP3:Hid (pe=1):=by show _=_;rw[HPV.out,if_pos hv]
  clear HPV;go_wp2;go_ret;exact⟨by rw[HP3.out];rfl,HB1.out⟩
end
section
open Go Go.RowKit Num
theorem aV5(fs:List aE)(d stale:Int):aPk fs stale [d]=if aPk fs 0 [d]=0 then(if stale<0 then 2 else 0) else aPk fs 0 [d]:=by
 unfold aPk
 by_cases h:dF fs=0
 ·have h1:¬ dF fs≠0:=by simpa using h
  have h3:¬ (0:Int)<0:=by decide
  simp only[if_neg h1,if_neg h3];cases h2:[d].all aPt <;> simp
 ·have h1:dF fs≠0:=h;simp only[if_pos h1];simp
theorem aV8(xs:List aF)(a:Option Addr)(c:Nat)(ins:List UInt8)(d stale:Int)(w:World)(hn:xs.length<=1000000)(hr:fS w a xs)(hv:dF (xs.map aF.f)=0)(hd:aPt d=true):
  Calls prog 68 #[.slice a xs.length c,.string ⟨ins.toArray⟩,.int .i64 d,.int .i64 stale] w fun e w'=>e=.returned (.tuple #[.agg (aPf (FV (aL1 (xs.map aF.f) ins d stale))),.bool (aL1 (xs.map aF.f) ins d stale).isSome])/\Below w.heap.size w w':=by
 have HLA:Hid (∀W,Below w.heap.size w W->Calls prog 66 #[.slice a xs.length c,.string ⟨ins.toArray⟩,.int .i64 d] W fun e w'=>e=.returned (.tuple #[.agg (aOx (QV (aJ0 (xs.map aF.f) ins d))),.bool (aJ0 (xs.map aF.f) ins d).isSome])/\Below W.heap.size W w'):=fun W hb=>aU4 xs a c ins d W hn (hr.below hb)
 have HFV:Hid (aL1 (xs.map aF.f) ins d stale=match aJ0 (xs.map aF.f) ins d with|some q=>if stale<d-q.day then none else some q.price|none=>none):=rfl;have HLD:Hid (∀q,aJ0 (xs.map aF.f) ins d=some q->-25567<=q.day/\q.day<=84005):=fun q h=>aQ6 hv h
 have HDD:=Hd (aSx.1 hd);have HB0:=Hd (aB w (.cells Z2 28));have KR:=Hd (aP.new0 w Z2 28);have HSQ:Hid (∀q,(prog.info? 46).map (·.size)=some (aOx q).size):=fun _=>aPm
 have HONE:Hid (∀q,(aOx q).all (·.oneCell')=true):=aPw;have HS3:Hid (∀q,Z3.size=(aOx q).size):=fun _=>rfl
 have HSF:Hid (∀f,(prog.info? 28).map (·.size)=some (aPf f).size):=fun _=>aPp
 have HONF:Hid (∀f,(aPf f).all (·.oneCell')=true):=aP0;have HS2:Hid (∀f,Z2.size=(aPf f).size):=fun _=>rfl
 clear hr hv hd;generalize aL1 (xs.map aF.f) ins d stale=fo at *;generalize aJ0 (xs.map aF.f) ins d=o at *;generalize xs.length=n at *;go_enter func68,ntmps68;go_wp2_with fail;refine(HLA.out _ HB0.out).mono ?_;rintro e w2 ⟨rfl,hb⟩;have HB2:=Hd (aA HB0.out hb);have KR2:=Hd (KR.out.below hb);have HN2:=Hd (aB w2 (.cells Z3 46));have KN2:=Hd (aP.new0 w2 Z3 46);have HNE:Hid (w.heap.size≠w2.heap.size):=by have:=KR2.out.1;show _≠_;omega
 clear hb HLA HB0 KR;cases o with
 |none =>
  have HV:Hid (fo=none):=HFV.out;clear HFV HLD;simp only[Option.isSome_none];go_wp2_with (first|(refine aOw rfl 46 _ _ rfl w2.heap.size rfl (aOx (QV none)) rfl KN2.out (HSQ.out _) (HS3.out _) (HONE.out _) ?_;intro w3 kx bx Rt _;have HB3:=Hd (aA HB2.out (HN2.out.trans (bx _ (Nl _))));have KX3:=Hd kx;have KR3:=Hd (Rt _ _ _ HNE.out (KR2.out.below HN2.out));clear kx bx Rt)|(refine aOw rfl 28 _ _ rfl w.heap.size rfl #[.string ⟨#[]⟩,.string ⟨#[]⟩] rfl KR3.out (HSF.out (FV none)) (HS2.out (FV none)) (HONF.out (FV none)) ?_;intro w4 kx bx _ _;have HB4:=Hd (HB3.out.trans (bx _ (Nl _)));have KX4:=Hd kx;clear kx bx));refine bodyPost_ret (fX rfl _ _ _ _ _ (0,0) _ rfl KX4.out.2 underlying28 rfl (HSF.out (FV none))) rfl ?_;exact⟨by rw[HV.out];rfl,HB4.out⟩
 |some q =>
  have HDQ:=Hd (HLD.out q rfl);have HW:Hid (wrap64 (d-q.day)=d-q.day):=by have h1:=HDQ.out;have h2:=HDD.out;show _=_;unfold wrap64;omega
  have HFV2:Hid (fo=if stale<d-q.day then none else some q.price):=HFV.out;have HQC:Hid ((aOx (QV (some q)))[0]?=some (.int .i64 q.day)/\(aOx (QV (some q)))[1]?=some (.string ⟨q.price.n.toArray⟩)/\(aOx (QV (some q)))[2]?=some (.string ⟨q.price.d.toArray⟩)):=⟨rfl,rfl,rfl⟩
  have HPF:Hid (aPf (FV (some q.price))=#[.string ⟨q.price.n.toArray⟩,.string ⟨q.price.d.toArray⟩]):=rfl;clear HFV HLD HDD HDQ;simp only[Option.isSome_some];have HSA:Hid ((prog.info? 46).map (·.size)=some (aOx (QV (some q))).size):=aPm;have HONA:=Hd (aPw (QV (some q)));have HS3A:Hid (Z3.size=(aOx (QV (some q))).size):=rfl;generalize aOx (QV (some q))=qa at *;generalize q.day=qd at *;have hw:=HW.out;clear HW
  by_cases hs:stale<d-qd
  ·have HV:Hid (fo=none):=by show _=_;rw[HFV2.out,if_pos hs]
   clear HFV2;go_wp2_with (first|(refine aOw rfl 46 _ _ rfl w2.heap.size rfl qa rfl KN2.out HSA.out HS3A.out HONA.out ?_;intro w3 kx bx Rt _;have HB3:=Hd (aA HB2.out (HN2.out.trans (bx _ (Nl _))));have KX3:=Hd kx;have KR3:=Hd (Rt _ _ _ HNE.out (KR2.out.below HN2.out));have q0:=(kx.cell 0).trans HQC.out.1;have q1:=(kx.cell 1).trans HQC.out.2.1;have q2:=(kx.cell 2).trans HQC.out.2.2;clear kx bx Rt)|(refine aOw rfl 28 _ _ rfl w.heap.size rfl #[.string ⟨#[]⟩,.string ⟨#[]⟩] rfl KR3.out (HSF.out (FV none)) (HS2.out (FV none)) (HONF.out (FV none)) ?_;intro w4 kx bx _ _;have HB4:=Hd (HB3.out.trans (bx _ (Nl _)));have KX4:=Hd kx;clear kx bx));refine bodyPost_ret (fX rfl _ _ _ _ _ (0,0) _ rfl KX4.out.2 underlying28 rfl (HSF.out (FV none))) rfl ?_;exact⟨by rw[HV.out];rfl,HB4.out⟩
  ·have HV:Hid (fo=some q.price):=by show _=_;rw[HFV2.out,if_neg hs]
   clear HFV2;go_wp2_with (first|(refine aOw rfl 46 _ _ rfl w2.heap.size rfl qa rfl KN2.out HSA.out HS3A.out HONA.out ?_;intro w3 kx bx Rt _;have HB3:=Hd (aA HB2.out (HN2.out.trans (bx _ (Nl _))));have KX3:=Hd kx;have KR3:=Hd (Rt _ _ _ HNE.out (KR2.out.below HN2.out));have q0:=(kx.cell 0).trans HQC.out.1;have q1:=(kx.cell 1).trans HQC.out.2.1;have q2:=(kx.cell 2).trans HQC.out.2.2;clear kx bx Rt)|(refine aOw rfl 28 _ _ rfl w.heap.size rfl #[.string ⟨q.price.n.toArray⟩,.string ⟨q.price.d.toArray⟩] rfl KR3.out (HSF.out (FV (some q.price))) (HS2.out (FV (some q.price))) (HONF.out (FV (some q.price))) ?_;intro w4 kx bx _ _;have HB4:=Hd (HB3.out.trans (bx _ (Nl _)));have KX4:=Hd kx;clear kx bx));refine bodyPost_ret (fX rfl _ _ _ _ _ (0,0) _ rfl KX4.out.2 underlying28 rfl (HSF.out (FV (some q.price)))) rfl ?_;exact⟨by rw[HV.out];rfl,HB4.out⟩
end
section
open Go Go.RowKit Num
theorem aYv{n d n' d':List UInt8}(h:0<lU d)(h':0<lU d'):nE n d n' d'=bG (val n*lU d') (val n'*lU d):=by
 have r1:∀n d:List UInt8,0<lU d->val (gL n d)=val n:=fun n d h=>by rw[mP,if_neg];unfold lU at h;split at h <;> omega
 have r2:∀d:List UInt8,0<lU d->val (gW d)=lU d:=fun d h=>by rw[qD,if_neg (by omega)]
 have r1:∀n d:List UInt8,0<lU d->val (gL n d)=val n:=fun n d h=>by rw[mP,if_neg];unfold lU at h;split at h <;> omega
 have r2:∀d:List UInt8,0<lU d->val (gW d)=lU d:=fun d h=>by rw[qD,if_neg (by omega)]
 have r1:∀n d:List UInt8,0<lU d->val (gL n d)=val n:=fun n d h=>by rw[mP,if_neg];unfold lU at h;split at h <;> omega
 have r2:∀d:List UInt8,0<lU d->val (gW d)=lU d:=fun d h=>by rw[qD,if_neg (by omega)]
 have r1:∀n d:List UInt8,0<lU d->val (gL n d)=val n:=fun n d h=>by rw[mP,if_neg];unfold lU at h;split at h <;> omega
 have r2:∀d:List UInt8,0<lU d->val (gW d)=lU d:=fun d h=>by rw[qD,if_neg (by omega)]
 have r1:∀n d:List UInt8,0<lU d->val (gL n d)=val n:=fun n d h=>by rw[mP,if_neg];unfold lU at h;split at h <;> omega
 have r2:∀d:List UInt8,0<lU d->val (gW d)=lU d:=fun d h=>by rw[qD,if_neg (by omega)]
 have r1:∀n d:List UInt8,0<lU d->val (gL n d)=val n:=fun n d h=>by rw[mP,if_neg];unfold lU at h;split at h <;> omega
 have r2:∀d:List UInt8,0<lU d->val (gW d)=lU d:=fun d h=>by rw[qD,if_neg (by omega)]
 have r1:∀n d:List UInt8,0<lU d->val (gL n d)=val n:=fun n d h=>by rw[mP,if_neg];unfold lU at h;split at h <;> omega
 have r2:∀d:List UInt8,0<lU d->val (gW d)=lU d:=fun d h=>by rw[qD,if_neg (by omega)]
 have r1:∀n d:List UInt8,0<lU d->val (gL n d)=val n:=fun n d h=>by rw[mP,if_neg];unfold lU at h;split at h <;> omega
 have r2:∀d:List UInt8,0<lU d->val (gW d)=lU d:=fun d h=>by rw[qD,if_neg (by omega)]
 unfold nE;rw[r1 _ _ h,r1 _ _ h',r2 _ h,r2 _ h']
theorem aXn(n d:List UInt8):∃s:Int,(s=1∨s = -1)/\val (gL n d)=s*val n/\val (gW d)=s*lU d:=by
 rw[mP,qD];have hd:val d<0↔lU d<0:=by unfold lU;split <;> omega
 by_cases h:lU d<0
 ·rw[if_pos (hd.2 h),if_pos h];exact⟨-1,.inr rfl,by omega,by omega⟩
 ·rw[if_neg (fun e=>h (hd.1 e)),if_neg h];exact⟨1,.inl rfl,by omega,by omega⟩
theorem aX4(n d:List UInt8){n':List UInt8}(d':List UInt8)(h0:val n'≠0):eT (val (gL n d)*val (gW d')) (val (gW d)*val (gL n' d'))=eT (aP5 n d') (aP2 d n')/\fT (val (gL n d)*val (gW d')) (val (gW d)*val (gL n' d'))=fT (aP5 n d') (aP2 d n'):=by
 obtain⟨s,hs,e1,e2⟩:=aXn n d;obtain⟨t,ht,e3,e4⟩:=aXn n' d';have h1:=qQ d;have hs0:s≠0:=by omega
 have ht0:t≠0:=by omega
 rw[e1,e2,e3,e4];unfold aP5 aP2;refine aTo (Int.mul_ne_zero (Int.mul_ne_zero hs0 h1) (Int.mul_ne_zero ht0 h0)) (Int.mul_ne_zero h1 h0) ?_;simp only[Int.mul_assoc,Int.mul_comm,Int.mul_left_comm]
theorem aX3{l:List UInt8}{d:List UInt8}(hl:l.length<=16)(hd:d.length<=16):(val (gL l d)).natAbs<10000000000000000/\(val (gW d)).natAbs<10000000000000000/\(gL l d).length<=17/\(gW d).length<=17:=by
 refine⟨?_,?_,yV (d:=d) (by decide:1<=16) hl,yY (by decide:1<=16) hd⟩
 ·rw[yW];exact Nat.lt_of_lt_of_le (lO hl) (by decide)
 ·rw[yZ];exact Nat.lt_of_lt_of_le (Ew (lO hd) (by decide)) (by decide)
theorem aX5{a b:Int}(ha:a.natAbs<10000000000000000)(hb:b.natAbs<10000000000000000):(a*b).natAbs<big:=by
 rw[Int.natAbs_mul];exact Nat.lt_of_lt_of_le (Nat.mul_lt_mul'' ha hb) (by decide)
theorem aX7(n d n' d':List UInt8)(r:bZ)(e0:Int)(w:World)(hn:n.length<=16)(hd:d.length<=16)(hn':n'.length<=16)(hd':d'.length<=16)
  (hN:∀W,Calls prog 111 #[.string ⟨(aJ (val (gL n d)*val (gW d'))).toArray⟩,.string ⟨(aJ (val (gW d)*val (gL n' d'))).toArray⟩] W fun e w'=>e=.returned (.tuple #[.agg (aPf r),.int .i64 e0])/\Below W.heap.size W w') :
  Calls prog 74 #[.agg #[.string ⟨n.toArray⟩,.string ⟨d.toArray⟩],.agg #[.string ⟨n'.toArray⟩,.string ⟨d'.toArray⟩]] w fun e w'=>e=.returned (.tuple #[.agg (aPf r),.int .i64 e0])/\Below w.heap.size w w':=by
 have HR1:=Hd (fun W=>Bb n d W (by omega) (by omega));have HR2:=Hd (fun W=>Bb n' d' W (by omega) (by omega));have HN:=Hd hN;obtain⟨a1,a3,l1,l3⟩:=aX3 hn hd;obtain⟨a2,a4,l2,l4⟩:=aX3 hn' hd';have HM1:=Hd (fun W=>aXj (gL n d) (gW d') W (by omega) (by omega) (Nat.lt_of_lt_of_le a1 (by decide)) (Nat.lt_of_lt_of_le a4 (by decide)) (aX5 a1 a4));have HM2:=Hd (fun W=>aXj (gW d) (gL n' d') W (by omega) (by omega) (Nat.lt_of_lt_of_le a3 (by decide)) (Nat.lt_of_lt_of_le a2 (by decide)) (aX5 a3 a2));clear a1 a2 a3 a4 l1 l2 l3 l4 hN;generalize aJ (val (gL n d)*val (gW d'))=p1 at *;generalize aJ (val (gW d)*val (gL n' d'))=p2 at *;generalize gL n d=r1 at *;generalize gL n' d'=r2 at *;generalize gW d=s1 at *;generalize gW d'=s2 at *;have HSF:Hid ((prog.info? 28).map (·.size)=some (aPf r).size):=aPp;have HONF:Hid ((aPf r).all (·.oneCell')=true):=aP0 r;have HS2:Hid (Z2.size=(aPf r).size):=rfl;generalize aPf r=fr at *;have KA:Hid (aP (((w.alloc (.cells #[.string ⟨n.toArray⟩,.string ⟨d.toArray⟩] 28)).alloc (.cells #[.string ⟨n'.toArray⟩,.string ⟨d'.toArray⟩] 28)).alloc (.cells Z2 28)) w.heap.size #[.string ⟨n.toArray⟩,.string ⟨d.toArray⟩] 28):=((aP.new0 w _ _).below (aB _ _)).below (aB _ _);have KB:Hid (aP (((w.alloc (.cells #[.string ⟨n.toArray⟩,.string ⟨d.toArray⟩] 28)).alloc (.cells #[.string ⟨n'.toArray⟩,.string ⟨d'.toArray⟩] 28)).alloc (.cells Z2 28)) (w.heap.size+1) #[.string ⟨n'.toArray⟩,.string ⟨d'.toArray⟩] 28):=by
  have h:=(aP.new0 (w.alloc (.cells #[.string ⟨n.toArray⟩,.string ⟨d.toArray⟩] 28)) #[.string ⟨n'.toArray⟩,.string ⟨d'.toArray⟩] 28).below (aB _ (.cells Z2 28));rw[World.size_alloc] at h;exact h
 have KC:Hid (aP (((w.alloc (.cells #[.string ⟨n.toArray⟩,.string ⟨d.toArray⟩] 28)).alloc (.cells #[.string ⟨n'.toArray⟩,.string ⟨d'.toArray⟩] 28)).alloc (.cells Z2 28)) (w.heap.size+1+1) Z2 28):=by
  have h:=aP.new0 ((w.alloc (.cells #[.string ⟨n.toArray⟩,.string ⟨d.toArray⟩] 28)).alloc (.cells #[.string ⟨n'.toArray⟩,.string ⟨d'.toArray⟩] 28)) Z2 28;rw[World.size_alloc,World.size_alloc] at h;exact h
 have HB:Hid (Below w.heap.size w (((w.alloc (.cells #[.string ⟨n.toArray⟩,.string ⟨d.toArray⟩] 28)).alloc (.cells #[.string ⟨n'.toArray⟩,.string ⟨d'.toArray⟩] 28)).alloc (.cells Z2 28))):=aA (aA (aB _ _) (aB _ _)) (aB _ _);have HLE:Hid (w.heap.size<=w.heap.size+1+1):=by show _<=_;omega
 have q0:=KA.out.cell 0;have q1:=KA.out.cell 1;go_enter func74,ntmps74;go_wp2_with fail;refine(HR1.out _).mono ?_;rintro e w1 ⟨rfl,hb1⟩;have HB1:=Hd (aA HB.out hb1);have k0:=(KB.out.below hb1).cell 0;have k1:=(KB.out.below hb1).cell 1;have KC1:=Hd (KC.out.below hb1);clear hb1 KA KB KC HB HR1 q0 q1;go_wp2_with fail;refine(HR2.out _).mono ?_;rintro e w2 ⟨rfl,hb2⟩;have HB2:=Hd (aA HB1.out hb2);have KC2:=Hd (KC1.out.below hb2);clear hb2 HB1 HR2 KC1 k0 k1;go_wp2_with fail;refine(HM1.out _).mono ?_;rintro e w3 ⟨rfl,hb⟩;have HB3:=Hd (aA HB2.out hb);have KC3:=Hd (KC2.out.below hb);clear hb HB2 HM1 KC2;go_wp2_with fail;refine(HM2.out _).mono ?_;rintro e w4 ⟨rfl,hb⟩;have HB4:=Hd (aA HB3.out hb);have KC4:=Hd (KC3.out.below hb);clear hb HB3 HM2 KC3;go_wp2_with fail;refine(HN.out _).mono ?_;rintro e w5 ⟨rfl,hb⟩;have HB5:=Hd (aA HB4.out hb);have KC5:=Hd (KC4.out.below hb);clear hb HB4 HN KC4;go_wp2_with (refine aOw rfl 28 _ _ rfl (w.heap.size+1+1) rfl fr rfl KC5.out HSF.out HS2.out HONF.out ?_;intro w6 kx bx _ _;have HB6:=Hd (HB5.out.trans (bx _ HLE.out));have KX:=Hd kx;clear kx bx);refine bodyPost_ret (fX rfl _ _ _ _ _ (0,0) _ rfl KX.out.2 underlying28 rfl HSF.out) rfl ⟨rfl,HB6.out⟩
theorem aYj(n d n' d':List UInt8)(w:World)(hn:n.length<=13)(hd:d.length<=13)(hn':n'.length<=13)(hd':d'.length<=13)(h0:val n'=0):
  Calls prog 74 #[.agg #[.string ⟨n.toArray⟩,.string ⟨d.toArray⟩],.agg #[.string ⟨n'.toArray⟩,.string ⟨d'.toArray⟩]] w fun e w'=>e=.returned (.tuple #[.agg #[.string ⟨#[]⟩,.string ⟨#[]⟩],.int .i64 10])/\Below w.heap.size w w':=by
 have hz:val (gW d)*val (gL n' d')=0:=by rw[mP,h0];simp
 refine aX7 n d n' d' ⟨[],[]⟩ 10 w (by omega) (by omega) (by omega) (by omega) fun W=>?_
 rw[hz,nA];exact aYl _ _ W (by simp) rfl
theorem aYz(n d n' d':List UInt8)(w:World)(hn:n.length<=13)(hd:d.length<=13)(hn':n'.length<=13)(hd':d'.length<=13)(h0:val n'≠0):
  Calls prog 74 #[.agg #[.string ⟨n.toArray⟩,.string ⟨d.toArray⟩],.agg #[.string ⟨n'.toArray⟩,.string ⟨d'.toArray⟩]] w fun e w'=>e=.returned (.tuple #[.agg (aPf (mkF (aP5 n d') (aP2 d n'))),.int .i64 0])/\Below w.heap.size w w':=by
 obtain⟨a1,a3,l1,l3⟩:=aX3 (l:=n) (d:=d) (by omega) (by omega);obtain⟨a2,a4,l2,l4⟩:=aX3 (l:=n') (d:=d') (by omega) (by omega);have hz:val (gW d)*val (gL n' d')≠0:=Int.mul_ne_zero (by have:=Tn d;omega) (by rw[mP];split <;> omega);have b1:=aX5 a1 a4;have b2:=aX5 a3 a2;refine aX7 n d n' d' (mkF (aP5 n d') (aP2 d n')) 0 w (by omega) (by omega) (by omega) (by omega) fun W=>?_
 have h:=aYm (aJ (val (gL n d)*val (gW d'))) (aJ (val (gW d)*val (gL n' d'))) W (by have:=aXi b1;omega) (by have:=aXi b2;omega) (by rw[bE];exact b1) (by rw[bE];exact b2) (by rw[bE];exact hz);rw[bE,bE,(aX4 n d d' h0).1,(aX4 n d d' h0).2] at h;exact h
end
section
open Go Go.RowKit Num
theorem aW5(fs:List aE)(a b:Int):aPk fs 0 [a,b]=if aPk fs 0 [a]=0 then(if b < -25567∨84005<b then 13 else 0) else aPk fs 0 [a]:=by
 unfold aPk
 by_cases h:dF fs=0
 ·have h1:¬ dF fs≠0:=by simpa using h
  have h3:¬ (0:Int)<0:=by decide
  simp only[if_neg h1,if_neg h3];have e1:[a,b].all aPt=(aPt a&&aPt b):=by simp
  have e2:[a].all aPt=aPt a:=by simp
  rw[e1,e2];cases ha:aPt a
  ·simp
  ·by_cases hb:b < -25567∨84005<b
   ·have h2:aPt b=false:=by simp[aPt];omega
    simp[h2,hb]
   ·have h2:aPt b=true:=by simp[aPt];omega
    simp[h2,hb]
 ·have h1:dF fs≠0:=h;simp only[if_pos h1];simp
theorem aWw{xs:List aF}{ins:List UInt8}{d:Int}{q:aJv}(hok:∀x,x∈xs->x.f.tight)(hc:dF (xs.map aF.f)=0)(h:aJ0 (xs.map aF.f) ins d=some q):q.price.n.length<=13/\q.price.d.length<=13:=by
 obtain⟨f,hf,_,rfl⟩:=aLv hc (aK5 h);obtain⟨x,hx,rfl⟩:=List.mem_map.1 hf;exact fL (hok x hx).price
theorem aXw(xs:List aF)(ad:Option Addr)(c:Nat)(ins:List UInt8)(a b:Int)(w:World)(hn:xs.length<=1000000)(hcap:xs.length<=c)(hr:fS w ad xs)(hok:∀x,x∈xs->x.f.tight):
  Calls prog 39 #[.slice ad xs.length c,.string ⟨ins.toArray⟩,.int .i64 a,.int .i64 b] w fun e w'=>e=.returned (.tuple #[.agg (aPf (FV (aPo (xs.map aF.f) ins a b))),.int .i64 (aPn (xs.map aF.f) ins a b)])/\Below w.heap.size w w':=by
 have HLA:Hid (∀d W,Below w.heap.size w W->Calls prog 66 #[.slice ad xs.length c,.string ⟨ins.toArray⟩,.int .i64 d] W fun e w'=>e=.returned (.tuple #[.agg (aOx (QV (aJ0 (xs.map aF.f) ins d))),.bool (aJ0 (xs.map aF.f) ins d).isSome])/\Below W.heap.size W w'):=fun d W hb=>aU4 xs ad c ins d W hn (hr.below hb)
 have HLAa:=Hd (HLA.out a);have HLAb:=Hd (HLA.out b);have HSM:Hid (aPk (xs.map aF.f) 0 [a,b]=0->(∀q,aJ0 (xs.map aF.f) ins a=some q->q.price.n.length<=13/\q.price.d.length<=13)/\(∀q,aJ0 (xs.map aF.f) ins b=some q->q.price.n.length<=13/\q.price.d.length<=13)):=fun h=>⟨fun q=>aWw hok (aPx h).1,fun q=>aWw hok (aPx h).1⟩
 have HB0:=Hd (aB w (.cells Z2 28));have HPC:=Hd (aVl xs ad c a (w.alloc (.cells Z2 28)) hn hcap (hr.below HB0.out) hok);have KR:=Hd (aP.new0 w Z2 28);have HPS:=Hd (aW5 (xs.map aF.f) a b);have HLV:Hid (aPo (xs.map aF.f) ins a b=if aPk (xs.map aF.f) 0 [a,b]=0 then aP7 (aJ0 (xs.map aF.f) ins a) (aJ0 (xs.map aF.f) ins b) else none):=rfl;have HEV:Hid (aPn (xs.map aF.f) ins a b=if aPk (xs.map aF.f) 0 [a,b]=0 then aP3 (aJ0 (xs.map aF.f) ins a) (aJ0 (xs.map aF.f) ins b) else aPk (xs.map aF.f) 0 [a,b]):=rfl;have HSQ:Hid (∀q,(prog.info? 46).map (·.size)=some (aOx q).size):=fun _=>aPm
 have HONE:Hid (∀q,(aOx q).all (·.oneCell')=true):=aPw;have HS3:Hid (∀q,Z3.size=(aOx q).size):=fun _=>rfl
 have HSF:Hid (∀f,(prog.info? 28).map (·.size)=some (aPf f).size):=fun _=>aPp
 have HONF:Hid (∀f,(aPf f).all (·.oneCell')=true):=aP0;have HS2:Hid (∀f,Z2.size=(aPf f).size):=fun _=>rfl
 clear hr hok hcap HLA;generalize aPo (xs.map aF.f) ins a b=lo at *;generalize aPn (xs.map aF.f) ins a b=le at *;generalize aJ0 (xs.map aF.f) ins a=oa at *;generalize aJ0 (xs.map aF.f) ins b=ob at *;generalize aPk (xs.map aF.f) 0 [a,b]=pe at *;generalize aPk (xs.map aF.f) 0 [a]=p0 at *;generalize xs.length=n at *;go_enter func39,ntmps39;go_wp2_with fail;refine HPC.out.mono ?_;rintro e w1 ⟨rfl,hb⟩;have HB1:=Hd (aA HB0.out hb);have KR1:=Hd (KR.out.below hb);clear hb HPC KR HB0
 by_cases h0:p0=0
 ·subst h0;go_wp2_with fail;refine(We b w1).mono ?_;rintro e wd ⟨rfl,rfl⟩
  by_cases hd:b < -25567∨84005<b
  ·have HPE:Hid (pe=13):=by show _=_;rw[HPS.out,if_pos (by first|trivial|rfl),if_pos hd]
   have HVV:Hid (lo=none):=by show _=_;rw[HLV.out,if_neg (by rw[HPE.out];decide)]
   have HEE:Hid (le=13):=by show _=_;rw[HEV.out,if_neg (by rw[HPE.out];decide),HPE.out]
   rw[if_pos hd];clear HLV HEV HLAa HLAb HSM HPS;go_wp2_with (refine aOw rfl 28 _ _ rfl w.heap.size rfl (#[.string ⟨#[]⟩,.string ⟨#[]⟩]) rfl KR1.out (HSF.out (FV none)) (HS2.out (FV none)) (HONF.out (FV none)) ?_;intro w6 kx bx _ _;have HB9:=Hd (HB1.out.trans (bx _ (Nl _)));have KX9:=Hd kx;clear kx bx);refine bodyPost_ret (fX rfl _ _ _ _ _ (0,0) _ rfl KX9.out.2 underlying28 rfl (HSF.out (FV none))) rfl ?_;exact⟨by rw[HVV.out,HEE.out];rfl,HB9.out⟩
  have hpe:pe=0:=by rw[HPS.out,if_pos (by first|trivial|rfl),if_neg hd]
  rw[if_neg hd];obtain⟨hsa,hsb⟩:=HSM.out hpe;have HSA:=Hd hsa;have HSB:=Hd hsb;have HV:Hid (lo=aP7 oa ob):=by show _=_;rw[HLV.out,if_pos hpe]
  have HV2:Hid (le=aP3 oa ob):=by show _=_;rw[HEV.out,if_pos hpe]
  clear HLV HEV HSM hsa hsb HPS hpe hd;go_wp2_with fail;refine(HLAa.out _ HB1.out).mono ?_;rintro e w2 ⟨rfl,hb⟩;have HB2:=Hd (aA HB1.out hb);have KR2:=Hd (KR1.out.below hb);have HN2:=Hd (aB w2 (.cells Z3 46));have KN2:=Hd (aP.new0 w2 Z3 46);have HNE:Hid (w.heap.size≠w2.heap.size):=by have:=KR2.out.1;show _≠_;omega
  clear hb HLAa HB1 KR1;go_wp2_with (refine aOw rfl 46 _ _ rfl w2.heap.size rfl (aOx (QV oa)) rfl KN2.out (HSQ.out _) (HS3.out _) (HONE.out _) ?_;intro w3 kx bx Rt _;have HB3:=Hd (aA HB2.out (HN2.out.trans (bx _ (Nl _))));have KA3:=Hd kx;have KR3:=Hd (Rt _ _ _ HNE.out (KR2.out.below HN2.out));clear kx bx Rt);refine(HLAb.out _ HB3.out).mono ?_;rintro e w4 ⟨rfl,hb⟩;have HB4:=Hd (aA HB3.out hb);have KR4:=Hd (KR3.out.below hb);have KA4:=Hd (KA3.out.below hb);have HN4:=Hd (aB w4 (.cells Z3 46));have KN4:=Hd (aP.new0 w4 Z3 46);have HNE4:Hid (w.heap.size≠w4.heap.size/\w2.heap.size≠w4.heap.size):=by have:=KR4.out.1;have:=KA4.out.1;show _/\_;omega
  clear hb HLAb HB3 KR3 KA3 HB2 KR2 HN2 KN2 HNE;cases oa with
  |none =>
   simp only[Option.isSome_none];have HV0:Hid (aP7 none ob=none):=by cases ob <;> rfl
   have HE0:Hid (aP3 none ob=6):=by cases ob <;> rfl
   have HVV:Hid (lo=none):=by show _=_;rw[HV.out,HV0.out]
   have HEE:Hid (le=6):=by show _=_;rw[HV2.out,HE0.out]
   clear HV HV2 HV0 HE0;go_wp2_with (first|(refine aOw rfl 46 _ _ rfl w4.heap.size rfl (aOx (QV ob)) rfl KN4.out (HSQ.out _) (HS3.out _) (HONE.out _) ?_;intro w5 kx bx Rt _;have HB5:=Hd (aA HB4.out (HN4.out.trans (bx _ (Nl _))));have KB5:=Hd kx;have KR5:=Hd (Rt _ _ _ HNE4.out.1 (KR4.out.below HN4.out));have KA5:=Hd (Rt _ _ _ HNE4.out.2 (KA4.out.below HN4.out));clear kx bx Rt)|(refine aOw rfl 28 _ _ rfl w.heap.size rfl (#[.string ⟨#[]⟩,.string ⟨#[]⟩]) rfl KR5.out (HSF.out (FV none)) (HS2.out (FV none)) (HONF.out (FV none)) ?_;intro w6 kx bx _ _;have HB9:=Hd (HB5.out.trans (bx _ (Nl _)));have KX9:=Hd kx;clear kx bx));refine bodyPost_ret (fX rfl _ _ _ _ _ (0,0) _ rfl KX9.out.2 underlying28 rfl (HSF.out (FV none))) rfl ?_;exact⟨by rw[HVV.out,HEE.out];rfl,HB9.out⟩
  |some p =>
   simp only[Option.isSome_some];cases ob with
   |none =>
    simp only[Option.isSome_none];have HVV:Hid (lo=none):=HV.out;have HEE:Hid (le=6):=HV2.out;go_wp2_with (first|(refine aOw rfl 46 _ _ rfl w4.heap.size rfl (aOx (QV none)) rfl KN4.out (HSQ.out _) (HS3.out _) (HONE.out _) ?_;intro w5 kx bx Rt _;have HB5:=Hd (aA HB4.out (HN4.out.trans (bx _ (Nl _))));have KB5:=Hd kx;have KR5:=Hd (Rt _ _ _ HNE4.out.1 (KR4.out.below HN4.out));have KA5:=Hd (Rt _ _ _ HNE4.out.2 (KA4.out.below HN4.out));clear kx bx Rt)|(refine aOw rfl 28 _ _ rfl w.heap.size rfl (#[.string ⟨#[]⟩,.string ⟨#[]⟩]) rfl KR5.out (HSF.out (FV none)) (HS2.out (FV none)) (HONF.out (FV none)) ?_;intro w6 kx bx _ _;have HB9:=Hd (HB5.out.trans (bx _ (Nl _)));have KX9:=Hd kx;clear kx bx));refine bodyPost_ret (fX rfl _ _ _ _ _ (0,0) _ rfl KX9.out.2 underlying28 rfl (HSF.out (FV none))) rfl ?_;exact⟨by rw[HVV.out,HEE.out];rfl,HB9.out⟩
   |some q =>
    simp only[Option.isSome_some];obtain⟨la,la'⟩:=HSA.out p rfl;obtain⟨lb,lb'⟩:=HSB.out q rfl;have HPC:Hid ((aOx (QV (some p)))[1]?=some (.string ⟨p.price.n.toArray⟩)/\(aOx (QV (some p)))[2]?=some (.string ⟨p.price.d.toArray⟩)):=⟨rfl,rfl⟩
    have HQC:Hid ((aOx (QV (some q)))[1]?=some (.string ⟨q.price.n.toArray⟩)/\(aOx (QV (some q)))[2]?=some (.string ⟨q.price.d.toArray⟩)):=⟨rfl,rfl⟩
    have HCV:Hid (aP7 (some p) (some q)=if val p.price.n=0 then none else some (mkF (aP5 q.price.n p.price.d) (aP2 q.price.d p.price.n))):=rfl;have HCE:Hid (aP3 (some p) (some q)=if val p.price.n=0 then 10 else 0):=rfl;rw[HCV.out] at HV;rw[HCE.out] at HV2;have HQ0:Hid (val p.price.n=0->∀W,Calls prog 74 #[.agg #[.string ⟨q.price.n.toArray⟩,.string ⟨q.price.d.toArray⟩],.agg #[.string ⟨p.price.n.toArray⟩,.string ⟨p.price.d.toArray⟩]] W fun e w'=>e=.returned (.tuple #[.agg #[.string ⟨#[]⟩,.string ⟨#[]⟩],.int .i64 10])/\Below W.heap.size W w'):=fun h W=>aYj _ _ _ _ W lb lb' la la' h
    have HQ1:Hid (val p.price.n≠0->∀W,Below w.heap.size w W->Calls prog 74 #[.agg #[.string ⟨q.price.n.toArray⟩,.string ⟨q.price.d.toArray⟩],.agg #[.string ⟨p.price.n.toArray⟩,.string ⟨p.price.d.toArray⟩]] W fun e w'=>e=.returned (.tuple #[.agg (aPf (mkF (aP5 q.price.n p.price.d) (aP2 q.price.d p.price.n))),.int .i64 0])/\Below W.heap.size W w'):=fun h W hb=>aYz _ _ _ _ W lb lb' la la' h
    clear HCV HCE HSA HSB la la' lb lb';generalize aOx (QV (some p))=pa at *;generalize p.price.n=pn at *;generalize p.price.d=pd at *
    by_cases h0:val pn=0
    ·rw[if_pos h0] at HV HV2;have HVV:Hid (lo=none):=HV.out;have HEE:Hid (le=10):=HV2.out;have HC:=Hd (HQ0.out h0);clear HQ0 HQ1 HV HV2 h0;go_wp2_with (refine aOw rfl 46 _ _ rfl w4.heap.size rfl (aOx (QV (some q))) rfl KN4.out (HSQ.out _) (HS3.out _) (HONE.out _) ?_;intro w5 kx bx Rt _;have HB5:=Hd (aA HB4.out (HN4.out.trans (bx _ (Nl _))));have KB5:=Hd kx;have KR5:=Hd (Rt _ _ _ HNE4.out.1 (KR4.out.below HN4.out));have KA5:=Hd (Rt _ _ _ HNE4.out.2 (KA4.out.below HN4.out));have b1:=(kx.cell 1).trans HQC.out.1;have b2:=(kx.cell 2).trans HQC.out.2;have a1:=(KA5.out.cell 1).trans HPC.out.1;have a2:=(KA5.out.cell 2).trans HPC.out.2;clear kx bx Rt);refine(HC.out _).mono ?_;rintro e w7 ⟨rfl,hb⟩;have HB7:=Hd (aA HB5.out hb);have KR7:=Hd (KR5.out.below hb);clear hb HC a1 a2 b1 b2;have HN7:=Hd (aB w7 (.cells Z2 28));have KN7:=Hd (aP.new0 w7 Z2 28);have HNE7:Hid (w.heap.size≠w7.heap.size):=by have:=KR7.out.1;show _≠_;omega
     go_wp2_with (first|(refine aOw rfl 28 _ _ rfl w7.heap.size rfl (#[.string ⟨#[]⟩,.string ⟨#[]⟩]) rfl KN7.out (HSF.out (FV none)) (HS2.out (FV none)) (HONF.out (FV none)) ?_;intro w8 kx bx Rt _;have HB8:=Hd (aA HB7.out (HN7.out.trans (bx _ (Nl _))));have KR8:=Hd (Rt _ _ _ HNE7.out (KR7.out.below HN7.out));have KF8:=Hd kx;clear kx bx Rt)|(refine aOw rfl 28 _ _ rfl w.heap.size rfl (#[.string ⟨#[]⟩,.string ⟨#[]⟩]) rfl KR8.out (HSF.out (FV none)) (HS2.out (FV none)) (HONF.out (FV none)) ?_;intro w9 kx bx _ _;have HB9:=Hd (HB8.out.trans (bx _ (Nl _)));have KX9:=Hd kx;clear kx bx));refine bodyPost_ret (fX rfl _ _ _ _ _ (0,0) _ rfl KX9.out.2 underlying28 rfl (HSF.out (FV none))) rfl ?_;exact⟨by rw[HVV.out,HEE.out];rfl,HB9.out⟩
    ·rw[if_neg h0] at HV HV2;have HVV:Hid (lo=some (mkF (aP5 q.price.n pd) (aP2 q.price.d pn))):=HV.out;have HEE:Hid (le=0):=HV2.out;have HC:=Hd (HQ1.out h0);clear HQ0 HQ1 HV HV2 h0;generalize mkF (aP5 q.price.n pd) (aP2 q.price.d pn)=mq at *;go_wp2_with (refine aOw rfl 46 _ _ rfl w4.heap.size rfl (aOx (QV (some q))) rfl KN4.out (HSQ.out _) (HS3.out _) (HONE.out _) ?_;intro w5 kx bx Rt _;have HB5:=Hd (aA HB4.out (HN4.out.trans (bx _ (Nl _))));have KB5:=Hd kx;have KR5:=Hd (Rt _ _ _ HNE4.out.1 (KR4.out.below HN4.out));have KA5:=Hd (Rt _ _ _ HNE4.out.2 (KA4.out.below HN4.out));have b1:=(kx.cell 1).trans HQC.out.1;have b2:=(kx.cell 2).trans HQC.out.2;have a1:=(KA5.out.cell 1).trans HPC.out.1;have a2:=(KA5.out.cell 2).trans HPC.out.2;clear kx bx Rt);refine(HC.out _ HB5.out).mono ?_;rintro e w7 ⟨rfl,hb⟩;have HB7:=Hd (aA HB5.out hb);have KR7:=Hd (KR5.out.below hb);clear hb HC a1 a2 b1 b2;have HN7:=Hd (aB w7 (.cells Z2 28));have KN7:=Hd (aP.new0 w7 Z2 28);have HNE7:Hid (w.heap.size≠w7.heap.size):=by have:=KR7.out.1;show _≠_;omega
     go_wp2_with (first|(refine aOw rfl 28 _ _ rfl w7.heap.size rfl (aPf mq) rfl KN7.out (HSF.out (mq)) (HS2.out (mq)) (HONF.out (mq)) ?_;intro w8 kx bx Rt _;have HB8:=Hd (aA HB7.out (HN7.out.trans (bx _ (Nl _))));have KR8:=Hd (Rt _ _ _ HNE7.out (KR7.out.below HN7.out));have KF8:=Hd kx;clear kx bx Rt)|(refine wpList_load_row rfl 28 _ rfl w7.heap.size rfl 28 (aPf mq) (0,0) _ KF8.out.2 underlying28 rfl (HSF.out (mq)) ?_;simp only[pS])|(refine aOw rfl 28 _ _ rfl w.heap.size rfl (aPf mq) rfl KR8.out (HSF.out (mq)) (HS2.out (mq)) (HONF.out (mq)) ?_;intro w9 kx bx _ _;have HB9:=Hd (HB8.out.trans (bx _ (Nl _)));have KX9:=Hd kx;clear kx bx));refine bodyPost_ret (fX rfl _ _ _ _ _ (0,0) _ rfl KX9.out.2 underlying28 rfl (HSF.out (mq))) rfl ?_;exact⟨by rw[HVV.out,HEE.out];rfl,HB9.out⟩
 ·have he':(p0==0)=false:=by simpa using h0
  have HVV:Hid (lo=none):=by show _=_;rw[HLV.out,if_neg (by rw[HPS.out,if_neg h0];exact h0)]
  have HEE:Hid (le=p0):=by show _=_;rw[HEV.out,if_neg (by rw[HPS.out,if_neg h0];exact h0),HPS.out,if_neg h0]
  clear HLV HEV HLAa HLAb HSM;go_wp2_with (refine aOw rfl 28 _ _ rfl w.heap.size rfl (#[.string ⟨#[]⟩,.string ⟨#[]⟩]) rfl KR1.out (HSF.out (FV none)) (HS2.out (FV none)) (HONF.out (FV none)) ?_;intro w6 kx bx _ _;have HB9:=Hd (HB1.out.trans (bx _ (Nl _)));have KX9:=Hd kx;clear kx bx);refine bodyPost_ret (fX rfl _ _ _ _ _ (0,0) _ rfl KX9.out.2 underlying28 rfl (HSF.out (FV none))) rfl ?_;exact⟨by rw[HVV.out,HEE.out];rfl,HB9.out⟩
end
section
open Go Go.RowKit Num
theorem aXm(xs:List aF)(a:Option Addr)(c:Nat)(l:List (List UInt8))(al:Option Addr)(cl:Nat)(d stale:Int)(w:World)(hn:xs.length<=1000000)(hcap:xs.length<=c)(hr:fS w a xs)(hok:∀x,x∈xs->x.f.tight)(hl:l.length<=1000)(hrl:dT w al (iS l)):
  Calls prog 40 #[.slice a xs.length c,.slice al l.length cl,.int .i64 d,.int .i64 stale] w fun e w'=>(∃v,e=.returned (.tuple #[v,.int .i64 (aPk (xs.map aF.f) stale [d])])/\w'.ownsRow w.heap.size 9 1 v (aRj (xs.map aF.f) d stale l).length (iS (aRj (xs.map aF.f) d stale l)))/\Below w.heap.size w w':=by
 obtain⟨i0,hi,hz0,hz1,hz2⟩:=info_parts Ys;have HFR:Hid (aPk (xs.map aF.f) stale [d]=0->∀s W,Below w.heap.size w W->Calls prog 68 #[.slice a xs.length c,.string ⟨s.toArray⟩,.int .i64 d,.int .i64 stale] W fun e w'=>e=.returned (.tuple #[.agg (aPf (FV (aL1 (xs.map aF.f) s d stale))),.bool (aL1 (xs.map aF.f) s d stale).isSome])/\Below W.heap.size W w'):=fun h s W hb=>aV8 xs a c s d stale W hn (hr.below hb) (aPx h).1 (by have:=(aPx h).2.1;simpa using this)
 have HPC:=Hd (aVl xs a c d w hn hcap hr hok);have HPS:=Hd (aV5 (xs.map aF.f) d stale);have HRL:=Hd hrl;obtain⟨fs,hfs⟩:∃fs,fs=xs.map aF.f:=⟨_,rfl⟩
 rw[<-hfs] at HFR HPC HPS ⊢;have HMV:Hid (aRj fs d stale l=if aPk fs stale [d]=0 then aPq fs d stale l else[]):=rfl;have HINF:=Hd (And.intro hi (And.intro hz0 (And.intro hz1 hz2)));have HSF:Hid (∀f,(prog.info? 28).map (·.size)=some (aPf f).size):=fun _=>aPp
 have HONF:Hid (∀f,(aPf f).all (·.oneCell')=true):=aP0;have HS2:Hid (∀f,Z2.size=(aPf f).size):=fun _=>rfl
 clear hr hok hcap hrl hi hz0 hz1 hz2 hfs;generalize aRj fs d stale l=mv at *;generalize aPk fs stale [d]=pe at *;generalize aPk fs 0 [d]=p0 at *;generalize xs.length=n at *;go_enter func40,ntmps40;go_wp2_with fail;refine HPC.out.mono ?_;rintro e w1 ⟨rfl,hb⟩;have HB1:=Hd hb;clear hb HPC
 by_cases h0:p0=0
 ·subst h0
  by_cases hs:stale<0
  ·have HPE:Hid (pe=2):=by show _=_;rw[HPS.out,if_pos rfl,if_pos hs]
   have HV:Hid (mv=[]):=by show _=_;rw[HMV.out,if_neg (by rw[HPE.out];decide)]
   clear HMV HFR HPS;go_wp2;go_ret2;exact⟨⟨_,by rw[HPE.out];rfl,by rw[HV.out];exact World.ownsRow_nil _ _ _ _⟩,HB1.out⟩
  have HPE:Hid (pe=0):=by show _=_;rw[HPS.out,if_pos rfl,if_neg hs]
  have HFR2:=Hd (HFR.out HPE.out);have HMV2:Hid (mv=aPq fs d stale l):=by show _=_;rw[HMV.out,if_pos HPE.out]
  have HO1:Hid ((w1.alloc (.cells #[] 9)).ownsRow w.heap.size 9 1 (.slice (some ⟨w1.heap.size,0,none⟩) 0 0) 0 []):=World.ownsRow_made w1 #[] 0 HB1.out.size (Nat.zero_le _) rfl;have HB2:=Hd (aA HB1.out (aB w1 (.cells #[] 9)));clear HMV HFR HPS HB1;go_wp2_with fail;go_loopw [11,12] (fun ov iv wr=>∃k:Nat,k<=l.length/\iv=.int .i64 k/\Hid (wr.ownsRow w.heap.size 9 1 ov (aPu fs d stale l k).length (iS (aPu fs d stale l k)))/\Hid (Below w.heap.size w wr)) (fun _ iv _=>l.length-(intOf iv).toNat)
  case atStart=>exact⟨0,Nat.zero_le _,rfl,HO1.out,HB2⟩
  case round =>
   obtain⟨k,hk,rfl,HOa,HBa⟩:=hrel
   by_cases hlt:k<l.length
   ·obtain⟨s,hs⟩:∃s,l[k]?=some s:=⟨l[k],Lg hlt⟩
    obtain⟨b,off,rfl,hbl,hcc⟩:=(HRL.out.below HBa.out).addr (by intro e;unfold iS at e;rw[List.map_eq_nil_iff] at e;subst e;simp at hlt);have hc:=hcc k (.string ⟨s.toArray⟩) (by unfold iS;rw[List.getElem?_map,hs];rfl);have HK:=Hd (aQv (fs:=fs) (d:=d) (stale:=stale) hs);have hll:=aQ5 fs d stale l k;have HSP:Hid (aP9 fs d stale s=(aL1 fs s d stale).isNone):=rfl;have HC:=Hd (HFR2.out s wr HBa.out);obtain⟨s',hs'⟩:∃s',s'=aPu fs d stale l (k+1):=⟨_,rfl⟩
    rw[<-hs'] at HK;have HS':=Hd hs';have HCC:Hid (∀W,Below wr.heap.size wr W->W.cell? ⟨b,off+k,none⟩=some (.string ⟨s.toArray⟩)):=fun W hb=>(hb.cell (p:=⟨b,off+k,none⟩) hbl).trans hc
    clear hs' hs hcc hbl;generalize aPu fs d stale l k=m at *;generalize aL1 fs s d stale=o at *;generalize aP9 fs d stale s=sp at *;go_wp2_with fail;refine HC.out.mono ?_;rintro e w4 ⟨rfl,hb⟩;have HO4:=Hd (aPl HOa.out hb);have HB4:=Hd (aA HBa.out hb);have HN4:=Hd (aB w4 (.cells Z2 28));have KN4:=Hd (aP.new0 w4 Z2 28);have HSZ4:=Hd HB4.out.size;have HW4:=Hd hb;clear hb HC HOa HBa hc;cases o with
    |some p =>
     have HK2:Hid (s'=m):=by show _=_;rw[HK.out,HSP.out];simp
     clear HK HSP;simp only[Option.isSome_some];go_wp2_with (refine aOw rfl 28 _ _ rfl w4.heap.size rfl (aPf (FV (some p))) rfl KN4.out (HSF.out _) (HS2.out _) (HONF.out _) ?_;intro w5 kx bx Rt _;have hb5:=HN4.out.trans (bx _ (Nl _));have HO5:=Hd (aPl HO4.out hb5);have HB5:=Hd (aA HB4.out hb5);clear kx bx Rt hb5);go_roundw
     case rel=>exact⟨k+1,by omega,by go_num,(by rw[<-HS'.out,HK2.out];exact HO5),HB5⟩
     case measure=>simp[intOf];omega
    |none =>
     have HK2:Hid (s'=m ++ [s]):=by show _=_;rw[HK.out,HSP.out];simp
     clear HK HSP;simp only[Option.isSome_none];go_wp2_with (first|(refine aOw rfl 28 _ _ rfl w4.heap.size rfl (aPf (FV none)) rfl KN4.out (HSF.out _) (HS2.out _) (HONF.out _) ?_;intro w5 kx bx Rt hsz5;have hb5:=HN4.out.trans (bx _ (Nl _));have HO5:=Hd (aPl HO4.out hb5);have HB5:=Hd (aA HB4.out hb5);have HSZ5:=Hd HB5.out.size;have hc5:=HCC.out _ (aA HW4.out hb5);clear kx bx Rt hb5 hsz5)|(at_builtin;refine wpList_append_own_at _ rfl _ _ 62 rfl w.heap.size 9 i0 (.string ⟨#[]⟩) 1 16 underlying62 HINF.out.1 HINF.out.2.1 HINF.out.2.2.1 HINF.out.2.2.2 rfl (by decide) _ _ _ rfl (HO5.out.alloc _) ⟨w5.heap.size,0,none⟩ 1 1 [.string ⟨s.toArray⟩] rfl rfl (cell_one_new _ _ _) (by simp[Value.oneCell']) (by unfold maxLen;omega) (by omega) (by have:=HSZ5.out;simp;omega) ?_));intro v' w9 hown' hgrow _ _;have HB9:=Hd (Ut (HO5.out.alloc (.cells #[.string ⟨s.toArray⟩] 9)) hgrow (aA HB5.out (aB _ _)) (by have:=HSZ5.out;simp;omega));have HO9:Hid (w9.ownsRow w.heap.size 9 1 v' s'.length (iS s')):=by
      show World.ownsRow _ _ _ _ _ _ _;rw[HK2.out];simpa[iS] using hown'
     clear hgrow hown';go_wp2;go_roundw
     case rel=>exact⟨k+1,by omega,by go_num,(by rw[<-HS'.out];exact HO9),HB9⟩
     case measure=>simp[intOf];omega
   ·obtain rfl:k=l.length:=by omega
    have hoe:=HOa.out;rw[aQl,<-HMV2.out] at hoe;have HOE:=Hd hoe;clear hoe HOa;go_wp2;go_ret2;exact⟨⟨_,by rw[HPE.out];rfl,HOE.out⟩,HBa.out⟩
 ·have he':(p0==0)=false:=by simpa using h0
  have HPE:Hid (pe=p0):=by show _=_;rw[HPS.out,if_neg h0]
  have HV:Hid (mv=[]):=by show _=_;rw[HMV.out,if_neg (by rw[HPE.out];exact h0)]
  clear HMV HFR;go_wp2;go_ret2;exact⟨⟨_,by rw[HPE.out];rfl,by rw[HV.out];exact World.ownsRow_nil _ _ _ _⟩,HB1.out⟩
end
section
open Go Go.RowKit Num
theorem bB{ops:Array Oper}{a:Act}{i j s:Nat}(hgd:(ops[i]?).map (·.guard)=some (some (j,false)))(hj:(ops[j]?).bind (·.dst)=some s)(hv:a.tmps[s]?=some (.bool false)):∀o,ops[i]?=some o->Region.wanted o (yielded ops a.tmps)=true:=fun o ho=>by
 rw[nL hgd rfl hj hv o ho];rfl
noncomputable def aY8:Array Oper:=(f42.body.bind (jE 15)).getD #[]
def aY3:List (Nat×Nat):=[(0,66),(1,67),(2,68),(3,69),(4,70),(5,71),(6,72),(7,73),(8,74),(9,75),(10,76),(11,77)]
structure RlC where
 W0:World
 bl:Nat
 bb:Nat
 off:Nat
 n:Nat
 cap:Nat
 k:Nat
 pa:Array Value
 la:Array Value
 z:Int
def RlC.val(C:RlC)(_:Unit):Nat->Value
 |0=>.bool true
 |1=>.bool false
 |2=>.bool false
 |3=>.slice (some ⟨C.bb,C.off,none⟩) C.n C.cap
 |4=>.int .i64 (C.k:Int)
 |5=>.pointer (some ⟨C.bb,C.off+C.k*3,none⟩)
 |6=>.pointer (some ⟨C.bb,C.off+C.k*3+1,none⟩)
 |7=>.agg C.pa
 |8=>.agg C.la
 |9=>.int .i64 C.z
 |10=>.bool (decide (C.z<0))
 |_=>.bool (decide (C.z<0))
def RlC.gg(C:RlC)(_:Unit)(_:Array Bool)(W:World):Prop:=Below C.W0.heap.size C.W0 W
structure RlM(C:RlC)(t0:Array Value):Prop where
 sz:t0.size=106
 t13:t0[13]?=some (.bool true)
 t10:t0[10]?=some (.slice (some ⟨C.bb,C.off,none⟩) C.n C.cap)
 t14:t0[14]?=some (.int .i64 (C.k:Int))
 tb:t0[11]?=some (.pointer (some ⟨C.bl,0,none⟩))
 kl:aP C.W0 C.bl C.la 28
 lt:C.k<C.n
 hp:∀W,Below C.W0.heap.size C.W0 W->∀j v,C.pa.toList[j]?=some v->W.cell? ⟨C.bb,C.off+C.k*3+1+j,none⟩=some v
 sp:(prog.info? 28).map (·.size)=some C.pa.size
 sl:(prog.info? 28).map (·.size)=some C.la.size
 hc:∀W,Calls prog 75 #[.agg C.pa,.agg C.la] W fun e w'=>e=.returned (.int .i64 C.z)/\Below W.heap.size W w'
section
variable {C:RlC}{t0:Array Value}{Q:Exit->Act->World->Prop}
theorem aYc(M:RlM C t0){a:Act}{w:World}(hdf:a.defers=[])(ht:a.tmps=t0)(hw:w.drewN 1=C.W0)
  (hQ:∀W,Below C.W0.heap.size C.W0 W->Q .normal { tmps:=iZ (C.val ()) aY3 t0,defers:=[] } W):(Code.region 15 aY8 true).wp prog Q a w:=by
 have hsz:aY8.size=12:=by kernel_rfl
 refine eV (ds:=aY3) (val:=C.val) (G:=C.gg) (by kernel_rfl) (by kernel_rfl) (by decide) (fun p hp=>?_) (by kernel_rfl) ?_ (γ:=()) hdf ht (by rw[hw];exact Br _ _) (fun _ _ W _ hg=>hQ W hg)
 ·rw[M.sz];have:∀p,p∈aY3->p.2<106:=by decide
  exact this p hp
 ·intro γ l a w i H hr;cases γ;have hi:i<12:=by
   obtain⟨_,o,ho,_⟩:=mem_ready.1 hr;have:=(Ai.1 ho).1;rw[hsz] at this;exact this
  have t13:=H.low (s:=13) (by decide) M.t13;have t10:=H.low (s:=10) (by decide) M.t10;have t14:=H.low (s:=14) (by decide) M.t14;have tb:=H.low (s:=11) (by decide) M.tb;have hb:Below C.W0.heap.size C.W0 w:=H.g
  match i,hi,hr with
  |0,_,hr =>
   exact aWj (.move (.tmp 13)) (.bool true) (fun o h=>by simp[execOp,h,t13,go_sem]) hb
  |1,_,hr =>
   have v0:a.tmps[66]?=some (.bool true):=H.dep hr 0 66;exact aWj (.unOp .not 4 (.tmp 66)) (.bool false) (fun o h=>by simp[execOp,h,v0,go_sem]) hb
  |2,_,hr =>
   have v1:a.tmps[67]?=some (.bool false):=H.dep hr 1 67;exact aWj (.move (.tmp 67)) (.bool false) (fun o h=>by simp[execOp,h,v1,go_sem]) hb
  |3,_,hr =>
   have hon:a.tmps[68]?=some (.bool false):=H.dep hr 2 68;exact bA (X:=.move (.tmp 10)) (v:=.slice (some ⟨C.bb,C.off,none⟩) C.n C.cap) (by kernel_rfl) (bB (i:=3) (j:=2) (s:=68) (by kernel_rfl) (by kernel_rfl) hon) (fun o h=>by simp[execOp,h,t10,go_sem]) rfl hb
  |4,_,hr =>
   have hon:a.tmps[68]?=some (.bool false):=H.dep hr 2 68;exact bA (X:=.move (.tmp 14)) (v:=.int .i64 (C.k:Int)) (by kernel_rfl) (bB (i:=4) (j:=2) (s:=68) (by kernel_rfl) (by kernel_rfl) hon) (fun o h=>by simp[execOp,h,t14,go_sem]) rfl hb
  |5,_,hr =>
   have v3:a.tmps[69]?=some (.slice (some ⟨C.bb,C.off,none⟩) C.n C.cap):=H.dep hr 3 69;have v4:a.tmps[70]?=some (.int .i64 (C.k:Int)):=H.dep hr 4 70;have hon:a.tmps[68]?=some (.bool false):=H.dep hr 2 68;exact bA (X:=.indexAddr 50 (.tmp 69) (.tmp 70)) (v:=.pointer (some ⟨C.bb,C.off+C.k*3,none⟩)) (by kernel_rfl) (bB (i:=5) (j:=2) (s:=68) (by kernel_rfl) (by kernel_rfl) hon) (fun o h=>by have hlt:=M.lt;simp[execOp,h,v3,v4,go_sem,hlt]) rfl hb
  |6,_,hr =>
   have v5:a.tmps[71]?=some (.pointer (some ⟨C.bb,C.off+C.k*3,none⟩)):=H.dep hr 5 71;have hon:a.tmps[68]?=some (.bool false):=H.dep hr 2 68;exact bA (X:=.fieldAddr 46 (.tmp 71) 1) (v:=.pointer (some ⟨C.bb,C.off+C.k*3+1,none⟩)) (by kernel_rfl) (bB (i:=6) (j:=2) (s:=68) (by kernel_rfl) (by kernel_rfl) hon) (fun o h=>by simp[execOp,h,v5,go_sem]) rfl hb
  |7,_,hr =>
   have v6:a.tmps[72]?=some (.pointer (some ⟨C.bb,C.off+C.k*3+1,none⟩)):=H.dep hr 6 72;have hon:a.tmps[68]?=some (.bool false):=H.dep hr 2 68;exact bA (X:=.load 28 (.tmp 72)) (v:=.agg C.pa) (by kernel_rfl) (bB (i:=7) (j:=2) (s:=68) (by kernel_rfl) (by kernel_rfl) hon) (fun o h=>by exact aW h (oC v6) (M.hp w hb) underlying28 rfl M.sp) rfl hb
  |8,_,hr =>
   have hon:a.tmps[68]?=some (.bool false):=H.dep hr 2 68;exact bA (X:=.load 28 (.tmp 11)) (v:=.agg C.la) (by kernel_rfl) (bB (i:=8) (j:=2) (s:=68) (by kernel_rfl) (by kernel_rfl) hon) (fun o h=>by exact aW h (oC tb) (gR (M.kl.below hb)) underlying28 rfl M.sl) rfl hb
  |9,_,hr =>
   have v7:a.tmps[73]?=some (.agg C.pa):=H.dep hr 7 73;have v8:a.tmps[74]?=some (.agg C.la):=H.dep hr 8 74;have hon:a.tmps[68]?=some (.bool false):=H.dep hr 2 68;refine mX (f:=75) (lb:=#[]) (c:=.func 75) (args:=#[.tmp 73,.tmp 74]) (ts:=#[28,28]) (vs:=#[.agg C.pa,.agg C.la]) (by kernel_rfl) (bB (i:=9) (j:=2) (s:=68) (by kernel_rfl) (by kernel_rfl) hon) rfl (aXb func75) (by simp[Act.eval,v7,v8]) ((M.hc w).mono ?_);rintro e w' ⟨rfl,hb'⟩;exact⟨_,(),rfl,rfl,fun _ _=>rfl,aA hb hb'⟩
  |10,_,hr =>
   have v9:a.tmps[75]?=some (.int .i64 C.z):=H.dep hr 9 75;have hon:a.tmps[68]?=some (.bool false):=H.dep hr 2 68;exact bA (X:=.binOp .lss 3 (.tmp 75) (.const (.int .i64 0)) 3) (v:=.bool (decide (C.z<0))) (by kernel_rfl) (bB (i:=10) (j:=2) (s:=68) (by kernel_rfl) (by kernel_rfl) hon) (fun o h=>by simp[execOp,h,v9,go_sem]) rfl hb
  |11,_,hr =>
   have v2:a.tmps[68]?=some (.bool false):=H.dep hr 2 68;have v10:a.tmps[76]?=some (.bool (decide (C.z<0))):=H.dep hr 10 76;exact aWj (.pick (.tmp 68) (.const (.bool true)) (.tmp 76)) (.bool (decide (C.z<0))) (fun o h=>by simp[execOp,h,v2,v10,go_sem]) hb
  |n+12,h,_=>exact absurd h (by omega)
end
noncomputable def aY9:Array Oper:=(f42.body.bind (jE 17)).getD #[]
def aYs:List (Nat×Nat):=[(0,83),(1,84),(2,85),(3,86),(4,87),(5,88),(6,89),(7,90),(8,91),(9,92),(10,93),(11,94)]
structure RhC where
 W0:World
 bl:Nat
 bb:Nat
 off:Nat
 n:Nat
 cap:Nat
 k:Nat
 pa:Array Value
 la:Array Value
 z:Int
def RhC.val(C:RhC)(_:Unit):Nat->Value
 |0=>.bool true
 |1=>.bool false
 |2=>.bool false
 |3=>.slice (some ⟨C.bb,C.off,none⟩) C.n C.cap
 |4=>.int .i64 (C.k:Int)
 |5=>.pointer (some ⟨C.bb,C.off+C.k*3,none⟩)
 |6=>.pointer (some ⟨C.bb,C.off+C.k*3+1,none⟩)
 |7=>.agg C.pa
 |8=>.agg C.la
 |9=>.int .i64 C.z
 |10=>.bool (decide (0<C.z))
 |_=>.bool (decide (0<C.z))
def RhC.gg(C:RhC)(_:Unit)(_:Array Bool)(W:World):Prop:=Below C.W0.heap.size C.W0 W
structure RhM(C:RhC)(t0:Array Value):Prop where
 sz:t0.size=106
 t13:t0[13]?=some (.bool true)
 t10:t0[10]?=some (.slice (some ⟨C.bb,C.off,none⟩) C.n C.cap)
 t14:t0[14]?=some (.int .i64 (C.k:Int))
 tb:t0[12]?=some (.pointer (some ⟨C.bl,0,none⟩))
 kl:aP C.W0 C.bl C.la 28
 lt:C.k<C.n
 hp:∀W,Below C.W0.heap.size C.W0 W->∀j v,C.pa.toList[j]?=some v->W.cell? ⟨C.bb,C.off+C.k*3+1+j,none⟩=some v
 sp:(prog.info? 28).map (·.size)=some C.pa.size
 sl:(prog.info? 28).map (·.size)=some C.la.size
 hc:∀W,Calls prog 75 #[.agg C.pa,.agg C.la] W fun e w'=>e=.returned (.int .i64 C.z)/\Below W.heap.size W w'
section
variable {C:RhC}{t0:Array Value}{Q:Exit->Act->World->Prop}
theorem aXg(M:RhM C t0){a:Act}{w:World}(hdf:a.defers=[])(ht:a.tmps=t0)(hw:w.drewN 1=C.W0)
  (hQ:∀W,Below C.W0.heap.size C.W0 W->Q .normal { tmps:=iZ (C.val ()) aYs t0,defers:=[] } W):(Code.region 17 aY9 true).wp prog Q a w:=by
 have hsz:aY9.size=12:=by kernel_rfl
 refine eV (ds:=aYs) (val:=C.val) (G:=C.gg) (by kernel_rfl) (by kernel_rfl) (by decide) (fun p hp=>?_) (by kernel_rfl) ?_ (γ:=()) hdf ht (by rw[hw];exact Br _ _) (fun _ _ W _ hg=>hQ W hg)
 ·rw[M.sz];have:∀p,p∈aYs->p.2<106:=by decide
  exact this p hp
 ·intro γ l a w i H hr;cases γ;have hi:i<12:=by
   obtain⟨_,o,ho,_⟩:=mem_ready.1 hr;have:=(Ai.1 ho).1;rw[hsz] at this;exact this
  have t13:=H.low (s:=13) (by decide) M.t13;have t10:=H.low (s:=10) (by decide) M.t10;have t14:=H.low (s:=14) (by decide) M.t14;have tb:=H.low (s:=12) (by decide) M.tb;have hb:Below C.W0.heap.size C.W0 w:=H.g
  match i,hi,hr with
  |0,_,hr =>
   exact aWj (.move (.tmp 13)) (.bool true) (fun o h=>by simp[execOp,h,t13,go_sem]) hb
  |1,_,hr =>
   have v0:a.tmps[83]?=some (.bool true):=H.dep hr 0 83;exact aWj (.unOp .not 4 (.tmp 83)) (.bool false) (fun o h=>by simp[execOp,h,v0,go_sem]) hb
  |2,_,hr =>
   have v1:a.tmps[84]?=some (.bool false):=H.dep hr 1 84;exact aWj (.move (.tmp 84)) (.bool false) (fun o h=>by simp[execOp,h,v1,go_sem]) hb
  |3,_,hr =>
   have hon:a.tmps[85]?=some (.bool false):=H.dep hr 2 85;exact bA (X:=.move (.tmp 10)) (v:=.slice (some ⟨C.bb,C.off,none⟩) C.n C.cap) (by kernel_rfl) (bB (i:=3) (j:=2) (s:=85) (by kernel_rfl) (by kernel_rfl) hon) (fun o h=>by simp[execOp,h,t10,go_sem]) rfl hb
  |4,_,hr =>
   have hon:a.tmps[85]?=some (.bool false):=H.dep hr 2 85;exact bA (X:=.move (.tmp 14)) (v:=.int .i64 (C.k:Int)) (by kernel_rfl) (bB (i:=4) (j:=2) (s:=85) (by kernel_rfl) (by kernel_rfl) hon) (fun o h=>by simp[execOp,h,t14,go_sem]) rfl hb
  |5,_,hr =>
   have v3:a.tmps[86]?=some (.slice (some ⟨C.bb,C.off,none⟩) C.n C.cap):=H.dep hr 3 86;have v4:a.tmps[87]?=some (.int .i64 (C.k:Int)):=H.dep hr 4 87;have hon:a.tmps[85]?=some (.bool false):=H.dep hr 2 85;exact bA (X:=.indexAddr 50 (.tmp 86) (.tmp 87)) (v:=.pointer (some ⟨C.bb,C.off+C.k*3,none⟩)) (by kernel_rfl) (bB (i:=5) (j:=2) (s:=85) (by kernel_rfl) (by kernel_rfl) hon) (fun o h=>by have hlt:=M.lt;simp[execOp,h,v3,v4,go_sem,hlt]) rfl hb
  |6,_,hr =>
   have v5:a.tmps[88]?=some (.pointer (some ⟨C.bb,C.off+C.k*3,none⟩)):=H.dep hr 5 88;have hon:a.tmps[85]?=some (.bool false):=H.dep hr 2 85;exact bA (X:=.fieldAddr 46 (.tmp 88) 1) (v:=.pointer (some ⟨C.bb,C.off+C.k*3+1,none⟩)) (by kernel_rfl) (bB (i:=6) (j:=2) (s:=85) (by kernel_rfl) (by kernel_rfl) hon) (fun o h=>by simp[execOp,h,v5,go_sem]) rfl hb
  |7,_,hr =>
   have v6:a.tmps[89]?=some (.pointer (some ⟨C.bb,C.off+C.k*3+1,none⟩)):=H.dep hr 6 89;have hon:a.tmps[85]?=some (.bool false):=H.dep hr 2 85;exact bA (X:=.load 28 (.tmp 89)) (v:=.agg C.pa) (by kernel_rfl) (bB (i:=7) (j:=2) (s:=85) (by kernel_rfl) (by kernel_rfl) hon) (fun o h=>by exact aW h (oC v6) (M.hp w hb) underlying28 rfl M.sp) rfl hb
  |8,_,hr =>
   have hon:a.tmps[85]?=some (.bool false):=H.dep hr 2 85;exact bA (X:=.load 28 (.tmp 12)) (v:=.agg C.la) (by kernel_rfl) (bB (i:=8) (j:=2) (s:=85) (by kernel_rfl) (by kernel_rfl) hon) (fun o h=>by exact aW h (oC tb) (gR (M.kl.below hb)) underlying28 rfl M.sl) rfl hb
  |9,_,hr =>
   have v7:a.tmps[90]?=some (.agg C.pa):=H.dep hr 7 90;have v8:a.tmps[91]?=some (.agg C.la):=H.dep hr 8 91;have hon:a.tmps[85]?=some (.bool false):=H.dep hr 2 85;refine mX (f:=75) (lb:=#[]) (c:=.func 75) (args:=#[.tmp 90,.tmp 91]) (ts:=#[28,28]) (vs:=#[.agg C.pa,.agg C.la]) (by kernel_rfl) (bB (i:=9) (j:=2) (s:=85) (by kernel_rfl) (by kernel_rfl) hon) rfl (aXb func75) (by simp[Act.eval,v7,v8]) ((M.hc w).mono ?_);rintro e w' ⟨rfl,hb'⟩;exact⟨_,(),rfl,rfl,fun _ _=>rfl,aA hb hb'⟩
  |10,_,hr =>
   have v9:a.tmps[92]?=some (.int .i64 C.z):=H.dep hr 9 92;have hon:a.tmps[85]?=some (.bool false):=H.dep hr 2 85;exact bA (X:=.binOp .gtr 3 (.tmp 92) (.const (.int .i64 0)) 3) (v:=.bool (decide (0<C.z))) (by kernel_rfl) (bB (i:=10) (j:=2) (s:=85) (by kernel_rfl) (by kernel_rfl) hon) (fun o h=>by simp[execOp,h,v9,go_sem]) rfl hb
  |11,_,hr =>
   have v2:a.tmps[85]?=some (.bool false):=H.dep hr 2 85;have v10:a.tmps[93]?=some (.bool (decide (0<C.z))):=H.dep hr 10 93;exact aWj (.pick (.tmp 85) (.const (.bool true)) (.tmp 93)) (.bool (decide (0<C.z))) (fun o h=>by simp[execOp,h,v2,v10,go_sem]) hb
  |n+12,h,_=>exact absurd h (by omega)
end
end
section
open Go Go.RowKit Num
theorem bBu(a b:Int):(bG a b<0↔a<b)/\(0<bG a b↔b<a):=by
 unfold bG;split
 ·exact⟨⟨fun _=>by assumption,fun _=>by decide⟩,⟨fun h=>absurd h (by decide),fun h=>by omega⟩⟩
 ·split
  ·exact⟨⟨fun h=>absurd h (by decide),fun h=>by omega⟩,⟨fun _=>by assumption,fun _=>by decide⟩⟩
  ·exact⟨⟨fun h=>absurd h (by decide),fun h=>by omega⟩,⟨fun h=>absurd h (by decide),fun h=>by omega⟩⟩
theorem aYw{p q:bZ}(hp:0<lU p.d)(hq:0<lU q.d):(nE p.n p.d q.n q.d<0↔aJ3 p q<0)/\(0<nE p.n p.d q.n q.d↔0<aJ3 p q):=by
 rw[aYv hp hq,(bBu _ _).1,(bBu _ _).2,(aJ2 hp hq).1,(aJ2 hp hq).2];exact⟨Iff.rfl,Iff.rfl⟩
theorem aYa{xs:List aF}{ins:List UInt8}{q:aJv}(hok:∀x,x∈xs->x.f.tight)(hc:dF (xs.map aF.f)=0)(h:q∈ser ins (xs.map aF.f)):q.price.n.length<=13/\q.price.d.length<=13:=by
 obtain⟨f,hf,_,rfl⟩:=aLv hc h;obtain⟨x,hx,rfl⟩:=List.mem_map.1 hf;exact fL (hok x hx).price
theorem aX8{α:Type}{l:List α}{k:Nat}{x:α}(h:l[k]?=some x):l.take (k+1)=l.take k ++ [x]:=by rw[List.take_add_one,h];rfl
noncomputable def aY7:Array Oper:=(f42.body.bind (jE 22)).getD #[]
def aY2:List (Nat×Nat):=[(0,104),(1,105),(4,8)]
structure RxC where
 w:World
 n:Nat
 b6:Nat
 b7:Nat
 b11:Nat
 b12:Nat
 lo:Array Value
 hi:Array Value
def RxC.val(C:RxC)(_:Unit):Nat->Value
 |0=>.agg C.lo
 |1=>.agg C.hi
 |_=>.int .i64 0
def RxC.g(C:RxC)(_:Unit)(l:Array Bool)(W:World):Prop:=(aP W C.b11 C.lo 28/\aP W C.b12 C.hi 28)/\(∃u,u.size=2/\aP W C.b6 u 28/\(lP l 2->u=C.lo))/\(∃u,u.size=2/\aP W C.b7 u 28/\(lP l 3->u=C.hi))/\Below C.n C.w W
structure RxM(C:RxC)(t0:Array Value):Prop where
 sz:t0.size=106
 t6:t0[6]?=some (.pointer (some ⟨C.b6,0,none⟩))
 t7:t0[7]?=some (.pointer (some ⟨C.b7,0,none⟩))
 t11:t0[11]?=some (.pointer (some ⟨C.b11,0,none⟩))
 t12:t0[12]?=some (.pointer (some ⟨C.b12,0,none⟩))
 n67:C.b6≠C.b7
 n610:C.b11≠C.b6/\C.b12≠C.b6/\C.b11≠C.b7/\C.b12≠C.b7
 nn:C.n<=C.b6/\C.n<=C.b7
 lsz:C.lo.size=2/\C.hi.size=2
 lone:C.lo.all (·.oneCell')=true/\C.hi.all (·.oneCell')=true
section
variable {C:RxC}{t0:Array Value}{Q:Exit->Act->World->Prop}{l:Array Bool}{w:World}
theorem RxC.keep{i:Nat}(h2:i≠2)(h3:i≠3)(h:C.g () l w):C.g () (l.setIfInBounds i true) w:=by
 obtain⟨k,⟨u,a1,a2,a3⟩,⟨v,b1,b2,b3⟩,r⟩:=h;exact⟨k,⟨u,a1,a2,fun h'=>a3 (mQ h' (Ne.symm h2))⟩,⟨v,b1,b2,fun h'=>b3 (mQ h' (Ne.symm h3))⟩,r⟩
theorem aYb(M:RxM C t0){a:Act}(hdf:a.defers=[])(ht:a.tmps=t0)(hw:∀l,(∀j,¬ lP l j)->C.g () l (w.drewN 1))
  (hQ:∀W,aP W C.b6 C.lo 28->aP W C.b7 C.hi 28->Below C.n C.w W->Q .normal { tmps:=iZ (C.val ()) aY2 t0,defers:=[] } W):(Code.region 22 aY7 true).wp prog Q a w:=by
 have hsz:aY7.size=5:=by kernel_rfl
 refine eV (ds:=aY2) (val:=C.val) (G:=C.g) (by kernel_rfl) (by kernel_rfl) (by decide) (fun p hp=>?_) (by kernel_rfl) ?_ (γ:=()) hdf ht (hw _ (fun j=>Gu _ _)) ?_
 ·rw[M.sz];have:∀p,p∈aY2->p.2<106:=by decide
  exact this p hp
 ·intro γ l a w i H hr;cases γ;have hi:i<5:=by
   obtain⟨_,o,ho,_⟩:=mem_ready.1 hr;have:=(Ai.1 ho).1;rw[hsz] at this;exact this
  have t6:=H.low (s:=6) (by decide) M.t6;have t7:=H.low (s:=7) (by decide) M.t7;have t11:=H.low (s:=11) (by decide) M.t11;have t12:=H.low (s:=12) (by decide) M.t12;obtain⟨⟨k10,k11⟩,⟨u,a1,a2,a3⟩,⟨v,b1,b2,b3⟩,hB⟩:=H.g
  match i,hi,hr with
  |0,_,hr=>exact aH (X:=.load 28 (.tmp 11)) (by kernel_rfl) (fun o h=>aW h (oC t11) (gR k10) underlying28 rfl (by rw[M.lsz.1];exact aPp)) rfl (RxC.keep (by decide) (by decide) H.g)
  |1,_,hr=>exact aH (X:=.load 28 (.tmp 12)) (by kernel_rfl) (fun o h=>aW h (oC t12) (gR k11) underlying28 rfl (by rw[M.lsz.2];exact aPp)) rfl (RxC.keep (by decide) (by decide) H.g)
  |2,_,hr =>
   have v0:a.tmps[104]?=some (.agg C.lo):=H.dep hr 0 104;exact aH0 (X:=.store 28 (.tmp 6) (.tmp 104)) (by kernel_rfl) (fun o h=>Bi h (oC t6) (oC v0) a2 (by rw[M.lsz.1];exact aPp) (by rw[M.lsz.1];exact a1) M.lone.1) ⟨⟨pM k10 M.n610.1,pM k11 M.n610.2.1⟩,⟨C.lo,M.lsz.1,Ip a2,fun _=>rfl⟩,⟨v,b1,pM b2 (Ne.symm M.n67),fun h'=>b3 (mQ h' (by decide))⟩,below_setRow hB M.nn.1 _⟩
  |3,_,hr =>
   have v0:a.tmps[105]?=some (.agg C.hi):=H.dep hr 1 105;exact aH0 (X:=.store 28 (.tmp 7) (.tmp 105)) (by kernel_rfl) (fun o h=>Bi h (oC t7) (oC v0) b2 (by rw[M.lsz.2];exact aPp) (by rw[M.lsz.2];exact b1) M.lone.2) ⟨⟨pM k10 M.n610.2.2.1,pM k11 M.n610.2.2.2⟩,⟨u,a1,pM a2 M.n67,fun h'=>a3 (mQ h' (by decide))⟩,⟨C.hi,M.lsz.2,Ip b2,fun _=>rfl⟩,below_setRow hB M.nn.2 _⟩
  |4,_,hr=>exact aWj (.assign (.const (.int .i64 0))) (.int .i64 0) (fun o h=>by simp[execOp,h,go_sem]) (RxC.keep (by decide) (by decide) H.g)
  |n+5,h,_=>exact absurd h (by omega)
 ·rintro⟨⟩ l W hall ⟨_,⟨u,_,a2,a3⟩,⟨v,_,b2,b3⟩,hB⟩;obtain rfl:=a3 (hall 2 (by rw[hsz];decide));obtain rfl:=b3 (hall 3 (by rw[hsz];decide));exact hQ W a2 b2 hB
end
theorem aXe(xs:List aF)(a:Option Addr)(c:Nat)(ins:List UInt8)(fr til:Int)(w:World)(hn:xs.length<=1000000)(hcap:xs.length<=c)(hr:fS w a xs)(hok:∀x,x∈xs->x.f.tight):
  Calls prog 42 #[.slice a xs.length c,.string ⟨ins.toArray⟩,.agg #[.int .i64 fr,.int .i64 til]] w fun e w'=>e=.returned (.tuple #[.agg (aPf (FV (aLq (aUc (xs.map aF.f) ins fr til)))),.agg (aPf (FV (aK0 (aUc (xs.map aF.f) ins fr til)))),.int .i64 (aUk (xs.map aF.f) ins fr til)])/\Below w.heap.size w w':=by
 obtain⟨wa,hwa⟩:∃wa,wa=((w.alloc (.cells #[.int .i64 fr,.int .i64 til] 70)).alloc (.cells #[.string ⟨#[]⟩,.string ⟨#[]⟩] 28)).alloc (.cells #[.string ⟨#[]⟩,.string ⟨#[]⟩] 28):=⟨_,rfl⟩
 have HBA:Hid (Below w.heap.size w wa):=by show Below _ _ _;rw[hwa];exact aA (aA (aB _ _) (aB _ _)) (aB _ _)
 have K5:Hid (aP wa w.heap.size #[.int .i64 fr,.int .i64 til] 70):=by
  show aP _ _ _ _;rw[hwa];exact((aP.new0 w _ _).below (aB _ _)).below (aB _ _)
 have K6:Hid (aP wa (w.heap.size+1) Z2 28):=by
  have h:=(aP.new0 (w.alloc (.cells #[.int .i64 fr,.int .i64 til] 70)) Z2 28).below (aB _ (.cells Z2 28));rw[World.size_alloc] at h;show aP _ _ _ _;rw[hwa];exact h
 have K7:Hid (aP wa (w.heap.size+1+1) Z2 28):=by
  have h:=aP.new0 ((w.alloc (.cells #[.int .i64 fr,.int .i64 til] 70)).alloc (.cells Z2 28)) Z2 28;rw[World.size_alloc,World.size_alloc] at h;show aP _ _ _ _;rw[hwa];exact h
 have HPC:=Hd (aVl xs a c fr wa hn hcap (hr.below HBA.out) hok);have HPS:=Hd (aW5 (xs.map aF.f) fr til);have HSE:=Hd (fun W (hb:Below w.heap.size w W)=>aUu xs a c ins W hn (hr.below hb));have HVV:Hid (aPk (xs.map aF.f) 0 [fr,til]=0->∀q,q∈ser ins (xs.map aF.f)->(q.price.n.length<=13/\q.price.d.length<=13)/\0<lU q.price.d):=fun h q hq=>⟨aYa hok (aPx h).1 hq,aVx (aPx h).1 hq⟩
 have HLEN:Hid ((ser ins (xs.map aF.f)).length<=1000000):=by have h1:=aLw ins (xs.map aF.f);rw[List.length_map] at h1;show _<=_;omega
 have HEE:Hid (aUk (xs.map aF.f) ins fr til=if aPk (xs.map aF.f) 0 [fr,til]=0 then(if til<fr then 8 else aU6 (aTx fr til (ser ins (xs.map aF.f)))) else aPk (xs.map aF.f) 0 [fr,til]):=rfl;have HEI:Hid (aUc (xs.map aF.f) ins fr til=if aPk (xs.map aF.f) 0 [fr,til]=0 then(if til<fr then[] else aRm fr til (ser ins (xs.map aF.f))) else[]):=rfl;have HSF:Hid ((prog.info? 28).map (·.size)=some Z2.size):=aPp;have HZ1:Hid (Z2.all (·.oneCell')=true):=aP0 ⟨[],[]⟩;have HNE:Hid (w.heap.size+1+1≠w.heap.size+1/\w.heap.size+1≠w.heap.size+1+1/\w.heap.size<=w.heap.size+1/\w.heap.size<=w.heap.size+1+1):=by show _/\_;omega
 clear hr hcap hok;generalize aUk (xs.map aF.f) ins fr til=ee at *;generalize aUc (xs.map aF.f) ins fr til=ei at *;generalize aPk (xs.map aF.f) 0 [fr,til]=pe at *;generalize aPk (xs.map aF.f) 0 [fr]=p0 at *;generalize ser ins (xs.map aF.f)=L at *;generalize xs.length=n at *;have k0:=(K5.out.cell 0).trans (show _=some (.int .i64 fr) from rfl);go_enter func42,ntmps42;go_wp2_with fail;rw[<-hwa];clear hwa k0;refine HPC.out.mono ?_;rintro e w1 ⟨rfl,hb⟩;have HB1:=Hd (aA HBA.out hb);have K51:=Hd (K5.out.below hb);have K61:=Hd (K6.out.below hb);have K71:=Hd (K7.out.below hb);have k0:=(K51.out.cell 0).trans (show _=some (.int .i64 fr) from rfl);have k1:=(K51.out.cell 1).trans (show _=some (.int .i64 til) from rfl);clear hb HPC HBA K5 K6 K7
 by_cases h0:p0=0
 ·subst h0;go_wp2_with fail;refine(We til w1).mono ?_;rintro e wd ⟨rfl,rfl⟩
  by_cases hd:til < -25567∨84005<til
  ·have hpe:pe=13:=by rw[HPS.out,if_pos (by first|trivial|rfl),if_pos hd]
   rw[if_pos hd];have HE0:Hid (ee=13):=by show _=_;rw[HEE.out];rw[if_neg (by omega),hpe]
   have HI0:Hid (ei=[]):=by show _=_;rw[HEI.out];rw[if_neg (by omega)]
   have HBW:=Hd HB1.out;have K6W:=Hd K61.out;have K7W:=Hd K71.out;clear HEE HEI HVV HSE HPS;go_wp2_with (first|(refine aOw rfl 28 _ _ rfl (w.heap.size+1) rfl #[.string ⟨#[]⟩,.string ⟨#[]⟩] rfl K6W.out HSF.out rfl HZ1.out ?_;intro w8 kx bx Rt _;have HB8:=Hd (HBW.out.trans (bx _ HNE.out.2.2.1));have K68:=Hd kx;have K78:=Hd (Rt _ _ _ HNE.out.1 K7W.out);clear kx bx Rt)|(refine aOw rfl 28 _ _ rfl (w.heap.size+1+1) rfl #[.string ⟨#[]⟩,.string ⟨#[]⟩] rfl K78.out HSF.out rfl HZ1.out ?_;intro w9 kx bx Rt _;have HB9:=Hd (HB8.out.trans (bx _ HNE.out.2.2.2));have K69:=Hd (Rt _ _ _ HNE.out.2.1 K68.out);have K79:=Hd kx;clear kx bx Rt));refine bodyPost_ret (aTw rfl _ _ _ _ _ _ _ _ _ rfl rfl K69.out.2 K79.out.2 underlying28 rfl HSF.out HSF.out) rfl ⟨?_,HB9.out⟩;rw[HI0.out,HE0.out];rfl
  have hpe:pe=0:=by rw[HPS.out,if_pos (by first|trivial|rfl),if_neg hd]
  rw[if_neg hd]
  by_cases hlt:til<fr
  ·have HE0:Hid (ee=8):=by show _=_;rw[HEE.out];rw[if_pos hpe,if_pos hlt]
   have HI0:Hid (ei=[]):=by show _=_;rw[HEI.out];rw[if_pos hpe,if_pos hlt]
   have HBW:=Hd HB1.out;have K6W:=Hd K61.out;have K7W:=Hd K71.out;clear HEE HEI HVV HSE HPS;go_wp2_with (first|(refine aOw rfl 28 _ _ rfl (w.heap.size+1) rfl #[.string ⟨#[]⟩,.string ⟨#[]⟩] rfl K6W.out HSF.out rfl HZ1.out ?_;intro w8 kx bx Rt _;have HB8:=Hd (HBW.out.trans (bx _ HNE.out.2.2.1));have K68:=Hd kx;have K78:=Hd (Rt _ _ _ HNE.out.1 K7W.out);clear kx bx Rt)|(refine aOw rfl 28 _ _ rfl (w.heap.size+1+1) rfl #[.string ⟨#[]⟩,.string ⟨#[]⟩] rfl K78.out HSF.out rfl HZ1.out ?_;intro w9 kx bx Rt _;have HB9:=Hd (HB8.out.trans (bx _ HNE.out.2.2.2));have K69:=Hd (Rt _ _ _ HNE.out.2.1 K68.out);have K79:=Hd kx;clear kx bx Rt));refine bodyPost_ret (aTw rfl _ _ _ _ _ _ _ _ _ rfl rfl K69.out.2 K79.out.2 underlying28 rfl HSF.out HSF.out) rfl ⟨?_,HB9.out⟩;rw[HI0.out,HE0.out];rfl
  have HE0:Hid (ee=aU6 (aTx fr til L)):=by show _=_;rw[HEE.out,if_pos hpe,if_neg hlt]
  have HI0:Hid (ei=aRm fr til L):=by show _=_;rw[HEI.out,if_pos hpe,if_neg hlt]
  have HVL:=Hd (HVV.out hpe);clear HEE HEI HVV HPS hpe hd;go_wp2_with fail;refine(HSE.out _ HB1.out).mono ?_;rintro e w2 ⟨⟨v2,rfl,ho2⟩,hb⟩;have HB2:=Hd (aA HB1.out hb);have K52:=Hd (K51.out.below hb);have K62:=Hd (K61.out.below hb);have K72:=Hd (K71.out.below hb);obtain⟨a2,c2,rfl,hr2⟩:=gK ho2;have HR2:=Hd (aUo hr2);have HN2:=Hd (aA (aB w2 (.cells Z2 28)) (aB (w2.alloc (.cells Z2 28)) (.cells Z2 28)));have KL:Hid (aP ((w2.alloc (.cells Z2 28)).alloc (.cells Z2 28)) w2.heap.size Z2 28):=(aP.new0 w2 Z2 _).below (aB _ _);have KH:Hid (aP ((w2.alloc (.cells Z2 28)).alloc (.cells Z2 28)) (w2.heap.size+1) Z2 28):=by
   have h:=aP.new0 (w2.alloc (.cells Z2 28)) Z2 28;rw[World.size_alloc] at h;exact h
  have HLT:Hid (w.heap.size+1+1<w2.heap.size):=K72.out.1;have hll:=HLEN.out;clear hb ho2 hr2 HSE HB1 K51 K61 K71 k0 k1;go_wp2_with fail;go_loopw [13,14] (fun fv iv wr=>∃k:Nat,k<=L.length/\iv=.int .i64 k/\fv=.bool (aTx fr til (L.take k))/\Hid (aP wr w2.heap.size (aTp fr til (L.take k)) 28)/\Hid (aP wr (w2.heap.size+1) (aRk fr til (L.take k)) 28)/\Hid (Below w2.heap.size w2 wr)) (fun _ iv _=>L.length-(intOf iv).toNat)
  case atStart=>exact⟨0,Nat.zero_le _,rfl,rfl,KL,KH,HN2⟩
  case round =>
   clear KL KH HN2;obtain⟨k,hk,rfl,rfl,HL,HH,HB⟩:=hrel
   by_cases hin:k<L.length
   ·obtain⟨x,hx⟩:∃x,L[k]?=some x:=⟨L[k],Lg hin⟩
    have htk:=aX8 hx;have hmx:x∈L:=List.mem_of_getElem? hx;have HPX:=Hd (HVL.out x hmx);have HTL:=Hd (fun q (h:q∈L.take k)=>HVL.out q (List.mem_of_mem_take h));obtain⟨bb,off,rfl,hbl,hcc⟩:=(HR2.out.below HB.out).addr (k:=k) (cs:=aUp x) (by rw[List.getElem?_map,hx];rfl);have c0:wr.cell? ⟨bb,off+k*3,none⟩=some (.int .i64 x.day):=hcc 0 _ rfl;obtain⟨_,_,ee2,hbl2,hcc2⟩:=HR2.out.addr (k:=k) (cs:=aUp x) (by rw[List.getElem?_map,hx];rfl);injection ee2 with ee2
    injection ee2 with ee3 ee4
    subst ee3 ee4;have HCP:Hid (∀W,Below w2.heap.size w2 W->∀j v,(aPf x.price).toList[j]?=some v->W.cell? ⟨bb,off+k*3+1+j,none⟩=some v):=fun W hb j v hv=>by
     rw[show off+k*3+1+j=off+k*3+(j+1) by omega];exact(hb.cell (p:=⟨bb,off+k*3+(j+1),none⟩) hbl2).trans (hcc2 (j+1) v hv)
    have c50:=((K52.out.below HB.out).cell 0).trans (show _=some (.int .i64 fr) from rfl);have c51:=((K52.out.below HB.out).cell 1).trans (show _=some (.int .i64 til) from rfl);clear hcc hcc2 hx hmx hbl hbl2;obtain⟨pre,hpre⟩:∃pre,pre=L.take k:=⟨_,rfl⟩
    rw[<-hpre] at htk HL HH HTL ⊢;have HTK:=Hd htk;clear htk hpre
    by_cases hd1:x.day<fr
    ·have hi0:inP fr til x=false:=by unfold inP;simp;omega
     have HST:=Hd (aVw pre hi0);obtain⟨xd,hxd⟩:∃xd,xd=x.day:=⟨_,rfl⟩
     rw[<-hxd] at c0 hd1;have hq:decide (xd<fr)=true:=decide_eq_true hd1;clear hxd hi0;generalize aTx fr til pre=ab at *;go_wp2_with fail;go_quiet (fail);go_wp2_with fail;go_roundw
     case rel=>exact⟨k+1,by omega,by go_num,by rw[HTK.out,HST.out.2.2],by rw[HTK.out,HST.out.1];exact HL,by rw[HTK.out,HST.out.2.1];exact HH,aD HB.out _⟩
     case measure=>simp[intOf];omega
    by_cases hd2:til<=x.day
    ·have hi0:inP fr til x=false:=by unfold inP;simp;omega
     have HST:=Hd (aVw pre hi0);obtain⟨xd,hxd⟩:∃xd,xd=x.day:=⟨_,rfl⟩
     rw[<-hxd] at c0 hd1 hd2;have hq:decide (xd<fr)=false:=decide_eq_false hd1;have hq2:decide (til<=xd)=true:=decide_eq_true hd2;clear hxd hi0;generalize aTx fr til pre=ab at *;go_wp2_with fail;go_quiet (fail);go_wp2_with fail;go_roundw
     case rel=>exact⟨k+1,by omega,by go_num,by rw[HTK.out,HST.out.2.2],by rw[HTK.out,HST.out.1];exact HL,by rw[HTK.out,HST.out.2.1];exact HH,aD HB.out _⟩
     case measure=>simp[intOf];omega
    have hi1:inP fr til x=true:=by unfold inP;simp;omega
    have HANY:=Hd (aVn pre hi1)
    by_cases hf:aRm fr til pre=[]
    ·have HST:=Hd (aUy pre hi1 hf);obtain⟨xd,hxd⟩:∃xd,xd=x.day:=⟨_,rfl⟩
     rw[<-hxd] at c0 hd1 hd2;have hq:decide (xd<fr)=false:=decide_eq_false hd1;have hq2:decide (til<=xd)=false:=decide_eq_false hd2;have HLZ:Hid (aP wr w2.heap.size Z2 28):=by show aP _ _ _ _;rw[<-HST.out.2.2.1];exact HL.out
     have HHZ:Hid (aP wr (w2.heap.size+1) Z2 28):=by show aP _ _ _ _;rw[<-HST.out.2.2.2.1];exact HH.out
     have HXA:Hid ((aPf x.price).size=2/\(aPf x.price).all (·.oneCell')=true/\Z2.size=(aPf x.price).size):=⟨rfl,aP0 _,rfl⟩
     have HXF:Hid ((prog.info? 28).map (·.size)=some (aPf x.price).size):=aPp;rw[HST.out.2.2.2.2];clear hxd hi1 hf HL HH HTL HPX;generalize hpa:aPf x.price=pa at *;have HPA:=Hd hpa;clear hpa;go_wp2_with fail;go_quiet (fail);go_wp2_with fail;go_quiet (fail);go_wp2_with (first|(refine aM rfl 28 _ rfl bb (off+k*3+1) rfl pa _ (HCP.out _ (aD HB.out _)) underlying28 rfl HXF.out ?_)|(refine aOw rfl 28 _ _ rfl w2.heap.size rfl pa rfl HLZ.out HXF.out HXA.out.2.2 HXA.out.2.1 ?_;intro w5 kx bx Rt _;have HB5:=Hd ((aD HB.out _).trans (bx _ (Nl _)));have HL5:=Hd kx;have HH5:=Hd (Rt (w2.heap.size+1) _ _ (by omega) ⟨HHZ.out.1,HHZ.out.2⟩);clear kx bx Rt));simp only[pS];go_quiet (fail);go_wp2_with (first|(refine aM rfl 28 _ rfl bb (off+k*3+1) rfl pa _ (HCP.out _ (aD HB5.out _)) underlying28 rfl HXF.out ?_)|(refine aOw rfl 28 _ _ rfl (w2.heap.size+1) rfl pa rfl HH5.out HXF.out HXA.out.2.2 HXA.out.2.1 ?_;intro w6 kx bx Rt _;have HB6:=Hd ((aD HB5.out _).trans (bx _ (by omega)));have HH6:=Hd kx;have HL6:=Hd (Rt w2.heap.size _ _ (by omega) ⟨HL5.out.1,HL5.out.2⟩);clear kx bx Rt));go_roundw
     case rel=>exact⟨k+1,by omega,by go_num,by rw[HTK.out,HANY.out],by rw[HTK.out,HST.out.1];exact HL6,by rw[HTK.out,HST.out.2.1];exact HH6,HB6⟩
     case measure=>simp[intOf];omega
    ·obtain⟨lo,hi,m1,m2,e1,e2,e3,e4,e5⟩:=aU7 pre hi1 hf;obtain⟨ql,hl1,_,hl2⟩:=aUi m1;obtain⟨qh,hh1,_,hh2⟩:=aUi m2;have HLO:=HTL.out ql hl1;have HHI:=HTL.out qh hh1;rw[<-hl2] at HLO;rw[<-hh2] at HHI;have HCL:Hid (∀W,Calls prog 75 #[.agg (aPf x.price),.agg (aPf lo)] W fun e w'=>e=.returned (.int .i64 (nE x.price.n x.price.d lo.n lo.d))/\Below W.heap.size W w'):=fun W=>rX x.price.n x.price.d lo.n lo.d W (by have:=HPX.out;omega) (by have:=HPX.out;omega) (by omega) (by omega)
     have HCH:Hid (∀W,Calls prog 75 #[.agg (aPf x.price),.agg (aPf hi)] W fun e w'=>e=.returned (.int .i64 (nE x.price.n x.price.d hi.n hi.d))/\Below W.heap.size W w'):=fun W=>rX x.price.n x.price.d hi.n hi.d W (by have:=HPX.out;omega) (by have:=HPX.out;omega) (by omega) (by omega)
     have hvl:=(aYw HPX.out.2 HLO.2).1;have hvh:=(aYw HPX.out.2 HHI.2).2;have HLZ:Hid (aP wr w2.heap.size (aPf lo) 28):=by show aP _ _ _ _;rw[<-e1];exact HL.out
     have HHZ:Hid (aP wr (w2.heap.size+1) (aPf hi) 28):=by show aP _ _ _ _;rw[<-e2];exact HH.out
     have HE4:Hid (aTp fr til (pre ++ [x])=if nE x.price.n x.price.d lo.n lo.d<0 then aPf x.price else aPf lo):=by show _=_;rw[e4];simp only[hvl]
     have HE5:Hid (aRk fr til (pre ++ [x])=if 0<nE x.price.n x.price.d hi.n hi.d then aPf x.price else aPf hi):=by show _=_;rw[e5];simp only[hvh]
     rw[e3];obtain⟨xd,hxd⟩:∃xd,xd=x.day:=⟨_,rfl⟩
     rw[<-hxd] at c0 hd1 hd2;have hq:decide (xd<fr)=false:=decide_eq_false hd1;have hq2:decide (til<=xd)=false:=decide_eq_false hd2;have HXA:Hid ((aPf x.price).size=2/\(aPf x.price).all (·.oneCell')=true/\(aPf lo).size=(aPf x.price).size/\(aPf hi).size=(aPf x.price).size):=⟨rfl,aP0 _,rfl,rfl⟩
     have HXF:Hid ((prog.info? 28).map (·.size)=some (aPf x.price).size):=aPp;have HXL:Hid ((prog.info? 28).map (·.size)=some (aPf lo).size):=aPp;have HXH:Hid ((prog.info? 28).map (·.size)=some (aPf hi).size):=aPp;clear hxd hi1 hf HL HH HTL HPX e1 e2 e3 e4 e5 hvl hvh m1 m2 hl1 hl2 hh1 hh2 HLO HHI;generalize hpa:aPf x.price=pa at *;have HPA:=Hd hpa;clear hpa;generalize aPf lo=la at *;generalize aPf hi=ha at *;generalize nE x.price.n x.price.d lo.n lo.d=zl at *;generalize nE x.price.n x.price.d hi.n hi.d=zh at *;go_wp2_with fail;go_quiet (fail);go_wp2_with fail;refine aYc (C:=⟨_,w2.heap.size,bb,off,L.length,c2,k,pa,la,zl⟩) ?M rfl rfl rfl ?_
     case M=>exact⟨rfl,rfl,rfl,rfl,rfl,⟨HLZ.out.1,HLZ.out.2⟩,hin,fun W hb=>HCP.out W (aA (aD (aD HB.out _) _) hb),HXF.out,HXL.out,HCL.out⟩
     intro W5 hb5;have HB5:=Hd (aA (aD (aD HB.out _) _) hb5);have HL5:=Hd (aP.below (w:=wr) HLZ.out ((aD (aD (Br _ _) _) _).trans hb5));have HH5:=Hd (aP.below (w:=wr) HHZ.out ((aD (aD (Br _ _) _) _).trans hb5));clear hb5 HLZ HHZ HB HCL;simp only[iZ,aY3,List.foldl,List.setIfInBounds_toArray,List.set_cons_zero,List.set_cons_succ,RlC.val]
     by_cases hz1:zl<0
     ·have dz1:decide (zl<0)=true:=decide_eq_true hz1;have HE6:Hid (aTp fr til (pre ++ [x])=pa):=by show _=_;rw[HE4.out,if_pos hz1]
      go_wp2_with (first|(refine aM rfl 28 _ rfl bb (off+k*3+1) rfl pa _ (HCP.out _ HB5.out) underlying28 rfl HXF.out ?_)|(refine aOw rfl 28 _ _ rfl w2.heap.size rfl pa rfl HL5.out HXF.out HXA.out.2.2.1 HXA.out.2.1 ?_;intro w6 kx bx Rt _;have HB6:=Hd (HB5.out.trans (bx _ (Nl _)));have HL6:=Hd kx;have HH6:=Hd (Rt (w2.heap.size+1) _ _ (by omega) HH5.out);clear kx bx Rt));simp only[pS];refine aXg (C:=⟨_,w2.heap.size+1,bb,off,L.length,c2,k,pa,ha,zh⟩) ?M2 rfl rfl rfl ?_
      case M2=>exact⟨rfl,rfl,rfl,rfl,rfl,⟨HH6.out.1,HH6.out.2⟩,hin,fun W hb=>HCP.out W (aA (aD HB6.out _) hb),HXF.out,HXH.out,HCH.out⟩
      intro W7 hb7;have HB7:=Hd (aA (aD HB6.out 1) hb7);have HL7:=Hd (HL6.out.below ((aD (Br _ _) 1).trans hb7));have HH7:=Hd (HH6.out.below ((aD (Br _ _) 1).trans hb7));clear hb7 HB6 HL6 HH6;simp only[iZ,aYs,List.foldl,List.setIfInBounds_toArray,List.set_cons_zero,List.set_cons_succ,RhC.val]
      by_cases hz2:0<zh
      ·have dz2:decide (0<zh)=true:=decide_eq_true hz2;have HE7:Hid (aRk fr til (pre ++ [x])=pa):=by show _=_;rw[HE5.out,if_pos hz2]
       go_wp2_with (first|(refine aM rfl 28 _ rfl bb (off+k*3+1) rfl pa _ (HCP.out _ HB7.out) underlying28 rfl HXF.out ?_)|(refine aOw rfl 28 _ _ rfl (w2.heap.size+1) rfl pa rfl HH7.out HXF.out HXA.out.2.2.2 HXA.out.2.1 ?_;intro w8 kx bx Rt _;have HB8:=Hd (HB7.out.trans (bx _ (by omega)));have HH8:=Hd kx;have HL8:=Hd (Rt w2.heap.size _ _ (by omega) HL7.out);clear kx bx Rt));go_roundw
       case rel=>exact⟨k+1,by omega,by go_num,by rw[HTK.out,HANY.out],by rw[HTK.out,HE6.out];exact HL8,by rw[HTK.out,HE7.out];exact HH8,HB8⟩
       case measure=>simp[intOf];omega
      ·have dz2:decide (0<zh)=false:=decide_eq_false hz2;have HE7:Hid (aRk fr til (pre ++ [x])=ha):=by show _=_;rw[HE5.out,if_neg hz2]
       go_wp2_with fail;go_roundw
       case rel=>exact⟨k+1,by omega,by go_num,by rw[HTK.out,HANY.out],by rw[HTK.out,HE6.out];exact HL7,by rw[HTK.out,HE7.out];exact HH7,HB7⟩
       case measure=>simp[intOf];omega
     ·have dz1:decide (zl<0)=false:=decide_eq_false hz1;have HE6:Hid (aTp fr til (pre ++ [x])=la):=by show _=_;rw[HE4.out,if_neg hz1]
      have HB6:=HB5;have HL6:=HL5;have HH6:=HH5;clear HB5 HL5 HH5;go_wp2_with fail;refine aXg (C:=⟨_,w2.heap.size+1,bb,off,L.length,c2,k,pa,ha,zh⟩) ?M2 rfl rfl rfl ?_
      case M2=>exact⟨rfl,rfl,rfl,rfl,rfl,⟨HH6.out.1,HH6.out.2⟩,hin,fun W hb=>HCP.out W (aA (aD HB6.out _) hb),HXF.out,HXH.out,HCH.out⟩
      intro W7 hb7;have HB7:=Hd (aA (aD HB6.out 1) hb7);have HL7:=Hd (HL6.out.below ((aD (Br _ _) 1).trans hb7));have HH7:=Hd (HH6.out.below ((aD (Br _ _) 1).trans hb7));clear hb7 HB6 HL6 HH6;simp only[iZ,aYs,List.foldl,List.setIfInBounds_toArray,List.set_cons_zero,List.set_cons_succ,RhC.val]
      by_cases hz2:0<zh
      ·have dz2:decide (0<zh)=true:=decide_eq_true hz2;have HE7:Hid (aRk fr til (pre ++ [x])=pa):=by show _=_;rw[HE5.out,if_pos hz2]
       go_wp2_with (first|(refine aM rfl 28 _ rfl bb (off+k*3+1) rfl pa _ (HCP.out _ HB7.out) underlying28 rfl HXF.out ?_)|(refine aOw rfl 28 _ _ rfl (w2.heap.size+1) rfl pa rfl HH7.out HXF.out HXA.out.2.2.2 HXA.out.2.1 ?_;intro w8 kx bx Rt _;have HB8:=Hd (HB7.out.trans (bx _ (by omega)));have HH8:=Hd kx;have HL8:=Hd (Rt w2.heap.size _ _ (by omega) HL7.out);clear kx bx Rt));go_roundw
       case rel=>exact⟨k+1,by omega,by go_num,by rw[HTK.out,HANY.out],by rw[HTK.out,HE6.out];exact HL8,by rw[HTK.out,HE7.out];exact HH8,HB8⟩
       case measure=>simp[intOf];omega
      ·have dz2:decide (0<zh)=false:=decide_eq_false hz2;have HE7:Hid (aRk fr til (pre ++ [x])=ha):=by show _=_;rw[HE5.out,if_neg hz2]
       go_wp2_with fail;go_roundw
       case rel=>exact⟨k+1,by omega,by go_num,by rw[HTK.out,HANY.out],by rw[HTK.out,HE6.out];exact HL7,by rw[HTK.out,HE7.out];exact HH7,HB7⟩
       case measure=>simp[intOf];omega
   ·obtain rfl:k=L.length:=by omega
    rw[List.take_length] at HL HH ⊢;have HAB:Hid (aTx fr til L = !(aRm fr til L).isEmpty):=rfl;have HBr:=Hd (HB2.out.trans (HB.out.mono (by have:=HLT.out;omega)));have K6r:=Hd (K62.out.below HB.out);have K7r:=Hd (K72.out.below HB.out);cases hab:aTx fr til L with
    |false =>
     have hnil:aRm fr til L=[]:=by rw[HAB.out] at hab;cases h:aRm fr til L;rfl;rw[h] at hab;cases hab
     rw[hab] at HE0;rw[hnil] at HI0;have HBW:=HBr;have K6W:=K6r;have K7W:=K7r;clear hab hnil HAB HBr K6r K7r HB HL HH;go_wp2_with (first|(refine aOw rfl 28 _ _ rfl (w.heap.size+1) rfl #[.string ⟨#[]⟩,.string ⟨#[]⟩] rfl K6W.out HSF.out rfl HZ1.out ?_;intro w8 kx bx Rt _;have HB8:=Hd (HBW.out.trans (bx _ HNE.out.2.2.1));have K68:=Hd kx;have K78:=Hd (Rt _ _ _ HNE.out.1 K7W.out);clear kx bx Rt)|(refine aOw rfl 28 _ _ rfl (w.heap.size+1+1) rfl #[.string ⟨#[]⟩,.string ⟨#[]⟩] rfl K78.out HSF.out rfl HZ1.out ?_;intro w9 kx bx Rt _;have HB9:=Hd (HB8.out.trans (bx _ HNE.out.2.2.2));have K69:=Hd (Rt _ _ _ HNE.out.2.1 K68.out);have K79:=Hd kx;clear kx bx Rt));refine bodyPost_ret (aTw rfl _ _ _ _ _ _ _ _ _ rfl rfl K69.out.2 K79.out.2 underlying28 rfl HSF.out HSF.out) rfl ⟨?_,HB9.out⟩;rw[HI0.out,HE0.out];rfl
    |true =>
     rw[hab] at HE0;have HSL:Hid ((prog.info? 28).map (·.size)=some (aTp fr til L).size):=aPp;have HSH:Hid ((prog.info? 28).map (·.size)=some (aRk fr til L).size):=aPp;have HRV:Hid (aTp fr til L=aPf (FV (aLq ei))/\aRk fr til L=aPf (FV (aK0 ei))):=by show _/\_;rw[HI0.out];exact⟨rfl,rfl⟩
     have HSI:Hid (((aTp fr til L).size=2/\(aRk fr til L).size=2)/\(aTp fr til L).all (·.oneCell')=true/\(aRk fr til L).all (·.oneCell')=true):=⟨⟨rfl,rfl⟩,aP0 _,aP0 _⟩
     clear hab HAB;generalize aTp fr til L=la at *;generalize aRk fr til L=ha at *;go_wp2_with fail;refine aYb (C:=⟨w,w.heap.size,w.heap.size+1,w.heap.size+1+1,w2.heap.size,w2.heap.size+1,la,ha⟩) ?M rfl rfl ?hw ?_
     case M=>exact⟨rfl,rfl,rfl,rfl,rfl,by show w.heap.size+1≠w.heap.size+1+1;omega,by have:=HLT.out;show w2.heap.size≠w.heap.size+1/\w2.heap.size+1≠w.heap.size+1/\w2.heap.size≠w.heap.size+1+1/\w2.heap.size+1≠w.heap.size+1+1;omega,⟨HNE.out.2.2.1,HNE.out.2.2.2⟩,HSI.out.1,HSI.out.2⟩
     case hw=>exact fun l hl=>⟨⟨⟨HL.out.1,HL.out.2⟩,⟨HH.out.1,HH.out.2⟩⟩,⟨Z2,rfl,⟨K6r.out.1,K6r.out.2⟩,fun h=>absurd h (hl 2)⟩,⟨Z2,rfl,⟨K7r.out.1,K7r.out.2⟩,fun h=>absurd h (hl 3)⟩,aD HBr.out 1⟩
     intro W9 k6 k7 hb9;have HB9:=Hd hb9;have K69:=Hd k6;have K79:=Hd k7;clear k6 k7 hb9;simp only[iZ,aY2,List.foldl,List.setIfInBounds_toArray,List.set_cons_zero,List.set_cons_succ,RxC.val];go_wp2;refine bodyPost_ret (aTw rfl _ _ _ _ _ _ _ _ _ rfl rfl K69.out.2 K79.out.2 underlying28 rfl HSL.out HSH.out) rfl ⟨?_,HB9.out⟩;rw[HE0.out,<-HRV.out.1,<-HRV.out.2];rfl
 ·have h0':(p0==0)=false:=by simpa using h0
  have HE0:Hid (ee=p0):=by show _=_;rw[HEE.out];rw[if_neg (by rw[HPS.out,if_neg h0];exact h0),HPS.out,if_neg h0]
  have HI0:Hid (ei=[]):=by show _=_;rw[HEI.out];rw[if_neg (by rw[HPS.out,if_neg h0];exact h0)]
  have HBW:=Hd HB1.out;have K6W:=Hd K61.out;have K7W:=Hd K71.out;clear HEE HEI HVV HSE HPS;go_wp2_with (first|(refine aOw rfl 28 _ _ rfl (w.heap.size+1) rfl #[.string ⟨#[]⟩,.string ⟨#[]⟩] rfl K6W.out HSF.out rfl HZ1.out ?_;intro w8 kx bx Rt _;have HB8:=Hd (HBW.out.trans (bx _ HNE.out.2.2.1));have K68:=Hd kx;have K78:=Hd (Rt _ _ _ HNE.out.1 K7W.out);clear kx bx Rt)|(refine aOw rfl 28 _ _ rfl (w.heap.size+1+1) rfl #[.string ⟨#[]⟩,.string ⟨#[]⟩] rfl K78.out HSF.out rfl HZ1.out ?_;intro w9 kx bx Rt _;have HB9:=Hd (HB8.out.trans (bx _ HNE.out.2.2.2));have K69:=Hd (Rt _ _ _ HNE.out.2.1 K68.out);have K79:=Hd kx;clear kx bx Rt));refine bodyPost_ret (aTw rfl _ _ _ _ _ _ _ _ _ rfl rfl K69.out.2 K79.out.2 underlying28 rfl HSF.out HSF.out) rfl ⟨?_,HB9.out⟩;rw[HI0.out,HE0.out];rfl
end
section
open Go Go.RowKit Num
theorem aUr(xs:List aF)(a:Option Addr)(c:Nat)(ins:List UInt8)(fr til:Int)(w:World)(hE:iE w)(hv:gT w a c xs):
  Calls prog 41 #[.slice a xs.length c,.string ⟨ins.toArray⟩,.agg #[.int .i64 fr,.int .i64 til]] w fun e w'=>e=.returned (.tuple #[.agg (aPf (FV (aLq (aUc (xs.map aF.f) ins fr til)))),.agg (aPf (FV (aK0 (aUc (xs.map aF.f) ins fr til)))),.int .i64 (aUk (xs.map aF.f) ins fr til)])/\Below w.heap.size w w':=by
 by_cases he:aPk (xs.map aF.f) 0 [fr,til]=0
 ·by_cases hlt:til<fr
  ·have h:=aVu xs a c ins fr til w hE hv (fun _=>hlt);unfold aUc aUk;rw[if_pos he,if_pos he,if_pos hlt,if_pos hlt];rw[if_pos he] at h;exact h
  ·have h:=aV0 xs a c ins fr til w hE hv he hlt;unfold aUc aUk;rw[if_pos he,if_pos he,if_neg hlt,if_neg hlt];exact h
 ·have h:=aVu xs a c ins fr til w hE hv (fun h=>absurd h he);unfold aUc aUk;rw[if_neg he,if_neg he];rw[if_neg he] at h;exact h
end
section
open Go Go.RowKit Num
theorem aYe(fs:List aE)(d stale:Int)(l:List (List UInt8)):(aRj fs d stale l).length<=l.length:=by
 unfold aRj aPq;split
 ·exact List.length_filter_le _ _
 ·simp
theorem aWq(xs:List aF)(ins:List UInt8)(fr til:Int)(l:List (List UInt8))(stale:Int)(a al:Option Addr)(c cl:Nat)(w:World)(hE:iE w)(hn:xs.length<=9223372036854775807)(hcap:xs.length<=c)(hr:fS w a xs)(hf:∀x,x∈xs->x.fits)(_hln:l.length<=9223372036854775807)(_hcl:l.length<=cl)(hl:dT w al (iS l)):
  Calls prog 8 #[.slice a xs.length c,.string ⟨ins.toArray⟩,.int .i64 fr,.int .i64 til,.slice al l.length cl,.int .i64 stale] w fun e w'=>e=.returned (.bool true)/\Below w.heap.size w w':=by
 have HG:=Hd (aQw xs a c w hn hr hf);have HAW:Hid (∀W,Below w.heap.size w W->Calls prog 12 #[] W fun e w'=>e=.returned (.bool true)/\Below W.heap.size W w'):=fun W hb=>aQe W (hE.below hb)
 have HE:=Hd hE;have HR:=Hd hr;have HF:=Hd hf;have HC:=Hd hcap;have HRL:=Hd hl;clear hE hr hf hcap hl;go_enter func8,ntmps8;go_wp2_with fail;refine HG.out.mono ?_;rintro e w1 ⟨⟨g,rfl,hg⟩,hb⟩;have HB1:=Hd hb;have HGG:=Hd hg;clear hb hg HG;cases g with
 |true =>
  go_wp2_with fail;refine(HAW.out _ HB1.out).mono ?_;rintro e wz ⟨rfl,hb⟩;go_wp2;go_ret;exact⟨rfl,aA HB1.out hb⟩
 |false =>
  have HFI:=Hd (HGG.out rfl);clear HGG
  by_cases h1:(8:Int)<(l.length:Int)
  ·go_wp2_with fail;refine(HAW.out _ HB1.out).mono ?_;rintro e wz ⟨rfl,hb⟩;go_wp2;go_ret;exact⟨rfl,aA HB1.out hb⟩
  have hl3:xs.length<=1003:=by rcases HFI.out.2 with h|h <;> omega
  have hV:gT w a c xs:=⟨HR.out,fun y hy=>⟨(HFI.out.1 y hy).small,(HF.out y hy).picks⟩,by omega⟩
  obtain⟨fs,hfs⟩:∃fs,fs=xs.map aF.f:=⟨_,rfl⟩
  have HC1:Hid (∀W,Below w.heap.size w W->Calls prog 13 #[.slice a xs.length c,.string ⟨ins.toArray⟩,.int .i64 fr,.int .i64 til] W fun e w'=>e=.returned (.tuple #[.agg (aPf (FV (aPo fs ins fr til))),.int .i64 (aPn fs ins fr til)])/\Below W.heap.size W w'):=fun W hb=>by rw[hfs];exact aRb xs a c ins fr til W (HE.out.below hb) (hV.below hb)
  have HC2:Hid (∀W,Below w.heap.size w W->Calls prog 39 #[.slice a xs.length c,.string ⟨ins.toArray⟩,.int .i64 fr,.int .i64 til] W fun e w'=>e=.returned (.tuple #[.agg (aPf (FV (aPo fs ins fr til))),.int .i64 (aPn fs ins fr til)])/\Below W.heap.size W w'):=fun W hb=>by rw[hfs];exact aXw xs a c ins fr til W (by omega) HC.out (HR.out.below hb) HFI.out.1
  have HM1:Hid (∀W,Below w.heap.size w W->Calls prog 37 #[.slice a xs.length c,.slice al l.length cl,.int .i64 fr,.int .i64 stale] W fun e w'=>(∃v,e=.returned (.tuple #[v,.int .i64 (aPk fs stale [fr])])/\w'.ownsRow W.heap.size 9 1 v (aRj fs fr stale l).length (iS (aRj fs fr stale l)))/\Below W.heap.size W w'):=fun W hb=>by rw[hfs];exact aR5 xs a c l al cl fr stale W (HE.out.below hb) (hV.below hb) (by omega) (HRL.out.below hb)
  have HM2:Hid (∀W,Below w.heap.size w W->Calls prog 40 #[.slice a xs.length c,.slice al l.length cl,.int .i64 fr,.int .i64 stale] W fun e w'=>(∃v,e=.returned (.tuple #[v,.int .i64 (aPk fs stale [fr])])/\w'.ownsRow W.heap.size 9 1 v (aRj fs fr stale l).length (iS (aRj fs fr stale l)))/\Below W.heap.size W w'):=fun W hb=>by rw[hfs];exact aXm xs a c l al cl fr stale W (by omega) HC.out (HR.out.below hb) HFI.out.1 (by omega) (HRL.out.below hb)
  have HX1:Hid (∀W,Below w.heap.size w W->Calls prog 41 #[.slice a xs.length c,.string ⟨ins.toArray⟩,.agg #[.int .i64 fr,.int .i64 til]] W fun e w'=>e=.returned (.tuple #[.agg (aPf (FV (aLq (aUc fs ins fr til)))),.agg (aPf (FV (aK0 (aUc fs ins fr til)))),.int .i64 (aUk fs ins fr til)])/\Below W.heap.size W w'):=fun W hb=>by rw[hfs];exact aUr xs a c ins fr til W (HE.out.below hb) (hV.below hb)
  have HX2:Hid (∀W,Below w.heap.size w W->Calls prog 42 #[.slice a xs.length c,.string ⟨ins.toArray⟩,.agg #[.int .i64 fr,.int .i64 til]] W fun e w'=>e=.returned (.tuple #[.agg (aPf (FV (aLq (aUc fs ins fr til)))),.agg (aPf (FV (aK0 (aUc fs ins fr til)))),.int .i64 (aUk fs ins fr til)])/\Below W.heap.size W w'):=fun W hb=>by rw[hfs];exact aXe xs a c ins fr til W (by omega) HC.out (HR.out.below hb) HFI.out.1
  have HLEN:Hid ((aRj fs fr stale l).length<=1000000):=by have h:=aYe fs fr stale l;show _<=_;omega
  have HFC:Hid (∀f,(aPf f)[0]?=some (.string ⟨f.n.toArray⟩)/\(aPf f)[1]?=some (.string ⟨f.d.toArray⟩)):=fun _=>⟨rfl,rfl⟩
  have HSF:Hid (∀f,(prog.info? 28).map (·.size)=some (aPf f).size):=fun _=>aPp
  have HONF:Hid (∀f,(aPf f).all (·.oneCell')=true):=aP0;have HSZ:Hid (∀f,Z2.size=(aPf f).size):=fun _=>rfl
  clear HE HR HF HC HFI hV hfs hl3 HRL;generalize aPo fs ins fr til=o at *;generalize aPn fs ins fr til=oe at *;generalize aLq (aUc fs ins fr til)=lo at *;generalize aK0 (aUc fs ins fr til)=hi at *;generalize aUk fs ins fr til=xe at *;generalize aPk fs stale [fr]=pe at *;generalize aRj fs fr stale l=M at *;generalize xs.length=n at *;go_wp2_with fail;refine(HC1.out _ HB1.out).mono ?_;rintro e w2 ⟨rfl,hb⟩;have HB2:=Hd (aA HB1.out hb);have HN2:=Hd (aB w2 (.cells Z2 28));have KN2:=Hd (aP.new0 w2 Z2 28);clear hb HB1 HC1;go_wp2_with (refine aOw rfl 28 _ _ rfl w2.heap.size rfl (aPf (FV o)) rfl KN2.out (HSF.out _) (HSZ.out _) (HONF.out _) ?_;intro w3 kx bx _ _;have hb8:=HN2.out.trans (bx _ (Nl _));have HB3:=Hd (aA HB2.out hb8);have Ka_3:=Hd kx;clear kx bx hb8);clear HN2 KN2 HB2;refine(HC2.out _ HB3.out).mono ?_;rintro e w4 ⟨rfl,hb⟩;have HB4:=Hd (aA HB3.out hb);have Ka_4:=Hd (Ka_3.out.below hb);have HN4:=Hd (aB w4 (.cells Z2 28));have KN4:=Hd (aP.new0 w4 Z2 28);clear hb HB3 HC2 Ka_3;go_wp2_with (refine aOw rfl 28 _ _ rfl w4.heap.size rfl (aPf (FV o)) rfl KN4.out (HSF.out _) (HSZ.out _) (HONF.out _) ?_;intro w5 kx bx _ _;have hb8:=HN4.out.trans (bx _ (Nl _));have HB5:=Hd (aA HB4.out hb8);have Ka_5:=Hd (Ka_4.out.below hb8);have Kb_5:=Hd kx;clear kx bx hb8);clear HN4 KN4 HB4 Ka_4;refine(HM1.out _ HB5.out).mono ?_;rintro e w6 ⟨⟨v6,rfl,ho⟩,hb⟩;have HB6:=Hd (aA HB5.out hb);have Ka_6:=Hd (Ka_5.out.below hb);have Kb_6:=Hd (Kb_5.out.below hb);obtain⟨a6,c6,rfl,hr6⟩:=gK ho;have HR6_6:=Hd hr6;clear hb ho hr6 HB5 HM1 Ka_5 Kb_5;go_wp2_with fail;refine(HM2.out _ HB6.out).mono ?_;rintro e w7 ⟨⟨v7,rfl,ho⟩,hb⟩;have HB7:=Hd (aA HB6.out hb);have Ka_7:=Hd (Ka_6.out.below hb);have Kb_7:=Hd (Kb_6.out.below hb);have HR6_7:=Hd (HR6_6.out.below hb);obtain⟨a7,c7,rfl,hr7⟩:=gK ho;have HR7_7:=Hd hr7;clear hb ho hr7 HB6 HM2 Ka_6 Kb_6 HR6_6;go_wp2_with fail;refine(HX1.out _ HB7.out).mono ?_;rintro e w8 ⟨rfl,hb⟩;have HB8:=Hd (aA HB7.out hb);have Ka_8:=Hd (Ka_7.out.below hb);have Kb_8:=Hd (Kb_7.out.below hb);have HR6_8:=Hd (HR6_7.out.below hb);have HR7_8:=Hd (HR7_7.out.below hb);have HN8:=Hd (aA (aB w8 (.cells Z2 28)) (aB (w8.alloc (.cells Z2 28)) (.cells Z2 28)));have KN8:Hid (aP ((w8.alloc (.cells Z2 28)).alloc (.cells Z2 28)) w8.heap.size Z2 28):=(aP.new0 w8 Z2 _).below (aB _ _);have KM8:Hid (aP ((w8.alloc (.cells Z2 28)).alloc (.cells Z2 28)) (w8.heap.size+1) Z2 28):=by
   have h:=aP.new0 (w8.alloc (.cells Z2 28)) Z2 28;rw[World.size_alloc] at h;exact h
  clear hb HB7 HX1 Ka_7 Kb_7 HR6_7 HR7_7;go_wp2_with (first|(refine aOw rfl 28 _ _ rfl w8.heap.size rfl (aPf (FV lo)) rfl KN8.out (HSF.out _) (HSZ.out _) (HONF.out _) ?_;intro w9 kx bx Rt _;have hb8:=HN8.out.trans (bx _ (Nl _));have HH9:=Hd hb8;have Kc_9:=Hd kx;have KM9:=Hd (Rt (w8.heap.size+1) _ _ (by omega) KM8.out);clear kx bx Rt hb8)|(refine aOw rfl 28 _ _ rfl (w8.heap.size+1) rfl (aPf (FV hi)) rfl KM9.out (HSF.out _) (HSZ.out _) (HONF.out _) ?_;intro w10 kx bx Rt _;have hb8:=HH9.out.trans (bx _ (by omega));have HB10:=Hd (aA HB8.out hb8);have Ka_10:=Hd (Ka_8.out.below hb8);have Kb_10:=Hd (Kb_8.out.below hb8);have HR6_10:=Hd (HR6_8.out.below hb8);have HR7_10:=Hd (HR7_8.out.below hb8);have Kc_10:=Hd (Rt w8.heap.size _ _ (by omega) Kc_9.out);have Kd_10:=Hd kx;clear kx bx Rt hb8));clear HN8 KN8 KM8 KM9 HH9 Kc_9 HB8 Ka_8 Kb_8 HR6_8 HR7_8;refine(HX2.out _ HB10.out).mono ?_;rintro e w11 ⟨rfl,hb⟩;have HB11:=Hd (aA HB10.out hb);have Ka_11:=Hd (Ka_10.out.below hb);have Kb_11:=Hd (Kb_10.out.below hb);have Kc_11:=Hd (Kc_10.out.below hb);have Kd_11:=Hd (Kd_10.out.below hb);have HR6_11:=Hd (HR6_10.out.below hb);have HR7_11:=Hd (HR7_10.out.below hb);have HN11:=Hd (aA (aB w11 (.cells Z2 28)) (aB (w11.alloc (.cells Z2 28)) (.cells Z2 28)));have KN11:Hid (aP ((w11.alloc (.cells Z2 28)).alloc (.cells Z2 28)) w11.heap.size Z2 28):=(aP.new0 w11 Z2 _).below (aB _ _);have KM11:Hid (aP ((w11.alloc (.cells Z2 28)).alloc (.cells Z2 28)) (w11.heap.size+1) Z2 28):=by
   have h:=aP.new0 (w11.alloc (.cells Z2 28)) Z2 28;rw[World.size_alloc] at h;exact h
  clear hb HB10 HX2 Ka_10 Kb_10 Kc_10 Kd_10 HR6_10 HR7_10;go_wp2_with (first|(refine aOw rfl 28 _ _ rfl w11.heap.size rfl (aPf (FV lo)) rfl KN11.out (HSF.out _) (HSZ.out _) (HONF.out _) ?_;intro w12 kx bx Rt _;have hb8:=HN11.out.trans (bx _ (Nl _));have HH12:=Hd hb8;have Ke_12:=Hd kx;have KM12:=Hd (Rt (w11.heap.size+1) _ _ (by omega) KM11.out);clear kx bx Rt hb8)|(refine aOw rfl 28 _ _ rfl (w11.heap.size+1) rfl (aPf (FV hi)) rfl KM12.out (HSF.out _) (HSZ.out _) (HONF.out _) ?_;intro w13 kx bx Rt _;have hb8:=HH12.out.trans (bx _ (by omega));have HB13:=Hd (aA HB11.out hb8);have Ka_13:=Hd (Ka_11.out.below hb8);have Kb_13:=Hd (Kb_11.out.below hb8);have Kc_13:=Hd (Kc_11.out.below hb8);have Kd_13:=Hd (Kd_11.out.below hb8);have HR6_13:=Hd (HR6_11.out.below hb8);have HR7_13:=Hd (HR7_11.out.below hb8);have Ke_13:=Hd (Rt w11.heap.size _ _ (by omega) Ke_12.out);have Kf_13:=Hd kx;have x0:=(Ka_13.out.cell 0).trans (HFC.out (FV o)).1;have x1:=(Ka_13.out.cell 1).trans (HFC.out (FV o)).2;have y0:=(Kb_13.out.cell 0).trans (HFC.out (FV o)).1;have y1:=(Kb_13.out.cell 1).trans (HFC.out (FV o)).2;have p0:=(Kc_13.out.cell 0).trans (HFC.out (FV lo)).1;have p1:=(Kc_13.out.cell 1).trans (HFC.out (FV lo)).2;have q0:=(Kd_13.out.cell 0).trans (HFC.out (FV hi)).1;have q1:=(Kd_13.out.cell 1).trans (HFC.out (FV hi)).2;have r0:=(Ke_13.out.cell 0).trans (HFC.out (FV lo)).1;have r1:=(Ke_13.out.cell 1).trans (HFC.out (FV lo)).2;have s0:=(Kf_13.out.cell 0).trans (HFC.out (FV hi)).1;have s1:=(Kf_13.out.cell 1).trans (HFC.out (FV hi)).2;clear kx bx Rt hb8));clear HN11 KN11 KM11 KM12 HH12 Ke_12 HB11 Ka_11 Kb_11 Kc_11 Kd_11 HR6_11 HR7_11;have HEQ:Hid (Calls prog 38 #[.slice a6 M.length c6,.slice a7 M.length c7] w13 fun e w'=>e=.returned (.bool true)/\Below w13.heap.size w13 w'):=by
   have h:=Ep M M a6 a7 c6 c7 w13 HLEN.out HLEN.out HR6_13.out HR7_13.out;rw[decide_eq_true (rfl:M=M)] at h;exact h
  clear HSZ HLEN HR6_13 HR7_13 Ka_13 Kb_13 x0 x1 y0 y1 p0 p1 q0 q1 r0 r1 s0 s1;refine HEQ.out.mono ?_;rintro e w14 ⟨rfl,hb⟩;have HB14:=Hd (aA HB13.out hb);have p0:=((Kc_13.out.below hb).cell 0).trans (HFC.out (FV lo)).1;have p1:=((Kc_13.out.below hb).cell 1).trans (HFC.out (FV lo)).2;have q0:=((Kd_13.out.below hb).cell 0).trans (HFC.out (FV hi)).1;have q1:=((Kd_13.out.below hb).cell 1).trans (HFC.out (FV hi)).2;have r0:=((Ke_13.out.below hb).cell 0).trans (HFC.out (FV lo)).1;have r1:=((Ke_13.out.below hb).cell 1).trans (HFC.out (FV lo)).2;have s0:=((Kf_13.out.below hb).cell 0).trans (HFC.out (FV hi)).1;have s1:=((Kf_13.out.below hb).cell 1).trans (HFC.out (FV hi)).2;clear hb HEQ HB13 Kc_13 Kd_13 Ke_13 Kf_13;go_wp2_with fail;refine(HAW.out _ HB14.out).mono ?_;rintro e wz ⟨rfl,hb⟩;go_wp2;go_ret;exact⟨rfl,aA HB14.out hb⟩
end
section
open Go.RowKit Num Dt Go.ChangeShapes Go.WideShapes Go.ChangeAt
section
variable {H:Type}{enc:TypeId×Value->H}{w:World}{base:Nat}{held:Bool}
theorem aRy{v:Value}{d:DataW H}{ps:List MemPlace}(hv:Value.okWide prog w .any base 62 v)(h:DataW.Trod enc prog w 0 (fun _=>true) held 62 v d ps):
  ∃(a:Option Addr) (c:Nat) (ss:List (List UInt8)),v=.slice a ss.length c/\ss.length<=c/\ss.length<=maxLen/\dT w a (iS ss):=by
 obtain⟨a,n,c,rfl,hnc,hm,hx⟩:=Tw (N:=1) (by decide) underlying62 (by kernel_rfl) hv h;rcases hx with rfl|⟨b,off,rfl,hb,hx⟩
 ·exact⟨a,c,[],rfl,Nat.zero_le _,Nat.zero_le _,.inl rfl⟩
 ·obtain⟨ss,hl,hp⟩:=Dv (α:=List UInt8) (p:=fun i z=>w.cell? ⟨b,off+i,none⟩=some (Pm z)) (fun i hi=>by
   obtain⟨cs,m,y,hlen,hcc,ht⟩:=hx i hi;obtain⟨z,e,_,_⟩:=DataW.trod_string underlying9 ht;refine⟨z.data.toList,?_⟩;have:=hcc 0 (by decide);rw[e] at this;simpa[Pm] using this)
  subst hl;refine⟨_,c,ss,rfl,hnc,hm,.inr ⟨b,off,rfl,hb,fun k u hk=>?_⟩⟩;unfold iS at hk;rw[List.getElem?_map] at hk;cases hz:ss[k]? with
  |none=>rw[hz] at hk;cases hk
  |some z =>
   rw[hz] at hk;obtain rfl:=Option.some.inj hk;exact hp k z hz
end
end
end Go.Proofs.YtejkibnaidiklaaGreatDoor
