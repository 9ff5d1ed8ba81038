/- Extremes QIndex OpenPeriod -/
import Derived.Test.YtejkibnaidiklaaGreatDoorJMem
import Derived.Test.YtejkibnaidiklaaGreatDoorJPriceSer
import Derived.Test.YtejkibnaidiklaaGreatDoorJPriceA
import Derived.Test.YtejkibnaidiklaaGreatDoorJFrac
import Derived.Test.YtejkibnaidiklaaGreatDoorJOpen
set_option maxHeartbeats 16000000
set_option maxRecDepth 100000
namespace Go.Proofs.YtejkibnaidiklaaGreatDoor
section
open Go Go.RowKit Go.Shelf Num
def inP(fr til:Int)(q:aJv):Bool:=decide (fr≤q.day)&&decide (q.day<til)
def aRm(fr til:Int)(l:List aJv):List bZ:=(l.filter (inP fr til)).map (·.price)
theorem aT5{fr til:Int}{x:aJv}(pre:List aJv)(h:inP fr til x=true):aRm fr til (pre ++ [x])=aRm fr til pre ++ [x.price]:=by unfold aRm;rw[List.filter_append];simp[h]
theorem aU5{fr til:Int}{x:aJv}(pre:List aJv)(h:inP fr til x=false):aRm fr til (pre ++ [x])=aRm fr til pre:=by unfold aRm;rw[List.filter_append];simp[h]
def aU6(b:Bool):Int:=if b=true then 0 else 11
def aUs(l:List aJv):Prop:=∀q,q∈l→q.price.small
def SzL(n:Nat)(W:World):Prop:=n≤W.heap.size
def aTp(fr til:Int)(pre:List aJv):Array Value:=aPf (FV (aLq (aRm fr til pre)))
def aRk(fr til:Int)(pre:List aJv):Array Value:=aPf (FV (aK0 (aRm fr til pre)))
def aTx(fr til:Int)(pre:List aJv):Bool:=!(aRm fr til pre).isEmpty
theorem aVq:∀(l:List bZ) (m:bZ),∃x,l.foldl aKj (some m)=some x∧(x=m∨x∈l):=by
 intro l
 induction l with
 |nil=>exact fun m=>⟨m,rfl,.inl rfl⟩
 |cons p r ih =>
  intro m;rw[List.foldl_cons,show aKj (some m) p=if aJ3 p m<0 then some p else some m from rfl];split
  ·obtain⟨x,h1,h2⟩:=ih p;exact⟨x,h1,.inr (by rcases h2 with rfl|h2;exact List.mem_cons_self;exact List.mem_cons_of_mem _ h2)⟩
  ·obtain⟨x,h1,h2⟩:=ih m;exact⟨x,h1,by rcases h2 with rfl|h2;exact .inl rfl;exact .inr (List.mem_cons_of_mem _ h2)⟩
theorem aVf:∀(l:List bZ) (m:bZ),∃x,l.foldl aKb (some m)=some x∧(x=m∨x∈l):=by
 intro l
 induction l with
 |nil=>exact fun m=>⟨m,rfl,.inl rfl⟩
 |cons p r ih =>
  intro m;rw[List.foldl_cons,show aKb (some m) p=if 0<aJ3 p m then some p else some m from rfl];split
  ·obtain⟨x,h1,h2⟩:=ih p;exact⟨x,h1,.inr (by rcases h2 with rfl|h2;exact List.mem_cons_self;exact List.mem_cons_of_mem _ h2)⟩
  ·obtain⟨x,h1,h2⟩:=ih m;exact⟨x,h1,by rcases h2 with rfl|h2;exact .inl rfl;exact .inr (List.mem_cons_of_mem _ h2)⟩
theorem aVp{l:List bZ}(h:l ≠ []):∃x,aLq l=some x∧x∈l:=by
 cases l with
 |nil=>exact absurd rfl h
 |cons m r =>
  obtain⟨x,h1,h2⟩:=aVq r m;exact⟨x,h1,by rcases h2 with rfl|h2;exact List.mem_cons_self;exact List.mem_cons_of_mem _ h2⟩
theorem aVe{l:List bZ}(h:l ≠ []):∃x,aK0 l=some x∧x∈l:=by
 cases l with
 |nil=>exact absurd rfl h
 |cons m r =>
  obtain⟨x,h1,h2⟩:=aVf r m;exact⟨x,h1,by rcases h2 with rfl|h2;exact List.mem_cons_self;exact List.mem_cons_of_mem _ h2⟩
theorem aUi{fr til:Int}{l:List aJv}{p:bZ}(h:p∈aRm fr til l):∃q,q∈l∧inP fr til q=true∧p=q.price:=by
 unfold aRm at h;obtain⟨q,hq,rfl⟩:=List.mem_map.1 h;exact⟨q,(List.mem_filter.1 hq).1,(List.mem_filter.1 hq).2,rfl⟩
theorem aVw{fr til:Int}{x:aJv}(pre:List aJv)(h:inP fr til x=false):aTp fr til (pre ++ [x])=aTp fr til pre∧aRk fr til (pre ++ [x])=aRk fr til pre∧aTx fr til (pre ++ [x])=aTx fr til pre:=by
 unfold aTp aRk aTx;rw[aU5 pre h];exact⟨rfl,rfl,rfl⟩
theorem aVn{fr til:Int}{x:aJv}(pre:List aJv)(h:inP fr til x=true):aTx fr til (pre ++ [x])=true:=by
 unfold aTx;rw[aT5 pre h];simp
theorem aUy{fr til:Int}{x:aJv}(pre:List aJv)(h:inP fr til x=true)(h0:aRm fr til pre=[]):aTp fr til (pre ++ [x])=aPf x.price∧aRk fr til (pre ++ [x])=aPf x.price∧aTp fr til pre=Z2∧aRk fr til pre=Z2∧aTx fr til pre=false:=by
 unfold aTp aRk aTx;rw[aT5 pre h,h0];exact⟨rfl,rfl,rfl,rfl,rfl⟩
theorem aU7{fr til:Int}{x:aJv}(pre:List aJv)(h:inP fr til x=true)(h0:aRm fr til pre ≠ []):∃lo hi,lo∈aRm fr til pre∧hi∈aRm fr til pre∧aTp fr til pre=aPf lo∧aRk fr til pre=aPf hi∧aTx fr til pre=true ∧
  aTp fr til (pre ++ [x])=(if aJ3 x.price lo<0 then aPf x.price else aPf lo)∧aRk fr til (pre ++ [x])=(if 0<aJ3 x.price hi then aPf x.price else aPf hi):=by
 obtain⟨lo,h1,h2⟩:=aVp h0;obtain⟨hi,h3,h4⟩:=aVe h0;refine⟨lo,hi,h2,h4,?_,?_,?_,?_,?_⟩
 ·unfold aTp;rw[h1];rfl
 ·unfold aRk;rw[h3];rfl
 ·unfold aTx;cases hc:aRm fr til pre with
  |nil=>exact absurd hc h0
  |cons _ _=>rfl
 ·unfold aTp;rw[aT5 pre h,aLo,h1];unfold aKj;simp only;split <;> rfl
 ·unfold aRk;rw[aT5 pre h,aLf,h3];unfold aKb;simp only;split <;> rfl
def aUk(fs:List aE)(ins:List UInt8)(fr til:Int):Int:=if aPk fs 0 [fr,til]=0 then(if til<fr then 8 else aU6 (aTx fr til (ser ins fs))) else aPk fs 0 [fr,til]
def aUc(fs:List aE)(ins:List UInt8)(fr til:Int):List bZ:=if aPk fs 0 [fr,til]=0 then(if til<fr then[] else aRm fr til (ser ins fs)) else[]
theorem aTw{P:Program}{fn:Func}{p q u:Tmp}{ty:TypeId}(h:fn.results=#[.cell p ty,.cell q ty,.tmp u])(tmps:Array Value)(w:World)(g g2:Nat)(t t2:TypeId)(cs cs2:Array Value)(d:TypeDesc)
  (hp:tmps.getD p undef=.pointer (some ⟨g,0,none⟩)) (hq:tmps.getD q undef=.pointer (some ⟨g2,0,none⟩)) (hg:w.heap[g]?=some (.cells cs t (0,0))) (hg2:w.heap[g2]?=some (.cells cs2 t2 (0,0)))
  (hu:P.underlying ty=some d) (hd:(match d with | .struct _ | .array _ _=>true|_=>false)=true) (hi:(P.info? ty).map (·.size)=some cs.size) (hi2:(P.info? ty).map (·.size)=some cs2.size) :
  (results fn tmps).run P w=.ok (.tuple #[.agg cs,.agg cs2,tmps.getD u undef]) w:=by
 have hp':tmps[p]?.getD undef=.pointer (some ⟨g,0,none⟩):=by simpa using hp
 have hq':tmps[q]?.getD undef=.pointer (some ⟨g2,0,none⟩):=by simpa using hq
 simp[results,h,hp',hq',asAddr,run_loadVar_row w g t ty cs (0,0) d hg hu hd hi,run_loadVar_row w g2 t2 ty cs2 (0,0) d hg2 hu hd hi2]
theorem aVu(xs:List aF)(a:Option Addr)(c:Nat)(ins:List UInt8)(fr til:Int)(w:World)(hE:iE w)(hv:gT w a c xs)(he:aPk (xs.map aF.f) 0 [fr,til]=0→til<fr):
  Calls Tryz.prog 41 #[.slice a xs.length c,.string ⟨ins.toArray⟩,.agg #[.int .i64 fr,.int .i64 til]] w fun e w'=>e=.returned (.tuple #[.agg Z2,.agg Z2,.int .i64 (if aPk (xs.map aF.f) 0 [fr,til]=0 then 8 else aPk (xs.map aF.f) 0 [fr,til])])∧Below w.heap.size w w':=by
 obtain⟨wa,hwa⟩:∃wa,wa=((w.alloc (.cells #[.int .i64 fr,.int .i64 til] 70)).alloc (.cells #[.string ⟨#[]⟩,.string ⟨#[]⟩] 28)).alloc (.cells #[.string ⟨#[]⟩,.string ⟨#[]⟩] 28):=⟨_,rfl⟩
 have HBA:Hid (Below w.heap.size w wa):=by show Below _ _ _;rw[hwa];exact aA (aA (aB _ _) (aB _ _)) (aB _ _)
 have HSA:Hid (wa.heap.size=w.heap.size+3):=by show _=_;rw[hwa];simp only[World.size_alloc]
 have K5:Hid (aP wa w.heap.size #[.int .i64 fr,.int .i64 til] 70):=by
  show aP _ _ _ _;rw[hwa];exact((aP.new0 w _ _).below (aB _ _)).below (aB _ _)
 have K6:Hid (aP wa (w.heap.size+1) Z2 28):=by
  have h:=(aP.new0 (w.alloc (.cells #[.int .i64 fr,.int .i64 til] 70)) Z2 28).below (aB _ (.cells Z2 28));rw[World.size_alloc] at h;show aP _ _ _ _;rw[hwa];exact h
 have K7:Hid (aP wa (w.heap.size+1+1) Z2 28):=by
  have h:=aP.new0 ((w.alloc (.cells #[.int .i64 fr,.int .i64 til] 70)).alloc (.cells Z2 28)) Z2 28;rw[World.size_alloc,World.size_alloc] at h;show aP _ _ _ _;rw[hwa];exact h
 have HBB:=Hd (aA HBA.out (aB wa (.cells #[.int .i64 fr,.int .i64 til] 23)));have hpc:=aQa xs a c 0 [fr,til] (some ⟨wa.heap.size,0,none⟩) 2 _ (hE.below HBB.out) (hv.below HBB.out) (by simp) (aQ1 (aP.new0 wa #[.int .i64 fr,.int .i64 til] 23));rw[show [fr,til].length=2 from rfl] at hpc;have HPC:=Hd hpc;have K5b:=Hd (K5.out.below (aB wa (.cells #[.int .i64 fr,.int .i64 til] 23)));have K6b:=Hd (K6.out.below (aB wa (.cells #[.int .i64 fr,.int .i64 til] 23)));have K7b:=Hd (K7.out.below (aB wa (.cells #[.int .i64 fr,.int .i64 til] 23)));have HE:=Hd he;have HSF:Hid ((Tryz.prog.info? 28).map (·.size)=some Z2.size):=aPp;have HZ1:Hid (Z2.all (·.oneCell')=true):=aP0 ⟨[],[]⟩;have HNE:Hid (w.heap.size+1+1≠w.heap.size+1):=by show _≠_;omega
 clear hE hv hpc he HBA K5 K6 K7;generalize aPk (xs.map aF.f) 0 [fr,til]=pe at *;generalize xs.length=n at *;have k0:=(K5b.out.cell 0).trans (show _=some (.int .i64 fr) from rfl);have k1:=(K5b.out.cell 1).trans (show _=some (.int .i64 til) from rfl);obtain⟨wb,hwb⟩:∃wb,wb=wa.alloc (.cells #[.int .i64 fr,.int .i64 til] 23):=⟨_,rfl⟩
 rw[←hwb] at HPC K5b K6b K7b HBB k0 k1;clear k0 k1;go_enter Tryz.func41,Tryz.ntmps41;go_wp2_with fail;rw[←hwa];rw[show w.heap.size+1+1+1=wa.heap.size from by rw[HSA.out],←hwb];clear hwa hwb;refine HPC.out.mono ?_;rintro e w1 ⟨rfl,hb⟩;have HB1:=Hd (aA HBB.out hb);have K61:=Hd (K6b.out.below hb);have K71:=Hd (K7b.out.below hb);have K51:=Hd (K5b.out.below hb);have k0:=(K51.out.cell 0).trans (show _=some (.int .i64 fr) from rfl);have k1:=(K51.out.cell 1).trans (show _=some (.int .i64 til) from rfl);clear hb HPC HBB K5b K6b K7b HSA
 by_cases he:pe=0
 ·subst he;have hlt:=HE.out rfl;go_wp2_with (first|(refine aOw rfl 28 _ _ rfl (w.heap.size+1) rfl #[.string ⟨#[]⟩,.string ⟨#[]⟩] rfl K61.out HSF.out rfl HZ1.out ?_;intro w2 kx bx kot _;have HB2:=Hd (HB1.out.trans (bx _ (by omega)));have KX2:=Hd kx;have K72:=Hd (kot _ _ _ HNE.out K71.out);clear kx bx kot)|(refine aOw rfl 28 _ _ rfl (w.heap.size+1+1) rfl #[.string ⟨#[]⟩,.string ⟨#[]⟩] rfl K72.out HSF.out rfl HZ1.out ?_;intro w3 kx bx kot _;have HB3:=Hd (HB2.out.trans (bx _ (by omega)));have KX3:=Hd (kot _ _ _ HNE.out.symm KX2.out);have K73:=Hd kx;clear kx bx kot));refine bodyPost_ret (aTw rfl _ _ _ _ _ _ _ _ _ rfl rfl KX3.out.2 K73.out.2 Tryz.underlying28 rfl HSF.out HSF.out) rfl ?_;exact⟨rfl,HB3.out⟩
 ·have he':(pe==0)=false:=by simpa using he
  go_wp2_with (first|(refine aOw rfl 28 _ _ rfl (w.heap.size+1) rfl #[.string ⟨#[]⟩,.string ⟨#[]⟩] rfl K61.out HSF.out rfl HZ1.out ?_;intro w2 kx bx kot _;have HB2:=Hd (HB1.out.trans (bx _ (by omega)));have KX2:=Hd kx;have K72:=Hd (kot _ _ _ HNE.out K71.out);clear kx bx kot)|(refine aOw rfl 28 _ _ rfl (w.heap.size+1+1) rfl #[.string ⟨#[]⟩,.string ⟨#[]⟩] rfl K72.out HSF.out rfl HZ1.out ?_;intro w3 kx bx kot _;have HB3:=Hd (HB2.out.trans (bx _ (by omega)));have KX3:=Hd (kot _ _ _ HNE.out.symm KX2.out);have K73:=Hd kx;clear kx bx kot));refine bodyPost_ret (aTw rfl _ _ _ _ _ _ _ _ _ rfl rfl KX3.out.2 K73.out.2 Tryz.underlying28 rfl HSF.out HSF.out) rfl ?_;exact⟨rfl,HB3.out⟩
section
variable {A B:World}{N:Nat}{X:World→Nat→Prop}
theorem aTr(hX:∀A B k,X A k↔X B k)(h:Below A.heap.size A B)(hl:∀k,X A k→k<A.heap.size):KpX N X A B :=
 ⟨⟨h.os,h.tape,h.output,h.size,fun k _ _ hk _=>(h.block k (Ai.1 hk).1).trans hk,fun k hx=>.inl ((hX B A k).1 hx)⟩,fun _ k hx=>Nat.lt_of_lt_of_le (hl k ((hX B A k).1 hx)) h.size⟩
theorem aS1(hX:∀A B k,X A k↔X B k){b:Nat}(h:A.grownBy B (some b))(hb:X A b)(hl:∀k,X A k→k<A.heap.size):KpX N X A B :=
 ⟨⟨h.os,h.tape,h.output,h.size,fun k _ hx hk _=>(h.block k (Ai.1 hk).1 (fun e=>hx (by injection e with e;rw[e];exact hb))).trans hk,fun k hx=>.inl ((hX B A k).1 hx)⟩,fun _ k hx=>Nat.lt_of_lt_of_le (hl k ((hX B A k).1 hx)) h.size⟩
theorem aVr(W:World)(l:Nat)(ob ob':Obj)(hl:N≤l)(hX:∀A B k,X A k↔X B k)(hw:W.heap[l]?=some ob)(hc:ob.isCells=false)(hx0:∀k,X W k→k<W.heap.size):KpX N X W (W.putObj l ob'):=by
 refine⟨⟨rfl,rfl,rfl,by simp[World.putObj],fun k x _ hk hn=>?_,fun k hx=>.inl ((hX _ W k).1 hx)⟩,fun _ k hx=>?_⟩
 ·refine(World.putObj_heap_other fun e=>?_).trans hk;subst e;rw[hw] at hk;cases hk;rcases hn with h|h
  ·omega
  ·rw[hc] at h;cases h
 ·have:=hx0 k ((hX _ W k).1 hx);simpa[World.putObj] using this
end
noncomputable def aV2:Array Oper:=(Tryz.f41.body.bind (jE 18)).getD #[]
def aV1:List (Nat×Nat):=[(0,75),(1,76),(4,8)]
structure ExC where
 w:World
 n:Nat
 b6:Nat
 b7:Nat
 b10:Nat
 b11:Nat
 D:Nat
 lo:Array Value
 hi:Array Value
def ExC.val(C:ExC)(_:Unit):Nat→Value
 |0=>.agg C.lo
 |1=>.agg C.hi
 |_=>.int .i64 0
def ExC.g(C:ExC)(_:Unit)(l:Array Bool)(W:World):Prop:=(aP W C.b10 C.lo 28∧aP W C.b11 C.hi 28)∧(∃u,u.size=2∧aP W C.b6 u 28∧(lP l 2→u=C.lo))∧(∃u,u.size=2∧aP W C.b7 u 28∧(lP l 3→u=C.hi))∧Below C.n C.w W∧W.heap[C.D]?=some (.deferred (some []))
structure ExM(C:ExC)(t0:Array Value):Prop where
 sz:t0.size=77
 t6:t0[6]?=some (.pointer (some ⟨C.b6,0,none⟩))
 t7:t0[7]?=some (.pointer (some ⟨C.b7,0,none⟩))
 t10:t0[10]?=some (.pointer (some ⟨C.b10,0,none⟩))
 t11:t0[11]?=some (.pointer (some ⟨C.b11,0,none⟩))
 n67:C.b6≠C.b7
 n610:C.b10≠C.b6∧C.b11≠C.b6∧C.b10≠C.b7∧C.b11≠C.b7
 neD:C.D≠C.b6∧C.D≠C.b7
 nn:C.n≤C.b6∧C.n≤C.b7
 lsz:C.lo.size=2∧C.hi.size=2
 lone:C.lo.all (·.oneCell')=true∧C.hi.all (·.oneCell')=true
section
variable {C:ExC}{t0:Array Value}{d0:List Deferred}{Q:Exit→Act→World→Prop}{l:Array Bool}{w:World}{n:Nat}
theorem ExC.keep{i:Nat}(h2:i≠2)(h3:i≠3)(h:C.g () l w):C.g () (l.setIfInBounds i true) w:=by
 obtain⟨k,⟨u,a1,a2,a3⟩,⟨v,b1,b2,b3⟩,r⟩:=h;exact⟨k,⟨u,a1,a2,fun h'=>a3 (mQ h' (Ne.symm h2))⟩,⟨v,b1,b2,fun h'=>b3 (mQ h' (Ne.symm h3))⟩,r⟩
theorem aVh(M:ExM C t0){a:Act}(hdf:a.defers=d0)(ht:a.tmps=t0)(hw:∀l,(∀j,¬ lP l j)→C.g () l (w.drewN 1))
  (hQ:∀W,aP W C.b6 C.lo 28→aP W C.b7 C.hi 28→Below C.n C.w W→W.heap[C.D]?=some (.deferred (some []))→Q .normal { tmps:=iZ (C.val ()) aV1 t0,defers:=d0 } W):(Code.region 18 aV2 true).wpIn Fence.wide n Tryz.prog Q a w:=by
 have hsz:aV2.size=5:=by kernel_rfl
 refine Bq (ds:=aV1) (val:=C.val) (G:=C.g) (by kernel_rfl) (by kernel_rfl) (by decide) (fun p hp=>?_) (by kernel_rfl) ?_ (γ:=()) hdf ht (hw _ (fun j=>Gu _ _)) ?_
 ·rw[M.sz];have:∀p,p∈aV1→p.2<77:=by decide
  exact this p hp
 ·intro γ l a w i H hr;cases γ;have hi:i<5:=by
   obtain⟨_,o,ho,_⟩:=mem_ready.1 hr;have:=(Ai.1 ho).1;rw[hsz] at this;exact this
  have t6:=H.low (s:=6) (by decide) M.t6;have t7:=H.low (s:=7) (by decide) M.t7;have t10:=H.low (s:=10) (by decide) M.t10;have t11:=H.low (s:=11) (by decide) M.t11;obtain⟨⟨k10,k11⟩,⟨u,a1,a2,a3⟩,⟨v,b1,b2,b3⟩,hB,hD⟩:=H.g
  match i,hi,hr with
  |0,_,hr=>exact sQ (X:=.load 28 (.tmp 10)) (by kernel_rfl) (fun o h=>aW h (oC t10) (gR k10) Tryz.underlying28 rfl (by rw[M.lsz.1];exact aPp)) (fun _ _=>rfl) (ExC.keep (by decide) (by decide) H.g)
  |1,_,hr=>exact sQ (X:=.load 28 (.tmp 11)) (by kernel_rfl) (fun o h=>aW h (oC t11) (gR k11) Tryz.underlying28 rfl (by rw[M.lsz.2];exact aPp)) (fun _ _=>rfl) (ExC.keep (by decide) (by decide) H.g)
  |2,_,hr =>
   have v0:a.tmps[75]?=some (.agg C.lo):=H.dep hr 0 75 (by kernel_rfl) ⟨rfl,by decide⟩;exact Ia (X:=.store 28 (.tmp 6) (.tmp 75)) (by kernel_rfl) (fun o h=>Bi h (oC t6) (oC v0) a2 (by rw[M.lsz.1];exact aPp) (by rw[M.lsz.1];exact a1) M.lone.1) ⟨⟨pM k10 M.n610.1,pM k11 M.n610.2.1⟩,⟨C.lo,M.lsz.1,Ip a2,fun _=>rfl⟩,⟨v,b1,pM b2 (Ne.symm M.n67),fun h'=>b3 (mQ h' (by decide))⟩,below_setRow hB M.nn.1 _,(setRow_other _ _ C.D _ M.neD.1).trans hD⟩
  |3,_,hr =>
   have v0:a.tmps[76]?=some (.agg C.hi):=H.dep hr 1 76 (by kernel_rfl) ⟨rfl,by decide⟩;exact Ia (X:=.store 28 (.tmp 7) (.tmp 76)) (by kernel_rfl) (fun o h=>Bi h (oC t7) (oC v0) b2 (by rw[M.lsz.2];exact aPp) (by rw[M.lsz.2];exact b1) M.lone.2) ⟨⟨pM k10 M.n610.2.2.1,pM k11 M.n610.2.2.2⟩,⟨u,a1,pM a2 M.n67,fun h'=>a3 (mQ h' (by decide))⟩,⟨C.hi,M.lsz.2,Ip b2,fun _=>rfl⟩,below_setRow hB M.nn.2 _,(setRow_other _ _ C.D _ M.neD.2).trans hD⟩
  |4,_,hr=>exact sQ (X:=.assign (.const (.int .i64 0))) (v:=.int .i64 0) (by kernel_rfl) (fun o h=>by simp[execOp,h,go_sem]) (fun _ _=>rfl) (ExC.keep (by decide) (by decide) H.g)
  |n+5,h,_=>exact absurd h (by omega)
 ·rintro⟨⟩ l W hall ⟨_,⟨u,_,a2,a3⟩,⟨v,_,b2,b3⟩,hB,hD⟩;obtain rfl:=a3 (hall 2 (by rw[hsz];decide));obtain rfl:=b3 (hall 3 (by rw[hsz];decide));exact hQ W a2 b2 hB hD
end
def exT(a:Option Addr)(n c:Nat)(ins:List UInt8)(fr til:Int)(b r o bl bi:Nat)(x t:Value):Array Value:=#[.slice a n c,.string ⟨ins.toArray⟩,.agg #[.int .i64 fr,.int .i64 til],undef,undef,.pointer (some ⟨b,0,none⟩),.pointer (some ⟨b+1,0,none⟩),.pointer (some ⟨b+1+1,0,none⟩),.int .i64 0,.int .i64 0,.pointer (some ⟨o,0,none⟩),.pointer (some ⟨o+1,0,none⟩),.pointer (some ⟨o+1+1,0,none⟩),t,.slice a n c,.pointer (some ⟨b,0,none⟩),.int .i64 fr,.pointer (some ⟨b,1,none⟩),.int .i64 til,.slice (some ⟨r,0,none⟩) 2 2,.int .i64 0,.int .i64 0,.bool false,undef,undef,undef,.pointer (some ⟨b,0,none⟩),.int .i64 fr,.pointer (some ⟨b,1,none⟩),.int .i64 til,.bool false,undef,undef,.slice a n c,.string ⟨ins.toArray⟩,.func (.func 118) #[] #[.pointer (some ⟨bl,0,none⟩),.pointer (some ⟨bi,0,none⟩)],x,undef,undef,undef,undef,undef,undef,undef,undef,undef,undef,undef,undef,undef,undef,undef,undef,undef,undef,undef,undef,undef,undef,undef,undef,undef,undef,undef,undef,undef,undef,undef,undef,undef,undef,undef,undef,undef,undef,undef,undef]
attribute [local go_sem] Oper.semAt_some
theorem aV0(xs:List aF)(a:Option Addr)(c:Nat)(ins:List UInt8)(fr til:Int)(w:World)(hE:iE w)(hv:gT w a c xs)(he:aPk (xs.map aF.f) 0 [fr,til]=0)(hle:¬ til<fr):
  Calls Tryz.prog 41 #[.slice a xs.length c,.string ⟨ins.toArray⟩,.agg #[.int .i64 fr,.int .i64 til]] w fun e w'=>e=.returned (.tuple #[.agg (aTp fr til (ser ins (xs.map aF.f))),.agg (aRk fr til (ser ins (xs.map aF.f))),.int .i64 (aU6 (aTx fr til (ser ins (xs.map aF.f))))])∧Below w.heap.size w w':=by
 obtain⟨wa,hwa⟩:∃wa,wa=((w.alloc (.cells #[.int .i64 fr,.int .i64 til] 70)).alloc (.cells #[.string ⟨#[]⟩,.string ⟨#[]⟩] 28)).alloc (.cells #[.string ⟨#[]⟩,.string ⟨#[]⟩] 28):=⟨_,rfl⟩
 have HBA:Hid (Below w.heap.size w wa):=by show Below _ _ _;rw[hwa];exact aA (aA (aB _ _) (aB _ _)) (aB _ _)
 have HSA:Hid (wa.heap.size=w.heap.size+3):=by show _=_;rw[hwa];simp only[World.size_alloc]
 have K5:Hid (aP wa w.heap.size #[.int .i64 fr,.int .i64 til] 70):=by
  show aP _ _ _ _;rw[hwa];exact((aP.new0 w _ _).below (aB _ _)).below (aB _ _)
 have K6:Hid (aP wa (w.heap.size+1) Z2 28):=by
  have h:=(aP.new0 (w.alloc (.cells #[.int .i64 fr,.int .i64 til] 70)) Z2 28).below (aB _ (.cells Z2 28));rw[World.size_alloc] at h;show aP _ _ _ _;rw[hwa];exact h
 have K7:Hid (aP wa (w.heap.size+1+1) Z2 28):=by
  have h:=aP.new0 ((w.alloc (.cells #[.int .i64 fr,.int .i64 til] 70)).alloc (.cells Z2 28)) Z2 28;rw[World.size_alloc,World.size_alloc] at h;show aP _ _ _ _;rw[hwa];exact h
 have HBB:=Hd (aA HBA.out (aB wa (.cells #[.int .i64 fr,.int .i64 til] 23)));have hpc:=aQa xs a c 0 [fr,til] (some ⟨wa.heap.size,0,none⟩) 2 _ (hE.below HBB.out) (hv.below HBB.out) (by simp) (aQ1 (aP.new0 wa #[.int .i64 fr,.int .i64 til] 23));rw[show [fr,til].length=2 from rfl] at hpc;have HPC:=Hd hpc;have K5b:=Hd (K5.out.below (aB wa (.cells #[.int .i64 fr,.int .i64 til] 23)));have K6b:=Hd (K6.out.below (aB wa (.cells #[.int .i64 fr,.int .i64 til] 23)));have K7b:=Hd (K7.out.below (aB wa (.cells #[.int .i64 fr,.int .i64 til] 23)));rw[he] at HPC;have hn:=hv.len;have HFA:=Hd hv.facts;have HGD:Hid (∀x,aUj ins (xs.map aF.f) x→x.price.small):=fun x h=>by
  obtain⟨f,hf,_,rfl⟩:=h;obtain⟨y,hy,rfl⟩:=List.mem_map.1 hf;exact(hv.ok y hy).small.price
 have HE:=Hd hE;have hle':decide (til<fr)=false:=decide_eq_false hle;clear hE hv hpc he HBA K5 K6 K7;obtain⟨wb,hwb⟩:∃wb,wb=wa.alloc (.cells #[.int .i64 fr,.int .i64 til] 23):=⟨_,rfl⟩
 rw[←hwb] at HPC K5b K6b K7b HBB;refine(callsIn_wide (n:=6)).1 ?_;refine callsIn_of_wp_marks Tryz.func41 rfl trivial ?_ rfl;simp only[Tryz.ntmps41,List.size_toArray,List.length_cons,List.length_nil,Nat.reduceAdd,Nat.reduceSub,Array.replicate_succ,Array.replicate_zero,List.push_toArray,List.append_toArray,List.nil_append,List.cons_append];gi_wp2_with fail;rw[←hwa];rw[show w.heap.size+1+1+1=wa.heap.size from by rw[HSA.out],←hwb];clear hwa hwb;refine⟨trivial,(callsIn_wide.2 HPC.out).mono ?_⟩;rintro e w1 ⟨rfl,hb⟩;have HB1:=Hd (aA HBB.out hb);have K61:=Hd (K6b.out.below hb);have K71:=Hd (K7b.out.below hb);have K51:=Hd (K5b.out.below hb);have k0:=(K51.out.cell 0).trans (show _=some (.int .i64 fr) from rfl);have k1:=(K51.out.cell 1).trans (show _=some (.int .i64 til) from rfl);obtain⟨o,ho⟩:∃o,o=w1.heap.size:=⟨_,rfl⟩
 obtain⟨w2,hw2⟩:∃w2,w2=((w1.alloc (.cells #[.string ⟨#[]⟩,.string ⟨#[]⟩] 28)).alloc (.cells #[.string ⟨#[]⟩,.string ⟨#[]⟩] 28)).alloc (.cells #[.bool false] 4):=⟨_,rfl⟩
 have hb2:Below w1.heap.size w1 w2:=by rw[hw2];exact aA (aA (aB _ _) (aB _ _)) (aB _ _)
 have HS2:Hid (w2.heap.size=o+3):=by show _=_;rw[hw2,ho];simp only[World.size_alloc]
 have K10:Hid (aP w2 o Z2 28):=by show aP _ _ _ _;rw[hw2,ho];exact((aP.new0 w1 Z2 _).below (aB _ (.cells Z2 28))).below (aB _ _)
 have K11:Hid (aP w2 (o+1) Z2 28):=by
  have h:=(aP.new0 (w1.alloc (.cells Z2 28)) Z2 28).below (aB _ (.cells #[.bool false] 4));rw[World.size_alloc] at h;show aP _ _ _ _;rw[hw2,ho];exact h
 have K12:Hid (aP w2 (o+1+1) #[.bool false] 4):=by
  have h:=aP.new0 ((w1.alloc (.cells Z2 28)).alloc (.cells Z2 28)) #[.bool false] 4;rw[World.size_alloc,World.size_alloc] at h;show aP _ _ _ _;rw[hw2,ho];exact h
 have HB2:=Hd (aA HB1.out hb2);have K52:=Hd (K51.out.below hb2);have K62:=Hd (K61.out.below hb2);have K72:=Hd (K71.out.below hb2);have HWO:Hid (w.heap.size+3≤o):=by have h1:=K71.out.1;rw[ho];show _≤_;omega
 have HR0:Hid (∃r,r=wa.heap.size):=⟨_,rfl⟩
 clear hb hb2 HPC HBB K5b K6b K7b HB1 K51 K61 K71;gi_wp2_with fail;rw[←hw2,←ho];clear hw2 ho k0 k1;refine⟨trivial,(callsIn_wide.2 (aR7 _ _ _ _ _)).mono ?_⟩;rintro e w3 ⟨bl,bi,rfl,lbl,lbi,kbl,kbi,hb⟩;have HB3:=Hd (aA HB2.out hb);have K53:=Hd (K52.out.below hb);have K63:=Hd (K62.out.below hb);have K73:=Hd (K72.out.below hb);have K103:=Hd (K10.out.below hb);have K113:=Hd (K11.out.below hb);have K123:=Hd (K12.out.below hb);have KBL:=Hd kbl;have KBI:=Hd kbi;have HO:Hid (o+3≤bl∧o+3≤bi∧o+3≤w3.heap.size):=by have h1:=HS2.out;have h2:=hb.size;show _∧_;omega
 obtain⟨rr,hrr⟩:∃rr,rr=wa.heap.size:=⟨_,rfl⟩
 rw[←hrr];clear hb lbl lbi kbl kbi HB2 K52 K62 K72 K10 K11 K12 HS2 hrr HSA HR0;obtain⟨X,hX⟩:∃X:World→Nat→Prop,X=fun _ k=>k=o∨k=o+1∨k=o+1+1:=⟨_,rfl⟩
 have HXX:Hid (∀W k,X W k↔k=o∨k=o+1∨k=o+1+1):=fun W k=>by rw[hX]
 clear hX;have HSEQ:Hid (∀W1,Below w3.heap.size w3 W1→W1.heap.size=w3.heap.size+2→aVj 5 Tryz.prog 118 #[.pointer (some ⟨bl,0,none⟩),.pointer (some ⟨bi,0,none⟩)] aSy (KpX w3.heap.size X) (fun ys=>ys=ser ins (xs.map aF.f)) (xs.length+1) W1 (aUj ins (xs.map aF.f))):=fun W1 hb1 hs1=>aT9 5 xs a c bl bi ins w3.heap.size X W1 hn (fun A B _ _ k hx=>(HXX.out A k).2 ((HXX.out B k).1 hx)) ⟨fun k hx=>by have:=(HXX.out _ k).1 hx;have:=HO.out;omega,fun hx=>by have:=(HXX.out _ _).1 hx;have:=HO.out;omega⟩ (fun W hW=>by
  have h1:=HO.out;have h2:=HWO.out;have hno:∀k,k<w3.heap.size→k≠o→k≠o+1→k≠o+1+1→¬ XR X W1.heap.size W1 k:=fun k hk n1 n2 n3 hx=>by
   rcases hx with hx|hx
   ·have:=(HXX.out _ k).1 hx;omega
   ·omega
  have hwW:Below w.heap.size w W:=(HB3.out.trans (hb1.mono (by omega))).trans (hW.below (by omega) (fun k hk=>⟨hno k (by omega) (by omega) (by omega) (by omega),by omega⟩));exact⟨HFA.out.below hwW,hW.box (hno bl KBL.out.1 (by omega) (by omega) (by omega)) (KBL.out.below hb1),hW.box (hno bi KBI.out.1 (by omega) (by omega) (by omega)) (KBI.out.below hb1)⟩)
 gi_wp2_with fail;refine aUe (n:=6) (gf:=118) (lb:=#[.pointer (some ⟨bl,0,none⟩),.pointer (some ⟨bi,0,none⟩)]) rfl (enters_of Tryz.func118 (by kernel_rfl) rfl) (encs:=aSy) (Kp:=KpX w3.heap.size X) (S:=fun ys=>ys=ser ins (xs.map aF.f)) (N:=xs.length+1) (fun h g=>h.trans g) (fun W l ob ob' hl ho hc=>aVr W l ob ob' hl (fun A B k=>((HXX.out A k).trans (HXX.out B k).symm)) ho hc (fun k hx=>by have:=(HXX.out W k).1 hx;have:=HO.out;have:=(Ai.1 ho).1;omega)) (fun _=>rfl) HSEQ.out
  (fun pre W=>(aP W o (aTp fr til pre) 28∧aP W (o+1) (aRk fr til pre) 28∧aP W (o+1+1) #[.bool (aTx fr til pre)] 4∧aP W w.heap.size #[.int .i64 fr,.int .i64 til] 70∧aP W (w.heap.size+1) Z2 28∧aP W (w.heap.size+1+1) Z2 28)∧(aUs pre∧Below w.heap.size w W∧SzL w3.heap.size W))
  (OwnFrom.and (Own.from (fun s A B row hs hg hr=>⟨nP _ _ (fun pre:List aJv=>aTp fr til pre) s A B row hs.1 hg hr,nP _ _ (fun pre:List aJv=>aRk fr til pre) s A B row hs.2.1 hg hr,nP _ _ (fun pre:List aJv=>#[.bool (aTx fr til pre)]) s A B row hs.2.2.1 hg hr,nP _ _ (fun _=>#[.int .i64 fr,.int .i64 til]) s A B row hs.2.2.2.1 hg hr,nP _ _ (fun _=>Z2) s A B row hs.2.2.2.2.1 hg hr,nP _ _ (fun _=>Z2) s A B row hs.2.2.2.2.2 hg hr⟩) _) (OwnFrom.and (fun _ A B row hs _ _=>hs) (OwnFrom.and (ownFrom_below (Nl _) (by have:=HB3.out.size;omega)) (fun _ A B row hs hg _=>Nat.le_trans hs hg.size))))
  (fun pre A B h hm=>by
   have h1:=HO.out;have h2:=HWO.out;obtain⟨⟨e1,e2,e3,e4,e5,e6⟩,hs,hB,hsz⟩:=h;have h3:w3.heap.size≤A.heap.size:=hsz;exact⟨⟨aQf e1 hm (by omega),aQf e2 hm (by omega),aQf e3 hm (by omega),aQf e4 hm (by omega),aQf e5 hm (by omega),aQf e6 hm (by omega)⟩,hs,aRz hB (by omega) hm (by omega),Nat.le_trans hsz (aSa hm)⟩)
  ⟨⟨K103.out,K113.out,K123.out,K53.out,K63.out,K73.out⟩,fun q hq=>(by cases hq),HB3.out,Nl _⟩
  (fun x a' W=>∃Bx,w3.heap.size≤Bx∧aP W Bx (aOx x) 46∧a' = { tmps:=exT a xs.length c ins fr til w.heap.size rr o bl bi (.agg (aOx x)) (.pointer (some ⟨Bx,0,none⟩)),defers:=[] })
  (fun x a' _ A B row hs hg hr=>by obtain⟨Bx,h1,h2,h3⟩:=hs;exact⟨Bx,h1,nP Bx _ (fun (_:Unit)=>aOx x) () A B row h2 hg (fun r e=>(hr r e).2),h3⟩)
  ?assign ?body ?done
 case assign =>
  rintro l pre x W K ⟨⟨e1,e2,e3,e4,e5,e6⟩,hs,hB,hsz⟩ hs2 hK;have HN:=Hd (heap_alloc_new W (.cells #[.int .i64 0,.string ⟨#[]⟩,.string ⟨#[]⟩] 46));have HBA:=Hd (aB W (.cells #[.int .i64 0,.string ⟨#[]⟩,.string ⟨#[]⟩] 46));have HKA:=Hd (KeepsOthers.alloc W (.cells #[.int .i64 0,.string ⟨#[]⟩,.string ⟨#[]⟩] 46));have HEE:=Hd (And.intro e1 (And.intro e2 (And.intro e3 (And.intro e4 (And.intro e5 e6)))));have HBB:=Hd hB;have HSX:Hid ((Tryz.prog.info? 46).map (·.size)=some (aOx x).size):=aPm;have HONE:Hid ((aOx x).all (·.oneCell')=true):=aPw x;have HS3:Hid ((#[.int .i64 0,.string ⟨#[]⟩,.string ⟨#[]⟩]:Array Value).size=(aOx x).size):=rfl;have HKK:=Hd hK;have HSS:=Hd hs;unfold aSy;clear e1 e2 e3 e4 e5 e6 hB hK hs;gi_wp2_with (refine bQ (by rfl) 46 _ _ rfl W.heap.size rfl (aOx x) rfl HN.out HSX.out HS3.out HONE.out ?_;intro w4 kx bx ko kot _);have hb4:=HBA.out.trans (bx _ (Nl _));obtain⟨e1,e2,e3,e4,e5,e6⟩:=HEE.out;exact HKK.out _ _ ((HKA.out.trans ko).from _) (aTr (fun A B k=>((HXX.out A k).trans (HXX.out B k).symm)) hb4 (fun k hx=>by have:=(HXX.out W k).1 hx;have:=HO.out;omega)) ⟨⟨e1.below hb4,e2.below hb4,e3.below hb4,e4.below hb4,e5.below hb4,e6.below hb4⟩,HSS.out,aA HBB.out hb4,Nat.le_trans hsz hb4.size⟩ ⟨W.heap.size,hsz,kx,rfl⟩
 case body =>
  rintro l pre x a' W ⟨⟨e1,e2,e3,e4,e5,e6⟩,hs,hB,hsz⟩ hs2 ⟨Bx,hBx,kX,rfl⟩ hlt hG;unfold exT;have hsx:=HGD.out x hG;have h1O:=HO.out;have h2O:=HWO.out;have HLV:Hid (∀W' k,w3.heap.size≤W'.heap.size→X W' k→k<W'.heap.size):=fun W' k h hx=>by have:=(HXX.out W' k).1 hx;have:=HO.out;omega
  have HXI:Hid (∀A B k,X A k↔X B k):=fun A B k=>((HXX.out A k).trans (HXX.out B k).symm)
  have HSS:Hid (aUs (pre ++ [x])):=fun q hq=>by
   rcases List.mem_append.1 hq with h|h
   ·exact hs q h
   ·rw[List.mem_singleton] at h;subst h;exact hsx
  have q0:=(kX.cell 0).trans (show _=some (.int .i64 x.day) from rfl);have c50:=(e4.cell 0).trans (show _=some (.int .i64 fr) from rfl);have c51:=(e4.cell 1).trans (show _=some (.int .i64 til) from rfl);have HBX:Hid (w3.heap.size≤Bx):=hBx;have hstay:inP fr til x=false→KeepsFrom w3.heap.size W W∧KpX w3.heap.size X W W∧((aP W o (aTp fr til (pre ++ [x])) 28∧aP W (o+1) (aRk fr til (pre ++ [x])) 28∧aP W (o+1+1) #[.bool (aTx fr til (pre ++ [x]))] 4∧aP W w.heap.size #[.int .i64 fr,.int .i64 til] 70∧aP W (w.heap.size+1) Z2 28∧aP W (w.heap.size+1+1) Z2 28)∧(aUs (pre ++ [x])∧Below w.heap.size w W∧SzL w3.heap.size W)):=fun h=>by
   obtain⟨h1,h2,h3⟩:=aVw pre h;rw[h1,h2,h3];exact⟨(zN (Br _ _)).from _,aTr HXI.out (Br _ _) (fun k hx=>HLV.out W k hsz hx),⟨e1,e2,e3,e4,e5,e6⟩,HSS.out,hB,hsz⟩
  have HSTAY:=Hd hstay;have HSZ:Hid (w3.heap.size≤W.heap.size):=hsz;clear hstay hsz
  by_cases hd1:x.day<fr
  ·have hin:inP fr til x=false:=by unfold inP;simp;omega
   have HST:=Hd (HSTAY.out hin);clear HSTAY HSS e1 e2 e3 e4 e5 e6 hs hB kX hG hsx;obtain⟨xd,hxd⟩:∃xd,xd=x.day:=⟨_,rfl⟩
   rw[←hxd] at q0 hd1;clear hxd hin;gi_wp2_with fail;exact HST.out
  by_cases hd2:til≤x.day
  ·have hin:inP fr til x=false:=by unfold inP;simp;omega
   have HST:=Hd (HSTAY.out hin);clear HSTAY HSS e1 e2 e3 e4 e5 e6 hs hB kX hG hsx;obtain⟨xd,hxd⟩:∃xd,xd=x.day:=⟨_,rfl⟩
   rw[←hxd] at q0 hd1 hd2;clear hxd hin;gi_wp2_with fail;exact HST.out
  have hin:inP fr til x=true:=by unfold inP;simp;omega
  have hany:=aVn pre hin;have HSP:Hid ((Tryz.prog.info? 28).map (·.size)=some (aPf x.price).size):=aPp;have HPO:=Hd (aP0 x.price);have HSL:Hid ((aTp fr til pre).size=(aPf x.price).size):=rfl;have HSH:Hid ((aRk fr til pre).size=(aPf x.price).size):=rfl;have hfp:aPf x.price=#[.string ⟨x.price.n.toArray⟩,.string ⟨x.price.d.toArray⟩]:=rfl;have q1:=(kX.cell 1).trans (show _=some (.string ⟨x.price.n.toArray⟩) from rfl);have q2:=(kX.cell 2).trans (show _=some (.string ⟨x.price.d.toArray⟩) from rfl);have KXX:=Hd kX;have HQ1:Hid ((aOx x)[1]?=some (.string ⟨x.price.n.toArray⟩)∧(aOx x)[2]?=some (.string ⟨x.price.d.toArray⟩)):=⟨rfl,rfl⟩
  have n1:o+1≠o:=by omega
  have n2:o+1+1≠o:=by omega
  have n3:o+1+1≠o+1:=by omega
  have nb:Bx≠o∧Bx≠o+1∧Bx≠o+1+1:=by omega
  have nw:(w.heap.size≠o∧w.heap.size≠o+1∧w.heap.size≠o+1+1)∧(w.heap.size+1≠o∧w.heap.size+1≠o+1∧w.heap.size+1≠o+1+1)∧(w.heap.size+1+1≠o∧w.heap.size+1+1≠o+1∧w.heap.size+1+1≠o+1+1):=by omega
  have HNB:=Hd nb;have HNW:=Hd nw;have HN1:=Hd (And.intro n1 (And.intro n2 n3));have HWL:Hid (w.heap.size≤o):=by show _≤_;omega
  have K12:=Hd e3;have K5:=Hd e4;have K6:=Hd e5;have K7:=Hd e6;have HBW:=Hd hB;have HX0:Hid (X W o∧(∀W',X W' (o+1))∧∀W',X W' (o+1+1)):=⟨(HXX.out W o).2 (.inl rfl),fun W'=>(HXX.out W' _).2 (.inr (.inl rfl)),fun W'=>(HXX.out W' _).2 (.inr (.inr rfl))⟩
  have hfin:∀(W9:World),KeepsOthers W W9→KpX w3.heap.size X W W9→aP W9 o (aTp fr til (pre ++ [x])) 28→aP W9 (o+1) (aRk fr til (pre ++ [x])) 28→aP W9 (o+1+1) #[.bool (aTx fr til pre)] 4→aP W9 w.heap.size #[.int .i64 fr,.int .i64 til] 70→aP W9 (w.heap.size+1) Z2 28→aP W9 (w.heap.size+1+1) Z2 28→Below w.heap.size W W9 →
    KeepsFrom w3.heap.size W (W9.setCell ⟨o+1+1,0,none⟩ (.bool true))∧KpX w3.heap.size X W (W9.setCell ⟨o+1+1,0,none⟩ (.bool true))∧((aP (W9.setCell ⟨o+1+1,0,none⟩ (.bool true)) o (aTp fr til (pre ++ [x])) 28∧aP (W9.setCell ⟨o+1+1,0,none⟩ (.bool true)) (o+1) (aRk fr til (pre ++ [x])) 28∧aP (W9.setCell ⟨o+1+1,0,none⟩ (.bool true)) (o+1+1) #[.bool (aTx fr til (pre ++ [x]))] 4∧aP (W9.setCell ⟨o+1+1,0,none⟩ (.bool true)) w.heap.size #[.int .i64 fr,.int .i64 til] 70∧aP (W9.setCell ⟨o+1+1,0,none⟩ (.bool true)) (w.heap.size+1) Z2 28∧aP (W9.setCell ⟨o+1+1,0,none⟩ (.bool true)) (w.heap.size+1+1) Z2 28)∧(aUs (pre ++ [x])∧Below w.heap.size w (W9.setCell ⟨o+1+1,0,none⟩ (.bool true))∧SzL w3.heap.size (W9.setCell ⟨o+1+1,0,none⟩ (.bool true)))):=by
   intro W9 hk hkp b0 b1 b2 b3 b4 b5 hbw;have hs9:w3.heap.size≤W9.heap.size:=Nat.le_trans HSZ.out hkp.1.size;have hkp2:KpX w3.heap.size X W9 (W9.setCell ⟨o+1+1,0,none⟩ (.bool true)):=aS1 HXI.out (grownBy_setCell' W9 _ _) (HX0.out.2.2 W9) (fun k hx=>HLV.out W9 k hs9 hx);refine⟨(hk.trans (KeepsOthers.setCell _ _ _)).from _,hkp.trans hkp2,⟨xK b0 (by omega),xK b1 (by omega),?_,xK b3 (by omega),xK b4 (by omega),xK b5 (by omega)⟩,HSS.out,HBW.out.trans (hbw.setCell (p:=⟨o+1+1,0,none⟩) (by simp;omega) (.bool true)),Nat.le_trans hs9 hkp2.1.size⟩;rw[hany];exact Boxed.box (Boxed.set (.bool true) (aP.boxed b2))
  have HFIN:=Hd hfin;clear hfin;have c12:=e3.cell 0
  by_cases h0:aRm fr til pre=[]
  ·obtain⟨s1,s2,s3,s4,s5⟩:=aUy pre hin h0;rw[s5] at c12;have K10:=Hd e1;have K11:=Hd e2;have HS12:Hid (aTp fr til (pre ++ [x])=#[.string ⟨x.price.n.toArray⟩,.string ⟨x.price.d.toArray⟩]∧aRk fr til (pre ++ [x])=#[.string ⟨x.price.n.toArray⟩,.string ⟨x.price.d.toArray⟩]):=⟨s1.trans hfp,s2.trans hfp⟩
   have HK5:Hid (aTx fr til pre=false):=s5;rw[hfp] at HSP HPO HSL HSH;clear hsx hG hs e1 e2 e3 e4 e5 e6 hB kX s1 s2 s3 s4 h0 hin hany hfp HSTAY n1 n2 n3 nb nw;generalize x.day=xd at *;generalize(⟨x.price.n.toArray⟩:ByteArray)=pn at *;generalize(⟨x.price.d.toArray⟩:ByteArray)=pd at *;gi_wp2_with fail;refine⟨trivial,?_⟩;gi_wp2_with ((refine bQ (by rfl) 28 _ _ rfl o rfl #[.string pn,.string pd] rfl K10.out.2 HSP.out HSL.out HPO.out ?_;intro W4 kx bx ko kot gr;have KXW4:=Hd kx;have BXW4:=Hd bx;have KOW4:=Hd ko;have OTW4:=Hd kot;have GRW4:=Hd gr;have q1:=((kot _ _ _ HNB.out.1 KXX.out).cell 1).trans HQ1.out.1;have q2:=((kot _ _ _ HNB.out.1 KXX.out).cell 2).trans HQ1.out.2;have K11b:=Hd (kot _ _ _ HN1.out.1 K11.out);have K12b:=Hd (kot _ _ _ HN1.out.2.1 K12.out);have c12:=(kot _ _ _ HN1.out.2.1 K12.out).cell 0;rw[HK5.out] at c12;clear kx bx ko kot gr));refine⟨trivial,?_⟩;gi_wp2_with ((refine bQ (by rfl) 28 _ _ rfl (o+1) rfl #[.string pn,.string pd] rfl K11b.out.2 HSP.out HSH.out HPO.out ?_;intro W5 kx bx ko kot gr;have KXW5:=Hd kx;have BXW5:=Hd bx;have KOW5:=Hd ko;have OTW5:=Hd kot;have GRW5:=Hd gr;have c12:=(kot _ _ _ HN1.out.2.2 K12b.out).cell 0;have f12:=Boxed.frozen (aP.boxed (kot _ _ _ HN1.out.2.2 K12b.out));clear kx bx ko kot gr));have hk4:=aS1 (N:=w3.heap.size) HXI.out GRW4.out HX0.out.1 (fun k hx=>HLV.out W k HSZ.out hx);have hs4:=Nat.le_trans HSZ.out hk4.1.size;have hk5:=aS1 (N:=w3.heap.size) HXI.out GRW5.out (HX0.out.2.1 W4) (fun k hx=>HLV.out W4 k hs4 hx);exact HFIN.out W5 (KOW4.out.trans KOW5.out) (hk4.trans hk5) (by rw[HS12.out.1];exact OTW5.out _ _ _ HN1.out.1.symm KXW4.out) (by rw[HS12.out.2];exact KXW5.out) (OTW5.out _ _ _ HN1.out.2.2 K12b.out) (OTW5.out _ _ _ HNW.out.1.2.1 (OTW4.out _ _ _ HNW.out.1.1 K5.out)) (OTW5.out _ _ _ HNW.out.2.1.2.1 (OTW4.out _ _ _ HNW.out.2.1.1 K6.out)) (OTW5.out _ _ _ HNW.out.2.2.2.1 (OTW4.out _ _ _ HNW.out.2.2.1 K7.out)) ((BXW4.out _ HWL.out).trans (BXW5.out _ (Nat.le_succ_of_le HWL.out)))
  ·obtain⟨lo,hi,m1,m2,s1,s2,s3,s4,s5⟩:=aU7 pre hin h0;have hlo:lo.small:=by obtain⟨q,hq,_,rfl⟩:=aUi m1;exact hs q hq
   have hhi:hi.small:=by obtain⟨q,hq,_,rfl⟩:=aUi m2;exact hs q hq
   have HC1:Hid (∀W',Below w.heap.size w W'→Calls Tryz.prog 25 #[.agg #[.string ⟨x.price.n.toArray⟩,.string ⟨x.price.d.toArray⟩],.agg #[.string ⟨lo.n.toArray⟩,.string ⟨lo.d.toArray⟩]] W' fun e w'=>e=.returned (.int .i64 (aJ3 x.price lo))∧Below W'.heap.size W' w'):=fun W' hb=>fB x.price.n x.price.d lo.n lo.d W' (HE.out.below hb) hsx.1 hsx.2 hlo.1 hlo.2
   have HC2:Hid (∀W',Below w.heap.size w W'→Calls Tryz.prog 25 #[.agg #[.string ⟨x.price.n.toArray⟩,.string ⟨x.price.d.toArray⟩],.agg #[.string ⟨hi.n.toArray⟩,.string ⟨hi.d.toArray⟩]] W' fun e w'=>e=.returned (.int .i64 (aJ3 x.price hi))∧Below W'.heap.size W' w'):=fun W' hb=>fB x.price.n x.price.d hi.n hi.d W' (HE.out.below hb) hsx.1 hsx.2 hhi.1 hhi.2
   rw[s3] at c12;have K10:=Hd e1;have K11:=Hd e2;have HK5:Hid (aTx fr til pre=true):=s3;have HLO:Hid ((aTp fr til pre)[0]?=some (.string ⟨lo.n.toArray⟩)∧(aTp fr til pre)[1]?=some (.string ⟨lo.d.toArray⟩)):=by rw[s1];exact⟨rfl,rfl⟩
   have HHI:Hid ((aRk fr til pre)[0]?=some (.string ⟨hi.n.toArray⟩)∧(aRk fr til pre)[1]?=some (.string ⟨hi.d.toArray⟩)):=by rw[s2];exact⟨rfl,rfl⟩
   have HS4:Hid (aTp fr til (pre ++ [x])=if aJ3 x.price lo<0 then #[.string ⟨x.price.n.toArray⟩,.string ⟨x.price.d.toArray⟩] else aTp fr til pre):=by show _=_;rw[s4,s1,hfp]
   have HS5:Hid (aRk fr til (pre ++ [x])=if 0<aJ3 x.price hi then #[.string ⟨x.price.n.toArray⟩,.string ⟨x.price.d.toArray⟩] else aRk fr til pre):=by show _=_;rw[s5,s2,hfp]
   rw[hfp] at HSP HPO HSL HSH;have a0:=(e1.cell 0).trans HLO.out.1;have a1:=(e1.cell 1).trans HLO.out.2;clear hsx hG hs e1 e2 e3 e4 e5 e6 hB kX s1 s2 s3 s4 s5 h0 hin hany hfp HSTAY n1 n2 n3 nb nw hlo hhi m1 m2;generalize aJ3 x.price lo=r1 at *;generalize aJ3 x.price hi=r2 at *;generalize x.day=xd at *;generalize(⟨x.price.n.toArray⟩:ByteArray)=pn at *;generalize(⟨x.price.d.toArray⟩:ByteArray)=pd at *;generalize(⟨lo.n.toArray⟩:ByteArray)=ln at *;generalize(⟨lo.d.toArray⟩:ByteArray)=ld at *;generalize(⟨hi.n.toArray⟩:ByteArray)=gn at *;generalize(⟨hi.d.toArray⟩:ByteArray)=gd at *;gi_wp2_with fail;refine⟨trivial,(CallsIn.inRound l (callsIn_wide.2 (HC1.out W HBW.out))).mono ?_⟩;rintro e W5 ⟨rfl,hb5⟩;have HB5:=Hd hb5;have KX5:=Hd (KXX.out.below hb5);have K105:=Hd (K10.out.below hb5);have K115:=Hd (K11.out.below hb5);have K125:=Hd (K12.out.below hb5);have K55:=Hd (K5.out.below hb5);have K65:=Hd (K6.out.below hb5);have K75:=Hd (K7.out.below hb5);have HSZ5:Hid (w3.heap.size≤W5.heap.size):=Nat.le_trans HSZ.out hb5.size;have hk5:=aTr (N:=w3.heap.size) HXI.out hb5 (fun k hx=>HLV.out W k HSZ.out hx);have HK5X:=Hd hk5;have q1:=(KX5.out.cell 1).trans HQ1.out.1;have q2:=(KX5.out.cell 2).trans HQ1.out.2;have c12:=K125.out.cell 0;rw[HK5.out] at c12;have b0:=(K115.out.cell 0).trans HHI.out.1;have b1:=(K115.out.cell 1).trans HHI.out.2;clear hb5 hk5 a0 a1 c50 c51 q0 HC1
   by_cases t1:r1<0
   ·have HE4:Hid (aTp fr til (pre ++ [x])=#[.string pn,.string pd]):=by show _=_;rw[HS4.out,if_pos t1]
    clear HS4;gi_wp2_with ((refine bQ (by rfl) 28 _ _ rfl o rfl #[.string pn,.string pd] rfl K105.out.2 HSP.out HSL.out HPO.out ?_;intro W6 kx bx ko kot gr;have KXW6:=Hd kx;have BXW6:=Hd bx;have KOW6:=Hd ko;have OTW6:=Hd kot;have GRW6:=Hd gr;have q1:=((kot _ _ _ HNB.out.1 KX5.out).cell 1).trans HQ1.out.1;have q2:=((kot _ _ _ HNB.out.1 KX5.out).cell 2).trans HQ1.out.2;have b0:=((kot _ _ _ HN1.out.1 K115.out).cell 0).trans HHI.out.1;have b1:=((kot _ _ _ HN1.out.1 K115.out).cell 1).trans HHI.out.2;have c12:=(kot _ _ _ HN1.out.2.1 K125.out).cell 0;rw[HK5.out] at c12;clear kx bx ko kot gr));have KX6:=Hd (OTW6.out _ _ _ HNB.out.1 KX5.out);have K116:=Hd (OTW6.out _ _ _ HN1.out.1 K115.out);have K126:=Hd (OTW6.out _ _ _ HN1.out.2.1 K125.out);have K56:=Hd (OTW6.out _ _ _ HNW.out.1.1 K55.out);have K66:=Hd (OTW6.out _ _ _ HNW.out.2.1.1 K65.out);have K76:=Hd (OTW6.out _ _ _ HNW.out.2.2.1 K75.out);have K106:=KXW6;have HSZ6:Hid (w3.heap.size≤W6.heap.size):=Nat.le_trans HSZ5.out (aS1 (N:=w3.heap.size) HXI.out GRW6.out ((HXX.out W5 o).2 (.inl rfl)) (fun k hx=>HLV.out W5 k HSZ5.out hx)).1.size;have HK6X:=Hd (HK5X.out.trans (aS1 (N:=w3.heap.size) HXI.out GRW6.out ((HXX.out W5 o).2 (.inl rfl)) (fun k hx=>HLV.out W5 k HSZ5.out hx)));have HKO6:=Hd ((zN HB5.out).trans KOW6.out);have HBL6:Hid (Below w.heap.size W W6):=(HB5.out.mono HBW.out.size).trans (BXW6.out _ HWL.out);have HBW6:=Hd (HBW.out.trans HBL6.out);refine⟨trivial,(CallsIn.inRound l (callsIn_wide.2 (HC2.out W6 HBW6.out))).mono ?_⟩;rintro e W7 ⟨rfl,hb7⟩;have KX7:=Hd (KX6.out.below hb7);have K107:=Hd (K106.out.below hb7);have K117:=Hd (K116.out.below hb7);have K127:=Hd (K126.out.below hb7);have K57:=Hd (K56.out.below hb7);have K67:=Hd (K66.out.below hb7);have K77:=Hd (K76.out.below hb7);have HB7:=Hd hb7;have HSZ7:Hid (w3.heap.size≤W7.heap.size):=Nat.le_trans HSZ6.out hb7.size;have HK7X:=Hd (HK6X.out.trans (aTr (N:=w3.heap.size) HXI.out hb7 (fun k hx=>HLV.out W6 k HSZ6.out hx)));have HKO7:=Hd (HKO6.out.trans (zN hb7));have HBL7:Hid (Below w.heap.size W W7):=HBL6.out.trans (hb7.mono (Nat.le_trans HWL.out (by have:=HO.out;have:=HSZ6.out;omega)));have q1:=(KX7.out.cell 1).trans HQ1.out.1;have q2:=(KX7.out.cell 2).trans HQ1.out.2;clear hb7 b0 b1 c12 HC2
    by_cases t2:0<r2
    ·have e5:aRk fr til (pre ++ [x])=#[.string pn,.string pd]:=by rw[HS5.out,if_pos t2]
     have HE5:=Hd e5;clear e5 HS5;gi_wp2_with ((refine bQ (by rfl) 28 _ _ rfl (o+1) rfl #[.string pn,.string pd] rfl K117.out.2 HSP.out HSH.out HPO.out ?_;intro W8 kx bx ko kot gr;have KXW8:=Hd kx;have BXW8:=Hd bx;have KOW8:=Hd ko;have OTW8:=Hd kot;have GRW8:=Hd gr;have c12:=(kot _ _ _ HN1.out.2.2 K127.out).cell 0;have f12:=Boxed.frozen (aP.boxed (kot _ _ _ HN1.out.2.2 K127.out));clear kx bx ko kot gr));have hk8:=HK7X.out.trans (aS1 (N:=w3.heap.size) HXI.out GRW8.out (HX0.out.2.1 W7) (fun k hx=>HLV.out W7 k HSZ7.out hx));exact HFIN.out W8 (HKO7.out.trans KOW8.out) hk8 (by rw[HE4.out];exact OTW8.out _ _ _ HN1.out.1.symm K107.out) (by rw[HE5.out];exact KXW8.out) (OTW8.out _ _ _ HN1.out.2.2 K127.out) (OTW8.out _ _ _ HNW.out.1.2.1 K57.out) (OTW8.out _ _ _ HNW.out.2.1.2.1 K67.out) (OTW8.out _ _ _ HNW.out.2.2.2.1 K77.out) (HBL7.out.trans (BXW8.out _ (Nat.le_succ_of_le HWL.out)))
    ·have e5:aRk fr til (pre ++ [x])=aRk fr til pre:=by rw[HS5.out,if_neg t2]
     have HE5:=Hd e5;have c12:=K127.out.cell 0;have f12:=Boxed.frozen (aP.boxed K127.out);clear e5 HS5;gi_wp2_with fail;exact HFIN.out W7 HKO7.out HK7X.out (by rw[HE4.out];exact K107.out) (by rw[HE5.out];exact K117.out) K127.out K57.out K67.out K77.out HBL7.out
   ·have HE4:Hid (aTp fr til (pre ++ [x])=aTp fr til pre):=by show _=_;rw[HS4.out,if_neg t1]
    clear HS4;gi_wp2_with fail;have KX6:=KX5;have K106:=K105;have K116:=K115;have K126:=K125;have K56:=K55;have K66:=K65;have K76:=K75;have HSZ6:=HSZ5;have HK6X:=HK5X;have HKO6:=Hd (zN HB5.out);have HBL6:Hid (Below w.heap.size W W5):=HB5.out.mono HBW.out.size;have HBW6:=Hd (HBW.out.trans HBL6.out);refine⟨trivial,(CallsIn.inRound l (callsIn_wide.2 (HC2.out W5 HBW6.out))).mono ?_⟩;rintro e W7 ⟨rfl,hb7⟩;have KX7:=Hd (KX6.out.below hb7);have K107:=Hd (K106.out.below hb7);have K117:=Hd (K116.out.below hb7);have K127:=Hd (K126.out.below hb7);have K57:=Hd (K56.out.below hb7);have K67:=Hd (K66.out.below hb7);have K77:=Hd (K76.out.below hb7);have HB7:=Hd hb7;have HSZ7:Hid (w3.heap.size≤W7.heap.size):=Nat.le_trans HSZ6.out hb7.size;have HK7X:=Hd (HK6X.out.trans (aTr (N:=w3.heap.size) HXI.out hb7 (fun k hx=>HLV.out W5 k HSZ6.out hx)));have HKO7:=Hd (HKO6.out.trans (zN hb7));have HBL7:Hid (Below w.heap.size W W7):=HBL6.out.trans (hb7.mono (Nat.le_trans HWL.out (by have:=HO.out;have:=HSZ6.out;omega)));have q1:=(KX7.out.cell 1).trans HQ1.out.1;have q2:=(KX7.out.cell 2).trans HQ1.out.2;clear hb7 b0 b1 c12 HC2
    by_cases t2:0<r2
    ·have e5:aRk fr til (pre ++ [x])=#[.string pn,.string pd]:=by rw[HS5.out,if_pos t2]
     have HE5:=Hd e5;clear e5 HS5;gi_wp2_with ((refine bQ (by rfl) 28 _ _ rfl (o+1) rfl #[.string pn,.string pd] rfl K117.out.2 HSP.out HSH.out HPO.out ?_;intro W8 kx bx ko kot gr;have KXW8:=Hd kx;have BXW8:=Hd bx;have KOW8:=Hd ko;have OTW8:=Hd kot;have GRW8:=Hd gr;have c12:=(kot _ _ _ HN1.out.2.2 K127.out).cell 0;have f12:=Boxed.frozen (aP.boxed (kot _ _ _ HN1.out.2.2 K127.out));clear kx bx ko kot gr));have hk8:=HK7X.out.trans (aS1 (N:=w3.heap.size) HXI.out GRW8.out (HX0.out.2.1 W7) (fun k hx=>HLV.out W7 k HSZ7.out hx));exact HFIN.out W8 (HKO7.out.trans KOW8.out) hk8 (by rw[HE4.out];exact OTW8.out _ _ _ HN1.out.1.symm K107.out) (by rw[HE5.out];exact KXW8.out) (OTW8.out _ _ _ HN1.out.2.2 K127.out) (OTW8.out _ _ _ HNW.out.1.2.1 K57.out) (OTW8.out _ _ _ HNW.out.2.1.2.1 K67.out) (OTW8.out _ _ _ HNW.out.2.2.2.1 K77.out) (HBL7.out.trans (BXW8.out _ (Nat.le_succ_of_le HWL.out)))
    ·have e5:aRk fr til (pre ++ [x])=aRk fr til pre:=by rw[HS5.out,if_neg t2]
     have HE5:=Hd e5;have c12:=K127.out.cell 0;have f12:=Boxed.frozen (aP.boxed K127.out);clear e5 HS5;gi_wp2_with fail;exact HFIN.out W7 HKO7.out HK7X.out (by rw[HE4.out];exact K107.out) (by rw[HE5.out];exact K117.out) K127.out K57.out K67.out K77.out HBL7.out
 case done =>
  rintro D ys W hD rfl ⟨⟨e1,e2,e3,e4,e5,e6⟩,hs,hB,hsz⟩ hK;have h1:=HO.out;have h2:=HWO.out;have hD1:w.heap.size+1≠D∧w.heap.size+1+1≠D:=by omega
  have HK:=Hd hK;have HBB:=Hd hB;have HDD:=Hd hD1;have HHD:Hid (w.heap.size≤D):=by show _≤_;omega
  obtain⟨L,hL⟩:∃L,L=ser ins (xs.map aF.f):=⟨_,rfl⟩
  rw[←hL] at e1 e2 e3;have HLE:=Hd hL;have c12:=e3.cell 0;have K6:=Hd e5;have K7:=Hd e6;have K10:=Hd e1;have K11:=Hd e2;have HSF:Hid ((Tryz.prog.info? 28).map (·.size)=some Z2.size):=aPp;have HZ1:Hid (Z2.all (·.oneCell')=true):=aP0 ⟨[],[]⟩;have HN:Hid (w.heap.size+1+1≠w.heap.size+1∧o≠w.heap.size+1∧o+1≠w.heap.size+1∧o≠w.heap.size+1+1∧o+1≠w.heap.size+1+1):=by show _∧_;omega
  clear e1 e2 e3 e4 e5 e6 hs hB hK hD1 hL hsz hD;cases hany:aTx fr til L with
  |false =>
   rw[hany] at c12;have hlz:aTp fr til L=Z2∧aRk fr til L=Z2:=by
    unfold aTx at hany;unfold aTp aRk;cases hc:aRm fr til L with
    |nil=>exact⟨rfl,rfl⟩
    |cons _ _=>rw[hc] at hany;cases hany
   have HLZ:=Hd hlz;have HAN:=Hd hany;clear hlz hany K10 K11;gi_wp2_with (first|(refine bQ (by rfl) 28 _ _ rfl (w.heap.size+1) rfl #[.string ⟨#[]⟩,.string ⟨#[]⟩] rfl K6.out.2 HSF.out rfl HZ1.out ?_;intro W4 kx bx ko kot _;have KX4:=Hd kx;have K74:=Hd (kot _ _ _ HN.out.1 K7.out);have BX4:=Hd (bx _ (Nat.le_succ _));have HK4:=Hd (ko.2 D _ HK.out rfl);clear kx bx ko kot)|(refine bQ (by rfl) 28 _ _ rfl (w.heap.size+1+1) rfl #[.string ⟨#[]⟩,.string ⟨#[]⟩] rfl K74.out.2 HSF.out rfl HZ1.out ?_;intro W5 kx bx ko kot _;have KX5:=Hd (kot _ _ _ HN.out.1.symm KX4.out);have K75:=Hd kx;have BX5:=Hd (bx w.heap.size (by omega));have HK5:=Hd (ko.2 D _ HK4.out rfl);clear kx bx ko kot));refine⟨by simp,.inl ⟨_,_,rfl,run_takeDeferred HK5.out,?_⟩⟩;have hh6:=(World.putObj_heap_other (w:=W5) (o:=.deferred none) HDD.out.1).trans KX5.out.2;have hh7:=(World.putObj_heap_other (w:=W5) (o:=.deferred none) HDD.out.2).trans K75.out.2;exact⟨_,aTw rfl _ _ _ _ _ _ _ _ _ rfl rfl hh6 hh7 Tryz.underlying28 rfl HSF.out HSF.out,by rw[←HLE.out,HLZ.out.1,HLZ.out.2,HAN.out];rfl,((HBB.out.trans BX4.out).trans BX5.out).trans (belowK_b (w:=w) (Nl _) W5 D _ _ HHD.out HK5.out rfl rfl)⟩
  |true =>
   rw[hany] at c12;have HLO:Hid ((aTp fr til L).size=2∧(aRk fr til L).size=2):=⟨rfl,rfl⟩
   have HL1:Hid ((aTp fr til L).all (·.oneCell')=true∧(aRk fr til L).all (·.oneCell')=true):=⟨aP0 _,aP0 _⟩
   have HAN:=Hd hany;obtain⟨lo,hlo⟩:∃lo,lo=aTp fr til L:=⟨_,rfl⟩
   obtain⟨hi,hhi⟩:∃hi,hi=aRk fr til L:=⟨_,rfl⟩
   rw[←hlo] at K10 HLO HL1;rw[←hhi] at K11 HLO HL1;have HEQ:=Hd (And.intro hlo hhi);clear hany hlo hhi;gi_wp2_with fail;refine aVh (C:=⟨w,w.heap.size,w.heap.size+1,w.heap.size+1+1,o,o+1,D,lo,hi⟩) ⟨rfl,rfl,rfl,rfl,rfl,HN.out.1.symm,⟨HN.out.2.1,HN.out.2.2.1,HN.out.2.2.2.1,HN.out.2.2.2.2⟩,⟨HDD.out.1.symm,HDD.out.2.symm⟩,⟨Nat.le_succ _,by show w.heap.size≤w.heap.size+1+1;omega⟩,HLO.out,HL1.out⟩ rfl rfl (fun l hno=>⟨⟨K10.out,K11.out⟩,⟨Z2,rfl,K6.out,fun h=>absurd h (hno 2)⟩,⟨Z2,rfl,K7.out,fun h=>absurd h (hno 3)⟩,aD HBB.out 1,HK.out⟩) ?_;intro W5 k6 k7 hb5 hk5;have K65:=Hd k6;have K75:=Hd k7;have HB5:=Hd hb5;have HK5:=Hd hk5;simp only[iZ,aV1,List.foldl,List.setIfInBounds_toArray,List.set_cons_zero,List.set_cons_succ,ExC.val];clear k6 k7 hb5 hk5 K6 K7 K10 K11 HBB HK;gi_wp2;refine⟨by simp,.inl ⟨_,_,rfl,run_takeDeferred HK5.out,?_⟩⟩;have hh6:=(World.putObj_heap_other (w:=W5) (o:=.deferred none) HDD.out.1).trans K65.out.2;have hh7:=(World.putObj_heap_other (w:=W5) (o:=.deferred none) HDD.out.2).trans K75.out.2;exact⟨_,aTw rfl _ _ _ _ _ _ _ _ _ rfl rfl hh6 hh7 Tryz.underlying28 rfl (by rw[HLO.out.1];exact aPp) (by rw[HLO.out.2];exact aPp),by rw[←HLE.out,←HEQ.out.1,←HEQ.out.2,HAN.out];rfl,HB5.out.trans (belowK_b (w:=w) (Nl _) W5 D _ _ HHD.out HK5.out rfl rfl)⟩
end
section
open Go Go.RowKit Num
theorem aV4:∃q pq,aX.find? (fun p=>p.1==(15:Int))=some q∧q.2.has.getD 7 false=true∧q.2.nums.find? (fun p=>p.1==(7:Int))=some pq:=⟨_,_,rfl,rfl,rfl⟩
theorem aU8{f:aE}(h:bY f=0)(hc:f.cancelled=false)(hk:f.kind=15):Cu f.price.n f.price.d=true:=by
 obtain⟨_,_,_,q,hq,hf⟩:=(mY hc).1 h;obtain⟨q',pq,h1,h2,h3⟩:=aV4;rw[hk,h1] at hq;obtain rfl:=Option.some.inj hq;have h4:=hf 7 (by decide);unfold bX at h4;rw[if_pos h2] at h4;have h5:bT f q'.2 7=lim pq.2.1 pq.2.2 f.price.n f.price.d:=by
  unfold bT;rw[if_neg (by decide),if_neg (by decide),if_neg (by decide),if_neg (by decide),if_neg (by decide),if_neg (by decide),if_neg (by decide),show ((7:Nat):Int)=7 from rfl,h3];rfl
 rw[h5] at h4;unfold lim at h4;cases hfk:Cu f.price.n f.price.d with
 |true=>rfl
 |false=>rw[if_pos hfk] at h4;cases h4
theorem aVz{n d:List UInt8}(h:Cu n d=true):0<lU d:=by
 unfold Cu at h;rw[Bool.and_eq_true] at h;have h2:d=nD (fT (val n) (lU d)):=by simpa using h.2
 have h3:=aKn (N:=val n) (qQ d);rw[h2,aK1 h3];exact h3
theorem aVx{fs:List aE}{ins:List UInt8}{q:aJv}(hv:dF fs=0)(h:q∈ser ins fs):0<lU q.price.d:=by
 obtain⟨f,hf,hq,rfl⟩:=aLv hv h;obtain⟨h1,h2,_⟩:=(oW.1 hv).2.1 f hf;unfold isQ at hq;simp at hq;exact aVz (aU8 h1 h2 hq.1)
def aT8(p:bZ):List Value:=(aPf p).toList
def aT3(l:List bZ):List Value:=l.flatMap aT8
theorem aUf(l:List bZ)(p:bZ):aT3 (l ++ [p])=aT3 l++(aPf p).toList:=by simp[aT3,aT8]
theorem aUd{w:World}{a:Option Addr}{l:List bZ}(h:dT w a (aT3 l)):gJ w a 2 (l.map aT8):=by
 unfold aT3 at h;rw[List.flatMap_def] at h;refine oY (by decide) (fun cs hcs=>?_) h;obtain⟨q,_,rfl⟩:=List.mem_map.1 hcs;rfl
theorem aUl(l:List bZ)(a:Option Addr)(c:Nat)(p:bZ)(w:World)(hn:l.length≤1000000)(hr:gJ w a 2 (l.map aT8))(hm:p∈l):
  Calls Tryz.prog 76 #[.slice a l.length c,.agg #[.string ⟨p.n.toArray⟩,.string ⟨p.d.toArray⟩]] w fun e w'=>(∃i:Nat,e=.returned (.int .i64 (i:Int)))∧Below w.heap.size w w':=by
 have HB0:=Hd (aB w (.cells #[.string ⟨p.n.toArray⟩,.string ⟨p.d.toArray⟩] 28));have KP:=Hd (aP.new0 w #[.string ⟨p.n.toArray⟩,.string ⟨p.d.toArray⟩] 28);have HR:=Hd (hr.below HB0.out);obtain⟨m,hpm⟩:=List.getElem?_of_mem hm;have HPM:=Hd hpm;have HPE:Hid (∀y:bZ,l[m]?=some y→(⟨y.n.toArray⟩:ByteArray)=⟨p.n.toArray⟩∧(⟨y.d.toArray⟩:ByteArray)=⟨p.d.toArray⟩):=fun y hy=>by
  rw[hpm] at hy;obtain rfl:=Option.some.inj hy;exact⟨rfl,rfl⟩
 clear hr hm hpm;generalize(⟨p.n.toArray⟩:ByteArray)=an at *;generalize(⟨p.d.toArray⟩:ByteArray)=am at *;obtain⟨w0,hw0⟩:∃w0,w0=w.alloc (.cells #[.string an,.string am] 28):=⟨_,rfl⟩
 rw[←hw0] at HB0 KP HR;go_enter Tryz.func76,Tryz.ntmps76;go_wp2_with fail;rw[←hw0];clear hw0;go_loopw [8] (fun iv wr=>∃k:Nat,k≤l.length∧iv=.int .i64 k∧Hid (k≤m)∧Hid (Below w0.heap.size w0 wr)) (fun iv _=>l.length-(intOf iv).toNat)
 case atStart=>exact⟨0,Nat.zero_le _,rfl,Nat.zero_le _,Br _ _⟩
 case round =>
  obtain⟨k,hk,rfl,HS,HB⟩:=hrel
  by_cases hlt:k<l.length
  ·obtain⟨x,hx⟩:∃x,l[k]?=some x:=⟨l[k],Lg hlt⟩
   obtain⟨b,off,rfl,hbl,hc⟩:=(HR.out.below HB.out).addr (k:=k) (cs:=aT8 x) (by rw[List.getElem?_map,hx];rfl);have r0:wr.cell? ⟨b,off+k*2,none⟩=some (.string ⟨x.n.toArray⟩):=hc 0 _ rfl;have r1:wr.cell? ⟨b,off+k*2+1,none⟩=some (.string ⟨x.d.toArray⟩):=hc 1 _ rfl;have c0:=((KP.out.below HB.out).cell 0).trans (show _=some (.string an) from rfl);have c1:=((KP.out.below HB.out).cell 1).trans (show _=some (.string am) from rfl);have HNX:Hid (¬ (an.toList=(⟨x.n.toArray⟩:ByteArray).toList∧am.toList=(⟨x.d.toArray⟩:ByteArray).toList)→k+1≤m):=fun h=>by
    have h1:=HS.out
    by_cases e:k=m
    ·subst e;obtain⟨e1,e2⟩:=HPE.out x hx;exact absurd ⟨by rw[e1],by rw[e2]⟩ h
    ·omega
   have HLB:=Hd (aA HB0.out HB.out);clear hx hc HPE HPM;generalize(⟨x.n.toArray⟩:ByteArray)=bn at *;generalize(⟨x.d.toArray⟩:ByteArray)=bm at *
   by_cases h4:an.toList=bn.toList
   ·by_cases h5:am.toList=bm.toList
    ·clear HNX;go_wp2_with fail;go_quiet (fail);go_wp2;go_ret;exact⟨⟨k,rfl⟩,aD HLB.out _⟩
    ·have HS3:=Hd (HNX.out (fun h=>h5 h.2));clear HNX;go_wp2_with fail;go_quiet (fail);go_wp2;go_roundw
     case rel=>exact⟨k+1,by omega,by go_num,HS3,Hd (aD HB.out _)⟩
     case measure=>simp[intOf];omega
   ·have HS3:=Hd (HNX.out (fun h=>h4 h.1));clear HNX;go_wp2_with fail;go_quiet (fail);go_wp2;go_roundw
    case rel=>exact⟨k+1,by omega,by go_num,HS3,Hd (aD HB.out _)⟩
    case measure=>simp[intOf];omega
  ·exact absurd (Li.1 HPM.out).1 (by have:=HS.out;omega)
theorem aT2(l:List bZ)(a:Option Addr)(c:Nat)(p:bZ)(w:World)(hn:l.length≤1000000)(hr:gJ w a 2 (l.map aT8))(hm:p∈l):
  Calls Tryz.prog 43 #[.slice a l.length c,.agg #[.string ⟨p.n.toArray⟩,.string ⟨p.d.toArray⟩]] w fun e w'=>e=.returned (.bool true)∧Below w.heap.size w w':=by
 have HB0:=Hd (aB w (.cells #[.string ⟨p.n.toArray⟩,.string ⟨p.d.toArray⟩] 28));have HI:=Hd (aUl l a c p (w.alloc (.cells #[.string ⟨p.n.toArray⟩,.string ⟨p.d.toArray⟩] 28)) hn (hr.below HB0.out) hm);clear hr hm hn;generalize l.length=n at *;generalize(⟨p.n.toArray⟩:ByteArray)=an at *;generalize(⟨p.d.toArray⟩:ByteArray)=am at *;go_enter Tryz.func43,Tryz.ntmps43;go_wp2_with fail;refine HI.out.mono ?_;rintro e w1 ⟨⟨i,rfl⟩,hb⟩;have HB:=Hd (aA HB0.out hb);have hge:(0:Int)≤(i:Int):=Int.natCast_nonneg i;clear hb HI;go_wp2;go_ret;exact⟨by simp,HB.out⟩
end
section
open Go.RowKit Num Dt Go.ChangeShapes Go.WideShapes Go.ChangeAt
section
variable {H:Type}{enc:TypeId×Value→H}{w:World}{base:Nat}{held:Bool}
theorem aUw{v:Value}{d:DataW H}{ps:List MemPlace}(hv:Value.okWide Tryz.prog w .any base 70 v)(h:DataW.Trod enc Tryz.prog w 0 (fun _=>true) held 70 v d ps):
  ∃fr til:Int,v=.agg #[.int .i64 fr,.int .i64 til]:=by
 obtain⟨cs,rfl,_⟩:=okWide_struct Tryz.underlying70 hv;obtain⟨n,hn⟩:=h;obtain⟨xs,k,_,_,hlen,hxl,hf⟩:=DataW.trod_struct Tryz.underlying70 hn;have hg:∀i,i<2→∃y,xs[i]?=some y:=fun i hi=>⟨_,Lg (by rw[hxl];exact hi)⟩
 obtain⟨y0,g0⟩:=hg 0 (by decide);obtain⟨y1,g1⟩:=hg 1 (by decide);obtain⟨fr,e0,_⟩:=yI Tryz.underlying23 (by kernel_rfl) ((hf 0 _ rfl).trans g0);obtain⟨til,e1,_⟩:=yI Tryz.underlying23 (by kernel_rfl) ((hf 1 _ rfl).trans g1);have hl2:cs.toList.length=2:=hlen.trans (by kernel_rfl);refine⟨fr,til,?_⟩;congr 1;refine Array.toList_inj.1 (List.ext_getElem? fun j=>?_)
 match j with
 |0=>exact e0
 |1=>exact e1
 |j+2=>rw[List.getElem?_eq_none (by omega),List.getElem?_eq_none (by simp)]
end
end
end Go.Proofs.YtejkibnaidiklaaGreatDoor
