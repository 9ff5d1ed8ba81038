/- Class Cmp Flow FCompare ViewCheck Where Last Last2 Choice Late -/
import Derived.Test.YthjekgfoidmagaaGreatDoorUViewA
import Derived.Test.YthjekgfoidmagaaGreatDoorUGreat2
set_option maxHeartbeats 16000000
set_option maxRecDepth 100000
namespace Go.Proofs.YthjekgfoidmagaaGreatDoor
open Go.Proofs.Tryz
section
open Go Go.RowKit Num
theorem Jn{P:Program}{ops:Array Oper}{rest:List Oper}{o:Oper}{a:Act}{w w':World}{Q:Exit->Act->World->Prop}(hg:o.guard=none)(v:Value)(hrun:(execOp a.eval o).run P w=.ok (.value v) w')(hK:wpList P ops Q rest (a.put o.dst v) w'):wpList P ops Q (o::rest) a w:=by
 refine wpList_plain hg fun K' hK'=>?_
 unfold Oper.wp;rw[hrun];exact hK' _ _ hK
theorem oI{P:Program}{ops:Array Oper}{rest:List Oper}{o:Oper}{a:Act}{w:World}{Q:Exit->Act->World->Prop}(hg:o.guard=none)(t:TypeId)(m x:Operand)(ok:Bool)(hop:o.op=.lookup t m x ok)(v:Value)(hrun:(Instr.lookup t (a.eval m) (a.eval x) ok).run P w=.ok v w)(hK:wpList P ops Q rest (a.put o.dst v) w):wpList P ops Q (o::rest) a w :=
 Jn hg v (by simp[execOp,hop,hrun,Result.andThen]) hK
theorem fI{P:Program}{ops:Array Oper}{rest:List Oper}{o:Oper}{a:Act}{w:World}{Q:Exit->Act->World->Prop}(hgd:o.guard=none)(ty:TypeId)(x y:Operand)(ho:o.op=.store ty x y)(g:Nat)(hx:a.eval x=.pointer (some ⟨g,0,none⟩))(cells:Array Value)(hy:a.eval y=.agg cells)
  {t:TypeId}{old:Array Value}(hg:w.heap[g]?=some (.cells old t (0,0))) (hi:(P.info? ty).map (·.size)=some cells.size) (hold:old.size=cells.size) (h1:cells.all (·.oneCell')=true)
  (h:∀w',aP w' g cells t->(∀B,B<=g->Below B w w')->w'.heap.size=w.heap.size->wpList P ops Q rest (a.put o.dst undef) w'):wpList P ops Q (o::rest) a w :=
 wpList_store_row hgd ty x y ho g cells hx hy t old hg hi hold h1 (h _ ⟨by simp[World.setRow];exact(Ai.1 hg).1,setRow_heap _ _ _ _ _ _ hg⟩ (fun B hB=>below_setRow (Br _ _) hB _) (by simp[World.setRow]))
theorem Jm.cls{w:World}{cs:Array Value}{k:Int}(h:Jm w (aX.find? fun p=>p.1==k) (.agg cs)):cs[1]?=some (.int .i64 (eY k)):=by
 unfold eY;cases hq:aX.find? fun p=>p.1==k with
 |none =>
  rw[hq] at h;have h:Value.agg cs=.agg ZK:=h;injection h with h
  subst h;rfl
 |some q =>
  rw[hq] at h;obtain⟨mv,e,_⟩:=h;injection e with e
  subst e;rfl
def Md(k:Int):Int:=if(aX.find? fun p=>p.1==k).isSome=true then 0 else 7
theorem Vs{k:Int}(h:(aX.find? fun p=>p.1==k).isSome=false):eY k=0:=by
 unfold eY;cases hq:aX.find? fun p=>p.1==k with
 |none=>rfl
 |some q=>rw[hq] at h;cases h
theorem Db(k:Int)(w:World):
  Calls prog 25 #[.int .i64 k] w fun e w'=>e=.returned (.tuple #[.int .i64 (eY k),.int .i64 (Md k)])/\Below w.heap.size w w':=by
 obtain⟨cl,hcl⟩:∃cl,cl=eY k:=⟨_,rfl⟩
 obtain⟨fd,hfd⟩:∃fd,fd=(aX.find? fun p=>p.1==k).isSome:=⟨_,rfl⟩
 have HN:Hid (fd=false->cl=0):=fun h=>by rw[hcl];exact Vs (by rw[<-hfd];exact h)
 have HER:Hid (Md k=if fd=true then 0 else 7):=by show _=_;rw[hfd];rfl
 have HCL:=Hd hcl;have HFD:=Hd hfd;rw[<-hcl];clear hcl hfd;generalize Md k=er at *;go_enter func25,ntmps25;go_wp2_with fail;refine(Cq _).mono ?_;rintro e w1 ⟨bm,rfl,hm,hb⟩;obtain⟨v,hv,hrun⟩:=Co hm k;obtain⟨cs,rfl,hsz,hone⟩:=hv.cells;have hcls:=hv.cls;rw[<-HCL.out] at hcls;rw[<-HFD.out] at hrun;have HR:=Hd hrun;have HB:=Hd hb;have HSZ:Hid ((prog.info? 62).map (·.size)=some cs.size):=by show _=_;rw[hsz];exact oJ
 have HONE:=Hd hone;have HS17:Hid (ZK.size=cs.size):=hsz.symm;have HNEW:=Hd (heap_alloc_new w1 (.cells ZK 62));have HC1:=Hd hcls;have HBa:Hid (Below w.heap.size w (w1.alloc (.cells ZK 62))):=aA hb (aB _ _);clear hrun hv hm hb hone hsz hcls HFD HCL;cases fd with
 |true =>
  obtain rfl:=HER.out;clear HN HER;go_wp2_with (first|(refine oI rfl 64 _ _ true rfl _ HR.out ?_)|(refine fI rfl 62 _ _ rfl w1.heap.size rfl cs rfl HNEW.out HSZ.out HS17.out HONE.out ?_;intro w2 k2 b2 _;have HB2:=Hd (HBa.out.trans (b2 _ HB.out.size));have c1:=(k2.cell 1).trans HC1.out;clear k2 b2));go_ret2;exact⟨rfl,HB2.out⟩
 |false =>
  obtain rfl:=HN.out rfl;obtain rfl:=HER.out;clear HN HER;go_wp2_with (first|(refine oI rfl 64 _ _ true rfl _ HR.out ?_)|(refine fI rfl 62 _ _ rfl w1.heap.size rfl cs rfl HNEW.out HSZ.out HS17.out HONE.out ?_;intro w2 k2 b2 _;have HB2:=Hd (HBa.out.trans (b2 _ HB.out.size));have c1:=(k2.cell 1).trans HC1.out;clear k2 b2));go_ret2;exact⟨rfl,HB2.out⟩
end
section
open Go Go.RowKit Num
theorem aEx(x:Int)(w:World):Calls prog 105 #[.int .i64 x] w fun e w'=>e=.returned (.bool false)/\w'=w:=by
 go_enter func105,ntmps105;go_wp2;go_ret;exact⟨by simp,rfl⟩
theorem aEw(x:Int)(w:World):Calls prog 106 #[.int .i64 x] w fun e w'=>e=.returned (.bool false)/\w'=w:=by
 go_enter func106,ntmps106;go_wp2;go_ret;exact⟨by simp,rfl⟩
theorem aEv(x:ByteArray)(w:World):Calls prog 107 #[.string x] w fun e w'=>e=.returned (.bool false)/\w'=w:=by
 go_enter func107,ntmps107;go_wp2;go_ret;exact⟨by simp,rfl⟩
theorem Mc(x y:Int)(w:World):Calls prog 44 #[.int .i64 x,.int .i64 y] w fun e w'=>e=.returned (.int .i64 (bG x y))/\w'=w:=by
 have HN:Hid (∀z W,Calls prog 105 #[.int .i64 z] W fun e w'=>e=.returned (.bool false)/\w'=W):=aEx;unfold bG
 by_cases h1:x<y
 ·rw[if_pos h1];go_enter func44,ntmps44;go_wp2_with (refine(HN.out _ _).mono ?_;rintro e w' ⟨rfl,rfl⟩);go_ret;exact⟨rfl,rfl⟩
 ·rw[if_neg h1]
  by_cases h2:y<x
  ·rw[if_pos h2];go_enter func44,ntmps44;go_wp2_with (refine(HN.out _ _).mono ?_;rintro e w' ⟨rfl,rfl⟩);go_ret;exact⟨rfl,rfl⟩
  ·rw[if_neg h2];go_enter func44,ntmps44;go_wp2_with (refine(HN.out _ _).mono ?_;rintro e w' ⟨rfl,rfl⟩);go_ret;exact⟨rfl,rfl⟩
theorem Ma(x y:Int)(w:World):Calls prog 45 #[.int .i64 x,.int .i64 y] w fun e w'=>e=.returned (.int .i64 (bG x y))/\w'=w:=by
 have HN:Hid (∀z W,Calls prog 106 #[.int .i64 z] W fun e w'=>e=.returned (.bool false)/\w'=W):=aEw;unfold bG
 by_cases h1:x<y
 ·rw[if_pos h1];go_enter func45,ntmps45;go_wp2_with (refine(HN.out _ _).mono ?_;rintro e w' ⟨rfl,rfl⟩);go_ret;exact⟨rfl,rfl⟩
 ·rw[if_neg h1]
  by_cases h2:y<x
  ·rw[if_pos h2];go_enter func45,ntmps45;go_wp2_with (refine(HN.out _ _).mono ?_;rintro e w' ⟨rfl,rfl⟩);go_ret;exact⟨rfl,rfl⟩
  ·rw[if_neg h2];go_enter func45,ntmps45;go_wp2_with (refine(HN.out _ _).mono ?_;rintro e w' ⟨rfl,rfl⟩);go_ret;exact⟨rfl,rfl⟩
theorem Lz(x y:List UInt8)(w:World):Calls prog 46 #[.string ⟨x.toArray⟩,.string ⟨y.toArray⟩] w fun e w'=>e=.returned (.int .i64 (sS x y))/\w'=w:=by
 have HN:Hid (∀z W,Calls prog 107 #[.string z] W fun e w'=>e=.returned (.bool false)/\w'=W):=aEv;have b1:Op.bytesLess x y=decide (x<y):=bytesLess_eq x y;have b2:Op.bytesLess y x=decide (y<x):=bytesLess_eq y x;unfold sS
 by_cases h1:x<y
 ·rw[if_pos h1];rw[decide_eq_true h1] at b1;go_enter func46,ntmps46;go_wp2_with (refine(HN.out _ _).mono ?_;rintro e w' ⟨rfl,rfl⟩);go_ret;exact⟨rfl,rfl⟩
 ·rw[if_neg h1];rw[decide_eq_false h1] at b1;have b3:(x==y) = !decide (y<x):=by
   by_cases h:x=y
   ·subst h;simp[List.lt_irrefl]
   ·have:y<x:=by
     rcases Decidable.em (y<x) with h'|h'
     ·exact h'
     ·exact absurd (List.le_antisymm h' h1) h
    simp[h,this]
  by_cases h2:y<x
  ·rw[if_pos h2];rw[decide_eq_true h2] at b2 b3;have b3:(x==y)=false:=b3;go_enter func46,ntmps46;go_wp2_with (refine(HN.out _ _).mono ?_;rintro e w' ⟨rfl,rfl⟩);go_ret;exact⟨rfl,rfl⟩
  ·rw[if_neg h2];rw[decide_eq_false h2] at b2 b3;have b3:(x==y)=true:=b3;go_enter func46,ntmps46;go_wp2_with (refine(HN.out _ _).mono ?_;rintro e w' ⟨rfl,rfl⟩);go_ret;exact⟨rfl,rfl⟩
def Xi(x y z:Int):Int:=if x≠0 then x else if y≠0 then y else z
def aFa(x y z:Int)(w wr:World)(k:Nat):Prop:=wr=w/\(k=0∨(k=1/\x=0)∨(k=2/\x=0/\y=0)∨(k=3/\x=0/\y=0/\z=0))
theorem Xh(x y z:Int)(g:Nat)(w:World)(hb:aP w g #[.int .i64 x,.int .i64 y,.int .i64 z] 3):Calls prog 43 #[.slice (some ⟨g,0,none⟩) 3 3] w fun e w'=>e=.returned (.int .i64 (Xi x y z))/\w'=w:=by
 have c0:=(hb.cell 0).trans (show _=some (.int .i64 x) from rfl);have c1:=(hb.cell 1).trans (show _=some (.int .i64 y) from rfl);have c2:=(hb.cell 2).trans (show _=some (.int .i64 z) from rfl);clear hb;have HR:Hid ((x≠0->Xi x y z=x)/\(x=0->y≠0->Xi x y z=y)/\(x=0->y=0->Xi x y z=z)):=⟨fun h=>if_pos h,fun h1 h2=>by unfold Xi;rw[if_neg (by simpa using h1),if_pos h2],fun h1 h2=>by unfold Xi;rw[if_neg (by simpa using h1),if_neg (by simpa using h2)]⟩
 generalize Xi x y z=r at *;go_enter func43,ntmps43;go_wp2_with fail;go_loopw [8] (fun iv wr=>∃k:Nat,iv=.int .i64 k/\aFa x y z w wr k) (fun iv _=>3-(intOf iv).toNat)
 case atStart=>exact⟨0,rfl,rfl,.inl rfl⟩
 case round =>
  obtain⟨k,rfl,rfl,H⟩:=hrel;rcases H with rfl|⟨rfl,rfl⟩|⟨rfl,rfl,rfl⟩|⟨rfl,rfl,rfl,rfl⟩
  ·by_cases h:x=0
   ·subst h;go_wp2;go_roundw
    case rel=>exact⟨1,by go_num,rfl,.inr (.inl ⟨rfl,rfl⟩)⟩
    case measure=>simp[intOf]
   ·have h':(x==0)=false:=by simpa using h
    have HV:=Hd (HR.out.1 h);go_wp2;go_ret;exact⟨by rw[HV.out];rfl,rfl⟩
  ·by_cases h:y=0
   ·subst h;go_wp2;go_roundw
    case rel=>exact⟨2,by go_num,rfl,.inr (.inr (.inl ⟨rfl,rfl,rfl⟩))⟩
    case measure=>simp[intOf]
   ·have h':(y==0)=false:=by simpa using h
    have HV:=Hd (HR.out.2.1 rfl h);go_wp2;go_ret;exact⟨by rw[HV.out];rfl,rfl⟩
  ·by_cases h:z=0
   ·subst h;go_wp2;go_roundw
    case rel=>exact⟨3,by go_num,rfl,.inr (.inr (.inr ⟨rfl,rfl,rfl,rfl⟩))⟩
    case measure=>simp[intOf]
   ·have h':(z==0)=false:=by simpa using h
    have HV:=Hd (HR.out.2.2 rfl rfl);go_wp2;go_ret;exact⟨by rw[HV.out];rfl,rfl⟩
  ·have HV:=Hd (HR.out.2.2 rfl rfl);go_wp2;go_ret;exact⟨by rw[HV.out];rfl,rfl⟩
end
section
open Go Go.RowKit
def gv(b:Bool)(v:Value):Value:=if b=true then v else undef
def sR(ops:Array Oper):List (Nat×Nat):=(List.range ops.size).filterMap fun i=>(ops[i]?).bind fun o=>o.dst.map fun s=>(i,s)
theorem pG{ops:Array Oper}{i s:Nat}:(i,s)∈sR ops↔∃o,ops[i]?=some o/\o.dst=some s:=by
 unfold sR;rw[List.mem_filterMap];constructor
 ·rintro⟨k,_,h⟩;cases ho:ops[k]? with
  |none=>rw[ho] at h;cases h
  |some o =>
   rw[ho] at h;simp only[Option.bind_some,Option.map_eq_some_iff] at h;obtain⟨s',h1,h2⟩:=h;injection h2 with e1 e2
   subst e1 e2;exact⟨o,ho,h1⟩
 ·rintro⟨o,ho,h⟩;exact⟨i,List.mem_range.2 (Ai.1 ho).1,by rw[ho];simp[h]⟩
def Uq(md:Region.Mode)(ops:Array Oper):Bool:=(List.range ops.size).all fun i=>((ops[i]?).map fun o=>o.after.all fun e=>!Region.binds md e || decide (e.on<i)).getD true
def iZ(f:Nat->Value)(ds:List (Nat×Nat))(t:Array Value):Array Value:=ds.foldl (fun t p=>t.setIfInBounds p.2 (f p.1)) t
theorem zI(f:Nat->Value):∀(ds:List (Nat×Nat)) (t:Array Value) (x:Nat),x ∉ ds.map Prod.snd->(iZ f ds t)[x]?=t[x]?
 | [],_,_,_=>rfl
 |p::r,t,x,h=>by
  simp only[List.map_cons,List.mem_cons,not_or] at h;have:=zI f r (t.setIfInBounds p.2 (f p.1)) x h.2;show (iZ f r (t.setIfInBounds p.2 (f p.1)))[x]?=_;rw[this,Array.getElem?_setIfInBounds_ne (Ne.symm h.1)]
theorem Of(f:Nat->Value):∀(ds:List (Nat×Nat)) (t:Array Value),(ds.map Prod.snd).Nodup->(∀p,p∈ds->p.2<t.size)->∀i s,(i,s)∈ds->(iZ f ds t)[s]?=some (f i)
 | [],_,_,_,i,s,h=>by cases h
 |p::r,t,hn,hs,i,s,h=>by
  rw[List.map_cons,List.nodup_cons] at hn;show (iZ f r (t.setIfInBounds p.2 (f p.1)))[s]?=_;rcases List.mem_cons.1 h with e|h
  ·subst e;rw[zI f r _ s hn.1];have:=hs (i,s) (List.mem_cons_self);simp only at this;simp[this]
  ·exact Of f r _ hn.2 (fun q hq=>by rw[Array.size_setIfInBounds];exact hs q (List.mem_cons_of_mem _ hq)) i s h
section
variable {Γ:Type}{P:Program}{ops:Array Oper}{md:Region.Mode}{ds:List (Nat×Nat)}{val:Γ->Nat->Value}{G:Γ->Array Bool->World->Prop}{t0:Array Value}{d0:List Deferred}{Q:Exit->Act->World->Prop}{n:Nat}
structure uL(ops:Array Oper)(md:Region.Mode)(ds:List (Nat×Nat))(val:Γ->Nat->Value)(G:Γ->Array Bool->World->Prop)(t0:Array Value)(d0:List Deferred)(γ:Γ)(l:Array Bool)(a:Act)(w:World):Prop where
 sz:l.size=ops.size
 ts:a.tmps.size=t0.size
 df:a.defers=d0
 lo:∀x,x ∉ ds.map Prod.snd->a.tmps[x]?=t0[x]?
 vs:∀i s,(i,s)∈ds->lP l i->a.tmps[s]?=some (val γ i)
 cl:∀i o,ops[i]?=some o->lP l i->∀e∈o.after,Region.binds md e=true->lP l e.on
 g:G γ l w
def pY(ops:Array Oper)(val:Γ->Nat->Value)(G:Γ->Array Bool->World->Prop)(γ:Γ)(l:Array Bool)(a:Act)(i:Nat)(a':Act)(w':World):Prop :=
 ∃o v γ',ops[i]?=some o/\a'=a.put o.dst v/\v=val γ' i/\(∀j,lP l j->val γ' j=val γ j)/\G γ' (l.setIfInBounds i true) w'
theorem uL.step(hds:sR ops=ds)(hnd:(ds.map Prod.snd).Nodup)(hlt:∀p,p∈ds->p.2<t0.size){γ:Γ}{l:Array Bool}{a a':Act}{w w':World}{i:Nat}(H:uL ops md ds val G t0 d0 γ l a w)(hr:i∈Region.ready md ops l)
  (h:pY ops val G γ l a i a' w'):∃ γ',uL ops md ds val G t0 d0 γ' (l.setIfInBounds i true) a' w':=by
 obtain⟨o,v,γ',ho,rfl,rfl,hst,hg⟩:=h;obtain⟨_,o',ho',hall⟩:=mem_ready.1 hr;obtain rfl:o=o':=by rw[ho] at ho';exact Option.some.inj ho'
 have hmem:∀s,o.dst=some s->(i,s)∈ds:=fun s hs=>by rw[<-hds];exact pG.2 ⟨o,ho,hs⟩
 have hil:i<l.size:=by rw[H.sz];exact(Ai.1 ho).1
 refine⟨γ',by simpa using H.sz,?_,?_,fun x hx=>?_,fun j s hj hon=>?_,fun j p hp hon e he hb=>?_,hg⟩
 ·cases hd:o.dst <;> simpa[Act.put] using H.ts
 ·cases hd:o.dst <;> simpa[Act.put] using H.df
 ·cases hd:o.dst with
  |none=>exact H.lo x hx
  |some s=>exact(dY fun e=>hx (List.mem_map.2 ⟨_,hmem s hd,e.symm⟩)).trans (H.lo x hx)
 ·by_cases e:j=i
  ·subst e;have:o.dst=some s:=by
    rw[<-hds] at hj;obtain⟨o2,ho2,h2⟩:=pG.1 hj;rw[ho] at ho2;rw[Option.some.inj ho2];exact h2
   rw[this];exact dE (by rw[H.ts];exact hlt _ hj)
  ·have hjo:=mQ hon e;rw[hst j hjo];cases hd:o.dst with
   |none=>exact H.vs j s hj hjo
   |some s' =>
    refine(dY fun es=>?_).trans (H.vs j s hj hjo);subst es;have h1:=hmem s hd;obtain⟨k1,hk1,e1⟩:=List.mem_iff_getElem.1 hj;obtain⟨k2,hk2,e2⟩:=List.mem_iff_getElem.1 h1;have hk1':k1<(ds.map Prod.snd).length:=by simpa using hk1
    have hk2':k2<(ds.map Prod.snd).length:=by simpa using hk2
    have:k1=k2:=(List.getElem_inj (h₀:=hk1') (h₁:=hk2') hnd).1 (by simp[e1,e2]);subst this;rw[e1] at e2;injection e2 with e2
    exact e e2
 ·by_cases e1:j=i
  ·subst e1;rw[ho] at hp;obtain rfl:=Option.some.inj hp;exact fH (hall e he hb)
  ·exact fH (H.cl j p hp (mQ hon e1) e he hb)
theorem uL.done(hds:sR ops=ds)(hnd:(ds.map Prod.snd).Nodup)(hlt:∀p,p∈ds->p.2<t0.size){γ:Γ}{l:Array Bool}{a:Act}{w:World}(H:uL ops md ds val G t0 d0 γ l a w)(hall:∀i,i<ops.size->lP l i):a = { tmps:=iZ (val γ) ds t0,defers:=d0 }:=by
 obtain⟨t,d⟩:=a;have hd:d=d0:=H.df;subst hd;have:t=iZ (val γ) ds t0:=by
  apply Array.ext_getElem?;intro x
  by_cases hx:x∈ds.map Prod.snd
  ·obtain⟨⟨i,s⟩,hm,rfl⟩:=List.mem_map.1 hx;rw[Of (val γ) ds t0 hnd hlt i s hm];have hm':=hm;rw[<-hds] at hm';obtain⟨o,ho,_⟩:=pG.1 hm';exact H.vs i s hm (hall i (Ai.1 ho).1)
  ·rw[zI _ _ _ _ hx];exact H.lo x hx
 rw[this]
theorem Hz(hfw:Uq md ops=true){l:Array Bool}(hsz:l.size=ops.size)(hr:Region.ready md ops l=[]):∀i,i<ops.size->lP l i:=fun i hlt=>by
 have:=xM hsz (fun i o ho e he hbd=>?_) hr i hlt
 ·unfold lP;rw[Array.getD_eq_getD_getElem?,Array.getElem?_eq_getElem (by rw[hsz];exact hlt)] at this ⊢;exact this
 ·have hl:=(Ai.1 ho).1;have h1:=List.all_eq_true.1 hfw i (List.mem_range.2 hl);rw[ho] at h1;simp only[Option.map_some,Option.getD_some,Array.all_eq_true,Bool.or_eq_true,Bool.not_eq_true',decide_eq_true_eq] at h1;obtain⟨k,hk,rfl⟩:=Array.getElem_of_mem he;rcases h1 k hk with h2|h2
  ·rw[hbd] at h2;cases h2
  ·exact h2
theorem Gu(N i:Nat):¬ lP (Array.replicate N false) i:=by
 unfold lP;rw[Array.getD_eq_getD_getElem?,Array.getElem?_replicate];split <;> simp
theorem vS(l:Array Bool):jC ops l<=ops.size:=by
 unfold jC;refine Nat.le_trans List.countP_le_length ?_;rw[List.length_range];exact Nl _
theorem zY{γ:Γ}{a:Act}{w:World}(hdf:a.defers=d0)(ht:a.tmps=t0)(hg:G γ (Array.replicate ops.size false) w):uL ops md ds val G t0 d0 γ (Array.replicate ops.size false) a w :=
 ⟨by simp,by rw[ht],hdf,fun x _=>by rw[ht],fun i _ _ h=>absurd h (Gu _ i),fun i _ _ h=>absurd h (Gu _ i),hg⟩
theorem eV(hm:P.follows .mixedOrders=true)(hds:sR ops=ds)(hnd:(ds.map Prod.snd).Nodup)(hlt:∀p,p∈ds->p.2<t0.size)(hfw:Uq .any ops=true)
  (hstep:∀ γ l a w i,uL ops .any ds val G t0 d0 γ l a w->i∈Region.ready .any ops l->wpOp P ops Q i (pY ops val G γ l a i) a w)
  {id:Nat}{γ:Γ}{a:Act}{w:World}(hdf:a.defers=d0) (ht:a.tmps=t0) (hg:G γ (Array.replicate ops.size false) (w.drewN 1))
  (hQ:∀ γ l W,(∀i,i<ops.size->lP l i)->G γ l W->Q .normal { tmps:=iZ (val γ) ds t0,defers:=d0 } W):(Code.region id ops true).wp P Q a w:=by
 refine wp_region_any hm ?_;refine uQ (fun l a w=>∃ γ,uL ops .any ds val G t0 d0 γ l a w) (fun l a w hi hr=>?_) (fun l a w i hi hr=>?_) _ _ _ _ (vS _) ⟨γ,zY hdf ht hg⟩
 ·obtain⟨γ,H⟩:=hi;have hall:=Hz hfw H.sz hr;have:=H.done hds hnd hlt hall;subst this;exact hQ γ l w hall H.g
 ·obtain⟨γ,H⟩:=hi;exact wpOp_mono (fun a' w' h=>H.step hds hnd hlt hr h) (hstep γ l a w i H hr)
theorem uL.dep{γ:Γ}{l:Array Bool}{a:Act}{w:World}{i:Nat}(H:uL ops md ds val G t0 d0 γ l a w)(hr:i∈Region.ready md ops l)(d s:Nat)(hd:((ops[i]?).map fun o=>o.after.any fun e=>e.on==d&&Region.binds md e)=some true:=by kernel_rfl)(hs:(i,s)=(i,s)/\(d,s)∈ds:=by exact⟨rfl,by decide⟩):a.tmps[s]?=some (val γ d) :=
 H.vs d s hs.2 (aG hr hd)
theorem uL.low{γ:Γ}{l:Array Bool}{a:Act}{w:World}(H:uL ops md ds val G t0 d0 γ l a w){s:Nat}{v:Value}(h:(ds.map Prod.snd).contains s=false)(e:t0[s]?=some v):a.tmps[s]?=some v :=
 (H.lo s (by intro hc;rw[<-Bool.not_eq_true] at h;exact h (by simpa using hc))).trans e
section
variable {γ:Γ}{l:Array Bool}{a:Act}{w:World}{i:Nat}
theorem aH{X:Op}{v:Value}{w':World}(hX:(ops[i]?).map (fun o=>(o.op,o.guard))=some (X,none))(hrun:∀o:Oper,o.op=X->(execOp a.eval o).run P w=.ok (.value v) w')(hv:v=val γ i)(hg:G γ (l.setIfInBounds i true) w'):wpOp P ops Q i (pY ops val G γ l a i) a w:=by
 cases ho:ops[i]? with
 |none=>rw[ho] at hX;cases hX
 |some o =>
  rw[ho] at hX;simp only[Option.map_some,Option.some.injEq,Prod.mk.injEq] at hX;refine bU ho hX.2 ?_;unfold Oper.wp;rw[hrun o hX.1];exact⟨o,v,γ,ho,rfl,hv,fun _ _=>rfl,hg⟩
theorem aWj(X:Op)(v:Value){w':World}(hrun:∀o:Oper,o.op=X->(execOp a.eval o).run P w=.ok (.value v) w')(hg:G γ (l.setIfInBounds i true) w')(hX:(ops[i]?).map (fun o=>(o.op,o.guard))=some (X,none):=by kernel_rfl)(hv:v=val γ i:=by rfl):wpOp P ops Q i (pY ops val G γ l a i) a w:=aH hX hrun hv hg
theorem aLg{X:Op}{v:Value}{w':World}(γ':Γ)(hst:∀j,lP l j->val γ' j=val γ j)(hX:(ops[i]?).map (fun o=>(o.op,o.guard))=some (X,none))(hrun:∀o:Oper,o.op=X->(execOp a.eval o).run P w=.ok (.value v) w')(hv:v=val γ' i)(hg:G γ' (l.setIfInBounds i true) w'):wpOp P ops Q i (pY ops val G γ l a i) a w:=by
 cases ho:ops[i]? with
 |none=>rw[ho] at hX;cases hX
 |some o =>
  rw[ho] at hX;simp only[Option.map_some,Option.some.injEq,Prod.mk.injEq] at hX;refine bU ho hX.2 ?_;unfold Oper.wp;rw[hrun o hX.1];exact⟨o,v,γ',ho,rfl,hv,hst,hg⟩
theorem gA{f:FuncId}{lb:Array Value}{c:Operand}{args:Array Operand}{ts:Array TypeId}{vs:Array Value}(hX:(ops[i]?).map (fun o=>(o.op,o.guard))=some (.call { callee:=.value c,args:=args,argTypes:=ts },none))(hc:a.eval c=.func (.func f) #[] lb)(eg:∀args w,(callFunc f args).run P w=.ok (.enter f args) w)
  (ha:args.map a.eval++lb=vs) (h:Calls P f vs w fun e w'=>∃v γ',e=.returned v/\v=val γ' i/\(∀j,lP l j->val γ' j=val γ j)/\G γ' (l.setIfInBounds i true) w'):wpOp P ops Q i (pY ops val G γ l a i) a w:=by
 cases ho:ops[i]? with
 |none=>rw[ho] at hX;cases hX
 |some o =>
  rw[ho] at hX;simp only[Option.map_some,Option.some.injEq,Prod.mk.injEq] at hX;subst ha;refine bU ho hX.2 (nY hX.1 hc eg (h.mono ?_));rintro e w' ⟨v,γ',rfl,hv,hst,hg⟩;exact⟨v,rfl,o,v,γ',ho,rfl,hv,hst,hg⟩
theorem nL{j s:Nat}{b gb:Bool}{g:Option (Nat×Bool)}(hgd:(ops[i]?).map (·.guard)=some g)(hg:g=some (j,b))(hj:(ops[j]?).bind (·.dst)=some s)(hv:a.tmps[s]?=some (.bool gb)):∀o,ops[i]?=some o->Region.wanted o (yielded ops a.tmps)=(gb==b):=by
 intro o ho;rw[ho] at hgd;simp only[Option.map_some,Option.some.injEq] at hgd;unfold Region.wanted yielded;rw[hgd,hg];simp only[hj,Option.bind_some,hv];cases gb <;> cases b <;> rfl
theorem bMv{X:Op}{v:Value}{w':World}(hX:(ops[i]?).map (·.op)=some X)(hw:∀o,ops[i]?=some o->Region.wanted o (yielded ops a.tmps)=true)(hrun:∀o:Oper,o.op=X->(execOp a.eval o).run P w=.ok (.value v) w')(hv:v=val γ i)(hg:G γ (l.setIfInBounds i true) w'):wpOp P ops Q i (pY ops val G γ l a i) a w:=by
 cases ho:ops[i]? with
 |none=>rw[ho] at hX;cases hX
 |some o =>
  rw[ho] at hX;simp only[Option.map_some,Option.some.injEq] at hX;unfold wpOp;rw[ho];simp only[hw o ho,if_true];refine .inl ?_;unfold Oper.wp;rw[hrun o hX];exact⟨o,v,γ,ho,rfl,hv,fun _ _=>rfl,hg⟩
theorem mX{f:FuncId}{lb:Array Value}{c:Operand}{args:Array Operand}{ts:Array TypeId}{vs:Array Value}(hX:(ops[i]?).map (·.op)=some (.call { callee:=.value c,args:=args,argTypes:=ts }))(hw:∀o,ops[i]?=some o->Region.wanted o (yielded ops a.tmps)=true)(hc:a.eval c=.func (.func f) #[] lb)(eg:∀args w,(callFunc f args).run P w=.ok (.enter f args) w)
  (ha:args.map a.eval++lb=vs) (h:Calls P f vs w fun e w'=>∃v γ',e=.returned v/\v=val γ' i/\(∀j,lP l j->val γ' j=val γ j)/\G γ' (l.setIfInBounds i true) w'):wpOp P ops Q i (pY ops val G γ l a i) a w:=by
 cases ho:ops[i]? with
 |none=>rw[ho] at hX;cases hX
 |some o =>
  rw[ho] at hX;simp only[Option.map_some,Option.some.injEq] at hX;subst ha;unfold wpOp;rw[ho];simp only[hw o ho,if_true];refine .inl (nY hX hc eg (h.mono ?_));rintro e w' ⟨v,γ',rfl,hv,hst,hg⟩;exact⟨v,rfl,o,v,γ',ho,rfl,hv,hst,hg⟩
theorem aH0{X:Op}{w':World}(hX:(ops[i]?).map (fun o=>(o.op,o.guard,o.dst))=some (X,none,none))(hrun:∀o:Oper,o.op=X->(execOp a.eval o).run P w=.ok .skip w')(hg:G γ (l.setIfInBounds i true) w'):wpOp P ops Q i (pY ops val G γ l a i) a w:=by
 cases ho:ops[i]? with
 |none=>rw[ho] at hX;cases hX
 |some o =>
  rw[ho] at hX;simp only[Option.map_some,Option.some.injEq,Prod.mk.injEq] at hX;obtain⟨h1,h2,h3⟩:=hX;refine bU ho h2 ?_;unfold Oper.wp;rw[hrun o h1];exact⟨o,val γ i,γ,ho,by rw[h3];rfl,rfl,fun _ _=>rfl,hg⟩
end
end
end
section
open Go Go.RowKit Num
noncomputable def Vn:Array Oper:=(Tryz.f14.body.bind (jE 3)).getD #[]
def Oq:List (Nat×Nat):=[(0,21),(1,22),(2,23),(3,24),(4,25),(5,26),(6,27),(7,28),(8,29),(9,30),(10,31),(11,32),(12,33),(13,34),(14,35),(15,4)]
structure CC where
 W0:World
 b2:Nat
 b3:Nat
 d1:Int
 d2:Int
 k1:Int
 k2:Int
 s1:List UInt8
 s2:List UInt8
def CC.row(C:CC):Array Value:=#[.int .i64 (bG C.d1 C.d2),.int .i64 (bG C.k1 C.k2),.int .i64 (sS C.s1 C.s2)]
def CC.res(C:CC):Value:=.int .i64 (Xi (bG C.d1 C.d2) (bG C.k1 C.k2) (sS C.s1 C.s2))
def CC.val(C:CC)(_:Unit):Nat->Value
 |0=>.pointer (some ⟨C.b2,3,none⟩)
 |1=>.int .i64 C.d1
 |2=>.pointer (some ⟨C.b3,3,none⟩)
 |3=>.int .i64 C.d2
 |4=>.int .i64 (bG C.d1 C.d2)
 |5=>.int .i64 C.k1
 |6=>.int .i64 C.k2
 |7=>.int .i64 (bG C.k1 C.k2)
 |8=>.pointer (some ⟨C.b2,0,none⟩)
 |9=>.string ⟨C.s1.toArray⟩
 |10=>.pointer (some ⟨C.b3,0,none⟩)
 |11=>.string ⟨C.s2.toArray⟩
 |12=>.int .i64 (sS C.s1 C.s2)
 |13=>.slice (some ⟨C.W0.heap.size,0,none⟩) 3 3
 |14=>C.res
 |_=>C.res
def CC.g(C:CC)(_:Unit)(l:Array Bool)(W:World):Prop:=(¬ lP l 13/\W=C.W0)∨(lP l 13/\W=C.W0.alloc (.cells C.row 3))
structure CM(C:CC)(t0:Array Value):Prop where
 sz:t0.size=36
 t2:t0[2]?=some (.pointer (some ⟨C.b2,0,none⟩))
 t3:t0[3]?=some (.pointer (some ⟨C.b3,0,none⟩))
 t5:t0[5]?=some (.int .i64 C.k1)
 t7:t0[7]?=some (.int .i64 C.k2)
 l2:C.b2<C.W0.heap.size
 l3:C.b3<C.W0.heap.size
 c1:C.W0.cell? ⟨C.b2,3,none⟩=some (.int .i64 C.d1)
 c2:C.W0.cell? ⟨C.b3,3,none⟩=some (.int .i64 C.d2)
 c3:C.W0.cell? ⟨C.b2,0,none⟩=some (.string ⟨C.s1.toArray⟩)
 c4:C.W0.cell? ⟨C.b3,0,none⟩=some (.string ⟨C.s2.toArray⟩)
section
variable {C:CC}{t0:Array Value}{Q:Exit->Act->World->Prop}{l:Array Bool}{w:World}
theorem CC.keep{i:Nat}(hi:i≠13)(h:C.g () l w):C.g () (l.setIfInBounds i true) w:=by
 rcases h with⟨h,e⟩|⟨h,e⟩
 ·exact .inl ⟨fun h'=>h (mQ h' (Ne.symm hi)),e⟩
 ·exact .inr ⟨fH h,e⟩
theorem CC.cell{b j:Nat}{v:Value}(hb:b<C.W0.heap.size)(hc:C.W0.cell? ⟨b,j,none⟩=some v)(h:C.g () l w):w.cell? ⟨b,j,none⟩=some v:=by
 rcases h with⟨_,rfl⟩|⟨_,rfl⟩
 ·exact hc
 ·exact((aB C.W0 _).cell (p:=⟨b,j,none⟩) hb).trans hc
theorem Ly(M:CM C t0){a:Act}(hdf:a.defers=[])(ht:a.tmps=t0)(hw:w.drewN 1=C.W0)
  (hQ:Q .normal { tmps:=iZ (C.val ()) Oq t0,defers:=[] } (C.W0.alloc (.cells C.row 3))):(Code.region 3 Vn true).wp prog Q a w:=by
 have hsz:Vn.size=16:=by kernel_rfl
 refine eV (ds:=Oq) (val:=C.val) (G:=C.g) (by kernel_rfl) (by kernel_rfl) (by decide) (fun p hp=>?_) (by kernel_rfl) ?_ (γ:=()) hdf ht (.inl ⟨Gu _ _,hw⟩) ?_
 ·rw[M.sz];have:∀p,p∈Oq->p.2<36:=by decide
  exact this p hp
 ·intro γ l a w i H hr;cases γ;have hi:i<16:=by
   obtain⟨_,o,ho,_⟩:=mem_ready.1 hr;have:=(Ai.1 ho).1;rw[hsz] at this;exact this
  have t2:=H.low (s:=2) (by decide) M.t2;have t3:=H.low (s:=3) (by decide) M.t3;have t5:=H.low (s:=5) (by decide) M.t5;have t7:=H.low (s:=7) (by decide) M.t7
  match i,hi,hr with
  |0,_,hr=>exact aH (X:=.fieldAddr 29 (.tmp 2) 3) (by kernel_rfl) (fun o h=>by simp[execOp,h,t2,go_sem];rfl) rfl (CC.keep (by decide) H.g)
  |1,_,hr =>
   have v0:a.tmps[21]?=some (.pointer (some ⟨C.b2,3,none⟩)):=H.dep hr 0 21;have hc:=CC.cell M.l2 M.c1 H.g;exact aH (X:=.load 22 (.tmp 21)) (by kernel_rfl) (fun o h=>by simp[execOp,h,v0,hc,go_sem];rfl) rfl (CC.keep (by decide) H.g)
  |2,_,hr=>exact aH (X:=.fieldAddr 29 (.tmp 3) 3) (by kernel_rfl) (fun o h=>by simp[execOp,h,t3,go_sem];rfl) rfl (CC.keep (by decide) H.g)
  |3,_,hr =>
   have v0:a.tmps[23]?=some (.pointer (some ⟨C.b3,3,none⟩)):=H.dep hr 2 23;have hc:=CC.cell M.l3 M.c2 H.g;exact aH (X:=.load 22 (.tmp 23)) (by kernel_rfl) (fun o h=>by simp[execOp,h,v0,hc,go_sem];rfl) rfl (CC.keep (by decide) H.g)
  |4,_,hr =>
   have v0:a.tmps[22]?=some (.int .i64 C.d1):=H.dep hr 1 22;have v1:a.tmps[24]?=some (.int .i64 C.d2):=H.dep hr 3 24;refine gA (f:=44) (lb:=#[]) (c:=.func 44) (args:=#[.tmp 22,.tmp 24]) (ts:=#[22,22]) (vs:=#[.int .i64 C.d1,.int .i64 C.d2]) (by kernel_rfl) rfl (aXb func44) (by simp[Act.eval,v0,v1]) ((Mc _ _ _).mono ?_);rintro e w' ⟨rfl,rfl⟩;exact⟨_,(),rfl,rfl,fun _ _=>rfl,CC.keep (by decide) H.g⟩
  |5,_,hr=>exact aH (X:=.move (.tmp 5)) (by kernel_rfl) (fun o h=>by simp[execOp,h,t5,go_sem];rfl) rfl (CC.keep (by decide) H.g)
  |6,_,hr=>exact aH (X:=.move (.tmp 7)) (by kernel_rfl) (fun o h=>by simp[execOp,h,t7,go_sem];rfl) rfl (CC.keep (by decide) H.g)
  |7,_,hr =>
   have v0:a.tmps[26]?=some (.int .i64 C.k1):=H.dep hr 5 26;have v1:a.tmps[27]?=some (.int .i64 C.k2):=H.dep hr 6 27;refine gA (f:=45) (lb:=#[]) (c:=.func 45) (args:=#[.tmp 26,.tmp 27]) (ts:=#[3,3]) (vs:=#[.int .i64 C.k1,.int .i64 C.k2]) (by kernel_rfl) rfl (aXb func45) (by simp[Act.eval,v0,v1]) ((Ma _ _ _).mono ?_);rintro e w' ⟨rfl,rfl⟩;exact⟨_,(),rfl,rfl,fun _ _=>rfl,CC.keep (by decide) H.g⟩
  |8,_,hr=>exact aH (X:=.fieldAddr 29 (.tmp 2) 0) (by kernel_rfl) (fun o h=>by simp[execOp,h,t2,go_sem];rfl) rfl (CC.keep (by decide) H.g)
  |9,_,hr =>
   have v0:a.tmps[29]?=some (.pointer (some ⟨C.b2,0,none⟩)):=H.dep hr 8 29;have hc:=CC.cell M.l2 M.c3 H.g;exact aH (X:=.load 9 (.tmp 29)) (by kernel_rfl) (fun o h=>by simp[execOp,h,v0,hc,go_sem];rfl) rfl (CC.keep (by decide) H.g)
  |10,_,hr=>exact aH (X:=.fieldAddr 29 (.tmp 3) 0) (by kernel_rfl) (fun o h=>by simp[execOp,h,t3,go_sem];rfl) rfl (CC.keep (by decide) H.g)
  |11,_,hr =>
   have v0:a.tmps[31]?=some (.pointer (some ⟨C.b3,0,none⟩)):=H.dep hr 10 31;have hc:=CC.cell M.l3 M.c4 H.g;exact aH (X:=.load 9 (.tmp 31)) (by kernel_rfl) (fun o h=>by simp[execOp,h,v0,hc,go_sem];rfl) rfl (CC.keep (by decide) H.g)
  |12,_,hr =>
   have v0:a.tmps[30]?=some (.string ⟨C.s1.toArray⟩):=H.dep hr 9 30;have v1:a.tmps[32]?=some (.string ⟨C.s2.toArray⟩):=H.dep hr 11 32;refine gA (f:=46) (lb:=#[]) (c:=.func 46) (args:=#[.tmp 30,.tmp 32]) (ts:=#[9,9]) (vs:=#[.string ⟨C.s1.toArray⟩,.string ⟨C.s2.toArray⟩]) (by kernel_rfl) rfl (aXb func46) (by simp[Act.eval,v0,v1]) ((Lz _ _ _).mono ?_);rintro e w' ⟨rfl,rfl⟩;exact⟨_,(),rfl,rfl,fun _ _=>rfl,CC.keep (by decide) H.g⟩
  |13,_,hr =>
   have v0:a.tmps[25]?=some (.int .i64 (bG C.d1 C.d2)):=H.dep hr 4 25;have v1:a.tmps[28]?=some (.int .i64 (bG C.k1 C.k2)):=H.dep hr 7 28;have v2:a.tmps[33]?=some (.int .i64 (sS C.s1 C.s2)):=H.dep hr 12 33;have hw:w=C.W0:=by
    rcases H.g with⟨_,e⟩|⟨h,_⟩
    ·exact e
    ·exact absurd h (aX6 (mem_ready.1 hr).1)
   subst hw;exact aH (X:=.buildSlice 93 3 #[(0,.tmp 25),(1,.tmp 28),(2,.tmp 33)]) (w':=C.W0.alloc (.cells C.row 3)) (by kernel_rfl) (fun o h=>by simp[execOp,h,v0,v1,v2,go_sem];exact⟨rfl,rfl⟩) rfl (.inr ⟨zE (by rw[H.sz,hsz];decide),rfl⟩)
  |14,_,hr =>
   have v0:a.tmps[34]?=some (.slice (some ⟨C.W0.heap.size,0,none⟩) 3 3):=H.dep hr 13 34;have hw:w=C.W0.alloc (.cells C.row 3):=by
    rcases H.g with⟨h,_⟩|⟨_,e⟩
    ·exact absurd (aG hr (d:=13) (by kernel_rfl)) h
    ·exact e
   refine gA (f:=43) (lb:=#[]) (c:=.func 43) (args:=#[.tmp 34]) (ts:=#[93]) (vs:=#[.slice (some ⟨C.W0.heap.size,0,none⟩) 3 3]) (by kernel_rfl) rfl (aXb func43) (by simp[Act.eval,v0]) ((Xh _ _ _ _ _ (by rw[hw];exact aP.new0 C.W0 C.row 3)).mono ?_);rintro e w' ⟨rfl,rfl⟩;exact⟨_,(),rfl,rfl,fun _ _=>rfl,CC.keep (by decide) H.g⟩
  |15,_,hr =>
   have v0:a.tmps[35]?=some C.res:=H.dep hr 14 35;exact aH (X:=.assign (.tmp 35)) (by kernel_rfl) (fun o h=>by simp[execOp,h,v0,go_sem];rfl) rfl (CC.keep (by decide) H.g)
  |n+16,h,_=>exact absurd h (by omega)
 ·rintro⟨⟩ l W hall hg;rcases hg with⟨h,_⟩|⟨_,rfl⟩
  ·exact absurd (hall 13 (by rw[hsz];decide)) h
  ·exact hQ
end
theorem El(f g:aE)(pa oa pb ob:Option Addr)(pc oc pd od:Nat)(w:World):
  Calls prog 14 #[.agg (f.cells pa pc oa oc),.agg (g.cells pb pd ob od)] w fun e w'=>e=.returned (.int .i64 (iL f g))/\Below w.heap.size w w':=by
 have K1:=(aP.new0 w (f.cells pa pc oa oc) 29).below (aB _ (.cells (g.cells pb pd ob od) 29));have K2:=aP.new0 (w.alloc (.cells (f.cells pa pc oa oc) 29)) (g.cells pb pd ob od) 29;rw[World.size_alloc] at K2;have HB0:=Hd (((Br _ w).alloc (Nl _) (.cells (f.cells pa pc oa oc) 29)).alloc (by simp) (.cells (g.cells pb pd ob od) 29));have c1:=(K1.cell 4).trans (show _=some (.int .i64 f.kind) from rfl);have c2:=(K2.cell 4).trans (show _=some (.int .i64 g.kind) from rfl);have H1:Hid ((f.cells pa pc oa oc)[3]?=some (.int .i64 f.day)/\(f.cells pa pc oa oc)[0]?=some (.string ⟨f.key.toArray⟩)):=⟨rfl,rfl⟩
 have H2:Hid ((g.cells pb pd ob od)[3]?=some (.int .i64 g.day)/\(g.cells pb pd ob od)[0]?=some (.string ⟨g.key.toArray⟩)):=⟨rfl,rfl⟩
 have HE:Hid (iL f g=Xi (bG f.day g.day) (bG (eY f.kind) (eY g.kind)) (sS f.key g.key)):=rfl;have K1:=Hd K1;have K2:=Hd K2;generalize iL f g=res at *;generalize f.cells pa pc oa oc=fc at *;generalize g.cells pb pd ob od=gc at *;generalize f.kind=k1 at *;generalize g.kind=k2 at *;generalize f.day=d1 at *;generalize g.day=d2 at *;generalize f.key=s1 at *;generalize g.key=s2 at *;go_enter func14,ntmps14;go_wp2_with fail;refine(Db _ _).mono ?_;rintro e w1 ⟨rfl,hb1⟩;have K1:=Hd (K1.out.below hb1);have K2:=Hd (K2.out.below hb1);have HB1:=Hd (aA HB0.out hb1);have c2:=(hb1.cell (p:=⟨w.heap.size+1,4,none⟩) (by simp)).trans c2;clear hb1 c1 HB0;go_wp2_with fail;refine(Db _ _).mono ?_;rintro e w2 ⟨rfl,hb2⟩;have K1:=Hd (K1.out.below hb2);have K2:=Hd (K2.out.below hb2);have HB2:=Hd (aA HB1.out hb2);clear hb2 c2 HB1;generalize eY k1=q1 at *;generalize eY k2=q2 at *;go_wp2_with fail;refine Ly (C:=⟨w2.drewN 1,w.heap.size,w.heap.size+1,d1,d2,q1,q2,s1,s2⟩) ⟨rfl,rfl,rfl,rfl,rfl,K1.out.1,K2.out.1,(K1.out.cell 3).trans H1.out.1,(K2.out.cell 3).trans H2.out.1,(K1.out.cell 0).trans H1.out.2,(K2.out.cell 0).trans H2.out.2⟩ rfl rfl rfl ?_;simp only[iZ,Oq,List.foldl,List.setIfInBounds_toArray,List.set_cons_zero,List.set_cons_succ,CC.val,CC.res];go_wp2;go_ret;exact⟨by rw[HE.out];rfl,(aD HB2.out 1).alloc (Nat.le_trans HB2.out.size (Nl _)) _⟩
end
section
open Go Go.RowKit Num Go.Maps
structure VC where
 W0:World
 b:Nat
 off:Nat
 n:Nat
 c:Nat
 b5:Nat
 k:Nat
 gb:Bool
 pc:Array Value
 fc:Array Value
 r:Int
 sl:Value
def VC.val(C:VC)(_:Unit):Nat->Value
 |0=>.int .i64 (C.k:Int)
 |1=>.bool C.gb
 |2=>.bool C.gb
 |3=>gv C.gb (C.sl)
 |4=>gv C.gb (.int .i64 (C.k:Int))
 |5=>gv C.gb (.int .i64 ((C.k:Int)-1))
 |6=>gv C.gb (.pointer (some ⟨C.b,C.off+(C.k-1)*21,none⟩))
 |7=>gv C.gb (.agg C.pc)
 |8=>gv C.gb (.agg C.fc)
 |9=>gv C.gb (.int .i64 C.r)
 |10=>gv C.gb (.bool (decide (0<=C.r)))
 |_=>.bool (C.gb&&decide (0<=C.r))
def VC.g(C:VC)(_:Unit)(_:Array Bool)(W:World):Prop:=Below C.W0.heap.size C.W0 W
theorem gR{w:World}{b:Nat}{cs:Array Value}{T:TypeId}(h:aP w b cs T):∀j v,cs.toList[j]?=some v->w.cell? ⟨b,0+j,none⟩=some v:=by
 intro j v hv;rw[Nat.zero_add,h.cell j,<-Array.getElem?_toList];exact hv
section
variable {C:VC}{t0:Array Value}{Q:Exit->Act->World->Prop}
end
end
section
open Go Go.RowKit Go.Shelf Num
theorem gZ{w w':World}(h:Below w.heap.size w w'):w.grownBy w' none:=⟨h.os,h.tape,h.output,h.size,fun k hk _=>h.block k hk⟩
section
variable {F:Fence}{n:Nat}{P:Program}{ops:Array Oper}{Q:Exit->Act->World->Prop}{a:Act}{w:World}{rest:List Oper}{o:Oper}
theorem eP(hgd:Region.wanted o (yielded ops a.tmps)=true)(ty:TypeId)(x:Operand)(ho:o.op=.load ty x)(g:Nat)(hx:a.eval x=.pointer (some ⟨g,0,none⟩))(cs:Array Value)(d:TypeDesc){T:TypeId}(hg:aP w g cs T)
  (hu:P.underlying ty=some d) (hd:(match d with | .struct _ | .array _ _=>true|_=>false)=true) (hi:(P.info? ty).map (·.size)=some cs.size) (h:wpListIn F n P ops Q rest (a.put o.dst (.agg cs)) w):wpListIn F n P ops Q (o::rest) a w:=by
 refine wpListIn_step fun K hK=>?_
 rw[if_pos hgd];refine⟨fun f hf=>(by unfold Oper.about at hf;rw[ho] at hf;cases hf),?_⟩;rw[Oper.semAt_plain F _ _ (by rw[ho];intro c hc;cases hc)];unfold execOp;simp only[ho,hx,Instr.loadAt,Instr.sureAddr,Sem.run_bind,Sem.run_pure,Result.andThen_ok,jD w g 0 ty cs d (fun j v hv=>by rw[Nat.zero_add,hg.cell j,<-Array.getElem?_toList];exact hv) hu hd hi];exact hK _ _ h
theorem uP(hgd:Region.wanted o (yielded ops a.tmps)=true)(ty:TypeId)(x:Operand)(ho:o.op=.load ty x)(g off:Nat)(hx:a.eval x=.pointer (some ⟨g,off,none⟩))(cs:Array Value)(d:TypeDesc)(hc:∀j v,cs.toList[j]?=some v->w.cell? ⟨g,off+j,none⟩=some v)
  (hu:P.underlying ty=some d) (hd:(match d with | .struct _ | .array _ _=>true|_=>false)=true) (hi:(P.info? ty).map (·.size)=some cs.size) (h:wpListIn F n P ops Q rest (a.put o.dst (.agg cs)) w):wpListIn F n P ops Q (o::rest) a w:=by
 refine wpListIn_step fun K hK=>?_
 rw[if_pos hgd];refine⟨fun f hf=>(by unfold Oper.about at hf;rw[ho] at hf;cases hf),?_⟩;rw[Oper.semAt_plain F _ _ (by rw[ho];intro c hc;cases hc)];unfold execOp;simp only[ho,hx,Instr.loadAt,Instr.sureAddr,Sem.run_bind,Sem.run_pure,Result.andThen_ok,jD w g off ty cs d hc hu hd hi];exact hK _ _ h
theorem bG6(hgd:Region.wanted o (yielded ops a.tmps)=true)(ty:TypeId)(x y:Operand)(ho:o.op=.store ty x y)(g:Nat)(hx:a.eval x=.pointer (some ⟨g,0,none⟩))(cells:Array Value)(hy:a.eval y=.agg cells)
  {t:TypeId}{old:Array Value}(hg:w.heap[g]?=some (.cells old t (0,0))) (hi:(P.info? ty).map (·.size)=some cells.size) (hold:old.size=cells.size) (h1:cells.all (·.oneCell')=true)
  (h:wpListIn F n P ops Q rest (a.put o.dst undef) (w.setRow g cells)):wpListIn F n P ops Q (o::rest) a w:=by
 refine wpListIn_step fun K hK=>?_
 rw[if_pos hgd];refine⟨fun f hf=>(by unfold Oper.about at hf;rw[ho] at hf;cases hf),?_⟩;rw[Oper.semAt_plain F _ _ (by rw[ho];intro c hc;cases hc)];unfold execOp;simp only[ho,hx,hy,Instr.storeAt,Instr.sureAddr,Sem.run_bind,Sem.run_pure,Result.andThen_ok,run_storeVar_row w g t ty old cells hg hi hold h1];exact hK _ _ h
end
theorem bQ{F:Fence}{n:Nat}{P:Program}{ops:Array Oper}{Q:Exit->Act->World->Prop}{a:Act}{w:World}{rest:List Oper}{o:Oper}(hgd:Region.wanted o (yielded ops a.tmps)=true)(ty:TypeId)(x y:Operand)(ho:o.op=.store ty x y)(g:Nat)(hx:a.eval x=.pointer (some ⟨g,0,none⟩))(cells:Array Value)(hy:a.eval y=.agg cells)
  {t:TypeId}{old:Array Value}(hg:w.heap[g]?=some (.cells old t (0,0))) (hi:(P.info? ty).map (·.size)=some cells.size) (hold:old.size=cells.size) (h1:cells.all (·.oneCell')=true)
  (h:∀w',aP w' g cells t->(∀B,B<=g->Below B w w')->KeepsOthers w w'->(∀b cs T,b≠g->aP w b cs T->aP w' b cs T)->w.grownBy w' (some g)->wpListIn F n P ops Q rest (a.put o.dst undef) w'):wpListIn F n P ops Q (o::rest) a w:=by
 refine bG6 hgd ty x y ho g hx cells hy hg hi hold h1 (h _ ⟨by simp[World.setRow];exact(Ai.1 hg).1,setRow_heap _ _ _ _ _ _ hg⟩ (fun B hB=>below_setRow (Br _ _) hB _) ⟨by simp[World.setRow],fun k o hk ho=>?_⟩ (fun b cs T hne hb=>⟨by simp[World.setRow];exact hb.1,(setRow_other w g b cells hne).trans hb.2⟩) ⟨rfl,rfl,rfl,by simp[World.setRow],fun k _ hk=>setRow_other w g k cells (fun e=>hk (by rw[e]))⟩);refine(setRow_other w g k cells fun e=>?_).trans hk;subst e;rw[hg] at hk;cases hk;cases ho
attribute [local go_sem] Oper.semAt_some
end
section
open Go Go.RowKit Go.Shelf Num
theorem nP{β:Type}(B:Nat)(t:TypeId)(f:β->Array Value):Own (fun s W=>aP W B (f s) t):=fun s X Y row hs hg hrow=>by
 refine⟨Nat.lt_of_lt_of_le hs.1 hg.size,(hg.block B hs.1 fun e=>?_).trans hs.2⟩;obtain⟨o,ho,hc⟩:=hrow B e.symm;rw[hs.2] at ho;cases ho;cases hc
theorem pM{W:World}{b b':Nat}{cs cs':Array Value}{t:TypeId}(h:aP W b cs t)(hne:b≠b'):aP (W.setRow b' cs') b cs t :=
 ⟨by simp[World.setRow];exact h.1,(setRow_other W b' b cs' hne).trans h.2⟩
theorem Ip{W:World}{b:Nat}{cs cs':Array Value}{t:TypeId}(h:aP W b cs t):aP (W.setRow b cs') b cs' t :=
 ⟨by simp[World.setRow];exact h.1,setRow_heap _ _ _ _ _ _ h.2⟩
theorem Boxed.box{W:World}{b:Nat}{t:TypeId}{v:Value}(h:Boxed W b t v):aP W b #[v] t:=⟨h.lt,h⟩
theorem aP.boxed{W:World}{b:Nat}{t:TypeId}{v:Value}(h:aP W b #[v] t):Boxed W b t v:=h.2
structure eK(P:Nat->Prop)(A B:World):Prop where
 os:B.os=A.os
 tape:B.tape=A.tape
 output:B.output=A.output
 size:A.heap.size<=B.heap.size
 block:∀k,P k->B.heap[k]?=A.heap[k]?
theorem eK.trans{P:Nat->Prop}{A B C:World}(h:eK P A B)(g:eK P B C):eK P A C:=⟨g.os.trans h.os,g.tape.trans h.tape,g.output.trans h.output,Nat.le_trans h.size g.size,fun k hk=>(g.block k hk).trans (h.block k hk)⟩
theorem eK.of_below{P:Nat->Prop}{n:Nat}{A B:World}(h:Below n A B)(hp:∀k,P k->k<n):eK P A B:=⟨h.os,h.tape,h.output,h.size,fun k hk=>h.block k (hp k hk)⟩
theorem eK.below{P:Nat->Prop}{n:Nat}{A B:World}(h:eK P A B)(hp:∀k,k<n->P k):Below n A B:=⟨h.os,h.tape,h.output,h.size,fun k hk=>h.block k (hp k hk)⟩
theorem eK.box{P:Nat->Prop}{A B:World}(h:eK P A B){b:Nat}{cs:Array Value}{T:TypeId}(hp:P b)(hb:aP A b cs T):aP B b cs T:=⟨Nat.lt_of_lt_of_le hb.1 h.size,(h.block b hp).trans hb.2⟩
theorem eK.refl(P:Nat->Prop)(A:World):eK P A A:=⟨rfl,rfl,rfl,Nl _,fun _ _=>rfl⟩
theorem eK.putObj{P:Nat->Prop}(W:World)(l:Nat)(o':Obj)(hp:¬ P l):eK P W (W.putObj l o'):=by
 have g:=grownBy_putObj' W l o';exact⟨g.os,g.tape,g.output,g.size,fun k hk=>by
  rcases Nat.lt_or_ge k W.heap.size with h|h
  ·exact g.block k h (fun e=>hp (by cases e;exact hk))
  ·have:(W.putObj l o').heap.size=W.heap.size:=by simp[World.putObj]
   rw[Array.getElem?_eq_none h,Array.getElem?_eq_none (by omega)]⟩
theorem eK.setRow{P:Nat->Prop}{A W:World}(h:eK P A W){b:Nat}(hp:¬ P b)(cs:Array Value):eK P A (W.setRow b cs) :=
 ⟨h.os,h.tape,h.output,by simp[World.setRow];exact h.size,fun k hk=>(setRow_other W b k cs (fun e=>hp (e ▸ hk))).trans (h.block k hk)⟩
theorem eK.setCell{P:Nat->Prop}{A W:World}(h:eK P A W){b:Nat}(hp:¬ P b)(v:Value):eK P A (W.setCell ⟨b,0,none⟩ v) :=
 have g:=grownBy_setCell' W b v
 ⟨g.os.trans h.os,g.tape.trans h.tape,g.output.trans h.output,Nat.le_trans h.size g.size,fun k hk=>by
  rcases Nat.lt_or_ge k W.heap.size with hl|hl
  ·exact(g.block k hl (fun e=>hp (by cases e;exact hk))).trans (h.block k hk)
  ·have hs:(W.setCell ⟨b,0,none⟩ v).heap.size=W.heap.size:=by simp[World.setCell]
   have:=h.block k hk;rw[Array.getElem?_eq_none (by omega)] at this ⊢;exact this⟩
theorem Bi{P:Program}{o:Oper}{a:Act}{w:World}{ty:TypeId}{x y:Operand}(ho:o.op=.store ty x y){g:Nat}(hx:a.eval x=.pointer (some ⟨g,0,none⟩)){cells:Array Value}(hy:a.eval y=.agg cells)
  {t:TypeId}{old:Array Value}(hg:aP w g old t) (hi:(P.info? ty).map (·.size)=some cells.size) (hold:old.size=cells.size) (h1:cells.all (·.oneCell')=true):(execOp a.eval o).run P w=.ok .skip (w.setRow g cells):=by
 unfold execOp;simp only[ho,hx,hy,Instr.storeAt,Instr.sureAddr,Sem.run_bind,Sem.run_pure,Result.andThen_ok,run_storeVar_row w g t ty old cells hg.2 hi hold h1]
structure Rx where
 W0:World
 b4:Nat
 b6:Nat
 b7:Nat
 arr:Array Value
 bb:Bool
def Rx.val(C:Rx)(_:Unit):Nat->Value
 |0=>.agg C.arr
 |_=>.bool C.bb
def Rx.g(C:Rx)(_:Unit)(l:Array Bool)(W:World):Prop:=(¬ lP l 2/\W=C.W0)∨(lP l 2/\W=C.W0.setRow C.b4 C.arr)
section
variable {C:Rx}{t0:Array Value}{d0:List Deferred}{Q:Exit->Act->World->Prop}{l:Array Bool}{w:World}{n:Nat}
theorem Rx.keep{i:Nat}(hi:i≠2)(h:C.g () l w):C.g () (l.setIfInBounds i true) w:=by
 rcases h with⟨h,e⟩|⟨h,e⟩
 ·exact .inl ⟨fun h'=>h (mQ h' (Ne.symm hi)),e⟩
 ·exact .inr ⟨fH h,e⟩
end
end
section
open Go Go.RowKit Num
structure gT(w:World)(a:Option Addr)(c:Nat)(xs:List aF):Prop where
 facts:fS w a xs
 ok:∀x,x∈xs->x.ok
 len:xs.length<=1000000
theorem gT.below{w w':World}{a:Option Addr}{c:Nat}{xs:List aF}(h:gT w a c xs)(hb:Below w.heap.size w w'):gT w' a c xs:=⟨h.facts.below hb,h.ok,h.len⟩
end
section
open Go Go.RowKit Go.Shelf Num
theorem Dc{P:Nat->Prop}{W w1:World}{n₀ B:Nat}{t e:TypeId}{size:Nat}{v v':Value}{k m:Nat}{xs ys:List Value}{tmp:Obj}(hv:Boxed W B t v)(hte:t≠e)(hrow:W.ownsRow n₀ e size v k xs)(hn₀:n₀<=W.heap.size)(hP:∀j,P j->j<n₀/\j≠B)
  (hown':w1.ownsRow n₀ e size v' m ys) (hgrow:(W.alloc tmp).grownBy w1 v.ownBlock) :
  Boxed w1 B t v/\Boxed (w1.setCell ⟨B,0,none⟩ v') B t v'/\(w1.setCell ⟨B,0,none⟩ v').ownsRow n₀ e size v' m ys/\KeepsOthers W (w1.setCell ⟨B,0,none⟩ v')/\eK P W (w1.setCell ⟨B,0,none⟩ v'):=by
 have hv1:Boxed w1 B t v:=(hv.alloc tmp).kept hgrow (hv.not_row hte hrow);refine⟨hv1,hv1.set v',hown'.kept (grownBy_setCell' w1 B v') (.inr (hv1.not_row hte hown').symm),?_,?_⟩
 ·refine((KeepsOthers.alloc W tmp).trans (KeepsOthers.of_grownBy hgrow fun j o ej hj=>?_)).trans (KeepsOthers.setCell _ _ _);rcases(hrow.alloc tmp).2 with⟨rfl,_⟩|⟨g,cap,cur,rfl,_,hgb,_⟩
  ·simp[Value.ownBlock] at ej
  ·obtain rfl:g=j:=by simpa[Value.ownBlock] using ej
   rw[hgb] at hj;cases hj;rfl
 ·have h0:eK P W (W.alloc tmp):=eK.of_below (aB W tmp) fun j hj=>Nat.lt_of_lt_of_le (hP j hj).1 hn₀
  have h1:eK P (W.alloc tmp) w1:=⟨hgrow.os,hgrow.tape,hgrow.output,hgrow.size,fun j hj=>hgrow.block j (by rw[World.size_alloc];have:=(hP j hj).1;omega) fun ej=>by
   have:=hrow.lt j ej.symm;have:=(hP j hj).1;omega⟩
  exact(h0.trans h1).setCell (fun h=>(hP B h).2 rfl) v'
theorem Ck{w:World}{b b' e size n:Nat}{v:Value}{xs:List Value}(h:w.ownsRow b e size v n xs)(hb:b'<=b):w.ownsRow b' e size v n xs :=
 ⟨h.1,h.2.imp id fun⟨g,cap,cur,h1,h2,r⟩=>⟨g,cap,cur,h1,Nat.le_trans hb h2,r⟩⟩
attribute [local go_sem] Oper.semAt_some
end
end Go.Proofs.YthjekgfoidmagaaGreatDoor
