/- WPerP WFlowP WPerR WDefd -/
import Derived.Test.YtiloklnjjfaagaaGreatDoorWA
set_option maxHeartbeats 16000000
set_option maxRecDepth 100000
namespace Go.Proofs.YtiloklnjjfaagaaGreatDoor
open Go.Proofs.Tryz
section
open Go Go.RowKit Num
def dIq(w:World)(a:Option Addr)(l:List bZ9):Prop :=
 l=[]∨∃b off,a=some ⟨b,off,none⟩/\b<w.heap.size/\∀k x,l[k]?=some x ->
  w.cell? ⟨b,off+k*6,none⟩=some (Pm x.cause)/\w.cell? ⟨b,off+k*6+1,none⟩=some (Pm x.src)/\w.cell? ⟨b,off+k*6+2,none⟩=some (Pm x.dst)/\w.cell? ⟨b,off+k*6+3,none⟩=some (Pm x.q) /\
  w.cell? ⟨b,off+k*6+4,none⟩=some (Pm x.made)/\w.cell? ⟨b,off+k*6+5,none⟩=some (Pm x.c)
theorem dIq.below{w w':World}{a:Option Addr}{l:List bZ9}(h:dIq w a l)(hb:Below w.heap.size w w'):dIq w' a l:=by
 rcases h with h|⟨b,off,ha,hlt,hc⟩
 ·exact .inl h
 ·have hcell:∀o,w'.cell? ⟨b,o,none⟩=w.cell? ⟨b,o,none⟩:=fun o=>hb.cell (p:=⟨b,o,none⟩) hlt
  refine .inr ⟨b,off,ha,Nat.lt_of_lt_of_le hlt hb.size,fun k x hx=>?_⟩;simp only[hcell];exact hc k x hx
theorem dIq.addr{w:World}{a:Option Addr}{l:List bZ9}(h:dIq w a l){k:Nat}{x:bZ9}(hx:l[k]?=some x):
  ∃b off,a=some ⟨b,off,none⟩ /\
  w.cell? ⟨b,off+k*6,none⟩=some (Pm x.cause)/\w.cell? ⟨b,off+k*6+1,none⟩=some (Pm x.src)/\w.cell? ⟨b,off+k*6+2,none⟩=some (Pm x.dst)/\w.cell? ⟨b,off+k*6+3,none⟩=some (Pm x.q) /\
  w.cell? ⟨b,off+k*6+4,none⟩=some (Pm x.made)/\w.cell? ⟨b,off+k*6+5,none⟩=some (Pm x.c):=by
 rcases h with h|⟨b,off,ha,_,hc⟩
 ·rw[h] at hx;simp at hx
 ·exact⟨b,off,ha,hc k x hx⟩
theorem dJg{W:World}{B0:Nat}{a:Option Addr}{c:Nat}{l:List bZ9}(h:W.ownsRow B0 45 6 (.slice a l.length c) l.length (dAf bZ9.cs l)):dIq W a l:=by
 by_cases h0:l=[]
 ·exact .inl h0
 ·have hn:0<l.length:=List.length_pos_iff.2 h0;obtain⟨g,cap,f,h1,hb,hnc,hc,hr,hf⟩:=dDk h hn;injection h1 with h1 _ _
  subst h1;refine .inr ⟨g,0,rfl,hr.lt,fun k x hx=>?_⟩;have hk:=(Li.1 hx).1;have key:∀j v,j<6->x.cs[j]?=some v->W.cell? ⟨g,0+k*6+j,none⟩=some v:=fun j v hj hv=>by
   rw[Nat.zero_add,hr.cell (by omega)];exact congrArg some (hf _ _ ((dDl dIk l k x j hx hj).trans hv))
  exact⟨key 0 _ (by decide) rfl,key 1 _ (by decide) rfl,key 2 _ (by decide) rfl,key 3 _ (by decide) rfl,key 4 _ (by decide) rfl,key 5 _ (by decide) rfl⟩
def dJi(l:List bZ9):Prop:=∀st,st∈l->st.q.length<=1000/\st.made.length<=1000/\st.c.length<=1000
theorem dJk{cause:List UInt8}{z:Bd}{a:Int}(h0:0<=a)(h1:a<=1000000000000000):dJi (bX3 cause z a):=fun st hs=>by
 obtain⟨rfl,_⟩:=bYw hs;refine⟨by simp,by simp,Nat.le_trans (gC (K:=16) (by decide) (by omega)) (by decide)⟩
theorem dEs{l m:List bZ9}(h:dJi l)(k:dJi m):dJi (l++m):=fun st hs=>(List.mem_append.1 hs).elim (h st) (k st)
theorem dJh{s s':bWs}{i k:Nat}{x:aLe}{y:Bd}{cause:List UInt8}(F:dD8 s)(hx:s.gains[i]?=some x)(hy:s.lots[k]?=some y)(ho:0<x.openV)(hr:0<y.roomV)(h:bXx s i k x y cause=some s')(H:dJi s.steps):dJi s'.steps:=by
 have gx:=F.ok.gains x (List.mem_of_getElem? hx);have gy:=F.ok.lots.ok y (List.mem_of_getElem? hy);obtain⟨b1,b2,b3,b4,b5⟩:=bZa gx ho hr;obtain⟨l1,l2,l3⟩:=F.li y (List.mem_of_getElem? hy);obtain⟨a1,a2,a3,_⟩:=F.gi x (List.mem_of_getElem? hx);have hv:=lO a3;have hp:=lO a2;obtain⟨_,_,_,_,_,hd,_,_⟩:=bY2.1 gx;have hl:x.loss=if val x.c-val x.p<0 then 0 else val x.c-val x.p:=rfl
 have hl2:x.loss<=(val x.c).natAbs+(val x.p).natAbs:=by rw[hl];split <;> omega
 have hc:dJi (bX3 cause (y.fill x (bXe x y)) (bXe x y)):=dJk b3 (by omega);unfold bXx at h;split at h
 ·obtain rfl:=Option.some.inj h;exact dEs H hc
 ·split at h
  ·cases h
  split at h
  ·cases h
  obtain rfl:=Option.some.inj h;refine dEs (dEs H fun st hs=>?_) (dJk b3 (by omega));obtain rfl:=List.mem_singleton.1 hs;obtain⟨e1,e2⟩:=dAp gy hr;have ht:bWp x y<=y.roomV:=by unfold bWp;omega
  have hq:(aJ (bWp x y)).length<=1000:=Nat.le_trans (gC (K:=13) (by decide) (by omega)) (by decide);refine⟨hq,hq,?_⟩;obtain⟨_,_,_,_,hqv,hcv,_⟩:=bYi.1 gy;obtain⟨s1,s2⟩:=bZ7 (t:=val y.c) (p:=bWp x y) (a:=val y.q) hcv (by omega) (by omega) hqv;have hm:=F.stOk.lm y (List.mem_of_getElem? hy);have hcl:=lO hm.2.2.2.1;show (aJ (bZe (val y.c) (bWp x y) (val y.q))).length<=1000;exact Nat.le_trans (gC (K:=30) (by decide) (Nat.lt_of_le_of_lt (by omega) hcl)) (by decide)
theorem bZl.lens{ins:List UInt8}{d wash:Int}{cause:List UInt8}(hc:dC cause=true){s t:bWs}(r:bZl ins d wash cause s t):dD8 s->dJi s.steps->dJi t.steps:=by
 induction r with
 |refl s=>exact fun _ h=>h
 |step i k x y hx hd hy hr h _ ih=>exact fun F H=>ih (F.step hc hx hy (bY6 hd).2.2.1 (bYt.1 hr).2.1 h) (dJh F hx hy (bY6 hd).2.2.1 (bYt.1 hr).2.1 h H)
theorem dD9.lens{ins:List UInt8}{d wash:Int}{cause:List UInt8}{ls:List Bd}{gs:List aLe}{t:bWs}(E:dD9 ins d wash cause ls gs t):dJi t.steps:=E.runs.lens E.name E.fits fun _ h=>by cases h
theorem dD9.book{ins:List UInt8}{d wash:Int}{cause:List UInt8}{ls:List Bd}{gs:List aLe}{t:bWs}(E:dD9 ins d wash cause ls gs t):dBg ls t:=E.runs.book E.name E.ok dBg.start
theorem dD9.steps{ins:List UInt8}{d wash:Int}{cause:List UInt8}{ls:List Bd}{gs:List aLe}{t:bWs}(E:dD9 ins d wash cause ls gs t):dAo cause t:=E.runs.steps E.name E.ok (dAo.start _ _ _)
theorem dJ3{id:List UInt8}{l:List bZ9}{k:Nat}{st:bZ9}(h:l[k]?=some st):bZz id (l.take (k+1))=if st.dst=id/\st.src ≠ [] then st.src else bZz id (l.take k):=by
 unfold bZz;rw[List.take_add_one,h,Option.toList_some,List.foldl_append];rfl
theorem dKd{ls:List Bd}{z:Bd}{r:List UInt8}(hnd:(ls.map (·.id)).Nodup)(hz:z∈ls)(e:z.id=r):∃k:Nat,dEm (fun x=>x.id==r) ls=(k:Int)/\ls[k]?=some z:=by
 unfold dEm;cases hf:ls.findIdx? (fun x=>x.id==r) with
 |none =>
  have:=List.findIdx?_eq_none_iff.1 hf z hz;simp[e] at this
 |some k =>
  obtain⟨hk,hp,_⟩:=List.findIdx?_eq_some_iff_getElem.1 hf;have hid:ls[k].id=r:=by simpa using hp
  refine⟨k,rfl,?_⟩;rw[Lg hk];exact congrArg some (dBi hnd (List.getElem_mem hk) hz (hid.trans e.symm))
end
section
open Go Go.RowKit Num
section
variable {Γ:Type}{P:Program}{ops:Array Oper}{md:Region.Mode}{ds:List (Nat×Nat)}{val:Γ->Nat->Value}{G:Γ->Array Bool->World->Prop}{t0:Array Value}{d0:List Deferred}{Q:Exit->Act->World->Prop}{n:Nat}
def dKk(ds:List (Nat×Nat))(t0:Array Value)(l:Array Bool)(a:Act):Prop:=∀i s,(i,s)∈ds->bit l i=false->a.tmps[s]?=t0[s]?
theorem dKc(hds:sR ops=ds)(hnd:(ds.map Prod.snd).Nodup){γ:Γ}{l:Array Bool}{a a':Act}{w':World}{i:Nat}(hsz:l.size=ops.size)(hp:dKk ds t0 l a)
  (h:pY ops val G γ l a i a' w'):dKk ds t0 (l.setIfInBounds i true) a':=by
 obtain⟨o,v,γ',ho,rfl,_,_,_⟩:=h;intro j s hj hb;have hil:i<l.size:=by rw[hsz];exact(Ai.1 ho).1
 have hji:i≠j:=by
  rintro rfl;rw[dCv hil] at hb;cases hb
 rw[dCr hji] at hb;cases hd:o.dst with
 |none=>exact hp j s hj hb
 |some s' =>
  refine(dY fun es=>?_).trans (hp j s hj hb);subst es;have h1:(i,s)∈ds:=by rw[<-hds];exact pG.2 ⟨o,ho,hd⟩
  obtain⟨k1,hk1,e1⟩:=List.mem_iff_getElem.1 hj;obtain⟨k2,hk2,e2⟩:=List.mem_iff_getElem.1 h1;have hk1':k1<(ds.map Prod.snd).length:=by simpa using hk1
  have hk2':k2<(ds.map Prod.snd).length:=by simpa using hk2
  have:k1=k2:=(List.getElem_inj (h₀:=hk1') (h₁:=hk2') hnd).1 (by simp[e1,e2]);subst this;rw[e1] at e2;injection e2 with e2
  exact hji e2.symm
theorem dDw(hm:P.follows .mixedOrders=true)(hds:sR ops=ds)(hnd:(ds.map Prod.snd).Nodup)(hlt:∀p,p∈ds->p.2<t0.size)(hfw:Uq .any ops=true)
  (hstep:∀ γ l a w i,uL ops .any ds val G t0 d0 γ l a w->dKk ds t0 l a->i∈Region.ready .any ops l->wpOp P ops Q i (pY ops val G γ l a i) a w)
  {id:Nat}{γ:Γ}{a:Act}{w:World}(hdf:a.defers=d0) (ht:a.tmps=t0) (hg:G γ (Array.replicate ops.size false) (w.drewN 1))
  (hQ:∀ γ l W,(∀i,i<ops.size->lP l i)->G γ l W->Q .normal { tmps:=iZ (val γ) ds t0,defers:=d0 } W):(Code.region id ops true).wp P Q a w:=by
 refine wp_region_any hm ?_;refine uQ (fun l a w=>(∃ γ,uL ops .any ds val G t0 d0 γ l a w)/\dKk ds t0 l a) (fun l a w hi hr=>?_) (fun l a w i hi hr=>?_) _ _ _ _ (vS _) ⟨⟨γ,zY hdf ht hg⟩,fun i s _ _=>by rw[ht]⟩
 ·obtain⟨⟨γ,H⟩,_⟩:=hi;have hall:=Hz hfw H.sz hr;have:=H.done hds hnd hlt hall;subst this;exact hQ γ l w hall H.g
 ·obtain⟨⟨γ,H⟩,hp⟩:=hi;exact wpOp_mono (fun a' w' h=>⟨H.step hds hnd hlt hr h,dKc hds hnd H.sz hp h⟩) (hstep γ l a w i H hp hr)
end
end
section
open Go Go.RowKit Num
noncomputable def dKh:Array Oper:=(Tryz.f5.body.bind (dDa 30)).getD #[]
def dJ8:List (Nat×Nat):=[(0,125),(1,126),(2,127),(3,128),(4,129),(5,130),(6,24),(7,25)]
structure dJ6 where
 W0:World
 bs:Nat
 st:bZ9
 q:List UInt8
 r:List UInt8
def dJ6.val(C:dJ6)(_:Unit):Nat->Value
 |0=>.pointer (some ⟨C.bs,1,none⟩)
 |1=>.string ⟨C.st.src.toArray⟩
 |2=>.string ⟨C.q.toArray⟩
 |3=>.pointer (some ⟨C.bs,4,none⟩)
 |4=>.string ⟨C.st.made.toArray⟩
 |5=>.string ⟨C.r.toArray⟩
 |6=>.string ⟨C.st.src.toArray⟩
 |_=>.string ⟨C.r.toArray⟩
def dJ6.gg(C:dJ6)(_:Unit)(_:Array Bool)(W:World):Prop:=Below C.W0.heap.size C.W0 W
structure dKs(C:dJ6)(t0:Array Value):Prop where
 sz:t0.size=240
 lo25:t0[25]?=some (.string ⟨C.q.toArray⟩)
 lo28:t0[28]?=some (.pointer (some ⟨C.bs,0,none⟩))
 ks:aP C.W0 C.bs #[.string ⟨C.st.cause.toArray⟩,.string ⟨C.st.src.toArray⟩,.string ⟨C.st.dst.toArray⟩,.string ⟨C.st.q.toArray⟩,.string ⟨C.st.made.toArray⟩,.string ⟨C.st.c.toArray⟩] 45
 ha:∀W,Below C.W0.heap.size C.W0 W->Calls prog 18 #[.string ⟨C.q.toArray⟩,.string ⟨C.st.made.toArray⟩] W fun e w'=>e=.returned (.string ⟨C.r.toArray⟩)/\Below W.heap.size W w'
section
variable {C:dJ6}{t0:Array Value}{Q:Exit->Act->World->Prop}
theorem dJ2(M:dKs C t0){a:Act}{w:World}(hdf:a.defers=[])(ht:a.tmps=t0)(hw:w.drewN 1=C.W0)
  (hQ:∀W,Below C.W0.heap.size C.W0 W->Q .normal { tmps:=iZ (C.val ()) dJ8 t0,defers:=[] } W):(Code.region 30 dKh true).wp prog Q a w:=by
 have hsz:dKh.size=8:=by kernel_rfl
 refine dDw (ds:=dJ8) (val:=C.val) (G:=C.gg) (by kernel_rfl) (by kernel_rfl) (by decide) (fun p hp=>?_) (by kernel_rfl) ?_ (γ:=()) hdf ht (by rw[hw];exact Br _ _) (fun _ _ W _ hg=>hQ W hg)
 ·rw[M.sz];have:∀p,p∈dJ8->p.2<240:=by decide
  exact this p hp
 ·intro γ l a w i H HP hr;cases γ;have hi:i<8:=by
   obtain⟨_,o,ho,_⟩:=mem_ready.1 hr;have:=(Ai.1 ho).1;rw[hsz] at this;exact this
  have lo28:=H.low (s:=28) (by decide) M.lo28;have lq25:bit l 7=false->a.tmps[25]?=some (.string ⟨C.q.toArray⟩):=fun h=>(HP 7 25 (by decide) h).trans M.lo25
  have hb:=H.g
  match i,hi,hr with
  |0,_,hr =>
   exact aWj (.fieldAddr 45 (.tmp 28) 1) (.pointer (some ⟨C.bs,1,none⟩)) (fun o h=>by simp[execOp,h,lo28,go_sem]) hb
  |1,_,hr =>
   have v0:a.tmps[125]?=some (.pointer (some ⟨C.bs,1,none⟩)):=H.dep hr 0 125;have c1:w.cell? ⟨C.bs,1,none⟩=some (.string ⟨C.st.src.toArray⟩):=(hb.cell (p:=⟨C.bs,1,none⟩) M.ks.1).trans ((M.ks.cell 1).trans rfl);exact aWj (.load 9 (.tmp 125)) (.string ⟨C.st.src.toArray⟩) (fun o h=>by simp[execOp,h,v0,c1,go_sem]) hb
  |2,_,hr =>
   have f2:=dCq hr;have f5:=H.off 2 5 f2;have f7:=H.off 5 7 f5;have lo25:=lq25 f7;exact aWj (.move (.tmp 25)) (.string ⟨C.q.toArray⟩) (fun o h=>by simp[execOp,h,lo25,go_sem]) hb
  |3,_,hr =>
   exact aWj (.fieldAddr 45 (.tmp 28) 4) (.pointer (some ⟨C.bs,4,none⟩)) (fun o h=>by simp[execOp,h,lo28,go_sem]) hb
  |4,_,hr =>
   have v3:a.tmps[128]?=some (.pointer (some ⟨C.bs,4,none⟩)):=H.dep hr 3 128;have c4:w.cell? ⟨C.bs,4,none⟩=some (.string ⟨C.st.made.toArray⟩):=(hb.cell (p:=⟨C.bs,4,none⟩) M.ks.1).trans ((M.ks.cell 4).trans rfl);exact aWj (.load 36 (.tmp 128)) (.string ⟨C.st.made.toArray⟩) (fun o h=>by simp[execOp,h,v3,c4,go_sem]) hb
  |5,_,hr =>
   have v2:a.tmps[127]?=some (.string ⟨C.q.toArray⟩):=H.dep hr 2 127;have v4:a.tmps[129]?=some (.string ⟨C.st.made.toArray⟩):=H.dep hr 4 129;refine gA (f:=18) (lb:=#[]) (c:=.func 18) (args:=#[(.tmp 127),(.tmp 129)]) (ts:=#[36,36]) (vs:=#[.string ⟨C.q.toArray⟩,.string ⟨C.st.made.toArray⟩]) (by kernel_rfl) rfl (aXb func18) (by simp[Act.eval,v2,v4]) ((M.ha _ hb).mono ?_);rintro e w' ⟨rfl,hb'⟩;exact⟨_,(),rfl,rfl,fun _ _=>rfl,aA hb hb'⟩
  |6,_,hr =>
   have v1:a.tmps[126]?=some (.string ⟨C.st.src.toArray⟩):=H.dep hr 1 126;exact aWj (.assign (.tmp 126)) (.string ⟨C.st.src.toArray⟩) (fun o h=>by simp[execOp,h,v1,go_sem]) hb
  |7,_,hr =>
   have v5:a.tmps[130]?=some (.string ⟨C.r.toArray⟩):=H.dep hr 5 130;exact aWj (.assign (.tmp 130)) (.string ⟨C.r.toArray⟩) (fun o h=>by simp[execOp,h,v5,go_sem]) hb
  |n+8,h,_=>exact absurd h (by omega)
end
noncomputable def dKg:Array Oper:=(Tryz.f5.body.bind (dDa 32)).getD #[]
def dJx:List (Nat×Nat):=[(0,136),(1,137),(2,138),(3,139),(4,140),(5,141),(6,142),(7,143),(8,25),(9,26)]
structure dJz where
 W0:World
 bs:Nat
 st:bZ9
 q:List UInt8
 c:List UInt8
 r:List UInt8
 s:List UInt8
def dJz.val(C:dJz)(_:Unit):Nat->Value
 |0=>.string ⟨C.q.toArray⟩
 |1=>.pointer (some ⟨C.bs,3,none⟩)
 |2=>.string ⟨C.st.q.toArray⟩
 |3=>.string ⟨C.r.toArray⟩
 |4=>.string ⟨C.c.toArray⟩
 |5=>.pointer (some ⟨C.bs,5,none⟩)
 |6=>.string ⟨C.st.c.toArray⟩
 |7=>.string ⟨C.s.toArray⟩
 |8=>.string ⟨C.r.toArray⟩
 |_=>.string ⟨C.s.toArray⟩
def dJz.gg(C:dJz)(_:Unit)(_:Array Bool)(W:World):Prop:=Below C.W0.heap.size C.W0 W
structure dKr(C:dJz)(t0:Array Value):Prop where
 sz:t0.size=240
 lo25:t0[25]?=some (.string ⟨C.q.toArray⟩)
 lo26:t0[26]?=some (.string ⟨C.c.toArray⟩)
 lo28:t0[28]?=some (.pointer (some ⟨C.bs,0,none⟩))
 ks:aP C.W0 C.bs #[.string ⟨C.st.cause.toArray⟩,.string ⟨C.st.src.toArray⟩,.string ⟨C.st.dst.toArray⟩,.string ⟨C.st.q.toArray⟩,.string ⟨C.st.made.toArray⟩,.string ⟨C.st.c.toArray⟩] 45
 ha:∀W,Below C.W0.heap.size C.W0 W->Calls prog 15 #[.string ⟨C.q.toArray⟩,.string ⟨C.st.q.toArray⟩] W fun e w'=>e=.returned (.string ⟨C.r.toArray⟩)/\Below W.heap.size W w'
 hs:∀W,Below C.W0.heap.size C.W0 W->Calls prog 15 #[.string ⟨C.c.toArray⟩,.string ⟨C.st.c.toArray⟩] W fun e w'=>e=.returned (.string ⟨C.s.toArray⟩)/\Below W.heap.size W w'
section
variable {C:dJz}{t0:Array Value}{Q:Exit->Act->World->Prop}
theorem dJf(M:dKr C t0){a:Act}{w:World}(hdf:a.defers=[])(ht:a.tmps=t0)(hw:w.drewN 1=C.W0)
  (hQ:∀W,Below C.W0.heap.size C.W0 W->Q .normal { tmps:=iZ (C.val ()) dJx t0,defers:=[] } W):(Code.region 32 dKg true).wp prog Q a w:=by
 have hsz:dKg.size=10:=by kernel_rfl
 refine dDw (ds:=dJx) (val:=C.val) (G:=C.gg) (by kernel_rfl) (by kernel_rfl) (by decide) (fun p hp=>?_) (by kernel_rfl) ?_ (γ:=()) hdf ht (by rw[hw];exact Br _ _) (fun _ _ W _ hg=>hQ W hg)
 ·rw[M.sz];have:∀p,p∈dJx->p.2<240:=by decide
  exact this p hp
 ·intro γ l a w i H HP hr;cases γ;have hi:i<10:=by
   obtain⟨_,o,ho,_⟩:=mem_ready.1 hr;have:=(Ai.1 ho).1;rw[hsz] at this;exact this
  have lo28:=H.low (s:=28) (by decide) M.lo28;have lq25:bit l 8=false->a.tmps[25]?=some (.string ⟨C.q.toArray⟩):=fun h=>(HP 8 25 (by decide) h).trans M.lo25
  have lq26:bit l 9=false->a.tmps[26]?=some (.string ⟨C.c.toArray⟩):=fun h=>(HP 9 26 (by decide) h).trans M.lo26
  have hb:=H.g
  match i,hi,hr with
  |0,_,hr =>
   have f0:=dCq hr;have f3:=H.off 0 3 f0;have f8:=H.off 3 8 f3;have lo25:=lq25 f8;exact aWj (.move (.tmp 25)) (.string ⟨C.q.toArray⟩) (fun o h=>by simp[execOp,h,lo25,go_sem]) hb
  |1,_,hr =>
   exact aWj (.fieldAddr 45 (.tmp 28) 3) (.pointer (some ⟨C.bs,3,none⟩)) (fun o h=>by simp[execOp,h,lo28,go_sem]) hb
  |2,_,hr =>
   have v1:a.tmps[137]?=some (.pointer (some ⟨C.bs,3,none⟩)):=H.dep hr 1 137;have c3:w.cell? ⟨C.bs,3,none⟩=some (.string ⟨C.st.q.toArray⟩):=(hb.cell (p:=⟨C.bs,3,none⟩) M.ks.1).trans ((M.ks.cell 3).trans rfl);exact aWj (.load 36 (.tmp 137)) (.string ⟨C.st.q.toArray⟩) (fun o h=>by simp[execOp,h,v1,c3,go_sem]) hb
  |3,_,hr =>
   have v0:a.tmps[136]?=some (.string ⟨C.q.toArray⟩):=H.dep hr 0 136;have v2:a.tmps[138]?=some (.string ⟨C.st.q.toArray⟩):=H.dep hr 2 138;refine gA (f:=15) (lb:=#[]) (c:=.func 15) (args:=#[(.tmp 136),(.tmp 138)]) (ts:=#[36,36]) (vs:=#[.string ⟨C.q.toArray⟩,.string ⟨C.st.q.toArray⟩]) (by kernel_rfl) rfl (aXb func15) (by simp[Act.eval,v0,v2]) ((M.ha _ hb).mono ?_);rintro e w' ⟨rfl,hb'⟩;exact⟨_,(),rfl,rfl,fun _ _=>rfl,aA hb hb'⟩
  |4,_,hr =>
   have f4:=dCq hr;have f7:=H.off 4 7 f4;have f9:=H.off 7 9 f7;have lo26:=lq26 f9;exact aWj (.move (.tmp 26)) (.string ⟨C.c.toArray⟩) (fun o h=>by simp[execOp,h,lo26,go_sem]) hb
  |5,_,hr =>
   exact aWj (.fieldAddr 45 (.tmp 28) 5) (.pointer (some ⟨C.bs,5,none⟩)) (fun o h=>by simp[execOp,h,lo28,go_sem]) hb
  |6,_,hr =>
   have v5:a.tmps[141]?=some (.pointer (some ⟨C.bs,5,none⟩)):=H.dep hr 5 141;have c5:w.cell? ⟨C.bs,5,none⟩=some (.string ⟨C.st.c.toArray⟩):=(hb.cell (p:=⟨C.bs,5,none⟩) M.ks.1).trans ((M.ks.cell 5).trans rfl);exact aWj (.load 36 (.tmp 141)) (.string ⟨C.st.c.toArray⟩) (fun o h=>by simp[execOp,h,v5,c5,go_sem]) hb
  |7,_,hr =>
   have v4:a.tmps[140]?=some (.string ⟨C.c.toArray⟩):=H.dep hr 4 140;have v6:a.tmps[142]?=some (.string ⟨C.st.c.toArray⟩):=H.dep hr 6 142;refine gA (f:=15) (lb:=#[]) (c:=.func 15) (args:=#[(.tmp 140),(.tmp 142)]) (ts:=#[36,36]) (vs:=#[.string ⟨C.c.toArray⟩,.string ⟨C.st.c.toArray⟩]) (by kernel_rfl) rfl (aXb func15) (by simp[Act.eval,v4,v6]) ((M.hs _ hb).mono ?_);rintro e w' ⟨rfl,hb'⟩;exact⟨_,(),rfl,rfl,fun _ _=>rfl,aA hb hb'⟩
  |8,_,hr =>
   have v3:a.tmps[139]?=some (.string ⟨C.r.toArray⟩):=H.dep hr 3 139;exact aWj (.assign (.tmp 139)) (.string ⟨C.r.toArray⟩) (fun o h=>by simp[execOp,h,v3,go_sem]) hb
  |9,_,hr =>
   have v7:a.tmps[143]?=some (.string ⟨C.s.toArray⟩):=H.dep hr 7 143;exact aWj (.assign (.tmp 143)) (.string ⟨C.s.toArray⟩) (fun o h=>by simp[execOp,h,v7,go_sem]) hb
  |n+10,h,_=>exact absurd h (by omega)
end
noncomputable def dKf:Array Oper:=(Tryz.f5.body.bind (dDa 38)).getD #[]
def dJ7:List (Nat×Nat):=[(0,167),(1,168),(2,169),(3,170),(4,171),(5,172),(6,173),(7,174),(8,175),(9,176),(10,177),(11,178),(12,179),(13,180),(14,25),(15,26)]
structure dJ5 where
 W0:World
 g:Nat
 o:Nat
 n:Nat
 cap:Nat
 k:Nat
 zq:List UInt8
 zc:List UInt8
 q:List UInt8
 c:List UInt8
 r:List UInt8
 s:List UInt8
def dJ5.val(C:dJ5)(_:Unit):Nat->Value
 |0=>.string ⟨C.q.toArray⟩
 |1=>.slice (some ⟨C.g,C.o,none⟩) C.n C.cap
 |2=>.int .i64 (C.k:Int)
 |3=>.pointer (some ⟨C.g,C.o+C.k*7,none⟩)
 |4=>.pointer (some ⟨C.g,C.o+C.k*7+4,none⟩)
 |5=>.string ⟨C.zq.toArray⟩
 |6=>.string ⟨C.r.toArray⟩
 |7=>.string ⟨C.c.toArray⟩
 |8=>.slice (some ⟨C.g,C.o,none⟩) C.n C.cap
 |9=>.int .i64 (C.k:Int)
 |10=>.pointer (some ⟨C.g,C.o+C.k*7,none⟩)
 |11=>.pointer (some ⟨C.g,C.o+C.k*7+5,none⟩)
 |12=>.string ⟨C.zc.toArray⟩
 |13=>.string ⟨C.s.toArray⟩
 |14=>.string ⟨C.r.toArray⟩
 |_=>.string ⟨C.s.toArray⟩
def dJ5.gg(C:dJ5)(_:Unit)(_:Array Bool)(W:World):Prop:=Below C.W0.heap.size C.W0 W
structure dKq(C:dJ5)(t0:Array Value):Prop where
 sz:t0.size=240
 lo0:t0[0]?=some (.slice (some ⟨C.g,C.o,none⟩) C.n C.cap)
 lo25:t0[25]?=some (.string ⟨C.q.toArray⟩)
 lo26:t0[26]?=some (.string ⟨C.c.toArray⟩)
 lo29:t0[29]?=some (.int .i64 (C.k:Int))
 kg:C.g<C.W0.heap.size
 g4:C.W0.cell? ⟨C.g,C.o+C.k*7+4,none⟩=some (.string ⟨C.zq.toArray⟩)
 g5:C.W0.cell? ⟨C.g,C.o+C.k*7+5,none⟩=some (.string ⟨C.zc.toArray⟩)
 hi:C.k<C.n
 hn:C.n<=1000000
 ha:∀W,Below C.W0.heap.size C.W0 W->Calls prog 18 #[.string ⟨C.q.toArray⟩,.string ⟨C.zq.toArray⟩] W fun e w'=>e=.returned (.string ⟨C.r.toArray⟩)/\Below W.heap.size W w'
 hs:∀W,Below C.W0.heap.size C.W0 W->Calls prog 18 #[.string ⟨C.c.toArray⟩,.string ⟨C.zc.toArray⟩] W fun e w'=>e=.returned (.string ⟨C.s.toArray⟩)/\Below W.heap.size W w'
section
variable {C:dJ5}{t0:Array Value}{Q:Exit->Act->World->Prop}
theorem dJ1(M:dKq C t0){a:Act}{w:World}(hdf:a.defers=[])(ht:a.tmps=t0)(hw:w.drewN 1=C.W0)
  (hQ:∀W,Below C.W0.heap.size C.W0 W->Q .normal { tmps:=iZ (C.val ()) dJ7 t0,defers:=[] } W):(Code.region 38 dKf true).wp prog Q a w:=by
 have hsz:dKf.size=16:=by kernel_rfl
 refine dDw (ds:=dJ7) (val:=C.val) (G:=C.gg) (by kernel_rfl) (by kernel_rfl) (by decide) (fun p hp=>?_) (by kernel_rfl) ?_ (γ:=()) hdf ht (by rw[hw];exact Br _ _) (fun _ _ W _ hg=>hQ W hg)
 ·rw[M.sz];have:∀p,p∈dJ7->p.2<240:=by decide
  exact this p hp
 ·intro γ l a w i H HP hr;cases γ;have hi:i<16:=by
   obtain⟨_,o,ho,_⟩:=mem_ready.1 hr;have:=(Ai.1 ho).1;rw[hsz] at this;exact this
  have lo0:=H.low (s:=0) (by decide) M.lo0;have lo29:=H.low (s:=29) (by decide) M.lo29;have lq25:bit l 14=false->a.tmps[25]?=some (.string ⟨C.q.toArray⟩):=fun h=>(HP 14 25 (by decide) h).trans M.lo25
  have lq26:bit l 15=false->a.tmps[26]?=some (.string ⟨C.c.toArray⟩):=fun h=>(HP 15 26 (by decide) h).trans M.lo26
  have hb:=H.g
  match i,hi,hr with
  |0,_,hr =>
   have f0:=dCq hr;have f6:=H.off 0 6 f0;have f14:=H.off 6 14 f6;have lo25:=lq25 f14;exact aWj (.move (.tmp 25)) (.string ⟨C.q.toArray⟩) (fun o h=>by simp[execOp,h,lo25,go_sem]) hb
  |1,_,hr =>
   exact aWj (.move (.tmp 0)) (.slice (some ⟨C.g,C.o,none⟩) C.n C.cap) (fun o h=>by simp[execOp,h,lo0,go_sem]) hb
  |2,_,hr =>
   exact aWj (.move (.tmp 29)) (.int .i64 (C.k:Int)) (fun o h=>by simp[execOp,h,lo29,go_sem]) hb
  |3,_,hr =>
   have v1:a.tmps[168]?=some (.slice (some ⟨C.g,C.o,none⟩) C.n C.cap):=H.dep hr 1 168;have v2:a.tmps[169]?=some (.int .i64 (C.k:Int)):=H.dep hr 2 169;have hi1:=M.hi;have hn1:=M.hn;have hi2:(C.k:Int)<C.n:=by omega
   exact aWj (.indexAddr 22 (.tmp 168) (.tmp 169)) (.pointer (some ⟨C.g,C.o+C.k*7,none⟩)) (fun o h=>by simp[execOp,h,v1,v2,hi2,go_sem]) hb
  |4,_,hr =>
   have v3:a.tmps[170]?=some (.pointer (some ⟨C.g,C.o+C.k*7,none⟩)):=H.dep hr 3 170;exact aWj (.fieldAddr 49 (.tmp 170) 4) (.pointer (some ⟨C.g,C.o+C.k*7+4,none⟩)) (fun o h=>by simp[execOp,h,v3,go_sem]) hb
  |5,_,hr =>
   have v4:a.tmps[171]?=some (.pointer (some ⟨C.g,C.o+C.k*7+4,none⟩)):=H.dep hr 4 171;have d4:w.cell? ⟨C.g,C.o+C.k*7+4,none⟩=some (.string ⟨C.zq.toArray⟩):=(hb.cell (p:=⟨C.g,C.o+C.k*7+4,none⟩) M.kg).trans M.g4;exact aWj (.load 36 (.tmp 171)) (.string ⟨C.zq.toArray⟩) (fun o h=>by simp[execOp,h,v4,d4,go_sem]) hb
  |6,_,hr =>
   have v0:a.tmps[167]?=some (.string ⟨C.q.toArray⟩):=H.dep hr 0 167;have v5:a.tmps[172]?=some (.string ⟨C.zq.toArray⟩):=H.dep hr 5 172;refine gA (f:=18) (lb:=#[]) (c:=.func 18) (args:=#[(.tmp 167),(.tmp 172)]) (ts:=#[36,36]) (vs:=#[.string ⟨C.q.toArray⟩,.string ⟨C.zq.toArray⟩]) (by kernel_rfl) rfl (aXb func18) (by simp[Act.eval,v0,v5]) ((M.ha _ hb).mono ?_);rintro e w' ⟨rfl,hb'⟩;exact⟨_,(),rfl,rfl,fun _ _=>rfl,aA hb hb'⟩
  |7,_,hr =>
   have f7:=dCq hr;have f13:=H.off 7 13 f7;have f15:=H.off 13 15 f13;have lo26:=lq26 f15;exact aWj (.move (.tmp 26)) (.string ⟨C.c.toArray⟩) (fun o h=>by simp[execOp,h,lo26,go_sem]) hb
  |8,_,hr =>
   exact aWj (.move (.tmp 0)) (.slice (some ⟨C.g,C.o,none⟩) C.n C.cap) (fun o h=>by simp[execOp,h,lo0,go_sem]) hb
  |9,_,hr =>
   exact aWj (.move (.tmp 29)) (.int .i64 (C.k:Int)) (fun o h=>by simp[execOp,h,lo29,go_sem]) hb
  |10,_,hr =>
   have v8:a.tmps[175]?=some (.slice (some ⟨C.g,C.o,none⟩) C.n C.cap):=H.dep hr 8 175;have v9:a.tmps[176]?=some (.int .i64 (C.k:Int)):=H.dep hr 9 176;have hi1:=M.hi;have hn1:=M.hn;have hi2:(C.k:Int)<C.n:=by omega
   exact aWj (.indexAddr 22 (.tmp 175) (.tmp 176)) (.pointer (some ⟨C.g,C.o+C.k*7,none⟩)) (fun o h=>by simp[execOp,h,v8,v9,hi2,go_sem]) hb
  |11,_,hr =>
   have v10:a.tmps[177]?=some (.pointer (some ⟨C.g,C.o+C.k*7,none⟩)):=H.dep hr 10 177;exact aWj (.fieldAddr 49 (.tmp 177) 5) (.pointer (some ⟨C.g,C.o+C.k*7+5,none⟩)) (fun o h=>by simp[execOp,h,v10,go_sem]) hb
  |12,_,hr =>
   have v11:a.tmps[178]?=some (.pointer (some ⟨C.g,C.o+C.k*7+5,none⟩)):=H.dep hr 11 178;have d5:w.cell? ⟨C.g,C.o+C.k*7+5,none⟩=some (.string ⟨C.zc.toArray⟩):=(hb.cell (p:=⟨C.g,C.o+C.k*7+5,none⟩) M.kg).trans M.g5;exact aWj (.load 36 (.tmp 178)) (.string ⟨C.zc.toArray⟩) (fun o h=>by simp[execOp,h,v11,d5,go_sem]) hb
  |13,_,hr =>
   have v7:a.tmps[174]?=some (.string ⟨C.c.toArray⟩):=H.dep hr 7 174;have v12:a.tmps[179]?=some (.string ⟨C.zc.toArray⟩):=H.dep hr 12 179;refine gA (f:=18) (lb:=#[]) (c:=.func 18) (args:=#[(.tmp 174),(.tmp 179)]) (ts:=#[36,36]) (vs:=#[.string ⟨C.c.toArray⟩,.string ⟨C.zc.toArray⟩]) (by kernel_rfl) rfl (aXb func18) (by simp[Act.eval,v7,v12]) ((M.hs _ hb).mono ?_);rintro e w' ⟨rfl,hb'⟩;exact⟨_,(),rfl,rfl,fun _ _=>rfl,aA hb hb'⟩
  |14,_,hr =>
   have v6:a.tmps[173]?=some (.string ⟨C.r.toArray⟩):=H.dep hr 6 173;exact aWj (.assign (.tmp 173)) (.string ⟨C.r.toArray⟩) (fun o h=>by simp[execOp,h,v6,go_sem]) hb
  |15,_,hr =>
   have v13:a.tmps[180]?=some (.string ⟨C.s.toArray⟩):=H.dep hr 13 180;exact aWj (.assign (.tmp 180)) (.string ⟨C.s.toArray⟩) (fun o h=>by simp[execOp,h,v13,go_sem]) hb
  |n+16,h,_=>exact absurd h (by omega)
end
noncomputable def dKe:Array Oper:=(Tryz.f5.body.bind (dDa 39)).getD #[]
def dJw:List (Nat×Nat):=[(0,181),(1,182),(2,183),(3,184),(4,185),(5,186),(6,187),(7,188),(8,189),(9,190),(10,191),(11,192),(12,193),(13,194),(14,195),(15,196),(16,197),(17,198),(18,199),(19,200),(20,201),(21,202),(22,203),(23,204),(24,205),(25,206),(26,207),(27,208),(28,209),(29,210),(30,211),(31,212),(32,213),(33,214),(34,215),(35,216),(36,217),(37,218),(38,219),(39,220),(40,221),(41,222),(42,223),(43,224),(44,225),(45,226),(46,227),(47,228),(48,229),(49,230),(50,231),(51,232),(52,233),(53,234),(54,235),(55,236),(56,237)]
structure dJy where
 W0:World
 bx:Nat
 x:Bd
 g:Nat
 o:Nat
 n:Nat
 cap:Nat
 k:Nat
 za:Int
 n1:Bool
 n2:Bool
def dJy.val(C:dJy)(_:Unit):Nat->Value
 |0=>.string ⟨C.x.q.toArray⟩
 |1=>.pointer (some ⟨C.bx,4,none⟩)
 |2=>.string ⟨C.x.q.toArray⟩
 |3=>.bool false
 |4=>.bool false
 |5=>.string ⟨C.x.c.toArray⟩
 |6=>.pointer (some ⟨C.bx,5,none⟩)
 |7=>.string ⟨C.x.c.toArray⟩
 |8=>.bool false
 |9=>.bool false
 |10=>.bool false
 |11=>.pointer (some ⟨C.bx,3,none⟩)
 |12=>.int .i64 C.x.opn
 |13=>.slice (some ⟨C.g,C.o,none⟩) C.n C.cap
 |14=>.int .i64 (C.k:Int)
 |15=>.pointer (some ⟨C.g,C.o+C.k*7,none⟩)
 |16=>.pointer (some ⟨C.g,C.o+C.k*7+3,none⟩)
 |17=>.int .i64 C.x.opn
 |18=>.bool false
 |19=>.bool false
 |20=>.bool false
 |21=>.pointer (some ⟨C.bx,1,none⟩)
 |22=>.string ⟨C.x.ins.toArray⟩
 |23=>.slice (some ⟨C.g,C.o,none⟩) C.n C.cap
 |24=>.int .i64 (C.k:Int)
 |25=>.pointer (some ⟨C.g,C.o+C.k*7,none⟩)
 |26=>.pointer (some ⟨C.g,C.o+C.k*7+1,none⟩)
 |27=>.string ⟨C.x.ins.toArray⟩
 |28=>.bool false
 |29=>.bool false
 |30=>.bool false
 |31=>.pointer (some ⟨C.bx,2,none⟩)
 |32=>.int .i64 C.x.acq
 |33=>.slice (some ⟨C.g,C.o,none⟩) C.n C.cap
 |34=>.int .i64 (C.k:Int)
 |35=>.pointer (some ⟨C.g,C.o+C.k*7,none⟩)
 |36=>.pointer (some ⟨C.g,C.o+C.k*7+2,none⟩)
 |37=>.int .i64 C.za
 |38=>.bool false
 |39=>.bool false
 |40=>.bool false
 |41=>.pointer (some ⟨C.bx,2,none⟩)
 |42=>.int .i64 C.x.acq
 |43=>.slice (some ⟨C.g,C.o,none⟩) C.n C.cap
 |44=>.int .i64 (C.k:Int)
 |45=>.pointer (some ⟨C.g,C.o+C.k*7,none⟩)
 |46=>.pointer (some ⟨C.g,C.o+C.k*7+2,none⟩)
 |47=>.int .i64 C.za
 |48=>.bool C.n1
 |49=>.bool C.n1
 |50=>gv C.n1 (.pointer (some ⟨C.bx,6,none⟩))
 |51=>gv C.n1 (.string ⟨C.x.u.toArray⟩)
 |52=>gv C.n1 (.pointer (some ⟨C.bx,4,none⟩))
 |53=>gv C.n1 (.string ⟨C.x.q.toArray⟩)
 |54=>gv C.n1 (.bool C.n2)
 |55=>.bool (C.n1&&C.n2)
 |_=>.bool (C.n1&&C.n2)
def dJy.gg(C:dJy)(_:Unit)(_:Array Bool)(W:World):Prop:=Below C.W0.heap.size C.W0 W
structure dKp(C:dJy)(t0:Array Value):Prop where
 sz:t0.size=240
 lo0:t0[0]?=some (.slice (some ⟨C.g,C.o,none⟩) C.n C.cap)
 lo23:t0[23]?=some (.pointer (some ⟨C.bx,0,none⟩))
 lo25:t0[25]?=some (.string ⟨C.x.q.toArray⟩)
 lo26:t0[26]?=some (.string ⟨C.x.c.toArray⟩)
 lo29:t0[29]?=some (.int .i64 (C.k:Int))
 kx:aP C.W0 C.bx #[.string ⟨C.x.id.toArray⟩,.string ⟨C.x.ins.toArray⟩,.int .i64 C.x.acq,.int .i64 C.x.opn,.string ⟨C.x.q.toArray⟩,.string ⟨C.x.c.toArray⟩,.string ⟨C.x.u.toArray⟩] 49
 kg:C.g<C.W0.heap.size
 g1:C.W0.cell? ⟨C.g,C.o+C.k*7+1,none⟩=some (.string ⟨C.x.ins.toArray⟩)
 g2:C.W0.cell? ⟨C.g,C.o+C.k*7+2,none⟩=some (.int .i64 C.za)
 g3:C.W0.cell? ⟨C.g,C.o+C.k*7+3,none⟩=some (.int .i64 C.x.opn)
 hi:C.k<C.n
 hn:C.n<=1000000
 h1:decide (C.za<C.x.acq)=false
 n1:decide (C.x.acq<C.za)=C.n1
 n2:(C.x.u==C.x.q) = !C.n2
section
variable {C:dJy}{t0:Array Value}{Q:Exit->Act->World->Prop}
theorem dI9(M:dKp C t0){a:Act}{w:World}(hdf:a.defers=[])(ht:a.tmps=t0)(hw:w.drewN 1=C.W0)
  (hQ:∀W,Below C.W0.heap.size C.W0 W->Q .normal { tmps:=iZ (C.val ()) dJw t0,defers:=[] } W):(Code.region 39 dKe true).wp prog Q a w:=by
 have hsz:dKe.size=57:=by kernel_rfl
 refine dCy (ds:=dJw) (val:=C.val) (G:=C.gg) (by kernel_rfl) (by kernel_rfl) (by decide) (fun p hp=>?_) (by kernel_rfl) ?_ (γ:=()) hdf ht (by rw[hw];exact Br _ _) (fun _ _ W _ hg=>hQ W hg)
 ·rw[M.sz];have:∀p,p∈dJw->p.2<240:=by decide
  exact this p hp
 ·intro γ l a w i H hr;cases γ;have hi:i<57:=by
   obtain⟨_,o,ho,_⟩:=mem_ready.1 hr;have:=(Ai.1 ho).1;rw[hsz] at this;exact this
  have lo0:=H.low (s:=0) (by decide) M.lo0;have lo23:=H.low (s:=23) (by decide) M.lo23;have lo25:=H.low (s:=25) (by decide) M.lo25;have lo26:=H.low (s:=26) (by decide) M.lo26;have lo29:=H.low (s:=29) (by decide) M.lo29;have hb:=H.g
  match i,hi,hr with
  |0,_,hr =>
   exact aWj (.move (.tmp 25)) (.string ⟨C.x.q.toArray⟩) (fun o h=>by simp[execOp,h,lo25,go_sem]) hb
  |1,_,hr =>
   exact aWj (.fieldAddr 49 (.tmp 23) 4) (.pointer (some ⟨C.bx,4,none⟩)) (fun o h=>by simp[execOp,h,lo23,go_sem]) hb
  |2,_,hr =>
   have v1:a.tmps[182]?=some (.pointer (some ⟨C.bx,4,none⟩)):=H.dep hr 1 182;have c4:w.cell? ⟨C.bx,4,none⟩=some (.string ⟨C.x.q.toArray⟩):=(hb.cell (p:=⟨C.bx,4,none⟩) M.kx.1).trans ((M.kx.cell 4).trans rfl);exact aWj (.load 36 (.tmp 182)) (.string ⟨C.x.q.toArray⟩) (fun o h=>by simp[execOp,h,v1,c4,go_sem]) hb
  |3,_,hr =>
   have v0:a.tmps[181]?=some (.string ⟨C.x.q.toArray⟩):=H.dep hr 0 181;have v2:a.tmps[183]?=some (.string ⟨C.x.q.toArray⟩):=H.dep hr 2 183;exact aWj (.binOp .neq 36 (.tmp 181) (.tmp 183) 36) (.bool false) (fun o h=>by simp[execOp,h,v0,v2,go_sem]) hb
  |4,_,hr =>
   have v3:a.tmps[184]?=some (.bool false):=H.dep hr 3 184;exact aWj (.move (.tmp 184)) (.bool false) (fun o h=>by simp[execOp,h,v3,go_sem]) hb
  |5,_,hr =>
   have hv:a.tmps[185]?=some (.bool false):=H.dep hr 4 185;exact bMv (X:=.move (.tmp 26)) (v:=.string ⟨C.x.c.toArray⟩) (by kernel_rfl) (nL (b:=false) (gb:=false) (by kernel_rfl) rfl (j:=4) (s:=185) (by kernel_rfl) hv) (fun o h=>by simp[execOp,h,lo26,go_sem]) rfl hb
  |6,_,hr =>
   have hv:a.tmps[185]?=some (.bool false):=H.dep hr 4 185;exact bMv (X:=.fieldAddr 49 (.tmp 23) 5) (v:=.pointer (some ⟨C.bx,5,none⟩)) (by kernel_rfl) (nL (b:=false) (gb:=false) (by kernel_rfl) rfl (j:=4) (s:=185) (by kernel_rfl) hv) (fun o h=>by simp[execOp,h,lo23,go_sem]) rfl hb
  |7,_,hr =>
   have hv:a.tmps[185]?=some (.bool false):=H.dep hr 4 185;have v6:a.tmps[187]?=some (.pointer (some ⟨C.bx,5,none⟩)):=H.dep hr 6 187;have c5:w.cell? ⟨C.bx,5,none⟩=some (.string ⟨C.x.c.toArray⟩):=(hb.cell (p:=⟨C.bx,5,none⟩) M.kx.1).trans ((M.kx.cell 5).trans rfl);exact bMv (X:=.load 36 (.tmp 187)) (v:=.string ⟨C.x.c.toArray⟩) (by kernel_rfl) (nL (b:=false) (gb:=false) (by kernel_rfl) rfl (j:=4) (s:=185) (by kernel_rfl) hv) (fun o h=>by simp[execOp,h,v6,c5,go_sem]) rfl hb
  |8,_,hr =>
   have hv:a.tmps[185]?=some (.bool false):=H.dep hr 4 185;have v5:a.tmps[186]?=some (.string ⟨C.x.c.toArray⟩):=H.dep hr 5 186;have v7:a.tmps[188]?=some (.string ⟨C.x.c.toArray⟩):=H.dep hr 7 188;exact bMv (X:=.binOp .neq 36 (.tmp 186) (.tmp 188) 36) (v:=.bool false) (by kernel_rfl) (nL (b:=false) (gb:=false) (by kernel_rfl) rfl (j:=4) (s:=185) (by kernel_rfl) hv) (fun o h=>by simp[execOp,h,v5,v7,go_sem]) rfl hb
  |9,_,hr =>
   have v4:a.tmps[185]?=some (.bool false):=H.dep hr 4 185;have v8:a.tmps[189]?=some (.bool false):=H.dep hr 8 189;exact aWj (.pick (.tmp 185) (.const (.bool true)) (.tmp 189)) (.bool false) (fun o h=>by simp[execOp,h,v4,v8,go_sem]) hb
  |10,_,hr =>
   have v9:a.tmps[190]?=some (.bool false):=H.dep hr 9 190;exact aWj (.move (.tmp 190)) (.bool false) (fun o h=>by simp[execOp,h,v9,go_sem]) hb
  |11,_,hr =>
   have hv:a.tmps[191]?=some (.bool false):=H.dep hr 10 191;exact bMv (X:=.fieldAddr 49 (.tmp 23) 3) (v:=.pointer (some ⟨C.bx,3,none⟩)) (by kernel_rfl) (nL (b:=false) (gb:=false) (by kernel_rfl) rfl (j:=10) (s:=191) (by kernel_rfl) hv) (fun o h=>by simp[execOp,h,lo23,go_sem]) rfl hb
  |12,_,hr =>
   have hv:a.tmps[191]?=some (.bool false):=H.dep hr 10 191;have v11:a.tmps[192]?=some (.pointer (some ⟨C.bx,3,none⟩)):=H.dep hr 11 192;have c3:w.cell? ⟨C.bx,3,none⟩=some (.int .i64 C.x.opn):=(hb.cell (p:=⟨C.bx,3,none⟩) M.kx.1).trans ((M.kx.cell 3).trans rfl);exact bMv (X:=.load 24 (.tmp 192)) (v:=.int .i64 C.x.opn) (by kernel_rfl) (nL (b:=false) (gb:=false) (by kernel_rfl) rfl (j:=10) (s:=191) (by kernel_rfl) hv) (fun o h=>by simp[execOp,h,v11,c3,go_sem]) rfl hb
  |13,_,hr =>
   have hv:a.tmps[191]?=some (.bool false):=H.dep hr 10 191;exact bMv (X:=.move (.tmp 0)) (v:=.slice (some ⟨C.g,C.o,none⟩) C.n C.cap) (by kernel_rfl) (nL (b:=false) (gb:=false) (by kernel_rfl) rfl (j:=10) (s:=191) (by kernel_rfl) hv) (fun o h=>by simp[execOp,h,lo0,go_sem]) rfl hb
  |14,_,hr =>
   have hv:a.tmps[191]?=some (.bool false):=H.dep hr 10 191;exact bMv (X:=.move (.tmp 29)) (v:=.int .i64 (C.k:Int)) (by kernel_rfl) (nL (b:=false) (gb:=false) (by kernel_rfl) rfl (j:=10) (s:=191) (by kernel_rfl) hv) (fun o h=>by simp[execOp,h,lo29,go_sem]) rfl hb
  |15,_,hr =>
   have hv:a.tmps[191]?=some (.bool false):=H.dep hr 10 191;have v13:a.tmps[194]?=some (.slice (some ⟨C.g,C.o,none⟩) C.n C.cap):=H.dep hr 13 194;have v14:a.tmps[195]?=some (.int .i64 (C.k:Int)):=H.dep hr 14 195;have hi1:=M.hi;have hn1:=M.hn;have hi2:(C.k:Int)<C.n:=by omega
   exact bMv (X:=.indexAddr 22 (.tmp 194) (.tmp 195)) (v:=.pointer (some ⟨C.g,C.o+C.k*7,none⟩)) (by kernel_rfl) (nL (b:=false) (gb:=false) (by kernel_rfl) rfl (j:=10) (s:=191) (by kernel_rfl) hv) (fun o h=>by simp[execOp,h,v13,v14,hi2,go_sem]) rfl hb
  |16,_,hr =>
   have hv:a.tmps[191]?=some (.bool false):=H.dep hr 10 191;have v15:a.tmps[196]?=some (.pointer (some ⟨C.g,C.o+C.k*7,none⟩)):=H.dep hr 15 196;exact bMv (X:=.fieldAddr 49 (.tmp 196) 3) (v:=.pointer (some ⟨C.g,C.o+C.k*7+3,none⟩)) (by kernel_rfl) (nL (b:=false) (gb:=false) (by kernel_rfl) rfl (j:=10) (s:=191) (by kernel_rfl) hv) (fun o h=>by simp[execOp,h,v15,go_sem]) rfl hb
  |17,_,hr =>
   have hv:a.tmps[191]?=some (.bool false):=H.dep hr 10 191;have v16:a.tmps[197]?=some (.pointer (some ⟨C.g,C.o+C.k*7+3,none⟩)):=H.dep hr 16 197;have d3:w.cell? ⟨C.g,C.o+C.k*7+3,none⟩=some (.int .i64 C.x.opn):=(hb.cell (p:=⟨C.g,C.o+C.k*7+3,none⟩) M.kg).trans M.g3;exact bMv (X:=.load 24 (.tmp 197)) (v:=.int .i64 C.x.opn) (by kernel_rfl) (nL (b:=false) (gb:=false) (by kernel_rfl) rfl (j:=10) (s:=191) (by kernel_rfl) hv) (fun o h=>by simp[execOp,h,v16,d3,go_sem]) rfl hb
  |18,_,hr =>
   have hv:a.tmps[191]?=some (.bool false):=H.dep hr 10 191;have v12:a.tmps[193]?=some (.int .i64 C.x.opn):=H.dep hr 12 193;have v17:a.tmps[198]?=some (.int .i64 C.x.opn):=H.dep hr 17 198;exact bMv (X:=.binOp .neq 24 (.tmp 193) (.tmp 198) 24) (v:=.bool false) (by kernel_rfl) (nL (b:=false) (gb:=false) (by kernel_rfl) rfl (j:=10) (s:=191) (by kernel_rfl) hv) (fun o h=>by simp[execOp,h,v12,v17,go_sem]) rfl hb
  |19,_,hr =>
   have v10:a.tmps[191]?=some (.bool false):=H.dep hr 10 191;have v18:a.tmps[199]?=some (.bool false):=H.dep hr 18 199;exact aWj (.pick (.tmp 191) (.const (.bool true)) (.tmp 199)) (.bool false) (fun o h=>by simp[execOp,h,v10,v18,go_sem]) hb
  |20,_,hr =>
   have v19:a.tmps[200]?=some (.bool false):=H.dep hr 19 200;exact aWj (.move (.tmp 200)) (.bool false) (fun o h=>by simp[execOp,h,v19,go_sem]) hb
  |21,_,hr =>
   have hv:a.tmps[201]?=some (.bool false):=H.dep hr 20 201;exact bMv (X:=.fieldAddr 49 (.tmp 23) 1) (v:=.pointer (some ⟨C.bx,1,none⟩)) (by kernel_rfl) (nL (b:=false) (gb:=false) (by kernel_rfl) rfl (j:=20) (s:=201) (by kernel_rfl) hv) (fun o h=>by simp[execOp,h,lo23,go_sem]) rfl hb
  |22,_,hr =>
   have hv:a.tmps[201]?=some (.bool false):=H.dep hr 20 201;have v21:a.tmps[202]?=some (.pointer (some ⟨C.bx,1,none⟩)):=H.dep hr 21 202;have c1:w.cell? ⟨C.bx,1,none⟩=some (.string ⟨C.x.ins.toArray⟩):=(hb.cell (p:=⟨C.bx,1,none⟩) M.kx.1).trans ((M.kx.cell 1).trans rfl);exact bMv (X:=.load 9 (.tmp 202)) (v:=.string ⟨C.x.ins.toArray⟩) (by kernel_rfl) (nL (b:=false) (gb:=false) (by kernel_rfl) rfl (j:=20) (s:=201) (by kernel_rfl) hv) (fun o h=>by simp[execOp,h,v21,c1,go_sem]) rfl hb
  |23,_,hr =>
   have hv:a.tmps[201]?=some (.bool false):=H.dep hr 20 201;exact bMv (X:=.move (.tmp 0)) (v:=.slice (some ⟨C.g,C.o,none⟩) C.n C.cap) (by kernel_rfl) (nL (b:=false) (gb:=false) (by kernel_rfl) rfl (j:=20) (s:=201) (by kernel_rfl) hv) (fun o h=>by simp[execOp,h,lo0,go_sem]) rfl hb
  |24,_,hr =>
   have hv:a.tmps[201]?=some (.bool false):=H.dep hr 20 201;exact bMv (X:=.move (.tmp 29)) (v:=.int .i64 (C.k:Int)) (by kernel_rfl) (nL (b:=false) (gb:=false) (by kernel_rfl) rfl (j:=20) (s:=201) (by kernel_rfl) hv) (fun o h=>by simp[execOp,h,lo29,go_sem]) rfl hb
  |25,_,hr =>
   have hv:a.tmps[201]?=some (.bool false):=H.dep hr 20 201;have v23:a.tmps[204]?=some (.slice (some ⟨C.g,C.o,none⟩) C.n C.cap):=H.dep hr 23 204;have v24:a.tmps[205]?=some (.int .i64 (C.k:Int)):=H.dep hr 24 205;have hi1:=M.hi;have hn1:=M.hn;have hi2:(C.k:Int)<C.n:=by omega
   exact bMv (X:=.indexAddr 22 (.tmp 204) (.tmp 205)) (v:=.pointer (some ⟨C.g,C.o+C.k*7,none⟩)) (by kernel_rfl) (nL (b:=false) (gb:=false) (by kernel_rfl) rfl (j:=20) (s:=201) (by kernel_rfl) hv) (fun o h=>by simp[execOp,h,v23,v24,hi2,go_sem]) rfl hb
  |26,_,hr =>
   have hv:a.tmps[201]?=some (.bool false):=H.dep hr 20 201;have v25:a.tmps[206]?=some (.pointer (some ⟨C.g,C.o+C.k*7,none⟩)):=H.dep hr 25 206;exact bMv (X:=.fieldAddr 49 (.tmp 206) 1) (v:=.pointer (some ⟨C.g,C.o+C.k*7+1,none⟩)) (by kernel_rfl) (nL (b:=false) (gb:=false) (by kernel_rfl) rfl (j:=20) (s:=201) (by kernel_rfl) hv) (fun o h=>by simp[execOp,h,v25,go_sem]) rfl hb
  |27,_,hr =>
   have hv:a.tmps[201]?=some (.bool false):=H.dep hr 20 201;have v26:a.tmps[207]?=some (.pointer (some ⟨C.g,C.o+C.k*7+1,none⟩)):=H.dep hr 26 207;have d1:w.cell? ⟨C.g,C.o+C.k*7+1,none⟩=some (.string ⟨C.x.ins.toArray⟩):=(hb.cell (p:=⟨C.g,C.o+C.k*7+1,none⟩) M.kg).trans M.g1;exact bMv (X:=.load 9 (.tmp 207)) (v:=.string ⟨C.x.ins.toArray⟩) (by kernel_rfl) (nL (b:=false) (gb:=false) (by kernel_rfl) rfl (j:=20) (s:=201) (by kernel_rfl) hv) (fun o h=>by simp[execOp,h,v26,d1,go_sem]) rfl hb
  |28,_,hr =>
   have hv:a.tmps[201]?=some (.bool false):=H.dep hr 20 201;have v22:a.tmps[203]?=some (.string ⟨C.x.ins.toArray⟩):=H.dep hr 22 203;have v27:a.tmps[208]?=some (.string ⟨C.x.ins.toArray⟩):=H.dep hr 27 208;exact bMv (X:=.binOp .neq 9 (.tmp 203) (.tmp 208) 9) (v:=.bool false) (by kernel_rfl) (nL (b:=false) (gb:=false) (by kernel_rfl) rfl (j:=20) (s:=201) (by kernel_rfl) hv) (fun o h=>by simp[execOp,h,v22,v27,go_sem]) rfl hb
  |29,_,hr =>
   have v20:a.tmps[201]?=some (.bool false):=H.dep hr 20 201;have v28:a.tmps[209]?=some (.bool false):=H.dep hr 28 209;exact aWj (.pick (.tmp 201) (.const (.bool true)) (.tmp 209)) (.bool false) (fun o h=>by simp[execOp,h,v20,v28,go_sem]) hb
  |30,_,hr =>
   have v29:a.tmps[210]?=some (.bool false):=H.dep hr 29 210;exact aWj (.move (.tmp 210)) (.bool false) (fun o h=>by simp[execOp,h,v29,go_sem]) hb
  |31,_,hr =>
   have hv:a.tmps[211]?=some (.bool false):=H.dep hr 30 211;exact bMv (X:=.fieldAddr 49 (.tmp 23) 2) (v:=.pointer (some ⟨C.bx,2,none⟩)) (by kernel_rfl) (nL (b:=false) (gb:=false) (by kernel_rfl) rfl (j:=30) (s:=211) (by kernel_rfl) hv) (fun o h=>by simp[execOp,h,lo23,go_sem]) rfl hb
  |32,_,hr =>
   have hv:a.tmps[211]?=some (.bool false):=H.dep hr 30 211;have v31:a.tmps[212]?=some (.pointer (some ⟨C.bx,2,none⟩)):=H.dep hr 31 212;have c2:w.cell? ⟨C.bx,2,none⟩=some (.int .i64 C.x.acq):=(hb.cell (p:=⟨C.bx,2,none⟩) M.kx.1).trans ((M.kx.cell 2).trans rfl);exact bMv (X:=.load 24 (.tmp 212)) (v:=.int .i64 C.x.acq) (by kernel_rfl) (nL (b:=false) (gb:=false) (by kernel_rfl) rfl (j:=30) (s:=211) (by kernel_rfl) hv) (fun o h=>by simp[execOp,h,v31,c2,go_sem]) rfl hb
  |33,_,hr =>
   have hv:a.tmps[211]?=some (.bool false):=H.dep hr 30 211;exact bMv (X:=.move (.tmp 0)) (v:=.slice (some ⟨C.g,C.o,none⟩) C.n C.cap) (by kernel_rfl) (nL (b:=false) (gb:=false) (by kernel_rfl) rfl (j:=30) (s:=211) (by kernel_rfl) hv) (fun o h=>by simp[execOp,h,lo0,go_sem]) rfl hb
  |34,_,hr =>
   have hv:a.tmps[211]?=some (.bool false):=H.dep hr 30 211;exact bMv (X:=.move (.tmp 29)) (v:=.int .i64 (C.k:Int)) (by kernel_rfl) (nL (b:=false) (gb:=false) (by kernel_rfl) rfl (j:=30) (s:=211) (by kernel_rfl) hv) (fun o h=>by simp[execOp,h,lo29,go_sem]) rfl hb
  |35,_,hr =>
   have hv:a.tmps[211]?=some (.bool false):=H.dep hr 30 211;have v33:a.tmps[214]?=some (.slice (some ⟨C.g,C.o,none⟩) C.n C.cap):=H.dep hr 33 214;have v34:a.tmps[215]?=some (.int .i64 (C.k:Int)):=H.dep hr 34 215;have hi1:=M.hi;have hn1:=M.hn;have hi2:(C.k:Int)<C.n:=by omega
   exact bMv (X:=.indexAddr 22 (.tmp 214) (.tmp 215)) (v:=.pointer (some ⟨C.g,C.o+C.k*7,none⟩)) (by kernel_rfl) (nL (b:=false) (gb:=false) (by kernel_rfl) rfl (j:=30) (s:=211) (by kernel_rfl) hv) (fun o h=>by simp[execOp,h,v33,v34,hi2,go_sem]) rfl hb
  |36,_,hr =>
   have hv:a.tmps[211]?=some (.bool false):=H.dep hr 30 211;have v35:a.tmps[216]?=some (.pointer (some ⟨C.g,C.o+C.k*7,none⟩)):=H.dep hr 35 216;exact bMv (X:=.fieldAddr 49 (.tmp 216) 2) (v:=.pointer (some ⟨C.g,C.o+C.k*7+2,none⟩)) (by kernel_rfl) (nL (b:=false) (gb:=false) (by kernel_rfl) rfl (j:=30) (s:=211) (by kernel_rfl) hv) (fun o h=>by simp[execOp,h,v35,go_sem]) rfl hb
  |37,_,hr =>
   have hv:a.tmps[211]?=some (.bool false):=H.dep hr 30 211;have v36:a.tmps[217]?=some (.pointer (some ⟨C.g,C.o+C.k*7+2,none⟩)):=H.dep hr 36 217;have d2:w.cell? ⟨C.g,C.o+C.k*7+2,none⟩=some (.int .i64 C.za):=(hb.cell (p:=⟨C.g,C.o+C.k*7+2,none⟩) M.kg).trans M.g2;exact bMv (X:=.load 24 (.tmp 217)) (v:=.int .i64 C.za) (by kernel_rfl) (nL (b:=false) (gb:=false) (by kernel_rfl) rfl (j:=30) (s:=211) (by kernel_rfl) hv) (fun o h=>by simp[execOp,h,v36,d2,go_sem]) rfl hb
  |38,_,hr =>
   have hv:a.tmps[211]?=some (.bool false):=H.dep hr 30 211;have v32:a.tmps[213]?=some (.int .i64 C.x.acq):=H.dep hr 32 213;have v37:a.tmps[218]?=some (.int .i64 C.za):=H.dep hr 37 218;exact bMv (X:=.binOp .gtr 24 (.tmp 213) (.tmp 218) 24) (v:=.bool false) (by kernel_rfl) (nL (b:=false) (gb:=false) (by kernel_rfl) rfl (j:=30) (s:=211) (by kernel_rfl) hv) (fun o h=>by simp[execOp,h,v32,v37,M.h1,go_sem]) rfl hb
  |39,_,hr =>
   have v30:a.tmps[211]?=some (.bool false):=H.dep hr 30 211;have v38:a.tmps[219]?=some (.bool false):=H.dep hr 38 219;exact aWj (.pick (.tmp 211) (.const (.bool true)) (.tmp 219)) (.bool false) (fun o h=>by simp[execOp,h,v30,v38,go_sem]) hb
  |40,_,hr =>
   have v39:a.tmps[220]?=some (.bool false):=H.dep hr 39 220;exact aWj (.move (.tmp 220)) (.bool false) (fun o h=>by simp[execOp,h,v39,go_sem]) hb
  |41,_,hr =>
   have hv:a.tmps[221]?=some (.bool false):=H.dep hr 40 221;exact bMv (X:=.fieldAddr 49 (.tmp 23) 2) (v:=.pointer (some ⟨C.bx,2,none⟩)) (by kernel_rfl) (nL (b:=false) (gb:=false) (by kernel_rfl) rfl (j:=40) (s:=221) (by kernel_rfl) hv) (fun o h=>by simp[execOp,h,lo23,go_sem]) rfl hb
  |42,_,hr =>
   have hv:a.tmps[221]?=some (.bool false):=H.dep hr 40 221;have v41:a.tmps[222]?=some (.pointer (some ⟨C.bx,2,none⟩)):=H.dep hr 41 222;have c2:w.cell? ⟨C.bx,2,none⟩=some (.int .i64 C.x.acq):=(hb.cell (p:=⟨C.bx,2,none⟩) M.kx.1).trans ((M.kx.cell 2).trans rfl);exact bMv (X:=.load 24 (.tmp 222)) (v:=.int .i64 C.x.acq) (by kernel_rfl) (nL (b:=false) (gb:=false) (by kernel_rfl) rfl (j:=40) (s:=221) (by kernel_rfl) hv) (fun o h=>by simp[execOp,h,v41,c2,go_sem]) rfl hb
  |43,_,hr =>
   have hv:a.tmps[221]?=some (.bool false):=H.dep hr 40 221;exact bMv (X:=.move (.tmp 0)) (v:=.slice (some ⟨C.g,C.o,none⟩) C.n C.cap) (by kernel_rfl) (nL (b:=false) (gb:=false) (by kernel_rfl) rfl (j:=40) (s:=221) (by kernel_rfl) hv) (fun o h=>by simp[execOp,h,lo0,go_sem]) rfl hb
  |44,_,hr =>
   have hv:a.tmps[221]?=some (.bool false):=H.dep hr 40 221;exact bMv (X:=.move (.tmp 29)) (v:=.int .i64 (C.k:Int)) (by kernel_rfl) (nL (b:=false) (gb:=false) (by kernel_rfl) rfl (j:=40) (s:=221) (by kernel_rfl) hv) (fun o h=>by simp[execOp,h,lo29,go_sem]) rfl hb
  |45,_,hr =>
   have hv:a.tmps[221]?=some (.bool false):=H.dep hr 40 221;have v43:a.tmps[224]?=some (.slice (some ⟨C.g,C.o,none⟩) C.n C.cap):=H.dep hr 43 224;have v44:a.tmps[225]?=some (.int .i64 (C.k:Int)):=H.dep hr 44 225;have hi1:=M.hi;have hn1:=M.hn;have hi2:(C.k:Int)<C.n:=by omega
   exact bMv (X:=.indexAddr 22 (.tmp 224) (.tmp 225)) (v:=.pointer (some ⟨C.g,C.o+C.k*7,none⟩)) (by kernel_rfl) (nL (b:=false) (gb:=false) (by kernel_rfl) rfl (j:=40) (s:=221) (by kernel_rfl) hv) (fun o h=>by simp[execOp,h,v43,v44,hi2,go_sem]) rfl hb
  |46,_,hr =>
   have hv:a.tmps[221]?=some (.bool false):=H.dep hr 40 221;have v45:a.tmps[226]?=some (.pointer (some ⟨C.g,C.o+C.k*7,none⟩)):=H.dep hr 45 226;exact bMv (X:=.fieldAddr 49 (.tmp 226) 2) (v:=.pointer (some ⟨C.g,C.o+C.k*7+2,none⟩)) (by kernel_rfl) (nL (b:=false) (gb:=false) (by kernel_rfl) rfl (j:=40) (s:=221) (by kernel_rfl) hv) (fun o h=>by simp[execOp,h,v45,go_sem]) rfl hb
  |47,_,hr =>
   have hv:a.tmps[221]?=some (.bool false):=H.dep hr 40 221;have v46:a.tmps[227]?=some (.pointer (some ⟨C.g,C.o+C.k*7+2,none⟩)):=H.dep hr 46 227;have d2:w.cell? ⟨C.g,C.o+C.k*7+2,none⟩=some (.int .i64 C.za):=(hb.cell (p:=⟨C.g,C.o+C.k*7+2,none⟩) M.kg).trans M.g2;exact bMv (X:=.load 24 (.tmp 227)) (v:=.int .i64 C.za) (by kernel_rfl) (nL (b:=false) (gb:=false) (by kernel_rfl) rfl (j:=40) (s:=221) (by kernel_rfl) hv) (fun o h=>by simp[execOp,h,v46,d2,go_sem]) rfl hb
  |48,_,hr =>
   have hv:a.tmps[221]?=some (.bool false):=H.dep hr 40 221;have v42:a.tmps[223]?=some (.int .i64 C.x.acq):=H.dep hr 42 223;have v47:a.tmps[228]?=some (.int .i64 C.za):=H.dep hr 47 228;exact bMv (X:=.binOp .lss 24 (.tmp 223) (.tmp 228) 24) (v:=.bool C.n1) (by kernel_rfl) (nL (b:=false) (gb:=false) (by kernel_rfl) rfl (j:=40) (s:=221) (by kernel_rfl) hv) (fun o h=>by simp[execOp,h,v42,v47,M.n1,go_sem]) rfl hb
  |49,_,hr =>
   have hv:a.tmps[221]?=some (.bool false):=H.dep hr 40 221;have v48:a.tmps[229]?=some (.bool C.n1):=H.dep hr 48 229;exact bMv (X:=.move (.tmp 229)) (v:=.bool C.n1) (by kernel_rfl) (nL (b:=false) (gb:=false) (by kernel_rfl) rfl (j:=40) (s:=221) (by kernel_rfl) hv) (fun o h=>by simp[execOp,h,v48,go_sem]) rfl hb
  |50,_,hr =>
   have hv:a.tmps[230]?=some (.bool C.n1):=H.dep hr 49 230;exact dH (X:=.fieldAddr 49 (.tmp 23) 6) (v:=.pointer (some ⟨C.bx,6,none⟩)) (gb:=C.n1) (by kernel_rfl) (by kernel_rfl) (j:=49) (s:=230) (by kernel_rfl) hv rfl (fun hgb o h=>by simp[execOp,h,lo23,go_sem]) hb
  |51,_,hr =>
   have hv:a.tmps[230]?=some (.bool C.n1):=H.dep hr 49 230;have v50:a.tmps[231]?=some (gv C.n1 (.pointer (some ⟨C.bx,6,none⟩))):=H.dep hr 50 231;have c6:w.cell? ⟨C.bx,6,none⟩=some (.string ⟨C.x.u.toArray⟩):=(hb.cell (p:=⟨C.bx,6,none⟩) M.kx.1).trans ((M.kx.cell 6).trans rfl);exact dH (X:=.load 36 (.tmp 231)) (v:=.string ⟨C.x.u.toArray⟩) (gb:=C.n1) (by kernel_rfl) (by kernel_rfl) (j:=49) (s:=230) (by kernel_rfl) hv rfl (fun hgb o h=>by unfold gv at v50;rw[hgb,if_pos rfl] at v50;simp[execOp,h,v50,c6,go_sem]) hb
  |52,_,hr =>
   have hv:a.tmps[230]?=some (.bool C.n1):=H.dep hr 49 230;exact dH (X:=.fieldAddr 49 (.tmp 23) 4) (v:=.pointer (some ⟨C.bx,4,none⟩)) (gb:=C.n1) (by kernel_rfl) (by kernel_rfl) (j:=49) (s:=230) (by kernel_rfl) hv rfl (fun hgb o h=>by simp[execOp,h,lo23,go_sem]) hb
  |53,_,hr =>
   have hv:a.tmps[230]?=some (.bool C.n1):=H.dep hr 49 230;have v52:a.tmps[233]?=some (gv C.n1 (.pointer (some ⟨C.bx,4,none⟩))):=H.dep hr 52 233;have c4:w.cell? ⟨C.bx,4,none⟩=some (.string ⟨C.x.q.toArray⟩):=(hb.cell (p:=⟨C.bx,4,none⟩) M.kx.1).trans ((M.kx.cell 4).trans rfl);exact dH (X:=.load 36 (.tmp 233)) (v:=.string ⟨C.x.q.toArray⟩) (gb:=C.n1) (by kernel_rfl) (by kernel_rfl) (j:=49) (s:=230) (by kernel_rfl) hv rfl (fun hgb o h=>by unfold gv at v52;rw[hgb,if_pos rfl] at v52;simp[execOp,h,v52,c4,go_sem]) hb
  |54,_,hr =>
   have hv:a.tmps[230]?=some (.bool C.n1):=H.dep hr 49 230;have v51:a.tmps[232]?=some (gv C.n1 (.string ⟨C.x.u.toArray⟩)):=H.dep hr 51 232;have v53:a.tmps[234]?=some (gv C.n1 (.string ⟨C.x.q.toArray⟩)):=H.dep hr 53 234;exact dH (X:=.binOp .neq 36 (.tmp 232) (.tmp 234) 36) (v:=.bool C.n2) (gb:=C.n1) (by kernel_rfl) (by kernel_rfl) (j:=49) (s:=230) (by kernel_rfl) hv rfl (fun hgb o h=>by unfold gv at v51 v53;rw[hgb,if_pos rfl] at v51 v53;simp[execOp,h,v51,v53,M.n2,go_sem]) hb
  |55,_,hr =>
   have hv:a.tmps[221]?=some (.bool false):=H.dep hr 40 221;have v49:a.tmps[230]?=some (.bool C.n1):=H.dep hr 49 230;have v54:a.tmps[235]?=some (gv C.n1 (.bool C.n2)):=H.dep hr 54 235;exact bMv (X:=.pick (.tmp 230) (.tmp 235) (.const (.bool false))) (v:=.bool (C.n1&&C.n2)) (by kernel_rfl) (nL (b:=false) (gb:=false) (by kernel_rfl) rfl (j:=40) (s:=221) (by kernel_rfl) hv) (fun o h=>by cases hX:C.n1 <;> rw[hX] at v49 v54 <;> simp[execOp,h,v49,v54,gv,go_sem]) rfl hb
  |56,_,hr =>
   have v40:a.tmps[221]?=some (.bool false):=H.dep hr 40 221;have v55:a.tmps[236]?=some (.bool (C.n1&&C.n2)):=H.dep hr 55 236;exact aWj (.pick (.tmp 221) (.const (.bool true)) (.tmp 236)) (.bool (C.n1&&C.n2)) (fun o h=>by simp[execOp,h,v40,v55,go_sem]) hb
  |n+57,h,_=>exact absurd h (by omega)
end
end
section
open Go Go.RowKit Num
theorem dJ4:bZp []:=(dB2 []).1 rfl
theorem dIr{gs:List aLe}{ins:List UInt8}(h:∀x,x∈gs->x.err=0):dEk [] gs 0 0 []=0/\dC2 gs ins=aJ (bXk (dBq ins) gs):=by
 have h0:dEk [] gs 0 0 []=0:=dIi dJ4 h (fun s hs=>by cases hs) ⟨by decide,by decide⟩ ⟨by decide,by decide⟩;exact⟨h0,by unfold dC2;rw[if_pos h0]⟩
theorem dJ9{s:bWs}(F:dD8 s)(ins:List UInt8):(aJ (bXk (dBq ins) s.gains)).length<=100:=by
 obtain⟨d0,d1⟩:=dF9 F.ok;have hl:=F.los;have hd:∀x,x∈s.gains->0<=val x.df:=fun x hx=>(bY2.1 (F.ok.gains x hx)).2.2.2.2.2.1
 have h0:0<=bXk (dBq ins) s.gains:=bZ2 fun x hx=>by
  unfold dBq;split
  ·exact hd x hx
  ·exact Int.le_refl _
 have h1:bXk (dBq ins) s.gains<=dB9 s:=dBx fun x hx=>by
  unfold dBq;have:=hd x hx;split <;> omega
 exact Nat.le_trans (gC (K:=18) (by decide) (by omega)) (by decide)
theorem dD9.grown{ins:List UInt8}{d wash:Int}{cause:List UInt8}{ls:List Bd}{gs:List aLe}{t:bWs}(E:dD9 ins d wash cause ls gs t):bXk (dBq ins) t.gains-bXk (dBq ins) gs=t.sum:=by
 have h:bXk (dBq ins) t.gains-bXk (dBq ins) gs=t.sum-0:=E.keep.keep.dfr;omega
end
end Go.Proofs.YtiloklnjjfaagaaGreatDoor
