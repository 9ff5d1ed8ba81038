/- KReg KReg2 KReg3 -/
import Derived.Test.YthjekgfoidmagaaGreatDoorUKinds
import Derived.Test.YthjekgfoidmagaaGreatDoorUOrder
set_option maxHeartbeats 16000000
set_option maxRecDepth 100000
namespace Go.Proofs.YthjekgfoidmagaaGreatDoor
open Tryz
section
open Go Go.RowKit Go.Maps Go.MapKept Go.WideElems
inductive qY where
 |val (v:Value) (t:TypeId)
 |row (l:List Int)
 |done (nums:List (Int×Bool×Bool))
 |wip (j:Nat) (ks:List Int)
 |out (ks:List Int)
abbrev bD:=Nat->Option qY
def lV(h:bD)(v:Value)(pq:Bool×Bool):Prop:=∃bp bq,v=.func (.func 139) #[] #[.pointer (some ⟨bp,0,none⟩),.pointer (some ⟨bq,0,none⟩)]/\h bp=some (.val (.bool pq.1) 4)/\h bq=some (.val (.bool pq.2) 4)
def rY(R:Value->Bool×Bool->Prop)(nums:List (Int×Bool×Bool))(kvs:List (Int×Value)):Prop:=∀p,p∈kvs->∃q,q∈nums/\p.1=q.1/\R p.2 q.2
def qX(h:bD)(v:Value)(k:bH):Prop:=∃mv,v=.agg (aK k.word k.cls k.has (.map mv) k.code)/\((mv=none/\k.nums=[])∨∃b,mv=some b/\h b=some (.done k.nums))
def rM(h:bD)(w:World)(b:Nat):qY->Prop
 | .val v t=>aP w b #[v] t
 | .row l=>b<w.heap.size/\dT w (some ⟨b,0,none⟩) (l.map (Value.int .i64))
 | .done nums=>∃kvs,mD w b kvs/\rY (lV h) nums kvs/\∀q,q∈nums->∃p,p∈kvs/\p.1=q.1
 | .wip j ks=>∃kvs,mD w b kvs/\rY (lV h) (jH j) kvs/\kvs.map Prod.fst=ks
 | .out ks=>∃kvs,mD w b kvs/\(∀p,p∈kvs->∃q,q∈aX/\p.1=q.1/\qX h p.2 q.2)/\kvs.map Prod.fst=ks/\ks.Nodup
def qY.firm:qY->Bool
 | .val _ _=>true
 | .row _=>true
 | .done _=>true
 |_=>false
def nB(h h':bD):Prop:=∀b d,h b=some d->d.firm=true->h' b=some d
def iF(w:World)(h:bD):Prop:=∀b d,h b=some d->rM h w b d
def bD.set(h:bD)(b:Nat)(d:qY):bD:=fun x=>if x=b then some d else h x
theorem bD.set_same(h:bD)(b:Nat)(d:qY):h.set b d b=some d:=by simp[bD.set]
theorem bD.set_ne{h:bD}{b x:Nat}{d:qY}(hne:x≠b):h.set b d x=h x:=by simp[bD.set,hne]
theorem lV.firm{h h':bD}{v:Value}{pq:Bool×Bool}(H:lV h v pq)(hf:nB h h'):lV h' v pq:=by
 obtain⟨bp,bq,e,h1,h2⟩:=H;exact⟨bp,bq,e,hf _ _ h1 rfl,hf _ _ h2 rfl⟩
theorem qX.firm{h h':bD}{v:Value}{k:bH}(H:qX h v k)(hf:nB h h'):qX h' v k:=by
 obtain⟨mv,e,H⟩:=H;refine⟨mv,e,H.imp id ?_⟩;rintro⟨b,e,h1⟩;exact⟨b,e,hf _ _ h1 rfl⟩
theorem rY.mono{R S:Value->Bool×Bool->Prop}{nums:List (Int×Bool×Bool)}{kvs:List (Int×Value)}(H:rY R nums kvs)(hi:∀v pq,R v pq->S v pq):rY S nums kvs:=fun p hp=>by
 obtain⟨q,hq,e,hr⟩:=H p hp;exact⟨q,hq,e,hi _ _ hr⟩
theorem rM.firm{h h':bD}{w:World}{b:Nat}{d:qY}(H:rM h w b d)(hf:nB h h'):rM h' w b d:=by
 cases d with
 |val v t=>exact H
 |row l=>exact H
 |done nums =>
  obtain⟨kvs,h1,h2,h3⟩:=H;exact⟨kvs,h1,h2.mono fun v pq h=>h.firm hf,h3⟩
 |wip j ks =>
  obtain⟨kvs,h1,h2,h3⟩:=H;exact⟨kvs,h1,h2.mono fun v pq h=>h.firm hf,h3⟩
 |out ks =>
  obtain⟨kvs,h1,h2,h3⟩:=H;refine⟨kvs,h1,fun p hp=>?_,h3⟩;obtain⟨q,hq,e,hk⟩:=h2 p hp;exact⟨q,hq,e,hk.firm hf⟩
theorem rM.lt{h:bD}{w:World}{b:Nat}{d:qY}(H:rM h w b d):b<w.heap.size:=by
 cases d with
 |val v t=>exact H.1
 |row l=>exact H.1
 |done nums=>obtain⟨kvs,h1,_⟩:=H;exact h1.lt
 |wip j ks=>obtain⟨kvs,h1,_⟩:=H;exact h1.lt
 |out ks=>obtain⟨kvs,h1,_⟩:=H;exact h1.lt
theorem rM.below{h:bD}{w w':World}{b:Nat}{d:qY}(H:rM h w b d)(hb:Below w.heap.size w w'):rM h w' b d:=by
 cases d with
 |val v t=>exact aP.below H hb
 |row l=>exact⟨Nat.lt_of_lt_of_le H.1 hb.size,H.2.below hb⟩
 |done nums=>obtain⟨kvs,h1,h2⟩:=H;exact⟨kvs,h1.below hb,h2⟩
 |wip j ks=>obtain⟨kvs,h1,h2⟩:=H;exact⟨kvs,h1.below hb,h2⟩
 |out ks=>obtain⟨kvs,h1,h2⟩:=H;exact⟨kvs,h1.below hb,h2⟩
theorem rM.kept{h:bD}{w w':World}{b b':Nat}{d:qY}(H:rM h w b d)(hg:w.grownBy w' (some b'))(hne:b≠b'):rM h w' b d:=by
 cases d with
 |val v t=>exact aP.kept H hg hne
 |row l =>
  refine⟨Nat.lt_of_lt_of_le H.1 hg.size,?_⟩;rcases H.2 with e|⟨b0,off,ha,hlt,hc⟩
  ·exact .inl e
  ·injection ha with ha
   injection ha with e1 e2
   subst e1;refine .inr ⟨b,off,by rw[e2],Nat.lt_of_lt_of_le hlt hg.size,fun k u hu=>?_⟩;have hbk:=hg.block b hlt (by intro e;injection e with e;exact hne e);rw[<-hc k u hu];simp[World.cell?,hbk]
 |done nums=>obtain⟨kvs,h1,h2⟩:=H;exact⟨kvs,h1.kept hg hne,h2⟩
 |wip j ks=>obtain⟨kvs,h1,h2⟩:=H;exact⟨kvs,h1.kept hg hne,h2⟩
 |out ks=>obtain⟨kvs,h1,h2⟩:=H;exact⟨kvs,h1.kept hg hne,h2⟩
theorem iF.none{w:World}{h:bD}(H:iF w h){b:Nat}(hb:w.heap.size<=b):h b=none:=by
 cases e:h b with
 |none=>rfl
 |some d=>have:=(H b d e).lt;omega
theorem nB.set{h:bD}{b:Nat}{d:qY}(H:∀d0,h b=some d0->d0.firm=false):nB h (h.set b d):=by
 intro x d0 e hf
 by_cases hx:x=b
 ·subst hx;rw[H d0 e] at hf;cases hf
 ·rw[bD.set_ne hx];exact e
theorem nB.refl(h:bD):nB h h:=fun _ _ e _=>e
theorem nB.trans{h h' h'':bD}(H:nB h h')(H':nB h' h''):nB h h'':=fun b d e hf=>H' b d (H b d e hf) hf
theorem iF.below{w w':World}{h:bD}(H:iF w h)(hb:Below w.heap.size w w'):iF w' h:=fun b d e=>(H b d e).below hb
theorem iF.set{w':World}{h:bD}{b:Nat}{d:qY}(H:∀x dx,x≠b->h x=some dx->rM h w' x dx)(hn:∀d0,h b=some d0->d0.firm=false)(hg:rM (h.set b d) w' b d):iF w' (h.set b d):=by
 intro x dx e
 by_cases hx:x=b
 ·subst hx;rw[bD.set_same] at e;injection e with e
  subst e;exact hg
 ·rw[bD.set_ne hx] at e;exact(H x dx hx e).firm (nB.set hn)
theorem iF.new{w w':World}{h:bD}{b:Nat}{d:qY}(H:iF w h)(hb:Below w.heap.size w w')(hlt:w.heap.size<=b)(hg:rM (h.set b d) w' b d):iF w' (h.set b d) :=
 iF.set (fun x dx _ e=>(H x dx e).below hb) (fun d0 e=>by rw[H.none hlt] at e;cases e) hg
theorem iF.turn{w w':World}{h:bD}{b:Nat}{d0 d:qY}(H:iF w h)(hg':w.grownBy w' (some b))(h0:h b=some d0)(hn:d0.firm=false)(hg:rM (h.set b d) w' b d):iF w' (h.set b d) :=
 iF.set (fun x dx hx e=>(H x dx e).kept hg' hx) (fun d1 e=>by rw[h0] at e;injection e with e;subst e;exact hn) hg
theorem Fe{β:Type}(l:List (Int × β))(i:Int):l.any (fun p=>p.1==i)=true↔∃p,p∈l/\p.1=i:=by
 rw[List.any_eq_true];constructor
 ·rintro⟨p,hp,e⟩;exact⟨p,hp,by simpa using e⟩
 ·rintro⟨p,hp,e⟩;exact⟨p,hp,by simpa using e⟩
theorem Ed{R:Value->Bool×Bool->Prop}{kvs:List (Int×Value)}{k:bH}(h1:rY R k.nums kvs)(h2:∀q,q∈k.nums->∃p,p∈kvs/\p.1=q.1):iV kvs k.more=k.has:=by
 unfold iV bH.has;refine List.map_congr_left fun i _=>?_
 congr 1;rw[Bool.eq_iff_iff,Fe,Fe];constructor
 ·rintro⟨p,hp,e⟩;obtain⟨q,hq,e1,_⟩:=h1 p hp;exact⟨q,hq,by rw[<-e1];exact e⟩
 ·rintro⟨q,hq,e⟩;obtain⟨p,hp,e1⟩:=h2 q hq;exact⟨p,hp,by rw[e1];exact e⟩
def Ae:Value:=.func (.func 87) #[] #[]
def aEb:Value:=.func (.func 89) #[] #[]
def aAm(b1 b3:Nat):Value:=.func (.func 88) #[] #[.pointer (some ⟨b3,0,none⟩),.pointer (some ⟨b1,0,none⟩)]
def on(l:Array Bool)(i:Nat):Prop:=l.getD i false=true
def mF(b1 b3 bt:Nat)(l:Array Bool)(h:bD)(a:Act)(s:Nat):Df->Prop
 | .fOf=>a.tmps[s]?=some Ae
 | .fWc=>a.tmps[s]?=some aEb
 | .fAmt=>a.tmps[s]?=some (aAm b1 b3)
 | .trade=>a.tmps[s]?=some (.map (some bt))
 | .lim p q=>∃v,a.tmps[s]?=some v/\lV h v (p,q)
 | .row r=>∃b,a.tmps[s]?=some (.slice (some ⟨b,0,none⟩) r.length r.length)/\h b=some (.row r)
 | .kind k=>∃v,a.tmps[s]?=some v/\qX h v k
 | .same m j=>(∃v,a.tmps[s]?=some v/\a.tmps[m]?=some v)/\(∃i,dK[i]?=some (m,.mk j)/\on l i)/\∀i s' n,dK[i]?=some (s',.ins j n)->on l i
 | .osame m=>(∃v,a.tmps[s]?=some v/\a.tmps[m]?=some v)/\(∃i,dK[i]?=some (m,.omk)/\on l i)/\∀i s' n,dK[i]?=some (s',.oins n)->on l i
 | .ins j _=>∃i s',dK[i]?=some (s',.mk j)/\on l i
 | .oins _=>∃i s',dK[i]?=some (s',.omk)/\on l i
 | .mk _=>True
 | .omk=>True
def mE(l:Array Bool)(h:bD)(a:Act)(s j:Nat):Prop :=
 ∃b,a.tmps[s]?=some (.map (some b))/\((h b=some (.done (jH j))/\∀i s' n,dK[i]?=some (s',.ins j n)->on l i)∨∃ks,h b=some (.wip j ks)/\ks.Nodup/\∀i s' n,dK[i]?=some (s',.ins j n)->(on l i↔n∈ks))
def nT(l:Array Bool)(h:bD)(a:Act)(s:Nat):Prop :=
 ∃b ks,a.tmps[s]?=some (.map (some b))/\h b=some (.out ks)/\∀i s' n,dK[i]?=some (s',.oins n)->(on l i↔n∈ks)
structure Oy(b1 b3 bt:Nat)(VP VL:Value)(h:bD)(a:Act):Prop where
 t1:a.tmps[1]?=some (.pointer (some ⟨b1,0,none⟩))
 t2:a.tmps[2]?=some VL
 t3:a.tmps[3]?=some (.pointer (some ⟨b3,0,none⟩))
 t4:a.tmps[4]?=some (aAm b1 b3)
 t5:a.tmps[5]?=some aEb
 t6:a.tmps[6]?=some (.map (some bt))
 h1:h b1=some (.val VP 112)
 h3:h b3=some (.val Ae 114)
 ht:h bt=some (.done [(4,true,false),(5,false,false),(6,false,false)])
 lp:lV h VP (true,false)
 ll:lV h VL (false,false)
structure KI(w0:World)(b1 b3 bt:Nat)(VP VL:Value)(h:bD)(l:Array Bool)(a:Act)(w:World):Prop where
 ty:iF w h
 sz:l.size=124
 ts:a.tmps.size=105
 df:a.defers=[]
 hb:Below w0.heap.size w0 w
 lo:∀b d,h b=some d->w0.heap.size<=b
 base:Oy b1 b3 bt VP VL h a
 facts:∀i s c,dK[i]?=some (s,c)->on l i->mF b1 b3 bt l h a s c
 maps:∀i s j,dK[i]?=some (s,.mk j)->on l i->mE l h a s j
 outs:∀i s,dK[i]?=some (s,.omk)->on l i->nT l h a s
theorem mO{i i' s:Nat}{c c':Df}(h:dK[i]?=some (s,c))(h':dK[i']?=some (s,c')):i=i':=by
 have e:(dK.map Prod.fst)[i]?=(dK.map Prod.fst)[i']? := by rw[List.getElem?_map,List.getElem?_map,h,h'];rfl
 have hl:i<(dK.map Prod.fst).length:=by rw[List.length_map];exact(Li.1 h).1
 exact(List.getElem?_inj hl Lf).1 e
theorem gH{i s:Nat}{c:Df}{x:Nat}(h:dK[i]?=some (s,c))(hc:c.home=some x):i=x:=by
 have hl:=(Li.1 h).1;have:=Qt i (oK ▸ hl);rw[h] at this;simp only[Option.map_some,Option.getD_some,hc,Option.all_some,beq_iff_eq] at this;exact this.symm
theorem eX{l:Array Bool}{i i':Nat}(h:on l i'):on (l.setIfInBounds i true) i':=by
 unfold on at *
 by_cases e:i=i'
 ·subst e;rcases Nat.lt_or_ge i l.size with hl|hl
  ·simp[Array.getD_eq_getD_getElem?,hl]
  ·rw[Array.getD_eq_getD_getElem?,Array.getElem?_eq_none hl] at h;simp at h
 ·rw[Go.getD_set_ne _ e];exact h
theorem dP{l:Array Bool}{i i':Nat}(h:on (l.setIfInBounds i true) i')(hne:i'≠i):on l i':=by
 unfold on at *;rw[Go.getD_set_ne _ (Ne.symm hne)] at h;exact h
theorem uX{l:Array Bool}{i:Nat}(h:l.getD i true=false):¬ on l i:=by
 unfold on;rw[Array.getD_eq_getD_getElem?] at *;cases e:l[i]? with
 |none=>simp
 |some x=>rw[e] at h;simp at h;simp[h]
theorem Ob{l:Array Bool}{i:Nat}(h:i<l.size):on (l.setIfInBounds i true) i:=by
 unfold on;simp[Array.getD_eq_getD_getElem?,h]
theorem aYr{a:Act}{s x:Nat}{v:Value}(h:x≠s):(a.put (some s) v).tmps[x]?=a.tmps[x]? := by
 simp[Act.put,Array.getElem?_setIfInBounds_ne (Ne.symm h)]
theorem eG{a:Act}{s:Nat}{v:Value}(h:s<a.tmps.size):(a.put (some s) v).tmps[s]?=some v:=by
 simp[Act.put,h]
theorem mF.step{b1 b3 bt:Nat}{l:Array Bool}{h h':bD}{a a':Act}{i s:Nat}{c:Df}(hi:dK[i]?=some (s,c))(hu:¬ on l i)(ha:∀x,x≠s->a'.tmps[x]?=a.tmps[x]?)(hf:nB h h'){i' s':Nat}{c':Df}(hne:i'≠i)(hi':dK[i']?=some (s',c'))
  (F:mF b1 b3 bt l h a s' c'):mF b1 b3 bt (l.setIfInBounds i true) h' a' s' c':=by
 have hs:s'≠s:=fun e=>hne (mO (e ▸ hi') hi)
 have e1:=ha s' hs;have hm:∀x cx m,dK[x]?=some (m,cx)->on l x->a'.tmps[m]?=a.tmps[m]? := fun x cx m hx hox=>ha m fun e=>by
  have:x=i:=mO (e ▸ hx) hi;subst this;exact hu hox
 cases c' with
 |fOf=>exact e1.trans F
 |fWc=>exact e1.trans F
 |fAmt=>exact e1.trans F
 |trade=>exact e1.trans F
 |lim p q=>obtain⟨v,h1,h2⟩:=F;exact⟨v,e1.trans h1,h2.firm hf⟩
 |row r=>obtain⟨b,h1,h2⟩:=F;exact⟨b,e1.trans h1,hf _ _ h2 rfl⟩
 |kind k=>obtain⟨v,h1,h2⟩:=F;exact⟨v,e1.trans h1,h2.firm hf⟩
 |same m j =>
  obtain⟨⟨v,h1,h2⟩,⟨x,h3,h4⟩,h5⟩:=F;exact⟨⟨v,e1.trans h1,(hm x _ m h3 h4).trans h2⟩,⟨x,h3,eX h4⟩,fun i s n hx=>eX (h5 i s n hx)⟩
 |osame m =>
  obtain⟨⟨v,h1,h2⟩,⟨x,h3,h4⟩,h5⟩:=F;exact⟨⟨v,e1.trans h1,(hm x _ m h3 h4).trans h2⟩,⟨x,h3,eX h4⟩,fun i s n hx=>eX (h5 i s n hx)⟩
 |ins j n=>obtain⟨x,sx,h1,h2⟩:=F;exact⟨x,sx,h1,eX h2⟩
 |oins n=>obtain⟨x,sx,h1,h2⟩:=F;exact⟨x,sx,h1,eX h2⟩
 |mk j=>trivial
 |omk=>trivial
theorem Oy.step{b1 b3 bt:Nat}{VP VL:Value}{h h':bD}{a a':Act}{s:Nat}(B:Oy b1 b3 bt VP VL h a)(hs:s=0∨7<=s)(ha:∀x,x≠s->a'.tmps[x]?=a.tmps[x]?)(hf:nB h h'):Oy b1 b3 bt VP VL h' a' :=
 ⟨(ha 1 (by omega)).trans B.t1,(ha 2 (by omega)).trans B.t2,(ha 3 (by omega)).trans B.t3,(ha 4 (by omega)).trans B.t4,(ha 5 (by omega)).trans B.t5,(ha 6 (by omega)).trans B.t6,hf _ _ B.h1 rfl,hf _ _ B.h3 rfl,hf _ _ B.ht rfl,B.lp.firm hf,B.ll.firm hf⟩
theorem yD{i s:Nat}{c:Df}(h:dK[i]?=some (s,c)):s=0∨7<=s:=by
 have hl:=(Li.1 h).1;have:=Ui i (oK ▸ hl);rw[h] at this;simpa using this
theorem KI.quiet{w0 w w':World}{b1 b3 bt:Nat}{VP VL:Value}{h h':bD}{l:Array Bool}{a:Act}{i s:Nat}{c:Df}{v:Value}(H:KI w0 b1 b3 bt VP VL h l a w)(hi:dK[i]?=some (s,c))(hu:l.getD i true=false)(hc:c.home=none)(hh:∀b d,h b=some d->h' b=some d)
  (hlo:∀b d,h' b=some d->w0.heap.size<=b) (ht:iF w' h') (hb:Below w.heap.size w w') (F:mF b1 b3 bt (l.setIfInBounds i true) h' (a.put (some s) v) s c):KI w0 b1 b3 bt VP VL h' (l.setIfInBounds i true) (a.put (some s) v) w':=by
 have hu':=uX hu;have ha:∀x,x≠s->(a.put (some s) v).tmps[x]?=a.tmps[x]? := fun x hx=>aYr hx
 have hf:nB h h':=fun b d e _=>hh b d e
 refine⟨ht,by simpa using H.sz,by simpa[Act.put] using H.ts,by simpa[Act.put] using H.df,aA H.hb hb,hlo,H.base.step (yD hi) ha hf,fun i' s' c' h1 h2=>?_,fun i' s' j h1 h2=>?_,fun i' s' h1 h2=>?_⟩
 ·by_cases e:i'=i
  ·subst e;rw[hi] at h1;injection h1 with h1
   injection h1 with e1 e2
   subst e1 e2;exact F
  ·exact mF.step hi hu' ha hf e h1 (H.facts i' s' c' h1 (dP h2 e))
 ·have e:i'≠i:=fun e=>by subst e;rw[hi] at h1;injection h1 with h1;injection h1 with _ e2;subst e2;cases hc
  obtain⟨b,k1,k2⟩:=H.maps i' s' j h1 (dP h2 e);have hne:∀x sx n,dK[x]?=some (sx,.ins j n)->x≠i:=fun x sx n hx e=>by subst e;rw[hi] at hx;injection hx with hx;injection hx with _ e2;subst e2;cases hc
  refine⟨b,(ha s' (fun e'=>e (mO (e' ▸ h1) hi))).trans k1,?_⟩;rcases k2 with⟨k2,k3⟩|⟨ks,k2,kn,k3⟩
  ·exact .inl ⟨hh _ _ k2,fun x sx n hx=>eX (k3 x sx n hx)⟩
  ·exact .inr ⟨ks,hh _ _ k2,kn,fun x sx n hx=>⟨fun ho=>(k3 x sx n hx).1 (dP ho (hne x sx n hx)),fun hn=>eX ((k3 x sx n hx).2 hn)⟩⟩
 ·have e:i'≠i:=fun e=>by subst e;rw[hi] at h1;injection h1 with h1;injection h1 with _ e2;subst e2;cases hc
  obtain⟨b,ks,k1,k2,k3⟩:=H.outs i' s' h1 (dP h2 e);have hne:∀x sx n,dK[x]?=some (sx,.oins n)->x≠i:=fun x sx n hx e=>by subst e;rw[hi] at hx;injection hx with hx;injection hx with _ e2;subst e2;cases hc
  exact⟨b,ks,(ha s' (fun e'=>e (mO (e' ▸ h1) hi))).trans k1,hh _ _ k2,fun x sx n hx=>⟨fun ho=>(k3 x sx n hx).1 (dP ho (hne x sx n hx)),fun hn=>eX ((k3 x sx n hx).2 hn)⟩⟩
end
section
open Go Go.RowKit Go.Maps Go.MapKept Go.WideElems
theorem Qe:∀(n:Nat) (ks:List Int),ks.Nodup->(∀x,x∈ks->0<=x/\x<n)->ks.length<=n:=by
 intro n
 induction n with
 |zero =>
  intro ks _ h;cases ks with
  |nil=>simp
  |cons x r=>have:=h x (by simp);omega
 |succ n ih =>
  intro ks hn h
  by_cases hm:(n:Int)∈ks
  ·have:=ih (ks.erase (n:Int)) (hn.erase _) (fun x hx=>by
    have h1:=h x (List.mem_of_mem_erase hx);have h2:x≠(n:Int):=fun e=>by subst e;exact(hn.not_mem_erase) hx
    omega)
   rw[List.length_erase_of_mem hm] at this;omega
  ·have:=ih ks hn (fun x hx=>by
    have h1:=h x hx;have h2:x≠(n:Int):=fun e=>by subst e;exact hm hx
    omega)
   omega
theorem vC(j:Nat):∀q,q∈jH j->0<=q.1/\q.1<13:=by
 have h:∀j,j<9->(jH j).all (fun q=>decide (0<=q.1/\q.1<13))=true:=by decide +kernel
 intro q hq
 by_cases hj:j<9
 ·have:=List.all_eq_true.1 (h j hj) q hq;simpa using this
 ·have:jH j=[]:=by
   unfold jH;rw[List.getD_eq_getElem?_getD,List.getElem?_eq_none (by simp;omega)];rfl
  rw[this] at hq;cases hq
theorem mE.step{l:Array Bool}{h h':bD}{a a':Act}{i s j:Nat}{c:Df}(hi:dK[i]?=some (s,c))(hu:¬ on l i)(ha:∀x,x≠s->a'.tmps[x]?=a.tmps[x]?)(hc:∀n,c ≠ .ins j n)
  (hb:∀b d,h b=some d->(d=.done (jH j)∨∃ks,d=.wip j ks)->h' b=some d) {i' s':Nat}(hne:i'≠i) (hi':dK[i']?=some (s',.mk j)) (M:mE l h a s' j):mE (l.setIfInBounds i true) h' a' s' j:=by
 obtain⟨b,k1,k2⟩:=M;have hx':∀x sx n,dK[x]?=some (sx,.ins j n)->x≠i:=fun x sx n hx e=>by subst e;rw[hi] at hx;injection hx with hx;injection hx with _ e2;exact hc n e2
 refine⟨b,(ha s' (fun e=>hne (mO (e ▸ hi') hi))).trans k1,?_⟩;rcases k2 with⟨k2,k3⟩|⟨ks,k2,k3,k4⟩
 ·exact .inl ⟨hb _ _ k2 (.inl rfl),fun x sx n hx=>eX (k3 x sx n hx)⟩
 ·exact .inr ⟨ks,hb _ _ k2 (.inr ⟨ks,rfl⟩),k3,fun x sx n hx=>⟨fun ho=>(k4 x sx n hx).1 (dP ho (hx' x sx n hx)),fun hn=>eX ((k4 x sx n hx).2 hn)⟩⟩
theorem nT.step{l:Array Bool}{h h':bD}{a a':Act}{i s:Nat}{c:Df}(hi:dK[i]?=some (s,c))(hu:¬ on l i)(ha:∀x,x≠s->a'.tmps[x]?=a.tmps[x]?)(hc:∀n,c ≠ .oins n)
  (hb:∀b ks,h b=some (.out ks)->h' b=some (.out ks)) {i' s':Nat}(hne:i'≠i) (hi':dK[i']?=some (s',.omk)) (M:nT l h a s'):nT (l.setIfInBounds i true) h' a' s':=by
 obtain⟨b,ks,k1,k2,k3⟩:=M;have hx':∀x sx n,dK[x]?=some (sx,.oins n)->x≠i:=fun x sx n hx e=>by subst e;rw[hi] at hx;injection hx with hx;injection hx with _ e2;exact hc n e2
 exact⟨b,ks,(ha s' (fun e=>hne (mO (e ▸ hi') hi))).trans k1,hb _ _ k2,fun x sx n hx=>⟨fun ho=>(k3 x sx n hx).1 (dP ho (hx' x sx n hx)),fun hn=>eX ((k3 x sx n hx).2 hn)⟩⟩
section
variable {w0 w w':World}{b1 b3 bt:Nat}{VP VL:Value}{h h':bD}{l:Array Bool}{a:Act}{i s:Nat}{Q:Exit->Act->World->Prop}{o:Oper}
abbrev KN(w0:World)(b1 b3 bt:Nat)(VP VL:Value)(l:Array Bool)(a:Act)(w:World):Prop:=∃h,KI w0 b1 b3 bt VP VL h l a w
theorem ev{a:Act}{s:Nat}{v:Value}(h:a.tmps[s]?=some v):a.eval (.tmp s)=v:=by simp[Act.eval,h]
theorem Cg(a:Act):a.put none undef=a:=rfl
theorem qB(H:KI w0 b1 b3 bt VP VL h l a w){b:Nat}(hb:w.heap.size<=b)(d:qY):∀x dx,h x=some dx->h.set b d x=some dx:=fun x dx e=>by
 rw[bD.set_ne (fun e'=>by subst e';rw[H.ty.none hb] at e;cases e)];exact e
theorem qF(H:KI w0 b1 b3 bt VP VL h l a w){b:Nat}(hb:w0.heap.size<=b)(d:qY):∀x dx,h.set b d x=some dx->w0.heap.size<=x:=fun x dx e=>by
 by_cases hx:x=b
 ·subst hx;exact hb
 ·rw[bD.set_ne hx] at e;exact H.lo x dx e
theorem KI.make{j:Nat}(H:KI w0 b1 b3 bt VP VL h l a w)(hi:dK[i]?=some (s,.mk j))(hu:l.getD i true=false)(hs:s<105):KI w0 b1 b3 bt VP VL (h.set w.heap.size (.wip j [])) (l.setIfInBounds i true) (a.put (some s) (.map (some w.heap.size))) (w.alloc (.map #[] 0)):=by
 have hu':=uX hu;have ha:∀x,x≠s->(a.put (some s) (.map (some w.heap.size))).tmps[x]?=a.tmps[x]? := fun x hx=>aYr hx
 have hh:=qB H (Nl _) (.wip j []);have hf:nB h (h.set w.heap.size (.wip j [])):=fun b d e _=>hh b d e
 have hlt:i<124:=by have:=(Li.1 hi).1;rw[oK] at this;exact this
 refine⟨H.ty.new (aB w _) (Nl _) ⟨[],mD.new w,fun p hp=>(by cases hp),rfl⟩,by simpa using H.sz,by simpa[Act.put] using H.ts,by simpa[Act.put] using H.df,aA H.hb (aB w _),qF H H.hb.size _,H.base.step (yD hi) ha hf,fun i' s' c' h1 h2=>?_,fun i' s' j' h1 h2=>?_,fun i' s' h1 h2=>?_⟩
 ·by_cases e:i'=i
  ·subst e;rw[hi] at h1;injection h1 with h1
   injection h1 with e1 e2
   subst e1 e2;trivial
  ·exact mF.step hi hu' ha hf e h1 (H.facts i' s' c' h1 (dP h2 e))
 ·by_cases e:i'=i
  ·subst e;rw[hi] at h1;injection h1 with h1
   injection h1 with e1 e2
   injection e2 with e2
   subst e1 e2;refine⟨_,eG (by rw[H.ts];exact hs),.inr ⟨[],bD.set_same _ _ _,.nil,fun x sx n hx=>⟨fun ho=>?_,fun hn=>by cases hn⟩⟩⟩;exfalso;have hxi:x≠i':=fun e=>by subst e;rw[hi] at hx;injection hx with hx;injection hx with _ e2;cases e2
   obtain⟨y,sy,k1,k2⟩:=H.facts x sx _ hx (dP ho hxi);have e3:=(gH k1 (x:=zO.getD j 0) rfl).trans (gH hi (x:=zO.getD j 0) rfl).symm;subst e3;exact hu' k2
  ·exact mE.step hi hu' ha (fun n e=>by cases e) (fun b d e _=>hh b d e) e h1 (H.maps i' s' j' h1 (dP h2 e))
 ·have e:i'≠i:=fun e=>by subst e;rw[hi] at h1;injection h1 with h1;injection h1 with _ e2;cases e2
  exact nT.step hi hu' ha (fun n e=>by cases e) (fun b ks e=>hh b _ e) e h1 (H.outs i' s' h1 (dP h2 e))
theorem KI.omake(H:KI w0 b1 b3 bt VP VL h l a w)(hi:dK[i]?=some (s,.omk))(hu:l.getD i true=false)(hs:s<105):KI w0 b1 b3 bt VP VL (h.set w.heap.size (.out [])) (l.setIfInBounds i true) (a.put (some s) (.map (some w.heap.size))) (w.alloc (.map #[] 0)):=by
 have hu':=uX hu;have ha:∀x,x≠s->(a.put (some s) (.map (some w.heap.size))).tmps[x]?=a.tmps[x]? := fun x hx=>aYr hx
 have hh:=qB H (Nl _) (.out []);have hf:nB h (h.set w.heap.size (.out [])):=fun b d e _=>hh b d e
 refine⟨H.ty.new (aB w _) (Nl _) ⟨[],mD.new w,fun p hp=>(by cases hp),rfl,List.nodup_nil⟩,by simpa using H.sz,by simpa[Act.put] using H.ts,by simpa[Act.put] using H.df,aA H.hb (aB w _),qF H H.hb.size _,H.base.step (yD hi) ha hf,fun i' s' c' h1 h2=>?_,fun i' s' j' h1 h2=>?_,fun i' s' h1 h2=>?_⟩
 ·by_cases e:i'=i
  ·subst e;rw[hi] at h1;injection h1 with h1
   injection h1 with e1 e2
   subst e1 e2;trivial
  ·exact mF.step hi hu' ha hf e h1 (H.facts i' s' c' h1 (dP h2 e))
 ·have e:i'≠i:=fun e=>by subst e;rw[hi] at h1;injection h1 with h1;injection h1 with _ e2;cases e2
  exact mE.step hi hu' ha (fun n e=>by cases e) (fun b d e _=>hh b d e) e h1 (H.maps i' s' j' h1 (dP h2 e))
 ·by_cases e:i'=i
  ·subst e;rw[hi] at h1;injection h1 with h1
   injection h1 with e1 _
   subst e1;refine⟨_,[],eG (by rw[H.ts];exact hs),bD.set_same _ _ _,fun x sx n hx=>⟨fun ho=>?_,fun hn=>by cases hn⟩⟩;exfalso;have hxi:x≠i':=fun e=>by subst e;rw[hi] at hx;injection hx with hx;injection hx with _ e2;cases e2
   obtain⟨y,sy,k1,k2⟩:=H.facts x sx _ hx (dP ho hxi);have e3:=(gH k1 (x:=0) rfl).trans (gH hi (x:=0) rfl).symm;subst e3;exact hu' k2
  ·exact nT.step hi hu' ha (fun n e=>by cases e) (fun b ks e=>hh b _ e) e h1 (H.outs i' s' h1 (dP h2 e))
theorem KI.insert{j m sl:Nat}{n:Int}{pq:Bool×Bool}(H:KI w0 b1 b3 bt VP VL h l a w)(hi:dK[i]?=some (s,.ins j n))(hu:l.getD i true=false)(hs:105<=s)(hop:o.op=.insert 60 (.tmp m) (.const (.int .i64 n)) (.tmp sl))(hd:o.dst=none)
  {im:Nat}(hm:dK[im]?=some (m,.mk j)) (hom:on l im) (hl:∃v,a.tmps[sl]?=some v/\lV h v pq) (hq:(n,pq)∈jH j) (hil:i<l.size):o.wp prog a w (KN w0 b1 b3 bt VP VL (l.setIfInBounds i true)) Q:=by
 have hu':=uX hu;obtain⟨b,k1,k2⟩:=H.maps im m j hm hom;rcases k2 with⟨_,k3⟩|⟨ks,k2,k3,k4⟩
 ·exact absurd (k3 i s n hi) hu'
 ·obtain⟨kvs,g1,g2,g3⟩:=H.ty b _ k2;obtain⟨v,hv,hlv⟩:=hl;have hlow:∀x,x∈ks->0<=x/\x<(13:Nat):=fun x hx=>by
   rw[<-g3] at hx;obtain⟨p,hp,rfl⟩:=List.mem_map.1 hx;obtain⟨q,hq,e,_⟩:=g2 p hp;rw[e];exact vC j q hq
  have hlen:kvs.length<=13:=by
   have:=Qe 13 ks k3 hlow;rw[<-g3,List.length_map] at this;exact this
  have hnk:n ∉ ks:=fun hn=>hu' ((k4 i s n hi).2 hn)
  have hn0:=vC j _ hq;obtain⟨w',hrun,r1,r2,r3⟩:=g1.insert underlying60 (by omega) n ⟨hn0.1,by have:=hn0.2;dsimp only at this;omega⟩ v (fun p hp e=>hnk (by rw[<-g3,<-e];exact List.mem_map.2 ⟨p,hp,rfl⟩));refine Gs hop (w':=w') (by rw[ev k1,ev hv];exact hrun) ?_;rw[hd,Cg];have hbf:∀d0,h b=some d0->d0.firm=false:=fun d0 e=>by rw[k2] at e;injection e with e;subst e;rfl
  have hf:nB h (h.set b (.wip j (ks ++ [n]))):=nB.set hbf;have hlo:=H.lo b _ k2;refine⟨h.set b (.wip j (ks ++ [n])),H.ty.turn r2 k2 rfl ⟨kvs ++ [(n,v)],r1,?_,by rw[List.map_append,g3];rfl⟩,by simpa using H.sz,H.ts,H.df,H.hb.grown r2 H.hb.size (fun k e=>by cases e;exact hlo),qF H hlo _,H.base.step (s:=s) (.inr (by omega)) (fun x _=>rfl) hf,fun i' s' c' h1 h2=>?_,fun i' s' j' h1 h2=>?_,fun i' s' h1 h2=>?_⟩
  ·intro p hp;rcases List.mem_append.1 hp with hp|hp
   ·obtain⟨q,hq,e,hr⟩:=g2 p hp;exact⟨q,hq,e,hr.firm hf⟩
   ·obtain rfl:p=(n,v):=by simpa using hp
    exact⟨_,hq,rfl,hlv.firm hf⟩
  ·by_cases e:i'=i
   ·subst e;rw[hi] at h1;injection h1 with h1
    injection h1 with e1 e2
    subst e1 e2;exact⟨im,m,hm,eX hom⟩
   ·exact mF.step hi hu' (fun x _=>rfl) hf e h1 (H.facts i' s' c' h1 (dP h2 e))
  ·have e:i'≠i:=fun e=>by subst e;rw[hi] at h1;injection h1 with h1;injection h1 with _ e2;cases e2
   by_cases hj:j'=j
   ·subst hj;have e3:=(gH h1 (x:=zO.getD j' 0) rfl).trans (gH hm (x:=zO.getD j' 0) rfl).symm;subst e3;rw[hm] at h1;injection h1 with h1
    injection h1 with e1 _
    subst e1;refine⟨b,k1,.inr ⟨ks ++ [n],bD.set_same _ _ _,?_,fun x sx n' hx=>?_⟩⟩
    ·rw[List.nodup_append];refine⟨k3,by simp,fun a ha b hb=>?_⟩;obtain rfl:b=n:=by simpa using hb
     exact fun e=>hnk (e ▸ ha)
    ·by_cases ex:x=i
     ·subst ex;rw[hi] at hx;injection hx with hx
      injection hx with _ e2
      injection e2 with _ e2
      subst e2;exact⟨fun _=>by simp,fun _=>Ob hil⟩
     ·refine⟨fun ho=>List.mem_append.2 (.inl ((k4 x sx n' hx).1 (dP ho ex))),fun hn=>eX ((k4 x sx n' hx).2 ?_)⟩;rcases List.mem_append.1 hn with hn|hn
      ·exact hn
      ·exfalso;obtain rfl:n'=n:=by simpa using hn
       have:=gH hx (x:=((bWt.find? fun p=>p.1.1==j'&&p.1.2==n').map Prod.snd).getD 0) rfl;have:=gH hi (x:=((bWt.find? fun p=>p.1.1==j'&&p.1.2==n').map Prod.snd).getD 0) rfl;omega
   ·refine mE.step hi hu' (fun x _=>rfl) (fun n' e'=>by injection e' with e1 _;exact hj e1.symm) (fun x d ex hd=>?_) e h1 (H.maps i' s' j' h1 (dP h2 e));rw[bD.set_ne]
    ·exact ex
    ·intro e';subst e';rw[k2] at ex;injection ex with ex
     subst ex;rcases hd with hd|⟨_,hd⟩
     ·cases hd
     ·injection hd with hd _;exact hj hd.symm
  ·have e:i'≠i:=fun e=>by subst e;rw[hi] at h1;injection h1 with h1;injection h1 with _ e2;cases e2
   refine nT.step hi hu' (fun x _=>rfl) (fun n e'=>by cases e') (fun x ks' ex=>?_) e h1 (H.outs i' s' h1 (dP h2 e));rw[bD.set_ne]
   ·exact ex
   ·intro e';subst e';rw[k2] at ex;injection ex with ex
    cases ex
theorem bCz:∀q,q∈aX->0<=q.1/\q.1<((19:Nat):Int):=by decide
theorem KI.oinsert{m sv:Nat}{n:Int}{k:bH}(H:KI w0 b1 b3 bt VP VL h l a w)(hi:dK[i]?=some (s,.oins n))(hu:l.getD i true=false)(hs:105<=s)(hop:o.op=.insert 64 (.tmp m) (.const (.int .i64 n)) (.tmp sv))(hd:o.dst=none)
  {im:Nat}(hm:dK[im]?=some (m,.omk)) (hom:on l im) (hl:∃v,a.tmps[sv]?=some v/\qX h v k) (hq:(n,k)∈aX) (hil:i<l.size):o.wp prog a w (KN w0 b1 b3 bt VP VL (l.setIfInBounds i true)) Q:=by
 have hu':=uX hu;obtain⟨b,ks,k1,k2,k4⟩:=H.outs im m hm hom;obtain⟨kvs,g1,g2,g3,g4⟩:=H.ty b _ k2;obtain⟨v,hv,hlv⟩:=hl;have hnk:n ∉ ks:=fun hn=>hu' ((k4 i s n hi).2 hn)
 have hkl:kvs.length<1000:=by
  have h1:=Qe 19 ks g4 (fun x hx=>by
   rw[<-g3] at hx;obtain⟨p,hp,rfl⟩:=List.mem_map.1 hx;obtain⟨q,hq',e,_⟩:=g2 p hp;rw[e];exact bCz q hq')
  rw[<-g3,List.length_map] at h1;omega
 have hnb:=bCz _ hq;obtain⟨w',hrun,r1,r2,r3⟩:=mD.insert underlying64 g1 hkl n (by dsimp only at hnb;omega) v (fun p hp e=>hnk (by rw[<-g3,<-e];exact List.mem_map.2 ⟨p,hp,rfl⟩));refine Gs hop (w':=w') (by rw[ev k1,ev hv];exact hrun) ?_;rw[hd,Cg];have hbf:∀d0,h b=some d0->d0.firm=false:=fun d0 e=>by rw[k2] at e;injection e with e;subst e;rfl
 have hf:nB h (h.set b (.out (ks ++ [n]))):=nB.set hbf;have hlo:=H.lo b _ k2;refine⟨h.set b (.out (ks ++ [n])),H.ty.turn r2 k2 rfl ⟨kvs ++ [(n,v)],r1,?_,by rw[List.map_append,g3];rfl,by rw[List.nodup_append];exact⟨g4,by simp,fun x hx y hy e=>hnk (by have h9:y=n:=(by simpa using hy);rw[<-h9,<-e];exact hx)⟩⟩,by simpa using H.sz,H.ts,H.df,H.hb.grown r2 H.hb.size (fun k e=>by cases e;exact hlo),qF H hlo _,H.base.step (s:=s) (.inr (by omega)) (fun x _=>rfl) hf,fun i' s' c' h1 h2=>?_,fun i' s' j' h1 h2=>?_,fun i' s' h1 h2=>?_⟩
 ·intro p hp;rcases List.mem_append.1 hp with hp|hp
  ·obtain⟨q,hq,e,hr⟩:=g2 p hp;exact⟨q,hq,e,hr.firm hf⟩
  ·obtain rfl:p=(n,v):=by simpa using hp
   exact⟨_,hq,rfl,hlv.firm hf⟩
 ·by_cases e:i'=i
  ·subst e;rw[hi] at h1;injection h1 with h1
   injection h1 with e1 e2
   subst e1 e2;exact⟨im,m,hm,eX hom⟩
  ·exact mF.step hi hu' (fun x _=>rfl) hf e h1 (H.facts i' s' c' h1 (dP h2 e))
 ·have e:i'≠i:=fun e=>by subst e;rw[hi] at h1;injection h1 with h1;injection h1 with _ e2;cases e2
  refine mE.step hi hu' (fun x _=>rfl) (fun n' e'=>by cases e') (fun x d ex hd=>?_) e h1 (H.maps i' s' j' h1 (dP h2 e));rw[bD.set_ne]
  ·exact ex
  ·intro e';subst e';rw[k2] at ex;injection ex with ex
   subst ex;rcases hd with hd|⟨_,hd⟩ <;> cases hd
 ·have e:i'≠i:=fun e=>by subst e;rw[hi] at h1;injection h1 with h1;injection h1 with _ e2;cases e2
  have e3:=(gH h1 (x:=0) rfl).trans (gH hm (x:=0) rfl).symm;subst e3;rw[hm] at h1;injection h1 with h1
  injection h1 with e1 _
  subst e1;refine⟨b,ks ++ [n],k1,bD.set_same _ _ _,fun x sx n' hx=>?_⟩
  by_cases ex:x=i
  ·subst ex;rw[hi] at hx;injection hx with hx
   injection hx with _ e2
   injection e2 with e2
   subst e2;exact⟨fun _=>by simp,fun _=>Ob hil⟩
  ·refine⟨fun ho=>List.mem_append.2 (.inl ((k4 x sx n' hx).1 (dP ho ex))),fun hn=>eX ((k4 x sx n' hx).2 ?_)⟩;rcases List.mem_append.1 hn with hn|hn
   ·exact hn
   ·exfalso;obtain rfl:n'=n:=by simpa using hn
    have:=gH hx (x:=((tR.find? fun p=>p.1==n').map Prod.snd).getD 0) rfl;have:=gH hi (x:=((tR.find? fun p=>p.1==n').map Prod.snd).getD 0) rfl;omega
end
end
section
open Go Go.RowKit Go.Maps Go.MapKept Go.WideElems
section
variable {w0 w w':World}{b1 b3 bt:Nat}{VP VL:Value}{h h':bD}{l:Array Bool}{a:Act}{i s:Nat}{Q:Exit->Act->World->Prop}{o:Oper}{c:Df}
theorem KI.val{v:Value}(H:KI w0 b1 b3 bt VP VL h l a w)(hi:dK[i]?=some (s,c))(hu:l.getD i true=false)(hc:c.home=none)(F:mF b1 b3 bt (l.setIfInBounds i true) h (a.put (some s) v) s c):KN w0 b1 b3 bt VP VL (l.setIfInBounds i true) (a.put (some s) v) w :=
 ⟨h,H.quiet hi hu hc (fun _ _ e=>e) H.lo H.ty (Br _ _) F⟩
theorem KI.size(H:KI w0 b1 b3 bt VP VL h l a w)(hs:s<105):s<a.tmps.size:=by rw[H.ts];exact hs
theorem KI.mv_amt(H:KI w0 b1 b3 bt VP VL h l a w)(hi:dK[i]?=some (s,.fAmt))(hu:l.getD i true=false)(hs:s<105)(hop:o.op=.move (.tmp 4))(hd:o.dst=some s):o.wp prog a w (KN w0 b1 b3 bt VP VL (l.setIfInBounds i true)) Q:=by
 refine sI hop ?_;rw[hd,ev H.base.t4];exact H.val hi hu rfl (eG (H.size hs))
theorem KI.mv_wc(H:KI w0 b1 b3 bt VP VL h l a w)(hi:dK[i]?=some (s,.fWc))(hu:l.getD i true=false)(hs:s<105)(hop:o.op=.move (.tmp 5))(hd:o.dst=some s):o.wp prog a w (KN w0 b1 b3 bt VP VL (l.setIfInBounds i true)) Q:=by
 refine sI hop ?_;rw[hd,ev H.base.t5];exact H.val hi hu rfl (eG (H.size hs))
theorem KI.mv_trade(H:KI w0 b1 b3 bt VP VL h l a w)(hi:dK[i]?=some (s,.trade))(hu:l.getD i true=false)(hs:s<105)(hop:o.op=.move (.tmp 6))(hd:o.dst=some s):o.wp prog a w (KN w0 b1 b3 bt VP VL (l.setIfInBounds i true)) Q:=by
 refine sI hop ?_;rw[hd,ev H.base.t6];exact H.val hi hu rfl (eG (H.size hs))
theorem KI.mv_least(H:KI w0 b1 b3 bt VP VL h l a w)(hi:dK[i]?=some (s,.lim false false))(hu:l.getD i true=false)(hs:s<105)(hop:o.op=.move (.tmp 2))(hd:o.dst=some s):o.wp prog a w (KN w0 b1 b3 bt VP VL (l.setIfInBounds i true)) Q:=by
 refine sI hop ?_;rw[hd,ev H.base.t2];exact H.val hi hu rfl ⟨_,eG (H.size hs),H.base.ll⟩
theorem KI.ld_pos(H:KI w0 b1 b3 bt VP VL h l a w)(hi:dK[i]?=some (s,.lim true false))(hu:l.getD i true=false)(hs:s<105)(hop:o.op=.load 112 (.tmp 1))(hd:o.dst=some s):o.wp prog a w (KN w0 b1 b3 bt VP VL (l.setIfInBounds i true)) Q:=by
 have hb:aP w b1 #[VP] 112:=H.ty b1 _ H.base.h1;have hc:=hb.cell 0;refine Kr (v:=VP) hop ?_ ?_
 ·rw[ev H.base.t1];simp[Instr.loadAt,go_sem,hc]
 ·rw[hd];exact H.val hi hu rfl ⟨_,eG (H.size hs),H.base.lp⟩
theorem KI.ld_of(H:KI w0 b1 b3 bt VP VL h l a w)(hi:dK[i]?=some (s,.fOf))(hu:l.getD i true=false)(hs:s<105)(hop:o.op=.load 114 (.tmp 3))(hd:o.dst=some s):o.wp prog a w (KN w0 b1 b3 bt VP VL (l.setIfInBounds i true)) Q:=by
 have hb:aP w b3 #[Ae] 114:=H.ty b3 _ H.base.h3;have hc:=hb.cell 0;refine Kr (v:=Ae) hop ?_ ?_
 ·rw[ev H.base.t3];simp[Instr.loadAt,go_sem,hc]
 ·rw[hd];exact H.val hi hu rfl (eG (H.size hs))
theorem KI.same{m j im:Nat}(H:KI w0 b1 b3 bt VP VL h l a w)(hi:dK[i]?=some (s,.same m j))(hu:l.getD i true=false)(hs:s<105)(hop:o.op=.move (.tmp m))(hd:o.dst=some s)(hne:m≠s)(hm:dK[im]?=some (m,.mk j))(hom:on l im)(hall:∀i s' n,dK[i]?=some (s',.ins j n)->on l i):o.wp prog a w (KN w0 b1 b3 bt VP VL (l.setIfInBounds i true)) Q:=by
 obtain⟨b,k1,_⟩:=H.maps im m j hm hom;refine sI hop ?_;rw[hd,ev k1];exact H.val hi hu rfl ⟨⟨_,eG (H.size hs),(aYr hne).trans k1⟩,⟨im,hm,eX hom⟩,fun i s' n hx=>eX (hall i s' n hx)⟩
theorem KI.osame{m im:Nat}(H:KI w0 b1 b3 bt VP VL h l a w)(hi:dK[i]?=some (s,.osame m))(hu:l.getD i true=false)(hs:s<105)(hop:o.op=.move (.tmp m))(hd:o.dst=some s)(hne:m≠s)(hm:dK[im]?=some (m,.omk))(hom:on l im)(hall:∀i s' n,dK[i]?=some (s',.oins n)->on l i):o.wp prog a w (KN w0 b1 b3 bt VP VL (l.setIfInBounds i true)) Q:=by
 obtain⟨b,ks,k1,_⟩:=H.outs im m hm hom;refine sI hop ?_;rw[hd,ev k1];exact H.val hi hu rfl ⟨⟨_,eG (H.size hs),(aYr hne).trans k1⟩,⟨im,hm,eX hom⟩,fun i s' n hx=>eX (hall i s' n hx)⟩
theorem KI.oend{m m2:Nat}(H:KI w0 b1 b3 bt VP VL h l a w)(hi:dK[i]?=some (s,.osame m))(hu:l.getD i true=false)(hs:s<105)(hop:o.op=.assign (.tmp m2))(hd:o.dst=some s)(hne:m≠s)(F:mF b1 b3 bt l h a m2 (.osame m)):o.wp prog a w (KN w0 b1 b3 bt VP VL (l.setIfInBounds i true)) Q:=by
 obtain⟨⟨v,k1,k2⟩,⟨x,k3,k4⟩,k5⟩:=F;refine Gt hop ?_;rw[hd,ev k1];exact H.val hi hu rfl ⟨⟨_,eG (H.size hs),(aYr hne).trans k2⟩,⟨x,k3,eX k4⟩,fun i s' n hx=>eX (k5 i s' n hx)⟩
theorem KI.rowed{r:List Int}{n:Nat}{ps:Array (Nat×Operand)}(H:KI w0 b1 b3 bt VP VL h l a w)(hi:dK[i]?=some (s,.row r))(hu:l.getD i true=false)(hs:s<105)(hop:o.op=.buildSlice 93 n ps)(hd:o.dst=some s)
  (hrun:∀W:World,(Instr.buildSlice 93 n (ps.map fun (i,x)=>(i,a.eval x))).run prog W=.ok (.slice (some ⟨W.heap.size,0,none⟩) r.length r.length) (W.alloc (.cells (r.map (Value.int .i64)).toArray 3))):o.wp prog a w (KN w0 b1 b3 bt VP VL (l.setIfInBounds i true)) Q:=by
 refine Dp hop (hrun w) ?_;rw[hd];refine⟨h.set w.heap.size (.row r),H.quiet hi hu rfl (qB H (Nl _) _) (qF H H.hb.size _) (H.ty.new (aB _ _) (Nl _) ⟨by simp,?_⟩) (aB _ _) ⟨_,eG (H.size hs),bD.set_same _ _ _⟩⟩;have e:=heap_alloc_new w (.cells (r.map (Value.int .i64)).toArray 3);refine .inr ⟨w.heap.size,0,rfl,by simp,fun k u hu=>?_⟩;rw[Nat.zero_add,aS e,List.getElem?_toArray];exact hu
theorem KI.lim3{ts:Array TypeId}(H:KI w0 b1 b3 bt VP VL h l a w)(hi:dK[i]?=some (s,.lim false true))(hu:l.getD i true=false)(hs:s<105)(hop:o.op=.call { callee:=.value (.func 86),args:=#[.const (.bool false),.const (.bool true)],argTypes:=ts })(hd:o.dst=some s):o.wp prog a w (KN w0 b1 b3 bt VP VL (l.setIfInBounds i true)) Q:=by
 refine nY (f:=86) (lb:=#[]) hop rfl (aXb func86) ?_;have e:(#[Operand.const (.bool false),.const (.bool true)].map a.eval++#[])=#[.bool false,.bool true]:=by simp[Act.eval]
 rw[e];refine(uH false true w).mono ?_;rintro e w' ⟨rfl,rfl⟩;refine⟨_,rfl,?_⟩;rw[hd];have g1:=qB H (Nl _) (.val (.bool false) 4);have hB1:=aP.new0 w #[.bool false] 4;have hB2:=aP.new0 (w.alloc (.cells #[.bool false] 4)) #[.bool true] 4;rw[World.size_alloc] at hB2;have T1:iF (w.alloc (.cells #[.bool false] 4)) (h.set w.heap.size (.val (.bool false) 4)):=H.ty.new (aB _ _) (Nl _) hB1;have T2:iF ((w.alloc (.cells #[.bool false] 4)).alloc (.cells #[.bool true] 4)) ((h.set w.heap.size (.val (.bool false) 4)).set (w.heap.size+1) (.val (.bool true) 4)):=T1.new (aB _ _) (by simp) hB2;have g2:∀x dx,h.set w.heap.size (.val (.bool false) 4) x=some dx->(h.set w.heap.size (.val (.bool false) 4)).set (w.heap.size+1) (.val (.bool true) 4) x=some dx:=fun x dx e=>by
  rw[bD.set_ne (fun e'=>by subst e';rw[T1.none (by simp)] at e;cases e)];exact e
 refine⟨_,H.quiet hi hu rfl (fun x dx e=>g2 x dx (g1 x dx e)) (fun x dx e=>?_) T2 (((Br _ _).alloc (Nl _) _).alloc (by simp) _) ⟨_,eG (H.size hs),w.heap.size,w.heap.size+1,rfl,g2 _ _ (bD.set_same _ _ _),bD.set_same _ _ _⟩⟩;have hle:=H.hb.size
 by_cases hx:x=w.heap.size+1
 ·omega
 ·rw[bD.set_ne hx] at e;exact qF H hle _ x dx e
theorem KI.amount{sc:Nat}{word:List UInt8}{ts:Array TypeId}(H:KI w0 b1 b3 bt VP VL h l a w)(hi:dK[i]?=some (s,.kind ⟨word,2,[(5,true,false)],[2],false⟩))(hu:l.getD i true=false)(hs:s<105)
  (hop:o.op=.call { callee:=.value (.tmp sc),args:=#[.const (.string ⟨word.toArray⟩)],argTypes:=ts }) (hd:o.dst=some s) (hc:mF b1 b3 bt l h a sc .fAmt):o.wp prog a w (KN w0 b1 b3 bt VP VL (l.setIfInBounds i true)) Q:=by
 have hb1:aP w b1 #[VP] 112:=H.ty b1 _ H.base.h1;have hb3:aP w b3 #[Ae] 114:=H.ty b3 _ H.base.h3;have hlp:=H.base.lp;obtain⟨bp,bq,eVP,hp,hq⟩:=H.base.lp;rw[eVP] at hb1;refine nY hop (ev hc) (aXb func88) ?_;have e:(#[Operand.const (.string ⟨word.toArray⟩)].map a.eval++#[.pointer (some ⟨b3,0,none⟩),.pointer (some ⟨b1,0,none⟩)])=#[.string ⟨word.toArray⟩,.pointer (some ⟨b3,0,none⟩),.pointer (some ⟨b1,0,none⟩)]:=by simp[Act.eval]
 rw[e];refine(Mi word b3 b1 _ _ _ _ w hb3 hb1).mono ?_;rintro e w' ⟨b,rfl,hr,hlt,hbl⟩;refine⟨_,rfl,?_⟩;rw[hd];have hh:=qB H hlt (.done [(5,true,false)]);have hf:nB h (h.set b (.done [(5,true,false)])):=fun x d e _=>hh x d e
 have hin:rY (lV (h.set b (.done [(5,true,false)]))) (bH.nums ⟨word,2,[(5,true,false)],[2],false⟩) [(5,.func (.func 139) #[] #[.pointer (some ⟨bp,0,none⟩),.pointer (some ⟨bq,0,none⟩)])]:=by
  intro p hp;obtain rfl:=List.mem_singleton.1 hp;exact⟨_,List.mem_singleton.2 rfl,rfl,by rw[<-eVP];exact hlp.firm hf⟩
 have hco:∀q,q∈(bH.nums ⟨word,2,[(5,true,false)],[2],false⟩)->∃p,p∈[((5:Int),Value.func (.func 139) #[] #[.pointer (some ⟨bp,0,none⟩),.pointer (some ⟨bq,0,none⟩)])]/\p.1=q.1:=by
  intro q hq;obtain rfl:=List.mem_singleton.1 hq;exact⟨_,List.mem_singleton.2 rfl,rfl⟩
 refine⟨_,H.quiet hi hu rfl hh (qF H (Nat.le_trans H.hb.size hlt) _) (H.ty.new hbl hlt ⟨_,hr,hin,hco⟩) hbl ⟨_,eG (H.size hs),some b,?_,.inr ⟨b,rfl,bD.set_same _ _ _⟩⟩⟩;rw[<-Ed (k:=⟨word,2,[(5,true,false)],[2],false⟩) hin hco]
theorem Gc{a:Act}{sm sr:Nat}{word:List UInt8}{cls:Int}{vm vr:Value}(h1:a.tmps[sm]?=some vm)(h2:a.tmps[sr]?=some vr):
  (#[Operand.const (.string ⟨word.toArray⟩),.const (.int .i64 cls),.tmp sm,.tmp sr].map a.eval++#[])=#[.string ⟨word.toArray⟩,.int .i64 cls,vm,vr]:=by
 simp only[List.map_toArray,List.map_cons,List.map_nil,Array.append_empty,ev h1,ev h2];rfl
theorem KI.of{sc sm sr m j:Nat}{word:List UInt8}{cls:Int}{more:List Int}{ts:Array TypeId}(H:KI w0 b1 b3 bt VP VL h l a w)(hi:dK[i]?=some (s,.kind ⟨word,cls,jH j,more,false⟩))(hu:l.getD i true=false)(hs:s<105)
  (hop:o.op=.call { callee:=.value (.tmp sc),args:=#[.const (.string ⟨word.toArray⟩),.const (.int .i64 cls),.tmp sm,.tmp sr],argTypes:=ts }) (hd:o.dst=some s) (hc:mF b1 b3 bt l h a sc .fOf) (hm:mF b1 b3 bt l h a sm (.same m j)) (hr:mF b1 b3 bt l h a sr (.row more))
  (hall:∀q,q∈jH j->∃(i s':Nat),dK[i]?=some (s',Df.ins j q.1)) (hml:more.length<=100) (hmo:∀x∈more,0<=x/\x<13):o.wp prog a w (KN w0 b1 b3 bt VP VL (l.setIfInBounds i true)) Q:=by
 obtain⟨⟨vm,m1,m2⟩,⟨im,m3,m4⟩,m5⟩:=hm;obtain⟨br,r1,r2⟩:=hr;obtain⟨b,k1,k2⟩:=H.maps im m j m3 m4;obtain rfl:vm=.map (some b):=Option.some.inj (m2.symm.trans k1);have hu':=uX hu;have hrow:dT w (some ⟨br,0,none⟩) (more.map (Value.int .i64)):=(H.ty br _ r2).2;have hkv:∃kvs,mD w b kvs/\rY (lV h) (jH j) kvs/\∀q,q∈jH j->∃p,p∈kvs/\p.1=q.1:=by
  rcases k2 with⟨k2,_⟩|⟨ks,k2,_,k4⟩
  ·exact H.ty b _ k2
  ·obtain⟨kvs,g1,g2,g3⟩:=H.ty b _ k2;refine⟨kvs,g1,g2,fun q hq=>?_⟩;obtain⟨x,sx,hx⟩:=hall q hq;have:=(k4 x sx q.1 hx).1 (m5 x sx q.1 hx);rw[<-g3] at this;obtain⟨p,hp,e⟩:=List.mem_map.1 this;exact⟨p,hp,e⟩
 obtain⟨kvs,g1,g2,g3⟩:=hkv;have hb0:∀d0,h b=some d0->d0=.done (jH j)∨∃ks,d0=.wip j ks:=fun d0 e=>by
  rcases k2 with⟨k2,_⟩|⟨ks,k2,_,_⟩
  ·rw[k2] at e;injection e with e;exact .inl e.symm
  ·rw[k2] at e;injection e with e;exact .inr ⟨ks,e.symm⟩
 have hsome:∃d0,h b=some d0:=by
  rcases k2 with⟨k2,_⟩|⟨ks,k2,_,_⟩
  ·exact⟨_,k2⟩
  ·exact⟨_,k2⟩
 refine nY hop (ev hc) (aXb func87) ?_;rw[Gc m1 r1];refine(Do word cls b kvs more _ _ w g1 (fun p hp=>by obtain⟨q,hq,e,_⟩:=g2 p hp;rw[e];exact vC j q hq) hml hmo hrow).mono ?_;rintro e w' ⟨rfl,hbl⟩;refine⟨_,rfl,?_⟩;rw[hd];have hf:nB h (h.set b (.done (jH j))):=by
  intro x d0 e hfm
  by_cases hx:x=b
  ·subst hx;rcases hb0 d0 e with e1|⟨ks,e1⟩
   ·subst e1;exact bD.set_same _ _ _
   ·subst e1;cases hfm
  ·rw[bD.set_ne hx];exact e
 have hlt:w0.heap.size<=b:=by obtain⟨d0,e⟩:=hsome;exact H.lo b d0 e
 have hin:=g2.mono fun v pq hv=>hv.firm hf
 have hty:iF w' (h.set b (.done (jH j))):=by
  intro x dx e
  by_cases hx:x=b
  ·subst hx;rw[bD.set_same] at e;injection e with e
   subst e;exact⟨kvs,g1.below hbl,hin,g3⟩
  ·rw[bD.set_ne hx] at e;exact((H.ty x dx e).below hbl).firm hf
 have ha:∀(v:Value) x,x≠s->(a.put (some s) v).tmps[x]?=a.tmps[x]? := fun v x hx=>aYr hx
 refine⟨h.set b (.done (jH j)),hty,by simpa using H.sz,by simpa[Act.put] using H.ts,by simpa[Act.put] using H.df,aA H.hb hbl,qF H hlt _,H.base.step (yD hi) (ha _) hf,fun i' s' c' h1 h2=>?_,fun i' s' j' h1 h2=>?_,fun i' s' h1 h2=>?_⟩
 ·by_cases e:i'=i
  ·subst e;rw[hi] at h1;injection h1 with h1
   injection h1 with e1 e2
   subst e1 e2;refine⟨_,eG (H.size hs),some b,?_,.inr ⟨b,rfl,bD.set_same _ _ _⟩⟩;rw[<-Ed (k:=⟨word,cls,jH j,more,false⟩) g2 g3]
  ·exact mF.step hi hu' (ha _) hf e h1 (H.facts i' s' c' h1 (dP h2 e))
 ·have e:i'≠i:=fun e=>by subst e;rw[hi] at h1;injection h1 with h1;injection h1 with _ e2;cases e2
  by_cases hj:j'=j
  ·subst hj;have e3:=(gH h1 (x:=zO.getD j' 0) rfl).trans (gH m3 (x:=zO.getD j' 0) rfl).symm;subst e3;rw[m3] at h1;injection h1 with h1
   injection h1 with e1 _
   subst e1;refine⟨b,(ha _ m (fun e'=>e (mO (e' ▸ m3) hi))).trans k1,.inl ⟨bD.set_same _ _ _,fun x sx n hx=>eX (m5 x sx n hx)⟩⟩
  ·refine mE.step hi hu' (ha _) (fun n' e'=>by cases e') (fun x d ex hd=>?_) e h1 (H.maps i' s' j' h1 (dP h2 e))
   by_cases hx:x=b
   ·subst hx;rcases hb0 d ex with e1|⟨ks,e1⟩
    ·subst e1;exact bD.set_same _ _ _
    ·subst e1;rcases hd with hd|⟨_,hd⟩
     ·cases hd
     ·injection hd with hd _;exact absurd hd.symm hj
   ·rw[bD.set_ne hx];exact ex
 ·have e:i'≠i:=fun e=>by subst e;rw[hi] at h1;injection h1 with h1;injection h1 with _ e2;cases e2
  refine nT.step hi hu' (ha _) (fun n e'=>by cases e') (fun x ks' ex=>?_) e h1 (H.outs i' s' h1 (dP h2 e));rw[bD.set_ne]
  ·exact ex
  ·intro e';subst e';rcases hb0 _ ex with e1|⟨ks,e1⟩ <;> cases e1
theorem KI.of_trade{sc sm sr:Nat}{word:List UInt8}{cls:Int}{more:List Int}{ts:Array TypeId}(H:KI w0 b1 b3 bt VP VL h l a w)(hi:dK[i]?=some (s,.kind ⟨word,cls,[(4,true,false),(5,false,false),(6,false,false)],more,false⟩))(hu:l.getD i true=false)(hs:s<105)
  (hop:o.op=.call { callee:=.value (.tmp sc),args:=#[.const (.string ⟨word.toArray⟩),.const (.int .i64 cls),.tmp sm,.tmp sr],argTypes:=ts }) (hd:o.dst=some s) (hc:mF b1 b3 bt l h a sc .fOf) (hm:mF b1 b3 bt l h a sm .trade) (hr:mF b1 b3 bt l h a sr (.row more))
  (hml:more.length<=100) (hmo:∀x∈more,0<=x/\x<13):o.wp prog a w (KN w0 b1 b3 bt VP VL (l.setIfInBounds i true)) Q:=by
 obtain⟨br,r1,r2⟩:=hr;have hrow:dT w (some ⟨br,0,none⟩) (more.map (Value.int .i64)):=(H.ty br _ r2).2;obtain⟨kvs,g1,g2,g3⟩:=H.ty bt _ H.base.ht;refine nY hop (ev hc) (aXb func87) ?_;rw[Gc hm r1];refine(Do word cls bt kvs more _ _ w g1 (fun p hp=>by
  obtain⟨q,hq,e,_⟩:=g2 p hp;rw[e];have:∀q,q∈[((4:Int),true,false),(5,false,false),(6,false,false)]->0<=q.1/\q.1<13:=by decide
  exact this q hq) hml hmo hrow).mono ?_
 rintro e w' ⟨rfl,hbl⟩;refine⟨_,rfl,?_⟩;rw[hd];refine⟨h,H.quiet hi hu rfl (fun _ _ e=>e) H.lo (H.ty.below hbl) hbl ⟨_,eG (H.size hs),some bt,?_,.inr ⟨bt,rfl,H.base.ht⟩⟩⟩;rw[<-Ed (k:=⟨word,cls,[(4,true,false),(5,false,false),(6,false,false)],more,false⟩) g2 g3]
theorem KI.of_nil{sc sr:Nat}{word:List UInt8}{cls:Int}{more:List Int}{ts:Array TypeId}(H:KI w0 b1 b3 bt VP VL h l a w)(hi:dK[i]?=some (s,.kind ⟨word,cls,[],more,false⟩))(hu:l.getD i true=false)(hs:s<105)
  (hop:o.op=.call { callee:=.value (.tmp sc),args:=#[.const (.string ⟨word.toArray⟩),.const (.int .i64 cls),.const (.map none),.tmp sr],argTypes:=ts }) (hd:o.dst=some s) (hc:mF b1 b3 bt l h a sc .fOf) (hr:mF b1 b3 bt l h a sr (.row more))
  (hml:more.length<=100) (hmo:∀x∈more,0<=x/\x<13):o.wp prog a w (KN w0 b1 b3 bt VP VL (l.setIfInBounds i true)) Q:=by
 obtain⟨br,r1,r2⟩:=hr;have hrow:dT w (some ⟨br,0,none⟩) (more.map (Value.int .i64)):=(H.ty br _ r2).2;refine nY hop (ev hc) (aXb func87) ?_;have e:(#[Operand.const (.string ⟨word.toArray⟩),.const (.int .i64 cls),.const (.map none),.tmp sr].map a.eval++#[])=#[.string ⟨word.toArray⟩,.int .i64 cls,.map none,.slice (some ⟨br,0,none⟩) more.length more.length]:=by
  simp only[List.map_toArray,List.map_cons,List.map_nil,Array.append_empty,ev r1];rfl
 rw[e];refine(of_none word cls more _ _ w hml hmo hrow).mono ?_;rintro e w' ⟨rfl,hbl⟩;refine⟨_,rfl,?_⟩;rw[hd];refine⟨h,H.quiet hi hu rfl (fun _ _ e=>e) H.lo (H.ty.below hbl) hbl ⟨_,eG (H.size hs),none,?_,.inl ⟨rfl,rfl⟩⟩⟩;rw[<-Ed (R:=lV h) (kvs:=[]) (k:=⟨word,cls,[],more,false⟩) (fun p hp=>by cases hp) (fun q hq=>by cases hq)]
theorem KI.code{sc sk:Nat}{word:List UInt8}{cls:Int}{nums:List (Int×Bool×Bool)}{more:List Int}{ts:Array TypeId}(H:KI w0 b1 b3 bt VP VL h l a w)(hi:dK[i]?=some (s,.kind ⟨word,cls,nums,more,true⟩))(hu:l.getD i true=false)(hs:s<105)
  (hop:o.op=.call { callee:=.value (.tmp sc),args:=#[.tmp sk],argTypes:=ts }) (hd:o.dst=some s) (hc:mF b1 b3 bt l h a sc .fWc) (hk:mF b1 b3 bt l h a sk (.kind ⟨word,cls,nums,more,false⟩)):o.wp prog a w (KN w0 b1 b3 bt VP VL (l.setIfInBounds i true)) Q:=by
 obtain⟨v,v1,mv,rfl,hn⟩:=hk;refine nY hop (ev hc) (aXb func89) ?_;have e:(#[Operand.tmp sk].map a.eval++#[])=#[.agg (aK word cls (bH.has ⟨word,cls,nums,more,false⟩) (.map mv) false)]:=by
  simp only[List.map_toArray,List.map_cons,List.map_nil,Array.append_empty,ev v1]
 rw[e];refine(Dg word cls _ mv (by simp[bH.has]) w).mono ?_;rintro e w' ⟨rfl,hbl⟩;refine⟨_,rfl,?_⟩;rw[hd];exact⟨h,H.quiet hi hu rfl (fun _ _ e=>e) H.lo (H.ty.below hbl) hbl ⟨_,eG (H.size hs),mv,rfl,hn⟩⟩
end
end
end Go.Proofs.YthjekgfoidmagaaGreatDoor
