/- WashF WIter -/
import Derived.Test.YtiloklnjjfaagaaGreatDoorVI
import Derived.Test.YtiloklnjjfaagaaGreatDoorVF
set_option maxHeartbeats 16000000
set_option maxRecDepth 100000
namespace Go.Proofs.YtiloklnjjfaagaaGreatDoor
open Go.Proofs.Tryz
section
open Go Go.RowKit Num
structure dIz(s:bWs):Prop where
 ok:dAw s
 lm:∀y,y∈s.lots->y.mid
 gm:∀x,x∈s.gains->x.mid
 gl:s.gains.length<=1000000
 st:s.steps.length<=100000
 sum:(aJ s.sum).length<=40
structure dD8(s:bWs):Prop where
 ok:dAw s
 li:∀y,y∈s.lots->y.id.length<=40/\y.ins.length<=40/\val y.q<10000000000000
 gi:∀x,x∈s.gains->x.q.length<=13/\x.p.length<=13/\x.c.length<=13/\x.cause.length<=1000/\x.lot.length<=1000/\x.ins.length<=1000
 gl:s.gains.length<=1000
 tot:dCa s+bZx s-dB9 s<=100000000000000000
 los:bZx s<=100000000000000000
 st:s.steps.length+2*s.left<=50000
 sum0:0<=s.sum
 sum1:s.sum<=dB9 s
theorem dD2{l:List UInt8}{K:Nat}(h:Hi l=true)(hK:1<=K)(hv:(val l).natAbs<10^K):l.length<=K+1:=by
 have e:aJ (val l)=l:=by unfold Hi at h;simpa using h
 rw[<-e];exact gC hK hv
theorem dF9{s:bWs}(H:dAw s):0<=dB9 s/\dB9 s<=bZx s :=
 ⟨bZ2 fun x hx=>(bY2.1 (H.gains x hx)).2.2.2.2.2.1,dBx fun x hx=>(bY2.1 (H.gains x hx)).2.2.2.2.2.2.1⟩
theorem dD8.stOk{s:bWs}(F:dD8 s):dIz s:=by
 obtain⟨d0,d1⟩:=dF9 F.ok;refine⟨F.ok,fun y hy=>?_,fun x hx=>?_,by have:=F.gl;omega,by have:=F.st;omega,?_⟩
 ·obtain⟨a,b,c⟩:=F.li y hy;obtain⟨_,_,_,⟨i1,i2,i3⟩,hq,hc,hu⟩:=bYi.1 (F.ok.lots.ok y hy);have hm:val y.c<=dCa s:=dBj (f:=fun y:Bd=>val y.c) (fun z hz=>(bYi.1 (F.ok.lots.ok z hz)).2.2.2.2.2.1) hy;have ht:=F.tot;have hql:y.q.length<=30:=Nat.le_trans (dD2 (K:=13) i1 (by decide) (by omega)) (by decide);refine⟨by omega,by omega,hql,Nat.le_trans (dD2 (K:=18) i2 (by decide) (by omega)) (by decide),?_⟩;rcases hu with e|e <;> rw[e]
  ·simp
  ·exact hql
 ·obtain⟨a,b,c,_⟩:=F.gi x hx;obtain⟨_,_,_,⟨_,_,_,i4,i5⟩,⟨p0,p1,p2,p3⟩,hd,hr,_⟩:=bY2.1 (F.ok.gains x hx);have hv:=lO c;have hp:=lO b;have hq:=lO a;have hl:x.loss=if val x.c-val x.p<0 then 0 else val x.c-val x.p:=rfl
  have hl2:x.loss<=(val x.c).natAbs+(val x.p).natAbs:=by rw[hl];split <;> omega
  refine⟨by omega,by omega,by omega,?_,?_⟩
  ·exact Nat.le_trans (dD2 (K:=14) i4 (by decide) (by omega)) (by decide)
  ·exact Nat.le_trans (dD2 (K:=14) i5 (by decide) (by omega)) (by decide)
 ·have h1:=F.sum0;have h2:=F.sum1;have h3:=F.los;exact Nat.le_trans (gC (K:=18) (by decide) (by omega)) (by decide)
theorem dGs{cause:List UInt8}{ls:List Bd}(hc:dC cause=true)(h:bZw ls cause<=9999):(bZf cause (bZw ls cause)).length<=40:=by
 have h2:=(dA9 (dA8 ls cause) h).1;unfold oL at h2;simp only[Bool.and_eq_true,decide_eq_true_eq] at h2;unfold dC at hc;simp only[Bool.and_eq_true,decide_eq_true_eq] at hc;unfold bZf;rw[List.length_append,List.length_cons];omega
theorem dEi(cause:List UInt8)(z:Bd)(a:Int):(bX3 cause z a).length<=1:=by
 unfold bX3;split <;> simp
theorem dD8.step{s s':bWs}{i k:Nat}{x:aLe}{y:Bd}{cause:List UInt8}(F:dD8 s)(hc:dC cause=true)(hx:s.gains[i]?=some x)(hy:s.lots[k]?=some y)(ho:0<x.openV)(hr:0<y.roomV)(h:bXx s i k x y cause=some s'):dD8 s':=by
 have gx:=F.ok.gains x (List.mem_of_getElem? hx);have gy:=F.ok.lots.ok y (List.mem_of_getElem? hy);obtain⟨t1,t2,t3⟩:=dAc hx hy h;obtain⟨g1,g2⟩:=bY9 F.ok.gains gx ho hr h;have hl:=bZ3 hx hy gx gy ho hr h;have hok:dAw s':=⟨bY7 F.ok.lots hc hy gx ho hr h,g2⟩
 obtain⟨b1,b2,b3,b4,b5⟩:=bZa gx ho hr;obtain⟨l1,l2,l3⟩:=F.li y (List.mem_of_getElem? hy);have F1:=F.tot;have F2:=F.los;have F3:=F.st;have F4:=F.sum0;have F5:=F.sum1;have key:(∀u,u∈s'.lots->u.id.length<=40/\u.ins.length<=40/\val u.q<10000000000000)/\s'.steps.length<=s.steps.length+2/\s'.sum=s.sum+bXe x y:=by
  unfold bXx at h;split at h
  ·obtain rfl:=Option.some.inj h;refine⟨fun u hu=>?_,?_,rfl⟩
   ·rcases bZt hu with rfl|hu
    ·exact⟨l1,l2,l3⟩
    ·exact F.li u hu
   ·show (s.steps++_).length<=_;rw[List.length_append];have:=dEi cause (y.fill x (bXe x y)) (bXe x y);omega
  ·rename_i hcut;split at h
   ·cases h
   rename_i hn;split at h
   ·cases h
   obtain rfl:=Option.some.inj h;refine⟨fun u hu=>?_,?_,rfl⟩
   ·rcases dAq (x:=x) gy hr with⟨_,e⟩|⟨_,e2,_⟩
    ·exact absurd e hcut
    rcases bZj.1 hu with rfl|hu
    ·refine⟨dGs hc (by omega),l2,?_⟩;show val (aJ (bWp x y))<_;rw[bE];omega
    ·rcases bZt hu with rfl|hu
     ·refine⟨l1,l2,?_⟩;show val (aJ (val y.q-bWp x y))<_;rw[bE];omega
     ·exact F.li u hu
   ·show (s.steps ++ [_]++_).length<=_;rw[List.length_append,List.length_append];have:=dEi cause ((bYn s.lots cause y (bWp x y)).fill x (bXe x y)) (bXe x y);show s.steps.length+1+_<=_;omega
 refine⟨hok,key.1,fun u hu=>?_,by rw[g1,List.length_set];exact F.gl,by omega,by omega,by omega,by omega,by omega⟩;rw[g1] at hu;rcases bZt hu with rfl|hu
 ·exact F.gi x (List.mem_of_getElem? hx)
 ·exact F.gi u hu
theorem dFk{α:Type}{f:α->Int}{B:Int}:∀ {l:List α},(∀x,x∈l->f x<=B)->bXk f l<=l.length*B
 | [],_=>by simp[bXk]
 |x::l,h=>by
  rw[bXl,List.length_cons];have h1:=h x List.mem_cons_self;have h2:=dFk fun y hy=>h y (List.mem_cons_of_mem _ hy)
  rw[show ((l.length+1:Nat):Int)*B=l.length*B+B by rw[Int.natCast_add,Int.add_mul];omega];omega
theorem dD8.start{ls:List Bd}{gs:List aLe}(H:dAw ⟨ls,gs,[],0⟩)(hl:∀y,y∈ls->y.id.length<=40/\y.ins.length<=40/\y.q.length<=13/\y.c.length<=13)(hg:∀x,x∈gs->x.small)(hn:gs.length<=1000):dD8 ⟨ls,gs,[],0⟩:=by
 obtain⟨d0,d1⟩:=dF9 H;have c1:dCa ⟨ls,gs,[],0⟩<=ls.length*10000000000000:=dFk fun y hy=>by have:=lO (hl y hy).2.2.2;omega
 have c2:bZx ⟨ls,gs,[],0⟩<=gs.length*20000000000000:=dFk fun x hx=>by
  have h1:=lO (hg x hx).2.2.2.2.2.1;have h2:=lO (hg x hx).2.2.2.2.1;have hl:x.loss=if val x.c-val x.p<0 then 0 else val x.c-val x.p:=rfl
  rw[hl];split <;> omega
 have hll:=H.lots.len;have e1:bWs.left ⟨ls,gs,[],0⟩<=gs.length+ls.length:=by
  unfold bWs.left;have h1:=List.countP_le_length (p:=fun x:aLe=>decide (0<x.openV)) (l:=gs);have h2:=List.countP_le_length (p:=fun y:Bd=>decide (0<y.roomV)) (l:=ls);show List.countP _ gs+List.countP _ ls<=_;omega
 have hll:ls.length<=1000:=hll;refine⟨H,fun y hy=>?_,fun x hx=>?_,hn,by omega,by omega,by show 0+_<=_;omega,Int.le_refl _,d0⟩
 ·obtain⟨a,b,c,_⟩:=hl y hy;have:=lO c;exact⟨a,b,by omega⟩
 ·obtain⟨a,b,c,d,e,f,_⟩:=hg x hx;exact⟨d,e,f,a,b,c⟩
theorem dD8.again{s:bWs}(F:dD8 s):dD8 ⟨s.lots,s.gains,[],0⟩ :=
 ⟨⟨F.ok.lots,F.ok.gains⟩,F.li,F.gi,F.gl,F.tot,F.los,by have:=F.st;show 0+2*s.left<=_;omega,Int.le_refl _,(dF9 F.ok).1⟩
theorem bZl.fits{ins:List UInt8}{d wash:Int}{cause:List UInt8}(hc:dC cause=true){s t:bWs}(r:bZl ins d wash cause s t):dD8 s->dD8 t:=by
 induction r with
 |refl s=>exact id
 |step i k x y hx hd hy hr h _ ih=>exact fun F=>ih (F.step hc hx hy (bY6 hd).2.2.1 (bYt.1 hr).2.1 h)
end
section
open Go Go.RowKit Go.Shelf Num
structure dG7(W:World)(bs bn bd bw sb B0:Nat)(ins:List UInt8)(d wash:Int)(s:bWs):Prop where
 env:iE W
 ks:aP W bs #[.pointer (some ⟨sb,0,none⟩)] 76
 kn:aP W bn #[.string ⟨ins.toArray⟩] 9
 kd:aP W bd #[.int .i64 d] 24
 kw:aP W bw #[.int .i64 wash] 3
 st:StW W B0 sb s
theorem dG7.below{W W':World}{bs bn bd bw sb B0:Nat}{ins:List UInt8}{d wash:Int}{s:bWs}(h:dG7 W bs bn bd bw sb B0 ins d wash s)(hb:Below W.heap.size W W'):dG7 W' bs bn bd bw sb B0 ins d wash s :=
 ⟨h.env.below hb,h.ks.below hb,h.kn.below hb,h.kd.below hb,h.kw.below hb,h.st.below hb⟩
theorem dIa{bs bn bd bw sb B0:Nat}{ins:List UInt8}{d wash:Int}{s:bWs}(S:dIz s)(hw:-1000<=wash/\wash<=1000)(i bi:Nat)(x:aLe)(hx:s.gains[i]?=some x)(y:Bd)(hy:y∈s.lots)(W:World)(hW:dG7 W bs bn bd bw sb B0 ins d wash s)(hi:aP W bi #[.int .i64 i] 3):
  Calls prog 85 #[y.v,.pointer (some ⟨bs,0,none⟩),.pointer (some ⟨bi,0,none⟩),.pointer (some ⟨bd,0,none⟩),.pointer (some ⟨bw,0,none⟩)] W fun e w'=>e=.returned (.bool (dAz y x d wash))/\Below W.heap.size W w':=by
 have HB0:=Hd (aB W (.cells y.cs 49));have KY:=Hd (aP.new0 W y.cs 49);obtain⟨lv,gv,tv,hst⟩:=hW.st;obtain⟨g,gcap,rfl,hgb,hgcur,hgcap,hgc,hgt,hgset⟩:=dDo dC3 hst.gains hx;have hgl:g<W.heap.size:=by obtain⟨c,h⟩:=hgcur;exact(Ai.1 h).1
 have hil:=(Li.1 hx).1;have gl:=S.gl;have gx:=S.ok.gains x (List.mem_of_getElem? hx);have hcls:-100000<=x.cls/\x.cls<=100000:=by have:=bZy.1 (bY2.1 gx).2.1.2;omega
 have hym:=S.lm y hy;have HR:=Hd (fun V (hV:Below W.heap.size W V)=>dE5 y x d wash V (hW.env.below hV) (by have:=hym.2.2.1;omega) (by have:=hym.2.2.2.2;omega) hcls hw);have HW:=Hd hW;have HI:=Hd hi;have HST:=Hd hst.box;have HGC:Hid (∀j u,x.cs[j]?=some u->W.cell? ⟨g,i*10+j,none⟩=some u):=hgc;have HL:=Hd (And.intro hgl (And.intro hil gl));generalize dAz y x d wash=r at *;clear hgb hgcur hgcap hgc hgt hgset hgl hil gl gx hcls hym hst hW hi hx hy S hw;simp only[Bd.v,Bd.cs,aLe.v] at HB0 KY HR ⊢;go_enter func85,ntmps85;go_upto_region 1 with fail
 refine dHv (C:=⟨(W.alloc (.cells y.cs 49)).drewN 1,bs,bi,bd,bw,sb,lv,tv,.string ⟨(aJ s.sum).toArray⟩,g,s.gains.length,gcap,i,x,d,wash,W.heap.size,y,r⟩) ?M rfl rfl rfl ?_
 case M =>
  have hB:=aD HB0.out 1;exact⟨rfl,rfl,rfl,rfl,rfl,rfl,HW.out.ks.below hB,HI.out.below hB,HW.out.kd.below hB,HW.out.kw.below hB,HST.out.below hB,Nat.lt_of_lt_of_le HL.out.1 hB.size,fun j u hu=>(hB.cell (p:=⟨g,i*10+j,none⟩) HL.out.1).trans (HGC.out j u hu),HL.out.2.1,HL.out.2.2,KY.out,fun V hV=>HR.out V (aA hB hV)⟩
 intro V hV;have HV:=Hd (aA (aD HB0.out 1) hV);clear hV HR HB0 KY HW HI HST HGC HL;simp only[iZ,dIb,List.foldl,List.setIfInBounds_toArray,List.set_cons_zero,List.set_cons_succ,dH4.val];go_wp2;go_ret;exact⟨rfl,HV.out⟩
theorem dFv{p:Nat->Prop}:∀(b n:Nat),n<=b->p n->∃m,p m/\∀k,p k->m<=k
 |0,n,hn,h=>⟨n,h,fun k _=>by omega⟩
 |b+1,n,hn,h=>by
  by_cases hk:∃k,p k/\k<n
  ·obtain⟨k,hk,hl⟩:=hk;exact dFv b k (by omega) hk
  ·exact⟨n,h,fun k h2=>Nat.le_of_not_lt fun hl=>hk ⟨k,h2,hl⟩⟩
open Classical in
noncomputable def dFe(R:bWs->Prop):Nat:=if h:∃m:Nat,(∃s,R s/\s.left=m)/\∀s,R s->m<=s.left then Classical.choose h else 0
theorem dEv{R:bWs->Prop}(h:∃s,R s):(∃s,R s/\s.left=dFe R)/\∀s,R s->dFe R<=s.left:=by
 obtain⟨s,hs⟩:=h;obtain⟨m,h1,h2⟩:=dFv (p:=fun n=>∃s,R s/\s.left=n) s.left s.left (Nl _) ⟨s,hs,rfl⟩;have h:∃m:Nat,(∃s,R s/\s.left=m)/\∀s,R s->m<=s.left:=⟨m,h1,fun s hs=>h2 _ ⟨s,hs,rfl⟩⟩
 unfold dFe;rw[dif_pos h];exact Classical.choose_spec h
theorem dE6{ins:List UInt8}{d wash:Int}{s:bWs}{i:Nat}{x:aLe}(hx:s.gains[i]?=some x):
  (dAv x ins d wash=false->bY0 ins d wash s i=none)/\(dAv x ins d wash=true->(dEm (fun y=>dAz y x d wash) s.lots = -1/\bY0 ins d wash s i=none)∨∃(k:Nat) (y:Bd),dEm (fun y=>dAz y x d wash) s.lots=k/\bY0 ins d wash s i=some (k,x,y)):=by
 unfold bY0;rw[hx,Option.bind_some];refine⟨fun h=>by rw[if_neg (by rw[h];decide)],fun h=>?_⟩;rw[if_pos h];unfold dEm;cases hf:s.lots.findIdx? (fun y=>dAz y x d wash) with
 |none=>exact .inl ⟨rfl,rfl⟩
 |some k =>
  obtain⟨hk,_⟩:=List.findIdx?_eq_some_iff_getElem.1 hf;refine .inr ⟨k,s.lots[k],rfl,?_⟩;rw[Option.bind_some,Lg hk];rfl
attribute [local go_sem] Oper.semAt_some
theorem dGe(n l:Nat){bs bn bd bw sb B0:Nat}{ins cause:List UInt8}{d wash:Int}(hw:-1000<=wash/\wash<=1000)(N:Nat)(J:bWs->Nat->World->Prop)(Jx:World->Prop)
  (hJ:∀s i W,J s i W->dG7 W bs bn bd bw sb B0 ins d wash s/\dIz s/\s.gains.length=N)
  (hJB:∀s i A B,J s i A->Below A.heap.size A B->J s i B)
  (hskip:∀s i W,J s i W->i<N->bY0 ins d wash s i=none->J s (i+1) W)
  (hY:∀s i bi k x y W,J s i W->aP W bi #[.int .i64 (i:Int)] 3->bY0 ins d wash s i=some (k,x,y)->YieldAt Fence.wide (n-1) prog l #[.int .i64 (i:Int),.int .i64 (k:Int)] W fun e W'=>(e=.returned (.bool true)/\aP W' bi #[.int .i64 (i:Int)] 3/\∃s',bXx s i k x y cause=some s'/\J s' i W')∨(e=.returned (.bool false)/\Jx W'))
  (s0:bWs) (W:World) (h0:J s0 0 W) :
  CallsIn Fence.wide n prog 84 #[.func (.yield l) #[] #[],.pointer (some ⟨bs,0,none⟩),.pointer (some ⟨bn,0,none⟩),.pointer (some ⟨bd,0,none⟩),.pointer (some ⟨bw,0,none⟩)] W fun e W'=>(∃v,e=.returned v)/\((∃s,J s N W')∨Jx W'):=by
 have HJ0:=Hd hJ;have HJB:=Hd hJB;have HSK:=Hd hskip;have HY:=Hd hY;have H0:=Hd h0;have HWS:=Hd hw;obtain⟨hC,hS,hN⟩:=hJ _ _ _ h0;have hN1:=hS.gl;obtain⟨lv,gv,tv,hst⟩:=hC.st;obtain⟨ga,gc,rfl,_,_⟩:=dDu hst.gains;rw[hN] at hst hN1;have k1:=hC.ks.cell 0;have k2:=hst.box.cell 1;clear hJ hJB hskip hY h0 hC hS hN hst hw;refine callsIn_of_wp func84 rfl trivial ?_ rfl;simp only[ntmps84,List.size_toArray,List.length_cons,List.length_nil,Nat.reduceAdd,Nat.reduceSub,Array.replicate_succ,Array.replicate_zero,List.push_toArray,List.append_toArray,List.nil_append,List.cons_append];gi_wp2;gi_loopw [13] (fun iv wr=>∃(i:Nat) (s:bWs),i<=N/\iv=.int .i64 (i:Int)/\Hid (J s i wr)) (fun iv _=>N-(intOf iv).toNat)
 case atStart=>exact⟨0,s0,Nat.zero_le _,rfl,H0⟩
 case round =>
  obtain⟨i,s1,hi,rfl,HJ⟩:=hrel;clear k1 k2 H0
  by_cases hlt:i<N
  ·have HB:Hid (Below wr.heap.size wr (wr.alloc (.cells #[.int .i64 (i:Int)] 3))):=aB _ _;have KB:Hid (aP (wr.alloc (.cells #[.int .i64 (i:Int)] 3)) wr.heap.size #[.int .i64 (i:Int)] 3):=aP.new0 _ _ _;obtain⟨bi,hbi⟩:∃bi,bi=wr.heap.size:=⟨_,rfl⟩
   obtain⟨wo,hwo⟩:∃wo,wo=wr:=⟨_,rfl⟩
   rw[<-hwo] at HJ HB KB hbi ⊢;clear hwo;gi_wp2;rw[<-hbi] at KB ⊢;generalize World.alloc wo _=wa at *;have HJA:=Hd (HJB.out _ _ _ _ HJ.out HB.out);clear HJ HB hbi;gi_loopw [7] (fun _ wr=>∃s:bWs,Hid (J s i wr)/\Hid (aP wr bi #[.int .i64 (i:Int)] 3)) (fun _ wr=>dFe (fun s=>J s i wr))
   case atStart=>exact⟨s1,HJA,KB⟩
   case round =>
    obtain⟨s2,HJ2,KB2⟩:=hrel;obtain⟨⟨s,hJs,hleft⟩,_⟩:=dEv (R:=fun s=>J s i wr) ⟨s2,HJ2.out⟩;have HJS:=Hd hJs;have HLF:=Hd hleft;clear hleft HJ2 HJA KB;obtain⟨hC,hS,hN⟩:=HJ0.out _ _ _ hJs;obtain⟨x,hx⟩:∃x,s.gains[i]?=some x:=⟨s.gains[i],Lg (by omega)⟩
    have gx:=hS.ok.gains x (List.mem_of_getElem? hx);have hxm:=hS.gm x (List.mem_of_getElem? hx);have hcls:-100000<=x.cls/\x.cls<=100000:=by have:=bZy.1 (bY2.1 gx).2.1.2;omega
    obtain⟨lv,gv,tv,hst⟩:=hC.st;obtain⟨g,gcap,rfl,hgb,hgcur,hgcap,hgc,hgt,hgset⟩:=dDo dC3 hst.gains hx;have hgl:g<wr.heap.size:=by obtain⟨c,h⟩:=hgcur;exact(Ai.1 h).1
    have HD:=Hd (fun V (hV:Below wr.heap.size wr V)=>dGh x ins d wash V (hC.env.below hV) (by have:=hxm.1;omega) (by have:=hxm.2.1;omega) (by have:=hxm.2.2.1;omega) (by have:=hxm.2.2.2.2;omega) hcls HWS.out);obtain⟨hn0,hn1⟩:=dE6 (ins:=ins) (d:=d) (wash:=wash) hx;have HN0:=Hd hn0;have HN1:=Hd hn1;have HC:=Hd hC;have HS:=Hd hS;have HX:=Hd hx;have HST:=Hd hst.box;have HGC:Hid (∀j u,x.cs[j]?=some u->wr.cell? ⟨g,i*10+j,none⟩=some u):=hgc;have HL:=Hd (And.intro hgl (show i<s.gains.length/\s.gains.length<=1000000 from⟨by omega,hS.gl⟩));have HLEN:=Hd hN;clear hJs hn0 hn1 hC hS hx hst hgb hgcur hgcap hgc hgt hgset hgl gx hxm hcls hN;generalize hdb:dAv x ins d wash=db at *;have HDB:=Hd hdb;clear hdb;gi_wp2_with fail;refine dHu (ro:=none) (C:=⟨wr.drewN 1,bs,bi,bd,bw,sb,lv,tv,.string ⟨(aJ s.sum).toArray⟩,g,s.gains.length,gcap,i,x,d,wash,bn,ins,db⟩) ?M rfl rfl rfl ?_
    case M =>
     have hB:=aD (Br wr.heap.size wr) 1;exact⟨rfl,rfl,rfl,rfl,rfl,rfl,HC.out.ks.below hB,KB2.out.below hB,HC.out.kd.below hB,HC.out.kw.below hB,HST.out.below hB,HL.out.1,fun j u hu=>HGC.out j u hu,HL.out.2.1,HL.out.2.2,HC.out.kn.below hB,fun V hV=>HD.out V (aA hB hV)⟩
    intro V hV;have hV:=aA (aD (Br wr.heap.size wr) 1) hV;have HJV:=Hd (HJB.out _ _ _ _ HJS.out hV);have KBV:=Hd (KB2.out.below hV);clear hV HJS KB2 HD HC HST HGC HL;simp only[iZ,dH9,List.foldl,List.setIfInBounds_toArray,List.set_cons_zero,List.set_cons_succ,dH3.val];cases db with
    |false =>
     have HJN:=Hd (HSK.out _ _ _ HJV.out hlt (HN0.out rfl));clear HN0 HN1 HDB HJV KBV HLF HX HS;gi_wp2;go_roundw
     case rel=>exact⟨i+1,s,by omega,by go_num,HJN⟩
     case measure=>simp[intOf];omega
    |true =>
     obtain⟨hC,hS,hN⟩:=HJ0.out _ _ _ HJV.out;obtain⟨lv2,gv2,tv2,hst⟩:=hC.st;obtain⟨la,lc,rfl,_,hL⟩:=dDb hst.lots;have HIX:=Hd (dEx 85 (.pointer (some ⟨bs,0,none⟩)) (.pointer (some ⟨bi,0,none⟩)) (.pointer (some ⟨bd,0,none⟩)) (.pointer (some ⟨bw,0,none⟩)) (fun y=>dAz y x d wash)
      (fun W'=>dG7 W' bs bn bd bw sb B0 ins d wash s/\aP W' bi #[.int .i64 (i:Int)] 3) (fun A B h hb=>⟨h.1.below hb,h.2.below hb⟩) (fun args w=>MuLone.run_callFunc_enter func85 (by kernel_rfl) rfl args w) s.lots
      (fun y W' hy h=>dIa hS HWS.out i bi x HX.out y hy W' h.1 h.2) la lc V hL ⟨hC,KBV.out⟩ (by have:=hS.ok.lots.len;omega))
     have k1:=hC.ks.cell 0;have k2:=hst.box.cell 0;have hcase:=HN1.out rfl;generalize dEm (fun y=>dAz y x d wash) s.lots=ix at *;have HCASE:=Hd hcase;have hll:=hS.ok.lots.len;clear hC hS hN hst hL hcase HN0 HN1 HDB;gi_wp2_with fail;refine⟨trivial,fun h=>absurd h (by decide),(callsIn_wide.2 HIX.out).mono ?_⟩;rintro e w3 ⟨rfl,hb3⟩;have HJ3:=Hd (HJB.out _ _ _ _ HJV.out hb3);have KB3:=Hd (KBV.out.below hb3);clear hb3 HIX HJV KBV k1 k2;rcases HCASE.out with⟨rfl,hnone⟩|⟨k,y,rfl,hsome⟩
     ·have HJN:=Hd (HSK.out _ _ _ HJ3.out hlt hnone);clear hnone HCASE HLF HX HS;gi_wp2;go_roundw
      case rel=>exact⟨i+1,s,by omega,by go_num,HJN⟩
      case measure=>simp[intOf];omega
     ·obtain⟨fn,tmps,assign,body,hy,hRd⟩:=HY.out s i bi k x y w3 HJ3.out KB3.out hsome;have i1:=KB3.out.cell 0;have HSOME:=Hd hsome;clear hsome HCASE;gi_wp2_with fail;refine⟨fun h=>absurd h (by decide),hRd.mono ?_⟩;rintro e W4 (⟨rfl,kb4,s',hrep,hj4⟩|⟨rfl,hj4⟩)
      ·have HLE:Hid (dFe (fun s=>J s i W4)<dFe (fun s=>J s i wr)):=by
        obtain⟨_,hd,hy2,hr⟩:=bYm HSOME.out;have h1:=bZ3 HX.out hy2 (HS.out.ok.gains x (List.mem_of_getElem? HX.out)) (HS.out.ok.lots.ok y (List.mem_of_getElem? hy2)) (bY6 hd).2.2.1 (bYt.1 hr).2.1 hrep;have h2:=(dEv (R:=fun s=>J s i W4) ⟨s',hj4⟩).2 s' hj4;have h3:=HLF.out;show _<_;omega
       have HJ4:=Hd hj4;have KB4:=Hd kb4;clear hrep hj4 kb4 i1 hy hRd HJ3 KB3 HSOME HX HS HLF;gi_wp2;go_roundw
       case rel=>exact⟨s',HJ4,KB4⟩
       case measure=>exact HLE.out
      ·have HJ4:=Hd hj4;clear hj4 i1 hy hRd HJ3 KB3 HSOME HX HS HLF;gi_wp2;refine bodyPost_ret (results_none rfl _ _ _) rfl ?_;exact⟨⟨_,rfl⟩,.inr HJ4.out⟩
  ·obtain rfl:i=N:=by omega
   gi_wp2;go_end0;exact⟨⟨_,rfl⟩,.inl ⟨s1,HJ.out⟩⟩
end
end Go.Proofs.YtiloklnjjfaagaaGreatDoor
