/- WRepl -/
import Derived.Test.YtiloklnjjfaagaaGreatDoorVG
import Derived.Test.YtiloklnjjfaagaaGreatDoorVH
import Derived.Test.YtiloklnjjfaagaaGreatDoorVE
set_option maxHeartbeats 16000000
set_option maxRecDepth 100000
namespace Go.Proofs.YtiloklnjjfaagaaGreatDoor
open Go.Proofs.Tryz
open Go Go.RowKit Num
attribute [local go_sem] eW eN aV
def Bd.mid(y:Bd):Prop:=y.id.length<=900/\y.ins.length<=900/\y.q.length<=30/\y.c.length<=30/\y.u.length<=30
def aLe.mid(x:aLe):Prop:=x.q.length<=20/\x.p.length<=20/\x.c.length<=20/\x.df.length<=24/\x.rp.length<=24
theorem aP.gain{W:World}{b o:Nat}{x:aLe}(h:∀j u,x.cs[j]?=some u->W.cell? ⟨b,o+j,none⟩=some u):W.cell? ⟨b,o,none⟩=some (Pm x.cause)/\W.cell? ⟨b,o+1,none⟩=some (Pm x.lot)/\W.cell? ⟨b,o+2,none⟩=some (Pm x.ins)/\W.cell? ⟨b,o+3,none⟩=some (.int .i64 x.acq)/\W.cell? ⟨b,o+4,none⟩=some (.int .i64 x.cls) /\
  W.cell? ⟨b,o+5,none⟩=some (Pm x.q)/\W.cell? ⟨b,o+6,none⟩=some (Pm x.p)/\W.cell? ⟨b,o+7,none⟩=some (Pm x.c)/\W.cell? ⟨b,o+8,none⟩=some (Pm x.df)/\W.cell? ⟨b,o+9,none⟩=some (Pm x.rp) :=
 ⟨h 0 _ rfl,h 1 _ rfl,h 2 _ rfl,h 3 _ rfl,h 4 _ rfl,h 5 _ rfl,h 6 _ rfl,h 7 _ rfl,h 8 _ rfl,h 9 _ rfl⟩
theorem aP.lotAt{W:World}{b o:Nat}{x:Bd}(h:∀j u,x.cs[j]?=some u->W.cell? ⟨b,o+j,none⟩=some u):W.cell? ⟨b,o,none⟩=some (Pm x.id)/\W.cell? ⟨b,o+1,none⟩=some (Pm x.ins)/\W.cell? ⟨b,o+2,none⟩=some (.int .i64 x.acq)/\W.cell? ⟨b,o+3,none⟩=some (.int .i64 x.opn) /\
  W.cell? ⟨b,o+4,none⟩=some (Pm x.q)/\W.cell? ⟨b,o+5,none⟩=some (Pm x.c)/\W.cell? ⟨b,o+6,none⟩=some (Pm x.u) :=
 ⟨h 0 _ rfl,h 1 _ rfl,h 2 _ rfl,h 3 _ rfl,h 4 _ rfl,h 5 _ rfl,h 6 _ rfl⟩
def dGn(base sb:Nat)(rr:Option bWs)(e:Ending)(W':World):Prop:=match rr with
 |none=>e=.returned (.int .i64 4)
 |some s'=>e=.returned (.int .i64 0)/\StW W' base sb s'
theorem dGn.none{base sb:Nat}{rr:Option bWs}{W':World}(h:rr=.none):dGn base sb rr (.returned (.int .i64 4)) W':=by rw[h];rfl
theorem dGn.some{base sb:Nat}{rr:Option bWs}{W':World}{s':bWs}(h:rr=.some s')(g:StW W' base sb s'):dGn base sb rr (.returned (.int .i64 0)) W':=by rw[h];exact⟨rfl,g⟩
theorem dGx(w0:World)(hE:iE w0)(s:bWs)(i k:Nat)(x:aLe)(y:Bd)(cause:List UInt8)(W:World)(sb:Nat)(lv gv tv:Value)(hb:Below w0.heap.size w0 W)(hS:dC1 W w0.heap.size sb lv gv tv s)
  (hx:s.gains[i]?=some x) (hy:s.lots[k]?=some y) (gx:x.err=0) (H:bZp s.lots) (ho:0<x.openV) (hr:0<y.roomV) (hc:dC cause=true) (hcl:cause.length<=800) (hxm:x.mid) (hlm:∀y,y∈s.lots->y.mid) (_:s.gains.length<=1000000) (hst:s.steps.length<=100000) (hsum:(aJ s.sum).length<=40) :
  Calls prog 44 #[.pointer (some ⟨sb,0,none⟩),.int .i64 i,.int .i64 k,.string ⟨cause.toArray⟩] W fun e W'=>dGn w0.heap.size sb (bXx s i k x y cause) e W'/\KpW w0.heap.size W W':=by
 have hym:=hlm y (List.mem_of_getElem? hy);have gy:=H.ok y (List.mem_of_getElem? hy);obtain⟨u1,u2⟩:=dAp gy hr;obtain⟨b1,b2,b3,b4,b5⟩:=bZa gx ho hr;obtain⟨ol,oe⟩:=dA7 ho;have HENV:Hid (∀V,KpW w0.heap.size W V->iE V):=fun V h=>hE.below (hb.trans h.below)
 have hB0:w0.heap.size<=W.heap.size:=hb.size;obtain⟨gb,gcap,rfl,hgb,hgcur,hgcap,hgc,hgt,hgset⟩:=dDo dC3 hS.gains hx;obtain⟨lb,lcap,rfl,hlb,hlcur,hlcap,hlc,hlt,hlset⟩:=dDo dDe hS.lots hy;have hi:=(Li.1 hx).1;have hk:=(Li.1 hy).1;have hi2:(i:Int)<s.gains.length:=by omega
 have hk2:(k:Int)<s.lots.length:=by omega
 have hll:=H.len;have s0:=hS.box.cell 0;have s1:=hS.box.cell 1;obtain⟨k0,k1,k2,k3,k4,k5,k6⟩:=aP.lotAt hlc;have hsbl:=hS.box.1;have hgbl:gb<W.heap.size:=by obtain⟨c,h⟩:=hgcur;exact(Ai.1 h).1
 have hlbl:lb<W.heap.size:=by obtain⟨c,h⟩:=hlcur;exact(Ai.1 h).1
 have HS:=Hd hS;have U1:=Hd u1;have HGC:Hid (∀V,Below W.heap.size W V->∀j u,x.cs[j]?=some u->V.cell? ⟨gb,i*10+j,none⟩=some u):=fun V hV j u hu=>(hV.cell (p:=⟨gb,i*10+j,none⟩) hgbl).trans (hgc j u hu)
 have HENW:Hid (∀V,Below W.heap.size W V->iE V):=fun V hV=>(hE.below hb).below hV
 have hox:=hxm;have HOP:=Hd (fun V (hV:Below W.heap.size W V)=>dFp x V (HENW.out V hV) (by have:=hxm.1;omega) (by have:=hxm.2.1;omega) (by have:=hxm.2.2.1;omega) (by have:=hxm.2.2.2.2;omega));have HRO:=Hd (fun V (hV:Below W.heap.size W V)=>dFo y V (HENW.out V hV) (by have:=hym.2.2.1;omega) (by have:=hym.2.2.2.2;omega));have lro:(aJ y.roomV).length<=40:=Nat.le_trans (Np (K:=30) hym.2.2.1 hym.2.2.2.2) (by decide);have lop:(aJ x.openV).length<=30:=by
  unfold aLe.openV;split
  ·rw[nA];simp
  ·exact Nat.le_trans (Np (K:=24) (by have:=hxm.1;omega) hxm.2.2.2.2) (by decide)
 have hls0:x.loss=if val x.c-val x.p<0 then 0 else val x.c-val x.p:=rfl
 have lls:(aJ x.loss).length<=24:=by
  rw[hls0];split
  ·rw[nA];simp
  ·exact Nat.le_trans (Np (K:=20) hxm.2.2.1 hxm.2.1) (by decide)
 have lsb:(aJ (x.loss-val x.df)).length<=30:=by
  have h:=Np (l:=aJ x.loss) (m:=x.df) (K:=24) lls hxm.2.2.2.1;rw[bE] at h;omega
 have ltk:(aJ (bWp x y)).length<=31:=by
  have h1:(bWp x y).natAbs<=x.openV.natAbs:=by omega
  exact uE (K:=30) (by decide) h1 (bE _).symm lop
 have lco:(aJ (bXe x y)).length<=31:=by
  have h1:(bXe x y).natAbs<=(x.loss-val x.df).natAbs:=by omega
  exact uE (K:=30) (by decide) h1 (bE _).symm lsb
 have HLS:=Hd (fun V (hV:Below W.heap.size W V)=>dFq x V (HENW.out V hV) (by have:=hxm.2.1;omega) (by have:=hxm.2.2.1;omega));have HSB:=Hd (fun V (hV:Below W.heap.size W V)=>aAd (aJ x.loss) x.df V (HENW.out V hV) (by omega) (by have:=hxm.2.2.2.1;omega));rw[bE] at HSB;have hgd:=(bY2.1 gx).2.2.2.2.2;have HSH:=Hd (fun V (hV:Below W.heap.size W V)=>dFs (aJ (x.loss-val x.df)) (aJ (bWp x y)) (aJ x.openV) V (HENW.out V hV) (by omega) (by omega) (by omega) (bX9 _) (bX9 _) (bX9 _) (by rw[bE];omega) (by rw[bE];omega) (by rw[bE];omega) (by rw[bE,bE];omega));rw[bE,bE,bE,show bZe (x.loss-val x.df) (bWp x y) x.openV=bXe x y from rfl] at HSH;have HAR:=Hd (fun V (hV:KpW w0.heap.size W V)=>aAg x.rp (aJ (bWp x y)) V (HENV.out V hV) (by have:=hxm.2.2.2.2;omega) (by omega));rw[bE] at HAR;have HAD:=Hd (fun V (hV:KpW w0.heap.size W V)=>aAg x.df (aJ (bXe x y)) V (HENV.out V hV) (by have:=hxm.2.2.2.1;omega) (by omega));rw[bE] at HAD;have lid:(bZf cause (bZw s.lots cause)).length<=900∨9999<bZw s.lots cause:=by
  rcases Int.lt_or_le 9999 (bZw s.lots cause) with h|h
  ·exact .inr h
  ·have h1:=(Cs _).1 (dA9 (dA8 s.lots cause) h).1;have h2:=(dA9 (dA8 s.lots cause) h).1;unfold oL at h2;simp only[Bool.and_eq_true,decide_eq_true_eq] at h2;refine .inl ?_;unfold bZf;rw[List.length_append,List.length_cons];have:=h2.1.1.2;omega
 have hnx:=dA8 s.lots cause;have hbd:=dFc (cause:=cause) (ls:=s.lots) fun y hy=>(bYi.1 (H.ok y hy)).1.1
 have hnm:bZw s.lots cause=dF5 cause s.lots+1:=rfl;have HCUT:=Hd (fun (h:aJ (bWp x y)≠y.q) V (hV:KpW w0.heap.size W V)=>dGk y (aJ (bWp x y)) V (HENV.out V hV) gy ⟨by have:=hym.1;omega,by have:=hym.2.1;omega,by have:=hym.2.2.1;omega,by have:=hym.2.2.2.1;omega⟩ (by omega) (bX9 _) (by rw[bE];omega) (by rw[bE];rcases dAq (x:=x) gy hr with⟨_,e⟩|⟨_,e,_⟩;exact absurd e h;exact e) u1);rw[bE] at HCUT;have HNX:=Hd (fun V (hV:KpW w0.heap.size W V) a c sb' gv' tv' sv' (hB:aP V sb' #[.slice a s.lots.length c,gv',tv',sv'] 80) (hL:Jj V a s.lots)=>dGp s.lots cause a c sb' gv' tv' sv' V (HENV.out V hV) hB hL (fun y hy=>(bYi.1 (H.ok y hy)).1.1) (by omega) (fun y hy=>by have:=(hlm y hy).1;omega));have HIT:=Hd (fun V (hV:KpW w0.heap.size W V)=>Uj (bZw s.lots cause) (by omega) (by omega) V (HENV.out V hV));have hxv:=(bY2.1 gx).2.1;have hxa:=bZy.1 hxv.1;have hxc:=bZy.1 hxv.2;have hxo:=(bY2.1 gx).2.2.1;have hzf:∀z,(z=y∨(aJ (bWp x y)≠y.q/\bZw s.lots cause<=9999/\z=bYn s.lots cause y (bWp x y)))->z.err=0/\z.id.length<=900/\z.ins.length<=900/\z.q.length<=41/\z.c.length<=41:=by
  rintro z (rfl|⟨g1,g2,rfl⟩)
  ·exact⟨gy,hym.1,hym.2.1,by have:=hym.2.2.1;omega,by have:=hym.2.2.2.1;omega⟩
  ·rcases dAq (x:=x) gy hr with⟨_,e⟩|⟨_,e2,_⟩
   ·exact absurd e g1
   have h1:=(dCf gy b1 e2 (dB7 hc (dA8 s.lots cause) g2)).1;obtain⟨_,_,_,_,y0,c0,_⟩:=bYi.1 gy;obtain⟨p1,p2⟩:=bZ7 (t:=val y.c) (p:=bWp x y) (a:=val y.q) c0 (by omega) (by omega) y0;refine⟨h1,?_,hym.2.1,by show (aJ (bWp x y)).length<=41;omega,?_⟩
   ·rcases lid with h|h
    ·exact h
    ·omega
   ·show (aJ (bZe (val y.c) (bWp x y) (val y.q))).length<=41;have:=uE (K:=30) (z:=bZe (val y.c) (bWp x y) (val y.q)) (by decide) (by omega) rfl hym.2.2.2.1;omega
 have hopn:aJ (bWp x y)≠y.q->bZw s.lots cause<=9999->bZp (s.lots.set k (y.rest (bWp x y)))/\((bYn s.lots cause y (bWp x y)).fill x (bXe x y)).err=0/\(bYn s.lots cause y (bWp x y)).id ∉ (s.lots.set k (y.rest (bWp x y))).map (·.id)/\(∀u,u∈s.lots.set k (y.rest (bWp x y))->u.small)/\((bYn s.lots cause y (bWp x y)).fill x (bXe x y)).small:=by
  intro g1 g2;rcases dAq (x:=x) gy hr with⟨_,e⟩|⟨_,e2,_⟩
  ·exact absurd e g1
  obtain⟨p1,p2⟩:=dCf gy b1 e2 (dB7 hc (dA8 s.lots cause) g2);obtain⟨z1,z2,z3,z4,z5⟩:=hzf _ (.inr ⟨g1,g2,rfl⟩);obtain⟨_,_,_,_,y0,c0,_⟩:=bYi.1 gy;obtain⟨q1,q2⟩:=bZ7 (t:=val y.c) (p:=bWp x y) (a:=val y.q) c0 (by omega) (by omega) y0;refine⟨H.set hy rfl p2,dB3 p1 b3 hxo,?_,fun u hu=>?_,⟨by show (bYn s.lots cause y (bWp x y)).id.length<=1000;omega,by show (bYn s.lots cause y (bWp x y)).ins.length<=1000;omega,by show (bYn s.lots cause y (bWp x y)).q.length<=1000;omega,?_,by show (bYn s.lots cause y (bWp x y)).q.length<=1000;omega⟩⟩
  ·rw[dAk hy (z:=y.rest (bWp x y)) rfl];exact dAi hc g2
  ·rcases bZt hu with rfl|hu
   ·refine⟨by have:=hym.1;show y.id.length<=1000;omega,by have:=hym.2.1;show y.ins.length<=1000;omega,?_,?_,?_⟩
    ·show (aJ (val y.q-bWp x y)).length<=1000;have:=uE (K:=30) (z:=val y.q-bWp x y) (by decide) (by omega) rfl hym.2.2.1;omega
    ·show (aJ (val y.c-bZe (val y.c) (bWp x y) (val y.q))).length<=1000;have:=uE (K:=30) (z:=val y.c-bZe (val y.c) (bWp x y) (val y.q)) (by decide) (by omega) rfl hym.2.2.2.1;omega
    ·show (if y.u=[] then[] else aJ (val y.q-bWp x y)).length<=1000;rw[if_pos u1];simp
   ·obtain⟨m1,m2,m3,m4,m5⟩:=hlm u hu;exact⟨by omega,by omega,by omega,by omega,by omega⟩
  ·show (aJ (val (bYn s.lots cause y (bWp x y)).c+bXe x y)).length<=1000;have h:=aPa (l:=(bYn s.lots cause y (bWp x y)).c) (m:=aJ (bXe x y)) (K:=41) z5 (by omega);rw[bE] at h;omega
 have HZF:=Hd hzf;have HOPN:=Hd hopn;have HXB:=Hd (And.intro hxa hxc);have HADS:=Hd (fun V (hV:KpW w0.heap.size W V)=>aAg (aJ s.sum) (aJ (bXe x y)) V (HENV.out V hV) (by omega) (by omega));rw[bE,bE] at HADS;have HCOL:=Hd lco;have hcez:(aJ (bXe x y)).isEmpty=decide (bXe x y=0):=by rw[<-aQz];cases aJ (bXe x y) <;> rfl
 have HCEZ:=Hd hcez;clear hcez hxv hxa hxc hxo hzf hopn;have HLID:=Hd lid;have HNP:=Hd hnx;obtain⟨rr,hrr⟩:∃rr,rr=bXx s i k x y cause:=⟨_,rfl⟩
 rw[<-hrr];have HRR:Hid (rr=if aJ (bWp x y)=y.q then
  some ⟨s.lots.set k (y.fill x (bXe x y)),s.gains.set i (x.repl (bWp x y) (bXe x y)),s.steps++bX3 cause (y.fill x (bXe x y)) (bXe x y),s.sum+bXe x y⟩
 else if 9999<bZw s.lots cause then none
 else if 1000<=s.lots.length then none
 else
  some ⟨bZb (s.lots.set k (y.rest (bWp x y))) ((bYn s.lots cause y (bWp x y)).fill x (bXe x y)),s.gains.set i (x.repl (bWp x y) (bXe x y)),
   s.steps ++ [⟨cause,y.id,bZf cause (bZw s.lots cause),aJ (bWp x y),aJ (bWp x y),(bYn s.lots cause y (bWp x y)).c⟩]++bX3 cause ((bYn s.lots cause y (bWp x y)).fill x (bXe x y)) (bXe x y),s.sum+bXe x y⟩):=hrr
 clear hrr lid hnx hbd hnm;have HGCUR:=Hd hgcur;have HLCUR:=Hd hlcur;have HX:=Hd hx;have HY:=Hd hy;have HB0:=Hd hB0;have HLLT:=Hd (show lb<W.heap.size/\gb<W.heap.size from⟨hlbl,hgbl⟩);have HCM:=Hd (fun V=>nV (aJ y.roomV) (aJ x.openV) V (by omega) (by omega));rw[bE,bE] at HCM;have hcm:=Oo y.roomV x.openV;have htk:bWp x y=if y.roomV<x.openV then y.roomV else x.openV:=by unfold bWp;omega
 generalize hcz:bG y.roomV x.openV=cz at *;have HCZ:=Hd hcm;have HTK:=Hd htk;clear hcm htk hcz;have KB:=Hd (aP.new0 W y.cs 49);clear hls0 lls lsb hgd u1 u2 hE hS hb gx H hxm hym hlm hox b1 b2 b3 b4 b5 ol oe hgcur hgset hlcur hlset hgt hlt;go_enter func44,ntmps44;go_upto_region 1 with fail
 go_region;generalize hw1:World.drew _=w1;have HB1:Hid (Below W.heap.size W w1):=by show Below _ _ _;rw[<-hw1];exact aD (aB W _) 1
 have KB1:Hid (aP w1 W.heap.size y.cs 49):=by show aP _ _ _ _;rw[<-hw1];exact KB.out
 clear hw1 k0 k1 k2 k3 k4 k5 k6 s0 s1 KB;obtain⟨g0,g1,g2,g3,g4,g5,g6,g7,g8,g9⟩:=aP.gain (HGC.out _ HB1.out);simp only[aLe.v,aLe.cs,Bd.v] at HOP HRO HLS;go_wp2_with fail;refine(HOP.out _ HB1.out).mono ?_;rintro e w2 ⟨rfl,hb⟩;have HB2:=Hd (aA HB1.out hb);have KB2:=Hd (KB1.out.below hb);clear hb HB1 KB1 g0 g1 g2 g3 g4 g5 g6 g7 g8 g9;obtain⟨k0,k1,k2,k3,k4,k5,k6⟩:=KB2.out.lot;go_wp2_with fail;refine(HRO.out _ HB2.out).mono ?_;rintro e w3 ⟨rfl,hb⟩;have HB3:=Hd (aA HB2.out hb);have KB3:=Hd (KB2.out.below hb);clear hb HB2 KB2 k0 k1 k2 k3 k4 k5 k6;go_wp2_with fail;refine(HCM.out _).mono ?_;rintro e w4 ⟨rfl,hb⟩;have HB4:=Hd (aA HB3.out hb);have KB4:=Hd (KB3.out.below hb);clear hb HB3 KB3 HCM;go_upto_if 42 with fail
 generalize hdb:decide (cz<0)=db;go_cut [11] from 43 to 44 (fun v wx=>v=.string ⟨(aJ (bWp x y)).toArray⟩/\Below W.heap.size W wx/\aP wx W.heap.size y.cs 49)
 case first =>
  cases db with
  |true =>
   have g:=of_decide_eq_true hdb;have ht:Hid (bWp x y=y.roomV):=by show _=_;rw[HTK.out,if_pos (HCZ.out.1 g)]
   obtain⟨k0,k1,k2,k3,k4,k5,k6⟩:=KB4.out.lot;go_wp2_with fail;refine(HRO.out _ HB4.out).mono ?_;rintro e w5 ⟨rfl,hb⟩;have HB5:=Hd (aA HB4.out hb);have KB5:=Hd (KB4.out.below hb);clear hb
   (try go_wp2_with fail)
   go_meet
   case rel=>exact⟨by rw[ht.out],HB5.out,KB5.out⟩
  |false =>
   have g:=of_decide_eq_false hdb;have ht:Hid (bWp x y=x.openV):=by show _=_;rw[HTK.out,if_neg (fun h=>g (HCZ.out.2 h))]
   (try go_wp2_with fail)
   go_meet
   case rel=>exact⟨by rw[ht.out],HB4.out,KB4.out⟩
 case rest =>
  obtain⟨rfl,hb5,kb5⟩:=hcut;have HB5:=Hd hb5;have KB5:=Hd kb5;clear hb5 kb5 HB4 KB4 HRO HCZ HTK;have hwd:∃wq,wq=wc.drewN 1:=⟨_,rfl⟩
  go_upto_region 5 with fail
  refine dHt (C:=⟨wc.drewN 1,gb,i,x,aJ (bWp x y),aJ x.loss,aJ (x.loss-val x.df),aJ x.openV,aJ (bXe x y),aJ (x.loss-val x.df-bXe x y)⟩) ?M rfl rfl rfl ?_
  case M=>exact⟨rfl,rfl,rfl,by have:=HLLT.out.2;have:=HB5.out.size;show gb<wc.heap.size;omega,HGC.out _ (aD HB5.out 1),fun V hV=>HLS.out V (aA (aD HB5.out 1) hV),fun V hV=>HSB.out V (aA (aD HB5.out 1) hV),fun V hV=>HOP.out V (aA (aD HB5.out 1) hV),fun V hV=>HSH.out V (aA (aD HB5.out 1) hV)⟩
  intro w6 hb6;have HB6:=Hd (aA (aD HB5.out 1) hb6);have KB6:=Hd ((show aP (wc.drewN 1) W.heap.size y.cs 49 from KB5.out).below hb6);have HK6:=Hd (KpW.of_below HB0.out HB6.out);have HS6:=Hd (HS.out.below HB6.out);clear hb6 hwd HB5 KB5 HLS HSB HOP HSH HS;simp only[iZ,dH6,List.foldl,List.setIfInBounds_toArray,List.set_cons_zero,List.set_cons_succ,dH2.val];go_upto_region 8 with fail
  have HGC6:Hid (∃cur,w6.heap[gb]?=some (Obj.cells cur 42 (0,0))):=by
   obtain⟨cur,h⟩:=HGCUR.out;exact⟨cur,(HB6.out.block gb HLLT.out.2).trans h⟩
  have HKG:Hid (∀V,w6.grownBy V (some gb)->KpW w0.heap.size W V):=fun V hV=>HK6.out.trans (KpW.of_grown (Nat.le_trans HB0.out HB6.out.size) hgb (.inr (.inl rfl)) HGC6.out hV)
  refine dHs (C:=⟨w6.drewN 1,w0.heap.size,gb,gcap,i,x,s.gains,aJ (bWp x y),aJ (bXe x y),aJ (val x.rp+bWp x y),aJ (val x.df+bXe x y)⟩) ?M rfl rfl rfl ?_
  case M=>exact⟨rfl,rfl,rfl,rfl,HS6.out.gains,HX.out,fun V hV=>HAR.out V (HKG.out V (dDf hV)),fun V hV=>HAD.out V (HKG.out V (dDf hV))⟩
  intro w8 hg8 ho8;have hg8:w6.grownBy w8 (some gb):=dDf hg8;have HS8:=Hd (HS6.out.gset (x:=x.repl (bWp x y) (bXe x y)) hg8 ho8);have HK8:=Hd (HKG.out w8 hg8);have KB8:=Hd ((dCk.of_grown (T:=49) (by decide) HGC6.out hg8).box KB6.out);clear hg8 ho8 HS6 HK6 HKG HGC6 HAR HAD HB6 KB6 HGCUR;simp only[iZ,dH5,List.foldl,List.setIfInBounds_toArray,List.set_cons_zero,List.set_cons_succ,dC5.val];obtain⟨k0,k1,k2,k3,k4,k5,k6⟩:=KB8.out.lot;go_upto_if 89 with fail
  generalize hcb:(aJ (bWp x y)==y.q)=cb;obtain⟨gs1,hgs1⟩:∃gs1,gs1=s.gains.set i (x.repl (bWp x y) (bXe x y)):=⟨_,rfl⟩
  rw[<-hgs1] at HS8 HRR;have HCB:=Hd hcb;have HGS1:=Hd hgs1;clear hcb hgs1;go_cut [16,17,18,19] from 90 to 138 (fun _ _ _ _ wx=>∃(z:Bd) (s1:bWs) (tv1:Value),aP wx W.heap.size z.cs 49/\dC1 wx w0.heap.size sb (.slice (some ⟨lb,0,none⟩) s.lots.length lcap) (.slice (some ⟨gb,0,none⟩) s.gains.length gcap) tv1 s1/\KpW w0.heap.size W wx /\
   ((cb=true/\z=y/\s1=⟨s.lots,gs1,s.steps,s.sum⟩)∨(cb=false/\bZw s.lots cause<=9999/\z=bYn s.lots cause y (bWp x y)/\s1=⟨s.lots.set k (y.rest (bWp x y)),gs1,s.steps ++ [⟨cause,y.id,bZf cause (bZw s.lots cause),aJ (bWp x y),aJ (bWp x y),(bYn s.lots cause y (bWp x y)).c⟩],s.sum⟩)))
  case first =>
   cases cb with
   |true =>
    (try go_wp2_with fail)
    go_meet
    case rel=>exact⟨y,_,tv,KB8.out,HS8.out,HK8.out,.inl ⟨by trivial,rfl,rfl⟩⟩
   |false =>
    have hcut:=HCUT.out (by have:=HCB.out;simpa using this) w8 HK8.out;have HNW:Hid (bYn s.lots cause y (bWp x y) = { y.part (bWp x y) with id:=bZf cause (bZw s.lots cause) }):=rfl;generalize hpp:y.part (bWp x y)=pp at *;generalize hrp:y.rest (bWp x y)=rp at *;simp only[Bd.v,Bd.cs] at hcut;have HCUT2:=Hd hcut;clear hcut HCUT;go_wp2_with fail;refine HCUT2.out.mono ?_;rintro e w9 ⟨rfl,hb⟩;have HK9:=Hd (HK8.out.trans (KpW.of_below (Nat.le_trans HB0.out HK8.out.below.size) hb));have HS9:=Hd (HS8.out.below hb);have KB9:=Hd (KB8.out.below hb);clear hb HCUT2 HK8 HS8 KB8 k0 k1 k2 k3 k4 k5 k6;obtain⟨wa,hwa⟩:∃wa,wa=(w9.alloc (.cells #[.string ⟨pp.id.toArray⟩,.string ⟨pp.ins.toArray⟩,.int .i64 pp.acq,.int .i64 pp.opn,.string ⟨pp.q.toArray⟩,.string ⟨pp.c.toArray⟩,.string ⟨pp.u.toArray⟩] 49)).alloc (.cells #[.string ⟨rp.id.toArray⟩,.string ⟨rp.ins.toArray⟩,.int .i64 rp.acq,.int .i64 rp.opn,.string ⟨rp.q.toArray⟩,.string ⟨rp.c.toArray⟩,.string ⟨rp.u.toArray⟩] 49):=⟨_,rfl⟩
    have hba:Below w9.heap.size w9 wa:=by rw[hwa];exact aA (aB _ _) (aB _ _)
    have K16:Hid (aP wa w9.heap.size pp.cs 49):=by show aP _ _ _ _;rw[hwa];exact(aP.new0 w9 _ _).below (aB _ _)
    have K17:Hid (aP wa (w9.heap.size+1) rp.cs 49):=by
     have h:=aP.new0 (w9.alloc (.cells #[.string ⟨pp.id.toArray⟩,.string ⟨pp.ins.toArray⟩,.int .i64 pp.acq,.int .i64 pp.opn,.string ⟨pp.q.toArray⟩,.string ⟨pp.c.toArray⟩,.string ⟨pp.u.toArray⟩] 49)) rp.cs 49;rw[World.size_alloc] at h;show aP _ _ _ _;rw[hwa];exact h
    have HKA:=Hd (HK9.out.trans (KpW.of_below (Nat.le_trans HB0.out HK9.out.below.size) hba));have HSA:=Hd (HS9.out.below hba);have KBA:=Hd (KB9.out.below hba);have hblt:=KB9.out.1;go_upto_region 12 with fail
    rw[<-hwa];clear hwa hba HK9 HS9 KB9;obtain⟨la,lc,elv,hlcc,HLA⟩:=dDb HSA.out.lots;injection elv with e1 e2 e3
    subst e1 e3;have HNX:=Hd (HNX.out wa HKA.out _ _ sb _ _ _ HSA.out.box HLA);clear HLA e2;go_wp2_with fail;refine HNX.out.mono ?_;rintro e w10 ⟨rfl,hb⟩;have HK10:=Hd (HKA.out.trans (KpW.of_below (Nat.le_trans HB0.out HKA.out.below.size) hb));have HS10:=Hd (HSA.out.below hb);have KB10:=Hd (KBA.out.below hb);have K16:=Hd (K16.out.below hb);have K17:=Hd (K17.out.below hb);have hsz10:=HKA.out.below.size;clear hb HKA HSA KBA HNX
    by_cases g9:9999<bZw s.lots cause
    ·have hr9:Hid (rr=none):=by
      show _=_;rw[HRR.out,if_neg (by have:=HCB.out;simpa using this),if_pos g9]
     clear HRR HNW HLID HIT HNP;generalize bZw s.lots cause=nn at *;go_wp2;go_ret;exact⟨.none hr9.out,HK10.out⟩
    ·have HG9:=Hd g9;have HIT:=Hd (HIT.out w10 HK10.out);have HNI:Hid (bZf cause (bZw s.lots cause)=cause++47::Lib.itoa (bZw s.lots cause)):=rfl;have HLI:=Hd (HLID.out.resolve_right g9);have f0:=K16.out.lot.1;clear HLID;generalize bZf cause (bZw s.lots cause)=nid at *;generalize hit:Lib.itoa (bZw s.lots cause)=it at *;generalize hnn:bZw s.lots cause=nn at *;go_wp2_with fail;refine HIT.out.mono ?_;rintro e w11 ⟨rfl,hb⟩;have HK11:=Hd (HK10.out.trans (KpW.of_below (Nat.le_trans HB0.out HK10.out.below.size) hb));have HS11:=Hd (HS10.out.below hb);have KB11:=Hd (KB10.out.below hb);have K16b:=Hd (K16.out.below hb);have K17b:=Hd (K17.out.below hb);have c16:=K16b.out.lot.1;have fz16:=aR K16b.out.2 0;have h16:W.heap.size<w9.heap.size:=hblt;clear hb HK10 HS10 KB10 K16 K17 HIT f0;obtain⟨wb,hwb⟩:∃wb,wb=w11.setCell ⟨w9.heap.size,0,none⟩ (.string ⟨nid.toArray⟩):=⟨_,rfl⟩
     have hgr:w11.grownBy wb (some w9.heap.size):=by rw[hwb];exact dCt _ _ _ _
     have hc16:∃cur,w11.heap[w9.heap.size]?=some (Obj.cells cur 49 (0,0)):=⟨_,K16b.out.2⟩
     have HKB:=Hd (HK11.out.trans (KpW.of_grown (Nat.le_trans HB0.out HK11.out.below.size) (by have:=HB0.out;omega) (.inl rfl) hc16 hgr));have HSB:=Hd (HS11.out.other hc16 (by intro e;injection e with e;have:=HLLT.out.1;have e:lb=w9.heap.size:=e;omega) hgr);have KBB:Hid (aP wb W.heap.size y.cs 49):=by show aP _ _ _ _;rw[hwb];exact KB11.out.setO (p:=⟨w9.heap.size,0,none⟩) (by show W.heap.size≠w9.heap.size;omega)
     have K17c:Hid (aP wb (w9.heap.size+1) rp.cs 49):=by show aP _ _ _ _;rw[hwb];exact K17b.out.setO (p:=⟨w9.heap.size,0,none⟩) (by show w9.heap.size+1≠w9.heap.size;omega)
     have K16c:Hid (aP wb w9.heap.size (Bd.cs { pp with id:=nid }) 49):=by
      have h:=K16b.out.setC (i:=0) (v:=.string ⟨nid.toArray⟩);show aP _ _ _ _;rw[hwb];exact h
     have hni:=HNI.out;have hcl3:cause.length+1+it.length<=900:=by
      have h:=HLI.out;rw[hni,List.length_append,List.length_cons] at h;omega
     go_upto_region 16 with fail
     rw[<-hni,<-hwb];clear hni hwb hgr hc16 c16 fz16 HK11 HS11 KB11 K16b K17b;have hstp:s.steps.length<=1000000:=by omega
     refine dHc (C:=⟨wb.drewN 1,w0.heap.size,sb,.slice (some ⟨lb,0,none⟩) s.lots.length lcap,.slice (some ⟨gb,0,none⟩) s.gains.length gcap,tv,.string ⟨(aJ s.sum).toArray⟩,s.steps,⟨cause,y.id,nid,aJ (bWp x y),aJ (bWp x y),pp.c⟩,W.heap.size,y,w9.heap.size,{ pp with id:=nid },cause,aJ (bWp x y)⟩) ?M rfl rfl rfl ?_
     case M=>exact⟨rfl,rfl,rfl,rfl,rfl,rfl,HSB.out.box,KBB.out,HSB.out.steps,Nat.le_trans HB0.out HKB.out.below.size,hstp,K16c.out,rfl⟩
     intro γ hap;obtain⟨h1,h2,h3⟩:=HSB.out.stepped (st:=⟨cause,y.id,nid,aJ (bWp x y),aJ (bWp x y),pp.c⟩) (Nat.le_trans HB0.out HKB.out.below.size) hap.1 ⟨hap.2.os,hap.2.tape,hap.2.output,hap.2.size,hap.2.block⟩;obtain⟨wd,hwd⟩:∃wd,wd = γ.2.setCell ⟨sb,2,none⟩ γ.1:=⟨_,rfl⟩
     rw[<-hwd] at h1 h2 h3 ⊢;have HSD:=Hd h1;have HKD:=Hd (HKB.out.trans h2);have KBD:=Hd (h3.box KBB.out);have K16d:=Hd (h3.box K16c.out);have K17d:=Hd (h3.box K17c.out);clear hwd h1 h2 h3 hap HSB HKB KBB K16c K17c;simp only[iZ,dGc,List.foldl,List.setIfInBounds_toArray,List.set_cons_zero,List.set_cons_succ,dCu.val];obtain⟨lb',lc',elv,_,_,_,hlc2,hlt2,_⟩:=dDo dDe HSD.out.lots HY.out;injection elv with e1 e2 e3
     injection e1 with e1
     injection e1 with e1
     subst e1 e3;clear e2;obtain⟨a0,a1,a2,a3,a4,a5,a6⟩:=K16d.out.lot;obtain⟨b0,b1,b2,b3,b4,b5,b6⟩:=K17d.out.lot;obtain⟨d0,d1,d2,d3,d4,d5,d6⟩:=KBD.out.lot;obtain⟨r0,r1,r2,r3,r4,r5,r6⟩:=aP.lotAt hlc2;have df:∀j,wd.frozen? ⟨W.heap.size,j,none⟩=false:=fun j=>aR KBD.out.2 j
     have q0:wd.frozen? ⟨lb,k*7,none⟩=false:=(hlt2 0 (by decide)).2;have q1:=(hlt2 1 (by decide)).2;have q2:=(hlt2 2 (by decide)).2;have q3:=(hlt2 3 (by decide)).2;have q4:=(hlt2 4 (by decide)).2;have q5:=(hlt2 5 (by decide)).2;have q6:=(hlt2 6 (by decide)).2;have s0:=HSD.out.box.cell 0;have n1:lb<W.heap.size:=HLLT.out.1;have hne:W.heap.size≠lb:=by omega
     have hs1:dC1 (wd.setCells lb (k*7) [.string ⟨rp.id.toArray⟩,.string ⟨rp.ins.toArray⟩,.int .i64 rp.acq,.int .i64 rp.opn,.string ⟨rp.q.toArray⟩,.string ⟨rp.c.toArray⟩,.string ⟨rp.u.toArray⟩]) w0.heap.size sb _ _ _ _:=dC1.lset (s:=⟨s.lots,gs1,s.steps ++ [⟨cause,y.id,nid,aJ (bWp x y),aJ (bWp x y),pp.c⟩],s.sum⟩) (z:=rp) HSD.out HY.out;have hlw:∃cur,wd.heap[lb]?=some (Obj.cells cur 49 (0,0)):=by assumption
     have hb1:=KBD.out.setCO hne (o:=k*7) [.string ⟨rp.id.toArray⟩,.string ⟨rp.ins.toArray⟩,.int .i64 rp.acq,.int .i64 rp.opn,.string ⟨rp.q.toArray⟩,.string ⟨rp.c.toArray⟩,.string ⟨rp.u.toArray⟩];have hs2:=hs1.other ⟨_,hb1.2⟩ (by intro e;injection e with e;have e:lb=W.heap.size:=e;omega) (dC8 W.heap.size [.string ⟨nid.toArray⟩,.string ⟨pp.ins.toArray⟩,.int .i64 pp.acq,.int .i64 pp.opn,.string ⟨pp.q.toArray⟩,.string ⟨pp.c.toArray⟩,.string ⟨pp.u.toArray⟩] 0 _);have hk2:=hb1.set7 (.string ⟨nid.toArray⟩) (.string ⟨pp.ins.toArray⟩) (.int .i64 pp.acq) (.int .i64 pp.opn) (.string ⟨pp.q.toArray⟩) (.string ⟨pp.c.toArray⟩) (.string ⟨pp.u.toArray⟩);have hkp1:=HKD.out.trans (KpW.of_grown (Nat.le_trans HB0.out HKD.out.below.size) hlb (.inl rfl) hlw (dC8 lb [.string ⟨rp.id.toArray⟩,.string ⟨rp.ins.toArray⟩,.int .i64 rp.acq,.int .i64 rp.opn,.string ⟨rp.q.toArray⟩,.string ⟨rp.c.toArray⟩,.string ⟨rp.u.toArray⟩] (k*7) wd));have hkp:=hkp1.trans (KpW.of_grown (Nat.le_trans HB0.out hkp1.below.size) HB0.out (.inl rfl) ⟨_,hb1.2⟩ (dC8 W.heap.size [.string ⟨nid.toArray⟩,.string ⟨pp.ins.toArray⟩,.int .i64 pp.acq,.int .i64 pp.opn,.string ⟨pp.q.toArray⟩,.string ⟨pp.c.toArray⟩,.string ⟨pp.u.toArray⟩] 0 _));simp only[World.setCells,Nat.zero_add,Nat.reduceAdd,Nat.add_assoc] at hs2 hk2 hkp;have HS2:=Hd hs2;have HK2:=Hd hk2;have HKP:=Hd hkp;clear hs1 hs2 hb1 hk2 hkp1 hkp hlw hlc2 hlt2;go_upto_region 17 with fail
     go_region;clear a0 a1 a2 a3 a4 a5 a6 b0 b1 b2 b3 b4 b5 b6 d0 d1 d2 d3 d4 d5 d6 r0 r1 r2 r3 r4 r5 r6 df q0 q1 q2 q3 q4 q5 q6 s0;generalize World.setCell _ _ _=we at *
     (try go_wp2_with fail)
     go_meet
     case rel=>exact⟨{ pp with id:=nid },_,_,HK2.out.drew,HS2.out.drew,HKP.out.drew,.inr ⟨by trivial,by have:=HG9.out;omega,HNW.out.symm,by rw[HNW.out]⟩⟩
  case rest =>
   obtain⟨z,s1,tv1,kz,hs1,hk1,hcase⟩:=hcut;have KZ:=Hd kz;have HS1:=Hd hs1;have HK1:=Hd hk1;have HCASE:=Hd hcase;have hzm:=HZF.out z (by
    rcases hcase with⟨_,e,_⟩|⟨e0,e1,e,_⟩
    ·exact .inl e
    ·exact .inr ⟨by have:=HCB.out;rw[e0] at this;simpa using this,e1,e⟩)
   have HZM:=Hd hzm;clear kz hs1 hk1 hcase HK8 HS8 KB8 k0 k1 k2 k3 k4 k5 k6 HCUT HNX HIT HLID HNP;have HAZ:=Hd (fun V (hV:KpW w0.heap.size W V)=>aAg z.c (aJ (bXe x y)) V (HENV.out V hV) (by omega) (by have:=HCOL.out;omega));rw[bE] at HAZ;have HWB:Hid (∀V,wc.grownBy V (some W.heap.size)->KpW w0.heap.size W V):=fun V hV=>HK1.out.trans (KpW.of_grown (Nat.le_trans HB0.out HK1.out.below.size) HB0.out (.inl rfl) ⟨_,KZ.out.2⟩ hV)
   clear hzm;go_upto_region 18 with fail
   refine dHb (C:=⟨wc.drewN 1,W.heap.size,z,aJ (bXe x y),aJ (val z.c+bXe x y)⟩) ?M rfl rfl rfl ?_
   case M=>exact⟨rfl,rfl,rfl,KZ.out,fun V hV=>HAZ.out V (HWB.out V (dDf hV))⟩
   intro w2 hg2 kz2;have hg2:wc.grownBy w2 (some W.heap.size):=dDf hg2;have HS2:=Hd (HS1.out.other ⟨_,KZ.out.2⟩ (by intro e;injection e with e;have:=HLLT.out.1;have e:lb=W.heap.size:=e;omega) hg2);have HK2:=Hd (HWB.out w2 hg2);have KZ2:=Hd kz2;clear hg2 kz2 HS1 HK1 KZ HWB HAZ;simp only[iZ,dGz,List.foldl,List.setIfInBounds_toArray,List.set_cons_zero,List.set_cons_succ,dC9.val];have hsg:s1.gains=gs1:=by rcases HCASE.out with⟨_,_,e⟩|⟨_,_,_,e⟩ <;> rw[e]
   have hg1:s1.gains[i]?=some (x.repl (bWp x y) (bXe x y)):=by rw[hsg,HGS1.out];exact dEp HX.out
   obtain⟨gb',gc',elv,_,_,_,hgc2,_,_⟩:=dDo dC3 HS2.out.gains hg1;injection elv with e1 e2 e3
   injection e1 with e1
   injection e1 with e1
   subst e1;clear e2 e3 hg1 hsg;have g3:w2.cell? ⟨gb,i*10+3,none⟩=some (.int .i64 x.acq):=hgc2 3 _ rfl;have g4:w2.cell? ⟨gb,i*10+4,none⟩=some (.int .i64 x.cls):=hgc2 4 _ rfl;have d2:w2.cell? ⟨W.heap.size,2,none⟩=some (.int .i64 z.acq):=KZ2.out.cell 2;have fz2:=aR KZ2.out.2 2;have hzb:=bZy.1 (bYi.1 HZM.out.1).2.1.1;have hxb:=HXB.out;have hw1:IntKind.i64.wrap (x.cls-x.acq)=x.cls-x.acq:=by rw[IntKind.wrap_i64];omega
   have hw2:IntKind.i64.wrap (z.acq-(x.cls-x.acq))=z.acq-(x.cls-x.acq):=by rw[IntKind.wrap_i64];omega
   have KW:=Hd (KZ2.out.setC (i:=2) (v:=.int .i64 (max (-25567) (z.acq-(x.cls-x.acq)))));have hgw:w2.grownBy (w2.setCell ⟨W.heap.size,2,none⟩ (.int .i64 (max (-25567) (z.acq-(x.cls-x.acq))))) (some W.heap.size):=dCt _ _ _ _;have HSW:=Hd (HS2.out.other ⟨_,KZ2.out.2⟩ (by intro e;injection e with e;have:=HLLT.out.1;have e:lb=W.heap.size:=e;omega) hgw);have HKW:=Hd (HK2.out.trans (KpW.of_grown (Nat.le_trans HB0.out HK2.out.below.size) HB0.out (.inl rfl) ⟨_,KZ2.out.2⟩ hgw));clear hzb hxb hgc2 hgw;obtain⟨zf,hzf⟩:∃zf,zf=z.fill x (bXe x y):=⟨_,rfl⟩
   have KW:Hid (aP (w2.setCell ⟨W.heap.size,2,none⟩ (.int .i64 (max (-25567) (z.acq-(x.cls-x.acq))))) W.heap.size zf.cs 49):=by show aP _ _ _ _;rw[hzf];exact KW.out
   have HZF2:=Hd hzf;clear hzf;go_upto_region 19 with fail
   go_region;clear g3 g4 d2 fz2 hw1 hw2;generalize World.setCell _ _ _=w3 at *;have HS3:=Hd HSW.out.drew;have HK3:=Hd HKW.out.drew;have KZ3:=Hd KW.out.drew;obtain⟨w4,hw4⟩:∃w4,w4=w3.drew:=⟨_,rfl⟩
   rw[<-hw4] at HS3 HK3 KZ3 ⊢;clear hw4 HSW HKW KW HS2 HK2 KZ2;go_upto_if 162 with fail
   generalize hez:(aJ (bXe x y)).isEmpty=ez;have HEZ:=Hd hez;clear hez;have hstp:s1.steps.length<=1000000:=by
    rcases HCASE.out with⟨_,_,e⟩|⟨_,_,_,e⟩
    ·rw[e];show s.steps.length<=_;omega
    ·rw[e];show (s.steps ++ [_]).length<=_;rw[List.length_append];show s.steps.length+1<=_;omega
   go_cut [] from 163 to 176 (fun wx=>∃tv2:Value,dC1 wx w0.heap.size sb (.slice (some ⟨lb,0,none⟩) s.lots.length lcap) (.slice (some ⟨gb,0,none⟩) s.gains.length gcap) tv2 { s1 with steps:=s1.steps++bX3 cause zf (bXe x y) }/\aP wx W.heap.size zf.cs 49/\KpW w0.heap.size W wx)
   case first =>
    cases ez with
    |true =>
     have h0:bX3 cause zf (bXe x y)=[]:=by
      have:=HCEZ.out;rw[HEZ.out] at this;unfold bX3;rw[if_pos (of_decide_eq_true this.symm)]
     (try go_wp2_with fail)
     go_meet
     case rel=>exact⟨tv1,by rw[h0,List.append_nil];exact HS3.out,KZ3.out,HK3.out⟩
    |false =>
     have h0:Hid (bX3 cause zf (bXe x y)=[⟨cause,[],zf.id,[],[],aJ (bXe x y)⟩]):=by
      have:=HCEZ.out;rw[HEZ.out] at this;show _=_;unfold bX3;rw[if_neg (of_decide_eq_false this.symm)]
     go_upto_region 21 with fail
     refine dHa (C:=⟨w4.drewN 1,w0.heap.size,sb,.slice (some ⟨lb,0,none⟩) s.lots.length lcap,.slice (some ⟨gb,0,none⟩) s.gains.length gcap,tv1,.string ⟨(aJ s1.sum).toArray⟩,s1.steps,⟨cause,[],zf.id,[],[],aJ (bXe x y)⟩,W.heap.size,zf,cause,aJ (bXe x y)⟩) ?M rfl rfl rfl ?_
     case M=>exact⟨rfl,rfl,rfl,rfl,rfl,HS3.out.box,KZ3.out,HS3.out.steps,Nat.le_trans HB0.out HK3.out.below.size,hstp,rfl⟩
     intro γ hap;obtain⟨h1,h2,h3⟩:=HS3.out.stepped (st:=⟨cause,[],zf.id,[],[],aJ (bXe x y)⟩) (Nat.le_trans HB0.out HK3.out.below.size) hap.1 ⟨hap.2.os,hap.2.tape,hap.2.output,hap.2.size,hap.2.block⟩;have H1:=Hd h1;have H2:=Hd (HK3.out.trans h2);have H3:=Hd (h3.box KZ3.out);clear h1 h2 h3 hap;simp only[iZ,dGb,List.foldl,List.setIfInBounds_toArray,List.set_cons_zero,List.set_cons_succ,dCz.val]
     (try go_wp2_with fail)
     go_meet
     case rel=>exact⟨_,by rw[h0.out];exact H1.out,H3.out,H2.out⟩
   case rest =>
    obtain⟨tv2,hs5,kz5,hk5⟩:=hcut;have HS5:=Hd hs5;have KZ5:=Hd kz5;have HK5:=Hd hk5;clear hs5 kz5 hk5 HS3 HK3 KZ3 hstp HEZ;have hsum1:s1.sum=s.sum:=by rcases HCASE.out with⟨_,_,e⟩|⟨_,_,_,e⟩ <;> rw[e]
    have s3:wc.cell? ⟨sb,3,none⟩=some (.string ⟨(aJ s.sum).toArray⟩):=(HS5.out.box.cell 3).trans (by rw[<-hsum1];rfl);go_wp2_with fail;refine(HADS.out _ HK5.out).mono ?_;rintro e w6 ⟨rfl,hb⟩;have HK6:=Hd (HK5.out.trans (KpW.of_below (Nat.le_trans HB0.out HK5.out.below.size) hb));have HS6:=Hd (HS5.out.below hb);have KZ6:=Hd (KZ5.out.below hb);clear hb s3 HK5 HS5 KZ5 HADS;have s3:w6.cell? ⟨sb,3,none⟩=some (.string ⟨(aJ s.sum).toArray⟩):=(HS6.out.box.cell 3).trans (by rw[<-hsum1];rfl);have f3:=aR HS6.out.box.2 3;obtain⟨h1,h2,h3⟩:=HS6.out.summed (z:=s.sum+bXe x y) (Nat.le_trans HB0.out HK6.out.below.size);obtain⟨w7,hw7⟩:∃w7,w7=w6.setCell ⟨sb,3,none⟩ (.string ⟨(aJ (s.sum+bXe x y)).toArray⟩):=⟨_,rfl⟩
    rw[<-hw7] at h1 h2 h3;have HS7:=Hd h1;have HK7:=Hd (HK6.out.trans h2);have KZ7:=Hd (h3.box KZ6.out);clear h1 h2 h3 HS6 HK6 KZ6 hsum1;go_upto_if 187 with fail
    rw[<-hw7];clear hw7 s3 f3;have HLX:Hid (∀a b,s1.lots[k]?=some a->b∈s1.lots->True):=fun _ _ _ _=>trivial
    clear HLX;cases cb with
    |true =>
     obtain⟨hz,hs1⟩:z=y/\s1=⟨s.lots,gs1,s.steps,s.sum⟩:=by
      rcases HCASE.out with⟨_,e1,e2⟩|⟨e0,_⟩
      ·exact⟨e1,e2⟩
      ·cases e0
     have HR:Hid (rr=some ⟨s.lots.set k zf,gs1,s.steps++bX3 cause zf (bXe x y),s.sum+bXe x y⟩):=by
      show _=_;rw[HRR.out,if_pos (by have:=HCB.out;simpa using this),HZF2.out,hz]
     subst hs1;have HS7:Hid (dC1 w7 w0.heap.size sb (.slice (some ⟨lb,0,none⟩) s.lots.length lcap) (.slice (some ⟨gb,0,none⟩) s.gains.length gcap) tv2 ⟨s.lots,gs1,s.steps++bX3 cause zf (bXe x y),s.sum+bXe x y⟩):=HS7.out;obtain⟨lb',lc',elv,_,hlw,_,hlc2,hlt2,_⟩:=dDo dDe HS7.out.lots HY.out;injection elv with e1 e2 e3
     injection e1 with e1
     injection e1 with e1
     subst e1 e3;clear e2 HRR hz;obtain⟨d0,d1,d2,d3,d4,d5,d6⟩:=KZ7.out.lot;obtain⟨r0,r1,r2,r3,r4,r5,r6⟩:=aP.lotAt hlc2;have q0:w7.frozen? ⟨lb,k*7,none⟩=false:=(hlt2 0 (by decide)).2;have q1:=(hlt2 1 (by decide)).2;have q2:=(hlt2 2 (by decide)).2;have q3:=(hlt2 3 (by decide)).2;have q4:=(hlt2 4 (by decide)).2;have q5:=(hlt2 5 (by decide)).2;have q6:=(hlt2 6 (by decide)).2;have s0:=HS7.out.box.cell 0;have hs8:dC1 (w7.setCells lb (k*7) [.string ⟨zf.id.toArray⟩,.string ⟨zf.ins.toArray⟩,.int .i64 zf.acq,.int .i64 zf.opn,.string ⟨zf.q.toArray⟩,.string ⟨zf.c.toArray⟩,.string ⟨zf.u.toArray⟩]) w0.heap.size sb _ _ _ _:=dC1.lset (s:=⟨s.lots,gs1,s.steps++bX3 cause zf (bXe x y),s.sum+bXe x y⟩) (z:=zf) HS7.out HY.out;have hk8:=HK7.out.trans (KpW.of_grown (Nat.le_trans HB0.out HK7.out.below.size) hlb (.inl rfl) hlw (dC8 lb [.string ⟨zf.id.toArray⟩,.string ⟨zf.ins.toArray⟩,.int .i64 zf.acq,.int .i64 zf.opn,.string ⟨zf.q.toArray⟩,.string ⟨zf.c.toArray⟩,.string ⟨zf.u.toArray⟩] (k*7) w7));simp only[World.setCells,Nat.add_assoc,Nat.reduceAdd] at hs8 hk8;have HS8:=Hd hs8;have HK8:=Hd hk8;clear hs8 hk8 hlc2 hlt2 hlw;go_upto_region 24 with fail
     go_region;clear d0 d1 d2 d3 d4 d5 d6 r0 r1 r2 r3 r4 r5 r6 q0 q1 q2 q3 q4 q5 q6 s0;generalize World.setCell _ _ _=w8 at *;go_wp2;go_ret;exact⟨.some HR.out ⟨_,_,_,HS8.out.drew⟩,HK8.out.drew⟩
    |false =>
     obtain⟨hn9,hz,hs1⟩:bZw s.lots cause<=9999/\z=bYn s.lots cause y (bWp x y)/\s1=⟨s.lots.set k (y.rest (bWp x y)),gs1,s.steps ++ [⟨cause,y.id,bZf cause (bZw s.lots cause),aJ (bWp x y),aJ (bWp x y),(bYn s.lots cause y (bWp x y)).c⟩],s.sum⟩:=by
      rcases HCASE.out with⟨e0,_⟩|⟨_,e1,e2,e3⟩
      ·cases e0
      ·exact⟨e1,e2,e3⟩
     have hcn:aJ (bWp x y)≠y.q:=by have:=HCB.out;simpa using this
     obtain⟨o1,o2,o3,o4,o5⟩:=HOPN.out hcn hn9;have hzf3:zf=(bYn s.lots cause y (bWp x y)).fill x (bXe x y):=by rw[HZF2.out,hz]
     have o3:zf.id ∉ (s.lots.set k (y.rest (bWp x y))).map (·.id):=by rw[hzf3];exact o3
     rw[<-hzf3] at o2 o5;have HR:Hid (rr=if 1000<=s.lots.length then none else some ⟨bZb (s.lots.set k (y.rest (bWp x y))) zf,gs1,(s.steps ++ [⟨cause,y.id,bZf cause (bZw s.lots cause),aJ (bWp x y),aJ (bWp x y),(bYn s.lots cause y (bWp x y)).c⟩])++bX3 cause zf (bXe x y),s.sum+bXe x y⟩):=by
      show _=_;rw[HRR.out,if_neg hcn,if_neg (by omega),<-hzf3]
     subst hs1;clear HRR hz hzf3 hcn hn9 HZF2 HCASE HCB HOPN;generalize hls1:s.lots.set k (y.rest (bWp x y))=ls1 at *;have hlen1:ls1.length=s.lots.length:=by rw[<-hls1,List.length_set]
     generalize hst1:s.steps ++ [⟨cause,y.id,bZf cause (bZw s.lots cause),aJ (bWp x y),aJ (bWp x y),(bYn s.lots cause y (bWp x y)).c⟩]=st1 at *;have HS7:Hid (dC1 w7 w0.heap.size sb (.slice (some ⟨lb,0,none⟩) s.lots.length lcap) (.slice (some ⟨gb,0,none⟩) s.gains.length gcap) tv2 ⟨ls1,gs1,st1++bX3 cause zf (bXe x y),s.sum+bXe x y⟩):=HS7.out;obtain⟨R,hR⟩:∃R:Value->Int->World->Prop,R=fun v n w'=>(1000<=ls1.length/\n=4)∨(ls1.length<1000/\n=0/\w'.ownsRow w0.heap.size 49 7 v (bZb ls1 zf).length (dAf Bd.cs (bZb ls1 zf))):=⟨_,rfl⟩
     have HO:Hid (∀V,Below w7.heap.size w7 V->Calls prog 91 #[.slice (some ⟨lb,0,none⟩) s.lots.length lcap,.agg zf.cs] V fun e w'=>(∃v n,e=.returned (.tuple #[v,.int .i64 n])/\R v n w')/\Below V.heap.size V w'):=by
      intro V hV;have hKV:=HK7.out.trans (KpW.of_below (Nat.le_trans HB0.out HK7.out.below.size) hV);obtain⟨a,c,elv,_,hL⟩:=dDb (HS7.out.below hV).lots;injection elv with e1 e2 e3
      have h:=dF1 ls1 zf a c V (HENV.out V hKV) o1 o2 o4 o5 o3 hL;rw[hlen1,<-e1,<-e3] at h;refine h.mono ?_;rintro e w' ⟨⟨g1,rfl⟩|⟨g1,v,rfl,ho⟩,hb⟩
      ·exact⟨⟨_,_,rfl,by rw[hR];exact .inl ⟨by omega,rfl⟩⟩,hb⟩
      ·exact⟨⟨_,_,rfl,by rw[hR];exact .inr ⟨by omega,rfl,dDt ho (Nat.le_trans HB0.out hKV.below.size)⟩⟩,hb⟩
     go_upto_region 26 with fail
     refine dG9 (C:=⟨w7.drewN 1,sb,.slice (some ⟨lb,0,none⟩) s.lots.length lcap,.slice (some ⟨gb,0,none⟩) s.gains.length gcap,tv2,.string ⟨(aJ (s.sum+bXe x y)).toArray⟩,W.heap.size,zf,R⟩) ?M rfl rfl rfl ?_
     case M=>exact⟨rfl,rfl,rfl,HS7.out.box,KZ7.out,fun V hV=>HO.out V (aA (aD (Br _ w7) 1) hV)⟩
     intro γ w8 hb8 hR8;have hb8:Below w7.heap.size w7 w8:=aA (aD (Br _ w7) 1) hb8;have HK8:=Hd (HK7.out.trans (KpW.of_below (Nat.le_trans HB0.out HK7.out.below.size) hb8));have HS8:=Hd (HS7.out.below hb8);clear hb8 HK7 HS7 KZ7 HO o1 o2 o3 o4 o5;simp only[iZ,dGy,List.foldl,List.setIfInBounds_toArray,List.set_cons_zero,List.set_cons_succ,dDh.val];rw[hR] at hR8;obtain⟨v8,n8⟩:=γ;rcases hR8 with⟨g1,hn8⟩|⟨g1,hn8,hown⟩
     ·have hn8:n8=4:=hn8;subst hn8;have HR2:Hid (rr=none):=by show _=_;rw[HR.out,if_pos (by omega)]
      clear HR hR;go_wp2;go_ret;exact⟨.none HR2.out,HK8.out⟩
     ·have hn8:n8=0:=hn8;subst hn8;have HR2:Hid (rr=some ⟨bZb ls1 zf,gs1,st1++bX3 cause zf (bXe x y),s.sum+bXe x y⟩):=by show _=_;rw[HR.out,if_neg (by omega)]
      have hown:w8.ownsRow w0.heap.size 49 7 v8 (bZb ls1 zf).length (dAf Bd.cs (bZb ls1 zf)):=hown;obtain⟨a,c,rfl,_,hL⟩:=dDb hown;have hol:(bZb ls1 zf).length=ls1.length+1:=by rw[(dBm ls1 zf).length_eq,List.length_cons]
      have HCL:=Hd (dDx (bZb ls1 zf) a c w8 (by omega) hL);have HOL:=Hd hol;have HLN:=Hd hlen1;clear hol hlen1;clear HR hR hown hL;generalize bZb ls1 zf=ols at *;go_wp2_with fail;refine HCL.out.mono ?_;rintro e w9 ⟨v9,rfl,ho9,hb9⟩;have HK9:=Hd (HK8.out.trans (KpW.of_below (Nat.le_trans HB0.out HK8.out.below.size) hb9));have HS9:=Hd (HS8.out.below hb9);have ho9:=dDt ho9 (Nat.le_trans HB0.out HK8.out.below.size);obtain⟨g9,c9,_,hv9,_⟩:=dDk ho9 (by have:=HOL.out;omega);subst hv9;have h10:=HS9.out.lotted (Nat.le_trans HB0.out HK9.out.below.size) ho9;have HS10:=Hd h10.1;have HK10:=Hd (HK9.out.trans h10.2);have s0:=HS9.out.box.cell 0;have f0:=aR HS9.out.box.2 0;clear h10 ho9 hb9 HCL HK8 HS8 HK9 HS9;go_wp2;go_ret;exact⟨.some HR2.out ⟨_,_,_,HS10.out⟩,HK10.out⟩
end Go.Proofs.YtiloklnjjfaagaaGreatDoor
