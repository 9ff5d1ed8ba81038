/- Divide2 -/
import Derived.Test.YtiloklnjjfaagaaGreatDoorUTimes
set_option maxHeartbeats 16000000
set_option maxRecDepth 100000
namespace Go.Proofs.YtiloklnjjfaagaaGreatDoor
open Tryz
open Go.RowKit Num
theorem Hc{H:List Nat}{s:Nat}(h:H.getLast?≠some 0)(hl:H.length=s+2):0<H.getD (s+1) 0:=by
 rcases Nat.eq_zero_or_pos (H.getD (s+1) 0) with h0|h0
 ·exfalso;apply h;rw[List.getLast?_eq_getElem?,hl,<-h0,List.getD_eq_getElem?_getD,show s+2-1=s+1 by omega,Lg (by omega)];rfl
 ·exact h0
theorem Gp{w:World}{base b c:Nat}{G z:List Nat}(h:mM w b (G++z))(hb:base<=b)(hc:c=(G++z).length)(hm:c<=maxLen):w.ownsRow base 144 1 (.slice (some ⟨b,0,none⟩) G.length c) G.length (gs G):=by
 refine⟨by rw[dB,Nat.mul_one],.inr ⟨b,c,_,rfl,hb,h,by rw[hc];simp,hm,by simp[dB,hc],?_⟩⟩;simp only[Nat.mul_one];rw[gY,<-dB G,List.take_left'];rfl
theorem Ee{w:World}{base n:Nat}{v:Value}{G:List Nat}(h:w.ownsRow base 144 1 v n (gs G))(hn:0<n):∃g cap z,v=.slice (some ⟨g,0,none⟩) n cap/\base<=g/\n<=cap/\cap<=maxLen/\fF w g G z:=by
 rcases h.2 with⟨_,h0⟩|⟨g,cap,cur,hv,h1,h2,h3,h4,h5,h6⟩
 ·omega
 ·refine⟨g,cap,cur.toList.drop n,hv,h1,h3,h4,?_⟩;unfold fF;rw[<-h6,Nat.mul_one,List.take_append_drop];exact h2
theorem Qo{x k:Nat}(h:x<1000000000^k):(aC x).length<=k:=by
 by_cases hn:aC x=[]
 ·rw[hn];exact Nat.zero_le _
 ·have h1:=vA (dJ x) hn;rw[aQ] at h1;have h3:=(Nat.pow_lt_pow_iff_right (a:=1000000000) (by decide)).1 (Nat.lt_of_le_of_lt h1 h);omega
theorem Ch(x y:Nat):(aC (x*y)).length<=(aC x).length+(aC y).length:=by
 apply Qo;have h2:=fW (aO x);have h3:=fW (aO y);rw[aQ] at h2 h3;rw[Nat.pow_add];rcases Nat.eq_zero_or_pos x with rfl|hx
 ·rw[Nat.zero_mul];exact Nat.mul_pos (by omega) (by omega)
 ·exact Nat.lt_of_lt_of_le (Nat.mul_lt_mul_of_pos_left h3 hx) (Nat.mul_le_mul_right _ (by omega))
theorem Bu{A:Nat}{b:List Nat}{L s i:Nat}{a q:List Nat}(h:nC A b L s (i+1) a q)(hb:b.length=s+2)(hbl:∀g∈b,g<1000000000){a1:List Nat}{g c:Nat}
  (hs:xN a b g i b.length a1 c) (hc:a1.getD (i+(s+2)) 0<c):0<g:=by
 have hV:=tY h hb hbl;obtain⟨s1,s2,s3,s4,s5⟩:=hs;rw[hb] at s4;rw[hb] at s5;have hz:aI (a.drop (i+(s+2)+1))=0:=gP (by rw[show i+(s+2)+1=i+s+3 by omega];exact hV);have z1:aI (a1.drop (i+(s+2)+1))=0:=by rw[jL s4];exact hz
 have e1:=fC a1 (i+(s+2));rw[eM,z1,Nat.mul_zero,Nat.add_zero (a1.getD (i+(s+2)) 0)] at e1;have l1:=jJ s2 (i+(s+2));rcases Nat.eq_zero_or_pos g with rfl|h0
 ·exfalso;rw[Nat.zero_mul,Nat.zero_mul,Nat.add_zero (aI a1),e1] at s5;have h2:=Nat.mul_le_mul_right (1000000000^(i+(s+2))) hc;rw[Nat.succ_mul,Nat.mul_comm] at h2;clear hc e1 hV h s4 z1 hz s1 s2 s3;generalize a1.getD (i+(s+2)) 0=u at *;generalize 1000000000^(i+(s+2))=P at *;generalize aI (a1.take (i+(s+2)))=m at *;generalize c*P=cp at *;generalize P*u=pu at *;generalize aI a=ga at *;omega
 ·exact h0
theorem Aj(x y:Nat)(a a':Option Addr)(cap cap':Nat)(w:World)(hy:2<=(aC y).length)(hxy:y<=x)(h1:(aC x).length<=10000000000)
  (hr:dT w a (gs (aC x))) (hr':dT w a' (gs (aC y))) :
  Calls prog 213 #[.slice a (aC x).length cap,.slice a' (aC y).length cap'] w fun e w'=>∃b b' c c',e=.returned (.tuple #[.slice b (aC (x/y)).length c,.slice b' (aC (x%y)).length c'])/\(aC (x/y)).length<=c/\(aC (x%y)).length<=c'/\eO w.heap.size b/\eO w.heap.size b'/\dT w' b (gs (aC (x/y)))/\dT w' b' (gs (aC (x%y)))/\Below w.heap.size w w':=by
 have hlen:=bP hxy;have HC:=Hd (iX (aC x) (aC y) a a' cap cap' w (by omega) (by omega) (aO x) (aO y) hr hr');have hv:¬ jQ (aC x) (aC y)<0:=by rw[nO];omega
 generalize jQ (aC x) (aC y)=cv at *;obtain⟨b0,off0,ha0,hlt0,hc0⟩:=hr'.cell (Br _ _) (k:=(aC y).length-1) (by omega);have htop:=Hc (s:=(aC y).length-2) (bP5 y) (by omega);rw[show (aC y).length-2+1=(aC y).length-1 by omega] at htop;have htl:=bV (aO y) ((aC y).length-1);generalize(aC y).getD ((aC y).length-1) 0=v at *;obtain⟨sc,hsc⟩:∃sc,sc=1000000000/(v+1):=⟨_,rfl⟩
 have hs0:0<sc:=by rw[hsc];exact Nat.div_pos (by omega) (by omega)
 have hs1:sc<1000000000:=by
  have:sc<=1000000000/2:=by rw[hsc];exact Nat.div_le_div_left (by omega) (by decide)
  omega
 have esc:(1000000000:Int)/((v:Int)+1)=(sc:Int):=by rw[hsc];simp
 have hgs:=jK sc hs0 hs1;have hT1:=fun B W (hb:Below w.heap.size w W) (hR:dT W (some ⟨B,0,none⟩) (gs [sc]))=>uR x sc a (some ⟨B,0,none⟩) cap 1 W (by omega) (by rw[hgs];simp) (hr.below hb) (by rw[hgs];exact hR)
 have hT2:=fun B W (hb:Below w.heap.size w W) (hR:dT W (some ⟨B,0,none⟩) (gs [sc]))=>uR y sc a' (some ⟨B,0,none⟩) cap' 1 W (by omega) (by rw[hgs];simp) (hr'.below hb) (by rw[hgs];exact hR)
 rw[hgs] at hT1 hT2;simp only[List.length_singleton] at hT1 hT2;have HT1:=Hd hT1;have HT2:=Hd hT2;have eq1:Hid (x/y=(x*sc)/(y*sc)):=(Nat.mul_div_mul_right x y hs0).symm;have eq2:Hid (x%y=(x*sc)%(y*sc)/sc):=by show _=_;rw[Nat.mul_mod_mul_right,Nat.mul_div_cancel _ hs0]
 have hYX:y*sc<=x*sc:=Nat.mul_le_mul_right _ hxy;have hyY:y<=y*sc:=Nat.le_mul_of_pos_right _ hs0;have hl1:=bP hYX;have hl2:=bP hyY;have hl3:(aC (x*sc)).length<=100000000000:=by have h:=Ch x sc;rw[hgs] at h;simp at h;omega
 rw[eq1.out,eq2.out];clear hT1 hT2 hsc hgs eq1 eq2 hYX hyY hr hr';generalize x*sc=X at *;generalize y*sc=Y at *;obtain⟨G,hG⟩:∃G,G=aC X:=⟨_,rfl⟩
 obtain⟨H,hH⟩:∃H,H=aC Y:=⟨_,rfl⟩
 have HGV:Hid (aI G=X/\aI H=Y):=by rw[hG,hH];exact⟨aQ X,aQ Y⟩
 have HGL:Hid (∀g∈G,g<1000000000):=by rw[hG];exact aO X
 have HHL:Hid (∀g∈H,g<1000000000):=by rw[hH];exact aO Y
 have hHt:=bP5 Y;rw[<-hG] at HT1 hl1 hl3;rw[<-hH] at HT2 hl1 hl2 hHt;obtain⟨K,hK⟩:∃K,K=H.length:=⟨_,rfl⟩
 obtain⟨s,hs⟩:∃s,K=s+2:=⟨K-2,by omega⟩
 have HPOS:=Hd (Hc hHt (by rw[<-hK];exact hs));have HST:=Hd (Ik (s:=s) (b:=H) HGL.out (by omega) HPOS.out);obtain⟨gl,hgl⟩:∃gl,gl=G.length:=⟨_,rfl⟩
 obtain⟨L,hL⟩:∃L,L=gl+2:=⟨_,rfl⟩
 rw[<-hgl] at HT1 HST hl1 hl3;have HGLEN:=Hd hgl;rw[<-hK] at HT2 hl1 hl2;have HKS:=Hd (And.intro hs (And.intro hK hL));have hKL:K+2<=L:=by omega
 have hL3:L<=200000000000:=by omega
 have hK2:2<=K:=by omega
 have hmk:=fun W=>qE (L-K) (L-K) (Nl _) (by omega) W
 rw[show ((L-K:Nat):Int)=(L:Int)-K by omega] at hmk;have hGl:gl+2=L:=hL.symm;clear hs hK hL hHt hG hH hl1 hl2 hgl;generalize(aC x).length=p at *;generalize(aC y).length=q at *;subst ha0;have hc0':∀n,(w.drewN n).cell? ⟨b0,off0+(q-1),none⟩=some (.int .u64 (v:Int)):=fun n=>hc0
 have hq1:(q:Int)-1<q:=by omega
 go_enter func213,ntmps213;go_wp2_with fail;refine HC.out.mono ?_;rintro e w1 ⟨rfl,n,rfl⟩;have HB:=Hd (aD (Br w.heap.size w) n);have hc1:(w.drewN n).cell? ⟨b0,off0+(q-1),none⟩=some (.int .u64 (v:Int)):=hc0;generalize w.drewN n=W at *;clear hc0 hc0';obtain⟨i0,hi,hz0,hz1,hz2⟩:=info_parts pB;go_wp2_with fail;refine(HT1.out _ _ ?_ ?_).mono ?_
 ·exact HB.out.alloc HB.out.size _
 ·exact eC (q:=[]) (heap_alloc_new W _)
 rintro e w3 ⟨b3,c3,rfl,hgc,hc3,hb3,⟨z3,hG3,hcz⟩,hB3⟩;have HB3:=Hd ((HB.out.alloc HB.out.size (.cells #[.int .u64 (sc:Int)] 144)).trans (hB3.mono (by have:=HB.out.size;simp;omega)));have hb3':w.heap.size<=b3:=by have:=HB.out.size;simp at hb3;omega
 have hown:=Gp (base:=w.heap.size) hG3 hb3' hcz (by unfold maxLen;omega);rw[<-HGLEN.out] at hown;have HOWN:=Hd hown;have hz3:=HB3.out.size;clear hG3 hcz hB3 hown hc1;go_wp2_with (at_builtin;refine wpList_append_own _ rfl _ _ 95 rfl w.heap.size 144 i0 (.int .u64 0) 1 8 underlying95 hi hz0 hz1 hz2 rfl (by decide) _ _ _ rfl (HOWN.out.alloc _) ⟨w3.heap.size,0,none⟩ 2 2 [.int .u64 0,.int .u64 0] rfl rfl ?c1 ?c2 ?c3 ?c4 ?c5 ?_)
 case c1 =>
  intro j u hj
  match j,hj with
  |0,hj=>simp at hj;subst hj;simp[Addr.add]
  |1,hj=>simp at hj;subst hj;simp[Addr.add]
 case c2=>intro u hu;simp at hu;subst hu;rfl
 case c3=>unfold maxLen;omega
 case c4=>omega
 case c5=>simp;omega
 intro v' w4 hown' hgrow _;have hGB:gs G ++ [.int .u64 0,.int .u64 0]=gs (G ++ [0,0]):=by rw[gY];rfl
 rw[hGB] at hown';obtain⟨ga,capA,zA,rfl,hga,hLA,hcA,hA⟩:=Ee hown' (by omega);have HB4:=Hd ((HB3.out.alloc hz3 _).grown hgrow (by simp;omega) (fun q hq=>by simp[Value.ownBlock] at hq;omega));have HA:=Hd hA;clear hown' hgrow hA HOWN hGB;go_wp2_with fail;refine(HT2.out _ _ ?_ ?_).mono ?_
 ·exact HB4.out.alloc HB4.out.size _
 ·exact eC (q:=[]) (heap_alloc_new w4 _)
 rintro e w5 ⟨gb,capB,rfl,hKB,hcB,hgb,⟨z5,hG5,_⟩,hB5⟩;have HB5:=Hd ((HB4.out.alloc HB4.out.size (.cells #[.int .u64 (sc:Int)] 144)).trans (hB5.mono (by have:=HB4.out.size;simp;omega)));have HA5:=Hd ((HA.out.below ((Br _ _).alloc (Nl _) (.cells #[.int .u64 (sc:Int)] 144))).below hB5);have HD5:Hid (fF w5 gb H (gs z5)):=by unfold mM at hG5;rw[gY] at hG5;exact hG5
 have hab:ga<gb:=by have:=HA.out.lt;simp at hgb;omega
 clear hG5 hB5 HB4 HA;have hga5:=HA5.out.lt;have hgb5:=HD5.out.lt;obtain⟨gq,hgq⟩:∃gq,gq=w5.heap.size:=⟨_,rfl⟩
 have hmk5:=hmk w5;rw[<-hgq] at hmk5;have hw5:=HB5.out.size;obtain⟨W6,hW6⟩:∃W6,W6=w5.alloc (.cells (jR (L-K)).toArray 144):=⟨_,rfl⟩
 rw[<-hW6] at hmk5;have HQ6:Hid (mM W6 gq (List.replicate (L-K) 0)):=by rw[hW6,hgq];exact mM.made w5 (L-K)
 have HA6:Hid (fF W6 ga (G ++ [0,0]) zA):=by rw[hW6];exact HA5.out.below ((Br _ _).alloc (Nl _) _)
 have HD6:Hid (fF W6 gb H (gs z5)):=by rw[hW6];exact HD5.out.below ((Br _ _).alloc (Nl _) _)
 have HB6:Hid (Below w.heap.size w W6):=by rw[hW6];exact HB5.out.alloc hw5 _
 have hbq:gb<gq:=by omega
 have hwq:w.heap.size<=gq:=by omega
 have hwb:w.heap.size<=gb:=by omega
 have HS0:Hid (nC (aI G) H L s (L-K) (G ++ [0,0]) (List.replicate (L-K) 0)):=by have h:=HST.out;rw[<-HKS.out.1,hGl] at h;exact h
 clear HST hmk hgq hW6 HA5 HD5 HB5 hgb hga5 hgb5 hw5 HB3;generalize w5.heap.size=sz5 at *;go_wp2_with fail;clear hmk5;go_loopw [13] (fun iv wr=>∃(j:Nat) (aa qq:List Nat),j<=L-K/\iv=.int .i64 ((j:Int)-1)/\Hid (nC (aI G) H L s j aa qq)/\Hid (fF wr ga aa zA)/\Hid (fF wr gb H (gs z5))/\Hid (mM wr gq qq)/\Hid (Below w.heap.size w wr)) (fun iv _=>(intOf iv+1).toNat)
 case atStart=>exact⟨L-K,_,_,Nl _,by go_num,HS0,HA6,HD6,HQ6,HB6⟩
 case round =>
  clear HS0 HA6 HD6 HQ6 HB6;obtain⟨j,aa,qq,hj,rfl,HS,HA,HD,HQ,HB⟩:=hrel;rcases Nat.eq_zero_or_pos j with rfl|hpos
  ·have hend:=Re HS.out (by rw[<-HKS.out.2.1];exact HKS.out.1) HHL.out;rw[HGV.out.1,HGV.out.2,<-HKS.out.1] at hend;have hal:=HS.out.1;have htk:(aa.take K).length=K:=by rw[List.length_take];omega
   have hrA:dT wr (some ⟨ga,0,none⟩) (gs (aa.take K)):=by
    have h:=HA.out.row;rw[<-List.take_append_drop K aa,gY] at h;exact h.take
   have hcut1:=uC (aa.take K) (some ⟨ga,0,none⟩) capA wr (by omega) (by omega) hrA;have hrA2:=tH hrA;rw[htk,hend.2] at hcut1;rw[hend.2] at hrA2;have hgl2:(aC (X%Y)).length<=K:=by rw[<-hend.2];exact Nat.le_trans (iW _) (by omega)
   have hsing:=yN (X%Y) sc (some ⟨ga,0,none⟩) capA wr (by omega) hs0 hs1 hrA2;have hql:qq.length=L-K:=by rw[HS.out.2.2.1,HKS.out.1]
   have hcut2:=fun W (hb:Below wr.heap.size wr W)=>uC qq (some ⟨gq,0,none⟩) (L-K) W (by omega) (by omega) (HQ.out.row.below hb)
   rw[hql,hend.1] at hcut2;have HC1:=Hd hcut1;have HC2:=Hd hcut2;have HSG:=Hd hsing;have HE:=Hd (And.intro hend hql);have hKA:K<=capA:=by omega
   clear hcut1 hcut2 hsing hend hql hgl2 hrA hrA2 htk hal;generalize(aC (X%Y)).length=rl at *;go_wp2_with fail;refine HC1.out.mono ?_;rintro e w7 ⟨rfl,rfl⟩;go_wp2_with fail;refine HSG.out.mono ?_;rintro e w8 ⟨b8,c8,rfl,hl8,hb8,hr8,hB8⟩;have HR8:=Hd hr8;clear hr8;go_wp2_with fail;refine(HC2.out _ hB8).mono ?_;rintro e w9 ⟨rfl,rfl⟩;go_wp2;go_ret2;have hsz:=HB.out.size;refine⟨some ⟨gq,0,none⟩,some ⟨b8,0,none⟩,L-K,c8,rfl,?_,hl8,eO.of hwq,eO.of (by omega),?_,HR8.out,HB.out.trans (hB8.mono hsz)⟩
   ·rw[<-HE.out.1.1,<-HE.out.2];exact iW _
   ·rw[<-HE.out.1.1];exact tH (HQ.out.row.below hB8)
  ·obtain⟨i,rfl⟩:∃i,j=i+1:=⟨j-1,by omega⟩
   have hal:=HS.out.1;have hHl:H.length=s+2:=by rw[<-HKS.out.2.1];exact HKS.out.1
   have hKs:=HKS.out.1;have ca2:=HA.out.cell (show i+K<aa.length by omega);have ca1:=HA.out.cell (show i+K-1<aa.length by omega);have ca0:=HA.out.cell (show i+K-2<aa.length by omega);have cb1:=HD.out.cell (show K-1<H.length by omega);have cb0:=HD.out.cell (show K-2<H.length by omega);have l2:=bV HS.out.2.1 (i+K);have l1:=bV HS.out.2.1 (i+K-1);have l0:=bV HS.out.2.1 (i+K-2);have m1:=bV HHL.out (K-1);have m0:=bV HHL.out (K-2);have mp:=HPOS.out;have e2:i+K=i+s+2:=by omega
   have e1:i+K-1=i+s+1:=by omega
   have e0:i+K-2=i+s:=by omega
   have f1:K-1=s+1:=by omega
   have f0:K-2=s:=by omega
   have hgs:=Hl HS.out hHl HHL.out HPOS.out;have hgl:=fun g=>Lk (g:=g) HS.out hHl HHL.out
   have hge:=fun g=>Qw (g:=g) HS.out hHl HHL.out HPOS.out
   rw[<-e2,<-e1,<-f1] at hgs;rw[<-e2,<-e1,<-e0,<-f1,<-f0] at hgl hge;rw[<-f1] at mp;generalize aa.getD (i+K) 0=u2 at *;generalize aa.getD (i+K-1) 0=u1 at *;generalize aa.getD (i+K-2) 0=u0 at *;generalize H.getD (K-1) 0=v1 at *;generalize H.getD (K-2) 0=v0 at *;have HGS:=Hd hgs;have HGLS:=Hd hgl;have HGE:=Hd hge;clear e2 e1 e0 f1 f0 hKs hHl hal hgs hgl hge;obtain⟨wo,hwo⟩:∃wo,wo=wr:=⟨_,rfl⟩
   subst hwo;obtain⟨tp,htp⟩:∃tp,tp=u2*1000000000+u1:=⟨_,rfl⟩
   have tpe:(u2:Int)*1000000000+u1=(tp:Int):=by omega
   have tb:tp<1000000000000000000:=by omega
   obtain⟨td,htd⟩:∃td,td=tp/v1:=⟨_,rfl⟩
   have tde:(tp:Int)/(v1:Int)=(td:Int):=by rw[htd];simp
   rw[<-htp,<-htd] at HGS;rw[<-htp] at HGLS HGE;have htl:td<=tp:=by rw[htd];exact Nat.div_le_self _ _
   obtain⟨g0,hg0⟩:∃g0,g0=min td 999999999:=⟨_,rfl⟩
   have hmin:(if(999999999:Int)<(td:Int) then(999999999:Int) else(td:Int))=(g0:Int):=by rw[hg0];split <;> omega
   rw[<-hg0] at HGS;have hgv:g0*v1<=tp:=by
    have h1:td*v1<=tp:=by rw[htd];exact Nat.div_mul_le_self _ _
    exact Nat.le_trans (Nat.mul_le_mul_right _ (by omega)) h1
   have HGV0:=Hd hgv;have hg9:g0<=999999999:=by omega
   clear htd htp hg0 hgv;have hv1:(1:Int)<=(v1:Int):=by omega
   go_wp2_with fail;go_quiet (fail);clear tpe;go_wp2_with fail;clear tde hmin htl ca1 ca2 l1;go_loopw [15] (fun gv wr=>∃(g nn:Nat),gv=.int .u64 (g:Int)/\g<=999999999/\wr=wo.drewN nn/\Hid (g*v1<=tp)/\Hid (pR (aI aa) H i g)) (fun gv _=>(intOf gv).toNat)
   case atStart=>exact⟨g0,_,rfl,hg9,rfl,HGV0,HGS⟩
   case round =>
    clear HGV0 HGS hg9;obtain⟨g,nn,rfl,hg9,rfl,HGV0,HGS⟩:=hrel;obtain⟨gv,hgv⟩:∃gv,gv=g*v1:=⟨_,rfl⟩
    obtain⟨gw,hgw⟩:∃gw,gw=g*v0:=⟨_,rfl⟩
    have egv:(g:Int)*(v1:Int)=(gv:Int):=by rw[hgv];simp
    have egw:(g:Int)*(v0:Int)=(gw:Int):=by rw[hgw];simp
    have hgwb:gw<=999999998000000001:=by rw[hgw];exact Nat.le_trans (Nat.mul_le_mul hg9 (show v0<=999999999 by omega)) (by decide)
    have hgvt:=HGV0.out;rw[<-hgv] at hgvt;obtain⟨lf,hlf⟩:∃lf,tp=gv+lf:=⟨tp-gv,by omega⟩
    have elf:(tp:Int)-(gv:Int)=(lf:Int):=by omega
    have hlb:lf<1000000000000000000:=by omega
    have HPR:Hid (g*(v1*1000000000+v0)=gv*1000000000+gw):=by show _=_;rw[hgv,hgw,Nat.mul_add,Nat.mul_assoc]
    have HG0:Hid (g=0->gw=0):=by rw[hgw];rintro rfl;simp
    have HLF:=Hd hlf;clear hgv hgw hlf hgvt
    by_cases hstop:1000000000<=lf∨gw<=lf*1000000000+u0
    ·have HEND:Hid (∀g',g=g'+1->g'*(aI H*1000000000^i)<=aI aa):=by
      rintro g' rfl;refine HGE.out g' HGS.out ?_;rw[HPR.out,HLF.out];omega
     have hAB:(decide ((1000000000:Int)<=(lf:Int))=true/\True)∨(decide ((1000000000:Int)<=(lf:Int))=false/\(lf:Int)<1000000000/\(gw:Int)<=(lf:Int)*1000000000+u0):=by
      by_cases hA:1000000000<=lf
      ·left;refine⟨?_,trivial⟩;simp;omega
      ·right;refine⟨?_,by omega,by omega⟩;simp;omega
     clear hstop HPR HLF HGLS HGE HGV0 HG0;rcases hAB with⟨hA2,_⟩|⟨hA2,hA3,hC2⟩
     all_goals
      go_wp2_with fail;go_quiet (fail);go_wp2_with fail;clear hA2 egv egw elf cb1 ca0 cb0 hgwb hlb l0 m1 m0 mp l2 tb hv1;go_loopw [17,136] (fun cy iv wr=>∃(t:Nat) (a1:List Nat) (c:Nat),t<=K/\iv=.int .i64 (t:Int)/\cy=.int .u64 (c:Int)/\c<=999999999/\Hid (xN aa H g i t a1 c)/\Hid (fF wr ga a1 zA)/\Hid (fF wr gb H (gs z5))/\Hid (mM wr gq qq)/\Hid (Below w.heap.size w wr)) (fun _ iv _=>K-(intOf iv).toNat)
      case atStart=>exact⟨0,aa,0,Nat.zero_le _,rfl,rfl,by decide,Js aa H g i HS.out.2.1,HA,HD,HQ,aD HB.out _⟩
      case round =>
       clear HA HD HQ HB;obtain⟨t,a1,c,ht,rfl,rfl,hc9,HSB,HA,HD,HQ,HB⟩:=hrel;have hal1:a1.length=L:=by rw[HSB.out.1];exact HS.out.1
       have hHl:=HKS.out.2.1
       by_cases htK:t<K
       ·have ca:=HA.out.cell (show i+t<a1.length by omega);have cb:=HD.out.cell (show t<H.length by omega);have fa:=HA.out.frozen (i+t);have lx:=bV HSB.out.2.1 (i+t);have ly:=bV HHL.out t;have HSS:=Hd (fun v c'=>Jt HSB.out (show t<H.length by omega) (show i+t<aa.length by rw[HS.out.1];omega) hg9 HHL.out v c');have HAS:=Hd (fun (u1 u2:Nat) {v1 v2:Int}(h1:v1=u1) (h2:v2=u2)=>(HA.out.set (k:=i+t) (by omega) u1 h1).set (k:=i+t) (by rw[List.length_set];omega) u2 h2);have HAS1:=Hd (fun (u2:Nat) {v2:Int}(h2:v2=u2)=>HA.out.set (k:=i+t) (by omega) u2 h2);generalize a1.getD (i+t) 0=x at *;generalize H.getD t 0=y at *;obtain⟨gy,hgy⟩:∃gy,gy=g*y:=⟨_,rfl⟩
        have egy:(g:Int)*(y:Int)=(gy:Int):=by rw[hgy];simp
        have hgyb:gy<=999999998000000001:=by rw[hgy];exact Nat.le_trans (Nat.mul_le_mul hg9 (show y<=999999999 by omega)) (by decide)
        rw[<-hgy] at HSS;clear hgy hal1 hHl;have hne1:gb≠ga:=by omega
        have hne2:gq≠ga:=by omega
        have hwa:w.heap.size<=ga:=hga
        by_cases hlt:x<(gy+c)%1000000000
        ·have hlt':(x:Int)<((gy:Int)+c)%1000000000:=by omega
         have HX:=Hd hlt;clear hlt;go_wp2;refine⟨⟨t+1,_,(gy+c)/1000000000+1,by omega,by go_num,by go_num,?_,HSS.out (x+1000000000-(gy+c)%1000000000) _ (.inl ⟨HX.out,rfl,rfl⟩),?_,?_,?_,?_⟩,by simp[intOf];omega⟩
         ·omega
         ·have h:=HAS.out (x+1000000000) (x+1000000000-(gy+c)%1000000000) (v1:=(x:Int)+1000000000) (v2:=(x:Int)+1000000000-((gy:Int)+c)%1000000000) (by omega) (by have:=HX.out;omega);rw[List.set_set] at h;exact h
         ·exact fF.other (fF.other HD.out (p:=⟨ga,i+t,none⟩) hne1 _) (p:=⟨ga,i+t,none⟩) hne1 _
         ·exact mM.other (mM.other HQ.out (p:=⟨ga,i+t,none⟩) hne2 _) (p:=⟨ga,i+t,none⟩) hne2 _
         ·exact(HB.out.setCell (p:=⟨ga,i+t,none⟩) hwa _).setCell (p:=⟨ga,i+t,none⟩) hwa _
        ·have hlt':¬ (x:Int)<((gy:Int)+c)%1000000000:=by omega
         have HX:=Hd hlt;clear hlt;go_wp2;refine⟨⟨t+1,_,(gy+c)/1000000000,by omega,by go_num,by go_num,?_,HSS.out (x-(gy+c)%1000000000) _ (.inr ⟨HX.out,rfl,rfl⟩),?_,?_,?_,?_⟩,by simp[intOf];omega⟩
         ·omega
         ·exact HAS1.out (x-(gy+c)%1000000000) (v2:=(x:Int)-((gy:Int)+c)%1000000000) (by have:=HX.out;omega)
         ·exact fF.other HD.out (p:=⟨ga,i+t,none⟩) hne1 _
         ·exact mM.other HQ.out (p:=⟨ga,i+t,none⟩) hne2 _
         ·exact HB.out.setCell (p:=⟨ga,i+t,none⟩) hwa _
       ·have ett:K=t:=by omega
        subst ett;have hi:i<L-K:=by omega
        have hsK:=HKS.out.1;have HSB2:Hid (xN aa H g i H.length a1 c):=by have h:=HSB.out;rw[hHl] at h;exact h
        have cu:=HA.out.cell (show i+K<a1.length by omega);have fu:=HA.out.frozen (i+K);have lu:=bV HSB.out.2.1 (i+K);have hql:qq.length=L-K:=by rw[HS.out.2.2.1,<-hsK]
        have cq:=HQ.out.cell (show i<qq.length by omega);have fq:=HQ.out.frozen i;have HFIT:=Hd (fun hc=>Zs HS.out (by rw[<-hHl];exact hsK) (by rw[<-hsK];exact hi) HGS.out HSB2.out hc);have HNEG:=Hd (fun hc=>Bu HS.out (by rw[<-hHl];exact hsK) HHL.out HSB2.out hc);have HBACK:=Hd (fun (a2:List Nat) (d:Nat) hc (hk:vP a1 H i H.length a2 d)=>Vg HS.out (by rw[<-hHl];exact hsK) HHL.out (by rw[<-hsK];exact hi) HGS.out HEND.out HSB2.out hc hk);rw[<-hsK] at HFIT HNEG HBACK;generalize a1.getD (i+K) 0=u at *;generalize qq.getD i 0=q0 at *;have hne1:gb≠ga:=by omega
        have hne2:gq≠ga:=by omega
        have hne3:gq≠gb:=by omega
        have hwa:w.heap.size<=ga:=hga;have hiL:(i:Int)+K<L:=by omega
        clear hsK HSB2
        by_cases hcu:c<=u
        ·have HF:=Hd (HFIT.out hcu);have HQS:=Hd (fun (W:World) (h:mM W gq qq)=>h.set i g (v:=(g:Int)) rfl);have HAS:=Hd (HA.out.set (k:=i+K) (by omega) (u-c) (v:=(u:Int)-c) (by omega));clear HFIT HNEG HBACK hal1 hHl hql;go_wp2;refine⟨⟨i,_,_,by omega,by go_num,HF,?_,?_,?_,?_⟩,by simp[intOf]⟩
         ·exact fF.other HAS.out (p:=⟨gq,i,none⟩) (by show ga≠gq;omega) _
         ·exact fF.other (fF.other HD.out (p:=⟨ga,i+K,none⟩) hne1 _) (p:=⟨gq,i,none⟩) (by show gb≠gq;omega) _
         ·exact HQS.out _ (mM.other HQ.out (p:=⟨ga,i+K,none⟩) hne2 _)
         ·exact(HB.out.setCell (p:=⟨ga,i+K,none⟩) hwa _).setCell (p:=⟨gq,i,none⟩) hwq _
        ·have hg1:1<=g:=HNEG.out (by omega);have HBK:=Hd (fun a2 d hk=>HBACK.out a2 d (by omega) hk);have HCU:=Hd hcu;have H0:=Hd (Iu a1 H i HSB.out.2.1);have HA1L:=Hd hal1;have HHH:=Hd hHl;clear HFIT HNEG HBACK hal1 hHl hql HGS HEND cq fq;go_wp2_with fail;clear cu fu;go_loopw [20,200] (fun cy iv wr=>∃(t:Nat) (a2:List Nat) (d:Nat),t<=K/\iv=.int .i64 (t:Int)/\cy=.int .u64 (d:Int)/\d<=1/\Hid (vP a1 H i t a2 d)/\Hid (fF wr ga a2 zA)/\Hid (fF wr gb H (gs z5))/\Hid (mM wr gq qq)/\Hid (Below w.heap.size w wr)) (fun _ iv _=>K-(intOf iv).toNat)
         case atStart=>exact⟨0,a1,0,Nat.zero_le _,rfl,rfl,by decide,H0,HA,HD,HQ,HB⟩
         case round =>
          clear HA HD HQ HB H0;obtain⟨t,a2,d,ht,rfl,rfl,hd1,HBA,HA,HD,HQ,HB⟩:=hrel;have hal2:a2.length=L:=by rw[HBA.out.1];exact HA1L.out
          have hHl:=HHH.out
          by_cases htK:t<K
          ·have ca:=HA.out.cell (show i+t<a2.length by omega);have cb:=HD.out.cell (show t<H.length by omega);have fa:=HA.out.frozen (i+t);have lx:=bV HBA.out.2.1 (i+t);have ly:=bV HHL.out t;have HSS:=Hd (Iv HBA.out (show t<H.length by omega) (show i+t<a1.length by rw[HA1L.out];omega) HHL.out);have HAS:=Hd (fun (u1 u2:Nat) {v1 v2:Int}(h1:v1=u1) (h2:v2=u2)=>(HA.out.set (k:=i+t) (by omega) u1 h1).set (k:=i+t) (by rw[List.length_set];omega) u2 h2);generalize a2.getD (i+t) 0=x at *;generalize H.getD t 0=y at *;clear hal2 hHl;have hit:(i:Int)+t<L:=by omega
           go_wp2_with fail;go_region;go_wp2;refine⟨⟨t+1,_,(x+(y+d))/1000000000,by omega,by go_num,by go_num,by omega,HSS,?_,?_,?_,?_⟩,by simp[intOf];omega⟩
           ·have h:=HAS.out (x+(y+d)) ((x+(y+d))%1000000000) (v1:=(x:Int)+((y:Int)+d)) (v2:=((x:Int)+((y:Int)+d))%1000000000) (by omega) (by omega);rw[List.set_set] at h;exact h
           ·exact fF.other (fF.other HD.out (p:=⟨ga,i+t,none⟩) hne1 _) (p:=⟨ga,i+t,none⟩) hne1 _
           ·exact mM.other (mM.other HQ.out (p:=⟨ga,i+t,none⟩) hne2 _) (p:=⟨ga,i+t,none⟩) hne2 _
           ·exact(HB.out.setCell (p:=⟨ga,i+t,none⟩) hwa _).drew.setCell (p:=⟨ga,i+t,none⟩) hwa _
          ·have ett:K=t:=by omega
           subst ett;have hB2:=HBK.out a2 d (by have h:=HBA.out;rw[hHl] at h;exact h);have cu:=HA.out.cell (show i+K<a2.length by omega);have fu:=HA.out.frozen (i+K);have lu:=bV HBA.out.2.1 (i+K);have hql:qq.length=L-K:=by rw[HS.out.2.2.1,<-HKS.out.1]
           have cq:=HQ.out.cell (show i<qq.length by omega);have fq:=HQ.out.frozen i;have HF:=Hd hB2.2.2;have hud:=hB2.2.1;have HAS:=Hd (fun (v:Int) (h:v=((0:Nat):Int))=>HA.out.set (k:=i+K) (by omega) 0 h);generalize a2.getD (i+K) 0=u' at *;generalize qq.getD i 0=q0 at *;have HQS:=Hd (fun (W:World) (h:mM W gq qq)=>h.set i (g-1) (v:=(g:Int)-1) (by omega));have hud':(c:Int)<=(u':Int)+d:=by omega
           have HUD:=Hd hud;clear hB2 hud hal2 hHl hql;go_wp2;refine⟨⟨i,_,_,by omega,by go_num,HF,?_,?_,?_,?_⟩,by simp[intOf]⟩
           ·exact fF.other (HAS.out _ (by have:=HUD.out;omega)) (p:=⟨gq,i,none⟩) (by show ga≠gq;omega) _
           ·exact fF.other (fF.other HD.out (p:=⟨ga,i+K,none⟩) hne1 _) (p:=⟨gq,i,none⟩) (by show gb≠gq;omega) _
           ·exact HQS.out _ (mM.other HQ.out (p:=⟨ga,i+K,none⟩) hne2 _)
           ·exact(HB.out.setCell (p:=⟨ga,i+K,none⟩) hwa _).setCell (p:=⟨gq,i,none⟩) hwq _
    ·have hA2:decide ((1000000000:Int)<=(lf:Int))=false:=by simp;omega
     have hA3:(lf:Int)<1000000000:=by omega
     have hC2:decide ((gw:Int)<=(lf:Int)*1000000000+u0)=false:=by simp;omega
     have hg1:1<=g:=by
      rcases Nat.eq_zero_or_pos g with h0|h0
      ·have:=HG0.out h0;omega
      ·exact h0
     have HCC:=Hd hstop;clear hstop;go_wp2_with fail;go_quiet (fail);go_wp2;obtain⟨g',rfl⟩:∃g',g=g'+1:=⟨g-1,by omega⟩
     refine⟨⟨g',_,by go_num,by omega,rfl,?_,?_⟩,by simp[intOf]⟩
     ·exact Nat.le_trans (Nat.mul_le_mul_right _ (by omega)) HGV0.out
     ·refine HGLS.out g' HGS.out ?_;rw[HPR.out,HLF.out];have:=HCC.out;omega
theorem pH(x y:Nat)(a a':Option Addr)(cap cap':Nat)(w:World)(hy:y≠0)(h1:(aC x).length<=10000000000)(h2:(aC y).length<=10000000000)(hcap:(aC x).length<=cap)
  (hr:dT w a (gs (aC x))) (hr':dT w a' (gs (aC y))) :
  Calls prog 213 #[.slice a (aC x).length cap,.slice a' (aC y).length cap'] w fun e w'=>∃b b' c c',e=.returned (.tuple #[.slice b (aC (x/y)).length c,.slice b' (aC (x%y)).length c'])/\(aC (x/y)).length<=c/\(aC (x%y)).length<=c'/\dT w' b (gs (aC (x/y)))/\dT w' b' (gs (aC (x%y)))/\Below w.heap.size w w':=by
 by_cases hxy:x<y
 ·refine(Cz x y a a' cap cap' w hxy (by omega) (by omega) hr hr').mono ?_;rintro e w' ⟨rfl,hb⟩;refine⟨none,a,0,cap,?_,?_,?_,?_,?_,hb⟩
  ·rw[Nat.div_eq_of_lt hxy,Nat.mod_eq_of_lt hxy,aT];rfl
  ·rw[Nat.div_eq_of_lt hxy,aT];exact Nat.zero_le _
  ·rw[Nat.mod_eq_of_lt hxy];exact hcap
  ·rw[Nat.div_eq_of_lt hxy,aT];exact .inl rfl
  ·rw[Nat.mod_eq_of_lt hxy];exact hr.below hb
 ·by_cases h2l:2<=(aC y).length
  ·refine(Aj x y a a' cap cap' w h2l (by omega) h1 hr hr').mono ?_;rintro e w' ⟨b,b',c,c',he,k1,k2,_,_,k3,k4,k5⟩;exact⟨b,b',c,c',he,k1,k2,k3,k4,k5⟩
  ·have hlt:y<1000000000:=by
    have h:=fW (aO y);rw[aQ] at h;have:1000000000^(aC y).length<=1000000000^1:=Nat.pow_le_pow_right (by decide) (by omega);omega
   have hg:=jK y (by omega) hlt;rw[hg] at hr' ⊢;refine(Ah x y a a' cap cap' w (by omega) hlt (by omega) (by omega) hr hr').mono ?_;rintro e w' ⟨b,b',c,c',he,k1,k2,_,_,k3,k4,k5⟩;exact⟨b,b',c,c',he,k1,k2,k3,k4,k5⟩
end Go.Proofs.YtiloklnjjfaagaaGreatDoor
