/- Ref21 Fine RefGains RefGains2 OpenGains -/
import Derived.Test.YtiloklnjjfaagaaGreatDoorUSplit
import Derived.Test.YtiloklnjjfaagaaGreatDoorURefAdd
set_option maxHeartbeats 16000000
set_option maxRecDepth 100000
namespace Go.Proofs.YtiloklnjjfaagaaGreatDoor
open Go.Proofs.Tryz
section
set_option linter.unusedSimpArgs false
open Go.RowKit Num Dt
attribute [local go_sem] eW eN aV nW
theorem Mu(l:List UInt8)(w:World)(hl:l.length<=9000000000000000000):
  Calls prog 128 #[.string ⟨l.toArray⟩] w fun e w'=>e=.returned (.bool (sP l))/\w=w':=by
 have ha:=Hd (Yp l);have hn:=Hd (Qv l);generalize sP l=r at *;go_enter func128,ntmps128;go_wp2;go_loop [3,4] (fun t i=>t=.int .i64 (-1)/\∃k:Nat,k<=l.length/\i=.int .i64 (k:Int)/\Hid (∀j,j<k->l.getD j 0≠47)) (fun _ i=>l.length-(intOf i).toNat)
 case atStart=>exact⟨rfl,0,Nat.zero_le _,rfl,fun j hj=>absurd hj (Nat.not_lt_zero j)⟩
 case round =>
  obtain⟨rfl,k,hk,rfl,hp⟩:=hrel
  by_cases hlt:k<l.length
  ·have hsz:k<(⟨l.toArray⟩:ByteArray).size:=by rw[aV];exact hlt
   have hgk:=Hd (gF l k hsz)
   by_cases n1:(((⟨l.toArray⟩:ByteArray)[k]'hsz).toNat:Int)=47
   ·have e1:Hid (l.getD k 0=47):=by
     show _=_;rw[<-hgk.out];apply UInt8.toNat.inj;have:((⟨l.toArray⟩:ByteArray)[k]'hsz).toNat=47:=by omega
     rw[this];rfl
    have HA:=Hd (ha.out k hlt e1.out hp.out);obtain⟨m,hm⟩:∃m,m=l.drop (k+1):=⟨_,rfl⟩
    have hsl:(l.drop (k+1)).take (l.length-(k+1))=m:=by rw[hm];exact List.take_of_length_le (by simp)
    have hml:m.length<=9000000000000000000:=by rw[hm];simp;omega
    rw[<-hm] at HA;have H1:=Hd (fun W=>mL (l.take k) W (by simp;omega));have hd:=Hd (show oL m=(decide (1<=m.length)&&decide (m.length<=4)&&m.all bF&&decide (m.head?≠some 48)) from rfl);clear hgk e1 ha hn hp hm;generalize dC (l.take k)=r1 at *;generalize oL m=r2 at *;cases r1
    ·go_wp2_with (go_at_call 47;refine(H1.out _).mono ?_;rintro e w1 ⟨rfl,rfl⟩);go_ret;exact⟨dG (by rw[HA.out];simp),rfl⟩
    ·go_wp2_with (go_at_call 47;refine(H1.out _).mono ?_;rintro e w1 ⟨rfl,rfl⟩);clear H1 hsl;go_loop [6] (fun i=>∃k:Nat,k<=m.length/\i=.int .i64 (k:Int)/\Hid (∀j,j<k->bF (m.getD j 0)=true)) (fun i=>m.length-(intOf i).toNat)
     case atStart=>exact⟨0,Nat.zero_le _,rfl,fun j hj=>absurd hj (Nat.not_lt_zero j)⟩
     case round =>
      obtain⟨j,hj,rfl,hp⟩:=hrel
      by_cases hltj:j<m.length
      ·have hszj:j<(⟨m.toArray⟩:ByteArray).size:=by rw[aV];exact hltj
       have hgk:=Hd (congrArg UInt8.toNat (gF m j hszj));have hdef:=Hd (dO (m.getD j 0));rw[<-hgk.out] at hdef
       by_cases n1:(((⟨m.toArray⟩:ByteArray)[j]'hszj).toNat:Int)<48
       ·have e1:bF (m.getD j 0)=false:=by cases hb:bF (m.getD j 0) with
         |false=>rfl
         |true=>have:=hdef.out.1 hb;omega
        have hs2:=Hd (fP hltj e1);clear hdef hgk e1;go_wp2;go_ret;exact⟨dG (by rw[HA.out,hd.out,hs2.out];simp),rfl⟩
       ·by_cases n2:(57:Int)<((⟨m.toArray⟩:ByteArray)[j]'hszj).toNat
        ·have e1:bF (m.getD j 0)=false:=by cases hb:bF (m.getD j 0) with
          |false=>rfl
          |true=>have:=hdef.out.1 hb;omega
         have hs2:=Hd (fP hltj e1);clear hdef hgk e1;go_wp2;go_ret;exact⟨dG (by rw[HA.out,hd.out,hs2.out];simp),rfl⟩
        ·have hs2:=Hd (tD (p:=fun j=>bF (m.getD j 0)=true) hp.out (hdef.out.2 (by omega)));clear hdef hgk;go_wp2;go_round
         case rel=>exact⟨j+1,by omega,by go_num,hs2⟩
         case measure=>simp[intOf];omega
      ·obtain rfl:j=m.length:=by omega
       have hs2:=Hd (oU hp.out)
       by_cases g1:1<=m.length
       ·have hsz0:0<(⟨m.toArray⟩:ByteArray).size:=by rw[aV];omega
        have hg0:=Hd (gF m 0 hsz0);have hh:=Hd (show m.head?=some (m.getD 0 0) by cases m with
         |nil=>simp at g1
         |cons a r=>simp)
        have g1':(1:Int)<=m.length:=by omega
        by_cases g2:(m.length:Int)<=4
        ·by_cases g3:((⟨m.toArray⟩:ByteArray)[0]'hsz0).toNat=48
         ·have g3':(((⟨m.toArray⟩:ByteArray)[0]'hsz0).toNat:Int)=48:=by omega
          have hx:Hid (r=false):=by
           show _=_;have e:m.getD 0 0=48:=by rw[<-hg0.out];apply UInt8.toNat.inj;simpa using g3
           rw[HA.out,hd.out,hh.out,e];simp
          clear hh hg0 hs2;go_wp2;go_ret;exact⟨dG (by rw[hx.out]),rfl⟩
         ·have g3':¬ (((⟨m.toArray⟩:ByteArray)[0]'hsz0).toNat:Int)=48:=by omega
          have hx:Hid (r=true):=by
           show _=_;have e:m.getD 0 0≠48:=fun h=>by rw[<-hg0.out] at h;rw[h] at g3;exact g3 rfl
           rw[HA.out,hd.out,hh.out,hs2.out];simp at e;simp[e];omega
          clear hh hg0 hs2;go_wp2;go_ret;exact⟨dG (by rw[hx.out];exact bne_iff_ne.2 g3'),rfl⟩
        ·have hx:Hid (r=false):=by show _=_;rw[HA.out,hd.out];simp;omega
         clear hh hg0 hs2;go_wp2;go_ret;exact⟨dG (by rw[hx.out]),rfl⟩
       ·have g1':¬ (1:Int)<=m.length:=by omega
        have hx:Hid (r=false):=by show _=_;rw[HA.out,hd.out];simp;omega
        go_wp2;go_ret;exact⟨dG (by rw[hx.out]),rfl⟩
   ·have e1:l.getD k 0≠47:=fun h=>by
     rw[<-hgk.out] at h;rw[h] at n1;exact n1 rfl
    have hs2:=Hd (tD (p:=fun j=>l.getD j 0≠47) hp.out e1);clear hgk e1;go_wp2;go_round
    case rel=>exact⟨rfl,k+1,by omega,by go_num,hs2⟩
    case measure=>simp[intOf];omega
  ·obtain rfl:k=l.length:=by omega
   go_wp2;go_ret;exact⟨dG (by rw[hn.out hp.out]),rfl⟩
theorem aMb(d:Int)(w:World):Calls prog 93 #[.int .i64 d] w fun e w'=>e=.returned (.int .i64 (if aLk d=true then 0 else 13))/\w=w':=by
 by_cases h:-25567<=d/\d<=84005
 ·rw[if_pos (by unfold aLk;simp[h])];exact Ref06.check_yes d w h.1 h.2
 ·rw[if_neg (by unfold aLk;simp;omega)];exact Ref06.check_no d w (by omega)
theorem aOf{l:List UInt8}(h:l.length<=13):(val l).natAbs<10000000000000:=Nat.lt_of_lt_of_le (yB l) (Nat.pow_le_pow_right (n:=10) (by decide) h)
theorem aNb(x:aLe)(w:World)(h1:x.p.length<=13)(h2:x.c.length<=13):
  Calls prog 97 #[x.v] w fun e w'=>e=.returned (.string ⟨(aJ x.loss).toArray⟩)/\Below w.heap.size w w':=by
 have hr:Hid (x.loss=if val x.c-val x.p<0 then 0 else val x.c-val x.p):=rfl;have hln:=Np (l:=x.c) (m:=x.p) (K:=1000) (by omega) (by omega);have v1:=aOf h1;have v2:=aOf h2;have H1:=Hd (fun W=>aOd x.c x.p W (by omega) (by omega) (by omega) (by omega));have H2:=Hd (fun W=>aL0 (aJ (val x.c-val x.p)) W (by omega));rw[bE] at H2;have hc:=Hd (Oo (val x.c-val x.p) 0);clear hln v1 v2;generalize x.loss=r at *;generalize val x.c-val x.p=z at *;have HB:=Hd (aB w (.cells #[.string ⟨x.cause.toArray⟩,.string ⟨x.lot.toArray⟩,.string ⟨x.ins.toArray⟩,.int .i64 x.acq,.int .i64 x.cls,.string ⟨x.q.toArray⟩,.string ⟨x.p.toArray⟩,.string ⟨x.c.toArray⟩,.string ⟨x.df.toArray⟩,.string ⟨x.rp.toArray⟩] 42));simp only[aLe.v,aLe.cs] at *;go_enter func97,ntmps97;go_wp2_with fail;refine(H1.out _).mono ?_;rintro e w1 ⟨rfl,rfl⟩;go_wp2_with fail;refine(H2.out _).mono ?_;rintro e w2 ⟨rfl,rfl⟩
 by_cases g:z<0
 ·have hr2:Hid (r=0):=by show _=_;rw[hr.out,if_pos g]
  have t1:=hc.out.2 g;generalize bG z 0=y at *;go_wp2;go_ret;exact⟨dW (by rw[hr2.out,nA];rfl),HB.out⟩
 ·have hr2:Hid (r=z):=by show _=_;rw[hr.out,if_neg g]
  have t1:=mt hc.out.1 g;have hcz:Hid (aJ r=aJ z):=by show _=_;rw[hr2.out]
  generalize bG z 0=y at *;generalize aJ z=cz at *;go_wp2;go_ret;exact⟨dW (by rw[hcz.out];rfl),HB.out⟩
theorem aMz(x:aLe)(w:World)(hs:x.small):
  Calls prog 72 #[x.v] w fun e w'=>e=.returned (.int .i64 x.err)/\Below w.heap.size w w':=by
 obtain⟨cause,lot,ins,acq,cls,q,p,c,df,rp⟩:=x;have hr:=Hd (aLe.err_mk cause lot ins acq cls q p c df rp);obtain⟨s1,s2,s3,s4,s5,s6,s7,s8⟩:=hs;simp only at s1 s2 s3 s4 s5 s6 s7 s8;have hlen:Hid ((aJ (aLe.mk cause lot ins acq cls q p c df rp).loss).length<=1002):=by
  show _<=_;unfold aLe.loss;split
  ·rw[nA];simp
  ·exact Np (l:=c) (m:=p) (K:=1000) (by omega) (by omega)
 have H1:=Hd (fun W=>mL cause W (by omega));have H2:=Hd (fun W=>Mu lot W (by omega));have H3:=Hd (fun W=>mL ins W (by omega));have H4:=Hd (fun W=>aMb acq W);have H4b:=Hd (fun W=>aMb cls W);have H5:=Hd (fun (s:List UInt8) W (h:s.length<=1000)=>Mw s W (by omega));have H6:=Hd (fun W=>aL0 q W (by omega));have H7:=Hd (fun W=>aL0 c W (by omega));have H8:=Hd (fun W=>aL0 rp W (by omega));have H9:=Hd (fun W=>iD rp q W (by omega) (by omega));have H10:=Hd (fun W=>aL0 df W (by omega));have H11:=Hd (fun W=>aNb ⟨cause,lot,ins,acq,cls,q,p,c,df,rp⟩ W (by simp;omega) (by simp;omega));have H12:=Hd (fun W=>iD df (aJ (aLe.mk cause lot ins acq cls q p c df rp).loss) W (by omega) (by have:=hlen.out;omega));rw[bE] at H12;have KB:=Hd (aP.new0 w #[.string ⟨cause.toArray⟩,.string ⟨lot.toArray⟩,.string ⟨ins.toArray⟩,.int .i64 acq,.int .i64 cls,.string ⟨q.toArray⟩,.string ⟨p.toArray⟩,.string ⟨c.toArray⟩,.string ⟨df.toArray⟩,.string ⟨rp.toArray⟩] 42);have HB:=Hd (aB w (.cells #[.string ⟨cause.toArray⟩,.string ⟨lot.toArray⟩,.string ⟨ins.toArray⟩,.int .i64 acq,.int .i64 cls,.string ⟨q.toArray⟩,.string ⟨p.toArray⟩,.string ⟨c.toArray⟩,.string ⟨df.toArray⟩,.string ⟨rp.toArray⟩] 42));have hnums:Hid (∀s,s∈[q,p,c,df,rp]->s.length<=1000):=by
  intro s hs;simp at hs;rcases hs with rfl|rfl|rfl|rfl|rfl <;> omega
 simp only[aLe.v,aLe.cs] at *;generalize aLe.err _=r at *;generalize(aLe.mk cause lot ins acq cls q p c df rp).loss=ls at *;generalize dC cause=b1 at *;generalize sP lot=b2 at *;generalize dC ins=b3 at *;generalize aLk acq=b4 at *;generalize aLk cls=b5 at *;go_enter func72,ntmps72;go_wp2_with fail;generalize w.alloc _=w1 at *;have k1:=KB.out.cell 1;have k2:=KB.out.cell 2;have k3:=KB.out.cell 3;have k4:=KB.out.cell 4;have k5:=KB.out.cell 5;have k6:=KB.out.cell 6;have k7:=KB.out.cell 7;have k8:=KB.out.cell 8;have k9:=KB.out.cell 9;refine(H1.out _).mono ?_;rintro e w2 ⟨rfl,rfl⟩;cases b1
 ·go_wp2;go_ret;exact⟨gG (by rw[hr.out];simp),HB.out⟩
 go_wp2_with fail;refine(H2.out _).mono ?_;rintro e w2 ⟨rfl,rfl⟩;cases b2
 ·go_wp2;go_ret;exact⟨gG (by rw[hr.out];simp),HB.out⟩
 go_wp2_with fail;refine(H3.out _).mono ?_;rintro e w3 ⟨rfl,rfl⟩;cases b3
 ·go_wp2;go_ret;exact⟨gG (by rw[hr.out];simp),HB.out⟩
 go_wp2_with fail;refine(H4.out _).mono ?_;rintro e w4 ⟨rfl,rfl⟩;cases b4
 ·simp only[Bool.false_eq_true,if_false];go_wp2;go_ret;exact⟨gG (by rw[hr.out];simp),HB.out⟩
 simp only[if_true];go_wp2_with fail;refine(H4b.out _).mono ?_;rintro e w4 ⟨rfl,rfl⟩;cases b5
 ·simp only[Bool.false_eq_true,if_false];go_wp2;go_ret;exact⟨gG (by rw[hr.out];simp),HB.out⟩
 simp only[if_true]
 by_cases g1:cls<acq
 ·go_wp2;go_ret;exact⟨gG (by rw[hr.out];simp[g1]),HB.out⟩
 have hr:Hid (r=if !([q,p,c,df,rp].all Hi) then 1
  else if val q<0∨val c<0∨val rp<0∨val q<val rp then 2
  else if val df<0∨ls<val df∨(rp=[]/\df ≠ []) then 2
  else 0):=by show _=_;rw[hr.out];simp[g1]
 go_wp2_with fail;have KN:=Hd (aP.new0 w1 #[.string ⟨q.toArray⟩,.string ⟨p.toArray⟩,.string ⟨c.toArray⟩,.string ⟨df.toArray⟩,.string ⟨rp.toArray⟩] 36);have KB:=Hd (KB.out.below (aB w1 (.cells #[.string ⟨q.toArray⟩,.string ⟨p.toArray⟩,.string ⟨c.toArray⟩,.string ⟨df.toArray⟩,.string ⟨rp.toArray⟩] 36)));have HB:=Hd (aA HB.out (aB w1 (.cells #[.string ⟨q.toArray⟩,.string ⟨p.toArray⟩,.string ⟨c.toArray⟩,.string ⟨df.toArray⟩,.string ⟨rp.toArray⟩] 36)));obtain⟨bn,hbn⟩:∃bn,bn=w1.heap.size:=⟨_,rfl⟩
 rw[<-hbn] at KN ⊢;clear k1 k2 k3 k4 k5 k6 k7 k8 k9 hbn H1 H2 H3 H4 H4b;generalize w1.alloc _=wn at *;go_loop [4] (fun i=>∃k:Nat,k<=5/\i=.int .i64 (k:Int)/\Hid (([q,p,c,df,rp].take k).all Hi=true)) (fun i=>5-(intOf i).toNat)
 case atStart=>exact⟨0,Nat.zero_le _,rfl,rfl⟩
 case round =>
  obtain⟨k,hk,rfl,hp⟩:=hrel
  by_cases hlt:k<5
  ·obtain⟨s,hs⟩:∃s,[q,p,c,df,rp][k]?=some s:=⟨[q,p,c,df,rp][k]'(by simpa using hlt),Lg _⟩
   have hsl:=hnums.out s (List.mem_of_getElem? hs);have k0:wn.cell? ⟨bn,k,none⟩=some (.string ⟨s.toArray⟩):=by
    rw[KN.out.cell k]
    match k,hlt,hs with
    |0,_,hs=>simp at hs;subst hs;rfl
    |1,_,hs=>simp at hs;subst hs;rfl
    |2,_,hs=>simp at hs;subst hs;rfl
    |3,_,hs=>simp at hs;subst hs;rfl
    |4,_,hs=>simp at hs;subst hs;rfl
   have HX:=Hd (fun h=>aL7 (p:=Hi) hs hp.out h);have HY:=Hd (fun h=>aM6 (p:=Hi) hs h);have H5:=Hd (fun W=>H5.out s W hsl);clear hs;go_wp2_with fail;refine(H5.out _).mono ?_;rintro e w4 ⟨rfl,rfl⟩;clear k0;cases hi:Hi s
   ·have hr:Hid (r=1):=by show _=_;rw[hr.out,HY.out hi];rfl
    simp only[Bool.false_eq_true,if_false];go_wp2;go_ret;exact⟨gG hr.out.symm,HB.out⟩
   ·simp only[if_true];go_wp2;go_round
    case rel=>exact⟨k+1,by omega,by go_num,HX.out hi⟩
    case measure=>simp[intOf];omega
  ·obtain rfl:k=5:=by omega
   have hr:Hid (r=if val q<0∨val c<0∨val rp<0∨val q<val rp then 2
    else if val df<0∨ls<val df∨(rp=[]/\df ≠ []) then 2
    else 0):=by show _=_;rw[hr.out,show [q,p,c,df,rp].all Hi=true from hp.out];rfl
   clear hp H5 KN;have k5:=KB.out.cell 5;have k7:=KB.out.cell 7;have k9:=KB.out.cell 9;go_wp2_with fail;refine(H6.out _).mono ?_;rintro e w5 ⟨rfl,rfl⟩;have hc6:=Hd (Oo (val q) 0)
   by_cases n1:val q<0
   ·have t1:=hc6.out.2 n1;generalize bG (val q) 0=y at *;go_wp2;go_ret;exact⟨gG (by rw[hr.out,if_pos (by simp[n1])]),HB.out⟩
   have tn1:=mt hc6.out.1 n1;generalize bG (val q) 0=yn1 at *;go_wp2_with fail;refine(H7.out _).mono ?_;rintro e w5 ⟨rfl,rfl⟩;have hc7:=Hd (Oo (val c) 0)
   by_cases n2:val c<0
   ·have t1:=hc7.out.2 n2;generalize bG (val c) 0=y at *;go_wp2;go_ret;exact⟨gG (by rw[hr.out,if_pos (by simp[n2])]),HB.out⟩
   have tn2:=mt hc7.out.1 n2;generalize bG (val c) 0=yn2 at *;go_wp2_with fail;refine(H8.out _).mono ?_;rintro e w5 ⟨rfl,rfl⟩;have hc8:=Hd (Oo (val rp) 0)
   by_cases n3:val rp<0
   ·have t1:=hc8.out.2 n3;generalize bG (val rp) 0=y at *;go_wp2;go_ret;exact⟨gG (by rw[hr.out,if_pos (by simp[n3])]),HB.out⟩
   have tn3:=mt hc8.out.1 n3;generalize bG (val rp) 0=yn3 at *;go_wp2_with fail;refine(H9.out _).mono ?_;rintro e w5 ⟨rfl,rfl⟩;have hc9:=Hd (aMq (val rp) (val q));clear k5 k7 k9
   by_cases n4:val q<val rp
   ·have t4:=hc9.out.2 n4;generalize bG (val rp) (val q)=z at *;go_wp2;go_ret;exact⟨gG (by rw[hr.out,if_pos (by simp[n4])]),HB.out⟩
   have t4:=mt hc9.out.1 n4;generalize bG (val rp) (val q)=z at *;have hr:Hid (r=if val df<0∨ls<val df∨(rp=[]/\df ≠ []) then 2 else 0):=by show _=_;rw[hr.out,if_neg (by simp[n1,n2,n3,n4])]
   clear n1 n2 n3 n4 hc9;have hc12:=Hd (aMq (val df) ls);have hc10:=Hd (Oo (val df) 0)
   by_cases m1:val df<0
   ·have t10:decide (bG (val df) 0<0)=true:=decide_eq_true (hc10.out.2 m1);have t10':=hc10.out.2 m1;have hr:Hid (r=2):=by show _=_;rw[hr.out,if_pos (.inl m1)]
    clear m1 hc10;generalize bG (val df) 0=zd at *;go_wp2_with fail;refine wp_region_held_drew (S:=(fun W=>W.cell? ⟨w.heap.size,0,none⟩=some (.string ⟨cause.toArray⟩)/\W.cell? ⟨w.heap.size,1,none⟩=some (.string ⟨lot.toArray⟩)/\W.cell? ⟨w.heap.size,2,none⟩=some (.string ⟨ins.toArray⟩)/\W.cell? ⟨w.heap.size,3,none⟩=some (.int .i64 acq)/\W.cell? ⟨w.heap.size,4,none⟩=some (.int .i64 cls)/\W.cell? ⟨w.heap.size,5,none⟩=some (.string ⟨q.toArray⟩)/\W.cell? ⟨w.heap.size,6,none⟩=some (.string ⟨p.toArray⟩)/\W.cell? ⟨w.heap.size,7,none⟩=some (.string ⟨c.toArray⟩)/\W.cell? ⟨w.heap.size,8,none⟩=some (.string ⟨df.toArray⟩)/\W.cell? ⟨w.heap.size,9,none⟩=some (.string ⟨rp.toArray⟩))) (by kernel_rfl) ?hS1 (fun hHeld=>?hR1)
    case hS1=>exact⟨KB.out.cell 0,KB.out.cell 1,KB.out.cell 2,KB.out.cell 3,KB.out.cell 4,KB.out.cell 5,KB.out.cell 6,KB.out.cell 7,KB.out.cell 8,KB.out.cell 9⟩
    refine In 0 (some 83) rfl rfl ?_;simp only[pS];refine In 1 (some 84) rfl rfl ?_;simp only[pS];refine rd1 2 rfl (fun K hK=>?_);go_simp;go_at_call 130;refine(H10.out _).mono ?_;rintro e w6 ⟨rfl,hb6⟩;subst hb6;go_wp2_with fail;refine hK.out _ _ ?hS4 (fun hHeld=>?hR4)
    case hS4=>exact⟨KB.out.cell 0,KB.out.cell 1,KB.out.cell 2,KB.out.cell 3,KB.out.cell 4,KB.out.cell 5,KB.out.cell 6,KB.out.cell 7,KB.out.cell 8,KB.out.cell 9⟩
    try simp only[pS]
    refine In 3 (some 86) rfl rfl ?_;simp only[pS];refine In 4 (some 87) rfl rfl ?_;simp only[pS];refine tu 5 (some 88) rfl rfl ?_;simp only[pS];refine tu 6 (some 89) rfl rfl ?_;simp only[pS];refine tu 7 (some 90) rfl rfl ?_;simp only[pS];refine tu 8 (some 91) rfl rfl ?_;simp only[pS];refine tu 9 (some 92) rfl rfl ?_;simp only[pS];refine tu 10 (some 93) rfl rfl ?_;simp only[pS];refine In 11 (some 94) rfl rfl ?_;simp only[pS];refine In 12 (some 95) rfl rfl ?_;simp only[pS];refine tu 13 (some 96) rfl rfl ?_;simp only[pS];refine tu 14 (some 97) rfl rfl ?_;simp only[pS];refine tu 15 (some 98) rfl rfl ?_;simp only[pS];refine tu 16 (some 99) rfl rfl ?_;simp only[pS];refine tu 17 (some 100) rfl rfl ?_;simp only[pS];refine tu 18 (some 101) rfl rfl ?_;simp only[pS];refine tu 19 (some 102) rfl rfl ?_;simp only[pS];refine tu 20 (some 103) rfl rfl ?_;simp only[pS];refine In 21 (some 104) rfl rfl ?_;simp only[pS];refine wpAnyH_done (by kernel_rfl) ?_ _;go_wp2;go_ret;exact⟨gG hr.out.symm,(aD HB.out 1)⟩
   have t10:decide (bG (val df) 0<0)=false:=decide_eq_false (mt hc10.out.1 m1);have t10':=mt hc10.out.1 m1;have hr:Hid (r=if ls<val df∨(rp=[]/\df ≠ []) then 2 else 0):=by show _=_;rw[hr.out];simp[m1]
   clear m1 hc10;generalize bG (val df) 0=zd at *
   by_cases m2:ls<val df
   ·have t2:decide (0<bG (val df) ls)=true:=decide_eq_true (hc12.out.2 m2);have t2':0<bG (val df) ls:=hc12.out.2 m2;have hr:Hid (r=2):=by show _=_;rw[hr.out,if_pos (.inl m2)]
    clear m2 hc12;generalize bG (val df) ls=zz at *;generalize aJ ls=cl at *;go_wp2_with fail;refine wp_region_held_drew (S:=(fun W=>W.cell? ⟨w.heap.size,0,none⟩=some (.string ⟨cause.toArray⟩)/\W.cell? ⟨w.heap.size,1,none⟩=some (.string ⟨lot.toArray⟩)/\W.cell? ⟨w.heap.size,2,none⟩=some (.string ⟨ins.toArray⟩)/\W.cell? ⟨w.heap.size,3,none⟩=some (.int .i64 acq)/\W.cell? ⟨w.heap.size,4,none⟩=some (.int .i64 cls)/\W.cell? ⟨w.heap.size,5,none⟩=some (.string ⟨q.toArray⟩)/\W.cell? ⟨w.heap.size,6,none⟩=some (.string ⟨p.toArray⟩)/\W.cell? ⟨w.heap.size,7,none⟩=some (.string ⟨c.toArray⟩)/\W.cell? ⟨w.heap.size,8,none⟩=some (.string ⟨df.toArray⟩)/\W.cell? ⟨w.heap.size,9,none⟩=some (.string ⟨rp.toArray⟩))) (by kernel_rfl) ?hS10 (fun hHeld=>?hR10)
    case hS10=>exact⟨KB.out.cell 0,KB.out.cell 1,KB.out.cell 2,KB.out.cell 3,KB.out.cell 4,KB.out.cell 5,KB.out.cell 6,KB.out.cell 7,KB.out.cell 8,KB.out.cell 9⟩
    refine In 0 (some 83) rfl rfl ?_;simp only[pS];refine In 1 (some 84) rfl rfl ?_;simp only[pS];refine rd1 2 rfl (fun K hK=>?_);go_simp;go_at_call 130;refine(H10.out _).mono ?_;rintro e w6 ⟨rfl,hb6⟩;subst hb6;go_wp2_with fail;refine hK.out _ _ ?hS13 (fun hHeld=>?hR13)
    case hS13=>exact⟨KB.out.cell 0,KB.out.cell 1,KB.out.cell 2,KB.out.cell 3,KB.out.cell 4,KB.out.cell 5,KB.out.cell 6,KB.out.cell 7,KB.out.cell 8,KB.out.cell 9⟩
    try simp only[pS]
    refine In 3 (some 86) rfl rfl ?_;simp only[pS];refine In 4 (some 87) rfl rfl ?_;simp only[pS];refine In 5 (some 88) rfl rfl ?_;simp only[pS];refine In 6 (some 89) rfl rfl ?_;simp only[pS];refine In 7 (some 90) rfl rfl ?_;simp only[pS];refine rd1 8 rfl (fun K hK=>?_);go_simp;go_at_call 97;refine(H11.out _).mono ?_;rintro e w7 ⟨rfl,hb7⟩;have HB7:=aA (aD HB.out 1) hb7;have KB7:=KB.out.below (aA (aD (Br _ _) 1) hb7);go_wp2_with fail;refine hK.out _ _ ?hS19 (fun hHeld=>?hR19)
    case hS19=>exact⟨KB7.cell 0,KB7.cell 1,KB7.cell 2,KB7.cell 3,KB7.cell 4,KB7.cell 5,KB7.cell 6,KB7.cell 7,KB7.cell 8,KB7.cell 9⟩
    try simp only[pS]
    refine rd1 9 rfl (fun K hK=>?_);go_simp;go_at_call 131;refine(H12.out _).mono ?_;rintro e w8 ⟨rfl,hb8⟩;subst hb8;go_wp2_with fail;refine hK.out _ _ ?hS20 (fun hHeld=>?hR20)
    case hS20=>exact⟨KB7.cell 0,KB7.cell 1,KB7.cell 2,KB7.cell 3,KB7.cell 4,KB7.cell 5,KB7.cell 6,KB7.cell 7,KB7.cell 8,KB7.cell 9⟩
    try simp only[pS]
    refine In 10 (some 93) rfl rfl ?_;simp only[pS];refine In 11 (some 94) rfl rfl ?_;simp only[pS];refine In 12 (some 95) rfl rfl ?_;simp only[pS];refine tu 13 (some 96) rfl rfl ?_;simp only[pS];refine tu 14 (some 97) rfl rfl ?_;simp only[pS];refine tu 15 (some 98) rfl rfl ?_;simp only[pS];refine tu 16 (some 99) rfl rfl ?_;simp only[pS];refine tu 17 (some 100) rfl rfl ?_;simp only[pS];refine tu 18 (some 101) rfl rfl ?_;simp only[pS];refine tu 19 (some 102) rfl rfl ?_;simp only[pS];refine tu 20 (some 103) rfl rfl ?_;simp only[pS];refine In 21 (some 104) rfl rfl ?_;simp only[pS];refine wpAnyH_done (by kernel_rfl) ?_ _;go_wp2;go_ret;exact⟨gG hr.out.symm,HB7⟩
   have t2:decide (0<bG (val df) ls)=false:=decide_eq_false (mt hc12.out.1 m2);have t2':¬ 0<bG (val df) ls:=mt hc12.out.1 m2;have hr:Hid (r=if(rp=[]/\df ≠ []) then 2 else 0):=by show _=_;rw[hr.out];simp[m2]
   clear m2 hc12;generalize bG (val df) ls=zz at *;generalize aJ ls=cl at *
   by_cases m3:rp=[]
   ·by_cases m4:df=[]
    ·have hr:Hid (r=0):=by show _=_;rw[hr.out];simp[m4]
     have m3':rp.isEmpty=true:=by simpa using m3
     have m4':df.isEmpty=true:=by simpa using m4
     clear m3 m4;go_wp2_with fail;refine wp_region_held_drew (S:=(fun W=>W.cell? ⟨w.heap.size,0,none⟩=some (.string ⟨cause.toArray⟩)/\W.cell? ⟨w.heap.size,1,none⟩=some (.string ⟨lot.toArray⟩)/\W.cell? ⟨w.heap.size,2,none⟩=some (.string ⟨ins.toArray⟩)/\W.cell? ⟨w.heap.size,3,none⟩=some (.int .i64 acq)/\W.cell? ⟨w.heap.size,4,none⟩=some (.int .i64 cls)/\W.cell? ⟨w.heap.size,5,none⟩=some (.string ⟨q.toArray⟩)/\W.cell? ⟨w.heap.size,6,none⟩=some (.string ⟨p.toArray⟩)/\W.cell? ⟨w.heap.size,7,none⟩=some (.string ⟨c.toArray⟩)/\W.cell? ⟨w.heap.size,8,none⟩=some (.string ⟨df.toArray⟩)/\W.cell? ⟨w.heap.size,9,none⟩=some (.string ⟨rp.toArray⟩))) (by kernel_rfl) ?hS25 (fun hHeld=>?hR25)
     case hS25=>exact⟨KB.out.cell 0,KB.out.cell 1,KB.out.cell 2,KB.out.cell 3,KB.out.cell 4,KB.out.cell 5,KB.out.cell 6,KB.out.cell 7,KB.out.cell 8,KB.out.cell 9⟩
     refine In 0 (some 83) rfl rfl ?_;simp only[pS];refine In 1 (some 84) rfl rfl ?_;simp only[pS];refine rd1 2 rfl (fun K hK=>?_);go_simp;go_at_call 130;refine(H10.out _).mono ?_;rintro e w6 ⟨rfl,hb6⟩;subst hb6;go_wp2_with fail;refine hK.out _ _ ?hS28 (fun hHeld=>?hR28)
     case hS28=>exact⟨KB.out.cell 0,KB.out.cell 1,KB.out.cell 2,KB.out.cell 3,KB.out.cell 4,KB.out.cell 5,KB.out.cell 6,KB.out.cell 7,KB.out.cell 8,KB.out.cell 9⟩
     try simp only[pS]
     refine In 3 (some 86) rfl rfl ?_;simp only[pS];refine In 4 (some 87) rfl rfl ?_;simp only[pS];refine In 5 (some 88) rfl rfl ?_;simp only[pS];refine In 6 (some 89) rfl rfl ?_;simp only[pS];refine In 7 (some 90) rfl rfl ?_;simp only[pS];refine rd1 8 rfl (fun K hK=>?_);go_simp;go_at_call 97;refine(H11.out _).mono ?_;rintro e w7 ⟨rfl,hb7⟩;have HB7:=aA (aD HB.out 1) hb7;have KB7:=KB.out.below (aA (aD (Br _ _) 1) hb7);go_wp2_with fail;refine hK.out _ _ ?hS34 (fun hHeld=>?hR34)
     case hS34=>exact⟨KB7.cell 0,KB7.cell 1,KB7.cell 2,KB7.cell 3,KB7.cell 4,KB7.cell 5,KB7.cell 6,KB7.cell 7,KB7.cell 8,KB7.cell 9⟩
     try simp only[pS]
     refine rd1 9 rfl (fun K hK=>?_);go_simp;go_at_call 131;refine(H12.out _).mono ?_;rintro e w8 ⟨rfl,hb8⟩;subst hb8;go_wp2_with fail;refine hK.out _ _ ?hS35 (fun hHeld=>?hR35)
     case hS35=>exact⟨KB7.cell 0,KB7.cell 1,KB7.cell 2,KB7.cell 3,KB7.cell 4,KB7.cell 5,KB7.cell 6,KB7.cell 7,KB7.cell 8,KB7.cell 9⟩
     try simp only[pS]
     refine In 10 (some 93) rfl rfl ?_;simp only[pS];refine In 11 (some 94) rfl rfl ?_;simp only[pS];refine In 12 (some 95) rfl rfl ?_;simp only[pS];refine In 13 (some 96) rfl rfl ?_;simp only[pS];refine In 14 (some 97) rfl rfl ?_;simp only[pS];refine In 15 (some 98) rfl rfl ?_;simp only[pS];refine In 16 (some 99) rfl rfl ?_;simp only[pS];refine In 17 (some 100) rfl rfl ?_;simp only[pS];refine In 18 (some 101) rfl rfl ?_;simp only[pS];refine In 19 (some 102) rfl rfl ?_;simp only[pS];refine In 20 (some 103) rfl rfl ?_;simp only[pS];refine In 21 (some 104) rfl rfl ?_;simp only[pS];refine wpAnyH_done (by kernel_rfl) ?_ _;go_wp2;go_ret;exact⟨gG hr.out.symm,HB7⟩
    ·have hr:Hid (r=2):=by show _=_;rw[hr.out];simp[m3,m4]
     have m3':rp.isEmpty=true:=by simpa using m3
     have m4':df.isEmpty=false:=by simpa using m4
     clear m3 m4;go_wp2_with fail;refine wp_region_held_drew (S:=(fun W=>W.cell? ⟨w.heap.size,0,none⟩=some (.string ⟨cause.toArray⟩)/\W.cell? ⟨w.heap.size,1,none⟩=some (.string ⟨lot.toArray⟩)/\W.cell? ⟨w.heap.size,2,none⟩=some (.string ⟨ins.toArray⟩)/\W.cell? ⟨w.heap.size,3,none⟩=some (.int .i64 acq)/\W.cell? ⟨w.heap.size,4,none⟩=some (.int .i64 cls)/\W.cell? ⟨w.heap.size,5,none⟩=some (.string ⟨q.toArray⟩)/\W.cell? ⟨w.heap.size,6,none⟩=some (.string ⟨p.toArray⟩)/\W.cell? ⟨w.heap.size,7,none⟩=some (.string ⟨c.toArray⟩)/\W.cell? ⟨w.heap.size,8,none⟩=some (.string ⟨df.toArray⟩)/\W.cell? ⟨w.heap.size,9,none⟩=some (.string ⟨rp.toArray⟩))) (by kernel_rfl) ?hS48 (fun hHeld=>?hR48)
     case hS48=>exact⟨KB.out.cell 0,KB.out.cell 1,KB.out.cell 2,KB.out.cell 3,KB.out.cell 4,KB.out.cell 5,KB.out.cell 6,KB.out.cell 7,KB.out.cell 8,KB.out.cell 9⟩
     refine In 0 (some 83) rfl rfl ?_;simp only[pS];refine In 1 (some 84) rfl rfl ?_;simp only[pS];refine rd1 2 rfl (fun K hK=>?_);go_simp;go_at_call 130;refine(H10.out _).mono ?_;rintro e w6 ⟨rfl,hb6⟩;subst hb6;go_wp2_with fail;refine hK.out _ _ ?hS51 (fun hHeld=>?hR51)
     case hS51=>exact⟨KB.out.cell 0,KB.out.cell 1,KB.out.cell 2,KB.out.cell 3,KB.out.cell 4,KB.out.cell 5,KB.out.cell 6,KB.out.cell 7,KB.out.cell 8,KB.out.cell 9⟩
     try simp only[pS]
     refine In 3 (some 86) rfl rfl ?_;simp only[pS];refine In 4 (some 87) rfl rfl ?_;simp only[pS];refine In 5 (some 88) rfl rfl ?_;simp only[pS];refine In 6 (some 89) rfl rfl ?_;simp only[pS];refine In 7 (some 90) rfl rfl ?_;simp only[pS];refine rd1 8 rfl (fun K hK=>?_);go_simp;go_at_call 97;refine(H11.out _).mono ?_;rintro e w7 ⟨rfl,hb7⟩;have HB7:=aA (aD HB.out 1) hb7;have KB7:=KB.out.below (aA (aD (Br _ _) 1) hb7);go_wp2_with fail;refine hK.out _ _ ?hS57 (fun hHeld=>?hR57)
     case hS57=>exact⟨KB7.cell 0,KB7.cell 1,KB7.cell 2,KB7.cell 3,KB7.cell 4,KB7.cell 5,KB7.cell 6,KB7.cell 7,KB7.cell 8,KB7.cell 9⟩
     try simp only[pS]
     refine rd1 9 rfl (fun K hK=>?_);go_simp;go_at_call 131;refine(H12.out _).mono ?_;rintro e w8 ⟨rfl,hb8⟩;subst hb8;go_wp2_with fail;refine hK.out _ _ ?hS58 (fun hHeld=>?hR58)
     case hS58=>exact⟨KB7.cell 0,KB7.cell 1,KB7.cell 2,KB7.cell 3,KB7.cell 4,KB7.cell 5,KB7.cell 6,KB7.cell 7,KB7.cell 8,KB7.cell 9⟩
     try simp only[pS]
     refine In 10 (some 93) rfl rfl ?_;simp only[pS];refine In 11 (some 94) rfl rfl ?_;simp only[pS];refine In 12 (some 95) rfl rfl ?_;simp only[pS];refine In 13 (some 96) rfl rfl ?_;simp only[pS];refine In 14 (some 97) rfl rfl ?_;simp only[pS];refine In 15 (some 98) rfl rfl ?_;simp only[pS];refine In 16 (some 99) rfl rfl ?_;simp only[pS];refine In 17 (some 100) rfl rfl ?_;simp only[pS];refine In 18 (some 101) rfl rfl ?_;simp only[pS];refine In 19 (some 102) rfl rfl ?_;simp only[pS];refine In 20 (some 103) rfl rfl ?_;simp only[pS];refine In 21 (some 104) rfl rfl ?_;simp only[pS];refine wpAnyH_done (by kernel_rfl) ?_ _;go_wp2;go_ret;exact⟨gG hr.out.symm,HB7⟩
   ·have hr:Hid (r=0):=by show _=_;rw[hr.out];simp[m3]
    have m3':rp.isEmpty=false:=by simpa using m3
    clear m3;go_wp2_with fail;refine wp_region_held_drew (S:=(fun W=>W.cell? ⟨w.heap.size,0,none⟩=some (.string ⟨cause.toArray⟩)/\W.cell? ⟨w.heap.size,1,none⟩=some (.string ⟨lot.toArray⟩)/\W.cell? ⟨w.heap.size,2,none⟩=some (.string ⟨ins.toArray⟩)/\W.cell? ⟨w.heap.size,3,none⟩=some (.int .i64 acq)/\W.cell? ⟨w.heap.size,4,none⟩=some (.int .i64 cls)/\W.cell? ⟨w.heap.size,5,none⟩=some (.string ⟨q.toArray⟩)/\W.cell? ⟨w.heap.size,6,none⟩=some (.string ⟨p.toArray⟩)/\W.cell? ⟨w.heap.size,7,none⟩=some (.string ⟨c.toArray⟩)/\W.cell? ⟨w.heap.size,8,none⟩=some (.string ⟨df.toArray⟩)/\W.cell? ⟨w.heap.size,9,none⟩=some (.string ⟨rp.toArray⟩))) (by kernel_rfl) ?hS71 (fun hHeld=>?hR71)
    case hS71=>exact⟨KB.out.cell 0,KB.out.cell 1,KB.out.cell 2,KB.out.cell 3,KB.out.cell 4,KB.out.cell 5,KB.out.cell 6,KB.out.cell 7,KB.out.cell 8,KB.out.cell 9⟩
    refine In 0 (some 83) rfl rfl ?_;simp only[pS];refine In 1 (some 84) rfl rfl ?_;simp only[pS];refine rd1 2 rfl (fun K hK=>?_);go_simp;go_at_call 130;refine(H10.out _).mono ?_;rintro e w6 ⟨rfl,hb6⟩;subst hb6;go_wp2_with fail;refine hK.out _ _ ?hS74 (fun hHeld=>?hR74)
    case hS74=>exact⟨KB.out.cell 0,KB.out.cell 1,KB.out.cell 2,KB.out.cell 3,KB.out.cell 4,KB.out.cell 5,KB.out.cell 6,KB.out.cell 7,KB.out.cell 8,KB.out.cell 9⟩
    try simp only[pS]
    refine In 3 (some 86) rfl rfl ?_;simp only[pS];refine In 4 (some 87) rfl rfl ?_;simp only[pS];refine In 5 (some 88) rfl rfl ?_;simp only[pS];refine In 6 (some 89) rfl rfl ?_;simp only[pS];refine In 7 (some 90) rfl rfl ?_;simp only[pS];refine rd1 8 rfl (fun K hK=>?_);go_simp;go_at_call 97;refine(H11.out _).mono ?_;rintro e w7 ⟨rfl,hb7⟩;have HB7:=aA (aD HB.out 1) hb7;have KB7:=KB.out.below (aA (aD (Br _ _) 1) hb7);go_wp2_with fail;refine hK.out _ _ ?hS80 (fun hHeld=>?hR80)
    case hS80=>exact⟨KB7.cell 0,KB7.cell 1,KB7.cell 2,KB7.cell 3,KB7.cell 4,KB7.cell 5,KB7.cell 6,KB7.cell 7,KB7.cell 8,KB7.cell 9⟩
    try simp only[pS]
    refine rd1 9 rfl (fun K hK=>?_);go_simp;go_at_call 131;refine(H12.out _).mono ?_;rintro e w8 ⟨rfl,hb8⟩;subst hb8;go_wp2_with fail;refine hK.out _ _ ?hS81 (fun hHeld=>?hR81)
    case hS81=>exact⟨KB7.cell 0,KB7.cell 1,KB7.cell 2,KB7.cell 3,KB7.cell 4,KB7.cell 5,KB7.cell 6,KB7.cell 7,KB7.cell 8,KB7.cell 9⟩
    try simp only[pS]
    refine In 10 (some 93) rfl rfl ?_;simp only[pS];refine In 11 (some 94) rfl rfl ?_;simp only[pS];refine In 12 (some 95) rfl rfl ?_;simp only[pS];refine In 13 (some 96) rfl rfl ?_;simp only[pS];refine In 14 (some 97) rfl rfl ?_;simp only[pS];refine In 15 (some 98) rfl rfl ?_;simp only[pS];refine In 16 (some 99) rfl rfl ?_;simp only[pS];refine tu 17 (some 100) rfl rfl ?_;simp only[pS];refine tu 18 (some 101) rfl rfl ?_;simp only[pS];refine tu 19 (some 102) rfl rfl ?_;simp only[pS];refine In 20 (some 103) rfl rfl ?_;simp only[pS];refine In 21 (some 104) rfl rfl ?_;simp only[pS];refine wpAnyH_done (by kernel_rfl) ?_ _;go_wp2;go_ret;exact⟨gG hr.out.symm,HB7⟩
end
section
open Go.RowKit Num Dt
attribute [local go_sem] eW eN aV nW
def aLe.great(x:aLe):Bool:=decide (13<x.q.length) || decide (13<x.p.length) || decide (13<x.c.length) || decide (13<x.df.length) || decide (13<x.rp.length) || decide (24<x.cause.length) || decide (30<x.lot.length) || decide (24<x.ins.length)
def aLe.fits(x:aLe):Prop:=x.cause.length<=9223372036854775807/\x.lot.length<=9223372036854775807/\x.ins.length<=9223372036854775807/\x.q.length<=9223372036854775807/\x.p.length<=9223372036854775807/\x.c.length<=9223372036854775807/\x.df.length<=9223372036854775807/\x.rp.length<=9223372036854775807
def aO8(gs:List aLe):Bool:=gs.any aLe.great || decide (12<gs.length)
theorem bR(l:List UInt8)(hl:l.length<=9223372036854775807)(W:World):Calls prog 79 #[.string ⟨l.toArray⟩] W fun e w'=>e=.returned (.bool (decide (13<l.length)))/\W=w':=by
 by_cases g:(13:Int)<l.length
 all_goals
  go_enter func79,ntmps79;go_wp2;go_ret;exact⟨dG (by simp;try omega),rfl⟩
theorem dBn{x:aLe}(h:x.great=false):x.small:=by
 unfold aLe.great at h;simp at h;unfold aLe.small;omega
theorem dB4(gs:List aLe)(a:Option Addr)(c:Nat)(w:World)(hn:gs.length<=9223372036854775807)(hw:aL3 w a gs)(hs:∀x,x∈gs->x.fits):
  Calls prog 38 #[.slice a gs.length c] w fun e w'=>e=.returned (.bool (aO8 gs))/\Below w.heap.size w w':=by
 have HS:=Hd hs;have HW:=Hd hw;have HG:=Hd (show aO8 gs=(gs.any aLe.great || decide (12<gs.length)) from rfl);clear hs hw;generalize aO8 gs=r at *;go_enter func38,ntmps38;go_wp2;go_loopw [3] (fun i W=>Hid (Below w.heap.size w W)/\∃k:Nat,k<=gs.length/\i=.int .i64 (k:Int)/\Hid ((gs.take k).any aLe.great=false)) (fun i _=>gs.length-(intOf i).toNat)
 case atStart=>exact⟨Br _ _,0,Nat.zero_le _,rfl,rfl⟩
 case round =>
  obtain⟨hB,k,hk,rfl,hp⟩:=hrel
  by_cases hlt:k<gs.length
  ·obtain⟨x,hx⟩:∃x,gs[k]?=some x:=⟨gs[k],Lg hlt⟩
   obtain⟨b,off,ha,k0,k1,k2,k3,k4,k5,k6,k7,k8,k9⟩:=(HW.out.below hB.out).addr hx;subst ha;have hm:=HS.out x (List.mem_of_getElem? hx);obtain⟨f1,f2,f3,f4,f5,f6,f7,f8⟩:=hm;have hgr:Hid (x.great=(decide (13<x.q.length) || decide (13<x.p.length) || decide (13<x.c.length) || decide (13<x.df.length) || decide (13<x.rp.length) || decide (24<x.cause.length) || decide (30<x.lot.length) || decide (24<x.ins.length))):=rfl;have H1:=Hd (bR x.q f4);have H2:=Hd (bR x.p f5);have H3:=Hd (bR x.c f6);have H4:=Hd (bR x.df f7);have H5:=Hd (bR x.rp f8);have HX:=Hd (fun h=>aMw (p:=aLe.great) hx h);have HY:=Hd (fun h=>aL2 (p:=aLe.great) hx hp.out h);have HB:=Hd (aA hB.out (aB wr (.cells #[.string ⟨x.cause.toArray⟩,.string ⟨x.lot.toArray⟩,.string ⟨x.ins.toArray⟩,.int .i64 x.acq,.int .i64 x.cls,.string ⟨x.q.toArray⟩,.string ⟨x.p.toArray⟩,.string ⟨x.c.toArray⟩,.string ⟨x.df.toArray⟩,.string ⟨x.rp.toArray⟩] 42)));clear hx f4 f5 f6 f7 f8;generalize decide (13<x.q.length)=b1 at *;generalize decide (13<x.p.length)=b2 at *;generalize decide (13<x.c.length)=b3 at *;generalize decide (13<x.df.length)=b4 at *;generalize decide (13<x.rp.length)=b5 at *;have HG:Hid (gs.any aLe.great=true->r=true):=fun h=>by rw[HG.out,h];rfl
   go_wp2_with fail;refine(H1.out _).mono ?_;rintro e w1 ⟨rfl,rfl⟩;cases b1
   case true =>
    go_wp2;go_ret;exact⟨dG (by rw[HG.out (HX.out (by rw[hgr.out];simp))]),HB.out⟩
   go_wp2_with fail;refine(H2.out _).mono ?_;rintro e w1 ⟨rfl,rfl⟩;cases b2
   case true =>
    go_wp2;go_ret;exact⟨dG (by rw[HG.out (HX.out (by rw[hgr.out];simp))]),HB.out⟩
   go_wp2_with fail;refine(H3.out _).mono ?_;rintro e w1 ⟨rfl,rfl⟩;cases b3
   case true =>
    go_wp2;go_ret;exact⟨dG (by rw[HG.out (HX.out (by rw[hgr.out];simp))]),HB.out⟩
   go_wp2_with fail;refine(H4.out _).mono ?_;rintro e w1 ⟨rfl,rfl⟩;cases b4
   case true =>
    go_wp2;go_ret;exact⟨dG (by rw[HG.out (HX.out (by rw[hgr.out];simp))]),HB.out⟩
   go_wp2_with fail;refine(H5.out _).mono ?_;rintro e w1 ⟨rfl,rfl⟩;cases b5
   case true =>
    go_wp2;go_ret;exact⟨dG (by rw[HG.out (HX.out (by rw[hgr.out];simp))]),HB.out⟩
   by_cases g6:(24:Int)<x.cause.length
   ·go_wp2;go_ret;exact⟨dG (by rw[HG.out (HX.out (by rw[hgr.out];simp;omega))]),HB.out⟩
   by_cases g7:(30:Int)<x.lot.length
   ·go_wp2;go_ret;exact⟨dG (by rw[HG.out (HX.out (by rw[hgr.out];simp;omega))]),HB.out⟩
   by_cases g8:(24:Int)<x.ins.length
   ·go_wp2;go_ret;exact⟨dG (by rw[HG.out (HX.out (by rw[hgr.out];simp;omega))]),HB.out⟩
   have HY:=Hd (HY.out (by rw[hgr.out];simp;omega));go_wp2;go_round
   case rel=>exact⟨HB,k+1,by omega,by go_num,HY⟩
   case measure=>simp[intOf];omega
  ·obtain rfl:k=gs.length:=by omega
   have hr:Hid (r=decide (12<gs.length)):=by show _=_;have:=hp.out;rw[List.take_length] at this;rw[HG.out,this];rfl
   by_cases g:(12:Int)<gs.length
   all_goals
    go_wp2;go_ret;exact⟨dG (by rw[hr.out];simp;try omega),hB.out⟩
def fine(gs:List aLe):Bool:=!(aO8 gs) && !(gs.any aLe.bad)
theorem dCc{gs:List aLe}(h:aO8 gs=false):(∀x,x∈gs->x.small)/\gs.length<=12:=by
 unfold aO8 at h;obtain⟨h1,h2⟩:=Bool.or_eq_false_iff.1 h;rw[List.any_eq_false] at h1;exact⟨fun x hx=>dBn (by simpa using h1 x hx),by simp at h2;exact h2⟩
end
section
open Go.RowKit Num Dt
attribute [local go_sem] eW eN aV nW
theorem dA3{f:aLe->List UInt8}{M:Nat}:∀gs:List aLe,(∀x,x∈gs->(val (f x)).natAbs<=M)->(bZh f gs).natAbs<=gs.length*M
 | [],_=>by simp[bZh]
 |x::r,h=>by
  have ih:=dA3 r (fun y hy=>h y (by simp[hy]));have h1:=h x (by simp);have e:bZh f (x::r)=val (f x)+bZh f r:=by simp[bZh]
  rw[e,List.length_cons,Nat.succ_mul];omega
theorem dBk{f:aLe->List UInt8}{M:Nat}{gs:List aLe}(h:∀x,x∈gs->(val (f x)).natAbs<=M)(h12:gs.length<=12)(k:Nat):(bZh f (gs.take k)).natAbs<=12*M :=
 Nat.le_trans (dA3 (gs.take k) (fun x hx=>h x (List.mem_of_mem_take hx))) (Nat.mul_le_mul_right _ (by rw[List.length_take];omega))
theorem dCl{x:aLe}(hs:x.small):(val x.realT).natAbs<=30000000000000:=by
 have h1:=aOf hs.2.2.2.2.1;have h2:=aOf hs.2.2.2.2.2.1;have h3:=aOf hs.2.2.2.2.2.2.1;unfold aLe.realT;split
 ·rw[bE];unfold aLe.real;omega
 ·rw[Nj];decide
theorem dA2{gs:List aLe}(h:gs.any aLe.bad=false){x:aLe}(hx:x∈gs):x.err=0:=by
 rw[List.any_eq_false] at h;have:=h x hx;unfold aLe.bad at this;simpa using this
theorem dBl(gs:List aLe)(a:Option Addr)(c:Nat)(w:World)(hn:gs.length<=1000)(hw:aL3 w a gs)(hs:∀x,x∈gs->x.small)(hbad:gs.any aLe.bad=false):
  Calls prog 46 #[.slice a gs.length c] w fun e w'=>e=.returned (.int .i64 0)/\Below w.heap.size w w':=by
 have HW:=Hd hw;have HS:=Hd (fun x (hx:x∈gs)=>And.intro (hs x hx) (dA2 hbad hx));clear hw hs hbad;go_enter func46,ntmps46;go_wp2;go_loopw [3] (fun i W=>Hid (Below w.heap.size w W)/\∃k:Nat,k<=gs.length/\i=.int .i64 (k:Int)) (fun i _=>gs.length-(intOf i).toNat)
 case atStart=>exact⟨Br _ _,0,Nat.zero_le _,rfl⟩
 case round =>
  obtain⟨hB,k,hk,rfl⟩:=hrel
  by_cases hlt:k<gs.length
  ·obtain⟨x,hx⟩:∃x,gs[k]?=some x:=⟨gs[k],Lg hlt⟩
   obtain⟨b,off,ha,k0,k1,k2,k3,k4,k5,k6,k7,k8,k9⟩:=(HW.out.below hB.out).addr hx;subst ha;have hxs:=HS.out x (List.mem_of_getElem? hx);have H:=Hd (fun W=>aMz x W hxs.1);rw[hxs.2] at H;clear hx hxs;simp only[aLe.v,aLe.cs] at H;go_wp2_with fail;refine(H.out _).mono ?_;rintro e w1 ⟨rfl,hb⟩;have hB:=Hd (aA hB.out hb);clear k0 k1 k2 k3 k4 k5 k6 k7 k8 k9 hb;go_wp2;go_round
   case rel=>exact⟨hB,k+1,by omega,by go_num⟩
   case measure=>simp[intOf];omega
  ·obtain rfl:k=gs.length:=by omega
   go_wp2;go_ret;exact⟨rfl,hB.out⟩
end
section
open Go.RowKit Num Dt
attribute [local go_sem] eW eN aV nW
theorem dBy{gs:List aLe}{m:Int}(h:aNv gs m=0):gs.any aLe.bad=false/\(aOz gs m).1.any aLe.bad=false:=by
 have h0:gs.any aLe.bad=false:=by
  cases hb:gs.any aLe.bad
  ·rfl
  ·unfold aNv at h;rw[if_pos hb] at h;cases h
 refine⟨h0,?_⟩;rw[List.any_eq_false] at h0 ⊢;exact fun x hx=>h0 x ((dAx gs m).1 x hx)
theorem dBz(gs:List aLe)(a a2:Option Addr)(c c2:Nat)(w:World)(hn:gs.length<=1000)(hw:aL3 w a gs)(hw2:aL3 w a2 gs):
  Calls prog 25 #[.slice a gs.length c,.slice a2 gs.length c2] w fun e w'=>e=.returned (.bool true)/\Below w.heap.size w w':=by
 have HW:=Hd hw;have HW2:=Hd hw2;clear hw hw2;go_enter func25,ntmps25;go_wp2;go_loopw [5] (fun i W=>Hid (Below w.heap.size w W)/\∃k:Nat,k<=gs.length/\i=.int .i64 (k:Int)) (fun i _=>gs.length-(intOf i).toNat)
 case atStart=>exact⟨Br _ _,0,Nat.zero_le _,rfl⟩
 case round =>
  obtain⟨hB,k,hk,rfl⟩:=hrel
  by_cases hlt:k<gs.length
  ·obtain⟨x,hx⟩:∃x,gs[k]?=some x:=⟨gs[k],Lg hlt⟩
   obtain⟨b,off,ha,k0,k1,k2,k3,k4,k5,k6,k7,k8,k9⟩:=(HW.out.below hB.out).addr hx;obtain⟨b2,off2,ha2,j0,j1,j2,j3,j4,j5,j6,j7,j8,j9⟩:=(HW2.out.below hB.out).addr hx;subst ha ha2;clear hx;go_wp2_with fail;go_quiet (fail);go_wp2;go_round
   case rel=>exact⟨aD hB.out _,k+1,by omega,by go_num⟩
   case measure=>simp[intOf];omega
  ·obtain rfl:k=gs.length:=by omega
   go_wp2;go_ret;exact⟨rfl,hB.out⟩
def aOc(w:World)(a:Option Addr)(ts:List (List UInt8×List UInt8)):Prop :=
 ts=[]∨∃b off,a=some ⟨b,off,none⟩/\b<w.heap.size/\∀k x,ts[k]?=some x->w.cell? ⟨b,off+k*2,none⟩=some (Pm x.1)/\w.cell? ⟨b,off+k*2+1,none⟩=some (Pm x.2)
theorem aOc.below{w w':World}{a:Option Addr}{ts:List (List UInt8×List UInt8)}(h:aOc w a ts)(hb:Below w.heap.size w w'):aOc w' a ts:=by
 rcases h with h|⟨b,off,ha,hlt,hc⟩
 ·exact .inl h
 ·have hcell:∀o,w'.cell? ⟨b,o,none⟩=w.cell? ⟨b,o,none⟩:=fun o=>hb.cell (p:=⟨b,o,none⟩) hlt
  refine .inr ⟨b,off,ha,Nat.lt_of_lt_of_le hlt hb.size,fun k x hx=>?_⟩;simp only[hcell];exact hc k x hx
theorem aOc.addr{w:World}{a:Option Addr}{ts:List (List UInt8×List UInt8)}(h:aOc w a ts){k:Nat}{x:List UInt8×List UInt8}(hx:ts[k]?=some x):
  ∃b off,a=some ⟨b,off,none⟩/\w.cell? ⟨b,off+k*2,none⟩=some (.string ⟨x.1.toArray⟩)/\w.cell? ⟨b,off+k*2+1,none⟩=some (.string ⟨x.2.toArray⟩):=by
 rcases h with h|⟨b,off,ha,_,hc⟩
 ·rw[h] at hx;simp at hx
 ·exact⟨b,off,ha,hc k x hx⟩
noncomputable def bZ4(gs:List aLe)(m:Int):List (List UInt8×List UInt8):=if aNv gs m=0 then[([112,114,111,99,101,101,100,115],aJ (bZh aLe.p gs)),([99,111,115,116],aJ (bZh aLe.c gs)),([108,111,110,103,112,114,111,99,101,101,100,115],aJ (bZh aLe.p (aOz gs m).1)),([108,111,110,103,99,111,115,116],aJ (bZh aLe.c (aOz gs m).1))] else[]
theorem dBh(gs:List aLe)(m:Int):(bZ4 gs m).length=dCe gs m:=by
 unfold bZ4 dCe;split <;> rfl
theorem dBw{w:World}{a:Option Addr}{gs:List aLe}{m:Int}(h:dT w a (dBr gs m)):aOc w a (bZ4 gs m):=by
 by_cases g:aNv gs m=0
 ·unfold dBr at h;rw[if_pos g] at h;obtain⟨b,off,ha,hlt,hc⟩:=h.addr (by simp);unfold bZ4;rw[if_pos g];refine .inr ⟨b,off,ha,hlt,fun k x hx=>?_⟩
  match k,hx with
  |0,hx=>simp at hx;subst hx;exact⟨hc 0 _ rfl,hc 1 _ rfl⟩
  |1,hx=>simp at hx;subst hx;exact⟨hc 2 _ rfl,hc 3 _ rfl⟩
  |2,hx=>simp at hx;subst hx;exact⟨hc 4 _ rfl,hc 5 _ rfl⟩
  |3,hx=>simp at hx;subst hx;exact⟨hc 6 _ rfl,hc 7 _ rfl⟩
  |k+4,hx=>simp at hx
 ·exact .inl (by unfold bZ4;rw[if_neg g])
end
section
open Go.RowKit Num Dt Go.ChangeShapes Go.WideShapes Go.ChangeAt
section
variable {H:Type}{enc:TypeId×Value->H}{w:World}{base:Nat}{held:Bool}
theorem aOi{v:Value}{d:DataW H}{ps:List MemPlace}(hv:Value.okWide prog w .any base 23 v)(h:DataW.Trod enc prog w 0 (fun _=>true) held 23 v d ps):
  ∃(a:Option Addr) (c:Nat) (gs:List aLe),v=.slice a gs.length c/\gs.length<=c/\gs.length<=maxLen/\aL3 w a gs/\∀x,x∈gs->x.fits:=by
 obtain⟨a,n,c,rfl,hnc,hm,hx⟩:=Tw (N:=10) (by decide) underlying23 (by kernel_rfl) hv h;rcases hx with rfl|⟨b,off,rfl,hb,hx⟩
 ·exact⟨a,c,[],rfl,Nat.zero_le _,Nat.zero_le _,.inl rfl,fun x hx=>by simp at hx⟩
 ·obtain⟨ls,hl,hp⟩:=Dv (α:=aLe) (p:=fun i x=>(w.cell? ⟨b,off+i*10,none⟩=some (Pm x.cause)/\w.cell? ⟨b,off+i*10+1,none⟩=some (Pm x.lot)/\w.cell? ⟨b,off+i*10+2,none⟩=some (Pm x.ins)/\w.cell? ⟨b,off+i*10+3,none⟩=some (.int .i64 x.acq)/\w.cell? ⟨b,off+i*10+4,none⟩=some (.int .i64 x.cls)/\w.cell? ⟨b,off+i*10+5,none⟩=some (Pm x.q)/\w.cell? ⟨b,off+i*10+6,none⟩=some (Pm x.p)/\w.cell? ⟨b,off+i*10+7,none⟩=some (Pm x.c)/\w.cell? ⟨b,off+i*10+8,none⟩=some (Pm x.df)/\w.cell? ⟨b,off+i*10+9,none⟩=some (Pm x.rp))/\x.fits) (fun i hi=>by
   obtain⟨cs,m,y,hlen,hcc,ht⟩:=hx i hi;obtain⟨xs,k,_,_,_,hxl,hf⟩:=DataW.trod_struct underlying42 ht;have hg:∀i,i<10->∃y,xs[i]?=some y:=fun i hi=>⟨_,Lg (by rw[hxl];exact hi)⟩
   obtain⟨y0,g0⟩:=hg 0 (by decide);obtain⟨y1,g1⟩:=hg 1 (by decide);obtain⟨y2,g2⟩:=hg 2 (by decide);obtain⟨y3,g3⟩:=hg 3 (by decide);obtain⟨y4,g4⟩:=hg 4 (by decide);obtain⟨y5,g5⟩:=hg 5 (by decide);obtain⟨y6,g6⟩:=hg 6 (by decide);obtain⟨y7,g7⟩:=hg 7 (by decide);obtain⟨y8,g8⟩:=hg 8 (by decide);obtain⟨y9,g9⟩:=hg 9 (by decide);obtain⟨cause,e0,l0⟩:=iB underlying9 (by kernel_rfl) ((hf 0 _ rfl).trans g0);obtain⟨lot,e1,l1⟩:=iB underlying9 (by kernel_rfl) ((hf 1 _ rfl).trans g1);obtain⟨ins,e2,l2⟩:=iB underlying9 (by kernel_rfl) ((hf 2 _ rfl).trans g2);obtain⟨acq,e3,_⟩:=yI underlying24 (by kernel_rfl) ((hf 3 _ rfl).trans g3);obtain⟨cls,e4,_⟩:=yI underlying24 (by kernel_rfl) ((hf 4 _ rfl).trans g4);obtain⟨q,e5,l5⟩:=iB underlying36 (by kernel_rfl) ((hf 5 _ rfl).trans g5);obtain⟨p,e6,l6⟩:=iB underlying36 (by kernel_rfl) ((hf 6 _ rfl).trans g6);obtain⟨c,e7,l7⟩:=iB underlying36 (by kernel_rfl) ((hf 7 _ rfl).trans g7);obtain⟨df,e8,l8⟩:=iB underlying36 (by kernel_rfl) ((hf 8 _ rfl).trans g8);obtain⟨rp,e9,l9⟩:=iB underlying36 (by kernel_rfl) ((hf 9 _ rfl).trans g9);unfold maxLen at l0 l1 l2 l5 l6 l7 l8 l9;exact⟨⟨cause,lot,ins,acq,cls,q,p,c,df,rp⟩,⟨(hcc 0 (by decide)).trans e0,(hcc 1 (by decide)).trans e1,(hcc 2 (by decide)).trans e2,(hcc 3 (by decide)).trans e3,(hcc 4 (by decide)).trans e4,(hcc 5 (by decide)).trans e5,(hcc 6 (by decide)).trans e6,(hcc 7 (by decide)).trans e7,(hcc 8 (by decide)).trans e8,(hcc 9 (by decide)).trans e9⟩,by unfold aLe.fits;simp only;omega⟩)
  subst hl;exact⟨_,c,ls,rfl,hnc,hm,.inr ⟨b,off,rfl,hb,fun k x hk=>(hp k x hk).1⟩,fun x hx=>by obtain⟨k,hk⟩:=List.getElem?_of_mem hx;exact(hp k x hk).2⟩
end
end
end Go.Proofs.YtiloklnjjfaagaaGreatDoor
