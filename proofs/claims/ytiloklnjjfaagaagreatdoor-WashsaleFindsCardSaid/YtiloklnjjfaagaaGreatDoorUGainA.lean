/- GainP Gain Gains -/
import Derived.Test.YtiloklnjjfaagaaGreatDoorUDate
import Derived.Test.YtiloklnjjfaagaaGreatDoorUMaps
set_option maxHeartbeats 16000000
set_option maxRecDepth 100000
namespace Go.Proofs.YtiloklnjjfaagaaGreatDoor
open Tryz
section
open Go.RowKit Num Dt
attribute [local go_sem] eW eN aV
structure aLe where
 cause:List UInt8
 lot:List UInt8
 ins:List UInt8
 acq:Int
 cls:Int
 q:List UInt8
 p:List UInt8
 c:List UInt8
 df:List UInt8
 rp:List UInt8
def aLe.cs(x:aLe):Array Value:=#[.string ⟨x.cause.toArray⟩,.string ⟨x.lot.toArray⟩,.string ⟨x.ins.toArray⟩,.int .i64 x.acq,.int .i64 x.cls,.string ⟨x.q.toArray⟩,.string ⟨x.p.toArray⟩,.string ⟨x.c.toArray⟩,.string ⟨x.df.toArray⟩,.string ⟨x.rp.toArray⟩]
def aLe.v(x:aLe):Value:=.agg x.cs
def aLe.loss(x:aLe):Int:=if val x.c-val x.p<0 then 0 else val x.c-val x.p
def aLe.err(x:aLe):Int :=
 if !(dC x.cause&&sP x.lot&&dC x.ins) then 23
 else if !(aLk x.acq&&aLk x.cls) then 13
 else if x.cls<x.acq then 8
 else if !(Hi x.q&&Hi x.p&&Hi x.c&&Hi x.df&&Hi x.rp) then 1
 else if val x.q<0∨val x.c<0∨val x.rp<0∨val x.q<val x.rp then 2
 else if val x.df<0∨x.loss<val x.df∨(x.rp=[]/\x.df ≠ []) then 2
 else 0
def aLe.small(x:aLe):Prop:=x.cause.length<=1000/\x.lot.length<=1000/\x.ins.length<=1000/\x.q.length<=13/\x.p.length<=13/\x.c.length<=13/\x.df.length<=13/\x.rp.length<=13
theorem aMl(d:Int)(w:World):Calls prog 122 #[.int .i64 d] w fun e w'=>e=.returned (.bool !(aLk d))/\w=w':=by
 have hd:=Hd (show aLk d=(decide (-25567<=d)&&decide (d<=84005)) from rfl)
 by_cases g1:d < -25567 <;> by_cases g2:84005<d
 all_goals
  go_enter func122,ntmps122;go_wp2;go_ret;exact⟨dG (by rw[hd.out];simp;omega),rfl⟩
theorem aMi(g:Nat)(p:Int->Bool)(hen:∀(args:Array Value) (w:World),(callFunc g args).run prog w=.ok (.enter g args) w)
  (hg:∀z W,Calls prog g #[.int .i64 z] W fun e w'=>e=.returned (.bool (p z))/\W=w')
  (zs:List Int) (b off cap:Nat) (w:World) (hl:zs.length<=9223372036854775807) (hc:∀k,k<zs.length->w.cell? ⟨b,off+k,none⟩=some (.int .i64 (zs.getD k 0))) :
  Calls prog 168 #[.slice (some ⟨b,off,none⟩) zs.length cap,.func (.func g) #[] #[]] w fun e w'=>e=.returned (.int .i64 (aFd p zs))/\w=w':=by
 have HG:=Hd hg;have HC:=Hd hc;obtain⟨n,hn⟩:∃n,n=zs.length:=⟨_,rfl⟩
 have HN:=Hd hn;rw[<-hn] at hl ⊢;clear hg hc hn;go_enter func168,ntmps168;go_wp2;go_loop [5,8] (fun _ i=>∃k:Nat,k<=n/\i=.int .i64 k/\∀j,j<k->p (zs.getD j 0)=false) (fun _ i=>n-(intOf i).toNat)
 case atStart=>exact⟨0,Nat.zero_le _,rfl,fun j hj=>by omega⟩
 case round =>
  obtain⟨k,hk,rfl,hp⟩:=hrel;have HP:=Hd hp;clear hp
  by_cases hlt:k<n
  ·have hcell:=HC.out k (by rw[<-HN.out];exact hlt);have hgk:=fun W=>HG.out (zs.getD k 0) W
   generalize hz:zs.getD k 0=z at hgk hcell;have HZ:=Hd hz;clear hz
   by_cases hpk:p z=true
   ·rw[hpk] at hgk;have HGK:=Hd hgk;have HPK:=Hd hpk;clear hgk hpk;go_wp2_with fail;refine(HGK.out _).mono ?_;rintro e w' ⟨rfl,rfl⟩;go_wp2;go_ret;exact⟨gG (aOj (by rw[<-HN.out];exact hlt) HP.out (by rw[HZ.out];exact HPK.out)).symm,rfl⟩
   ·have hpk':p z=false:=by simpa using hpk
    rw[hpk'] at hgk;have HGK:=Hd hgk;have HPK:=Hd hpk';clear hgk hpk hpk';go_wp2_with fail;refine(HGK.out _).mono ?_;rintro e w' ⟨rfl,rfl⟩;go_wp2;go_round
    case rel=>exact⟨k+1,by omega,by go_num,fun j hj=>by
     rcases Nat.lt_or_ge j k with h|h
     ·exact HP.out j h
     ·obtain rfl:j=k:=by omega
      rw[HZ.out];exact HPK.out⟩
    case measure=>simp[intOf];omega
  ·obtain rfl:k=n:=by omega
   go_wp2;go_ret;exact⟨gG (aOk (by rw[<-HN.out];exact HP.out)).symm,rfl⟩
theorem aMa(g:Nat)(p:Int->Bool)(hen:∀(args:Array Value) (w:World),(callFunc g args).run prog w=.ok (.enter g args) w)
  (hg:∀z W,Calls prog g #[.int .i64 z] W fun e w'=>e=.returned (.bool (p z))/\W=w')
  (zs:List Int) (b off cap:Nat) (w:World) (hl:zs.length<=9223372036854775807) (hc:∀k,k<zs.length->w.cell? ⟨b,off+k,none⟩=some (.int .i64 (zs.getD k 0))) :
  Calls prog 121 #[.slice (some ⟨b,off,none⟩) zs.length cap,.func (.func g) #[] #[]] w fun e w'=>e=.returned (.bool (zs.any p))/\w=w':=by
 have h:=aMi g p hen hg zs b off cap w hl hc;have e:decide (0<=aFd p zs)=zs.any p:=by
  rw[Bool.eq_iff_iff];unfold aFd;cases hf:zs.findIdx? p with
  |none=>rw[List.findIdx?_eq_none_iff] at hf;simp;intro x hx;simpa using hf x hx
  |some i =>
   obtain⟨h1,h2,_⟩:=List.findIdx?_eq_some_iff_getElem.1 hf;simp;exact⟨_,List.getElem_mem h1,h2⟩
 rw[<-e];generalize aFd p zs=r at *;generalize zs.length=n at *;have H:=Hd h;clear h hg hc e hen;go_enter func121,ntmps121;go_wp2_with (go_at_call 168;refine H.out.mono ?_;rintro e w' ⟨rfl,rfl⟩);go_ret;exact⟨rfl,rfl⟩
theorem aM1(d1 d2:Int)(b:Nat)(w:World)(k0:w.cell? ⟨b,0,none⟩=some (.int .i64 d1))(k1:w.cell? ⟨b,1,none⟩=some (.int .i64 d2)):
  Calls prog 61 #[.slice (some ⟨b,0,none⟩) 2 2] w fun e w'=>e=.returned (.bool (aLk d1&&aLk d2))/\w=w':=by
 have h:=aMa 122 (fun d=>!(aLk d)) (fun args w=>MuLone.run_callFunc_enter func122 (by kernel_rfl) rfl args w) aMl [d1,d2] b 0 2 w (by simp) (fun k hk=>by
  match k,hk with
  |0,_=>simpa using k0
  |1,_=>simpa using k1)
 have e:[d1,d2].any (fun d=>!(aLk d)) = !(aLk d1&&aLk d2):=by cases h1:aLk d1 <;> cases h2:aLk d2 <;> simp[h1,h2]
 rw[e] at h;have H:=Hd h;clear h e k0 k1;generalize(aLk d1&&aLk d2)=bb at *;cases bb
 all_goals
  go_enter func61,ntmps61;go_wp2_with (go_at_call 121;refine H.out.mono ?_;rintro e w' ⟨rfl,rfl⟩);go_ret;exact⟨rfl,rfl⟩
theorem aLu(l:List UInt8)(w:World)(hl:l.length<=10000000000):
  Calls prog 63 #[.string ⟨l.toArray⟩] w fun e w'=>e=.returned (.bool (decide (val l<0)))/\Below w.heap.size w w':=by
 have H:=Hd (aPb l w hl);have hc:=Hd (Oo (val l) 0);generalize bG (val l) 0=z at *;go_enter func63,ntmps63;go_wp2_with fail;refine H.out.mono ?_;rintro e w1 ⟨rfl,hb⟩;go_wp2;go_ret;exact⟨dG (by simp[hc.out]),hb⟩
theorem aNw(x:aLe)(w:World)(hE:iE w)(h1:x.p.length<=1000)(h2:x.c.length<=1000):
  Calls prog 64 #[x.v] w fun e w'=>e=.returned (.string ⟨(aJ x.loss).toArray⟩)/\Below w.heap.size w w':=by
 have hr:Hid (x.loss=if val x.c-val x.p<0 then 0 else val x.c-val x.p):=rfl;have hln:=Np (l:=x.c) (m:=x.p) (K:=1000) h2 h1;have H1:=Hd (fun W hW=>aAd x.c x.p W hW (by omega) (by omega));have H2:=Hd (fun W=>aLu (aJ (val x.c-val x.p)) W (by omega));rw[bE] at H2;have HE:=Hd hE;clear hE hln;generalize x.loss=r at *;generalize val x.c-val x.p=z at *;have HB:=Hd (aB w (.cells x.cs 42));simp only[aLe.v,aLe.cs] at *;go_enter func64,ntmps64;go_wp2_with fail;refine(H1.out _ (HE.out.below HB.out)).mono ?_;rintro e w1 ⟨rfl,hb⟩;have HB:=Hd (aA HB.out hb);clear hb;go_wp2_with fail;refine(H2.out _).mono ?_;rintro e w2 ⟨rfl,hb⟩;have HB:=Hd (aA HB.out hb);clear hb
 by_cases g:z<0
 ·have hr2:Hid (r=0):=by show _=_;rw[hr.out,if_pos g]
  rw[decide_eq_true g];go_wp2;go_ret;exact⟨dW (by rw[hr2.out,nA];rfl),HB.out⟩
 ·have hr2:Hid (r=z):=by show _=_;rw[hr.out,if_neg g]
  rw[decide_eq_false g];have hcz:Hid (aJ r=aJ z):=by show _=_;rw[hr2.out]
  generalize aJ z=cz at *;go_wp2;go_ret;exact⟨dW (by rw[hcz.out];rfl),HB.out⟩
end
section
set_option linter.unusedSimpArgs false
open Go.RowKit Num Dt
attribute [local go_sem] eW eN aV nW
theorem aLe.err_mk(cause lot ins:List UInt8)(acq cls:Int)(q p c df rp:List UInt8):aLe.err ⟨cause,lot,ins,acq,cls,q,p,c,df,rp⟩=(if !(dC cause&&sP lot&&dC ins) then 23
 else if !(aLk acq&&aLk cls) then 13
 else if cls<acq then 8
 else if !([q,p,c,df,rp].all Hi) then 1
 else if val q<0∨val c<0∨val rp<0∨val q<val rp then 2
 else if val df<0∨(aLe.mk cause lot ins acq cls q p c df rp).loss<val df∨(rp=[]/\df ≠ []) then 2
 else 0):=by
 unfold aLe.err;simp only[List.all_cons,List.all_nil,Bool.and_true,Bool.and_assoc]
theorem aL7{α:Type}{p:α->Bool}{l:List α}{k:Nat}{x:α}(hx:l[k]?=some x)(h:(l.take k).all p=true)(hp:p x=true):(l.take (k+1)).all p=true:=by
 rw[List.take_add_one,hx];simp[List.all_append,h,hp]
theorem aM6{α:Type}{p:α->Bool}{l:List α}{k:Nat}{x:α}(hx:l[k]?=some x)(hp:p x=false):l.all p=false:=by
 rw[List.all_eq_false];exact⟨x,List.mem_of_getElem? hx,by simp[hp]⟩
theorem aMq(a b:Int):0<bG a b↔b<a:=by
 unfold bG;split
 ·omega
 ·split <;> omega
def aLe.wide(x:aLe):Prop:=x.cause.length<=1000/\x.lot.length<=1000/\x.ins.length<=1000/\x.q.length<=1000/\x.p.length<=1000/\x.c.length<=1000/\x.df.length<=1000/\x.rp.length<=1000
theorem aLe.small.wide{x:aLe}(h:x.small):x.wide:=by
 obtain⟨s1,s2,s3,s4,s5,s6,s7,s8⟩:=h;exact⟨s1,s2,s3,by omega,by omega,by omega,by omega,by omega⟩
theorem dD4(x:aLe)(w:World)(hE:iE w)(hs:x.wide):
  Calls prog 17 #[x.v] w fun e w'=>e=.returned (.int .i64 x.err)/\Below w.heap.size w w':=by
 obtain⟨cause,lot,ins,acq,cls,q,p,c,df,rp⟩:=x;have hr:=Hd (aLe.err_mk cause lot ins acq cls q p c df rp);obtain⟨s1,s2,s3,s4,s5,s6,s7,s8⟩:=hs;simp only at s1 s2 s3 s4 s5 s6 s7 s8;have HE:=Hd hE;have hlen:Hid ((aJ (aLe.mk cause lot ins acq cls q p c df rp).loss).length<=1002):=by
  show _<=_;unfold aLe.loss;split
  ·rw[nA];simp
  ·exact Np (l:=c) (m:=p) (K:=1000) (by omega) (by omega)
 have H1:=Hd (fun W=>qW cause W (by omega));have H2:=Hd (fun W hW=>aNh lot W hW (by omega));have H3:=Hd (fun W=>qW ins W (by omega));have H4:=Hd (fun b W k0 k1=>aM1 acq cls b W k0 k1);have H5:=Hd (fun (s:List UInt8) W (h:s.length<=1000)=>aL5 s W (by omega));have H6:=Hd (fun W=>aLu q W (by omega));have H7:=Hd (fun W=>aLu c W (by omega));have H8:=Hd (fun W=>aLu rp W (by omega));have H9:=Hd (fun W=>nV rp q W (by omega) (by omega));have H10:=Hd (fun W=>aLu df W (by omega));have H11:=Hd (fun W hW=>aNw ⟨cause,lot,ins,acq,cls,q,p,c,df,rp⟩ W hW (by simp;omega) (by simp;omega));have H12:=Hd (fun W=>nV df (aJ (aLe.mk cause lot ins acq cls q p c df rp).loss) W (by omega) (by have:=hlen.out;omega));rw[bE] at H12;have KB:=Hd (aP.new0 w #[.string ⟨cause.toArray⟩,.string ⟨lot.toArray⟩,.string ⟨ins.toArray⟩,.int .i64 acq,.int .i64 cls,.string ⟨q.toArray⟩,.string ⟨p.toArray⟩,.string ⟨c.toArray⟩,.string ⟨df.toArray⟩,.string ⟨rp.toArray⟩] 42);have HB:=Hd (aB w (.cells #[.string ⟨cause.toArray⟩,.string ⟨lot.toArray⟩,.string ⟨ins.toArray⟩,.int .i64 acq,.int .i64 cls,.string ⟨q.toArray⟩,.string ⟨p.toArray⟩,.string ⟨c.toArray⟩,.string ⟨df.toArray⟩,.string ⟨rp.toArray⟩] 42));have hnums:Hid (∀s,s∈[q,p,c,df,rp]->s.length<=1000):=by
  intro s hs;simp at hs;rcases hs with rfl|rfl|rfl|rfl|rfl <;> omega
 simp only[aLe.v,aLe.cs] at *;clear hE;generalize aLe.err _=r at *;generalize(aLe.mk cause lot ins acq cls q p c df rp).loss=ls at *;generalize dC cause=b1 at *;generalize sP lot=b2 at *;generalize dC ins=b3 at *;generalize(aLk acq&&aLk cls)=b4 at *;go_enter func17,ntmps17;go_wp2_with fail;generalize w.alloc _=w1 at *;refine(H1.out _).mono ?_;rintro e w1' ⟨rfl,hb⟩;have KB:=Hd (KB.out.below hb);have HB:=Hd (aA HB.out hb);clear hb;have k1:=KB.out.cell 1;cases b1
 ·go_wp2;go_ret;exact⟨gG (by rw[hr.out];simp),HB.out⟩
 go_wp2_with fail;refine(H2.out _ (HE.out.below HB.out)).mono ?_;rintro e w2 ⟨rfl,hb⟩;have KB:=Hd (KB.out.below hb);have HB:=Hd (aA HB.out hb);clear hb k1;cases b2
 ·go_wp2;go_ret;exact⟨gG (by rw[hr.out];simp),HB.out⟩
 have k2:=KB.out.cell 2;go_wp2_with fail;refine(H3.out _).mono ?_;rintro e w2' ⟨rfl,hb⟩;have KB:=Hd (KB.out.below hb);have HB:=Hd (aA HB.out hb);clear hb k2;cases b3
 ·go_wp2;go_ret;exact⟨gG (by rw[hr.out];simp),HB.out⟩
 have k3:=KB.out.cell 3;have k4:=KB.out.cell 4;go_wp2_with fail;have KD:=Hd (aP.new0 w2' #[.int .i64 acq,.int .i64 cls] 24);have KB:=Hd (KB.out.below (aB w2' (.cells #[.int .i64 acq,.int .i64 cls] 24)));have HB:=Hd (aA HB.out (aB w2' (.cells #[.int .i64 acq,.int .i64 cls] 24)));generalize w2'.alloc _=w3 at *;refine(H4.out _ _ (KD.out.cell 0) (KD.out.cell 1)).mono ?_;rintro e w4 ⟨rfl,rfl⟩;clear KD k3 k4;cases b4
 ·go_wp2;go_ret;exact⟨gG (by rw[hr.out];simp),HB.out⟩
 have k3:=KB.out.cell 3;have k4:=KB.out.cell 4;have k5:=KB.out.cell 5;have k6:=KB.out.cell 6;have k7:=KB.out.cell 7;have k8:=KB.out.cell 8;have k9:=KB.out.cell 9
 by_cases g1:cls<acq
 ·go_wp2;go_ret;exact⟨gG (by rw[hr.out];simp[g1]),HB.out⟩
 have hr:Hid (r=if !([q,p,c,df,rp].all Hi) then 1
  else if val q<0∨val c<0∨val rp<0∨val q<val rp then 2
  else if val df<0∨ls<val df∨(rp=[]/\df ≠ []) then 2
  else 0):=by show _=_;rw[hr.out];simp[g1]
 go_wp2_with fail;have KN:=Hd (aP.new0 w3 #[.string ⟨q.toArray⟩,.string ⟨p.toArray⟩,.string ⟨c.toArray⟩,.string ⟨df.toArray⟩,.string ⟨rp.toArray⟩] 36);have KB:=Hd (KB.out.below (aB w3 (.cells #[.string ⟨q.toArray⟩,.string ⟨p.toArray⟩,.string ⟨c.toArray⟩,.string ⟨df.toArray⟩,.string ⟨rp.toArray⟩] 36)));have HB:=Hd (aA HB.out (aB w3 (.cells #[.string ⟨q.toArray⟩,.string ⟨p.toArray⟩,.string ⟨c.toArray⟩,.string ⟨df.toArray⟩,.string ⟨rp.toArray⟩] 36)));obtain⟨bn,hbn⟩:∃bn,bn=w3.heap.size:=⟨_,rfl⟩
 rw[<-hbn] at KN ⊢;clear k3 k4 k5 k6 k7 k8 k9 hbn H1 H2 H3 H4;go_loopw [45] (fun i W=>Hid (Below w.heap.size w W)/\Hid (aP W w.heap.size #[.string ⟨cause.toArray⟩,.string ⟨lot.toArray⟩,.string ⟨ins.toArray⟩,.int .i64 acq,.int .i64 cls,.string ⟨q.toArray⟩,.string ⟨p.toArray⟩,.string ⟨c.toArray⟩,.string ⟨df.toArray⟩,.string ⟨rp.toArray⟩] 42)/\Hid (aP W bn #[.string ⟨q.toArray⟩,.string ⟨p.toArray⟩,.string ⟨c.toArray⟩,.string ⟨df.toArray⟩,.string ⟨rp.toArray⟩] 36)/\∃k:Nat,k<=5/\i=.int .i64 (k:Int)/\Hid (([q,p,c,df,rp].take k).all Hi=true)) (fun i _=>5-(intOf i).toNat)
 case atStart=>exact⟨HB,KB,KN,0,Nat.zero_le _,rfl,rfl⟩
 case round =>
  clear HB KB KN;obtain⟨HB,KB,KN,k,hk,rfl,hp⟩:=hrel
  by_cases hlt:k<5
  ·obtain⟨s,hs⟩:∃s,[q,p,c,df,rp][k]?=some s:=⟨[q,p,c,df,rp][k]'(by simpa using hlt),Lg _⟩
   have hsl:=hnums.out s (List.mem_of_getElem? hs);have k0:wr.cell? ⟨bn,k,none⟩=some (.string ⟨s.toArray⟩):=by
    rw[KN.out.cell k]
    match k,hlt,hs with
    |0,_,hs=>simp at hs;subst hs;rfl
    |1,_,hs=>simp at hs;subst hs;rfl
    |2,_,hs=>simp at hs;subst hs;rfl
    |3,_,hs=>simp at hs;subst hs;rfl
    |4,_,hs=>simp at hs;subst hs;rfl
   have HX:=Hd (fun h=>aL7 (p:=Hi) hs hp.out h);have HY:=Hd (fun h=>aM6 (p:=Hi) hs h);have H5:=Hd (fun W=>H5.out s W hsl);clear hs;go_wp2_with fail;refine(H5.out _).mono ?_;rintro e w4 ⟨rfl,hb⟩;have KB:=Hd (KB.out.below hb);have HB:=Hd (aA HB.out hb);have KN:=Hd (KN.out.below hb);clear hb k0;cases hi:Hi s
   ·have hr:Hid (r=1):=by show _=_;rw[hr.out,HY.out hi];rfl
    simp only[Bool.false_eq_true,if_false];go_wp2;go_ret;exact⟨gG hr.out.symm,HB.out⟩
   ·simp only[if_true];go_wp2;go_round
    case rel=>exact⟨HB,KB,KN,k+1,by omega,by go_num,HX.out hi⟩
    case measure=>simp[intOf];omega
  ·obtain rfl:k=5:=by omega
   have hr:Hid (r=if val q<0∨val c<0∨val rp<0∨val q<val rp then 2
    else if val df<0∨ls<val df∨(rp=[]/\df ≠ []) then 2
    else 0):=by show _=_;rw[hr.out,show [q,p,c,df,rp].all Hi=true from hp.out];rfl
   clear hp H5 KN;have k5:=KB.out.cell 5;go_wp2_with fail;refine(H6.out _).mono ?_;rintro e w5 ⟨rfl,hb⟩;have KB:=Hd (KB.out.below hb);have HB:=Hd (aA HB.out hb);have k5:=KB.out.cell 5;have k7:=KB.out.cell 7;have k8:=KB.out.cell 8;have k9:=KB.out.cell 9;clear hb
   by_cases n1:val q<0
   ·rw[decide_eq_true n1];go_wp2;go_ret;exact⟨gG (by rw[hr.out,if_pos (by simp[n1])]),HB.out⟩
   rw[decide_eq_false n1];go_wp2_with fail;refine(H7.out _).mono ?_;rintro e w5 ⟨rfl,hb⟩;have KB:=Hd (KB.out.below hb);have HB:=Hd (aA HB.out hb);have k5:=KB.out.cell 5;have k7:=KB.out.cell 7;have k8:=KB.out.cell 8;have k9:=KB.out.cell 9;clear hb
   by_cases n2:val c<0
   ·rw[decide_eq_true n2];go_wp2;go_ret;exact⟨gG (by rw[hr.out,if_pos (by simp[n2])]),HB.out⟩
   rw[decide_eq_false n2];go_wp2_with fail;refine(H8.out _).mono ?_;rintro e w5 ⟨rfl,hb⟩;have KB:=Hd (KB.out.below hb);have HB:=Hd (aA HB.out hb);have k5:=KB.out.cell 5;have k7:=KB.out.cell 7;have k8:=KB.out.cell 8;have k9:=KB.out.cell 9;clear hb
   by_cases n3:val rp<0
   ·rw[decide_eq_true n3];go_wp2;go_ret;exact⟨gG (by rw[hr.out,if_pos (by simp[n3])]),HB.out⟩
   rw[decide_eq_false n3];go_wp2_with fail;refine(H9.out _).mono ?_;rintro e w5 ⟨rfl,hb⟩;have KB:=Hd (KB.out.below hb);have HB:=Hd (aA HB.out hb);have hc9:=Hd (aMq (val rp) (val q));clear hb;clear k5 k7 k8 k9
   by_cases n4:val q<val rp
   ·have t4:=hc9.out.2 n4;generalize bG (val rp) (val q)=z at *;go_wp2;go_ret;exact⟨gG (by rw[hr.out,if_pos (by simp[n4])]),HB.out⟩
   have t4:=mt hc9.out.1 n4;generalize bG (val rp) (val q)=z at *;have hr:Hid (r=if val df<0∨ls<val df∨(rp=[]/\df ≠ []) then 2 else 0):=by show _=_;rw[hr.out,if_neg (by simp[n1,n2,n3,n4])]
   clear n1 n2 n3 n4 hc9;have hc12:=Hd (aMq (val df) ls)
   by_cases m1:val df<0
   ·rw[decide_eq_true m1] at H10;have hr:Hid (r=2):=by show _=_;rw[hr.out,if_pos (.inl m1)]
    go_wp2_with fail;refine wp_region_held_drew (S:=(fun W=>W.cell? ⟨w.heap.size,0,none⟩=some (.string ⟨cause.toArray⟩)/\W.cell? ⟨w.heap.size,1,none⟩=some (.string ⟨lot.toArray⟩)/\W.cell? ⟨w.heap.size,2,none⟩=some (.string ⟨ins.toArray⟩)/\W.cell? ⟨w.heap.size,3,none⟩=some (.int .i64 acq)/\W.cell? ⟨w.heap.size,4,none⟩=some (.int .i64 cls)/\W.cell? ⟨w.heap.size,5,none⟩=some (.string ⟨q.toArray⟩)/\W.cell? ⟨w.heap.size,6,none⟩=some (.string ⟨p.toArray⟩)/\W.cell? ⟨w.heap.size,7,none⟩=some (.string ⟨c.toArray⟩)/\W.cell? ⟨w.heap.size,8,none⟩=some (.string ⟨df.toArray⟩)/\W.cell? ⟨w.heap.size,9,none⟩=some (.string ⟨rp.toArray⟩))) (by kernel_rfl) ?hS1 (fun hHeld=>?hR1)
    case hS1=>exact⟨KB.out.cell 0,KB.out.cell 1,KB.out.cell 2,KB.out.cell 3,KB.out.cell 4,KB.out.cell 5,KB.out.cell 6,KB.out.cell 7,KB.out.cell 8,KB.out.cell 9⟩
    refine In 0 (some 74) rfl rfl ?_;simp only[pS];refine In 1 (some 75) rfl rfl ?_;simp only[pS];refine rd1 2 rfl (fun K hK=>?_);go_simp;go_at_call 63;refine(H10.out _).mono ?_;rintro e w6 ⟨rfl,hb6⟩;have HB6:=aA (aD HB.out 1) hb6;have KB6:=KB.out.below (aA (aD (Br _ _) 1) hb6);go_wp2_with fail;refine hK.out _ _ ?hS4 (fun hHeld=>?hR4)
    case hS4=>exact⟨KB6.cell 0,KB6.cell 1,KB6.cell 2,KB6.cell 3,KB6.cell 4,KB6.cell 5,KB6.cell 6,KB6.cell 7,KB6.cell 8,KB6.cell 9⟩
    try simp only[pS]
    refine In 3 (some 77) rfl rfl ?_;simp only[pS];refine tu 4 (some 78) rfl rfl ?_;simp only[pS];refine tu 5 (some 79) rfl rfl ?_;simp only[pS];refine tu 6 (some 80) rfl rfl ?_;simp only[pS];refine tu 7 (some 81) rfl rfl ?_;simp only[pS];refine tu 8 (some 82) rfl rfl ?_;simp only[pS];refine tu 9 (some 83) rfl rfl ?_;simp only[pS];refine In 10 (some 84) rfl rfl ?_;simp only[pS];refine In 11 (some 85) rfl rfl ?_;simp only[pS];refine tu 12 (some 86) rfl rfl ?_;simp only[pS];refine tu 13 (some 87) rfl rfl ?_;simp only[pS];refine tu 14 (some 88) rfl rfl ?_;simp only[pS];refine tu 15 (some 89) rfl rfl ?_;simp only[pS];refine tu 16 (some 90) rfl rfl ?_;simp only[pS];refine tu 17 (some 91) rfl rfl ?_;simp only[pS];refine tu 18 (some 92) rfl rfl ?_;simp only[pS];refine tu 19 (some 93) rfl rfl ?_;simp only[pS];refine In 20 (some 94) rfl rfl ?_;simp only[pS];refine wpAnyH_done (by kernel_rfl) ?_ _;go_wp2;go_ret;exact⟨gG hr.out.symm,HB6⟩
   rw[decide_eq_false m1] at H10;have hr:Hid (r=if ls<val df∨(rp=[]/\df ≠ []) then 2 else 0):=by show _=_;rw[hr.out];simp[m1]
   clear m1
   by_cases m2:ls<val df
   ·have t2:decide (0<bG (val df) ls)=true:=decide_eq_true (hc12.out.2 m2);have t2':0<bG (val df) ls:=hc12.out.2 m2;have hr:Hid (r=2):=by show _=_;rw[hr.out,if_pos (.inl m2)]
    clear m2 hc12;generalize bG (val df) ls=zz at *;generalize aJ ls=cl at *;go_wp2_with fail;refine wp_region_held_drew (S:=(fun W=>W.cell? ⟨w.heap.size,0,none⟩=some (.string ⟨cause.toArray⟩)/\W.cell? ⟨w.heap.size,1,none⟩=some (.string ⟨lot.toArray⟩)/\W.cell? ⟨w.heap.size,2,none⟩=some (.string ⟨ins.toArray⟩)/\W.cell? ⟨w.heap.size,3,none⟩=some (.int .i64 acq)/\W.cell? ⟨w.heap.size,4,none⟩=some (.int .i64 cls)/\W.cell? ⟨w.heap.size,5,none⟩=some (.string ⟨q.toArray⟩)/\W.cell? ⟨w.heap.size,6,none⟩=some (.string ⟨p.toArray⟩)/\W.cell? ⟨w.heap.size,7,none⟩=some (.string ⟨c.toArray⟩)/\W.cell? ⟨w.heap.size,8,none⟩=some (.string ⟨df.toArray⟩)/\W.cell? ⟨w.heap.size,9,none⟩=some (.string ⟨rp.toArray⟩))) (by kernel_rfl) ?hS9 (fun hHeld=>?hR9)
    case hS9=>exact⟨KB.out.cell 0,KB.out.cell 1,KB.out.cell 2,KB.out.cell 3,KB.out.cell 4,KB.out.cell 5,KB.out.cell 6,KB.out.cell 7,KB.out.cell 8,KB.out.cell 9⟩
    refine In 0 (some 74) rfl rfl ?_;simp only[pS];refine In 1 (some 75) rfl rfl ?_;simp only[pS];refine rd1 2 rfl (fun K hK=>?_);go_simp;go_at_call 63;refine(H10.out _).mono ?_;rintro e w6 ⟨rfl,hb6⟩;have HB6:=aA (aD HB.out 1) hb6;have KB6:=KB.out.below (aA (aD (Br _ _) 1) hb6);go_wp2_with fail;refine hK.out _ _ ?hS12 (fun hHeld=>?hR12)
    case hS12=>exact⟨KB6.cell 0,KB6.cell 1,KB6.cell 2,KB6.cell 3,KB6.cell 4,KB6.cell 5,KB6.cell 6,KB6.cell 7,KB6.cell 8,KB6.cell 9⟩
    try simp only[pS]
    refine In 3 (some 77) rfl rfl ?_;simp only[pS];refine In 4 (some 78) rfl rfl ?_;simp only[pS];refine In 5 (some 79) rfl rfl ?_;simp only[pS];refine In 6 (some 80) rfl rfl ?_;simp only[pS];refine rd1 7 rfl (fun K hK=>?_);go_simp;go_at_call 64;refine(H11.out _ (HE.out.below HB6)).mono ?_;rintro e w7 ⟨rfl,hb7⟩;have HB7:=aA HB6 hb7;have KB7:=KB6.below hb7;go_wp2_with fail;refine hK.out _ _ ?hS17 (fun hHeld=>?hR17)
    case hS17=>exact⟨KB7.cell 0,KB7.cell 1,KB7.cell 2,KB7.cell 3,KB7.cell 4,KB7.cell 5,KB7.cell 6,KB7.cell 7,KB7.cell 8,KB7.cell 9⟩
    try simp only[pS]
    refine rd1 8 rfl (fun K hK=>?_);go_simp;go_at_call 16;refine(H12.out _).mono ?_;rintro e w8 ⟨rfl,hb8⟩;have HB8:=aA HB7 hb8;have KB8:=KB7.below hb8;go_wp2_with fail;refine hK.out _ _ ?hS18 (fun hHeld=>?hR18)
    case hS18=>exact⟨KB8.cell 0,KB8.cell 1,KB8.cell 2,KB8.cell 3,KB8.cell 4,KB8.cell 5,KB8.cell 6,KB8.cell 7,KB8.cell 8,KB8.cell 9⟩
    try simp only[pS]
    refine In 9 (some 83) rfl rfl ?_;simp only[pS];refine In 10 (some 84) rfl rfl ?_;simp only[pS];refine In 11 (some 85) rfl rfl ?_;simp only[pS];refine tu 12 (some 86) rfl rfl ?_;simp only[pS];refine tu 13 (some 87) rfl rfl ?_;simp only[pS];refine tu 14 (some 88) rfl rfl ?_;simp only[pS];refine tu 15 (some 89) rfl rfl ?_;simp only[pS];refine tu 16 (some 90) rfl rfl ?_;simp only[pS];refine tu 17 (some 91) rfl rfl ?_;simp only[pS];refine tu 18 (some 92) rfl rfl ?_;simp only[pS];refine tu 19 (some 93) rfl rfl ?_;simp only[pS];refine In 20 (some 94) rfl rfl ?_;simp only[pS];refine wpAnyH_done (by kernel_rfl) ?_ _;go_wp2;go_ret;exact⟨gG hr.out.symm,HB8⟩
   have t2:decide (0<bG (val df) ls)=false:=decide_eq_false (mt hc12.out.1 m2);have t2':¬ 0<bG (val df) ls:=mt hc12.out.1 m2;have hr:Hid (r=if(rp=[]/\df ≠ []) then 2 else 0):=by show _=_;rw[hr.out];simp[m2]
   clear m2 hc12;generalize bG (val df) ls=zz at *;generalize aJ ls=cl at *
   by_cases m3:rp=[]
   ·by_cases m4:df=[]
    ·have hr:Hid (r=0):=by show _=_;rw[hr.out];simp[m4]
     have m3':rp.isEmpty=true:=by simpa using m3
     have m4':df.isEmpty=true:=by simpa using m4
     clear m3 m4;go_wp2_with fail;refine wp_region_held_drew (S:=(fun W=>W.cell? ⟨w.heap.size,0,none⟩=some (.string ⟨cause.toArray⟩)/\W.cell? ⟨w.heap.size,1,none⟩=some (.string ⟨lot.toArray⟩)/\W.cell? ⟨w.heap.size,2,none⟩=some (.string ⟨ins.toArray⟩)/\W.cell? ⟨w.heap.size,3,none⟩=some (.int .i64 acq)/\W.cell? ⟨w.heap.size,4,none⟩=some (.int .i64 cls)/\W.cell? ⟨w.heap.size,5,none⟩=some (.string ⟨q.toArray⟩)/\W.cell? ⟨w.heap.size,6,none⟩=some (.string ⟨p.toArray⟩)/\W.cell? ⟨w.heap.size,7,none⟩=some (.string ⟨c.toArray⟩)/\W.cell? ⟨w.heap.size,8,none⟩=some (.string ⟨df.toArray⟩)/\W.cell? ⟨w.heap.size,9,none⟩=some (.string ⟨rp.toArray⟩))) (by kernel_rfl) ?hS23 (fun hHeld=>?hR23)
     case hS23=>exact⟨KB.out.cell 0,KB.out.cell 1,KB.out.cell 2,KB.out.cell 3,KB.out.cell 4,KB.out.cell 5,KB.out.cell 6,KB.out.cell 7,KB.out.cell 8,KB.out.cell 9⟩
     refine In 0 (some 74) rfl rfl ?_;simp only[pS];refine In 1 (some 75) rfl rfl ?_;simp only[pS];refine rd1 2 rfl (fun K hK=>?_);go_simp;go_at_call 63;refine(H10.out _).mono ?_;rintro e w6 ⟨rfl,hb6⟩;have HB6:=aA (aD HB.out 1) hb6;have KB6:=KB.out.below (aA (aD (Br _ _) 1) hb6);go_wp2_with fail;refine hK.out _ _ ?hS26 (fun hHeld=>?hR26)
     case hS26=>exact⟨KB6.cell 0,KB6.cell 1,KB6.cell 2,KB6.cell 3,KB6.cell 4,KB6.cell 5,KB6.cell 6,KB6.cell 7,KB6.cell 8,KB6.cell 9⟩
     try simp only[pS]
     refine In 3 (some 77) rfl rfl ?_;simp only[pS];refine In 4 (some 78) rfl rfl ?_;simp only[pS];refine In 5 (some 79) rfl rfl ?_;simp only[pS];refine In 6 (some 80) rfl rfl ?_;simp only[pS];refine rd1 7 rfl (fun K hK=>?_);go_simp;go_at_call 64;refine(H11.out _ (HE.out.below HB6)).mono ?_;rintro e w7 ⟨rfl,hb7⟩;have HB7:=aA HB6 hb7;have KB7:=KB6.below hb7;go_wp2_with fail;refine hK.out _ _ ?hS31 (fun hHeld=>?hR31)
     case hS31=>exact⟨KB7.cell 0,KB7.cell 1,KB7.cell 2,KB7.cell 3,KB7.cell 4,KB7.cell 5,KB7.cell 6,KB7.cell 7,KB7.cell 8,KB7.cell 9⟩
     try simp only[pS]
     refine rd1 8 rfl (fun K hK=>?_);go_simp;go_at_call 16;refine(H12.out _).mono ?_;rintro e w8 ⟨rfl,hb8⟩;have HB8:=aA HB7 hb8;have KB8:=KB7.below hb8;go_wp2_with fail;refine hK.out _ _ ?hS32 (fun hHeld=>?hR32)
     case hS32=>exact⟨KB8.cell 0,KB8.cell 1,KB8.cell 2,KB8.cell 3,KB8.cell 4,KB8.cell 5,KB8.cell 6,KB8.cell 7,KB8.cell 8,KB8.cell 9⟩
     try simp only[pS]
     refine In 9 (some 83) rfl rfl ?_;simp only[pS];refine In 10 (some 84) rfl rfl ?_;simp only[pS];refine In 11 (some 85) rfl rfl ?_;simp only[pS];refine In 12 (some 86) rfl rfl ?_;simp only[pS];refine In 13 (some 87) rfl rfl ?_;simp only[pS];refine In 14 (some 88) rfl rfl ?_;simp only[pS];refine In 15 (some 89) rfl rfl ?_;simp only[pS];refine In 16 (some 90) rfl rfl ?_;simp only[pS];refine In 17 (some 91) rfl rfl ?_;simp only[pS];refine In 18 (some 92) rfl rfl ?_;simp only[pS];refine In 19 (some 93) rfl rfl ?_;simp only[pS];refine In 20 (some 94) rfl rfl ?_;simp only[pS];refine wpAnyH_done (by kernel_rfl) ?_ _;go_wp2;go_ret;exact⟨gG hr.out.symm,HB8⟩
    ·have hr:Hid (r=2):=by show _=_;rw[hr.out];simp[m3,m4]
     have m3':rp.isEmpty=true:=by simpa using m3
     have m4':df.isEmpty=false:=by simpa using m4
     clear m3 m4;go_wp2_with fail;refine wp_region_held_drew (S:=(fun W=>W.cell? ⟨w.heap.size,0,none⟩=some (.string ⟨cause.toArray⟩)/\W.cell? ⟨w.heap.size,1,none⟩=some (.string ⟨lot.toArray⟩)/\W.cell? ⟨w.heap.size,2,none⟩=some (.string ⟨ins.toArray⟩)/\W.cell? ⟨w.heap.size,3,none⟩=some (.int .i64 acq)/\W.cell? ⟨w.heap.size,4,none⟩=some (.int .i64 cls)/\W.cell? ⟨w.heap.size,5,none⟩=some (.string ⟨q.toArray⟩)/\W.cell? ⟨w.heap.size,6,none⟩=some (.string ⟨p.toArray⟩)/\W.cell? ⟨w.heap.size,7,none⟩=some (.string ⟨c.toArray⟩)/\W.cell? ⟨w.heap.size,8,none⟩=some (.string ⟨df.toArray⟩)/\W.cell? ⟨w.heap.size,9,none⟩=some (.string ⟨rp.toArray⟩))) (by kernel_rfl) ?hS45 (fun hHeld=>?hR45)
     case hS45=>exact⟨KB.out.cell 0,KB.out.cell 1,KB.out.cell 2,KB.out.cell 3,KB.out.cell 4,KB.out.cell 5,KB.out.cell 6,KB.out.cell 7,KB.out.cell 8,KB.out.cell 9⟩
     refine In 0 (some 74) rfl rfl ?_;simp only[pS];refine In 1 (some 75) rfl rfl ?_;simp only[pS];refine rd1 2 rfl (fun K hK=>?_);go_simp;go_at_call 63;refine(H10.out _).mono ?_;rintro e w6 ⟨rfl,hb6⟩;have HB6:=aA (aD HB.out 1) hb6;have KB6:=KB.out.below (aA (aD (Br _ _) 1) hb6);go_wp2_with fail;refine hK.out _ _ ?hS48 (fun hHeld=>?hR48)
     case hS48=>exact⟨KB6.cell 0,KB6.cell 1,KB6.cell 2,KB6.cell 3,KB6.cell 4,KB6.cell 5,KB6.cell 6,KB6.cell 7,KB6.cell 8,KB6.cell 9⟩
     try simp only[pS]
     refine In 3 (some 77) rfl rfl ?_;simp only[pS];refine In 4 (some 78) rfl rfl ?_;simp only[pS];refine In 5 (some 79) rfl rfl ?_;simp only[pS];refine In 6 (some 80) rfl rfl ?_;simp only[pS];refine rd1 7 rfl (fun K hK=>?_);go_simp;go_at_call 64;refine(H11.out _ (HE.out.below HB6)).mono ?_;rintro e w7 ⟨rfl,hb7⟩;have HB7:=aA HB6 hb7;have KB7:=KB6.below hb7;go_wp2_with fail;refine hK.out _ _ ?hS53 (fun hHeld=>?hR53)
     case hS53=>exact⟨KB7.cell 0,KB7.cell 1,KB7.cell 2,KB7.cell 3,KB7.cell 4,KB7.cell 5,KB7.cell 6,KB7.cell 7,KB7.cell 8,KB7.cell 9⟩
     try simp only[pS]
     refine rd1 8 rfl (fun K hK=>?_);go_simp;go_at_call 16;refine(H12.out _).mono ?_;rintro e w8 ⟨rfl,hb8⟩;have HB8:=aA HB7 hb8;have KB8:=KB7.below hb8;go_wp2_with fail;refine hK.out _ _ ?hS54 (fun hHeld=>?hR54)
     case hS54=>exact⟨KB8.cell 0,KB8.cell 1,KB8.cell 2,KB8.cell 3,KB8.cell 4,KB8.cell 5,KB8.cell 6,KB8.cell 7,KB8.cell 8,KB8.cell 9⟩
     try simp only[pS]
     refine In 9 (some 83) rfl rfl ?_;simp only[pS];refine In 10 (some 84) rfl rfl ?_;simp only[pS];refine In 11 (some 85) rfl rfl ?_;simp only[pS];refine In 12 (some 86) rfl rfl ?_;simp only[pS];refine In 13 (some 87) rfl rfl ?_;simp only[pS];refine In 14 (some 88) rfl rfl ?_;simp only[pS];refine In 15 (some 89) rfl rfl ?_;simp only[pS];refine In 16 (some 90) rfl rfl ?_;simp only[pS];refine In 17 (some 91) rfl rfl ?_;simp only[pS];refine In 18 (some 92) rfl rfl ?_;simp only[pS];refine In 19 (some 93) rfl rfl ?_;simp only[pS];refine In 20 (some 94) rfl rfl ?_;simp only[pS];refine wpAnyH_done (by kernel_rfl) ?_ _;go_wp2;go_ret;exact⟨gG hr.out.symm,HB8⟩
   ·have hr:Hid (r=0):=by show _=_;rw[hr.out];simp[m3]
    have m3':rp.isEmpty=false:=by simpa using m3
    clear m3;go_wp2_with fail;refine wp_region_held_drew (S:=(fun W=>W.cell? ⟨w.heap.size,0,none⟩=some (.string ⟨cause.toArray⟩)/\W.cell? ⟨w.heap.size,1,none⟩=some (.string ⟨lot.toArray⟩)/\W.cell? ⟨w.heap.size,2,none⟩=some (.string ⟨ins.toArray⟩)/\W.cell? ⟨w.heap.size,3,none⟩=some (.int .i64 acq)/\W.cell? ⟨w.heap.size,4,none⟩=some (.int .i64 cls)/\W.cell? ⟨w.heap.size,5,none⟩=some (.string ⟨q.toArray⟩)/\W.cell? ⟨w.heap.size,6,none⟩=some (.string ⟨p.toArray⟩)/\W.cell? ⟨w.heap.size,7,none⟩=some (.string ⟨c.toArray⟩)/\W.cell? ⟨w.heap.size,8,none⟩=some (.string ⟨df.toArray⟩)/\W.cell? ⟨w.heap.size,9,none⟩=some (.string ⟨rp.toArray⟩))) (by kernel_rfl) ?hS67 (fun hHeld=>?hR67)
    case hS67=>exact⟨KB.out.cell 0,KB.out.cell 1,KB.out.cell 2,KB.out.cell 3,KB.out.cell 4,KB.out.cell 5,KB.out.cell 6,KB.out.cell 7,KB.out.cell 8,KB.out.cell 9⟩
    refine In 0 (some 74) rfl rfl ?_;simp only[pS];refine In 1 (some 75) rfl rfl ?_;simp only[pS];refine rd1 2 rfl (fun K hK=>?_);go_simp;go_at_call 63;refine(H10.out _).mono ?_;rintro e w6 ⟨rfl,hb6⟩;have HB6:=aA (aD HB.out 1) hb6;have KB6:=KB.out.below (aA (aD (Br _ _) 1) hb6);go_wp2_with fail;refine hK.out _ _ ?hS70 (fun hHeld=>?hR70)
    case hS70=>exact⟨KB6.cell 0,KB6.cell 1,KB6.cell 2,KB6.cell 3,KB6.cell 4,KB6.cell 5,KB6.cell 6,KB6.cell 7,KB6.cell 8,KB6.cell 9⟩
    try simp only[pS]
    refine In 3 (some 77) rfl rfl ?_;simp only[pS];refine In 4 (some 78) rfl rfl ?_;simp only[pS];refine In 5 (some 79) rfl rfl ?_;simp only[pS];refine In 6 (some 80) rfl rfl ?_;simp only[pS];refine rd1 7 rfl (fun K hK=>?_);go_simp;go_at_call 64;refine(H11.out _ (HE.out.below HB6)).mono ?_;rintro e w7 ⟨rfl,hb7⟩;have HB7:=aA HB6 hb7;have KB7:=KB6.below hb7;go_wp2_with fail;refine hK.out _ _ ?hS75 (fun hHeld=>?hR75)
    case hS75=>exact⟨KB7.cell 0,KB7.cell 1,KB7.cell 2,KB7.cell 3,KB7.cell 4,KB7.cell 5,KB7.cell 6,KB7.cell 7,KB7.cell 8,KB7.cell 9⟩
    try simp only[pS]
    refine rd1 8 rfl (fun K hK=>?_);go_simp;go_at_call 16;refine(H12.out _).mono ?_;rintro e w8 ⟨rfl,hb8⟩;have HB8:=aA HB7 hb8;have KB8:=KB7.below hb8;go_wp2_with fail;refine hK.out _ _ ?hS76 (fun hHeld=>?hR76)
    case hS76=>exact⟨KB8.cell 0,KB8.cell 1,KB8.cell 2,KB8.cell 3,KB8.cell 4,KB8.cell 5,KB8.cell 6,KB8.cell 7,KB8.cell 8,KB8.cell 9⟩
    try simp only[pS]
    refine In 9 (some 83) rfl rfl ?_;simp only[pS];refine In 10 (some 84) rfl rfl ?_;simp only[pS];refine In 11 (some 85) rfl rfl ?_;simp only[pS];refine In 12 (some 86) rfl rfl ?_;simp only[pS];refine In 13 (some 87) rfl rfl ?_;simp only[pS];refine In 14 (some 88) rfl rfl ?_;simp only[pS];refine In 15 (some 89) rfl rfl ?_;simp only[pS];refine tu 16 (some 90) rfl rfl ?_;simp only[pS];refine tu 17 (some 91) rfl rfl ?_;simp only[pS];refine tu 18 (some 92) rfl rfl ?_;simp only[pS];refine In 19 (some 93) rfl rfl ?_;simp only[pS];refine In 20 (some 94) rfl rfl ?_;simp only[pS];refine wpAnyH_done (by kernel_rfl) ?_ _;go_wp2;go_ret;exact⟨gG hr.out.symm,HB8⟩
theorem aM8(x:aLe)(w:World)(hE:iE w)(hs:x.small):
  Calls prog 17 #[x.v] w fun e w'=>e=.returned (.int .i64 x.err)/\Below w.heap.size w w':=dD4 x w hE hs.wide
end
section
open Go.RowKit Num Dt
attribute [local go_sem] eW eN aV
def aL3(w:World)(a:Option Addr)(gs:List aLe):Prop :=
 gs=[]∨∃b off,a=some ⟨b,off,none⟩/\b<w.heap.size/\∀k x,gs[k]?=some x ->
  w.cell? ⟨b,off+k*10,none⟩=some (Pm x.cause)/\w.cell? ⟨b,off+k*10+1,none⟩=some (Pm x.lot)/\w.cell? ⟨b,off+k*10+2,none⟩=some (Pm x.ins)/\w.cell? ⟨b,off+k*10+3,none⟩=some (.int .i64 x.acq)/\w.cell? ⟨b,off+k*10+4,none⟩=some (.int .i64 x.cls)/\w.cell? ⟨b,off+k*10+5,none⟩=some (Pm x.q)/\w.cell? ⟨b,off+k*10+6,none⟩=some (Pm x.p)/\w.cell? ⟨b,off+k*10+7,none⟩=some (Pm x.c)/\w.cell? ⟨b,off+k*10+8,none⟩=some (Pm x.df)/\w.cell? ⟨b,off+k*10+9,none⟩=some (Pm x.rp)
theorem aL3.below{w w':World}{a:Option Addr}{gs:List aLe}(h:aL3 w a gs)(hb:Below w.heap.size w w'):aL3 w' a gs:=by
 rcases h with h|⟨b,off,ha,hlt,hc⟩
 ·exact .inl h
 ·have hcell:∀o,w'.cell? ⟨b,o,none⟩=w.cell? ⟨b,o,none⟩:=fun o=>hb.cell (p:=⟨b,o,none⟩) hlt
  refine .inr ⟨b,off,ha,Nat.lt_of_lt_of_le hlt hb.size,fun k x hx=>?_⟩;simp only[hcell];exact hc k x hx
theorem aL3.addr{w:World}{a:Option Addr}{gs:List aLe}(h:aL3 w a gs){k:Nat}{x:aLe}(hx:gs[k]?=some x):
  ∃b off,a=some ⟨b,off,none⟩/\w.cell? ⟨b,off+k*10,none⟩=some (Pm x.cause)/\w.cell? ⟨b,off+k*10+1,none⟩=some (Pm x.lot)/\w.cell? ⟨b,off+k*10+2,none⟩=some (Pm x.ins)/\w.cell? ⟨b,off+k*10+3,none⟩=some (.int .i64 x.acq)/\w.cell? ⟨b,off+k*10+4,none⟩=some (.int .i64 x.cls)/\w.cell? ⟨b,off+k*10+5,none⟩=some (Pm x.q)/\w.cell? ⟨b,off+k*10+6,none⟩=some (Pm x.p)/\w.cell? ⟨b,off+k*10+7,none⟩=some (Pm x.c)/\w.cell? ⟨b,off+k*10+8,none⟩=some (Pm x.df)/\w.cell? ⟨b,off+k*10+9,none⟩=some (Pm x.rp):=by
 rcases h with h|⟨b,off,ha,_,hc⟩
 ·rw[h] at hx;simp at hx
 ·exact⟨b,off,ha,hc k x hx⟩
theorem aL3.take{w:World}{a:Option Addr}{gs:List aLe}(h:aL3 w a gs)(k:Nat):aL3 w a (gs.take k):=by
 rcases h with h|⟨b,off,ha,hlt,hc⟩
 ·exact .inl (by rw[h];simp)
 ·refine .inr ⟨b,off,ha,hlt,fun j x hx=>hc j x ?_⟩;rw[List.getElem?_take] at hx;split at hx
  ·exact hx
  ·cases hx
theorem aMe(g:Nat)(p:aLe->Bool)(hen:∀(args:Array Value) (w:World),(callFunc g args).run prog w=.ok (.enter g args) w)(gs:List aLe)(a:Option Addr)(cap:Nat)(w:World)(hE:iE w)
  (hp:∀(x:aLe) W,x∈gs->iE W->Calls prog g #[x.v] W fun e w'=>e=.returned (.bool (p x))/\Below W.heap.size W w')
  (hw:aL3 w a gs) (hl:gs.length<=1000000) :
  Calls prog 134 #[.slice a gs.length cap,.func (.func g) #[] #[]] w fun e w'=>(∃z:Int,e=.returned (.int .i64 z)/\decide (0<=z)=gs.any p)/\Below w.heap.size w w':=by
 have HP:=Hd hp;have HW:=Hd hw;have HE:=Hd hE;clear hp hw hE;go_enter func134,ntmps134;go_wp2;go_loopw [8] (fun i W=>Hid (Below w.heap.size w W)/\∃k:Nat,k<=gs.length/\i=.int .i64 (k:Int)/\Hid ((gs.take k).any p=false)) (fun i _=>gs.length-(intOf i).toNat)
 case atStart=>exact⟨Br _ _,0,Nat.zero_le _,rfl,rfl⟩
 case round =>
  obtain⟨hB,k,hk,rfl,hT⟩:=hrel
  by_cases hlt:k<gs.length
  ·obtain⟨x,hx⟩:∃x,gs[k]?=some x:=⟨gs[k],Lg hlt⟩
   obtain⟨b,off,ha,k0,k1,k2,k3,k4,k5,k6,k7,k8,k9⟩:=(HW.out.below hB.out).addr hx;subst ha;have HX:=Hd (fun h=>aMw (p:=p) hx h);have HY:=Hd (fun h=>aL2 (p:=p) hx hT.out h);have HP:=Hd (fun W h=>HP.out x W (List.mem_of_getElem? hx) h);clear hx;simp only[aLe.v,aLe.cs] at HP;go_wp2_with fail;refine(HP.out _ (HE.out.below hB.out)).mono ?_;rintro e w1 ⟨rfl,hb⟩;have hB:=Hd (aA hB.out hb);clear k0 k1 k2 k3 k4 k5 k6 k7 k8 k9 hb;cases hpx:p x
   ·go_wp2;go_round
    case rel=>exact⟨hB,k+1,by omega,by go_num,HY.out hpx⟩
    case measure=>simp[intOf];omega
   ·go_wp2;go_ret;exact⟨⟨(k:Int),rfl,by rw[HX.out hpx];simp⟩,hB.out⟩
  ·obtain rfl:k=gs.length:=by omega
   go_wp2;go_ret;exact⟨⟨-1,rfl,by have:=hT.out;rw[List.take_length] at this;rw[this];rfl⟩,hB.out⟩
theorem aMp(g:Nat)(p:aLe->Bool)(hen:∀(args:Array Value) (w:World),(callFunc g args).run prog w=.ok (.enter g args) w)(gs:List aLe)(a:Option Addr)(cap:Nat)(w:World)(hE:iE w)
  (hp:∀(x:aLe) W,x∈gs->iE W->Calls prog g #[x.v] W fun e w'=>e=.returned (.bool (p x))/\Below W.heap.size W w')
  (hw:aL3 w a gs) (hl:gs.length<=1000000) :
  Calls prog 80 #[.slice a gs.length cap,.func (.func g) #[] #[]] w fun e w'=>e=.returned (.bool (gs.any p))/\Below w.heap.size w w':=by
 have H:=Hd (aMe g p hen gs a cap w hE hp hw hl);clear hp hw hE;go_enter func80,ntmps80;go_wp2_with fail;refine H.out.mono ?_;rintro e w1 ⟨⟨z,rfl,hz⟩,hb⟩;have HZ:=Hd hz;clear hz
 by_cases g0:0<=z
 all_goals
  go_wp2;go_ret;exact⟨dG (by rw[<-HZ.out];try simp[g0]),hb⟩
def aLe.bad(x:aLe):Bool:=decide (x.err≠0)
end
end Go.Proofs.YtiloklnjjfaagaaGreatDoor
