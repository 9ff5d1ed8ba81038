/- WashsalePeriodsLaw -/
import Derived.Test.YtiloklnjjfaagaaGreatDoorWD
set_option maxHeartbeats 16000000
set_option maxRecDepth 100000
namespace Go.Proofs.YtiloklnjjfaagaaGreatDoor
open Go.Proofs.Tryz
open Go Go.RowKit Num
attribute [local go_sem] eW eN aV
theorem dDj(ls:List Bd)(gs:List aLe)(cause:List UInt8)(d:Int)(ins:List UInt8)(wash:Int)(a a2:Option Addr)(c c2:Nat)(w:World)(hE:iE w)(hn:ls.length<=9223372036854775807)(_hc:ls.length<=c)(hw:Jj w a ls)(hs:∀x,x∈ls->x.fits)
  (hn2:gs.length<=9223372036854775807) (_hc2:gs.length<=c2) (hw2:aL3 w a2 gs) (hs2:∀x,x∈gs->x.fits) (hcause:cause.length<=9223372036854775807) (hins:ins.length<=9223372036854775807) :
  Calls prog 5 #[.slice a ls.length c,.slice a2 gs.length c2,.string ⟨cause.toArray⟩,.int .i64 d,.string ⟨ins.toArray⟩,.int .i64 wash] w fun e w'=>e=.returned (.bool true)/\Below w.heap.size w w':=by
 have HA:=Hd (fun W (hb:Below w.heap.size w W)=>dHq W (hE.below hb));have H1:=Hd (dHp ls gs a c a2 c2 w hn hw hs hn2 hw2 hs2);have HE:=Hd hE;have HW:=Hd (And.intro hw hw2);have HCI:=Hd (And.intro hcause hins);clear hE hw hs hw2 hs2 hcause hins hn hn2 _hc _hc2;go_enter func5,ntmps5;go_wp2_with fail;refine H1.out.mono ?_;rintro e w1 ⟨rfl,hb⟩;have HB:=Hd hb;clear hb H1;cases hg:dFm ls gs
 case true =>
  go_wp2_with fail;refine(HA.out _ HB.out).mono ?_;rintro e w2 ⟨rfl,hb⟩;go_wp2;go_ret;exact⟨rfl,aA HB.out hb⟩
 have S:=Hd (dI2 hg);clear hg;have HP:=Hd (dJs ls gs a c a2 c2 cause ins d wash w1 (HE.out.below HB.out) S.out (HW.out.1.below HB.out) (HW.out.2.below HB.out) HCI.out.1 HCI.out.2);go_wp2_with fail;refine HP.out.mono ?_;rintro e w2 ⟨hap,hb⟩;have HB2:=Hd (aA HB.out hb);clear hb HP HB;rcases hap with⟨z,hz,rfl⟩|⟨t,la,lc,ga,gc,sa,sc,ea,en,ec,hEw,_,_,rfl,hres⟩
 ·have hz':(z==0)=false:=by simpa using hz
  have HB3:=Hd (aA HB2.out (aB w2 (.cells #[.slice none 0 0,.slice none 0 0,.slice none 0 0,.slice none 0 0] 30)));go_wp2_with fail;generalize w2.alloc _=w3 at *;refine(HA.out _ HB3.out).mono ?_;rintro e w4 ⟨rfl,hb⟩;go_wp2;go_ret;exact⟨rfl,aA HB3.out hb⟩
 have E:=Hd hEw;have HDF1:Hid (∀W,Below w.heap.size w W->Calls prog 19 #[.slice a2 gs.length c2,.string ⟨ins.toArray⟩] W fun e w'=>e=.returned (.tuple #[.string ⟨(aJ (bXk (dBq ins) gs)).toArray⟩,.int .i64 0])/\Below W.heap.size W w'):=fun W hb=>by
  obtain⟨h1,h2⟩:=dIr (ins:=ins) hEw.ok.gains;have h:=dIo gs a2 c2 ins W (HE.out.below hb) (by have:=S.out.gl;omega) (HW.out.2.below hb) (fun x hx=>(S.out.gains x hx).wide);rw[h1,h2] at h;exact h
 have HDF2:Hid (∀W,Below w.heap.size w W->aL3 W ga t.gains->Calls prog 19 #[.slice ga t.gains.length gc,.string ⟨ins.toArray⟩] W fun e w'=>e=.returned (.tuple #[.string ⟨(aJ (bXk (dBq ins) t.gains)).toArray⟩,.int .i64 0])/\Below W.heap.size W w'):=fun W hb hg=>by
  obtain⟨h1,h2⟩:=dIr (ins:=ins) hEw.keep.ok.gains;have h:=dIo t.gains ga gc ins W (HE.out.below hb) (by have:=hEw.stOk.gl;omega) hg hEw.wideG;rw[h1,h2] at h;exact h
 have HSB:Hid (∀W,Below w.heap.size w W->Calls prog 15 #[.string ⟨(aJ (bXk (dBq ins) t.gains)).toArray⟩,.string ⟨(aJ (bXk (dBq ins) gs)).toArray⟩] W fun e w'=>e=.returned (.string ⟨(aJ t.sum).toArray⟩)/\Below W.heap.size W w'):=fun W hb=>by
  have h:=aAd (aJ (bXk (dBq ins) t.gains)) (aJ (bXk (dBq ins) gs)) W (HE.out.below hb) (by have:=dJ9 hEw.fit ins;omega) (by have h2:(aJ (bXk (dBq ins) gs)).length<=100:=dJ9 hEw.fits ins;omega);rw[bE,bE,hEw.grown] at h;exact h
 have HSW:=Hd hEw.steps;have HLN:=Hd hEw.lens;have HSN:Hid (t.steps.length<=100000):=hEw.stOk.st;have HLN2:Hid (t.lots.length<=1000):=hEw.stOk.ok.lots.len;have KR:=Hd (aP.new0 w2 #[.slice la t.lots.length lc,.slice ga t.gains.length gc,.slice sa t.steps.length sc,.slice ea en ec] 30);have hba:=aB w2 (.cells #[.slice la t.lots.length lc,.slice ga t.gains.length gc,.slice sa t.steps.length sc,.slice ea en ec] 30);have HB3:=Hd (aA HB2.out hba);have HLT:=Hd (hres.lots.below hba);have HGT:=Hd (hres.gains.below hba);have HST:=Hd ((dJg hres.steps).below hba);obtain⟨rb,hrb⟩:∃rb,rb=w2.heap.size:=⟨_,rfl⟩
 rw[<-hrb] at KR;generalize aJ (bXk (dBq ins) gs)=da at *;generalize aJ (bXk (dBq ins) t.gains)=db at *;clear hEw hres hba HB2;go_wp2_with fail;rw[<-hrb];clear hrb;generalize w2.alloc _=w3 at *;go_loopw [15,51] (fun sv iv W=>Hid (Below w.heap.size w W)/\Hid (aP W rb #[.slice la t.lots.length lc,.slice ga t.gains.length gc,.slice sa t.steps.length sc,.slice ea en ec] 30)/\Hid (Jj W la t.lots)/\Hid (aL3 W ga t.gains)/\Hid (dIq W sa t.steps) /\
  ∃k:Nat,k<=t.steps.length/\iv=.int .i64 (k:Int)/\∃st:List UInt8,sv=.string ⟨st.toArray⟩/\Hid (st=aJ (bXk dAn (t.steps.take k)))/\st.length<=1000+2*k) (fun _ iv _=>t.steps.length-(intOf iv).toNat)
 case atStart=>exact⟨HB3,KR,HLT,HGT,HST,0,Nat.zero_le _,rfl,[],rfl,nA.symm,by simp⟩
 case round =>
  clear HB3 KR HLT HGT HST;obtain⟨HB,KR,HLT,HGT,HST,k,hk,rfl,st,rfl,hst,hsl⟩:=hrel;have hsn:=HSN.out
  by_cases hlt:k<t.steps.length
  ·obtain⟨x,hx⟩:∃x,t.steps[k]?=some x:=⟨t.steps[k],Lg hlt⟩
   have hxm:=List.mem_of_getElem? hx;obtain⟨b,off,ha,k0,k1,k2,k3,k4,k5⟩:=HST.out.addr hx;obtain⟨e1,e2,e3⟩:=HSW.out.all x hxm;have hcl:=(HLN.out x hxm).2.2;rw[e1] at k0;rw[e3] at k3;have hd1:(x.dst == [])=false:=by simpa using e2
   have hd2:x.dst.isEmpty=false:=by simpa using e2
   subst ha;have HAD:=Hd (fun W hW=>aAg st x.c W hW (by omega) (by omega));have hl6:=aPa (l:=st) (m:=x.c) (K:=1000+2*k) (by omega) (by omega);have HT:=Hd (dIj dAn hx);have HAX:Hid (dAn x=if x.src=[] then val x.c else 0):=rfl;have hba:=aB wr (.cells #[.string ⟨cause.toArray⟩,.string ⟨x.src.toArray⟩,.string ⟨x.dst.toArray⟩,.string ⟨x.made.toArray⟩,.string ⟨x.made.toArray⟩,.string ⟨x.c.toArray⟩] 45);have HB4:=Hd (aA HB.out hba);have KR4:=Hd (KR.out.below hba);have HLT4:=Hd (HLT.out.below hba);have HGT4:=Hd (HGT.out.below hba);have HST4:=Hd (HST.out.below hba);clear hx hxm hba HB KR HLT HGT HST e1 e2 e3
   by_cases hq:x.src=[]
   ·rw[hq] at k1;have HSS:Hid (aJ (val st+val x.c)=aJ (bXk dAn (t.steps.take (k+1)))):=by
     show _=_;rw[HT.out,hst.out,bE,HAX.out,if_pos hq]
    rw[hq] at HB4 KR4 HLT4 HGT4 HST4;clear HT HAX hq;go_wp2_with fail;generalize wr.alloc _=w0 at *;refine(HAD.out _ (HE.out.below HB4.out)).mono ?_;rintro e w5 ⟨rfl,hb⟩;have HB5:=Hd (aA HB4.out hb);have KR5:=Hd (KR4.out.below hb);have HLT5:=Hd (HLT4.out.below hb);have HGT5:=Hd (HGT4.out.below hb);have HST5:=Hd (HST4.out.below hb);clear hb HAD k0 k1 k2 k3 k4 k5 HB4 KR4 HLT4 HGT4 HST4;go_wp2;go_round
    case rel=>exact⟨HB5,KR5,HLT5,HGT5,HST5,k+1,by omega,by go_num,_,rfl,HSS,by omega⟩
    case measure=>simp[intOf];omega
   ·have HSS:Hid (st=aJ (bXk dAn (t.steps.take (k+1)))):=by
     show _=_;rw[HT.out,HAX.out,if_neg hq,Int.add_zero];exact hst.out
    have hq1:(x.src == [])=false:=by simpa using hq
    have hq2:x.src.isEmpty=false:=by simpa using hq
    clear HT HAX HAD hq;go_wp2;go_round
    case rel=>exact⟨HB4,KR4,HLT4,HGT4,HST4,k+1,by omega,by go_num,_,rfl,HSS,by omega⟩
    case measure=>simp[intOf];omega
  ·obtain rfl:k=t.steps.length:=by omega
   have hsum:st=aJ t.sum:=by rw[hst.out,List.take_length,HSW.out.add]
   clear hst hsl hlt hk;subst hsum;generalize aJ t.sum=sm at *;go_wp2_with fail;refine(HDF1.out _ HB.out).mono ?_;rintro e w4 ⟨rfl,hb⟩;have HB4:=Hd (aA HB.out hb);have KR4:=Hd (KR.out.below hb);have HLT4:=Hd (HLT.out.below hb);have HGT4:=Hd (HGT.out.below hb);have HST4:=Hd (HST.out.below hb);clear hb HDF1 HB KR HLT HGT HST;have r1:=KR4.out.cell 1;go_wp2_with fail;refine(HDF2.out _ HB4.out HGT4.out).mono ?_;rintro e w5 ⟨rfl,hb⟩;have HB5:=Hd (aA HB4.out hb);have KR5:=Hd (KR4.out.below hb);have HLT5:=Hd (HLT4.out.below hb);have HST5:=Hd (HST4.out.below hb);clear hb HDF2 HB4 KR4 HLT4 HGT4 HST4 r1;go_wp2_with fail;refine(HSB.out _ HB5.out).mono ?_;rintro e w6 ⟨rfl,hb⟩;have HB6:=Hd (aA HB5.out hb);have KR6:=Hd (KR5.out.below hb);have HLT6:=Hd (HLT5.out.below hb);have HST6:=Hd (HST5.out.below hb);clear hb HSB HB5 KR5 HLT5 HST5;have r0:=KR6.out.cell 0;go_wp2_with fail;clear r0;go_loopw [100] (fun iv W=>Hid (Below w.heap.size w W)/\Hid (aP W rb #[.slice la t.lots.length lc,.slice ga t.gains.length gc,.slice sa t.steps.length sc,.slice ea en ec] 30)/\Hid (Jj W la t.lots)/\Hid (dIq W sa t.steps)/\∃k:Nat,k<=t.lots.length/\iv=.int .i64 (k:Int)) (fun iv _=>t.lots.length-(intOf iv).toNat)
   case atStart=>exact⟨HB6,KR6,HLT6,HST6,0,Nat.zero_le _,rfl⟩
   case round =>
    clear HB6 KR6 HLT6 HST6;obtain⟨HB,KR,HLT,HST,k,hk,rfl⟩:=hrel;have hln:=HLN2.out
    by_cases hlt:k<t.lots.length
    ·obtain⟨x,hx⟩:∃x,t.lots[k]?=some x:=⟨t.lots[k],Lg hlt⟩
     have hxm:=List.mem_of_getElem? hx;obtain⟨z,hz,ez,eq,ec',eo,ei,ea',eu⟩:=E.out.book.entry x hxm;have gx:=E.out.keep.ok.lots.ok x hxm;obtain⟨k2,hk2,hzk⟩:=dKd E.out.ok.lots.ids hz ez;have hxid:=dBb gx;have hmx:=E.out.stOk.lm x hxm;have hsz:=S.out.lots z hz;obtain⟨_,_,_,⟨iq,ic,_⟩,_⟩:=bYi.1 gx;have HQI:=Hd (And.intro (dFx iq) (dFx ic));have HEQ:=Hd (And.intro eq (And.intro ec' (And.intro eo (And.intro ei (And.intro ea' eu)))));have HZ:=Hd hzk;have HFD:Hid (∀W,Jj W a ls->Calls prog 20 #[.slice a ls.length c,.string ⟨(bZz x.id t.steps).toArray⟩] W fun e w'=>e=.returned (.tuple #[.int .i64 (k2:Int),.bool true])/\Below W.heap.size W w'):=fun W hl=>by
      have h:=dF2 ls (bZz x.id t.steps) a c W hl (by have:=S.out.ll;omega);rw[hk2,show max (k2:Int) 0=(k2:Int) by omega,show decide ((0:Int)<=(k2:Int))=true by simp] at h;exact h
     have HKL:Hid (k2<ls.length/\ls.length<=1000000):=⟨(Li.1 hzk).1,by have:=S.out.ll;omega⟩
     have HZL:=Hd hsz;obtain⟨b,off,ha,q0,q1,q2,q3,q4,q5,q6⟩:=HLT.out.addr hx;obtain⟨wo,hwo⟩:∃wo,wo=wr:=⟨_,rfl⟩
     rw[<-hwo] at HB KR HLT HST q0 q1 q2 q3 q4 q5 q6 ⊢;have hba:=aB wo (.cells #[.string ⟨x.id.toArray⟩,.string ⟨x.ins.toArray⟩,.int .i64 x.acq,.int .i64 x.opn,.string ⟨x.q.toArray⟩,.string ⟨x.c.toArray⟩,.string ⟨x.u.toArray⟩] 49);have KX:=Hd (aP.new0 wo #[.string ⟨x.id.toArray⟩,.string ⟨x.ins.toArray⟩,.int .i64 x.acq,.int .i64 x.opn,.string ⟨x.q.toArray⟩,.string ⟨x.c.toArray⟩,.string ⟨x.u.toArray⟩] 49);obtain⟨bx,hbx⟩:∃bx,bx=wo.heap.size:=⟨_,rfl⟩
     rw[<-hbx] at KX;have HB4:=Hd (aA HB.out hba);have KR4:=Hd (KR.out.below hba);have HLT4:=Hd (HLT.out.below hba);have HST4:=Hd (HST.out.below hba);have r2:=KR.out.cell 2;have hrl:rb<wo.heap.size:=KR.out.1;subst ha;clear hwo hx hxm hz ez eq ec' eo ei ea' eu gx hk2 hzk hmx hsz iq ic hba HB KR HLT HST;go_wp2_with fail;rw[<-hbx];clear hbx;generalize wo.alloc _=w7 at *;clear q0 q1 q2 q3 q4 q5 q6 r2 hrl;go_loopw [24,25,26,109] (fun dv qv cv jv W=>Hid (Below w.heap.size w W)/\Hid (aP W rb #[.slice (some ⟨b,off,none⟩) t.lots.length lc,.slice ga t.gains.length gc,.slice sa t.steps.length sc,.slice ea en ec] 30)/\Hid (Jj W (some ⟨b,off,none⟩) t.lots)/\Hid (dIq W sa t.steps) /\
      Hid (aP W bx #[.string ⟨x.id.toArray⟩,.string ⟨x.ins.toArray⟩,.int .i64 x.acq,.int .i64 x.opn,.string ⟨x.q.toArray⟩,.string ⟨x.c.toArray⟩,.string ⟨x.u.toArray⟩] 49) /\
      ∃j:Nat,j<=t.steps.length/\jv=.int .i64 (j:Int)/\∃dd qq cc:List UInt8,dv=.string ⟨dd.toArray⟩/\qv=.string ⟨qq.toArray⟩/\cv=.string ⟨cc.toArray⟩/\Hid (dd=bZz x.id (t.steps.take j))/\Hid (qq=aJ (bXk (dAh x.id) (t.steps.take j)))/\Hid (cc=aJ (bXk (dAm x.id) (t.steps.take j)))/\qq.length<=2000+4*j/\cc.length<=2000+4*j)
      (fun _ _ _ jv _=>t.steps.length-(intOf jv).toNat)
     case atStart=>exact⟨HB4,KR4,HLT4,HST4,KX,0,Nat.zero_le _,rfl,x.id,[],[],rfl,rfl,rfl,rfl,nA.symm,nA.symm,by simp,by simp⟩
     case round =>
      clear HB4 KR4 HLT4 HST4 KX;obtain⟨HB,KR,HLT,HST,KX,j,hj,rfl,dd,qq,cc,rfl,rfl,rfl,hdd,hqq,hcc,hql,hcl⟩:=hrel;have hsn:=HSN.out
      by_cases hltj:j<t.steps.length
      ·obtain⟨st,hst⟩:∃st,t.steps[j]?=some st:=⟨t.steps[j],Lg hltj⟩
       obtain⟨l1,l2,l3⟩:=HLN.out st (List.mem_of_getElem? hst);obtain⟨sb,so,hsa,k0,k1,k2',k3,k4,k5⟩:=HST.out.addr hst;have HRT:=Hd (dJ3 (id:=x.id) hst);have HTQ:=Hd (dIj (dAh x.id) hst);have HTC:=Hd (dIj (dAm x.id) hst);have HAQ:Hid (dAh x.id st=(if st.dst=x.id/\st.src ≠ [] then val st.made else 0)-(if st.src=x.id then val st.q else 0)):=rfl;have HAC:Hid (dAm x.id st=(if st.dst=x.id then val st.c else 0)-(if st.src=x.id then val st.c else 0)):=rfl;have HL:=Hd (And.intro l1 (And.intro l2 l3));have hba:=aB wr (.cells #[.string ⟨st.cause.toArray⟩,.string ⟨st.src.toArray⟩,.string ⟨st.dst.toArray⟩,.string ⟨st.q.toArray⟩,.string ⟨st.made.toArray⟩,.string ⟨st.c.toArray⟩] 45);have KS4:=Hd (aP.new0 wr #[.string ⟨st.cause.toArray⟩,.string ⟨st.src.toArray⟩,.string ⟨st.dst.toArray⟩,.string ⟨st.q.toArray⟩,.string ⟨st.made.toArray⟩,.string ⟨st.c.toArray⟩] 45);obtain⟨bs,hbs⟩:∃bs,bs=wr.heap.size:=⟨_,rfl⟩
       rw[<-hbs] at KS4;have HB4:=Hd (aA HB.out hba);have KR4:=Hd (KR.out.below hba);have HLT4:=Hd (HLT.out.below hba);have HST4:=Hd (HST.out.below hba);have KX4:=Hd (KX.out.below hba);have c0:=KX.out.cell 0;have hxl:bx<wr.heap.size:=KX.out.1;subst hsa;clear hst l1 l2 l3 hba HB KR HLT HST KX;have HQV:Hid (val qq=bXk (dAh x.id) (t.steps.take j)/\aJ (val qq)=qq):=by
        show _/\_;rw[hqq.out,bE];exact⟨rfl,rfl⟩
       have HCV:Hid (val cc=bXk (dAm x.id) (t.steps.take j)/\aJ (val cc)=cc):=by
        show _/\_;rw[hcc.out,bE];exact⟨rfl,rfl⟩
       by_cases hd:st.dst=x.id
       ·have hd1:(st.dst==x.id)=true:=by simpa using hd
        have HAD:=Hd (fun W hW=>aAg cc st.c W hW (by omega) (by have:=HL.out.2.2;omega));have hcl2:=aPa (l:=cc) (m:=st.c) (K:=2000+4*j) hcl (by have:=HL.out.2.2;omega);have HCM:Hid (val (aJ (val cc+val st.c))=bXk (dAm x.id) (t.steps.take j)+(if st.dst=x.id then val st.c else 0)):=by
         show _=_;rw[bE,if_pos hd,HCV.out.1]
        have HCC:Hid (aJ (val (aJ (val cc+val st.c)))=aJ (val cc+val st.c)):=by show _=_;rw[bE]
        have hcl2:(aJ (val cc+val st.c)).length<=2002+4*j:=by omega
        generalize aJ (val cc+val st.c)=c1 at *;have HDE:=Hd hd;clear hd;go_wp2_with fail;rw[<-hbs];clear hbs;generalize wr.alloc _=w8 at *;clear c0 hxl k0 k1 k2' k3 k4 k5;refine(HAD.out _ (HE.out.below HB4.out)).mono ?_;rintro e w9 ⟨rfl,hb⟩;have HB5:=Hd (aA HB4.out hb);have KR5:=Hd (KR4.out.below hb);have HLT5:=Hd (HLT4.out.below hb);have HST5:=Hd (HST4.out.below hb);have KX5:=Hd (KX4.out.below hb);have KS5:=Hd (KS4.out.below hb);clear hb HAD HB4 KR4 HLT4 HST4 KX4 KS4;have hd:=HDE.out
        by_cases hs:st.src=[]
        ·have hs1:(st.src == [])=true:=by simpa using hs
         have hs2:st.src.isEmpty=true:=by simpa using hs
         have HDQ:Hid (dd=bZz x.id (t.steps.take (j+1))):=by
          show _=_;rw[HRT.out,if_neg (fun h=>h.2 hs)];exact hdd.out
         have HQM:Hid (val qq=bXk (dAh x.id) (t.steps.take j)+(if st.dst=x.id/\st.src ≠ [] then val st.made else 0)):=by
          show _=_;rw[if_neg (fun h=>h.2 hs),Int.add_zero];exact HQV.out.1
         have HQC:Hid (aJ (val qq)=qq):=HQV.out.2;have hql2:qq.length<=2002+4*j:=by omega
         have hr:¬ st.src=x.id:=fun h=>hxid (h ▸ hs)
         clear hs;have s1:=KS5.out.cell 1;go_upto_region 31 with fail
         clear s1;have hr1:(st.src==x.id)=false:=by simpa using hr
         have s1:=KS5.out.cell 1;have c0:=KX5.out.cell 0;have HF1:Hid (qq=aJ (bXk (dAh x.id) (t.steps.take (j+1)))):=by
          show _=_;rw[HTQ.out,HAQ.out,if_neg hr,Int.sub_zero,<-HQM.out];exact HQC.out.symm
         have HF2:Hid (c1=aJ (bXk (dAm x.id) (t.steps.take (j+1)))):=by
          show _=_;rw[HTC.out,HAC.out,if_neg hr,Int.sub_zero,<-HCM.out];exact HCC.out.symm
         go_wp2;go_round
         case rel=>exact⟨HB5,KR5,HLT5,HST5,KX5,j+1,by omega,by go_num,_,_,_,rfl,rfl,rfl,HDQ,HF1,HF2,by omega,by omega⟩
         case measure=>simp[intOf];omega
        ·have hs1:(st.src == [])=false:=by simpa using hs
         have hs2:st.src.isEmpty=false:=by simpa using hs
         have HDQ:Hid (st.src=bZz x.id (t.steps.take (j+1))):=by
          show _=_;rw[HRT.out,if_pos ⟨hd,hs⟩]
         have HQM:Hid (val (aJ (val qq+val st.made))=bXk (dAh x.id) (t.steps.take j)+(if st.dst=x.id/\st.src ≠ [] then val st.made else 0)):=by
          show _=_;rw[bE,if_pos ⟨hd,hs⟩,HQV.out.1]
         have HQC:Hid (aJ (val (aJ (val qq+val st.made)))=aJ (val qq+val st.made)):=by show _=_;rw[bE]
         have hql1:=aPa (l:=qq) (m:=st.made) (K:=2000+4*j) hql (by have:=HL.out.2.1;omega);have hql2:(aJ (val qq+val st.made)).length<=2002+4*j:=by omega
         have HAM:=Hd (fun W hW=>aAg qq st.made W hW (by omega) (by have:=HL.out.2.1;omega));clear hql1;generalize aJ (val qq+val st.made)=q1 at *;have s1:=KS5.out.cell 1;go_upto_region 30 with fail
         clear s1;refine dJ2 (C:=⟨w9.drewN 1,bs,st,qq,q1⟩) ?Ma rfl rfl rfl ?_
         case Ma =>
          have hd:=aD (Br w9.heap.size w9) 1;exact⟨rfl,rfl,rfl,KS5.out.below hd,fun W hW=>HAM.out W (HE.out.below (aA HB5.out (aA hd hW)))⟩
         intro V hV;have hV:=aA (aD (Br w9.heap.size w9) 1) hV;have HB6:=Hd (aA HB5.out hV);have KR6:=Hd (KR5.out.below hV);have HLT6:=Hd (HLT5.out.below hV);have HST6:=Hd (HST5.out.below hV);have KX6:=Hd (KX5.out.below hV);have KS6:=Hd (KS5.out.below hV);clear hV HB5 KR5 HLT5 HST5 KX5 KS5 HAM;simp only[iZ,dJ8,List.foldl,List.setIfInBounds_toArray,List.set_cons_zero,List.set_cons_succ,dJ6.val];go_upto_region 31 with fail
         by_cases hr:st.src=x.id
         ·have hr1:(st.src==x.id)=true:=by simpa using hr
          have s1:=KS6.out.cell 1;have c0:=KX6.out.cell 0;go_upto_region 32 with fail
          clear s1 c0;refine dJf (C:=⟨V.drewN 1,bs,st,q1,c1,aJ (val (q1)-val st.q),aJ (val (c1)-val st.c)⟩) ?Mr rfl rfl rfl ?_
          case Mr =>
           have hd:=aD (Br V.heap.size V) 1;exact⟨rfl,rfl,rfl,rfl,KS6.out.below hd,fun W hW=>aAd (q1) st.q W (HE.out.below (aA HB6.out (aA hd hW))) (by omega) (by have:=HL.out.1;omega),fun W hW=>aAd (c1) st.c W (HE.out.below (aA HB6.out (aA hd hW))) (by omega) (by have:=HL.out.2.2;omega)⟩
          intro V7 hV;have hV:=aA (aD (Br V.heap.size V) 1) hV;have HB7:=Hd (aA HB6.out hV);have KR7:=Hd (KR6.out.below hV);have HLT7:=Hd (HLT6.out.below hV);have HST7:=Hd (HST6.out.below hV);have KX7:=Hd (KX6.out.below hV);have hl1:=Np (l:=q1) (m:=st.q) (K:=2002+4*j) hql2 (by have:=HL.out.1;omega);have hl2:=Np (l:=c1) (m:=st.c) (K:=2002+4*j) hcl2 (by have:=HL.out.2.2;omega);clear hV HB6 KR6 HLT6 HST6 KX6 KS6;have HF1:Hid (aJ (val (q1)-val st.q)=aJ (bXk (dAh x.id) (t.steps.take (j+1)))):=by
           show _=_;rw[HTQ.out,HAQ.out,if_pos hr,HQM.out];congr 1;omega
          have HF2:Hid (aJ (val (c1)-val st.c)=aJ (bXk (dAm x.id) (t.steps.take (j+1)))):=by
           show _=_;rw[HTC.out,HAC.out,if_pos hr,HCM.out];congr 1;omega
          simp only[iZ,dJx,List.foldl,List.setIfInBounds_toArray,List.set_cons_zero,List.set_cons_succ,dJz.val];go_wp2;go_round
          case rel=>exact⟨HB7,KR7,HLT7,HST7,KX7,j+1,by omega,by go_num,_,_,_,rfl,rfl,rfl,HDQ,HF1,HF2,by omega,by omega⟩
          case measure=>simp[intOf];omega
         ·have hr1:(st.src==x.id)=false:=by simpa using hr
          have s1:=KS6.out.cell 1;have c0:=KX6.out.cell 0;have HF1:Hid (q1=aJ (bXk (dAh x.id) (t.steps.take (j+1)))):=by
           show _=_;rw[HTQ.out,HAQ.out,if_neg hr,Int.sub_zero,<-HQM.out];exact HQC.out.symm
          have HF2:Hid (c1=aJ (bXk (dAm x.id) (t.steps.take (j+1)))):=by
           show _=_;rw[HTC.out,HAC.out,if_neg hr,Int.sub_zero,<-HCM.out];exact HCC.out.symm
          go_wp2;go_round
          case rel=>exact⟨HB6,KR6,HLT6,HST6,KX6,j+1,by omega,by go_num,_,_,_,rfl,rfl,rfl,HDQ,HF1,HF2,by omega,by omega⟩
          case measure=>simp[intOf];omega
       ·have hd1:(st.dst==x.id)=false:=by simpa using hd
        have HDQ:Hid (dd=bZz x.id (t.steps.take (j+1))):=by
         show _=_;rw[HRT.out,if_neg (fun h=>hd h.1)];exact hdd.out
        have HQM:Hid (val qq=bXk (dAh x.id) (t.steps.take j)+(if st.dst=x.id/\st.src ≠ [] then val st.made else 0)):=by
         show _=_;rw[if_neg (fun h=>hd h.1),Int.add_zero];exact HQV.out.1
        have HQC:Hid (aJ (val qq)=qq):=HQV.out.2;have HCM:Hid (val cc=bXk (dAm x.id) (t.steps.take j)+(if st.dst=x.id then val st.c else 0)):=by
         show _=_;rw[if_neg hd,Int.add_zero];exact HCV.out.1
        have HCC:Hid (aJ (val cc)=cc):=HCV.out.2;have hql2:qq.length<=2002+4*j:=by omega
        have hcl2:cc.length<=2002+4*j:=by omega
        go_upto_region 31 with fail
        rw[<-hbs];clear hbs;generalize wr.alloc _=w8 at *;clear c0 hxl k0 k1 k2' k3 k4 k5
        by_cases hr:st.src=x.id
        ·have hr1:(st.src==x.id)=true:=by simpa using hr
         have s1:=KS4.out.cell 1;have c0:=KX4.out.cell 0;go_upto_region 32 with fail
         clear s1 c0;refine dJf (C:=⟨w8.drewN 1,bs,st,qq,cc,aJ (val (qq)-val st.q),aJ (val (cc)-val st.c)⟩) ?Mr rfl rfl rfl ?_
         case Mr =>
          have hd:=aD (Br w8.heap.size w8) 1;exact⟨rfl,rfl,rfl,rfl,KS4.out.below hd,fun W hW=>aAd (qq) st.q W (HE.out.below (aA HB4.out (aA hd hW))) (by omega) (by have:=HL.out.1;omega),fun W hW=>aAd (cc) st.c W (HE.out.below (aA HB4.out (aA hd hW))) (by omega) (by have:=HL.out.2.2;omega)⟩
         intro V hV;have hV:=aA (aD (Br w8.heap.size w8) 1) hV;have HB5:=Hd (aA HB4.out hV);have KR5:=Hd (KR4.out.below hV);have HLT5:=Hd (HLT4.out.below hV);have HST5:=Hd (HST4.out.below hV);have KX5:=Hd (KX4.out.below hV);have hl1:=Np (l:=qq) (m:=st.q) (K:=2002+4*j) hql2 (by have:=HL.out.1;omega);have hl2:=Np (l:=cc) (m:=st.c) (K:=2002+4*j) hcl2 (by have:=HL.out.2.2;omega);clear hV HB4 KR4 HLT4 HST4 KX4 KS4;have HF1:Hid (aJ (val (qq)-val st.q)=aJ (bXk (dAh x.id) (t.steps.take (j+1)))):=by
          show _=_;rw[HTQ.out,HAQ.out,if_pos hr,HQM.out];congr 1;omega
         have HF2:Hid (aJ (val (cc)-val st.c)=aJ (bXk (dAm x.id) (t.steps.take (j+1)))):=by
          show _=_;rw[HTC.out,HAC.out,if_pos hr,HCM.out];congr 1;omega
         simp only[iZ,dJx,List.foldl,List.setIfInBounds_toArray,List.set_cons_zero,List.set_cons_succ,dJz.val];go_wp2;go_round
         case rel=>exact⟨HB5,KR5,HLT5,HST5,KX5,j+1,by omega,by go_num,_,_,_,rfl,rfl,rfl,HDQ,HF1,HF2,by omega,by omega⟩
         case measure=>simp[intOf];omega
        ·have hr1:(st.src==x.id)=false:=by simpa using hr
         have s1:=KS4.out.cell 1;have c0:=KX4.out.cell 0;have HF1:Hid (qq=aJ (bXk (dAh x.id) (t.steps.take (j+1)))):=by
          show _=_;rw[HTQ.out,HAQ.out,if_neg hr,Int.sub_zero,<-HQM.out];exact HQC.out.symm
         have HF2:Hid (cc=aJ (bXk (dAm x.id) (t.steps.take (j+1)))):=by
          show _=_;rw[HTC.out,HAC.out,if_neg hr,Int.sub_zero,<-HCM.out];exact HCC.out.symm
         go_wp2;go_round
         case rel=>exact⟨HB4,KR4,HLT4,HST4,KX4,j+1,by omega,by go_num,_,_,_,rfl,rfl,rfl,HDQ,HF1,HF2,by omega,by omega⟩
         case measure=>simp[intOf];omega
      ·obtain rfl:j=t.steps.length:=by omega
       have HDD:Hid (dd=bZz x.id t.steps):=by show _=_;rw[hdd.out,List.take_length]
       have HQQ:Hid (val qq=bXk (dAh x.id) t.steps):=by show _=_;rw[hqq.out,List.take_length,bE]
       have HCC:Hid (val cc=bXk (dAm x.id) t.steps):=by show _=_;rw[hcc.out,List.take_length,bE]
       have hql2:qq.length<=1000000:=by omega
       have hcl2:cc.length<=1000000:=by omega
       have HQL:=Hd (And.intro hql2 hcl2);have HQC:Hid (aJ (val qq)=qq/\aJ (val cc)=cc):=by
        show _/\_;rw[hqq.out,hcc.out,bE,bE];exact⟨rfl,rfl⟩
       rw[<-HDD.out] at HFD;clear hdd hqq hcc hql hcl hql2 hcl2 hltj hj hsn;have hk0:¬ ((k2:Int)<0):=by omega
       have hk1:¬ ((ls.length:Int)<=(k2:Int)):=by have:=HKL.out.1;omega
       go_wp2_with fail;refine(HFD.out _ (HW.out.1.below HB.out)).mono ?_;rintro e w8 ⟨rfl,hb⟩;have HB8:=Hd (aA HB.out hb);have KR8:=Hd (KR.out.below hb);have HLT8:=Hd (HLT.out.below hb);have HST8:=Hd (HST.out.below hb);have KX8:=Hd (KX.out.below hb);obtain⟨zb,zo,ha,j0,j1,j2,j3,j4,j5,j6⟩:=(HW.out.1.below HB8.out).addr HZ.out;subst ha;have HJ8:=Hd (And.intro j0 (And.intro j1 (And.intro j2 j3)));have HJZ:=Hd (And.intro j4 j5);clear hb HFD HB KR HLT HST KX j0 j1 j2 j3 j4 j5 j6;have heq:=HEQ.out.1;have hec:=HEQ.out.2.1;rw[<-HDD.out] at heq hec;have c0:=KX8.out.cell 0
       by_cases hR:dd=x.id
       ·have hR1:(dd==x.id)=true:=by simpa using hR
        rw[if_pos hR] at heq hec;have hqx:aJ (val qq+val z.q)=x.q:=by rw[HQQ.out,<-heq];exact HQI.out.1
        have hcx:aJ (val cc+val z.c)=x.c:=by rw[HCC.out,<-hec];exact HQI.out.2
        have HAQ:=Hd (fun W hW=>aAg qq z.q W hW (by have:=HQL.out.1;omega) (by have:=HZL.out.2.2.1;omega));have HAC:=Hd (fun W hW=>aAg cc z.c W hW (by have:=HQL.out.2;omega) (by have:=HZL.out.2.2.2.1;omega));rw[hqx] at HAQ;rw[hcx] at HAC;clear hqx hcx heq hec hR;go_upto_region 38 with fail
        clear c0;refine dJ1 (C:=⟨w8.drewN 1,zb,zo,ls.length,c,k2,z.q,z.c,qq,cc,x.q,x.c⟩) ?Me rfl rfl rfl ?_
        case Me =>
         have hd:=aD (Br w8.heap.size w8) 1;exact⟨rfl,rfl,rfl,rfl,rfl,dG6 HJ8.out.1,HJZ.out.1,HJZ.out.2,HKL.out.1,HKL.out.2,fun W hW=>HAQ.out W (HE.out.below (aA HB8.out (aA hd hW))),fun W hW=>HAC.out W (HE.out.below (aA HB8.out (aA hd hW)))⟩
        intro V hV;have hV:=aA (aD (Br w8.heap.size w8) 1) hV;have HB9:=Hd (aA HB8.out hV);have KR9:=Hd (KR8.out.below hV);have HLT9:=Hd (HLT8.out.below hV);have HST9:=Hd (HST8.out.below hV);have KX9:=Hd (KX8.out.below hV);have hzl:=dG6 HJ8.out.1;have HJ9:Hid (V.cell? ⟨zb,zo+k2*7,none⟩=some (Pm z.id)/\V.cell? ⟨zb,zo+k2*7+1,none⟩=some (Pm z.ins)/\V.cell? ⟨zb,zo+k2*7+2,none⟩=some (.int .i64 z.acq)/\V.cell? ⟨zb,zo+k2*7+3,none⟩=some (.int .i64 z.opn)):=⟨(hV.cell (p:=⟨zb,zo+k2*7,none⟩) hzl).trans HJ8.out.1,(hV.cell (p:=⟨zb,zo+k2*7+1,none⟩) hzl).trans HJ8.out.2.1,(hV.cell (p:=⟨zb,zo+k2*7+2,none⟩) hzl).trans HJ8.out.2.2.1,(hV.cell (p:=⟨zb,zo+k2*7+3,none⟩) hzl).trans HJ8.out.2.2.2⟩
        clear hV hzl HB8 KR8 HLT8 HST8 KX8 HJ8 HJZ HAQ HAC;simp only[iZ,dJ7,List.foldl,List.setIfInBounds_toArray,List.set_cons_zero,List.set_cons_succ,dJ5.val];go_upto_region 39 with fail
        have hF:(decide (x.acq<z.acq) && !(x.u==x.q))=false:=by
         cases h:decide (x.acq<z.acq)
         ·rfl
         ·rw[HEQ.out.2.2.2.2.2 (of_decide_eq_true h)];simp
        obtain⟨n1,hn1⟩:∃n1,n1=decide (x.acq<z.acq):=⟨_,rfl⟩
        obtain⟨n2,hn2⟩:∃n2,n2 = !(x.u==x.q):=⟨_,rfl⟩
        rw[<-hn1,<-hn2] at hF;refine dI9 (C:=⟨V.drewN 1,bx,x,zb,zo,ls.length,c,k2,z.acq,n1,n2⟩) ?Mf rfl rfl rfl ?_
        case Mf =>
         have hd:=aD (Br V.heap.size V) 1;exact⟨rfl,rfl,rfl,rfl,rfl,rfl,KX9.out.below hd,dG6 HJ9.out.1,by rw[HEQ.out.2.2.2.1];exact HJ9.out.2.1,HJ9.out.2.2.1,by rw[HEQ.out.2.2.1];exact HJ9.out.2.2.2,HKL.out.1,HKL.out.2,decide_eq_false (by have:=HEQ.out.2.2.2.2.1;show ¬ (z.acq<x.acq);omega),hn1.symm,by rw[hn2];simp⟩
        intro V9 hV;have hV:=aA (aD (Br V.heap.size V) 1) hV;have HB10:=Hd (aA HB9.out hV);have KR10:=Hd (KR9.out.below hV);have HLT10:=Hd (HLT9.out.below hV);have HST10:=Hd (HST9.out.below hV);clear hV HB9 KR9 HLT9 HST9 KX9 HJ9 hn1 hn2 hk0 hk1;simp only[iZ,dJw,List.foldl,List.setIfInBounds_toArray,List.set_cons_zero,List.set_cons_succ,dJy.val,hF];go_wp2;go_round
        case rel=>exact⟨HB10,KR10,HLT10,HST10,k+1,by omega,by go_num⟩
        case measure=>simp[intOf];omega
       ·have hR1:(dd==x.id)=false:=by simpa using hR
        rw[if_neg hR,Int.add_zero] at heq hec;have hqx:qq=x.q:=by rw[<-HQI.out.1,heq,<-HQQ.out];exact HQC.out.1.symm
        have hcx:cc=x.c:=by rw[<-HQI.out.2,hec,<-HCC.out];exact HQC.out.2.symm
        clear heq hec hR HQC;subst hqx hcx;go_upto_region 39 with fail
        have hF:(decide (x.acq<z.acq) && !(x.u==x.q))=false:=by
         cases h:decide (x.acq<z.acq)
         ·rfl
         ·rw[HEQ.out.2.2.2.2.2 (of_decide_eq_true h)];simp
        obtain⟨n1,hn1⟩:∃n1,n1=decide (x.acq<z.acq):=⟨_,rfl⟩
        obtain⟨n2,hn2⟩:∃n2,n2 = !(x.u==x.q):=⟨_,rfl⟩
        rw[<-hn1,<-hn2] at hF;refine dI9 (C:=⟨w8.drewN 1,bx,x,zb,zo,ls.length,c,k2,z.acq,n1,n2⟩) ?Mf rfl rfl rfl ?_
        case Mf =>
         have hd:=aD (Br w8.heap.size w8) 1;exact⟨rfl,rfl,rfl,rfl,rfl,rfl,KX8.out.below hd,dG6 HJ8.out.1,by rw[HEQ.out.2.2.2.1];exact HJ8.out.2.1,HJ8.out.2.2.1,by rw[HEQ.out.2.2.1];exact HJ8.out.2.2.2,HKL.out.1,HKL.out.2,decide_eq_false (by have:=HEQ.out.2.2.2.2.1;show ¬ (z.acq<x.acq);omega),hn1.symm,by rw[hn2];simp⟩
        intro V9 hV;have hV:=aA (aD (Br w8.heap.size w8) 1) hV;have HB9:=Hd (aA HB8.out hV);have KR9:=Hd (KR8.out.below hV);have HLT9:=Hd (HLT8.out.below hV);have HST9:=Hd (HST8.out.below hV);clear hV HB8 KR8 HLT8 HST8 KX8 HJ8 hn1 hn2 hk0 hk1;simp only[iZ,dJw,List.foldl,List.setIfInBounds_toArray,List.set_cons_zero,List.set_cons_succ,dJy.val,hF];go_wp2;go_round
        case rel=>exact⟨HB9,KR9,HLT9,HST9,k+1,by omega,by go_num⟩
        case measure=>simp[intOf];omega
    ·obtain rfl:k=t.lots.length:=by omega
     go_wp2_with fail;refine(HA.out _ HB.out).mono ?_;rintro e w9 ⟨rfl,hb⟩;go_wp2;go_ret;exact⟨rfl,aA HB.out hb⟩
end Go.Proofs.YtiloklnjjfaagaaGreatDoor
