/- Opts -/
import Derived.Test.YthjekgfoidmagaaGreatDoorUFact
set_option maxHeartbeats 16000000
set_option maxRecDepth 100000
namespace Go.Proofs.YthjekgfoidmagaaGreatDoor
open Tryz
open Go.RowKit Num
def bZ.none(f:bZ):Bool:=f.n.isEmpty&&f.d.isEmpty
def dA:List bZ->Int
 | []=>0
 |f::r=>if lim false false f.n f.d≠0 then lim false false f.n f.d else dA r
def iO(o:eJ):Int:=if((!o.other.isEmpty) != (!o.ratio.none)) || (o.other.isEmpty && !o.value.none) then 2 else 0
def sG(ins:List UInt8)(o:eJ):Int :=
 if(!o.other.isEmpty && !dC o.other)=true then 23 else if(o.other==ins)=true then 18 else if dA [o.ratio,o.price,o.value]≠0 then dA [o.ratio,o.price,o.value] else iO o
def nX(ins:List UInt8):List eJ->Int
 | []=>0
 |o::r=>if sG ins o≠0 then sG ins o else nX ins r
def iP(f:aE):Int:=if f.options.length=0 then 11 else if 8<f.options.length then 4 else nX f.ins f.options
theorem vK(f:aE)(pa oa:Option Addr)(pc oc:Nat)(w:World)(hE:iE w)(hs:f.small)(hb:f.Behind w pa oa):
  Calls prog 93 #[.agg (f.cells pa pc oa oc)] w fun e w'=>e=.returned (.int .i64 (iP f))/\Below w.heap.size w w':=by
 have HE:=Hd hE;have HR:=Hd hb.2;have HS:=Hd hs.option;have hn:=hs.options;have KF:=Hd (aP.new0 w (f.cells pa pc oa oc) 29);have HB0:=Hd (aB w (.cells (f.cells pa pc oa oc) 29));unfold iP;obtain⟨key,stamp,cancelled,day,kind,ins,other,cur,target,fq,amt,fee,price,ratio,share,picks,os,choice⟩:=f;dsimp only at *;unfold aE.cells at *;dsimp only at *;clear hE hb hs
 by_cases h0:os.length=0
 ·rw[if_pos h0];have h0':((os.length:Int)==0)=true:=by rw[h0];rfl
  clear h0;go_enter func93,ntmps93;go_wp2;go_ret;exact⟨rfl,HB0.out⟩
 rw[if_neg h0];have h0':((os.length:Int)==0)=false:=by simp;intro e;exact h0 (by rw[e];rfl)
 clear h0
 by_cases h8:8<os.length
 ·rw[if_pos h8];have h8':(8:Int)<os.length:=by omega
  clear h8;go_enter func93,ntmps93;go_wp2;go_ret;exact⟨rfl,HB0.out⟩
 rw[if_neg h8];have h8':¬ (8:Int)<os.length:=by omega
 clear h8;obtain⟨res,hres⟩:∃res,res=nX ins os:=⟨_,rfl⟩
 rw[<-hres];have HRES:=Hd hres;clear hres;go_enter func93,ntmps93;go_wp2_with fail;go_loopw [19] (fun i W=>∃k:Nat,k<=os.length/\i=.int .i64 (k:Int)/\Hid (res=nX ins (os.drop k))/\Hid (Below (w.alloc (.cells #[.string ⟨key.toArray⟩,.int .i64 stamp,.bool cancelled,.int .i64 day,.int .i64 kind,.string ⟨ins.toArray⟩,.string ⟨other.toArray⟩,.string ⟨cur.toArray⟩,.string ⟨target.toArray⟩,.string ⟨fq.toArray⟩,.string ⟨amt.toArray⟩,.string ⟨fee.toArray⟩,.string ⟨price.n.toArray⟩,.string ⟨price.d.toArray⟩,.string ⟨ratio.n.toArray⟩,.string ⟨ratio.d.toArray⟩,.string ⟨share.n.toArray⟩,.string ⟨share.d.toArray⟩,.slice pa picks.length pc,.slice oa os.length oc,.int .i64 choice] 29)).heap.size (w.alloc (.cells #[.string ⟨key.toArray⟩,.int .i64 stamp,.bool cancelled,.int .i64 day,.int .i64 kind,.string ⟨ins.toArray⟩,.string ⟨other.toArray⟩,.string ⟨cur.toArray⟩,.string ⟨target.toArray⟩,.string ⟨fq.toArray⟩,.string ⟨amt.toArray⟩,.string ⟨fee.toArray⟩,.string ⟨price.n.toArray⟩,.string ⟨price.d.toArray⟩,.string ⟨ratio.n.toArray⟩,.string ⟨ratio.d.toArray⟩,.string ⟨share.n.toArray⟩,.string ⟨share.d.toArray⟩,.slice pa picks.length pc,.slice oa os.length oc,.int .i64 choice] 29)) W)) (fun i _=>os.length-(intOf i).toNat)
 case atStart=>exact⟨0,Nat.zero_le _,rfl,by rw[List.drop_zero];exact HRES.out,Br _ _⟩
 case round =>
  obtain⟨k,hk,rfl,hI,HBW⟩:=hrel;have KFr:=Hd (KF.out.below HBW.out);have HBw:=Hd (aA HB0.out HBW.out)
  by_cases hlt:k<os.length
  ·obtain⟨o,hx⟩:∃o,os[k]?=some o:=⟨os[k],Lg hlt⟩
   obtain⟨b',off,ha,hb',hc⟩:=(HR.out.below HBw.out).addr (k:=k) (cs:=o.cells) (by simp[hx]);subst ha;have c0:wr.cell? ⟨b',off+k*7,none⟩=some (.string ⟨o.other.toArray⟩):=hc 0 _ rfl;have c1:wr.cell? ⟨b',off+k*7+1,none⟩=some (.string ⟨o.ratio.n.toArray⟩):=hc 1 _ rfl;have c2:wr.cell? ⟨b',off+k*7+2,none⟩=some (.string ⟨o.ratio.d.toArray⟩):=hc 2 _ rfl;have c3:wr.cell? ⟨b',off+k*7+3,none⟩=some (.string ⟨o.price.n.toArray⟩):=hc 3 _ rfl;have c4:wr.cell? ⟨b',off+k*7+4,none⟩=some (.string ⟨o.price.d.toArray⟩):=hc 4 _ rfl;have c5:wr.cell? ⟨b',off+k*7+5,none⟩=some (.string ⟨o.value.n.toArray⟩):=hc 5 _ rfl;have c6:wr.cell? ⟨b',off+k*7+6,none⟩=some (.string ⟨o.value.d.toArray⟩):=hc 6 _ rfl;have hos:=HS.out o (List.mem_of_getElem? hx);have HSTEP:Hid (res=if sG ins o≠0 then sG ins o else nX ins (os.drop (k+1))):=by
    show _=_;rw[hI.out,tX hx];rfl
   have HNAME:=Hd (fun W=>qW o.other W (by have:=hos.1;omega));have HOS:=Hd hos;have KO0:=Hd (aP.new0 wr #[.string ⟨o.other.toArray⟩,.string ⟨o.ratio.n.toArray⟩,.string ⟨o.ratio.d.toArray⟩,.string ⟨o.price.n.toArray⟩,.string ⟨o.price.d.toArray⟩,.string ⟨o.value.n.toArray⟩,.string ⟨o.value.d.toArray⟩] 55);have BO0:=Hd (aB wr (.cells #[.string ⟨o.other.toArray⟩,.string ⟨o.ratio.n.toArray⟩,.string ⟨o.ratio.d.toArray⟩,.string ⟨o.price.n.toArray⟩,.string ⟨o.price.d.toArray⟩,.string ⟨o.value.n.toArray⟩,.string ⟨o.value.d.toArray⟩] 55));obtain⟨wo,hwo⟩:∃wo,wo=wr:=⟨_,rfl⟩
   subst hwo;clear hx hc hos hI;obtain⟨other',ratio',price',value'⟩:=o;dsimp only at *;cases hem:other'.isEmpty
   ·go_wp2_with fail;refine(HNAME.out _).mono ?_;rintro e W1 ⟨rfl,hb1⟩;have KO1:=Hd (KO0.out.below hb1);have BO1:=Hd (aA BO0.out hb1);cases hg:dC other'
    ·have HFIN:Hid (res=23):=by show _=_;rw[HSTEP.out];simp[sG,hem,hg]
     go_wp2;go_ret;exact⟨by rw[HFIN.out];rfl,aA HBw.out BO1.out⟩
    have HG:Hid ((!other'.isEmpty && !dC other')=false):=by show _=_;rw[hem,hg];rfl
    clear hg hb1 KO0 BO0 c0 c1 c2 c3 c4 c5 c6;have q5:=(KFr.out.below BO1.out).cell 5;have k0:=KO1.out.cell 0;have k1:=KO1.out.cell 1;have k2:=KO1.out.cell 2;have k3:=KO1.out.cell 3;have k4:=KO1.out.cell 4;have k5:=KO1.out.cell 5;have k6:=KO1.out.cell 6;have HBo:=Hd (aA HBw.out BO1.out);cases he:other'==ins
    case true =>
     have HFIN:Hid (res=18):=by show _=_;rw[HSTEP.out];simp[sG,HG.out,he]
     go_wp2;go_ret;exact⟨by rw[HFIN.out];rfl,HBo.out⟩
    have HFIN:Hid (res=if dA [ratio',price',value']≠0 then dA [ratio',price',value'] else if iO ⟨other',ratio',price',value'⟩≠0 then iO ⟨other',ratio',price',value'⟩ else nX ins (os.drop (k+1))):=by
     show _=_;rw[HSTEP.out]
     by_cases hf:dA [ratio',price',value']=0 <;> simp[sG,HG.out,he,hf]
    have KS:=Hd (aP.new0 (W1) #[.string ⟨ratio'.n.toArray⟩,.string ⟨ratio'.d.toArray⟩,.string ⟨price'.n.toArray⟩,.string ⟨price'.d.toArray⟩,.string ⟨value'.n.toArray⟩,.string ⟨value'.d.toArray⟩] 25);have BS:=Hd (aB (W1) (.cells #[.string ⟨ratio'.n.toArray⟩,.string ⟨ratio'.d.toArray⟩,.string ⟨price'.n.toArray⟩,.string ⟨price'.d.toArray⟩,.string ⟨value'.n.toArray⟩,.string ⟨value'.d.toArray⟩] 25));go_wp2_with fail;clear HNAME HSTEP q5;go_loopw [45] (fun i W=>∃j:Nat,j<=3/\i=.int .i64 (j:Int)/\Hid (dA [ratio',price',value']=dA ([ratio',price',value'].drop j))/\Hid (Below (W1.alloc (.cells #[.string ⟨ratio'.n.toArray⟩,.string ⟨ratio'.d.toArray⟩,.string ⟨price'.n.toArray⟩,.string ⟨price'.d.toArray⟩,.string ⟨value'.n.toArray⟩,.string ⟨value'.d.toArray⟩] 25)).heap.size (W1.alloc (.cells #[.string ⟨ratio'.n.toArray⟩,.string ⟨ratio'.d.toArray⟩,.string ⟨price'.n.toArray⟩,.string ⟨price'.d.toArray⟩,.string ⟨value'.n.toArray⟩,.string ⟨value'.d.toArray⟩] 25)) W)) (fun i _=>3-(intOf i).toNat)
    case atStart=>exact⟨0,by decide,rfl,rfl,Br _ _⟩
    case round =>
     obtain⟨j,hj,rfl,hF,HBI⟩:=hrel;obtain⟨wi,hwi⟩:∃wi,wi=wr:=⟨_,rfl⟩
     subst hwi;have KSr:=Hd (KS.out.below HBI.out)
     by_cases hj3:j<3
     ·obtain⟨x,c0,c1,HSM,HFL⟩:∃x:bZ,wi.cell? ⟨W1.heap.size,j*2,none⟩=some (.string ⟨x.n.toArray⟩)/\wi.cell? ⟨W1.heap.size,j*2+1,none⟩=some (.string ⟨x.d.toArray⟩)/\x.small/\Hid (dA [ratio',price',value']=if lim false false x.n x.d≠0 then lim false false x.n x.d else dA ([ratio',price',value'].drop (j+1))):=by
       rcases(show j=0∨j=1∨j=2 by omega) with rfl|rfl|rfl
       ·exact⟨ratio',KSr.out.cell 0,KSr.out.cell 1,HOS.out.2.1,hF⟩
       ·exact⟨price',KSr.out.cell 2,KSr.out.cell 3,HOS.out.2.2.1,hF⟩
       ·exact⟨value',KSr.out.cell 4,KSr.out.cell 5,HOS.out.2.2.2,hF⟩
      have HLIM:=Hd (fun bp bq W hE hP hQ=>aZ3 false false rfl x.n x.d bp bq 4 4 W hE HSM.1 HSM.2 hP hQ);have KX0:=Hd (aP.new0 wi #[.string ⟨x.n.toArray⟩,.string ⟨x.d.toArray⟩] 25);have BX0:=Hd (aB wi (.cells #[.string ⟨x.n.toArray⟩,.string ⟨x.d.toArray⟩] 25));generalize lim false false x.n x.d=lv at *;go_wp2_with fail;have HBc:=aD (Br (wi.alloc (.cells #[.string ⟨x.n.toArray⟩,.string ⟨x.d.toArray⟩] 25)).heap.size (wi.alloc (.cells #[.string ⟨x.n.toArray⟩,.string ⟨x.d.toArray⟩] 25))) 1;have HBa:=aA HBo.out (aA (aA BS.out HBI.out) BX0.out);have KX:aP (wi.alloc (.cells #[.string ⟨x.n.toArray⟩,.string ⟨x.d.toArray⟩] 25)).drew wi.heap.size #[.string ⟨x.n.toArray⟩,.string ⟨x.d.toArray⟩] 25:=KX0.out;refine wp_region_held_drew (S:=fun W=>W.cell? ⟨wi.heap.size,0,none⟩=some (.string ⟨x.n.toArray⟩)/\W.cell? ⟨wi.heap.size,1,none⟩=some (.string ⟨x.d.toArray⟩)) (by kernel_rfl) ?hS1 (fun hHeld=>?hR1)
      case hS1=>exact⟨KX.cell 0,KX.cell 1⟩
      refine In 1 (some 50) rfl rfl ?_;simp only[pS];refine rd1 0 rfl (fun K hK=>?_);go_simp;go_at_call 86;refine(gS false false _).mono ?_;rintro e wn ⟨bp,bq,rfl,hP,hQ,hbn⟩;replace HBc:=aA HBc hbn;replace KX:=KX.below hbn;clear hbn;go_wp2_with fail;refine hK.out _ _ ?hS3 (fun hHeld=>?hR3)
      case hS3=>exact⟨KX.cell 0,KX.cell 1⟩
      try simp only[pS]
      refine rd1 2 rfl (fun K hK=>?_);go_simp;go_at_call 139;refine(HLIM.out bp bq _ (HE.out.below (aA HBa HBc)) hP hQ).mono ?_;rintro e wn ⟨rfl,hbn⟩;replace HBc:=aA HBc hbn;replace KX:=KX.below hbn;clear hbn hP hQ;go_wp2_with fail;refine hK.out _ _ ?hS4 (fun hHeld=>?hR4)
      case hS4=>exact⟨KX.cell 0,KX.cell 1⟩
      try simp only[pS]
      refine In 3 (some 7) rfl rfl ?_;simp only[pS];refine wpAnyH_done (by kernel_rfl) ?_ _;have HBk:=Hd HBc;clear HBc
      by_cases hlv:lv=0
      ·subst hlv;go_wp2;go_roundw
       case rel=>exact⟨j+1,by omega,by go_num,by show _=_;rw[HFL.out];rfl,aA HBI.out (aA BX0.out HBk.out)⟩
       case measure=>simp[intOf];omega
      ·have hlv':(lv==0)=false:=by simp[hlv]
       have HFIN2:Hid (res=lv):=by show _=_;rw[HFIN.out,HFL.out];simp[hlv]
       clear hlv;go_wp2;go_ret;exact⟨by rw[HFIN2.out];rfl,aA HBa HBk.out⟩
     ·obtain rfl:j=3:=by omega
      have HFIN2:Hid (res=if iO ⟨other',ratio',price',value'⟩≠0 then iO ⟨other',ratio',price',value'⟩ else nX ins (os.drop (k+1))):=by show _=_;rw[HFIN.out,hF.out];rfl
      have HBi:=Hd (aA BS.out HBI.out);have KOr:=KO1.out.below HBi.out;have n0:=KOr.cell 0;have n1:=KOr.cell 1;have n2:=KOr.cell 2;have n5:=KOr.cell 5;have n6:=KOr.cell 6;have HOL:Hid (iO ⟨other',ratio',price',value'⟩=if((!other'.isEmpty) != (!ratio'.none)) || (other'.isEmpty && !value'.none) then 2 else 0):=rfl;clear k0 k1 k2 k3 k4 k5 k6 KSr hF HFIN he KOr HOS;obtain⟨rn,rd⟩:=ratio';obtain⟨vn,vd⟩:=value';dsimp only at *;rcases rn with _|⟨c1,r1⟩
      ·rcases rd with _|⟨c2,r2⟩
       ·have HV:Hid (res=2):=by show _=_;rw[HFIN2.out,HOL.out];simp[bZ.none,hem]
        go_wp2_with fail;go_quiet (fail);go_wp2;go_ret;exact⟨by rw[HV.out];rfl,aD (aA HBo.out HBi.out) _⟩
       ·have HV:Hid (res=nX ins (os.drop (k+1))):=by show _=_;rw[HFIN2.out,HOL.out];simp[bZ.none,hem]
        go_wp2_with fail;go_quiet (fail);go_wp2;go_roundw
        case rel=>exact⟨k+1,by omega,by go_num,HV,aD (aA HBW.out (aA BO1.out HBi.out)) _⟩
        case measure=>simp[intOf];omega
      ·have HV:Hid (res=nX ins (os.drop (k+1))):=by show _=_;rw[HFIN2.out,HOL.out];simp[bZ.none,hem]
       go_wp2_with fail;go_quiet (fail);go_wp2;go_roundw
       case rel=>exact⟨k+1,by omega,by go_num,HV,aD (aA HBW.out (aA BO1.out HBi.out)) _⟩
       case measure=>simp[intOf];omega
   ·have HG:Hid ((!other'.isEmpty && !dC other')=false):=by show _=_;rw[hem];rfl
    have KO1:=KO0;have BO1:=BO0;clear KO0 BO0;have q5:=(KFr.out.below BO1.out).cell 5;have k0:=KO1.out.cell 0;have k1:=KO1.out.cell 1;have k2:=KO1.out.cell 2;have k3:=KO1.out.cell 3;have k4:=KO1.out.cell 4;have k5:=KO1.out.cell 5;have k6:=KO1.out.cell 6;have HBo:=Hd (aA HBw.out BO1.out);cases he:other'==ins
    case true =>
     have HFIN:Hid (res=18):=by show _=_;rw[HSTEP.out];simp[sG,HG.out,he]
     go_wp2;go_ret;exact⟨by rw[HFIN.out];rfl,HBo.out⟩
    have HFIN:Hid (res=if dA [ratio',price',value']≠0 then dA [ratio',price',value'] else if iO ⟨other',ratio',price',value'⟩≠0 then iO ⟨other',ratio',price',value'⟩ else nX ins (os.drop (k+1))):=by
     show _=_;rw[HSTEP.out]
     by_cases hf:dA [ratio',price',value']=0 <;> simp[sG,HG.out,he,hf]
    have KS:=Hd (aP.new0 (wo.alloc (.cells #[.string ⟨other'.toArray⟩,.string ⟨ratio'.n.toArray⟩,.string ⟨ratio'.d.toArray⟩,.string ⟨price'.n.toArray⟩,.string ⟨price'.d.toArray⟩,.string ⟨value'.n.toArray⟩,.string ⟨value'.d.toArray⟩] 55)) #[.string ⟨ratio'.n.toArray⟩,.string ⟨ratio'.d.toArray⟩,.string ⟨price'.n.toArray⟩,.string ⟨price'.d.toArray⟩,.string ⟨value'.n.toArray⟩,.string ⟨value'.d.toArray⟩] 25);have BS:=Hd (aB (wo.alloc (.cells #[.string ⟨other'.toArray⟩,.string ⟨ratio'.n.toArray⟩,.string ⟨ratio'.d.toArray⟩,.string ⟨price'.n.toArray⟩,.string ⟨price'.d.toArray⟩,.string ⟨value'.n.toArray⟩,.string ⟨value'.d.toArray⟩] 55)) (.cells #[.string ⟨ratio'.n.toArray⟩,.string ⟨ratio'.d.toArray⟩,.string ⟨price'.n.toArray⟩,.string ⟨price'.d.toArray⟩,.string ⟨value'.n.toArray⟩,.string ⟨value'.d.toArray⟩] 25));go_wp2_with fail;have hWs:(wo.alloc (.cells #[.string ⟨other'.toArray⟩,.string ⟨ratio'.n.toArray⟩,.string ⟨ratio'.d.toArray⟩,.string ⟨price'.n.toArray⟩,.string ⟨price'.d.toArray⟩,.string ⟨value'.n.toArray⟩,.string ⟨value'.d.toArray⟩] 55)).heap.size=wo.heap.size+1:=World.size_alloc _ _;generalize wo.alloc (.cells #[.string ⟨other'.toArray⟩,.string ⟨ratio'.n.toArray⟩,.string ⟨ratio'.d.toArray⟩,.string ⟨price'.n.toArray⟩,.string ⟨price'.d.toArray⟩,.string ⟨value'.n.toArray⟩,.string ⟨value'.d.toArray⟩] 55)=W1 at *;rw[hWs] at KS;clear hWs;clear HNAME HSTEP q5;go_loopw [45] (fun i W=>∃j:Nat,j<=3/\i=.int .i64 (j:Int)/\Hid (dA [ratio',price',value']=dA ([ratio',price',value'].drop j))/\Hid (Below (W1.alloc (.cells #[.string ⟨ratio'.n.toArray⟩,.string ⟨ratio'.d.toArray⟩,.string ⟨price'.n.toArray⟩,.string ⟨price'.d.toArray⟩,.string ⟨value'.n.toArray⟩,.string ⟨value'.d.toArray⟩] 25)).heap.size (W1.alloc (.cells #[.string ⟨ratio'.n.toArray⟩,.string ⟨ratio'.d.toArray⟩,.string ⟨price'.n.toArray⟩,.string ⟨price'.d.toArray⟩,.string ⟨value'.n.toArray⟩,.string ⟨value'.d.toArray⟩] 25)) W)) (fun i _=>3-(intOf i).toNat)
    case atStart=>exact⟨0,by decide,rfl,rfl,Br _ _⟩
    case round =>
     obtain⟨j,hj,rfl,hF,HBI⟩:=hrel;obtain⟨wi,hwi⟩:∃wi,wi=wr:=⟨_,rfl⟩
     subst hwi;have KSr:=Hd (KS.out.below HBI.out)
     by_cases hj3:j<3
     ·obtain⟨x,c0,c1,HSM,HFL⟩:∃x:bZ,wi.cell? ⟨wo.heap.size+1,j*2,none⟩=some (.string ⟨x.n.toArray⟩)/\wi.cell? ⟨wo.heap.size+1,j*2+1,none⟩=some (.string ⟨x.d.toArray⟩)/\x.small/\Hid (dA [ratio',price',value']=if lim false false x.n x.d≠0 then lim false false x.n x.d else dA ([ratio',price',value'].drop (j+1))):=by
       rcases(show j=0∨j=1∨j=2 by omega) with rfl|rfl|rfl
       ·exact⟨ratio',KSr.out.cell 0,KSr.out.cell 1,HOS.out.2.1,hF⟩
       ·exact⟨price',KSr.out.cell 2,KSr.out.cell 3,HOS.out.2.2.1,hF⟩
       ·exact⟨value',KSr.out.cell 4,KSr.out.cell 5,HOS.out.2.2.2,hF⟩
      have HLIM:=Hd (fun bp bq W hE hP hQ=>aZ3 false false rfl x.n x.d bp bq 4 4 W hE HSM.1 HSM.2 hP hQ);have KX0:=Hd (aP.new0 wi #[.string ⟨x.n.toArray⟩,.string ⟨x.d.toArray⟩] 25);have BX0:=Hd (aB wi (.cells #[.string ⟨x.n.toArray⟩,.string ⟨x.d.toArray⟩] 25));generalize lim false false x.n x.d=lv at *;go_wp2_with fail;have HBc:=aD (Br (wi.alloc (.cells #[.string ⟨x.n.toArray⟩,.string ⟨x.d.toArray⟩] 25)).heap.size (wi.alloc (.cells #[.string ⟨x.n.toArray⟩,.string ⟨x.d.toArray⟩] 25))) 1;have HBa:=aA HBo.out (aA (aA BS.out HBI.out) BX0.out);have KX:aP (wi.alloc (.cells #[.string ⟨x.n.toArray⟩,.string ⟨x.d.toArray⟩] 25)).drew wi.heap.size #[.string ⟨x.n.toArray⟩,.string ⟨x.d.toArray⟩] 25:=KX0.out;refine wp_region_held_drew (S:=fun W=>W.cell? ⟨wi.heap.size,0,none⟩=some (.string ⟨x.n.toArray⟩)/\W.cell? ⟨wi.heap.size,1,none⟩=some (.string ⟨x.d.toArray⟩)) (by kernel_rfl) ?hS16 (fun hHeld=>?hR16)
      case hS16=>exact⟨KX.cell 0,KX.cell 1⟩
      refine In 1 (some 50) rfl rfl ?_;simp only[pS];refine rd1 0 rfl (fun K hK=>?_);go_simp;go_at_call 86;refine(gS false false _).mono ?_;rintro e wn ⟨bp,bq,rfl,hP,hQ,hbn⟩;replace HBc:=aA HBc hbn;replace KX:=KX.below hbn;clear hbn;go_wp2_with fail;refine hK.out _ _ ?hS18 (fun hHeld=>?hR18)
      case hS18=>exact⟨KX.cell 0,KX.cell 1⟩
      try simp only[pS]
      refine rd1 2 rfl (fun K hK=>?_);go_simp;go_at_call 139;refine(HLIM.out bp bq _ (HE.out.below (aA HBa HBc)) hP hQ).mono ?_;rintro e wn ⟨rfl,hbn⟩;replace HBc:=aA HBc hbn;replace KX:=KX.below hbn;clear hbn hP hQ;go_wp2_with fail;refine hK.out _ _ ?hS19 (fun hHeld=>?hR19)
      case hS19=>exact⟨KX.cell 0,KX.cell 1⟩
      try simp only[pS]
      refine In 3 (some 7) rfl rfl ?_;simp only[pS];refine wpAnyH_done (by kernel_rfl) ?_ _;have HBk:=Hd HBc;clear HBc
      by_cases hlv:lv=0
      ·subst hlv;go_wp2;go_roundw
       case rel=>exact⟨j+1,by omega,by go_num,by show _=_;rw[HFL.out];rfl,aA HBI.out (aA BX0.out HBk.out)⟩
       case measure=>simp[intOf];omega
      ·have hlv':(lv==0)=false:=by simp[hlv]
       have HFIN2:Hid (res=lv):=by show _=_;rw[HFIN.out,HFL.out];simp[hlv]
       clear hlv;go_wp2;go_ret;exact⟨by rw[HFIN2.out];rfl,aA HBa HBk.out⟩
     ·obtain rfl:j=3:=by omega
      have HFIN2:Hid (res=if iO ⟨other',ratio',price',value'⟩≠0 then iO ⟨other',ratio',price',value'⟩ else nX ins (os.drop (k+1))):=by show _=_;rw[HFIN.out,hF.out];rfl
      have HBi:=Hd (aA BS.out HBI.out);have KOr:=KO1.out.below HBi.out;have n0:=KOr.cell 0;have n1:=KOr.cell 1;have n2:=KOr.cell 2;have n5:=KOr.cell 5;have n6:=KOr.cell 6;have HOL:Hid (iO ⟨other',ratio',price',value'⟩=if((!other'.isEmpty) != (!ratio'.none)) || (other'.isEmpty && !value'.none) then 2 else 0):=rfl;clear k0 k1 k2 k3 k4 k5 k6 KSr hF HFIN he KOr HOS;obtain⟨rn,rd⟩:=ratio';obtain⟨vn,vd⟩:=value';dsimp only at *;rcases rn with _|⟨c1,r1⟩
      ·rcases rd with _|⟨c2,r2⟩
       ·rcases vn with _|⟨c3,r3⟩
        ·rcases vd with _|⟨c4,r4⟩
         ·have HV:Hid (res=nX ins (os.drop (k+1))):=by show _=_;rw[HFIN2.out,HOL.out];simp[bZ.none,hem]
          go_wp2_with fail;go_quiet (fail);go_wp2;go_roundw
          case rel=>exact⟨k+1,by omega,by go_num,HV,aD (aA HBW.out (aA BO1.out HBi.out)) _⟩
          case measure=>simp[intOf];omega
         ·have HV:Hid (res=2):=by show _=_;rw[HFIN2.out,HOL.out];simp[bZ.none,hem]
          go_wp2_with fail;go_quiet (fail);go_wp2;go_ret;exact⟨by rw[HV.out];rfl,aD (aA HBo.out HBi.out) _⟩
        ·have HV:Hid (res=2):=by show _=_;rw[HFIN2.out,HOL.out];simp[bZ.none,hem]
         go_wp2_with fail;go_quiet (fail);go_wp2;go_ret;exact⟨by rw[HV.out];rfl,aD (aA HBo.out HBi.out) _⟩
       ·have HV:Hid (res=2):=by show _=_;rw[HFIN2.out,HOL.out];simp[bZ.none,hem]
        go_wp2_with fail;go_quiet (fail);go_wp2;go_ret;exact⟨by rw[HV.out];rfl,aD (aA HBo.out HBi.out) _⟩
      ·have HV:Hid (res=2):=by show _=_;rw[HFIN2.out,HOL.out];simp[bZ.none,hem]
       go_wp2_with fail;go_quiet (fail);go_wp2;go_ret;exact⟨by rw[HV.out];rfl,aD (aA HBo.out HBi.out) _⟩
  ·obtain rfl:k=os.length:=by omega
   have HFIN:Hid (res=0):=by show _=_;rw[hI.out,List.drop_eq_nil_of_le (Nl _)];rfl
   go_wp2;go_ret;exact⟨by rw[HFIN.out];rfl,HBw.out⟩
end Go.Proofs.YthjekgfoidmagaaGreatDoor
