/- WRefA WRefB -/
import Derived.Test.YtiloklnjjfaagaaGreatDoorWA
set_option maxHeartbeats 16000000
set_option maxRecDepth 100000
namespace Go.Proofs.YtiloklnjjfaagaaGreatDoor
open Go.Proofs.Tryz
section
open Go Go.RowKit Num
attribute [local go_sem] eW eN aV
theorem dJf(gs:List aLe)(a:Option Addr)(c:Nat)(w:World)(hn:gs.length<=1000)(hw:aL3 w a gs)(hs:∀x,x∈gs->x.small):
  Calls prog 46 #[.slice a gs.length c] w fun e w'=>(∃z:Int,e=.returned (.int .i64 z)/\decide (z≠0)=gs.any aLe.bad)/\Below w.heap.size w w':=by
 have HW:=Hd hw;have HS:=Hd hs;clear hw hs;go_enter func46,ntmps46;go_wp2;go_loopw [3] (fun i W=>Hid (Below w.heap.size w W)/\∃k:Nat,k<=gs.length/\i=.int .i64 (k:Int)/\Hid ((gs.take k).any aLe.bad=false)) (fun i _=>gs.length-(intOf i).toNat)
 case atStart=>exact⟨Br _ _,0,Nat.zero_le _,rfl,rfl⟩
 case round =>
  obtain⟨hB,k,hk,rfl,hT⟩:=hrel
  by_cases hlt:k<gs.length
  ·obtain⟨x,hx⟩:∃x,gs[k]?=some x:=⟨gs[k],Lg hlt⟩
   obtain⟨b,off,ha,k0,k1,k2,k3,k4,k5,k6,k7,k8,k9⟩:=(HW.out.below hB.out).addr hx;subst ha;have H:=Hd (fun W=>aMz x W (HS.out x (List.mem_of_getElem? hx)));have HX:=Hd (fun h=>aMw (p:=aLe.bad) hx h);have HY:=Hd (fun h=>aL2 (p:=aLe.bad) hx hT.out h);have HD:Hid (x.bad=decide (x.err≠0)):=rfl;clear hx;simp only[aLe.v,aLe.cs] at H;generalize x.err=z at *;go_wp2_with fail;refine(H.out _).mono ?_;rintro e w1 ⟨rfl,hb⟩;have hB2:=Hd (aA hB.out hb);clear k0 k1 k2 k3 k4 k5 k6 k7 k8 k9 hb hB
   by_cases g:z=0
   ·have HY2:=Hd (HY.out (by rw[HD.out];simp[g]));subst g;go_wp2;go_round
    case rel=>exact⟨hB2,k+1,by omega,by go_num,HY2⟩
    case measure=>simp[intOf];omega
   ·have HX2:=Hd (HX.out (by rw[HD.out];simpa using g));have g':(z==0)=false:=by simpa using g
    have HZ:=Hd g;clear g;go_wp2;go_ret;exact⟨⟨z,rfl,by rw[HX2.out];simpa using HZ.out⟩,hB2.out⟩
  ·obtain rfl:k=gs.length:=by omega
   rw[List.take_length] at hT;go_wp2;go_ret;exact⟨⟨0,rfl,by rw[hT.out];rfl⟩,hB.out⟩
def dI9(d wash:Int):Int:=if d < -25567∨84005<d then 13 else if wash<0∨366<wash then 2 else 0
theorem dJ4(d wash:Int)(w:World):Calls prog 48 #[.int .i64 d,.int .i64 wash] w fun e w'=>e=.returned (.int .i64 (dI9 d wash))/\Below w.heap.size w w':=by
 have H:=Hd (fun W=>aMb d W);have hv:aLk d=decide (-25567<=d/\d<=84005):=by unfold aLk;simp
 have HR:Hid (dI9 d wash=if d < -25567∨84005<d then 13 else if wash<0∨366<wash then 2 else 0):=rfl;rw[hv] at H;generalize dI9 d wash=r at *;clear hv
 by_cases g1:-25567<=d/\d<=84005
 ·rw[if_pos (by simpa using g1)] at H;have HR2:Hid (r=if wash<0∨366<wash then 2 else 0):=by show _=_;rw[HR.out,if_neg (by omega)]
  clear HR g1
  by_cases g2:wash<0
  ·obtain rfl:r=2:=by rw[HR2.out,if_pos (.inl g2)]
   go_enter func48,ntmps48;go_wp2_with fail;refine(H.out _).mono ?_;rintro e w1 ⟨rfl,rfl⟩;go_wp2;go_ret;exact⟨rfl,Br _ _⟩
  by_cases g3:366<wash
  ·obtain rfl:r=2:=by rw[HR2.out,if_pos (.inr g3)]
   go_enter func48,ntmps48;go_wp2_with fail;refine(H.out _).mono ?_;rintro e w1 ⟨rfl,rfl⟩;go_wp2;go_ret;exact⟨rfl,Br _ _⟩
  ·obtain rfl:r=0:=by rw[HR2.out,if_neg (by omega)]
   go_enter func48,ntmps48;go_wp2_with fail;refine(H.out _).mono ?_;rintro e w1 ⟨rfl,rfl⟩;go_wp2;go_ret;exact⟨rfl,Br _ _⟩
 ·rw[if_neg (by simpa using g1)] at H;obtain rfl:r=13:=by rw[HR.out,if_pos (by omega)]
  clear HR g1;go_enter func48,ntmps48;go_wp2_with fail;refine(H.out _).mono ?_;rintro e w1 ⟨rfl,rfl⟩;go_wp2;go_ret;exact⟨rfl,Br _ _⟩
theorem dJs{ls:List Bd}{gs:List aLe}{d wash:Int}:dEk ls gs d wash []=if aO6 ls≠0∨gs.any aLe.bad=true then 1 else dI9 d wash:=by
 unfold dEk dI9;rw[show (([]:List (List UInt8)).any fun s=>!(dC s))=false from rfl];simp only[Bool.false_eq_true,if_false]
theorem dJx(x:aLe)(w:World)(hs:x.small):Calls prog 73 #[x.v] w fun e w'=>e=.returned (.string ⟨(aJ x.openV).toArray⟩)/\Below w.heap.size w w':=by
 have HB:=Hd (aB w (.cells x.cs 42));have KB:=Hd (aP.new0 w x.cs 42);have H:=Hd (fun W=>aNb x W hs.2.2.2.2.1 hs.2.2.2.2.2.1);have H2:=Hd (fun W=>aOd x.q x.rp W (by have:=hs.2.2.2.1;omega) (by have:=hs.2.2.2.2.2.2.2;omega) (by have:=aOf hs.2.2.2.1;omega) (by have:=aOf hs.2.2.2.2.2.2.2;omega));have HO:Hid (x.openV=if x.loss=0 then 0 else val x.q-val x.rp):=rfl;clear hs;generalize hl:x.loss=l at *;generalize x.openV=ov at *;simp only[aLe.v,aLe.cs] at *
 by_cases g:l=0
 ·obtain rfl:ov=0:=by rw[HO.out,if_pos g]
  have hc:aJ l=[]:=by rw[g];exact nA
  rw[nA];generalize aJ l=cl at *;subst hc;clear HO H2;go_enter func73,ntmps73;go_wp2_with fail;generalize w.alloc _=w0 at *;refine(H.out _).mono ?_;rintro e w1 ⟨rfl,hb⟩;go_wp2;go_ret;exact⟨rfl,aA HB.out hb⟩
 ·have ho:ov=val x.q-val x.rp:=by rw[HO.out,if_neg g]
  rw[<-ho] at H2;have hc:aJ l ≠ []:=fun h=>g (dBp h)
  generalize aJ l=cl at *;have h1:(cl == [])=false:=by simpa using hc
  have h2:cl.isEmpty=false:=by simpa using hc
  clear HO ho hc;generalize aJ ov=co at *;go_enter func73,ntmps73;go_wp2_with fail;generalize w.alloc _=w0 at *;refine(H.out _).mono ?_;rintro e w1 ⟨rfl,hb⟩;have HB2:=Hd (aA HB.out hb);have KB2:=KB.out.below hb;have c5:=KB2.cell 5;have c9:=KB2.cell 9;clear hb KB2;go_wp2_with fail;refine(H2.out _).mono ?_;rintro e w2 ⟨rfl,rfl⟩;go_wp2;go_ret;exact⟨rfl,HB2.out⟩
theorem dJw(y:Bd)(w:World)(h1:y.q.length<=13)(h2:y.u.length<=13):Calls prog 77 #[y.v] w fun e w'=>e=.returned (.string ⟨(aJ y.roomV).toArray⟩)/\Below w.heap.size w w':=by
 have HB:=Hd (aB w (.cells y.cs 49));have KB:=Hd (aP.new0 w y.cs 49);have H2:=Hd (fun W=>aOd y.q y.u W (by omega) (by omega) (by have:=aOf h1;omega) (by have:=aOf h2;omega));rw[show val y.q-val y.u=y.roomV from rfl] at H2;generalize aJ y.roomV=co at *;simp only[Bd.v,Bd.cs] at *;go_enter func77,ntmps77;go_wp2_with fail;generalize w.alloc _=w0 at *;refine(H2.out _).mono ?_;rintro e w1 ⟨rfl,rfl⟩;go_wp2;go_ret;exact⟨rfl,HB.out⟩
theorem dKa(x:aLe)(w:World)(hs:x.small):Calls prog 33 #[x.v] w fun e w'=>e=.returned (.tuple #[.string ⟨(dJ1 x).toArray⟩,.int .i64 (if x.err=0 then 0 else 1)])/\Below w.heap.size w w':=by
 have HR:Hid (dJ1 x=if x.err=0 then aJ x.openV else[]):=rfl;obtain⟨z,hz⟩:∃z,z=(if x.err=0 then(0:Int) else 1):=⟨_,rfl⟩
 rw[<-hz];have HZ:=Hd hz;have HB:=Hd (aB w (.cells x.cs 42));have KB:=Hd (aP.new0 w x.cs 42);have H:=Hd (fun W=>aMz x W hs);have H2:=Hd (fun W=>dJx x W hs);clear hs hz;generalize x.err=er at *;generalize dJ1 x=rr at *;generalize aJ x.openV=oo at *;simp only[aLe.v,aLe.cs] at *
 by_cases g:er=0
 ·obtain rfl:rr=oo:=by rw[HR.out,if_pos g]
  obtain rfl:z=0:=by rw[HZ.out,if_pos g]
  clear HR HZ;subst g;go_enter func33,ntmps33;go_wp2_with fail;generalize w.alloc _=w0 at *;refine(H.out _).mono ?_;rintro e w1 ⟨rfl,hb⟩;have HB:=Hd (aA HB.out hb);have KB:=KB.out.below hb;have c0:=KB.cell 0;have c1:=KB.cell 1;have c2:=KB.cell 2;have c3:=KB.cell 3;have c4:=KB.cell 4;have c5:=KB.cell 5;have c6:=KB.cell 6;have c7:=KB.cell 7;have c8:=KB.cell 8;have c9:=KB.cell 9;clear hb KB;go_wp2_with fail;refine(H2.out _).mono ?_;rintro e w2 ⟨rfl,hb⟩;go_wp2;go_ret2;exact⟨rfl,aA HB.out hb⟩
 ·obtain rfl:rr=[]:=by rw[HR.out,if_neg g]
  obtain rfl:z=1:=by rw[HZ.out,if_neg g]
  clear HR HZ;have g':(er==0)=false:=by simpa using g
  go_enter func33,ntmps33;go_wp2_with fail;generalize w.alloc _=w0 at *;refine(H.out _).mono ?_;rintro e w1 ⟨rfl,hb⟩;go_wp2;go_ret2;exact⟨rfl,aA HB.out hb⟩
theorem dJ9(y:Bd)(w:World)(hs:y.small)(h1:y.q.length<=13)(h2:y.u.length<=13):Calls prog 36 #[y.v] w fun e w'=>e=.returned (.tuple #[.string ⟨(dJ0 y).toArray⟩,.int .i64 (if y.err=0 then 0 else 1)])/\Below w.heap.size w w':=by
 have HR:Hid (dJ0 y=if y.err=0 then aJ y.roomV else[]):=rfl;obtain⟨z,hz⟩:∃z,z=(if y.err=0 then(0:Int) else 1):=⟨_,rfl⟩
 rw[<-hz];have HZ:=Hd hz;have HB:=Hd (aB w (.cells y.cs 49));have KB:=Hd (aP.new0 w y.cs 49);have H:=Hd (fun W=>aMh y W hs.1 hs.2.1 hs.2.2.1 hs.2.2.2.1 hs.2.2.2.2);have H2:=Hd (fun W=>dJw y W h1 h2);clear hs hz h1 h2;generalize y.err=er at *;generalize dJ0 y=rr at *;generalize aJ y.roomV=oo at *;simp only[Bd.v,Bd.cs] at *
 by_cases g:er=0
 ·obtain rfl:rr=oo:=by rw[HR.out,if_pos g]
  obtain rfl:z=0:=by rw[HZ.out,if_pos g]
  clear HR HZ;subst g;go_enter func36,ntmps36;go_wp2_with fail;generalize w.alloc _=w0 at *;refine(H.out _).mono ?_;rintro e w1 ⟨rfl,hb⟩;have HB:=Hd (aA HB.out hb);have KB:=KB.out.below hb;have c0:=KB.cell 0;have c1:=KB.cell 1;have c2:=KB.cell 2;have c3:=KB.cell 3;have c4:=KB.cell 4;have c5:=KB.cell 5;have c6:=KB.cell 6;clear hb KB;go_wp2_with fail;refine(H2.out _).mono ?_;rintro e w2 ⟨rfl,hb⟩;go_wp2;go_ret2;exact⟨rfl,aA HB.out hb⟩
 ·obtain rfl:rr=[]:=by rw[HR.out,if_neg g]
  obtain rfl:z=1:=by rw[HZ.out,if_neg g]
  clear HR HZ;have g':(er==0)=false:=by simpa using g
  go_enter func36,ntmps36;go_wp2_with fail;generalize w.alloc _=w0 at *;refine(H.out _).mono ?_;rintro e w1 ⟨rfl,hb⟩;go_wp2;go_ret2;exact⟨rfl,aA HB.out hb⟩
end
section
open Go Go.RowKit Num
attribute [local go_sem] eW eN aV
theorem dJ7{x:aLe}(h:x.err=0):0<=x.openV:=by
 obtain⟨_,_,_,_,⟨_,_,_,h4⟩,_⟩:=bY2.1 h;unfold aLe.openV;split <;> omega
theorem dJ6{y:Bd}(h:y.err=0):0<=y.roomV:=by
 obtain⟨_,_,_,_,hq,_,hu⟩:=bYi.1 h;unfold Bd.roomV;rcases hu with e|e
 ·rw[e,show val []=0 by rw[<-nA,bE]];omega
 ·rw[e];omega
theorem dJ5{z:Int}(h:0<=z):(0<z->aJ z ≠ [])/\(¬ 0<z->aJ z=[]) :=
 ⟨fun h1 h2=>by have:=dBp h2;omega,fun h1=>by rw[show z=0 by omega];exact nA⟩
theorem dJi(x:aLe)(ins:List UInt8)(d wash:Int)(w:World)(hs:x.small)(gx:x.err=0)(hw:0<=wash/\wash<=366):
  Calls prog 49 #[x.v,.string ⟨ins.toArray⟩,.int .i64 d,.int .i64 wash] w fun e w'=>e=.returned (.bool (dAv x ins d wash))/\Below w.heap.size w w':=by
 have HB:=Hd (aB w (.cells x.cs 42));have KB:=Hd (aP.new0 w x.cs 42);have H:=Hd (fun W=>dJx x W hs);have HR:Hid (dAv x ins d wash=(decide (0<wash)&&(x.ins==ins)&&decide (0<x.openV)&&decide (x.cls<=d)&&decide (d<=x.cls+wash))):=rfl;have hco:=dJ5 (dJ7 gx);have hcl:=dDw gx;have hw1:wrap64 (x.cls+wash)=x.cls+wash:=by unfold wrap64;omega
 clear hs gx;generalize dAv x ins d wash=r at *;simp only[aLe.v,aLe.cs] at *
 by_cases g1:0<wash
 ·by_cases g2:(x.ins==ins)=true
  ·by_cases g3:0<x.openV
   ·have hc:=hco.1 g3;generalize aJ x.openV=co at *;have h1:(co == [])=false:=by simpa using hc
    have h2:co.isEmpty=false:=by simpa using hc
    clear hco hc
    by_cases g4:x.cls<=d
    ·by_cases g5:d<=x.cls+wash
     ·obtain rfl:r=true:=by rw[HR.out];simp[g1,g2,g3,g4,g5]
      clear HR;go_enter func49,ntmps49;go_wp2_with fail;generalize w.alloc _=w0 at *;refine(H.out _).mono ?_;rintro e w1 ⟨rfl,hb⟩;have HB2:=Hd (aA HB.out hb);have KB2:=KB.out.below hb;have c4:=KB2.cell 4;clear hb KB2;go_wp2;go_ret;exact⟨rfl,HB2.out⟩
     ·obtain rfl:r=false:=by rw[HR.out];simp[g1,g2,g3,g4,g5]
      clear HR;go_enter func49,ntmps49;go_wp2_with fail;generalize w.alloc _=w0 at *;refine(H.out _).mono ?_;rintro e w1 ⟨rfl,hb⟩;have HB2:=Hd (aA HB.out hb);have KB2:=KB.out.below hb;have c4:=KB2.cell 4;clear hb KB2;go_wp2;go_ret;exact⟨dG (by simp;omega),HB2.out⟩
    ·obtain rfl:r=false:=by rw[HR.out];simp[g1,g2,g3,g4]
     clear HR;go_enter func49,ntmps49;go_wp2_with fail;generalize w.alloc _=w0 at *;refine(H.out _).mono ?_;rintro e w1 ⟨rfl,hb⟩;have HB2:=Hd (aA HB.out hb);have KB2:=KB.out.below hb;have c4:=KB2.cell 4;clear hb KB2;go_wp2;go_ret;exact⟨rfl,HB2.out⟩
   ·have hc:=hco.2 g3;generalize aJ x.openV=co at *;subst hc;clear hco;obtain rfl:r=false:=by rw[HR.out];simp[g1,g2,g3]
    clear HR;go_enter func49,ntmps49;go_wp2_with fail;generalize w.alloc _=w0 at *;refine(H.out _).mono ?_;rintro e w1 ⟨rfl,hb⟩;have HB2:=Hd (aA HB.out hb);have KB2:=KB.out.below hb;have c4:=KB2.cell 4;clear hb KB2;go_wp2;go_ret;exact⟨rfl,HB2.out⟩
  ·have g2:(x.ins==ins)=false:=by simpa using g2
   obtain rfl:r=false:=by rw[HR.out];simp[g1,g2]
   clear HR;go_enter func49,ntmps49;go_wp2;go_ret;exact⟨rfl,HB.out⟩
 ·obtain rfl:r=false:=by rw[HR.out];simp[g1]
  clear HR;go_enter func49,ntmps49;go_wp2;go_ret;exact⟨rfl,HB.out⟩
theorem dJy(y:Bd)(x:aLe)(d wash:Int)(w:World)(h1:y.q.length<=13)(h2:y.u.length<=13)(gy:y.err=0)(gx:x.err=0)(hw:0<=wash/\wash<=366):
  Calls prog 74 #[y.v,x.v,.int .i64 d,.int .i64 wash] w fun e w'=>e=.returned (.bool (dAz y x d wash))/\Below w.heap.size w w':=by
 obtain⟨w1,e1⟩:∃w1,w1=w.alloc (.cells y.cs 49):=⟨_,rfl⟩
 obtain⟨w2,e2⟩:∃w2,w2=w1.alloc (.cells x.cs 42):=⟨_,rfl⟩
 have s1:w1.heap.size=w.heap.size+1:=by rw[e1,World.size_alloc]
 have b2:Below w1.heap.size w1 w2:=by rw[e2];exact aB _ _
 have k1:aP w2 w.heap.size y.cs 49:=(e1 ▸ aP.new0 w _ _:aP w1 w.heap.size _ _).below b2;have k2:aP w2 (w.heap.size+1) x.cs 42:=by rw[<-s1];exact e2 ▸ aP.new0 w1 _ _
 have HB:=Hd (aA (e1 ▸ aB _ _:Below w.heap.size w w1) b2);have KY:=Hd k1;have KX:=Hd k2;have HWW:Hid (w2=(w.alloc (.cells y.cs 49)).alloc (.cells x.cs 42)):=by show _=_;rw[e2,e1]
 have H:=Hd (fun W=>dJw y W h1 h2);have HR:Hid (dAz y x d wash=((y.ins==x.ins)&&decide (0<y.roomV) && !(y.id==x.lot)&&decide (x.cls-wash<=y.opn)&&decide (y.opn<=min (x.cls+wash) d))):=rfl;have hco:=dJ5 (dJ6 gy);have hcl:=dDw gx;have hw1:wrap64 (x.cls+wash)=x.cls+wash:=by unfold wrap64;omega
 have hw2:wrap64 (x.cls-wash)=x.cls-wash:=by unfold wrap64;omega
 clear h1 h2 gy gx e1 e2 s1 b2 k1 k2;generalize dAz y x d wash=r at *;simp only[aLe.v,aLe.cs,Bd.v,Bd.cs] at *
 by_cases g1:(y.ins==x.ins)=true
 ·by_cases g2:0<y.roomV
  ·have hc:=hco.1 g2;generalize aJ y.roomV=co at *;have h1:(co == [])=false:=by simpa using hc
   have h2:co.isEmpty=false:=by simpa using hc
   clear hco hc
   by_cases g3:(y.id==x.lot)=false
   ·by_cases g4:x.cls-wash<=y.opn
    ·by_cases g5:y.opn<=x.cls+wash
     ·by_cases g6:y.opn<=d
      ·obtain rfl:r=true:=by rw[HR.out];simp[g1,g2,g3,g4] <;> omega
       clear HR;go_enter func74,ntmps74;go_wp2_with fail;rw[<-HWW.out];refine(H.out _).mono ?_;rintro e w4 ⟨rfl,hb⟩;have HB2:=Hd (aA HB.out hb);have KY2:=KY.out.below hb;have KX2:=KX.out.below hb;have a0:=KY2.cell 0;have a3:=KY2.cell 3;have b1:=KX2.cell 1;have b4:=KX2.cell 4;clear hb KY2 KX2;go_wp2;go_ret;exact⟨rfl,HB2.out⟩
      ·obtain rfl:r=false:=by rw[HR.out];simp[g1,g2,g3,g4] <;> omega
       clear HR;go_enter func74,ntmps74;go_wp2_with fail;rw[<-HWW.out];refine(H.out _).mono ?_;rintro e w4 ⟨rfl,hb⟩;have HB2:=Hd (aA HB.out hb);have KY2:=KY.out.below hb;have KX2:=KX.out.below hb;have a0:=KY2.cell 0;have a3:=KY2.cell 3;have b1:=KX2.cell 1;have b4:=KX2.cell 4;clear hb KY2 KX2;go_wp2;go_ret;exact⟨dG (by simp;omega),HB2.out⟩
     ·obtain rfl:r=false:=by rw[HR.out];simp[g1,g2,g3,g4] <;> omega
      clear HR;go_enter func74,ntmps74;go_wp2_with fail;rw[<-HWW.out];refine(H.out _).mono ?_;rintro e w4 ⟨rfl,hb⟩;have HB2:=Hd (aA HB.out hb);have KY2:=KY.out.below hb;have KX2:=KX.out.below hb;have a0:=KY2.cell 0;have a3:=KY2.cell 3;have b1:=KX2.cell 1;have b4:=KX2.cell 4;clear hb KY2 KX2;go_wp2;go_ret;exact⟨rfl,HB2.out⟩
    ·obtain rfl:r=false:=by rw[HR.out];simp[g1,g2,g3,g4]
     clear HR;go_enter func74,ntmps74;go_wp2_with fail;rw[<-HWW.out];refine(H.out _).mono ?_;rintro e w4 ⟨rfl,hb⟩;have HB2:=Hd (aA HB.out hb);have KY2:=KY.out.below hb;have KX2:=KX.out.below hb;have a0:=KY2.cell 0;have a3:=KY2.cell 3;have b1:=KX2.cell 1;have b4:=KX2.cell 4;clear hb KY2 KX2;go_wp2;go_ret;exact⟨rfl,HB2.out⟩
   ·have g3:(y.id==x.lot)=true:=by simpa using g3
    obtain rfl:r=false:=by rw[HR.out];simp[g1,g2,g3]
    clear HR;go_enter func74,ntmps74;go_wp2_with fail;rw[<-HWW.out];refine(H.out _).mono ?_;rintro e w4 ⟨rfl,hb⟩;have HB2:=Hd (aA HB.out hb);have KY2:=KY.out.below hb;have KX2:=KX.out.below hb;have a0:=KY2.cell 0;have a3:=KY2.cell 3;have b1:=KX2.cell 1;have b4:=KX2.cell 4;clear hb KY2 KX2;go_wp2;go_ret;exact⟨rfl,HB2.out⟩
  ·have hc:=hco.2 g2;generalize aJ y.roomV=co at *;subst hc;clear hco;obtain rfl:r=false:=by rw[HR.out];simp[g1,g2]
   clear HR;go_enter func74,ntmps74;go_wp2_with fail;rw[<-HWW.out];refine(H.out _).mono ?_;rintro e w4 ⟨rfl,hb⟩;have HB2:=Hd (aA HB.out hb);have KY2:=KY.out.below hb;have KX2:=KX.out.below hb;have a0:=KY2.cell 0;have a3:=KY2.cell 3;have b1:=KX2.cell 1;have b4:=KX2.cell 4;clear hb KY2 KX2;go_wp2;go_ret;exact⟨rfl,HB2.out⟩
 ·have g1:(y.ins==x.ins)=false:=by simpa using g1
  obtain rfl:r=false:=by rw[HR.out];simp[g1]
  clear HR;go_enter func74,ntmps74;go_wp2;rw[<-HWW.out];go_ret;exact⟨rfl,HB.out⟩
end
end Go.Proofs.YtiloklnjjfaagaaGreatDoor
