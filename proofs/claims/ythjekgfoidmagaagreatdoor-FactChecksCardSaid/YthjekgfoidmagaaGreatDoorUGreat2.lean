/- Great2 GreatLog -/
import Derived.Test.YthjekgfoidmagaaGreatDoorULog
set_option maxHeartbeats 16000000
set_option maxRecDepth 100000
namespace Go.Proofs.YthjekgfoidmagaaGreatDoor
open Go.Proofs.Tryz
section
open Go Go.RowKit Num
def bJ.ok13(p:bJ):Bool:=!(decide ((30:Int)<(p.lot.length:Int))) && !(decide (13<p.q.length))
def bI(f:bZ):Bool:=decide (13<f.n.length) || decide (13<f.d.length)
def eJ.ok13(o:eJ):Bool:=!(decide ((24:Int)<(o.other.length:Int))) && !bI o.ratio && !bI o.price && !bI o.value
theorem Az:(prog.info? 55).map (·.size)=some 7:=by kernel_rfl
theorem tJ(o:eJ):o.cells.toArray.all (·.oneCell')=true:=by simp[eJ.cells,Value.oneCell']
theorem gX{f:bZ}(h:bI f=false):f.small:=by
 unfold bI at h;simp at h;exact⟨by omega,by omega⟩
structure aE.tight(f:aE):Prop where
 small:f.small
 q:f.q.length<=13
 amt:f.amt.length<=13
 fee:f.fee.length<=13
 price:bI f.price=false
 ratio:bI f.ratio=false
 share:bI f.share=false
 pick:∀p,p∈f.picks->p.q.length<=13
 option:∀o,o∈f.options->bI o.ratio=false/\bI o.price=false/\bI o.value=false
theorem bBx(f:aE)(h0:decide ((24:Int)<(f.key.length:Int))=false)(h1:decide ((24:Int)<(f.ins.length:Int))=false)(h2:decide ((24:Int)<(f.other.length:Int))=false)(h3:decide ((24:Int)<(f.cur.length:Int))=false)(h4:decide ((24:Int)<(f.target.length:Int))=false)(h5:false=decide (13<f.q.length))(h6:false=decide (13<f.amt.length))(h7:false=decide (13<f.fee.length))(h8:false=bI f.price)(h9:false=bI f.ratio)(h10:false=bI f.share)(g1:f.picks.length<=66)(g2:f.options.length<=10)(g3:∀p,p∈f.picks->p.ok13=true)(g4:∀o,o∈f.options->o.ok13=true):f.tight:=by
 simp only[decide_eq_false_iff_not] at h0 h1 h2 h3 h4;have h5:=of_decide_eq_false h5.symm;have h6:=of_decide_eq_false h6.symm;have h7:=of_decide_eq_false h7.symm;refine⟨⟨by omega,by omega,by omega,by omega,by omega,by omega,by omega,by omega,gX h8.symm,gX h9.symm,gX h10.symm,by omega,fun p hp=>?_,by omega,fun o ho=>?_⟩,by omega,by omega,by omega,h8.symm,h9.symm,h10.symm,fun p hp=>?_,fun o ho=>?_⟩
 ·have:=g3 p hp;unfold bJ.ok13 at this;simp at this;exact⟨by omega,by omega⟩
 ·have:=g4 o ho;unfold eJ.ok13 at this;simp at this;exact⟨by omega,gX this.1.1.2,gX this.1.2,gX this.2⟩
 ·have:=g3 p hp;unfold bJ.ok13 at this;simp at this;omega
 ·have:=g4 o ho;unfold eJ.ok13 at this;simp at this;exact⟨this.1.1.2,this.1.2,this.2⟩
theorem qH(f:aE)(pa oa:Option Addr)(pc oc:Nat)(w:World)(hbh:f.Behind w pa oa)(hpm:f.picks.length<=9223372036854775807)(hom:f.options.length<=9223372036854775807):
  Calls prog 32 #[.agg (f.cells pa pc oa oc)] w fun e w'=>(∃g,e=.returned (.bool g)/\(g=false->f.tight))/\Below w.heap.size w w':=by
 have KF:=aP.new0 w (f.cells pa pc oa oc) 29;have HB:=Hd (aB w (.cells (f.cells pa pc oa oc) 29));obtain⟨c0,-,-,-,-,c5,c6,c7,c8,c9,c10,c11,c12,c13,c14,c15,c16,c17,c18,c19,-⟩:=bXy KF;obtain⟨b5,hb5⟩:∃b,b=decide (13<f.q.length):=⟨_,rfl⟩
 have HL5:Hid (∀W,Calls prog 83 #[.string ⟨f.q.toArray⟩] W fun e w'=>e=.returned (.bool b5)/\W=w'):=fun W=>hb5 ▸ bM f.q W
 obtain⟨b6,hb6⟩:∃b,b=decide (13<f.amt.length):=⟨_,rfl⟩
 have HL6:Hid (∀W,Calls prog 83 #[.string ⟨f.amt.toArray⟩] W fun e w'=>e=.returned (.bool b6)/\W=w'):=fun W=>hb6 ▸ bM f.amt W
 obtain⟨b7,hb7⟩:∃b,b=decide (13<f.fee.length):=⟨_,rfl⟩
 have HL7:Hid (∀W,Calls prog 83 #[.string ⟨f.fee.toArray⟩] W fun e w'=>e=.returned (.bool b7)/\W=w'):=fun W=>hb7 ▸ bM f.fee W
 obtain⟨b8,hb8⟩:∃b,b=bI f.price:=⟨_,rfl⟩
 have HL8:Hid (∀W,Calls prog 84 #[.agg #[.string ⟨f.price.n.toArray⟩,.string ⟨f.price.d.toArray⟩]] W fun e w'=>e=.returned (.bool b8)/\Below W.heap.size W w'):=fun W=>hb8 ▸ bR f.price W
 obtain⟨b9,hb9⟩:∃b,b=bI f.ratio:=⟨_,rfl⟩
 have HL9:Hid (∀W,Calls prog 84 #[.agg #[.string ⟨f.ratio.n.toArray⟩,.string ⟨f.ratio.d.toArray⟩]] W fun e w'=>e=.returned (.bool b9)/\Below W.heap.size W w'):=fun W=>hb9 ▸ bR f.ratio W
 obtain⟨b10,hb10⟩:∃b,b=bI f.share:=⟨_,rfl⟩
 have HL10:Hid (∀W,Calls prog 84 #[.agg #[.string ⟨f.share.n.toArray⟩,.string ⟨f.share.d.toArray⟩]] W fun e w'=>e=.returned (.bool b10)/\Below W.heap.size W w'):=fun W=>hb10 ▸ bR f.share W
 replace hb5:=Hd hb5;replace hb6:=Hd hb6;replace hb7:=Hd hb7;replace hb8:=Hd hb8;replace hb9:=Hd hb9;replace hb10:=Hd hb10;have HBH:=Hd hbh;obtain⟨np,hnp⟩:∃np,np=f.picks.length:=⟨_,rfl⟩
 obtain⟨no,hno⟩:∃no,no=f.options.length:=⟨_,rfl⟩
 rw[<-hnp] at c18 hpm;rw[<-hno] at c19 hom;have HCASE:Hid ((decide ((4:Int)<(np:Int))=true/\decide ((np:Int)<=64)=true)∨(decide ((4:Int)<(np:Int))=true/\decide ((np:Int)<=64)=false/\decide ((66:Int)<(np:Int))=true)∨(np<=66/\decide ((66:Int)<(np:Int))=false/\(decide ((4:Int)<(np:Int))=false∨(decide ((4:Int)<(np:Int))=true/\decide ((np:Int)<=64)=false)))):=by show _∨_;simp only[decide_eq_true_eq,decide_eq_false_iff_not];omega
 have HCASE2:Hid ((decide ((3:Int)<(no:Int))=true/\decide ((no:Int)<=8)=true)∨(decide ((3:Int)<(no:Int))=true/\decide ((no:Int)<=8)=false/\decide ((10:Int)<(no:Int))=true)∨(no<=10/\decide ((10:Int)<(no:Int))=false/\(decide ((3:Int)<(no:Int))=false∨(decide ((3:Int)<(no:Int))=true/\decide ((no:Int)<=8)=false)))):=by show _∨_;simp only[decide_eq_true_eq,decide_eq_false_iff_not];omega
 have HNP:=Hd hnp;have HNO:=Hd hno;clear hbh hnp hno;replace KF:=Hd KF;generalize f.cells pa pc oa oc=fc at *;go_enter func32,ntmps32;cases h0:decide ((24:Int)<(f.key.length:Int)) with
 |true =>
  go_wp2;go_ret;exact⟨⟨true,rfl,fun h=>by cases h⟩,HB.out⟩
 |false =>
 cases h1:decide ((24:Int)<(f.ins.length:Int)) with
 |true =>
  go_wp2;go_ret;exact⟨⟨true,rfl,fun h=>by cases h⟩,HB.out⟩
 |false =>
 cases h2:decide ((24:Int)<(f.other.length:Int)) with
 |true =>
  go_wp2;go_ret;exact⟨⟨true,rfl,fun h=>by cases h⟩,HB.out⟩
 |false =>
 cases h3:decide ((24:Int)<(f.cur.length:Int)) with
 |true =>
  go_wp2;go_ret;exact⟨⟨true,rfl,fun h=>by cases h⟩,HB.out⟩
 |false =>
 cases h4:decide ((24:Int)<(f.target.length:Int)) with
 |true =>
  go_wp2;go_ret;exact⟨⟨true,rfl,fun h=>by cases h⟩,HB.out⟩
 |false =>
 go_wp2_with fail;refine(HL5.out _).mono ?_;rintro e w' ⟨rfl,rfl⟩;cases b5 with
 |true =>
  go_wp2;go_ret;exact⟨⟨true,rfl,fun h=>by cases h⟩,HB.out⟩
 |false =>
 go_wp2_with fail;refine(HL6.out _).mono ?_;rintro e w' ⟨rfl,rfl⟩;cases b6 with
 |true =>
  go_wp2;go_ret;exact⟨⟨true,rfl,fun h=>by cases h⟩,HB.out⟩
 |false =>
 go_wp2_with fail;refine(HL7.out _).mono ?_;rintro e w' ⟨rfl,rfl⟩;cases b7 with
 |true =>
  go_wp2;go_ret;exact⟨⟨true,rfl,fun h=>by cases h⟩,HB.out⟩
 |false =>
 go_wp2_with fail;refine(HL8.out _).mono ?_;rintro e w1 ⟨rfl,hv1⟩;have c14:=(hv1.cell (p:=⟨w.heap.size,14,none⟩) KF.out.1).trans c14;have c15:=(hv1.cell (p:=⟨w.heap.size,15,none⟩) KF.out.1).trans c15;have c16:=(hv1.cell (p:=⟨w.heap.size,16,none⟩) KF.out.1).trans c16;have c17:=(hv1.cell (p:=⟨w.heap.size,17,none⟩) KF.out.1).trans c17;have c18:=(hv1.cell (p:=⟨w.heap.size,18,none⟩) KF.out.1).trans c18;have c19:=(hv1.cell (p:=⟨w.heap.size,19,none⟩) KF.out.1).trans c19;have KF:=Hd (KF.out.below hv1);have HB1:=Hd (aA HB.out hv1);clear hv1;cases b8 with
 |true =>
  go_wp2;go_ret;exact⟨⟨true,rfl,fun h=>by cases h⟩,HB1.out⟩
 |false =>
 go_wp2_with fail;refine(HL9.out _).mono ?_;rintro e w2 ⟨rfl,hv2⟩;have c16:=(hv2.cell (p:=⟨w.heap.size,16,none⟩) KF.out.1).trans c16;have c17:=(hv2.cell (p:=⟨w.heap.size,17,none⟩) KF.out.1).trans c17;have c18:=(hv2.cell (p:=⟨w.heap.size,18,none⟩) KF.out.1).trans c18;have c19:=(hv2.cell (p:=⟨w.heap.size,19,none⟩) KF.out.1).trans c19;have KF:=Hd (KF.out.below hv2);have HB2:=Hd (aA HB1.out hv2);clear hv2;cases b9 with
 |true =>
  go_wp2;go_ret;exact⟨⟨true,rfl,fun h=>by cases h⟩,HB2.out⟩
 |false =>
 go_wp2_with fail;refine(HL10.out _).mono ?_;rintro e w3 ⟨rfl,hv3⟩;have c18:=(hv3.cell (p:=⟨w.heap.size,18,none⟩) KF.out.1).trans c18;have c19:=(hv3.cell (p:=⟨w.heap.size,19,none⟩) KF.out.1).trans c19;have KF:=Hd (KF.out.below hv3);have HB3:=Hd (aA HB2.out hv3);clear hv3;cases b10 with
 |true =>
  go_wp2;go_ret;exact⟨⟨true,rfl,fun h=>by cases h⟩,HB3.out⟩
 |false =>
 have HW3:=Hd (HB3.out);rcases HCASE.out with⟨e1,e2⟩|⟨e1,e2,e3⟩|⟨h66,e3,e⟩
 ·go_wp2;go_ret;exact⟨⟨true,rfl,fun h=>by cases h⟩,HW3.out⟩
 ·go_wp2;go_ret;exact⟨⟨true,rfl,fun h=>by cases h⟩,HW3.out⟩
 have HNP66:=Hd h66;clear h66 HCASE;rcases e with e1|⟨e1,e2⟩
 all_goals
  rcases HCASE2.out with⟨f1,f2⟩|⟨f1,f2,f3⟩|⟨h10,f3,f⟩
  ·go_wp2;go_ret;exact⟨⟨true,rfl,fun h=>by cases h⟩,HW3.out⟩
  ·go_wp2;go_ret;exact⟨⟨true,rfl,fun h=>by cases h⟩,HW3.out⟩
  have HNO10:=Hd h10;clear h10 HCASE2;rcases f with f1|⟨f1,f2⟩
  all_goals
   go_wp2_with fail;go_loopw [3] (fun iv wr=>∃k:Nat,k<=np/\iv=.int .i64 k/\Hid (∀j p,j<k->f.picks[j]?=some p->p.ok13=true)/\Hid (Below w3.heap.size w3 wr)) (fun iv _=>np-(intOf iv).toNat)
   case atStart=>exact⟨0,Nat.zero_le _,rfl,fun j p h=>absurd h (Nat.not_lt_zero j),Br _ _⟩
   case round =>
    obtain⟨k,hk,rfl,HOKP,HBr⟩:=hrel;have c18:=(HBr.out.cell (p:=⟨w.heap.size,18,none⟩) KF.out.1).trans c18;have c19:=(HBr.out.cell (p:=⟨w.heap.size,19,none⟩) KF.out.1).trans c19;have HBa:=Hd (aA HW3.out HBr.out)
    by_cases hlt:k<np
    ·obtain⟨x,hx⟩:∃x,f.picks[k]?=some x:=⟨f.picks[k]'(by rw[<-HNP.out];exact hlt),Lg _⟩
     obtain⟨b,off,ea,hbl,hc⟩:=HBH.out.1.addr (k:=k) (cs:=x.cells) (by rw[List.getElem?_map,hx];rfl);have d0:wr.cell? ⟨b,off+k*2,none⟩=some (.string ⟨x.lot.toArray⟩):=(HBa.out.cell (p:=⟨b,off+k*2,none⟩) hbl).trans (hc 0 _ rfl);have d1:wr.cell? ⟨b,off+k*2+1,none⟩=some (.string ⟨x.q.toArray⟩):=(HBa.out.cell (p:=⟨b,off+k*2+1,none⟩) hbl).trans (hc 1 _ rfl);subst ea;have HLQ:=Hd (fun W=>bM x.q W);have HK:Hid (decide ((30:Int)<(x.lot.length:Int))=false->decide (13<x.q.length)=false->∀j p,j<k+1->f.picks[j]?=some p->p.ok13=true):=fun h1 h2 j p hj hp=>by
      by_cases e:j=k
      ·subst e;rw[hx] at hp;obtain rfl:=Option.some.inj hp;unfold bJ.ok13;rw[h1,h2];rfl
      ·exact HOKP.out j p (by omega) hp
     clear hc hx HOKP hbl;generalize decide (13<x.q.length)=r13 at *;cases h30:decide ((30:Int)<(x.lot.length:Int)) with
     |true =>
      clear HK;go_wp2;go_ret;exact⟨⟨true,rfl,fun h=>by cases h⟩,HBa.out⟩
     |false =>
      have HK2:=Hd (HK.out h30);clear HK;go_wp2_with fail;refine(HLQ.out _).mono ?_;rintro e w' ⟨rfl,rfl⟩;cases r13 with
      |true =>
       go_wp2;go_ret;exact⟨⟨true,rfl,fun h=>by cases h⟩,HBa.out⟩
      |false =>
       have HK3:=Hd (HK2.out rfl);clear HK2;go_wp2;go_roundw
       case rel=>exact⟨k+1,by omega,by go_num,HK3,HBr⟩
       case measure=>simp[intOf];omega
    ·obtain rfl:k=np:=by omega
     have HPK:Hid (∀p,p∈f.picks->p.ok13=true):=fun p hp=>by
      obtain⟨j,hj⟩:=List.getElem?_of_mem hp;have:=(Li.1 hj).1;exact HOKP.out j p (by rw[HNP.out];exact this) hj
     clear HOKP;obtain⟨w4,hw4⟩:∃w4,w4=wr:=⟨_,rfl⟩
     subst hw4;have KF:=Hd (KF.out.below HBr.out);clear hk hlt;go_wp2_with fail;go_loopw [4] (fun iv wr=>∃k:Nat,k<=no/\iv=.int .i64 k/\Hid (∀j o,j<k->f.options[j]?=some o->o.ok13=true)/\Hid (Below w4.heap.size w4 wr)) (fun iv _=>no-(intOf iv).toNat)
     case atStart=>exact⟨0,Nat.zero_le _,rfl,fun j p h=>absurd h (Nat.not_lt_zero j),Br _ _⟩
     case round =>
      obtain⟨k2,hk,rfl,HOKP,HBq⟩:=hrel;have c19:=(HBq.out.cell (p:=⟨w.heap.size,19,none⟩) KF.out.1).trans c19;have HBb:=Hd (aA HBa.out HBq.out)
      by_cases hlt:k2<no
      ·obtain⟨x,hx⟩:∃x,f.options[k2]?=some x:=⟨f.options[k2]'(by rw[<-HNO.out];exact hlt),Lg _⟩
       obtain⟨b,off,ea,hbl,hc⟩:=HBH.out.2.addr (k:=k2) (cs:=x.cells) (by rw[List.getElem?_map,hx];rfl);have HC:Hid (∀j v,x.cells.toArray.toList[j]?=some v->wr.cell? ⟨b,off+k2*7+j,none⟩=some v):=fun j v hv=>(HBb.out.cell (p:=⟨b,off+k2*7+j,none⟩) hbl).trans (hc j v hv)
       subst ea;have HSZ:Hid ((prog.info? 55).map (·.size)=some x.cells.toArray.size):=Az;have HONE:=Hd (tJ x);have HS7:Hid ((#[.string ⟨#[]⟩,.string ⟨#[]⟩,.string ⟨#[]⟩,.string ⟨#[]⟩,.string ⟨#[]⟩,.string ⟨#[]⟩,.string ⟨#[]⟩]:Array Value).size=x.cells.toArray.size):=rfl;have HNEW:=Hd (heap_alloc_new wr (.cells #[.string ⟨#[]⟩,.string ⟨#[]⟩,.string ⟨#[]⟩,.string ⟨#[]⟩,.string ⟨#[]⟩,.string ⟨#[]⟩,.string ⟨#[]⟩] 55));have KO:Hid (aP ((wr.alloc (.cells #[.string ⟨#[]⟩,.string ⟨#[]⟩,.string ⟨#[]⟩,.string ⟨#[]⟩,.string ⟨#[]⟩,.string ⟨#[]⟩,.string ⟨#[]⟩] 55)).setRow wr.heap.size x.cells.toArray) wr.heap.size x.cells.toArray 55):=⟨by simp[World.setRow],setRow_heap _ _ _ _ _ _ (heap_alloc_new wr (.cells #[.string ⟨#[]⟩,.string ⟨#[]⟩,.string ⟨#[]⟩,.string ⟨#[]⟩,.string ⟨#[]⟩,.string ⟨#[]⟩,.string ⟨#[]⟩] 55))⟩
       have HBo:Hid (Below wr.heap.size wr ((wr.alloc (.cells #[.string ⟨#[]⟩,.string ⟨#[]⟩,.string ⟨#[]⟩,.string ⟨#[]⟩,.string ⟨#[]⟩,.string ⟨#[]⟩,.string ⟨#[]⟩] 55)).setRow wr.heap.size x.cells.toArray)):=below_setRow (aB _ _) (Nl _) _;have k0:=(KO.out.cell 0).trans (show _=some (.string ⟨x.other.toArray⟩) from rfl);have k1:=(KO.out.cell 1).trans (show _=some (.string ⟨x.ratio.n.toArray⟩) from rfl);have k2':=(KO.out.cell 2).trans (show _=some (.string ⟨x.ratio.d.toArray⟩) from rfl);have k3:=(KO.out.cell 3).trans (show _=some (.string ⟨x.price.n.toArray⟩) from rfl);have k4:=(KO.out.cell 4).trans (show _=some (.string ⟨x.price.d.toArray⟩) from rfl);have k5:=(KO.out.cell 5).trans (show _=some (.string ⟨x.value.n.toArray⟩) from rfl);have k6:=(KO.out.cell 6).trans (show _=some (.string ⟨x.value.d.toArray⟩) from rfl);have HR1:Hid (∀W,Calls prog 84 #[.agg #[.string ⟨x.ratio.n.toArray⟩,.string ⟨x.ratio.d.toArray⟩]] W fun e w'=>e=.returned (.bool (bI x.ratio))/\Below W.heap.size W w'):=fun W=>bR x.ratio W
       have HR2:Hid (∀W,Calls prog 84 #[.agg #[.string ⟨x.price.n.toArray⟩,.string ⟨x.price.d.toArray⟩]] W fun e w'=>e=.returned (.bool (bI x.price))/\Below W.heap.size W w'):=fun W=>bR x.price W
       have HR3:Hid (∀W,Calls prog 84 #[.agg #[.string ⟨x.value.n.toArray⟩,.string ⟨x.value.d.toArray⟩]] W fun e w'=>e=.returned (.bool (bI x.value))/\Below W.heap.size W w'):=fun W=>bR x.value W
       have HK:Hid (decide ((24:Int)<(x.other.length:Int))=false->bI x.ratio=false->bI x.price=false->bI x.value=false->∀j o,j<k2+1->f.options[j]?=some o->o.ok13=true):=fun h1 h2 h3 h4 j p hj hp=>by
        by_cases e:j=k2
        ·subst e;rw[hx] at hp;obtain rfl:=Option.some.inj hp;unfold eJ.ok13;rw[h1,h2,h3,h4];rfl
        ·exact HOKP.out j p (by omega) hp
       clear hc hx HOKP hbl;generalize bI x.ratio=r1 at *;generalize bI x.price=r2 at *;generalize bI x.value=r3 at *;generalize x.cells.toArray=xc at *;cases h24:decide ((24:Int)<(x.other.length:Int)) with
       |true =>
        clear HK;go_wp2_with (first|(refine aM rfl 55 _ rfl b (off+k2*7) rfl xc _ HC.out underlying55 rfl HSZ.out ?_)|(refine wpList_store_row rfl 55 _ _ rfl wr.heap.size xc rfl rfl 55 #[.string ⟨#[]⟩,.string ⟨#[]⟩,.string ⟨#[]⟩,.string ⟨#[]⟩,.string ⟨#[]⟩,.string ⟨#[]⟩,.string ⟨#[]⟩] HNEW.out HSZ.out HS7.out HONE.out ?_));go_ret;exact⟨⟨true,rfl,fun h=>by cases h⟩,aA HBb.out HBo.out⟩
       |false =>
        have HK2:=Hd (HK.out h24);clear HK;go_wp2_with (first|(refine aM rfl 55 _ rfl b (off+k2*7) rfl xc _ HC.out underlying55 rfl HSZ.out ?_)|(refine wpList_store_row rfl 55 _ _ rfl wr.heap.size xc rfl rfl 55 #[.string ⟨#[]⟩,.string ⟨#[]⟩,.string ⟨#[]⟩,.string ⟨#[]⟩,.string ⟨#[]⟩,.string ⟨#[]⟩,.string ⟨#[]⟩] HNEW.out HSZ.out HS7.out HONE.out ?_));refine(HR1.out _).mono ?_;rintro e v1 ⟨rfl,hv1⟩;have k3:=(hv1.cell (p:=⟨wr.heap.size,3,none⟩) KO.out.1).trans k3;have k4:=(hv1.cell (p:=⟨wr.heap.size,4,none⟩) KO.out.1).trans k4;have k5:=(hv1.cell (p:=⟨wr.heap.size,5,none⟩) KO.out.1).trans k5;have k6:=(hv1.cell (p:=⟨wr.heap.size,6,none⟩) KO.out.1).trans k6;have KO:=Hd (KO.out.below hv1);have HBo:=Hd (aA HBo.out hv1);clear hv1;cases r1 with
        |true =>
         go_wp2;go_ret;exact⟨⟨true,rfl,fun h=>by cases h⟩,aA HBb.out HBo.out⟩
        |false =>
         have HK3:=Hd (HK2.out rfl);clear HK2;go_wp2_with fail;refine(HR2.out _).mono ?_;rintro e v2 ⟨rfl,hv2⟩;have k5:=(hv2.cell (p:=⟨wr.heap.size,5,none⟩) KO.out.1).trans k5;have k6:=(hv2.cell (p:=⟨wr.heap.size,6,none⟩) KO.out.1).trans k6;have HBo:=Hd (aA HBo.out hv2);clear hv2;cases r2 with
         |true =>
          go_wp2;go_ret;exact⟨⟨true,rfl,fun h=>by cases h⟩,aA HBb.out HBo.out⟩
         |false =>
          have HK4:=Hd (HK3.out rfl);clear HK3;go_wp2_with fail;refine(HR3.out _).mono ?_;rintro e v3 ⟨rfl,hv3⟩;have HBo:=Hd (aA HBo.out hv3);clear hv3;cases r3 with
          |true =>
           go_wp2;go_ret;exact⟨⟨true,rfl,fun h=>by cases h⟩,aA HBb.out HBo.out⟩
          |false =>
           have HK5:=Hd (HK4.out rfl);clear HK4;go_wp2;go_roundw
           case rel=>exact⟨k2+1,by omega,by go_num,HK5,aA HBq.out HBo.out⟩
           case measure=>simp[intOf];omega
      ·obtain rfl:k2=no:=by omega
       have HPO:Hid (∀o,o∈f.options->o.ok13=true):=fun p hp=>by
        obtain⟨j,hj⟩:=List.getElem?_of_mem hp;have:=(Li.1 hj).1;exact HOKP.out j p (by rw[HNO.out];exact this) hj
       clear HOKP;go_wp2;go_ret;exact⟨⟨false,rfl,fun _=>bBx f h0 h1 h2 h3 h4 hb5.out hb6.out hb7.out hb8.out hb9.out hb10.out (HNP.out ▸ HNP66.out) (HNO.out ▸ HNO10.out) HPK.out HPO.out⟩,HBb.out⟩
end
end Go.Proofs.YthjekgfoidmagaaGreatDoor
