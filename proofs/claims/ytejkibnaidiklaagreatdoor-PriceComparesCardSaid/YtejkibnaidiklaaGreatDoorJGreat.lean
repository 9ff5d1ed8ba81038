/- Great -/
import Derived.Test.YtejkibnaidiklaaGreatDoorJLog
set_option maxHeartbeats 16000000
set_option maxRecDepth 100000
namespace Go.Proofs.YtejkibnaidiklaaGreatDoor
open Go.Proofs.Tryz
open Go Go.RowKit Num
def bJ.ok13(p:bJ):Bool:=!(decide ((30:Int)<(p.lot.length:Int))) && !(decide (13<p.q.length))
def bI(f:bZ):Bool:=decide (13<f.n.length) || decide (13<f.d.length)
def eJ.ok13(o:eJ):Bool:=!(decide ((24:Int)<(o.other.length:Int))) && !bI o.ratio && !bI o.price && !bI o.value
theorem Az:(prog.info? 197).map (·.size)=some 7:=by kernel_rfl
theorem tJ(o:eJ):o.cells.toArray.all (·.oneCell')=true:=by simp[eJ.cells,Value.oneCell']
theorem Ln(f:aE)(pa oa:Option Addr)(pc oc:Nat)(w:World)(hbh:f.Behind w pa oa)(hpm:f.picks.length<=9223372036854775807)(hom:f.options.length<=9223372036854775807)(h0:decide ((24:Int)<(f.key.length:Int))=false)(h1:decide ((24:Int)<(f.ins.length:Int))=false)(h2:decide ((24:Int)<(f.other.length:Int))=false)(h3:decide ((24:Int)<(f.cur.length:Int))=false)(h4:decide ((24:Int)<(f.target.length:Int))=false)(h5:decide (13<f.q.length)=false)(h6:decide (13<f.amt.length)=false)(h7:decide (13<f.fee.length)=false)(h8:(decide (13<f.price.n.length) || decide (13<f.price.d.length))=false)(h9:(decide (13<f.ratio.n.length) || decide (13<f.ratio.d.length))=false)(h10:(decide (13<f.share.n.length) || decide (13<f.share.d.length))=false):
  Calls prog 117 #[.agg (f.cells pa pc oa oc)] w fun e w'=>(∃g,e=.returned (.bool g)/\(g=false->f.picks.length<=66/\f.options.length<=10/\(∀p,p∈f.picks->p.ok13=true)/\∀o,o∈f.options->o.ok13=true))/\Below w.heap.size w w':=by
 have KF:=aP.new0 w (f.cells pa pc oa oc) 59;have HB:=Hd (aB w (.cells (f.cells pa pc oa oc) 59));have c0:=(KF.cell 0).trans (show _=some (.string ⟨f.key.toArray⟩) from rfl);have c5:=(KF.cell 5).trans (show _=some (.string ⟨f.ins.toArray⟩) from rfl);have c6:=(KF.cell 6).trans (show _=some (.string ⟨f.other.toArray⟩) from rfl);have c7:=(KF.cell 7).trans (show _=some (.string ⟨f.cur.toArray⟩) from rfl);have c8:=(KF.cell 8).trans (show _=some (.string ⟨f.target.toArray⟩) from rfl);have c9:=(KF.cell 9).trans (show _=some (.string ⟨f.q.toArray⟩) from rfl);have HL5:Hid (∀W,Calls prog 17 #[.string ⟨f.q.toArray⟩] W fun e w'=>e=.returned (.bool false)/\W=w'):=fun W=>by have h:=bM f.q W;rw[h5] at h;exact h
 have c10:=(KF.cell 10).trans (show _=some (.string ⟨f.amt.toArray⟩) from rfl);have HL6:Hid (∀W,Calls prog 17 #[.string ⟨f.amt.toArray⟩] W fun e w'=>e=.returned (.bool false)/\W=w'):=fun W=>by have h:=bM f.amt W;rw[h6] at h;exact h
 have c11:=(KF.cell 11).trans (show _=some (.string ⟨f.fee.toArray⟩) from rfl);have HL7:Hid (∀W,Calls prog 17 #[.string ⟨f.fee.toArray⟩] W fun e w'=>e=.returned (.bool false)/\W=w'):=fun W=>by have h:=bM f.fee W;rw[h7] at h;exact h
 have c12:=(KF.cell 12).trans (show _=some (.string ⟨f.price.n.toArray⟩) from rfl);have c13:=(KF.cell 13).trans (show _=some (.string ⟨f.price.d.toArray⟩) from rfl);have HL8:Hid (∀W,Calls prog 168 #[.agg #[.string ⟨f.price.n.toArray⟩,.string ⟨f.price.d.toArray⟩]] W fun e w'=>e=.returned (.bool false)/\Below W.heap.size W w'):=fun W=>by have h:=bR f.price W;rw[h8] at h;exact h
 have c14:=(KF.cell 14).trans (show _=some (.string ⟨f.ratio.n.toArray⟩) from rfl);have c15:=(KF.cell 15).trans (show _=some (.string ⟨f.ratio.d.toArray⟩) from rfl);have HL9:Hid (∀W,Calls prog 168 #[.agg #[.string ⟨f.ratio.n.toArray⟩,.string ⟨f.ratio.d.toArray⟩]] W fun e w'=>e=.returned (.bool false)/\Below W.heap.size W w'):=fun W=>by have h:=bR f.ratio W;rw[h9] at h;exact h
 have c16:=(KF.cell 16).trans (show _=some (.string ⟨f.share.n.toArray⟩) from rfl);have c17:=(KF.cell 17).trans (show _=some (.string ⟨f.share.d.toArray⟩) from rfl);have HL10:Hid (∀W,Calls prog 168 #[.agg #[.string ⟨f.share.n.toArray⟩,.string ⟨f.share.d.toArray⟩]] W fun e w'=>e=.returned (.bool false)/\Below W.heap.size W w'):=fun W=>by have h:=bR f.share W;rw[h10] at h;exact h
 have c18:=(KF.cell 18).trans (show _=some (.slice pa f.picks.length pc) from rfl);have c19:=(KF.cell 19).trans (show _=some (.slice oa f.options.length oc) from rfl);have HBH:=Hd hbh;obtain⟨np,hnp⟩:∃np,np=f.picks.length:=⟨_,rfl⟩
 obtain⟨no,hno⟩:∃no,no=f.options.length:=⟨_,rfl⟩
 rw[<-hnp] at c18 hpm ⊢;rw[<-hno] at c19 hom ⊢;have HNP:=Hd hnp;have HNO:=Hd hno;clear hbh hnp hno;have KF:=Hd KF;generalize f.cells pa pc oa oc=fc at *;go_enter func117,ntmps117;go_wp2_with fail;refine(HL5.out _).mono ?_;rintro e w' ⟨rfl,rfl⟩;go_wp2_with fail;refine(HL6.out _).mono ?_;rintro e w' ⟨rfl,rfl⟩;go_wp2_with fail;refine(HL7.out _).mono ?_;rintro e w' ⟨rfl,rfl⟩;go_wp2_with fail;refine(HL8.out _).mono ?_;rintro e w1 ⟨rfl,hb1⟩;have c14:=(hb1.cell (p:=⟨w.heap.size,14,none⟩) KF.out.1).trans c14;have c15:=(hb1.cell (p:=⟨w.heap.size,15,none⟩) KF.out.1).trans c15;have c16:=(hb1.cell (p:=⟨w.heap.size,16,none⟩) KF.out.1).trans c16;have c17:=(hb1.cell (p:=⟨w.heap.size,17,none⟩) KF.out.1).trans c17;have c18:=(hb1.cell (p:=⟨w.heap.size,18,none⟩) KF.out.1).trans c18;have c19:=(hb1.cell (p:=⟨w.heap.size,19,none⟩) KF.out.1).trans c19;have KF:=Hd (KF.out.below hb1);have HB1:=Hd (aA HB.out hb1);clear hb1;go_wp2_with fail;refine(HL9.out _).mono ?_;rintro e w2 ⟨rfl,hb2⟩;have c16:=(hb2.cell (p:=⟨w.heap.size,16,none⟩) KF.out.1).trans c16;have c17:=(hb2.cell (p:=⟨w.heap.size,17,none⟩) KF.out.1).trans c17;have c18:=(hb2.cell (p:=⟨w.heap.size,18,none⟩) KF.out.1).trans c18;have c19:=(hb2.cell (p:=⟨w.heap.size,19,none⟩) KF.out.1).trans c19;have KF:=Hd (KF.out.below hb2);have HB2:=Hd (aA HB1.out hb2);clear hb2;go_wp2_with fail;refine(HL10.out _).mono ?_;rintro e w3 ⟨rfl,hb3⟩;have c18:=(hb3.cell (p:=⟨w.heap.size,18,none⟩) KF.out.1).trans c18;have c19:=(hb3.cell (p:=⟨w.heap.size,19,none⟩) KF.out.1).trans c19;have KF:=Hd (KF.out.below hb3);have HB3:=Hd (aA HB2.out hb3);clear hb3;have HW3:=Hd (HB3.out);have HCASE:(4<np/\np<=64)∨66<np∨np<=4∨(65<=np/\np<=66):=by omega
 have HCASE2:(3<no/\no<=8)∨10<no∨no<=3∨(9<=no/\no<=10):=by omega
 have HCASE2:=Hd HCASE2;rcases HCASE with⟨h1,h2⟩|h1|h1|⟨h1,h2⟩
 ·have e1:decide ((4:Int)<(np:Int))=true:=by simp;omega
  have e2:decide ((np:Int)<=64)=true:=by simp;omega
  clear h1 h2;go_wp2;go_ret;exact⟨⟨true,rfl,fun h=>by cases h⟩,HW3.out⟩
 ·have e1:decide ((4:Int)<(np:Int))=true:=by simp;omega
  have e2:decide ((np:Int)<=64)=false:=by simp;omega
  have e3:decide ((66:Int)<(np:Int))=true:=by simp;omega
  clear h1;go_wp2;go_ret;exact⟨⟨true,rfl,fun h=>by cases h⟩,HW3.out⟩
 ·have HNP66:Hid (np<=66):=(by omega:np<=66)
  have e1:decide ((4:Int)<(np:Int))=false:=by simp;omega
  have e3:decide ((66:Int)<(np:Int))=false:=by simp;omega
  rcases HCASE2.out with⟨g1,g2⟩|g1|g1|⟨g1,g2⟩
  ·have f1:decide ((3:Int)<(no:Int))=true:=by simp;omega
   have f2:decide ((no:Int)<=8)=true:=by simp;omega
   clear g1 g2 h1;go_wp2;go_ret;exact⟨⟨true,rfl,fun h=>by cases h⟩,HW3.out⟩
  ·have f1:decide ((3:Int)<(no:Int))=true:=by simp;omega
   have f2:decide ((no:Int)<=8)=false:=by simp;omega
   have f3:decide ((10:Int)<(no:Int))=true:=by simp;omega
   clear g1 h1;go_wp2;go_ret;exact⟨⟨true,rfl,fun h=>by cases h⟩,HW3.out⟩
  ·have HNO10:Hid (no<=10):=(by omega:no<=10)
   have f1:decide ((3:Int)<(no:Int))=false:=by simp;omega
   have f3:decide ((10:Int)<(no:Int))=false:=by simp;omega
   clear g1 h1;go_wp2_with fail;go_loopw [3] (fun iv wr=>∃k:Nat,k<=np/\iv=.int .i64 k/\Hid (∀j p,j<k->f.picks[j]?=some p->p.ok13=true)/\Hid (Below w3.heap.size w3 wr)) (fun iv _=>np-(intOf iv).toNat)
   case atStart=>exact⟨0,Nat.zero_le _,rfl,fun j p h=>absurd h (Nat.not_lt_zero j),Br _ _⟩
   case round =>
    obtain⟨k,hk,rfl,HOKP,HBr⟩:=hrel;have c18:=(HBr.out.cell (p:=⟨w.heap.size,18,none⟩) KF.out.1).trans c18;have c19:=(HBr.out.cell (p:=⟨w.heap.size,19,none⟩) KF.out.1).trans c19;have HBa:=Hd (aA HW3.out HBr.out)
    by_cases hlt:k<np
    ·obtain⟨x,hx⟩:∃x,f.picks[k]?=some x:=⟨f.picks[k]'(by rw[<-HNP.out];exact hlt),Lg _⟩
     obtain⟨b,off,ea,hbl,hc⟩:=HBH.out.1.addr (k:=k) (cs:=x.cells) (by rw[List.getElem?_map,hx];rfl);have d0:wr.cell? ⟨b,off+k*2,none⟩=some (.string ⟨x.lot.toArray⟩):=(HBa.out.cell (p:=⟨b,off+k*2,none⟩) hbl).trans (hc 0 _ rfl);have d1:wr.cell? ⟨b,off+k*2+1,none⟩=some (.string ⟨x.q.toArray⟩):=(HBa.out.cell (p:=⟨b,off+k*2+1,none⟩) hbl).trans (hc 1 _ rfl);subst ea;have HLQ:=Hd (fun W=>bM x.q W);have HK:Hid (decide ((30:Int)<(x.lot.length:Int))=false->decide (13<x.q.length)=false->∀j p,j<k+1->f.picks[j]?=some p->p.ok13=true):=fun h1 h2 j p hj hp=>by
      by_cases e:j=k
      ·subst e;rw[hx] at hp;obtain rfl:=Option.some.inj hp;unfold bJ.ok13;rw[h1,h2];rfl
      ·exact HOKP.out j p (by omega) hp
     clear hc hx HOKP hbl;generalize decide (13<x.q.length)=r13 at *;cases h30:decide ((30:Int)<(x.lot.length:Int)) with
     |true =>
      clear HK;go_wp2;go_ret;exact⟨⟨true,rfl,fun h=>by cases h⟩,HBa.out⟩
     |false =>
      have HK2:=Hd (HK.out h30);clear HK;go_wp2_with fail;refine(HLQ.out _).mono ?_;rintro e w' ⟨rfl,rfl⟩;cases r13 with
      |true =>
       go_wp2;go_ret;exact⟨⟨true,rfl,fun h=>by cases h⟩,HBa.out⟩
      |false =>
       have HK3:=Hd (HK2.out rfl);clear HK2;go_wp2;go_roundw
       case rel=>exact⟨k+1,by omega,by go_num,HK3,HBr⟩
       case measure=>simp[intOf];omega
    ·obtain rfl:k=np:=by omega
     have HPK:Hid (∀p,p∈f.picks->p.ok13=true):=fun p hp=>by
      obtain⟨j,hj⟩:=List.getElem?_of_mem hp;have:=(Li.1 hj).1;exact HOKP.out j p (by rw[HNP.out];exact this) hj
     clear HOKP;obtain⟨w4,hw4⟩:∃w4,w4=wr:=⟨_,rfl⟩
     subst hw4;have KF:=Hd (KF.out.below HBr.out);clear hk hlt;go_wp2_with fail;go_loopw [4] (fun iv wr=>∃k:Nat,k<=no/\iv=.int .i64 k/\Hid (∀j o,j<k->f.options[j]?=some o->o.ok13=true)/\Hid (Below w4.heap.size w4 wr)) (fun iv _=>no-(intOf iv).toNat)
     case atStart=>exact⟨0,Nat.zero_le _,rfl,fun j p h=>absurd h (Nat.not_lt_zero j),Br _ _⟩
     case round =>
      obtain⟨k2,hk,rfl,HOKP,HBq⟩:=hrel;have c19:=(HBq.out.cell (p:=⟨w.heap.size,19,none⟩) KF.out.1).trans c19;have HBb:=Hd (aA HBa.out HBq.out)
      by_cases hlt:k2<no
      ·obtain⟨x,hx⟩:∃x,f.options[k2]?=some x:=⟨f.options[k2]'(by rw[<-HNO.out];exact hlt),Lg _⟩
       obtain⟨b,off,ea,hbl,hc⟩:=HBH.out.2.addr (k:=k2) (cs:=x.cells) (by rw[List.getElem?_map,hx];rfl);have HC:Hid (∀j v,x.cells.toArray.toList[j]?=some v->wr.cell? ⟨b,off+k2*7+j,none⟩=some v):=fun j v hv=>(HBb.out.cell (p:=⟨b,off+k2*7+j,none⟩) hbl).trans (hc j v hv)
       subst ea;have HSZ:Hid ((prog.info? 197).map (·.size)=some x.cells.toArray.size):=Az;have HONE:=Hd (tJ x);have HS7:Hid ((#[.string ⟨#[]⟩,.string ⟨#[]⟩,.string ⟨#[]⟩,.string ⟨#[]⟩,.string ⟨#[]⟩,.string ⟨#[]⟩,.string ⟨#[]⟩]:Array Value).size=x.cells.toArray.size):=rfl;have HNEW:=Hd (heap_alloc_new wr (.cells #[.string ⟨#[]⟩,.string ⟨#[]⟩,.string ⟨#[]⟩,.string ⟨#[]⟩,.string ⟨#[]⟩,.string ⟨#[]⟩,.string ⟨#[]⟩] 197));have KO:Hid (aP ((wr.alloc (.cells #[.string ⟨#[]⟩,.string ⟨#[]⟩,.string ⟨#[]⟩,.string ⟨#[]⟩,.string ⟨#[]⟩,.string ⟨#[]⟩,.string ⟨#[]⟩] 197)).setRow wr.heap.size x.cells.toArray) wr.heap.size x.cells.toArray 197):=⟨by simp[World.setRow],setRow_heap _ _ _ _ _ _ (heap_alloc_new wr (.cells #[.string ⟨#[]⟩,.string ⟨#[]⟩,.string ⟨#[]⟩,.string ⟨#[]⟩,.string ⟨#[]⟩,.string ⟨#[]⟩,.string ⟨#[]⟩] 197))⟩
       have HBo:Hid (Below wr.heap.size wr ((wr.alloc (.cells #[.string ⟨#[]⟩,.string ⟨#[]⟩,.string ⟨#[]⟩,.string ⟨#[]⟩,.string ⟨#[]⟩,.string ⟨#[]⟩,.string ⟨#[]⟩] 197)).setRow wr.heap.size x.cells.toArray)):=below_setRow (aB _ _) (Nl _) _;have k0:=(KO.out.cell 0).trans (show _=some (.string ⟨x.other.toArray⟩) from rfl);have k1:=(KO.out.cell 1).trans (show _=some (.string ⟨x.ratio.n.toArray⟩) from rfl);have k2':=(KO.out.cell 2).trans (show _=some (.string ⟨x.ratio.d.toArray⟩) from rfl);have k3:=(KO.out.cell 3).trans (show _=some (.string ⟨x.price.n.toArray⟩) from rfl);have k4:=(KO.out.cell 4).trans (show _=some (.string ⟨x.price.d.toArray⟩) from rfl);have k5:=(KO.out.cell 5).trans (show _=some (.string ⟨x.value.n.toArray⟩) from rfl);have k6:=(KO.out.cell 6).trans (show _=some (.string ⟨x.value.d.toArray⟩) from rfl);have HR1:Hid (∀W,Calls prog 168 #[.agg #[.string ⟨x.ratio.n.toArray⟩,.string ⟨x.ratio.d.toArray⟩]] W fun e w'=>e=.returned (.bool (bI x.ratio))/\Below W.heap.size W w'):=fun W=>bR x.ratio W
       have HR2:Hid (∀W,Calls prog 168 #[.agg #[.string ⟨x.price.n.toArray⟩,.string ⟨x.price.d.toArray⟩]] W fun e w'=>e=.returned (.bool (bI x.price))/\Below W.heap.size W w'):=fun W=>bR x.price W
       have HR3:Hid (∀W,Calls prog 168 #[.agg #[.string ⟨x.value.n.toArray⟩,.string ⟨x.value.d.toArray⟩]] W fun e w'=>e=.returned (.bool (bI x.value))/\Below W.heap.size W w'):=fun W=>bR x.value W
       have HK:Hid (decide ((24:Int)<(x.other.length:Int))=false->bI x.ratio=false->bI x.price=false->bI x.value=false->∀j o,j<k2+1->f.options[j]?=some o->o.ok13=true):=fun h1 h2 h3 h4 j p hj hp=>by
        by_cases e:j=k2
        ·subst e;rw[hx] at hp;obtain rfl:=Option.some.inj hp;unfold eJ.ok13;rw[h1,h2,h3,h4];rfl
        ·exact HOKP.out j p (by omega) hp
       clear hc hx HOKP hbl;generalize bI x.ratio=r1 at *;generalize bI x.price=r2 at *;generalize bI x.value=r3 at *;generalize x.cells.toArray=xc at *;cases h24:decide ((24:Int)<(x.other.length:Int)) with
       |true =>
        clear HK;go_wp2_with (first|(refine aM rfl 197 _ rfl b (off+k2*7) rfl xc _ HC.out underlying197 rfl HSZ.out ?_)|(refine wpList_store_row rfl 197 _ _ rfl wr.heap.size xc rfl rfl 197 #[.string ⟨#[]⟩,.string ⟨#[]⟩,.string ⟨#[]⟩,.string ⟨#[]⟩,.string ⟨#[]⟩,.string ⟨#[]⟩,.string ⟨#[]⟩] HNEW.out HSZ.out HS7.out HONE.out ?_));go_ret;exact⟨⟨true,rfl,fun h=>by cases h⟩,aA HBb.out HBo.out⟩
       |false =>
        have HK2:=Hd (HK.out h24);clear HK;go_wp2_with (first|(refine aM rfl 197 _ rfl b (off+k2*7) rfl xc _ HC.out underlying197 rfl HSZ.out ?_)|(refine wpList_store_row rfl 197 _ _ rfl wr.heap.size xc rfl rfl 197 #[.string ⟨#[]⟩,.string ⟨#[]⟩,.string ⟨#[]⟩,.string ⟨#[]⟩,.string ⟨#[]⟩,.string ⟨#[]⟩,.string ⟨#[]⟩] HNEW.out HSZ.out HS7.out HONE.out ?_));refine(HR1.out _).mono ?_;rintro e v1 ⟨rfl,hv1⟩;have k3:=(hv1.cell (p:=⟨wr.heap.size,3,none⟩) KO.out.1).trans k3;have k4:=(hv1.cell (p:=⟨wr.heap.size,4,none⟩) KO.out.1).trans k4;have k5:=(hv1.cell (p:=⟨wr.heap.size,5,none⟩) KO.out.1).trans k5;have k6:=(hv1.cell (p:=⟨wr.heap.size,6,none⟩) KO.out.1).trans k6;have KO:=Hd (KO.out.below hv1);have HBo:=Hd (aA HBo.out hv1);clear hv1;cases r1 with
        |true =>
         go_wp2;go_ret;exact⟨⟨true,rfl,fun h=>by cases h⟩,aA HBb.out HBo.out⟩
        |false =>
         have HK3:=Hd (HK2.out rfl);clear HK2;go_wp2_with fail;refine(HR2.out _).mono ?_;rintro e v2 ⟨rfl,hv2⟩;have k5:=(hv2.cell (p:=⟨wr.heap.size,5,none⟩) KO.out.1).trans k5;have k6:=(hv2.cell (p:=⟨wr.heap.size,6,none⟩) KO.out.1).trans k6;have HBo:=Hd (aA HBo.out hv2);clear hv2;cases r2 with
         |true =>
          go_wp2;go_ret;exact⟨⟨true,rfl,fun h=>by cases h⟩,aA HBb.out HBo.out⟩
         |false =>
          have HK4:=Hd (HK3.out rfl);clear HK3;go_wp2_with fail;refine(HR3.out _).mono ?_;rintro e v3 ⟨rfl,hv3⟩;have HBo:=Hd (aA HBo.out hv3);clear hv3;cases r3 with
          |true =>
           go_wp2;go_ret;exact⟨⟨true,rfl,fun h=>by cases h⟩,aA HBb.out HBo.out⟩
          |false =>
           have HK5:=Hd (HK4.out rfl);clear HK4;go_wp2;go_roundw
           case rel=>exact⟨k2+1,by omega,by go_num,HK5,aA HBq.out HBo.out⟩
           case measure=>simp[intOf];omega
      ·obtain rfl:k2=no:=by omega
       have HPO:Hid (∀o,o∈f.options->o.ok13=true):=fun p hp=>by
        obtain⟨j,hj⟩:=List.getElem?_of_mem hp;have:=(Li.1 hj).1;exact HOKP.out j p (by rw[HNO.out];exact this) hj
       clear HOKP;go_wp2;go_ret;exact⟨⟨false,rfl,fun _=>⟨HNP66.out,HNO10.out,HPK.out,HPO.out⟩⟩,HBb.out⟩
  ·have HNO10:Hid (no<=10):=(by omega:no<=10)
   have f1:decide ((3:Int)<(no:Int))=true:=by simp;omega
   have f2:decide ((no:Int)<=8)=false:=by simp;omega
   have f3:decide ((10:Int)<(no:Int))=false:=by simp;omega
   clear g1 g2 h1;go_wp2_with fail;go_loopw [3] (fun iv wr=>∃k:Nat,k<=np/\iv=.int .i64 k/\Hid (∀j p,j<k->f.picks[j]?=some p->p.ok13=true)/\Hid (Below w3.heap.size w3 wr)) (fun iv _=>np-(intOf iv).toNat)
   case atStart=>exact⟨0,Nat.zero_le _,rfl,fun j p h=>absurd h (Nat.not_lt_zero j),Br _ _⟩
   case round =>
    obtain⟨k,hk,rfl,HOKP,HBr⟩:=hrel;have c18:=(HBr.out.cell (p:=⟨w.heap.size,18,none⟩) KF.out.1).trans c18;have c19:=(HBr.out.cell (p:=⟨w.heap.size,19,none⟩) KF.out.1).trans c19;have HBa:=Hd (aA HW3.out HBr.out)
    by_cases hlt:k<np
    ·obtain⟨x,hx⟩:∃x,f.picks[k]?=some x:=⟨f.picks[k]'(by rw[<-HNP.out];exact hlt),Lg _⟩
     obtain⟨b,off,ea,hbl,hc⟩:=HBH.out.1.addr (k:=k) (cs:=x.cells) (by rw[List.getElem?_map,hx];rfl);have d0:wr.cell? ⟨b,off+k*2,none⟩=some (.string ⟨x.lot.toArray⟩):=(HBa.out.cell (p:=⟨b,off+k*2,none⟩) hbl).trans (hc 0 _ rfl);have d1:wr.cell? ⟨b,off+k*2+1,none⟩=some (.string ⟨x.q.toArray⟩):=(HBa.out.cell (p:=⟨b,off+k*2+1,none⟩) hbl).trans (hc 1 _ rfl);subst ea;have HLQ:=Hd (fun W=>bM x.q W);have HK:Hid (decide ((30:Int)<(x.lot.length:Int))=false->decide (13<x.q.length)=false->∀j p,j<k+1->f.picks[j]?=some p->p.ok13=true):=fun h1 h2 j p hj hp=>by
      by_cases e:j=k
      ·subst e;rw[hx] at hp;obtain rfl:=Option.some.inj hp;unfold bJ.ok13;rw[h1,h2];rfl
      ·exact HOKP.out j p (by omega) hp
     clear hc hx HOKP hbl;generalize decide (13<x.q.length)=r13 at *;cases h30:decide ((30:Int)<(x.lot.length:Int)) with
     |true =>
      clear HK;go_wp2;go_ret;exact⟨⟨true,rfl,fun h=>by cases h⟩,HBa.out⟩
     |false =>
      have HK2:=Hd (HK.out h30);clear HK;go_wp2_with fail;refine(HLQ.out _).mono ?_;rintro e w' ⟨rfl,rfl⟩;cases r13 with
      |true =>
       go_wp2;go_ret;exact⟨⟨true,rfl,fun h=>by cases h⟩,HBa.out⟩
      |false =>
       have HK3:=Hd (HK2.out rfl);clear HK2;go_wp2;go_roundw
       case rel=>exact⟨k+1,by omega,by go_num,HK3,HBr⟩
       case measure=>simp[intOf];omega
    ·obtain rfl:k=np:=by omega
     have HPK:Hid (∀p,p∈f.picks->p.ok13=true):=fun p hp=>by
      obtain⟨j,hj⟩:=List.getElem?_of_mem hp;have:=(Li.1 hj).1;exact HOKP.out j p (by rw[HNP.out];exact this) hj
     clear HOKP;obtain⟨w4,hw4⟩:∃w4,w4=wr:=⟨_,rfl⟩
     subst hw4;have KF:=Hd (KF.out.below HBr.out);clear hk hlt;go_wp2_with fail;go_loopw [4] (fun iv wr=>∃k:Nat,k<=no/\iv=.int .i64 k/\Hid (∀j o,j<k->f.options[j]?=some o->o.ok13=true)/\Hid (Below w4.heap.size w4 wr)) (fun iv _=>no-(intOf iv).toNat)
     case atStart=>exact⟨0,Nat.zero_le _,rfl,fun j p h=>absurd h (Nat.not_lt_zero j),Br _ _⟩
     case round =>
      obtain⟨k2,hk,rfl,HOKP,HBq⟩:=hrel;have c19:=(HBq.out.cell (p:=⟨w.heap.size,19,none⟩) KF.out.1).trans c19;have HBb:=Hd (aA HBa.out HBq.out)
      by_cases hlt:k2<no
      ·obtain⟨x,hx⟩:∃x,f.options[k2]?=some x:=⟨f.options[k2]'(by rw[<-HNO.out];exact hlt),Lg _⟩
       obtain⟨b,off,ea,hbl,hc⟩:=HBH.out.2.addr (k:=k2) (cs:=x.cells) (by rw[List.getElem?_map,hx];rfl);have HC:Hid (∀j v,x.cells.toArray.toList[j]?=some v->wr.cell? ⟨b,off+k2*7+j,none⟩=some v):=fun j v hv=>(HBb.out.cell (p:=⟨b,off+k2*7+j,none⟩) hbl).trans (hc j v hv)
       subst ea;have HSZ:Hid ((prog.info? 197).map (·.size)=some x.cells.toArray.size):=Az;have HONE:=Hd (tJ x);have HS7:Hid ((#[.string ⟨#[]⟩,.string ⟨#[]⟩,.string ⟨#[]⟩,.string ⟨#[]⟩,.string ⟨#[]⟩,.string ⟨#[]⟩,.string ⟨#[]⟩]:Array Value).size=x.cells.toArray.size):=rfl;have HNEW:=Hd (heap_alloc_new wr (.cells #[.string ⟨#[]⟩,.string ⟨#[]⟩,.string ⟨#[]⟩,.string ⟨#[]⟩,.string ⟨#[]⟩,.string ⟨#[]⟩,.string ⟨#[]⟩] 197));have KO:Hid (aP ((wr.alloc (.cells #[.string ⟨#[]⟩,.string ⟨#[]⟩,.string ⟨#[]⟩,.string ⟨#[]⟩,.string ⟨#[]⟩,.string ⟨#[]⟩,.string ⟨#[]⟩] 197)).setRow wr.heap.size x.cells.toArray) wr.heap.size x.cells.toArray 197):=⟨by simp[World.setRow],setRow_heap _ _ _ _ _ _ (heap_alloc_new wr (.cells #[.string ⟨#[]⟩,.string ⟨#[]⟩,.string ⟨#[]⟩,.string ⟨#[]⟩,.string ⟨#[]⟩,.string ⟨#[]⟩,.string ⟨#[]⟩] 197))⟩
       have HBo:Hid (Below wr.heap.size wr ((wr.alloc (.cells #[.string ⟨#[]⟩,.string ⟨#[]⟩,.string ⟨#[]⟩,.string ⟨#[]⟩,.string ⟨#[]⟩,.string ⟨#[]⟩,.string ⟨#[]⟩] 197)).setRow wr.heap.size x.cells.toArray)):=below_setRow (aB _ _) (Nl _) _;have k0:=(KO.out.cell 0).trans (show _=some (.string ⟨x.other.toArray⟩) from rfl);have k1:=(KO.out.cell 1).trans (show _=some (.string ⟨x.ratio.n.toArray⟩) from rfl);have k2':=(KO.out.cell 2).trans (show _=some (.string ⟨x.ratio.d.toArray⟩) from rfl);have k3:=(KO.out.cell 3).trans (show _=some (.string ⟨x.price.n.toArray⟩) from rfl);have k4:=(KO.out.cell 4).trans (show _=some (.string ⟨x.price.d.toArray⟩) from rfl);have k5:=(KO.out.cell 5).trans (show _=some (.string ⟨x.value.n.toArray⟩) from rfl);have k6:=(KO.out.cell 6).trans (show _=some (.string ⟨x.value.d.toArray⟩) from rfl);have HR1:Hid (∀W,Calls prog 168 #[.agg #[.string ⟨x.ratio.n.toArray⟩,.string ⟨x.ratio.d.toArray⟩]] W fun e w'=>e=.returned (.bool (bI x.ratio))/\Below W.heap.size W w'):=fun W=>bR x.ratio W
       have HR2:Hid (∀W,Calls prog 168 #[.agg #[.string ⟨x.price.n.toArray⟩,.string ⟨x.price.d.toArray⟩]] W fun e w'=>e=.returned (.bool (bI x.price))/\Below W.heap.size W w'):=fun W=>bR x.price W
       have HR3:Hid (∀W,Calls prog 168 #[.agg #[.string ⟨x.value.n.toArray⟩,.string ⟨x.value.d.toArray⟩]] W fun e w'=>e=.returned (.bool (bI x.value))/\Below W.heap.size W w'):=fun W=>bR x.value W
       have HK:Hid (decide ((24:Int)<(x.other.length:Int))=false->bI x.ratio=false->bI x.price=false->bI x.value=false->∀j o,j<k2+1->f.options[j]?=some o->o.ok13=true):=fun h1 h2 h3 h4 j p hj hp=>by
        by_cases e:j=k2
        ·subst e;rw[hx] at hp;obtain rfl:=Option.some.inj hp;unfold eJ.ok13;rw[h1,h2,h3,h4];rfl
        ·exact HOKP.out j p (by omega) hp
       clear hc hx HOKP hbl;generalize bI x.ratio=r1 at *;generalize bI x.price=r2 at *;generalize bI x.value=r3 at *;generalize x.cells.toArray=xc at *;cases h24:decide ((24:Int)<(x.other.length:Int)) with
       |true =>
        clear HK;go_wp2_with (first|(refine aM rfl 197 _ rfl b (off+k2*7) rfl xc _ HC.out underlying197 rfl HSZ.out ?_)|(refine wpList_store_row rfl 197 _ _ rfl wr.heap.size xc rfl rfl 197 #[.string ⟨#[]⟩,.string ⟨#[]⟩,.string ⟨#[]⟩,.string ⟨#[]⟩,.string ⟨#[]⟩,.string ⟨#[]⟩,.string ⟨#[]⟩] HNEW.out HSZ.out HS7.out HONE.out ?_));go_ret;exact⟨⟨true,rfl,fun h=>by cases h⟩,aA HBb.out HBo.out⟩
       |false =>
        have HK2:=Hd (HK.out h24);clear HK;go_wp2_with (first|(refine aM rfl 197 _ rfl b (off+k2*7) rfl xc _ HC.out underlying197 rfl HSZ.out ?_)|(refine wpList_store_row rfl 197 _ _ rfl wr.heap.size xc rfl rfl 197 #[.string ⟨#[]⟩,.string ⟨#[]⟩,.string ⟨#[]⟩,.string ⟨#[]⟩,.string ⟨#[]⟩,.string ⟨#[]⟩,.string ⟨#[]⟩] HNEW.out HSZ.out HS7.out HONE.out ?_));refine(HR1.out _).mono ?_;rintro e v1 ⟨rfl,hv1⟩;have k3:=(hv1.cell (p:=⟨wr.heap.size,3,none⟩) KO.out.1).trans k3;have k4:=(hv1.cell (p:=⟨wr.heap.size,4,none⟩) KO.out.1).trans k4;have k5:=(hv1.cell (p:=⟨wr.heap.size,5,none⟩) KO.out.1).trans k5;have k6:=(hv1.cell (p:=⟨wr.heap.size,6,none⟩) KO.out.1).trans k6;have KO:=Hd (KO.out.below hv1);have HBo:=Hd (aA HBo.out hv1);clear hv1;cases r1 with
        |true =>
         go_wp2;go_ret;exact⟨⟨true,rfl,fun h=>by cases h⟩,aA HBb.out HBo.out⟩
        |false =>
         have HK3:=Hd (HK2.out rfl);clear HK2;go_wp2_with fail;refine(HR2.out _).mono ?_;rintro e v2 ⟨rfl,hv2⟩;have k5:=(hv2.cell (p:=⟨wr.heap.size,5,none⟩) KO.out.1).trans k5;have k6:=(hv2.cell (p:=⟨wr.heap.size,6,none⟩) KO.out.1).trans k6;have HBo:=Hd (aA HBo.out hv2);clear hv2;cases r2 with
         |true =>
          go_wp2;go_ret;exact⟨⟨true,rfl,fun h=>by cases h⟩,aA HBb.out HBo.out⟩
         |false =>
          have HK4:=Hd (HK3.out rfl);clear HK3;go_wp2_with fail;refine(HR3.out _).mono ?_;rintro e v3 ⟨rfl,hv3⟩;have HBo:=Hd (aA HBo.out hv3);clear hv3;cases r3 with
          |true =>
           go_wp2;go_ret;exact⟨⟨true,rfl,fun h=>by cases h⟩,aA HBb.out HBo.out⟩
          |false =>
           have HK5:=Hd (HK4.out rfl);clear HK4;go_wp2;go_roundw
           case rel=>exact⟨k2+1,by omega,by go_num,HK5,aA HBq.out HBo.out⟩
           case measure=>simp[intOf];omega
      ·obtain rfl:k2=no:=by omega
       have HPO:Hid (∀o,o∈f.options->o.ok13=true):=fun p hp=>by
        obtain⟨j,hj⟩:=List.getElem?_of_mem hp;have:=(Li.1 hj).1;exact HOKP.out j p (by rw[HNO.out];exact this) hj
       clear HOKP;go_wp2;go_ret;exact⟨⟨false,rfl,fun _=>⟨HNP66.out,HNO10.out,HPK.out,HPO.out⟩⟩,HBb.out⟩
 ·have HNP66:Hid (np<=66):=(by omega:np<=66)
  have e1:decide ((4:Int)<(np:Int))=true:=by simp;omega
  have e2:decide ((np:Int)<=64)=false:=by simp;omega
  have e3:decide ((66:Int)<(np:Int))=false:=by simp;omega
  rcases HCASE2.out with⟨g1,g2⟩|g1|g1|⟨g1,g2⟩
  ·have f1:decide ((3:Int)<(no:Int))=true:=by simp;omega
   have f2:decide ((no:Int)<=8)=true:=by simp;omega
   clear g1 g2 h1 h2;go_wp2;go_ret;exact⟨⟨true,rfl,fun h=>by cases h⟩,HW3.out⟩
  ·have f1:decide ((3:Int)<(no:Int))=true:=by simp;omega
   have f2:decide ((no:Int)<=8)=false:=by simp;omega
   have f3:decide ((10:Int)<(no:Int))=true:=by simp;omega
   clear g1 h1 h2;go_wp2;go_ret;exact⟨⟨true,rfl,fun h=>by cases h⟩,HW3.out⟩
  ·have HNO10:Hid (no<=10):=(by omega:no<=10)
   have f1:decide ((3:Int)<(no:Int))=false:=by simp;omega
   have f3:decide ((10:Int)<(no:Int))=false:=by simp;omega
   clear g1 h1 h2;go_wp2_with fail;go_loopw [3] (fun iv wr=>∃k:Nat,k<=np/\iv=.int .i64 k/\Hid (∀j p,j<k->f.picks[j]?=some p->p.ok13=true)/\Hid (Below w3.heap.size w3 wr)) (fun iv _=>np-(intOf iv).toNat)
   case atStart=>exact⟨0,Nat.zero_le _,rfl,fun j p h=>absurd h (Nat.not_lt_zero j),Br _ _⟩
   case round =>
    obtain⟨k,hk,rfl,HOKP,HBr⟩:=hrel;have c18:=(HBr.out.cell (p:=⟨w.heap.size,18,none⟩) KF.out.1).trans c18;have c19:=(HBr.out.cell (p:=⟨w.heap.size,19,none⟩) KF.out.1).trans c19;have HBa:=Hd (aA HW3.out HBr.out)
    by_cases hlt:k<np
    ·obtain⟨x,hx⟩:∃x,f.picks[k]?=some x:=⟨f.picks[k]'(by rw[<-HNP.out];exact hlt),Lg _⟩
     obtain⟨b,off,ea,hbl,hc⟩:=HBH.out.1.addr (k:=k) (cs:=x.cells) (by rw[List.getElem?_map,hx];rfl);have d0:wr.cell? ⟨b,off+k*2,none⟩=some (.string ⟨x.lot.toArray⟩):=(HBa.out.cell (p:=⟨b,off+k*2,none⟩) hbl).trans (hc 0 _ rfl);have d1:wr.cell? ⟨b,off+k*2+1,none⟩=some (.string ⟨x.q.toArray⟩):=(HBa.out.cell (p:=⟨b,off+k*2+1,none⟩) hbl).trans (hc 1 _ rfl);subst ea;have HLQ:=Hd (fun W=>bM x.q W);have HK:Hid (decide ((30:Int)<(x.lot.length:Int))=false->decide (13<x.q.length)=false->∀j p,j<k+1->f.picks[j]?=some p->p.ok13=true):=fun h1 h2 j p hj hp=>by
      by_cases e:j=k
      ·subst e;rw[hx] at hp;obtain rfl:=Option.some.inj hp;unfold bJ.ok13;rw[h1,h2];rfl
      ·exact HOKP.out j p (by omega) hp
     clear hc hx HOKP hbl;generalize decide (13<x.q.length)=r13 at *;cases h30:decide ((30:Int)<(x.lot.length:Int)) with
     |true =>
      clear HK;go_wp2;go_ret;exact⟨⟨true,rfl,fun h=>by cases h⟩,HBa.out⟩
     |false =>
      have HK2:=Hd (HK.out h30);clear HK;go_wp2_with fail;refine(HLQ.out _).mono ?_;rintro e w' ⟨rfl,rfl⟩;cases r13 with
      |true =>
       go_wp2;go_ret;exact⟨⟨true,rfl,fun h=>by cases h⟩,HBa.out⟩
      |false =>
       have HK3:=Hd (HK2.out rfl);clear HK2;go_wp2;go_roundw
       case rel=>exact⟨k+1,by omega,by go_num,HK3,HBr⟩
       case measure=>simp[intOf];omega
    ·obtain rfl:k=np:=by omega
     have HPK:Hid (∀p,p∈f.picks->p.ok13=true):=fun p hp=>by
      obtain⟨j,hj⟩:=List.getElem?_of_mem hp;have:=(Li.1 hj).1;exact HOKP.out j p (by rw[HNP.out];exact this) hj
     clear HOKP;obtain⟨w4,hw4⟩:∃w4,w4=wr:=⟨_,rfl⟩
     subst hw4;have KF:=Hd (KF.out.below HBr.out);clear hk hlt;go_wp2_with fail;go_loopw [4] (fun iv wr=>∃k:Nat,k<=no/\iv=.int .i64 k/\Hid (∀j o,j<k->f.options[j]?=some o->o.ok13=true)/\Hid (Below w4.heap.size w4 wr)) (fun iv _=>no-(intOf iv).toNat)
     case atStart=>exact⟨0,Nat.zero_le _,rfl,fun j p h=>absurd h (Nat.not_lt_zero j),Br _ _⟩
     case round =>
      obtain⟨k2,hk,rfl,HOKP,HBq⟩:=hrel;have c19:=(HBq.out.cell (p:=⟨w.heap.size,19,none⟩) KF.out.1).trans c19;have HBb:=Hd (aA HBa.out HBq.out)
      by_cases hlt:k2<no
      ·obtain⟨x,hx⟩:∃x,f.options[k2]?=some x:=⟨f.options[k2]'(by rw[<-HNO.out];exact hlt),Lg _⟩
       obtain⟨b,off,ea,hbl,hc⟩:=HBH.out.2.addr (k:=k2) (cs:=x.cells) (by rw[List.getElem?_map,hx];rfl);have HC:Hid (∀j v,x.cells.toArray.toList[j]?=some v->wr.cell? ⟨b,off+k2*7+j,none⟩=some v):=fun j v hv=>(HBb.out.cell (p:=⟨b,off+k2*7+j,none⟩) hbl).trans (hc j v hv)
       subst ea;have HSZ:Hid ((prog.info? 197).map (·.size)=some x.cells.toArray.size):=Az;have HONE:=Hd (tJ x);have HS7:Hid ((#[.string ⟨#[]⟩,.string ⟨#[]⟩,.string ⟨#[]⟩,.string ⟨#[]⟩,.string ⟨#[]⟩,.string ⟨#[]⟩,.string ⟨#[]⟩]:Array Value).size=x.cells.toArray.size):=rfl;have HNEW:=Hd (heap_alloc_new wr (.cells #[.string ⟨#[]⟩,.string ⟨#[]⟩,.string ⟨#[]⟩,.string ⟨#[]⟩,.string ⟨#[]⟩,.string ⟨#[]⟩,.string ⟨#[]⟩] 197));have KO:Hid (aP ((wr.alloc (.cells #[.string ⟨#[]⟩,.string ⟨#[]⟩,.string ⟨#[]⟩,.string ⟨#[]⟩,.string ⟨#[]⟩,.string ⟨#[]⟩,.string ⟨#[]⟩] 197)).setRow wr.heap.size x.cells.toArray) wr.heap.size x.cells.toArray 197):=⟨by simp[World.setRow],setRow_heap _ _ _ _ _ _ (heap_alloc_new wr (.cells #[.string ⟨#[]⟩,.string ⟨#[]⟩,.string ⟨#[]⟩,.string ⟨#[]⟩,.string ⟨#[]⟩,.string ⟨#[]⟩,.string ⟨#[]⟩] 197))⟩
       have HBo:Hid (Below wr.heap.size wr ((wr.alloc (.cells #[.string ⟨#[]⟩,.string ⟨#[]⟩,.string ⟨#[]⟩,.string ⟨#[]⟩,.string ⟨#[]⟩,.string ⟨#[]⟩,.string ⟨#[]⟩] 197)).setRow wr.heap.size x.cells.toArray)):=below_setRow (aB _ _) (Nl _) _;have k0:=(KO.out.cell 0).trans (show _=some (.string ⟨x.other.toArray⟩) from rfl);have k1:=(KO.out.cell 1).trans (show _=some (.string ⟨x.ratio.n.toArray⟩) from rfl);have k2':=(KO.out.cell 2).trans (show _=some (.string ⟨x.ratio.d.toArray⟩) from rfl);have k3:=(KO.out.cell 3).trans (show _=some (.string ⟨x.price.n.toArray⟩) from rfl);have k4:=(KO.out.cell 4).trans (show _=some (.string ⟨x.price.d.toArray⟩) from rfl);have k5:=(KO.out.cell 5).trans (show _=some (.string ⟨x.value.n.toArray⟩) from rfl);have k6:=(KO.out.cell 6).trans (show _=some (.string ⟨x.value.d.toArray⟩) from rfl);have HR1:Hid (∀W,Calls prog 168 #[.agg #[.string ⟨x.ratio.n.toArray⟩,.string ⟨x.ratio.d.toArray⟩]] W fun e w'=>e=.returned (.bool (bI x.ratio))/\Below W.heap.size W w'):=fun W=>bR x.ratio W
       have HR2:Hid (∀W,Calls prog 168 #[.agg #[.string ⟨x.price.n.toArray⟩,.string ⟨x.price.d.toArray⟩]] W fun e w'=>e=.returned (.bool (bI x.price))/\Below W.heap.size W w'):=fun W=>bR x.price W
       have HR3:Hid (∀W,Calls prog 168 #[.agg #[.string ⟨x.value.n.toArray⟩,.string ⟨x.value.d.toArray⟩]] W fun e w'=>e=.returned (.bool (bI x.value))/\Below W.heap.size W w'):=fun W=>bR x.value W
       have HK:Hid (decide ((24:Int)<(x.other.length:Int))=false->bI x.ratio=false->bI x.price=false->bI x.value=false->∀j o,j<k2+1->f.options[j]?=some o->o.ok13=true):=fun h1 h2 h3 h4 j p hj hp=>by
        by_cases e:j=k2
        ·subst e;rw[hx] at hp;obtain rfl:=Option.some.inj hp;unfold eJ.ok13;rw[h1,h2,h3,h4];rfl
        ·exact HOKP.out j p (by omega) hp
       clear hc hx HOKP hbl;generalize bI x.ratio=r1 at *;generalize bI x.price=r2 at *;generalize bI x.value=r3 at *;generalize x.cells.toArray=xc at *;cases h24:decide ((24:Int)<(x.other.length:Int)) with
       |true =>
        clear HK;go_wp2_with (first|(refine aM rfl 197 _ rfl b (off+k2*7) rfl xc _ HC.out underlying197 rfl HSZ.out ?_)|(refine wpList_store_row rfl 197 _ _ rfl wr.heap.size xc rfl rfl 197 #[.string ⟨#[]⟩,.string ⟨#[]⟩,.string ⟨#[]⟩,.string ⟨#[]⟩,.string ⟨#[]⟩,.string ⟨#[]⟩,.string ⟨#[]⟩] HNEW.out HSZ.out HS7.out HONE.out ?_));go_ret;exact⟨⟨true,rfl,fun h=>by cases h⟩,aA HBb.out HBo.out⟩
       |false =>
        have HK2:=Hd (HK.out h24);clear HK;go_wp2_with (first|(refine aM rfl 197 _ rfl b (off+k2*7) rfl xc _ HC.out underlying197 rfl HSZ.out ?_)|(refine wpList_store_row rfl 197 _ _ rfl wr.heap.size xc rfl rfl 197 #[.string ⟨#[]⟩,.string ⟨#[]⟩,.string ⟨#[]⟩,.string ⟨#[]⟩,.string ⟨#[]⟩,.string ⟨#[]⟩,.string ⟨#[]⟩] HNEW.out HSZ.out HS7.out HONE.out ?_));refine(HR1.out _).mono ?_;rintro e v1 ⟨rfl,hv1⟩;have k3:=(hv1.cell (p:=⟨wr.heap.size,3,none⟩) KO.out.1).trans k3;have k4:=(hv1.cell (p:=⟨wr.heap.size,4,none⟩) KO.out.1).trans k4;have k5:=(hv1.cell (p:=⟨wr.heap.size,5,none⟩) KO.out.1).trans k5;have k6:=(hv1.cell (p:=⟨wr.heap.size,6,none⟩) KO.out.1).trans k6;have KO:=Hd (KO.out.below hv1);have HBo:=Hd (aA HBo.out hv1);clear hv1;cases r1 with
        |true =>
         go_wp2;go_ret;exact⟨⟨true,rfl,fun h=>by cases h⟩,aA HBb.out HBo.out⟩
        |false =>
         have HK3:=Hd (HK2.out rfl);clear HK2;go_wp2_with fail;refine(HR2.out _).mono ?_;rintro e v2 ⟨rfl,hv2⟩;have k5:=(hv2.cell (p:=⟨wr.heap.size,5,none⟩) KO.out.1).trans k5;have k6:=(hv2.cell (p:=⟨wr.heap.size,6,none⟩) KO.out.1).trans k6;have HBo:=Hd (aA HBo.out hv2);clear hv2;cases r2 with
         |true =>
          go_wp2;go_ret;exact⟨⟨true,rfl,fun h=>by cases h⟩,aA HBb.out HBo.out⟩
         |false =>
          have HK4:=Hd (HK3.out rfl);clear HK3;go_wp2_with fail;refine(HR3.out _).mono ?_;rintro e v3 ⟨rfl,hv3⟩;have HBo:=Hd (aA HBo.out hv3);clear hv3;cases r3 with
          |true =>
           go_wp2;go_ret;exact⟨⟨true,rfl,fun h=>by cases h⟩,aA HBb.out HBo.out⟩
          |false =>
           have HK5:=Hd (HK4.out rfl);clear HK4;go_wp2;go_roundw
           case rel=>exact⟨k2+1,by omega,by go_num,HK5,aA HBq.out HBo.out⟩
           case measure=>simp[intOf];omega
      ·obtain rfl:k2=no:=by omega
       have HPO:Hid (∀o,o∈f.options->o.ok13=true):=fun p hp=>by
        obtain⟨j,hj⟩:=List.getElem?_of_mem hp;have:=(Li.1 hj).1;exact HOKP.out j p (by rw[HNO.out];exact this) hj
       clear HOKP;go_wp2;go_ret;exact⟨⟨false,rfl,fun _=>⟨HNP66.out,HNO10.out,HPK.out,HPO.out⟩⟩,HBb.out⟩
  ·have HNO10:Hid (no<=10):=(by omega:no<=10)
   have f1:decide ((3:Int)<(no:Int))=true:=by simp;omega
   have f2:decide ((no:Int)<=8)=false:=by simp;omega
   have f3:decide ((10:Int)<(no:Int))=false:=by simp;omega
   clear g1 g2 h1 h2;go_wp2_with fail;go_loopw [3] (fun iv wr=>∃k:Nat,k<=np/\iv=.int .i64 k/\Hid (∀j p,j<k->f.picks[j]?=some p->p.ok13=true)/\Hid (Below w3.heap.size w3 wr)) (fun iv _=>np-(intOf iv).toNat)
   case atStart=>exact⟨0,Nat.zero_le _,rfl,fun j p h=>absurd h (Nat.not_lt_zero j),Br _ _⟩
   case round =>
    obtain⟨k,hk,rfl,HOKP,HBr⟩:=hrel;have c18:=(HBr.out.cell (p:=⟨w.heap.size,18,none⟩) KF.out.1).trans c18;have c19:=(HBr.out.cell (p:=⟨w.heap.size,19,none⟩) KF.out.1).trans c19;have HBa:=Hd (aA HW3.out HBr.out)
    by_cases hlt:k<np
    ·obtain⟨x,hx⟩:∃x,f.picks[k]?=some x:=⟨f.picks[k]'(by rw[<-HNP.out];exact hlt),Lg _⟩
     obtain⟨b,off,ea,hbl,hc⟩:=HBH.out.1.addr (k:=k) (cs:=x.cells) (by rw[List.getElem?_map,hx];rfl);have d0:wr.cell? ⟨b,off+k*2,none⟩=some (.string ⟨x.lot.toArray⟩):=(HBa.out.cell (p:=⟨b,off+k*2,none⟩) hbl).trans (hc 0 _ rfl);have d1:wr.cell? ⟨b,off+k*2+1,none⟩=some (.string ⟨x.q.toArray⟩):=(HBa.out.cell (p:=⟨b,off+k*2+1,none⟩) hbl).trans (hc 1 _ rfl);subst ea;have HLQ:=Hd (fun W=>bM x.q W);have HK:Hid (decide ((30:Int)<(x.lot.length:Int))=false->decide (13<x.q.length)=false->∀j p,j<k+1->f.picks[j]?=some p->p.ok13=true):=fun h1 h2 j p hj hp=>by
      by_cases e:j=k
      ·subst e;rw[hx] at hp;obtain rfl:=Option.some.inj hp;unfold bJ.ok13;rw[h1,h2];rfl
      ·exact HOKP.out j p (by omega) hp
     clear hc hx HOKP hbl;generalize decide (13<x.q.length)=r13 at *;cases h30:decide ((30:Int)<(x.lot.length:Int)) with
     |true =>
      clear HK;go_wp2;go_ret;exact⟨⟨true,rfl,fun h=>by cases h⟩,HBa.out⟩
     |false =>
      have HK2:=Hd (HK.out h30);clear HK;go_wp2_with fail;refine(HLQ.out _).mono ?_;rintro e w' ⟨rfl,rfl⟩;cases r13 with
      |true =>
       go_wp2;go_ret;exact⟨⟨true,rfl,fun h=>by cases h⟩,HBa.out⟩
      |false =>
       have HK3:=Hd (HK2.out rfl);clear HK2;go_wp2;go_roundw
       case rel=>exact⟨k+1,by omega,by go_num,HK3,HBr⟩
       case measure=>simp[intOf];omega
    ·obtain rfl:k=np:=by omega
     have HPK:Hid (∀p,p∈f.picks->p.ok13=true):=fun p hp=>by
      obtain⟨j,hj⟩:=List.getElem?_of_mem hp;have:=(Li.1 hj).1;exact HOKP.out j p (by rw[HNP.out];exact this) hj
     clear HOKP;obtain⟨w4,hw4⟩:∃w4,w4=wr:=⟨_,rfl⟩
     subst hw4;have KF:=Hd (KF.out.below HBr.out);clear hk hlt;go_wp2_with fail;go_loopw [4] (fun iv wr=>∃k:Nat,k<=no/\iv=.int .i64 k/\Hid (∀j o,j<k->f.options[j]?=some o->o.ok13=true)/\Hid (Below w4.heap.size w4 wr)) (fun iv _=>no-(intOf iv).toNat)
     case atStart=>exact⟨0,Nat.zero_le _,rfl,fun j p h=>absurd h (Nat.not_lt_zero j),Br _ _⟩
     case round =>
      obtain⟨k2,hk,rfl,HOKP,HBq⟩:=hrel;have c19:=(HBq.out.cell (p:=⟨w.heap.size,19,none⟩) KF.out.1).trans c19;have HBb:=Hd (aA HBa.out HBq.out)
      by_cases hlt:k2<no
      ·obtain⟨x,hx⟩:∃x,f.options[k2]?=some x:=⟨f.options[k2]'(by rw[<-HNO.out];exact hlt),Lg _⟩
       obtain⟨b,off,ea,hbl,hc⟩:=HBH.out.2.addr (k:=k2) (cs:=x.cells) (by rw[List.getElem?_map,hx];rfl);have HC:Hid (∀j v,x.cells.toArray.toList[j]?=some v->wr.cell? ⟨b,off+k2*7+j,none⟩=some v):=fun j v hv=>(HBb.out.cell (p:=⟨b,off+k2*7+j,none⟩) hbl).trans (hc j v hv)
       subst ea;have HSZ:Hid ((prog.info? 197).map (·.size)=some x.cells.toArray.size):=Az;have HONE:=Hd (tJ x);have HS7:Hid ((#[.string ⟨#[]⟩,.string ⟨#[]⟩,.string ⟨#[]⟩,.string ⟨#[]⟩,.string ⟨#[]⟩,.string ⟨#[]⟩,.string ⟨#[]⟩]:Array Value).size=x.cells.toArray.size):=rfl;have HNEW:=Hd (heap_alloc_new wr (.cells #[.string ⟨#[]⟩,.string ⟨#[]⟩,.string ⟨#[]⟩,.string ⟨#[]⟩,.string ⟨#[]⟩,.string ⟨#[]⟩,.string ⟨#[]⟩] 197));have KO:Hid (aP ((wr.alloc (.cells #[.string ⟨#[]⟩,.string ⟨#[]⟩,.string ⟨#[]⟩,.string ⟨#[]⟩,.string ⟨#[]⟩,.string ⟨#[]⟩,.string ⟨#[]⟩] 197)).setRow wr.heap.size x.cells.toArray) wr.heap.size x.cells.toArray 197):=⟨by simp[World.setRow],setRow_heap _ _ _ _ _ _ (heap_alloc_new wr (.cells #[.string ⟨#[]⟩,.string ⟨#[]⟩,.string ⟨#[]⟩,.string ⟨#[]⟩,.string ⟨#[]⟩,.string ⟨#[]⟩,.string ⟨#[]⟩] 197))⟩
       have HBo:Hid (Below wr.heap.size wr ((wr.alloc (.cells #[.string ⟨#[]⟩,.string ⟨#[]⟩,.string ⟨#[]⟩,.string ⟨#[]⟩,.string ⟨#[]⟩,.string ⟨#[]⟩,.string ⟨#[]⟩] 197)).setRow wr.heap.size x.cells.toArray)):=below_setRow (aB _ _) (Nl _) _;have k0:=(KO.out.cell 0).trans (show _=some (.string ⟨x.other.toArray⟩) from rfl);have k1:=(KO.out.cell 1).trans (show _=some (.string ⟨x.ratio.n.toArray⟩) from rfl);have k2':=(KO.out.cell 2).trans (show _=some (.string ⟨x.ratio.d.toArray⟩) from rfl);have k3:=(KO.out.cell 3).trans (show _=some (.string ⟨x.price.n.toArray⟩) from rfl);have k4:=(KO.out.cell 4).trans (show _=some (.string ⟨x.price.d.toArray⟩) from rfl);have k5:=(KO.out.cell 5).trans (show _=some (.string ⟨x.value.n.toArray⟩) from rfl);have k6:=(KO.out.cell 6).trans (show _=some (.string ⟨x.value.d.toArray⟩) from rfl);have HR1:Hid (∀W,Calls prog 168 #[.agg #[.string ⟨x.ratio.n.toArray⟩,.string ⟨x.ratio.d.toArray⟩]] W fun e w'=>e=.returned (.bool (bI x.ratio))/\Below W.heap.size W w'):=fun W=>bR x.ratio W
       have HR2:Hid (∀W,Calls prog 168 #[.agg #[.string ⟨x.price.n.toArray⟩,.string ⟨x.price.d.toArray⟩]] W fun e w'=>e=.returned (.bool (bI x.price))/\Below W.heap.size W w'):=fun W=>bR x.price W
       have HR3:Hid (∀W,Calls prog 168 #[.agg #[.string ⟨x.value.n.toArray⟩,.string ⟨x.value.d.toArray⟩]] W fun e w'=>e=.returned (.bool (bI x.value))/\Below W.heap.size W w'):=fun W=>bR x.value W
       have HK:Hid (decide ((24:Int)<(x.other.length:Int))=false->bI x.ratio=false->bI x.price=false->bI x.value=false->∀j o,j<k2+1->f.options[j]?=some o->o.ok13=true):=fun h1 h2 h3 h4 j p hj hp=>by
        by_cases e:j=k2
        ·subst e;rw[hx] at hp;obtain rfl:=Option.some.inj hp;unfold eJ.ok13;rw[h1,h2,h3,h4];rfl
        ·exact HOKP.out j p (by omega) hp
       clear hc hx HOKP hbl;generalize bI x.ratio=r1 at *;generalize bI x.price=r2 at *;generalize bI x.value=r3 at *;generalize x.cells.toArray=xc at *;cases h24:decide ((24:Int)<(x.other.length:Int)) with
       |true =>
        clear HK;go_wp2_with (first|(refine aM rfl 197 _ rfl b (off+k2*7) rfl xc _ HC.out underlying197 rfl HSZ.out ?_)|(refine wpList_store_row rfl 197 _ _ rfl wr.heap.size xc rfl rfl 197 #[.string ⟨#[]⟩,.string ⟨#[]⟩,.string ⟨#[]⟩,.string ⟨#[]⟩,.string ⟨#[]⟩,.string ⟨#[]⟩,.string ⟨#[]⟩] HNEW.out HSZ.out HS7.out HONE.out ?_));go_ret;exact⟨⟨true,rfl,fun h=>by cases h⟩,aA HBb.out HBo.out⟩
       |false =>
        have HK2:=Hd (HK.out h24);clear HK;go_wp2_with (first|(refine aM rfl 197 _ rfl b (off+k2*7) rfl xc _ HC.out underlying197 rfl HSZ.out ?_)|(refine wpList_store_row rfl 197 _ _ rfl wr.heap.size xc rfl rfl 197 #[.string ⟨#[]⟩,.string ⟨#[]⟩,.string ⟨#[]⟩,.string ⟨#[]⟩,.string ⟨#[]⟩,.string ⟨#[]⟩,.string ⟨#[]⟩] HNEW.out HSZ.out HS7.out HONE.out ?_));refine(HR1.out _).mono ?_;rintro e v1 ⟨rfl,hv1⟩;have k3:=(hv1.cell (p:=⟨wr.heap.size,3,none⟩) KO.out.1).trans k3;have k4:=(hv1.cell (p:=⟨wr.heap.size,4,none⟩) KO.out.1).trans k4;have k5:=(hv1.cell (p:=⟨wr.heap.size,5,none⟩) KO.out.1).trans k5;have k6:=(hv1.cell (p:=⟨wr.heap.size,6,none⟩) KO.out.1).trans k6;have KO:=Hd (KO.out.below hv1);have HBo:=Hd (aA HBo.out hv1);clear hv1;cases r1 with
        |true =>
         go_wp2;go_ret;exact⟨⟨true,rfl,fun h=>by cases h⟩,aA HBb.out HBo.out⟩
        |false =>
         have HK3:=Hd (HK2.out rfl);clear HK2;go_wp2_with fail;refine(HR2.out _).mono ?_;rintro e v2 ⟨rfl,hv2⟩;have k5:=(hv2.cell (p:=⟨wr.heap.size,5,none⟩) KO.out.1).trans k5;have k6:=(hv2.cell (p:=⟨wr.heap.size,6,none⟩) KO.out.1).trans k6;have HBo:=Hd (aA HBo.out hv2);clear hv2;cases r2 with
         |true =>
          go_wp2;go_ret;exact⟨⟨true,rfl,fun h=>by cases h⟩,aA HBb.out HBo.out⟩
         |false =>
          have HK4:=Hd (HK3.out rfl);clear HK3;go_wp2_with fail;refine(HR3.out _).mono ?_;rintro e v3 ⟨rfl,hv3⟩;have HBo:=Hd (aA HBo.out hv3);clear hv3;cases r3 with
          |true =>
           go_wp2;go_ret;exact⟨⟨true,rfl,fun h=>by cases h⟩,aA HBb.out HBo.out⟩
          |false =>
           have HK5:=Hd (HK4.out rfl);clear HK4;go_wp2;go_roundw
           case rel=>exact⟨k2+1,by omega,by go_num,HK5,aA HBq.out HBo.out⟩
           case measure=>simp[intOf];omega
      ·obtain rfl:k2=no:=by omega
       have HPO:Hid (∀o,o∈f.options->o.ok13=true):=fun p hp=>by
        obtain⟨j,hj⟩:=List.getElem?_of_mem hp;have:=(Li.1 hj).1;exact HOKP.out j p (by rw[HNO.out];exact this) hj
       clear HOKP;go_wp2;go_ret;exact⟨⟨false,rfl,fun _=>⟨HNP66.out,HNO10.out,HPK.out,HPO.out⟩⟩,HBb.out⟩
end Go.Proofs.YtejkibnaidiklaaGreatDoor
