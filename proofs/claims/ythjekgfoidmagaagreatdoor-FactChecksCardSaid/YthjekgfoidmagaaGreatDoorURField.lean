/- ROpts RField RField9 RFieldP RDay -/
import Derived.Test.YthjekgfoidmagaaGreatDoorURZero
set_option maxHeartbeats 16000000
set_option maxRecDepth 100000
namespace Go.Proofs.YthjekgfoidmagaaGreatDoor
open Go.Proofs.Tryz
section
open Go Go.RowKit Num
theorem Hy{n d:List UInt8}(h:Cu n d=true):nE n d [] []=0↔(n.isEmpty&&d.isEmpty)=true:=by
 rw[<-vD];have e1:pW n d=bG (if lU d<0 then -(val n) else val n) 0:=by
  unfold pW iY iG;have e:val ([]:List UInt8)=0:=rfl;rw[uA,Int.mul_one,Int.mul_one,e,Int.zero_mul,Int.sub_zero,uT (qQ d)]
 rw[e1,(Da _).2.1];constructor
 ·intro hz;have hv:val n=0:=by split at hz <;> omega
  unfold Cu at h;rw[hv,Cj] at h;have hr:fT 0 (lU d)=1:=by
   have hd:=qQ d;unfold fT;have hg:(gE 0 (lU d):Int)=(lU d).natAbs:=by unfold gE;simp
   rw[hg];split
   ·rw[show ((lU d).natAbs:Int) = -(lU d) by omega];exact Int.fdiv_self (by omega)
   ·rw[show ((lU d).natAbs:Int)=lU d by omega];exact Int.fdiv_self (by omega)
  rw[hr,oO,nA] at h;simp at h;simp[h]
 ·intro hn;simp at hn;obtain⟨rfl,rfl⟩:=hn;have e:val ([]:List UInt8)=0:=rfl;rw[e];split <;> rfl
theorem Uf{n d:List UInt8}(hn:n.length<=13)(hd:d.length<=13){p:Bool}(h:lim p false n d=0):Cu n d=true:=by
 rw[tO hn hd] at h;cases hf:Cu n d with
 |true=>rfl
 |false=>rw[hf] at h;simp at h
theorem Qc{ins:List UInt8}{os:List eJ}{k:Nat}{x:eJ}(h:os[k]?=some x):nX ins (os.drop k)=if sG ins x≠0 then sG ins x else nX ins (os.drop (k+1)):=by
 have hk:=(Li.1 h).1;have hp:=(Li.1 h).2;rw[List.drop_eq_getElem_cons hk,hp];rfl
theorem aDk(a b c:bZ):dA [a,b,c]=if lim false false a.n a.d≠0 then lim false false a.n a.d else if lim false false b.n b.d≠0 then lim false false b.n b.d else if lim false false c.n c.d≠0 then lim false false c.n c.d else 0:=rfl
theorem Fk(f:aE)(pa oa:Option Addr)(pc oc:Nat)(w:World)(hb:f.Behind w pa oa)(hins:f.ins ≠ [])(hp13:∀o,o∈f.options->o.other.length<=1000/\o.ratio.n.length<=13/\o.ratio.d.length<=13/\o.price.n.length<=13/\o.price.d.length<=13/\o.value.n.length<=13/\o.value.d.length<=13)(hpm:f.options.length<=1000):
  Calls prog 104 #[.agg (f.cells pa pc oa oc)] w fun e w'=>e=.returned (.int .i64 (iP f))/\Below w.heap.size w w':=by
 have HSR:=Hd hb.2;obtain⟨res,hres⟩:∃res,res=iP f:=⟨_,rfl⟩
 rw[<-hres];unfold iP at hres;obtain⟨key,stamp,cancelled,day,kind,ins,other,cur,target,fq,amt,fee,price,ratio,share,picks,os,choice⟩:=f;clear hb;have HX:=Hd (aP.new0 w ((aE.mk key stamp cancelled day kind ins other cur target fq amt fee price ratio share picks os choice).cells pa pc oa oc) 29);have HB:=Hd (aB w (.cells ((aE.mk key stamp cancelled day kind ins other cur target fq amt fee price ratio share picks os choice).cells pa pc oa oc) 29));unfold aE.cells at HX HB ⊢;dsimp only at *;have k19:=HX.out.cell 19
 by_cases h0:os.length=0
 ·rw[if_pos h0] at hres;subst hres;rw[h0] at k19 ⊢;clear HSR hp13 HX hins;go_enter func104,ntmps104;go_wp2;go_ret;exact⟨rfl,by rw[h0] at HB;exact HB.out⟩
 ·rw[if_neg h0] at hres;have h0b:((os.length:Int)==0)=false:=by simpa using h0
  by_cases hbig:8<os.length
  ·rw[if_pos hbig] at hres;subst hres;clear HSR hp13 HX hins;go_enter func104,ntmps104;go_wp2;go_ret;exact⟨rfl,HB.out⟩
  ·rw[if_neg hbig] at hres;have HRES:=Hd hres;have HP13:=Hd hp13;have HINS:=Hd hins;clear hres hp13 hins;obtain⟨W0,hW0⟩:∃W0,W0=w.alloc (.cells #[.string ⟨key.toArray⟩,.int .i64 stamp,.bool cancelled,.int .i64 day,.int .i64 kind,.string ⟨ins.toArray⟩,.string ⟨other.toArray⟩,.string ⟨cur.toArray⟩,.string ⟨target.toArray⟩,.string ⟨fq.toArray⟩,.string ⟨amt.toArray⟩,.string ⟨fee.toArray⟩,.string ⟨price.n.toArray⟩,.string ⟨price.d.toArray⟩,.string ⟨ratio.n.toArray⟩,.string ⟨ratio.d.toArray⟩,.string ⟨share.n.toArray⟩,.string ⟨share.d.toArray⟩,.slice pa picks.length pc,.slice oa os.length oc,.int .i64 choice] 29):=⟨_,rfl⟩
   rw[<-hW0] at HX HB k19;have HSR0:Hid (gJ W0 oa 7 (os.map eJ.cells)):=HSR.out.below (by rw[hW0];exact aB _ _);clear HSR;go_enter func104,ntmps104;go_wp2_with fail;rw[<-hW0];clear hW0;go_loopw [3] (fun iv W=>∃k:Nat,k<=os.length/\iv=.int .i64 (k:Int)/\Hid (res=nX ins (os.drop k))/\Hid (Below W0.heap.size W0 W)) (fun iv _=>os.length-(intOf iv).toNat)
   case atStart=>exact⟨0,Nat.zero_le _,rfl,HRES,Br _ _⟩
   case round =>
    obtain⟨k,hk,rfl,HP,HW⟩:=hrel;have c19:=(HX.out.below HW.out).cell 19
    by_cases hlt:k<os.length
    ·obtain⟨x,hx⟩:∃x,os[k]?=some x:=⟨_,Lg hlt⟩
     have HST:=Hd (HP.out.trans (Qc hx));obtain⟨l0,l1,l2,l3,l4,l5,l6⟩:=HP13.out x (List.mem_of_getElem? hx);obtain⟨b,off,rfl,hbl,hcc⟩:=HSR0.out.addr (k:=k) (cs:=x.cells) (by rw[List.getElem?_map,hx];rfl);have HC:Hid (∀j v,x.cells.toArray.toList[j]?=some v->wr.cell? ⟨b,off+k*7+j,none⟩=some v):=fun j v hv=>(HW.out.cell (p:=⟨b,off+k*7+j,none⟩) hbl).trans (hcc j v (by simpa using hv))
     have HSZ:Hid ((prog.info? 55).map (·.size)=some x.cells.toArray.size):=Az;have HONE:=Hd (tJ x);have HS7:Hid ((#[.string ⟨#[]⟩,.string ⟨#[]⟩,.string ⟨#[]⟩,.string ⟨#[]⟩,.string ⟨#[]⟩,.string ⟨#[]⟩,.string ⟨#[]⟩]:Array Value).size=x.cells.toArray.size):=rfl;have HNEW:=Hd (heap_alloc_new wr (.cells #[.string ⟨#[]⟩,.string ⟨#[]⟩,.string ⟨#[]⟩,.string ⟨#[]⟩,.string ⟨#[]⟩,.string ⟨#[]⟩,.string ⟨#[]⟩] 55));have KO:Hid (aP ((wr.alloc (.cells #[.string ⟨#[]⟩,.string ⟨#[]⟩,.string ⟨#[]⟩,.string ⟨#[]⟩,.string ⟨#[]⟩,.string ⟨#[]⟩,.string ⟨#[]⟩] 55)).setRow wr.heap.size x.cells.toArray) wr.heap.size x.cells.toArray 55):=⟨by simp[World.setRow],setRow_heap _ _ _ _ _ _ (heap_alloc_new wr (.cells #[.string ⟨#[]⟩,.string ⟨#[]⟩,.string ⟨#[]⟩,.string ⟨#[]⟩,.string ⟨#[]⟩,.string ⟨#[]⟩,.string ⟨#[]⟩] 55))⟩
     have HBo:=Hd (aA HW.out (below_setRow (aB wr (.cells #[.string ⟨#[]⟩,.string ⟨#[]⟩,.string ⟨#[]⟩,.string ⟨#[]⟩,.string ⟨#[]⟩,.string ⟨#[]⟩,.string ⟨#[]⟩] 55)) (Nl _) x.cells.toArray));have HXo:=Hd (HX.out.below HBo.out);have e5:=HXo.out.cell 5;have q0:=(KO.out.cell 0).trans (show _=some (.string ⟨x.other.toArray⟩) from rfl);have q1:=(KO.out.cell 1).trans (show _=some (.string ⟨x.ratio.n.toArray⟩) from rfl);have q2:=(KO.out.cell 2).trans (show _=some (.string ⟨x.ratio.d.toArray⟩) from rfl);have q3:=(KO.out.cell 3).trans (show _=some (.string ⟨x.price.n.toArray⟩) from rfl);have q4:=(KO.out.cell 4).trans (show _=some (.string ⟨x.price.d.toArray⟩) from rfl);have q5:=(KO.out.cell 5).trans (show _=some (.string ⟨x.value.n.toArray⟩) from rfl);have q6:=(KO.out.cell 6).trans (show _=some (.string ⟨x.value.d.toArray⟩) from rfl);have HQ0:=Hd (show x.cells.toArray[0]?=some (.string ⟨x.other.toArray⟩) from rfl);have HQ1:=Hd (show x.cells.toArray[1]?=some (.string ⟨x.ratio.n.toArray⟩) from rfl);have HQ2:=Hd (show x.cells.toArray[2]?=some (.string ⟨x.ratio.d.toArray⟩) from rfl);have HQ3:=Hd (show x.cells.toArray[3]?=some (.string ⟨x.price.n.toArray⟩) from rfl);have HQ4:=Hd (show x.cells.toArray[4]?=some (.string ⟨x.price.d.toArray⟩) from rfl);have HQ5:=Hd (show x.cells.toArray[5]?=some (.string ⟨x.value.n.toArray⟩) from rfl);have HQ6:=Hd (show x.cells.toArray[6]?=some (.string ⟨x.value.d.toArray⟩) from rfl);have HNM:=Hd (fun W=>mL x.other W (by omega));have HN1:=Hd (fun W=>gD x.ratio.n x.ratio.d false W l1 l2);have HN2:=Hd (fun W=>gD x.price.n x.price.d false W l3 l4);have HN3:=Hd (fun W=>gD x.value.n x.value.d false W l5 l6);have HG1:=Hd (fun W=>sU x.ratio.n x.ratio.d W (by omega) (by omega));have HG3:=Hd (fun W=>sU x.value.n x.value.d W (by omega) (by omega));have HNO1:=Hd (fun h=>Hy (Uf (p:=false) l1 l2 h));have HNO3:=Hd (fun h=>Hy (Uf (p:=false) l5 l6 h));clear hcc HP l0 l1 l2 l3 l4 l5 l6 hx;unfold sG iO bZ.none at HST;rw[aDk] at HST;generalize x.cells.toArray=xc at *;obtain⟨oo,⟨rn,rd⟩,⟨pn,pd⟩,⟨vn,vd⟩⟩:=x;dsimp only at *;generalize lim false false rn rd=z1 at *;generalize lim false false pn pd=z2 at *;generalize lim false false vn vd=z3 at *;generalize nE rn rd [] []=s1 at *;generalize nE vn vd [] []=s3 at *;generalize(rn.isEmpty&&rd.isEmpty)=n1 at *;generalize(vn.isEmpty&&vd.isEmpty)=n3 at *;cases hoe:oo.isEmpty with
     |true =>
      have hoi:(oo==ins)=false:=by
       have:oo=[]:=by simpa using hoe
       rw[this];have:=HINS.out;cases ins with|nil=>exact absurd rfl this|cons _ _=>rfl
      go_wp2_with (first|(refine aM rfl 55 _ rfl b (off+k*7) rfl xc _ HC.out underlying55 rfl HSZ.out ?_)|(refine wpList_store_row rfl 55 _ _ rfl wr.heap.size xc rfl rfl 55 #[.string ⟨#[]⟩,.string ⟨#[]⟩,.string ⟨#[]⟩,.string ⟨#[]⟩,.string ⟨#[]⟩,.string ⟨#[]⟩,.string ⟨#[]⟩] HNEW.out HSZ.out HS7.out HONE.out ?_));refine(HN1.out _).mono ?_;rintro e w11 ⟨rfl,hb⟩;have KO1:=Hd (KO.out.below hb);have HBo1:=Hd (aA HBo.out hb);have HXo1:=Hd (HXo.out.below hb);clear hb e5 q0 q1 q2 q3 q4 q5 q6 c19;have c19:=HXo1.out.cell 19;have e5:=HXo1.out.cell 5;have q0:=(KO1.out.cell 0).trans HQ0.out;have q1:=(KO1.out.cell 1).trans HQ1.out;have q2:=(KO1.out.cell 2).trans HQ2.out;have q3:=(KO1.out.cell 3).trans HQ3.out;have q4:=(KO1.out.cell 4).trans HQ4.out;have q5:=(KO1.out.cell 5).trans HQ5.out;have q6:=(KO1.out.cell 6).trans HQ6.out
      by_cases hz1:z1=0
      ·have hs1:=HNO1.out hz1;subst hz1;go_wp2_with fail;refine(HN2.out _).mono ?_;rintro e w12 ⟨rfl,hb⟩;have KO2:=Hd (KO1.out.below hb);have HBo2:=Hd (aA HBo1.out hb);have HXo2:=Hd (HXo1.out.below hb);clear hb e5 q0 q1 q2 q3 q4 q5 q6 c19;have c19:=HXo2.out.cell 19;have e5:=HXo2.out.cell 5;have q0:=(KO2.out.cell 0).trans HQ0.out;have q1:=(KO2.out.cell 1).trans HQ1.out;have q2:=(KO2.out.cell 2).trans HQ2.out;have q3:=(KO2.out.cell 3).trans HQ3.out;have q4:=(KO2.out.cell 4).trans HQ4.out;have q5:=(KO2.out.cell 5).trans HQ5.out;have q6:=(KO2.out.cell 6).trans HQ6.out
       by_cases hz2:z2=0
       ·subst hz2;go_wp2_with fail;refine(HN3.out _).mono ?_;rintro e w13 ⟨rfl,hb⟩;have KO3:=Hd (KO2.out.below hb);have HBo3:=Hd (aA HBo2.out hb);have HXo3:=Hd (HXo2.out.below hb);clear hb e5 q0 q1 q2 q3 q4 q5 q6 c19;have c19:=HXo3.out.cell 19;have e5:=HXo3.out.cell 5;have q0:=(KO3.out.cell 0).trans HQ0.out;have q1:=(KO3.out.cell 1).trans HQ1.out;have q2:=(KO3.out.cell 2).trans HQ2.out;have q3:=(KO3.out.cell 3).trans HQ3.out;have q4:=(KO3.out.cell 4).trans HQ4.out;have q5:=(KO3.out.cell 5).trans HQ5.out;have q6:=(KO3.out.cell 6).trans HQ6.out
        by_cases hz3:z3=0
        ·have hs3:=HNO3.out hz3;subst hz3;go_wp2_with fail;refine(HG1.out _).mono ?_;rintro e w14 ⟨rfl,hb⟩;have KO4:=Hd (KO3.out.below hb);have HBo4:=Hd (aA HBo3.out hb);have HXo4:=Hd (HXo3.out.below hb);clear hb e5 q0 q1 q2 q3 q4 q5 q6 c19;have c19:=HXo4.out.cell 19;have e5:=HXo4.out.cell 5;have q0:=(KO4.out.cell 0).trans HQ0.out;have q1:=(KO4.out.cell 1).trans HQ1.out;have q2:=(KO4.out.cell 2).trans HQ2.out;have q3:=(KO4.out.cell 3).trans HQ3.out;have q4:=(KO4.out.cell 4).trans HQ4.out;have q5:=(KO4.out.cell 5).trans HQ5.out;have q6:=(KO4.out.cell 6).trans HQ6.out;cases hn1:n1 with
         |true =>
          rw[hn1] at hs1;have hs1':s1=0:=hs1.2 rfl;subst hs1';clear HNO1 HNO3 hs1;go_wp2_with fail;refine(HG3.out _).mono ?_;rintro e w15 ⟨rfl,hb⟩;have KO5:=Hd (KO4.out.below hb);have HBo5:=Hd (aA HBo4.out hb);have HXo5:=Hd (HXo4.out.below hb);clear hb e5 q0 q1 q2 q3 q4 q5 q6 c19;have c19:=HXo5.out.cell 19;have e5:=HXo5.out.cell 5;have q0:=(KO5.out.cell 0).trans HQ0.out;have q1:=(KO5.out.cell 1).trans HQ1.out;have q2:=(KO5.out.cell 2).trans HQ2.out;have q3:=(KO5.out.cell 3).trans HQ3.out;have q4:=(KO5.out.cell 4).trans HQ4.out;have q5:=(KO5.out.cell 5).trans HQ5.out;have q6:=(KO5.out.cell 6).trans HQ6.out;cases hn3:n3 with
          |true =>
           have hr:Hid (res=nX ins (os.drop (k+1))):=by have h:=HST.out;simp[hoe,hoi,hn1,hn3] at h;exact h
           rw[hn3] at hs3;have hs3':s3=0:=hs3.2 rfl;clear HST hs3;subst hs3';go_wp2;go_roundw
           case rel=>exact⟨k+1,by omega,by go_num,hr,HBo5⟩
           case measure=>simp[intOf];omega
          |false =>
           have hr:Hid (res=2):=by have h:=HST.out;simp[hoe,hoi,hn1,hn3] at h;exact h
           rw[hn3] at hs3;have hs3':(s3 != 0)=true:=by simpa using fun h=>Bool.noConfusion (hs3.1 h)
           clear HST hs3;go_wp2;go_ret;exact⟨by rw[hr.out];rfl,aA HB.out HBo5.out⟩
         |false =>
          rw[hn1] at hs1;have hs1':(s1==0)=false:=by simpa using fun h=>Bool.noConfusion (hs1.1 h)
          have hr:Hid (res=2):=by have h:=HST.out;simp[hoe,hoi,hn1] at h;exact h
          clear HST hs1 hs3 HNO1 HNO3;go_wp2;go_ret;exact⟨by rw[hr.out];rfl,aA HB.out HBo4.out⟩
        ·have hr:Hid (res=z3):=by have h:=HST.out;simp[hoe,hoi,hz3] at h;exact h
         have hzb:(z3 != 0)=true:=by simpa using hz3
         clear HST HNO1 HNO3 hz3;go_wp2;go_ret;exact⟨by rw[hr.out];rfl,aA HB.out HBo3.out⟩
       ·have hr:Hid (res=z2):=by have h:=HST.out;simp[hoe,hoi,hz2] at h;exact h
        have hzb:(z2 != 0)=true:=by simpa using hz2
        clear HST HNO1 HNO3 hz2;go_wp2;go_ret;exact⟨by rw[hr.out];rfl,aA HB.out HBo2.out⟩
      ·have hr:Hid (res=z1):=by have h:=HST.out;simp[hoe,hoi,hz1] at h;exact h
       have hzb:(z1 != 0)=true:=by simpa using hz1
       clear HST HNO1 HNO3 hz1;go_wp2;go_ret;exact⟨by rw[hr.out];rfl,aA HB.out HBo1.out⟩
     |false =>
      cases hnm:dC oo with
      |false =>
       have hr:Hid (res=23):=by have h:=HST.out;simp[hoe,hnm] at h;exact h
       rw[hnm] at HNM;clear HST HNO1 HNO3;go_wp2_with (first|(refine aM rfl 55 _ rfl b (off+k*7) rfl xc _ HC.out underlying55 rfl HSZ.out ?_)|(refine wpList_store_row rfl 55 _ _ rfl wr.heap.size xc rfl rfl 55 #[.string ⟨#[]⟩,.string ⟨#[]⟩,.string ⟨#[]⟩,.string ⟨#[]⟩,.string ⟨#[]⟩,.string ⟨#[]⟩,.string ⟨#[]⟩] HNEW.out HSZ.out HS7.out HONE.out ?_));refine(HNM.out _).mono ?_;rintro e w9 ⟨rfl,rfl⟩;go_wp2;go_ret;exact⟨by rw[hr.out];rfl,aA HB.out HBo.out⟩
      |true =>
       rw[hnm] at HNM;cases hoi:(oo==ins) with
       |true =>
        have hr:Hid (res=18):=by have h:=HST.out;simp[hoe,hnm,hoi] at h;exact h
        clear HST HNO1 HNO3;go_wp2_with (first|(refine aM rfl 55 _ rfl b (off+k*7) rfl xc _ HC.out underlying55 rfl HSZ.out ?_)|(refine wpList_store_row rfl 55 _ _ rfl wr.heap.size xc rfl rfl 55 #[.string ⟨#[]⟩,.string ⟨#[]⟩,.string ⟨#[]⟩,.string ⟨#[]⟩,.string ⟨#[]⟩,.string ⟨#[]⟩,.string ⟨#[]⟩] HNEW.out HSZ.out HS7.out HONE.out ?_));refine(HNM.out _).mono ?_;rintro e w9 ⟨rfl,rfl⟩;go_wp2;go_ret;exact⟨by rw[hr.out];rfl,aA HB.out HBo.out⟩
       |false =>
        go_wp2_with (first|(refine aM rfl 55 _ rfl b (off+k*7) rfl xc _ HC.out underlying55 rfl HSZ.out ?_)|(refine wpList_store_row rfl 55 _ _ rfl wr.heap.size xc rfl rfl 55 #[.string ⟨#[]⟩,.string ⟨#[]⟩,.string ⟨#[]⟩,.string ⟨#[]⟩,.string ⟨#[]⟩,.string ⟨#[]⟩,.string ⟨#[]⟩] HNEW.out HSZ.out HS7.out HONE.out ?_));refine(HNM.out _).mono ?_;rintro e w9 ⟨rfl,rfl⟩;go_wp2_with fail;refine(HN1.out _).mono ?_;rintro e w11 ⟨rfl,hb⟩;have KO1:=Hd (KO.out.below hb);have HBo1:=Hd (aA HBo.out hb);have HXo1:=Hd (HXo.out.below hb);clear hb e5 q0 q1 q2 q3 q4 q5 q6 c19;have c19:=HXo1.out.cell 19;have e5:=HXo1.out.cell 5;have q0:=(KO1.out.cell 0).trans HQ0.out;have q1:=(KO1.out.cell 1).trans HQ1.out;have q2:=(KO1.out.cell 2).trans HQ2.out;have q3:=(KO1.out.cell 3).trans HQ3.out;have q4:=(KO1.out.cell 4).trans HQ4.out;have q5:=(KO1.out.cell 5).trans HQ5.out;have q6:=(KO1.out.cell 6).trans HQ6.out
        by_cases hz1:z1=0
        ·have hs1:=HNO1.out hz1;subst hz1;go_wp2_with fail;refine(HN2.out _).mono ?_;rintro e w12 ⟨rfl,hb⟩;have KO2:=Hd (KO1.out.below hb);have HBo2:=Hd (aA HBo1.out hb);have HXo2:=Hd (HXo1.out.below hb);clear hb e5 q0 q1 q2 q3 q4 q5 q6 c19;have c19:=HXo2.out.cell 19;have e5:=HXo2.out.cell 5;have q0:=(KO2.out.cell 0).trans HQ0.out;have q1:=(KO2.out.cell 1).trans HQ1.out;have q2:=(KO2.out.cell 2).trans HQ2.out;have q3:=(KO2.out.cell 3).trans HQ3.out;have q4:=(KO2.out.cell 4).trans HQ4.out;have q5:=(KO2.out.cell 5).trans HQ5.out;have q6:=(KO2.out.cell 6).trans HQ6.out
         by_cases hz2:z2=0
         ·subst hz2;go_wp2_with fail;refine(HN3.out _).mono ?_;rintro e w13 ⟨rfl,hb⟩;have KO3:=Hd (KO2.out.below hb);have HBo3:=Hd (aA HBo2.out hb);have HXo3:=Hd (HXo2.out.below hb);clear hb e5 q0 q1 q2 q3 q4 q5 q6 c19;have c19:=HXo3.out.cell 19;have e5:=HXo3.out.cell 5;have q0:=(KO3.out.cell 0).trans HQ0.out;have q1:=(KO3.out.cell 1).trans HQ1.out;have q2:=(KO3.out.cell 2).trans HQ2.out;have q3:=(KO3.out.cell 3).trans HQ3.out;have q4:=(KO3.out.cell 4).trans HQ4.out;have q5:=(KO3.out.cell 5).trans HQ5.out;have q6:=(KO3.out.cell 6).trans HQ6.out
          by_cases hz3:z3=0
          ·have hs3:=HNO3.out hz3;subst hz3;go_wp2_with fail;refine(HG1.out _).mono ?_;rintro e w14 ⟨rfl,hb⟩;have KO4:=Hd (KO3.out.below hb);have HBo4:=Hd (aA HBo3.out hb);have HXo4:=Hd (HXo3.out.below hb);clear hb e5 q0 q1 q2 q3 q4 q5 q6 c19;have c19:=HXo4.out.cell 19;have e5:=HXo4.out.cell 5;have q0:=(KO4.out.cell 0).trans HQ0.out;have q1:=(KO4.out.cell 1).trans HQ1.out;have q2:=(KO4.out.cell 2).trans HQ2.out;have q3:=(KO4.out.cell 3).trans HQ3.out;have q4:=(KO4.out.cell 4).trans HQ4.out;have q5:=(KO4.out.cell 5).trans HQ5.out;have q6:=(KO4.out.cell 6).trans HQ6.out;cases hn1:n1 with
           |true =>
            rw[hn1] at hs1;have hs1':s1=0:=hs1.2 rfl;subst hs1';have hr:Hid (res=2):=by have h:=HST.out;simp[hoe,hnm,hoi,hn1] at h;exact h
            clear HST hs1 hs3 HNO1 HNO3;go_wp2;go_ret;exact⟨by rw[hr.out];rfl,aA HB.out HBo4.out⟩
           |false =>
            rw[hn1] at hs1;have hs1':(s1==0)=false:=by simpa using fun h=>Bool.noConfusion (hs1.1 h)
            have hr:Hid (res=nX ins (os.drop (k+1))):=by have h:=HST.out;simp[hoe,hnm,hoi,hn1] at h;exact h
            clear HST hs1 hs3 HNO1 HNO3;go_wp2;go_roundw
            case rel=>exact⟨k+1,by omega,by go_num,hr,HBo4⟩
            case measure=>simp[intOf];omega
          ·have hr:Hid (res=z3):=by have h:=HST.out;simp[hoe,hnm,hoi,hz3] at h;exact h
           have hzb:(z3 != 0)=true:=by simpa using hz3
           clear HST HNO1 HNO3 hz3;go_wp2;go_ret;exact⟨by rw[hr.out];rfl,aA HB.out HBo3.out⟩
         ·have hr:Hid (res=z2):=by have h:=HST.out;simp[hoe,hnm,hoi,hz2] at h;exact h
          have hzb:(z2 != 0)=true:=by simpa using hz2
          clear HST HNO1 HNO3 hz2;go_wp2;go_ret;exact⟨by rw[hr.out];rfl,aA HB.out HBo2.out⟩
        ·have hr:Hid (res=z1):=by have h:=HST.out;simp[hoe,hnm,hoi,hz1] at h;exact h
         have hzb:(z1 != 0)=true:=by simpa using hz1
         clear HST HNO1 HNO3 hz1;go_wp2;go_ret;exact⟨by rw[hr.out];rfl,aA HB.out HBo1.out⟩
    ·obtain rfl:k=os.length:=by omega
     have hr:Hid (res=0):=by have h:=HP.out;rw[List.drop_of_length_le (Nl _)] at h;exact h
     clear HP;go_wp2;go_ret;exact⟨by rw[hr.out];rfl,aA HB.out HW.out⟩
end
section
open Go Go.RowKit Num
theorem Ti(f:aE)(pa oa:Option Addr)(pc oc:Nat)(w:World)(ht:f.tight):
  Calls prog 42 #[.agg (f.cells pa pc oa oc),.int .i64 0] w fun e w'=>e=.returned (.int .i64 (fA f.ins))/\Below w.heap.size w w':=by
 have HL:=Hd (fun W=>show Calls prog 95 #[.string ⟨f.ins.toArray⟩] W (fun e w'=>e=.returned (.int .i64 (fA f.ins))/\w'=W) from xQ f.ins W ht.small.ins);obtain⟨z,hz⟩:∃z,z=fA f.ins:=⟨_,rfl⟩
 rw[<-hz] at HL ⊢;clear hz;obtain⟨key,stamp,cancelled,day,kind,ins,other,cur,target,fq,amt,fee,price,ratio,share,picks,os,choice⟩:=f;unfold aE.cells at *;dsimp only at *;go_enter func42,ntmps42;go_wp2_with fail;refine(HL.out _).mono ?_;rintro e w1 ⟨rfl,rfl⟩;go_wp2;go_ret;exact⟨rfl,aB w _⟩
theorem Th(f:aE)(pa oa:Option Addr)(pc oc:Nat)(w:World)(ht:f.tight):
  Calls prog 42 #[.agg (f.cells pa pc oa oc),.int .i64 1] w fun e w'=>e=.returned (.int .i64 (gM f (decide (f.kind=7∨f.kind=16))))/\Below w.heap.size w w':=by
 have HL:=Hd (fun W (_:Below w.heap.size w W)=>Mr f pa oa pc oc W ht.small.other);obtain⟨z,hz⟩:∃z,z=gM f (decide (f.kind=7∨f.kind=16)):=⟨_,rfl⟩
 rw[<-hz] at HL ⊢;clear hz;have HFB:=Hd (aP.new0 w (f.cells pa pc oa oc) 29);have hsz:Hid ((prog.info? 29).map (·.size)=some (f.cells pa pc oa oc).size):=aY f pa oa pc oc;generalize f.cells pa pc oa oc=cs at *;go_enter func42,ntmps42;go_wp2_with (refine wpList_load_row rfl 29 _ rfl w.heap.size rfl 29 cs (0,0) _ HFB.out.2 underlying29 rfl hsz.out ?_);refine(HL.out _ (aB w _)).mono ?_;rintro e w1 ⟨rfl,hb⟩;have HB:=Hd (aA (aB w _) hb);clear hb;go_wp2;go_ret;exact⟨rfl,HB.out⟩
theorem Tg(f:aE)(pa oa:Option Addr)(pc oc:Nat)(w:World)(ht:f.tight):
  Calls prog 42 #[.agg (f.cells pa pc oa oc),.int .i64 2] w fun e w'=>e=.returned (.int .i64 (if fV f.cur=true then 0 else 12))/\Below w.heap.size w w':=by
 have HL:=Hd (fun W=>De f.cur W ht.small.cur);obtain⟨z,hz⟩:∃z,z=fV f.cur:=⟨_,rfl⟩
 rw[<-hz] at HL ⊢;clear hz;obtain⟨key,stamp,cancelled,day,kind,ins,other,cur,target,fq,amt,fee,price,ratio,share,picks,os,choice⟩:=f;unfold aE.cells at *;dsimp only at *;cases z
 all_goals
  go_enter func42,ntmps42;go_wp2_with fail;refine(HL.out _).mono ?_;rintro e w1 ⟨rfl,rfl⟩;go_wp2;go_ret;exact⟨rfl,aB w _⟩
theorem Tf(f:aE)(pa oa:Option Addr)(pc oc:Nat)(w:World)(ht:f.tight):
  Calls prog 42 #[.agg (f.cells pa pc oa oc),.int .i64 3] w fun e w'=>e=.returned (.int .i64 (fA f.target))/\Below w.heap.size w w':=by
 have HL:=Hd (fun W=>show Calls prog 95 #[.string ⟨f.target.toArray⟩] W (fun e w'=>e=.returned (.int .i64 (fA f.target))/\w'=W) from xQ f.target W ht.small.target);obtain⟨z,hz⟩:∃z,z=fA f.target:=⟨_,rfl⟩
 rw[<-hz] at HL ⊢;clear hz;obtain⟨key,stamp,cancelled,day,kind,ins,other,cur,target,fq,amt,fee,price,ratio,share,picks,os,choice⟩:=f;unfold aE.cells at *;dsimp only at *;go_enter func42,ntmps42;go_wp2_with fail;refine(HL.out _).mono ?_;rintro e w1 ⟨rfl,rfl⟩;go_wp2;go_ret;exact⟨rfl,aB w _⟩
theorem Te(f:aE)(pa oa:Option Addr)(pc oc:Nat)(w:World)(ht:f.tight):
  Calls prog 42 #[.agg (f.cells pa pc oa oc),.int .i64 4] w fun e w'=>e=.returned (.int .i64 (lim true false f.q []))/\Below w.heap.size w w':=by
 have HL:Hid (∀W,Calls prog 98 #[.string ⟨f.q.toArray⟩,.string ⟨([49]:List UInt8).toArray⟩] W fun e w'=>e=.returned (.int .i64 (lim true false f.q []))/\w'=W):=fun W=>pO f.q true W ht.q
 obtain⟨z,hz⟩:∃z,z=lim true false f.q []:=⟨_,rfl⟩
 rw[<-hz] at HL ⊢;clear hz;obtain⟨key,stamp,cancelled,day,kind,ins,other,cur,target,fq,amt,fee,price,ratio,share,picks,os,choice⟩:=f;unfold aE.cells at *;dsimp only at *;go_enter func42,ntmps42;go_wp2_with fail;refine(HL.out _).mono ?_;rintro e w1 ⟨rfl,rfl⟩;go_wp2;go_ret;exact⟨rfl,aB w _⟩
theorem Td(f:aE)(pa oa:Option Addr)(pc oc:Nat)(w:World)(ht:f.tight):
  Calls prog 42 #[.agg (f.cells pa pc oa oc),.int .i64 5] w fun e w'=>e=.returned (.int .i64 (lim (decide (¬ (f.kind=3∨f.kind=4))) false f.amt []))/\Below w.heap.size w w':=by
 have HL:=Hd (fun W=>pO f.amt (decide (¬ (f.kind=3∨f.kind=4))) W ht.amt);have HM:=Hd (fun W=>Jb f.kind W);generalize(if decide (¬ (f.kind=3∨f.kind=4))=true then([49]:List UInt8) else[])=le at *;obtain⟨z,hz⟩:∃z,z=lim (decide (¬ (f.kind=3∨f.kind=4))) false f.amt []:=⟨_,rfl⟩
 rw[<-hz] at HL ⊢;clear hz;obtain⟨key,stamp,cancelled,day,kind,ins,other,cur,target,fq,amt,fee,price,ratio,share,picks,os,choice⟩:=f;unfold aE.cells at *;dsimp only at *;have HX:=Hd (aP.new0 w #[.string ⟨key.toArray⟩,.int .i64 stamp,.bool cancelled,.int .i64 day,.int .i64 kind,.string ⟨ins.toArray⟩,.string ⟨other.toArray⟩,.string ⟨cur.toArray⟩,.string ⟨target.toArray⟩,.string ⟨fq.toArray⟩,.string ⟨amt.toArray⟩,.string ⟨fee.toArray⟩,.string ⟨price.n.toArray⟩,.string ⟨price.d.toArray⟩,.string ⟨ratio.n.toArray⟩,.string ⟨ratio.d.toArray⟩,.string ⟨share.n.toArray⟩,.string ⟨share.d.toArray⟩,.slice pa picks.length pc,.slice oa os.length oc,.int .i64 choice] 29);have k4:=HX.out.cell 4;have k10:=HX.out.cell 10;go_enter func42,ntmps42;go_wp2_with fail;go_quiet (first|(go_at_call 99;refine Calls.quiet_of_same (HM.out _))|(go_at_call 98;refine Calls.quiet_of_same (HL.out _)));go_wp2;go_ret;exact⟨rfl,aD (aB w _) _⟩
theorem Tc(f:aE)(pa oa:Option Addr)(pc oc:Nat)(w:World)(ht:f.tight):
  Calls prog 42 #[.agg (f.cells pa pc oa oc),.int .i64 6] w fun e w'=>e=.returned (.int .i64 (lim false false f.fee []))/\Below w.heap.size w w':=by
 have HL:Hid (∀W,Calls prog 98 #[.string ⟨f.fee.toArray⟩,.string ⟨#[]⟩] W fun e w'=>e=.returned (.int .i64 (lim false false f.fee []))/\w'=W):=fun W=>pO f.fee false W ht.fee
 obtain⟨z,hz⟩:∃z,z=lim false false f.fee []:=⟨_,rfl⟩
 rw[<-hz] at HL ⊢;clear hz;obtain⟨key,stamp,cancelled,day,kind,ins,other,cur,target,fq,amt,fee,price,ratio,share,picks,os,choice⟩:=f;unfold aE.cells at *;dsimp only at *;go_enter func42,ntmps42;go_wp2_with fail;refine(HL.out _).mono ?_;rintro e w1 ⟨rfl,rfl⟩;go_wp2;go_ret;exact⟨rfl,aB w _⟩
theorem fL{f:bZ}(h:bI f=false):f.n.length<=13/\f.d.length<=13:=by
 unfold bI at h;simp at h;exact⟨by omega,by omega⟩
theorem Tb(f:aE)(pa oa:Option Addr)(pc oc:Nat)(w:World)(ht:f.tight):
  Calls prog 42 #[.agg (f.cells pa pc oa oc),.int .i64 7] w fun e w'=>e=.returned (.int .i64 (lim (decide (f.kind=5∨f.kind=13)) false f.price.n f.price.d))/\Below w.heap.size w w':=by
 have HL:=Hd (fun W=>gD f.price.n f.price.d (decide (f.kind=5∨f.kind=13)) W (fL ht.price).1 (fL ht.price).2);obtain⟨z,hz⟩:∃z,z=lim (decide (f.kind=5∨f.kind=13)) false f.price.n f.price.d:=⟨_,rfl⟩
 rw[<-hz] at HL ⊢;clear hz;obtain⟨key,stamp,cancelled,day,kind,ins,other,cur,target,fq,amt,fee,price,ratio,share,picks,os,choice⟩:=f;unfold aE.cells at *;dsimp only at *;rcases(show kind=5∨kind=13∨(kind≠5/\kind≠13) by omega) with rfl|rfl|⟨h1,h2⟩
 ·have e:decide ((5:Int)=5∨(5:Int)=13)=true:=rfl;rw[e] at HL;clear e;go_enter func42,ntmps42;go_wp2_with fail;refine(HL.out _).mono ?_;rintro e w1 ⟨rfl,hb⟩;have HB:=Hd (aA (aB w _) hb);clear hb;go_wp2;go_ret;exact⟨rfl,HB.out⟩
 ·have e:decide ((13:Int)=5∨(13:Int)=13)=true:=rfl;rw[e] at HL;clear e;go_enter func42,ntmps42;go_wp2_with fail;refine(HL.out _).mono ?_;rintro e w1 ⟨rfl,hb⟩;have HB:=Hd (aA (aB w _) hb);clear hb;go_wp2;go_ret;exact⟨rfl,HB.out⟩
 ·have e:decide (kind=5∨kind=13)=false:=by simp[h1,h2]
  rw[e] at HL;have e1:(kind==5)=false:=by simpa using h1
  have e2:(kind==13)=false:=by simpa using h2
  clear e h1 h2;go_enter func42,ntmps42;go_wp2_with fail;refine(HL.out _).mono ?_;rintro e w1 ⟨rfl,hb⟩;have HB:=Hd (aA (aB w _) hb);clear hb;go_wp2;go_ret;exact⟨rfl,HB.out⟩
theorem Ta(f:aE)(pa oa:Option Addr)(pc oc:Nat)(w:World)(ht:f.tight):
  Calls prog 42 #[.agg (f.cells pa pc oa oc),.int .i64 8] w fun e w'=>e=.returned (.int .i64 (lim true false f.ratio.n f.ratio.d))/\Below w.heap.size w w':=by
 have HL:=Hd (fun W=>gD f.ratio.n f.ratio.d true W (fL ht.ratio).1 (fL ht.ratio).2);obtain⟨z,hz⟩:∃z,z=lim true false f.ratio.n f.ratio.d:=⟨_,rfl⟩
 rw[<-hz] at HL ⊢;clear hz;obtain⟨key,stamp,cancelled,day,kind,ins,other,cur,target,fq,amt,fee,price,ratio,share,picks,os,choice⟩:=f;unfold aE.cells at *;dsimp only at *;go_enter func42,ntmps42;go_wp2_with fail;refine(HL.out _).mono ?_;rintro e w1 ⟨rfl,hb⟩;have HB:=Hd (aA (aB w _) hb);clear hb;go_wp2;go_ret;exact⟨rfl,HB.out⟩
theorem Pw(f:aE)(pa oa:Option Addr)(pc oc:Nat)(w:World)(ht:f.tight)(hb0:f.Behind w pa oa):
  Calls prog 42 #[.agg (f.cells pa pc oa oc),.int .i64 10] w fun e w'=>e=.returned (.int .i64 (jF f))/\Below w.heap.size w w':=by
 have HL:=Hd (fun W (hbw:Below w.heap.size w W)=>Mq f pa oa pc oc W (hb0.below hbw) ht.q (fun p hp=>⟨(ht.small.pick p hp).1,ht.pick p hp⟩) ht.small.picks);obtain⟨z,hz⟩:∃z,z=jF f:=⟨_,rfl⟩
 rw[<-hz] at HL ⊢;clear hz;have HFB:=Hd (aP.new0 w (f.cells pa pc oa oc) 29);have hsz:Hid ((prog.info? 29).map (·.size)=some (f.cells pa pc oa oc).size):=aY f pa oa pc oc;generalize f.cells pa pc oa oc=cs at *;go_enter func42,ntmps42;go_wp2_with (refine wpList_load_row rfl 29 _ rfl w.heap.size rfl 29 cs (0,0) _ HFB.out.2 underlying29 rfl hsz.out ?_);refine(HL.out _ (aB w _)).mono ?_;rintro e w1 ⟨rfl,hb⟩;have HB:=Hd (aA (aB w _) hb);clear hb;go_wp2;go_ret;exact⟨rfl,HB.out⟩
theorem Pv(f:aE)(pa oa:Option Addr)(pc oc:Nat)(w:World)(ht:f.tight)(hb0:f.Behind w pa oa)(hins:f.ins ≠ []):
  Calls prog 42 #[.agg (f.cells pa pc oa oc),.int .i64 11] w fun e w'=>e=.returned (.int .i64 (iP f))/\Below w.heap.size w w':=by
 have HL:=Hd (fun W (hbw:Below w.heap.size w W)=>Fk f pa oa pc oc W (hb0.below hbw) hins (fun o ho=>⟨(ht.small.option o ho).1,(fL (ht.option o ho).1).1,(fL (ht.option o ho).1).2,(fL (ht.option o ho).2.1).1,(fL (ht.option o ho).2.1).2,(fL (ht.option o ho).2.2).1,(fL (ht.option o ho).2.2).2⟩) ht.small.options);obtain⟨z,hz⟩:∃z,z=iP f:=⟨_,rfl⟩
 rw[<-hz] at HL ⊢;clear hz;have HFB:=Hd (aP.new0 w (f.cells pa pc oa oc) 29);have hsz:Hid ((prog.info? 29).map (·.size)=some (f.cells pa pc oa oc).size):=aY f pa oa pc oc;generalize f.cells pa pc oa oc=cs at *;go_enter func42,ntmps42;go_wp2_with (refine wpList_load_row rfl 29 _ rfl w.heap.size rfl 29 cs (0,0) _ HFB.out.2 underlying29 rfl hsz.out ?_);refine(HL.out _ (aB w _)).mono ?_;rintro e w1 ⟨rfl,hb⟩;have HB:=Hd (aA (aB w _) hb);clear hb;go_wp2;go_ret;exact⟨rfl,HB.out⟩
theorem Pt(f:aE)(pa oa:Option Addr)(pc oc:Nat)(w:World):
  Calls prog 42 #[.agg (f.cells pa pc oa oc),.int .i64 12] w fun e w'=>e=.returned (.int .i64 (if f.choice<0 then 2 else 0))/\Below w.heap.size w w':=by
 obtain⟨key,stamp,cancelled,day,kind,ins,other,cur,target,fq,amt,fee,price,ratio,share,picks,os,choice⟩:=f;unfold aE.cells;dsimp only
 by_cases h:choice<0
 ·rw[if_pos h];go_enter func42,ntmps42;go_wp2;go_ret;exact⟨rfl,aB w _⟩
 ·rw[if_neg h];go_enter func42,ntmps42;go_wp2;go_ret;exact⟨rfl,aB w _⟩
end
section
open Go Go.RowKit Num
theorem Qn{n d:List UInt8}(hn:n.length<=13)(hd:d.length<=13):(lim false false n d≠0->lim false true n d=lim false false n d)/\(lim false false n d=0->lim false true n d=if 0<nE n d [49] [] then 2 else 0):=by
 rw[tO hn hd,Ue hn hd];cases Cu n d with
 |false=>simp
 |true =>
  by_cases h:nE n d [] []<0
  ·simp[h]
  ·simp[h]
theorem Sz(f:aE)(pa oa:Option Addr)(pc oc:Nat)(w:World)(ht:f.tight):
  Calls prog 42 #[.agg (f.cells pa pc oa oc),.int .i64 9] w fun e w'=>e=.returned (.int .i64 (lim false true f.share.n f.share.d))/\Below w.heap.size w w':=by
 obtain⟨l1,l2⟩:=fL ht.share;have HN:=Hd (fun W=>gD f.share.n f.share.d false W l1 l2);have HR:=Hd (fun W=>Fj W);have HC:=Hd (fun W=>rX f.share.n f.share.d [49] [] W (by omega) (by omega) (by simp) (by simp));obtain⟨e1,e2⟩:=Qn l1 l2;obtain⟨key,stamp,cancelled,day,kind,ins,other,cur,target,fq,amt,fee,price,ratio,⟨n,d⟩,picks,os,choice⟩:=f;dsimp only at *;obtain⟨res,hres⟩:∃res,res=lim false true n d:=⟨_,rfl⟩
 rw[<-hres] at e1 e2 ⊢;clear hres ht l1 l2;generalize lim false false n d=z at *;generalize nE n d [49] []=s at *;unfold aE.cells;dsimp only;have HX:=Hd (aP.new0 w #[.string ⟨key.toArray⟩,.int .i64 stamp,.bool cancelled,.int .i64 day,.int .i64 kind,.string ⟨ins.toArray⟩,.string ⟨other.toArray⟩,.string ⟨cur.toArray⟩,.string ⟨target.toArray⟩,.string ⟨fq.toArray⟩,.string ⟨amt.toArray⟩,.string ⟨fee.toArray⟩,.string ⟨price.n.toArray⟩,.string ⟨price.d.toArray⟩,.string ⟨ratio.n.toArray⟩,.string ⟨ratio.d.toArray⟩,.string ⟨n.toArray⟩,.string ⟨d.toArray⟩,.slice pa picks.length pc,.slice oa os.length oc,.int .i64 choice] 29)
 by_cases hz:z=0
 ·have hr:=Hd (e2 hz);clear e1 e2;subst hz;go_enter func42,ntmps42;go_wp2_with fail;refine(HN.out _).mono ?_;rintro e w1 ⟨rfl,hb⟩;have HX1:=Hd (HX.out.below hb);have HB1:=Hd (aA (aB w _) hb);have k16:=HX1.out.cell 16;have k17:=HX1.out.cell 17;have HR2:Hid (∀k,Calls prog 102 #[.int .i64 1,.int .i64 1] (w1.drewN k) fun e w'=>e=.returned (.agg #[.string ⟨([49]:List UInt8).toArray⟩,.string ⟨#[]⟩])/\Below w1.heap.size w1 w'):=fun k =>
   (HR.out _).mono fun e w' ⟨h1,h2⟩=>⟨h1,(aD (Br _ _) k).trans h2⟩
  clear hb HX;go_wp2_with fail;go_region_held3 (fun W=>W.cell? ⟨w.heap.size,16,none⟩=some (.string ⟨n.toArray⟩)/\W.cell? ⟨w.heap.size,17,none⟩=some (.string ⟨d.toArray⟩)) (first|exact⟨k16,k17⟩|go_keep)
   (first|(go_at_call 102;refine(HR2.out 1).mono ?_;rintro e w5 ⟨rfl,hb5⟩;have HX5:=Hd (HX1.out.below hb5);have k16:=HX5.out.cell 16;have k17:=HX5.out.cell 17;have HB5:=Hd (aA HB1.out hb5);clear hb5)|(go_at_call 101;refine(HC.out _).mono ?_;rintro e w6 ⟨rfl,hb6⟩;have k16:=(HX5.out.below hb6).cell 16;have k17:=(HX5.out.below hb6).cell 17;have HB6:=Hd (aA HB5.out hb6);clear hb6))
  by_cases hs:0<s
  ·have hr2:Hid (res=2):=by have h:=hr.out;rw[if_pos hs] at h;exact h
   go_wp2;go_ret;exact⟨by rw[hr2.out];rfl,HB6.out⟩
  ·have hr2:Hid (res=0):=by have h:=hr.out;rw[if_neg hs] at h;exact h
   go_wp2;go_ret;exact⟨by rw[hr2.out];rfl,HB6.out⟩
 ·have hr:=Hd (e1 hz);have hzb:(z != 0)=true:=by simpa using hz
  clear e1 e2 hz;go_enter func42,ntmps42;go_wp2_with fail;refine(HN.out _).mono ?_;rintro e w1 ⟨rfl,hb⟩;have HB1:=Hd (aA (aB w _) hb);clear hb;go_wp2;go_ret;exact⟨by rw[hr.out];rfl,HB1.out⟩
end
section
open Go.RowKit Num
def dN(f:aE)(i:Nat):Int :=
 if i=0 then fA f.ins else if i=1 then gM f (decide (f.kind=7∨f.kind=16)) else if i=2 then(if fV f.cur=true then 0 else 12) else if i=3 then fA f.target
 else if i=4 then lim true false f.q [] else if i=5 then lim (decide (¬ (f.kind=3∨f.kind=4))) false f.amt [] else if i=6 then lim false false f.fee []
 else if i=7 then lim (decide (f.kind=5∨f.kind=13)) false f.price.n f.price.d else if i=8 then lim true false f.ratio.n f.ratio.d else if i=9 then lim false true f.share.n f.share.d
 else if i=10 then jF f else if i=11 then iP f else if f.choice<0 then 2 else 0
theorem xZ(f:aE)(pa oa:Option Addr)(pc oc:Nat)(i:Nat)(hi:i<13)(w:World)(ht:f.tight)(hb:f.Behind w pa oa)(hins:i=11->f.ins ≠ []):
  Calls prog 42 #[.agg (f.cells pa pc oa oc),.int .i64 (i:Int)] w fun e w'=>e=.returned (.int .i64 (dN f i))/\Below w.heap.size w w':=by
 match i,hi with
 |0,_=>exact Ti f pa oa pc oc w ht
 |1,_=>exact Th f pa oa pc oc w ht
 |2,_=>exact Tg f pa oa pc oc w ht
 |3,_=>exact Tf f pa oa pc oc w ht
 |4,_=>exact Te f pa oa pc oc w ht
 |5,_=>exact Td f pa oa pc oc w ht
 |6,_=>exact Tc f pa oa pc oc w ht
 |7,_=>exact Tb f pa oa pc oc w ht
 |8,_=>exact Ta f pa oa pc oc w ht
 |9,_=>exact Sz f pa oa pc oc w ht
 |10,_=>exact Pw f pa oa pc oc w ht hb
 |11,_=>exact Pv f pa oa pc oc w ht hb (hins rfl)
 |12,_=>exact Pt f pa oa pc oc w
theorem Kc{f:aE}{p:Int×bH}(hf:aX.find? (fun q=>q.1==f.kind)=some p){i:Nat}(hi:i<13)(hc:p.2.has.getD i false=true):dN f i=bT f p.2 i:=by
 rcases jV f.kind with h|h|h|h|h|h|h|h|h|h|h|h|h|h|h|h|h|h|⟨h1,h2,h3,h4,h5,h6,h7,h8,h9,h10,h11,h12,h13,h14,h15,h16,h17,h18⟩
 all_goals first
  |(
   rw[h] at hf;have hf2:some _=some p:=hf;injection hf2 with hf2
   subst hf2
   match i,hi with
   |0,_=>first|(exfalso;revert hc;decide)|(unfold dN bT aE.num;first|(simp;done)|simp[h])
   |1,_=>first|(exfalso;revert hc;decide)|(unfold dN bT aE.num;first|(simp;done)|simp[h])
   |2,_=>first|(exfalso;revert hc;decide)|(unfold dN bT aE.num;first|(simp;done)|simp[h])
   |3,_=>first|(exfalso;revert hc;decide)|(unfold dN bT aE.num;first|(simp;done)|simp[h])
   |4,_=>first|(exfalso;revert hc;decide)|(unfold dN bT aE.num;first|(simp;done)|simp[h])
   |5,_=>first|(exfalso;revert hc;decide)|(unfold dN bT aE.num;first|(simp;done)|simp[h])
   |6,_=>first|(exfalso;revert hc;decide)|(unfold dN bT aE.num;first|(simp;done)|simp[h])
   |7,_=>first|(exfalso;revert hc;decide)|(unfold dN bT aE.num;first|(simp;done)|simp[h])
   |8,_=>first|(exfalso;revert hc;decide)|(unfold dN bT aE.num;first|(simp;done)|simp[h])
   |9,_=>first|(exfalso;revert hc;decide)|(unfold dN bT aE.num;first|(simp;done)|simp[h])
   |10,_=>first|(exfalso;revert hc;decide)|(unfold dN bT aE.num;first|(simp;done)|simp[h])
   |11,_=>first|(exfalso;revert hc;decide)|(unfold dN bT aE.num;first|(simp;done)|simp[h])
   |12,_=>first|(exfalso;revert hc;decide)|(unfold dN bT aE.num;first|(simp;done)|simp[h]))
  |(
   exfalso;rcases Cw f.kind with⟨e,_⟩|⟨q,e,hne,_⟩
   ·rw[e] at hf;cases hf
   ·apply hne;unfold tE;simp only[beq_eq_false_iff_ne,ne_eq] at *;simp[*])
end
section
open Go Go.RowKit Num
theorem We(d:Int)(w:World):Calls prog 39 #[.int .i64 d] w fun e w'=>e=.returned (.int .i64 (if d < -25567∨84005<d then 13 else 0))/\w'=w:=by
 rcases(show d < -25567∨(¬ d < -25567/\84005<d)∨(¬ d < -25567/\¬ 84005<d) by omega) with h1|⟨h1,h2⟩|⟨h1,h2⟩
 ·rw[if_pos (.inl h1)];go_enter func39,ntmps39;go_wp2;go_ret;exact⟨rfl,rfl⟩
 ·rw[if_pos (.inr h2)];go_enter func39,ntmps39;go_wp2;go_ret;exact⟨rfl,rfl⟩
 ·rw[if_neg (by omega)];go_enter func39,ntmps39;go_wp2;go_ret;exact⟨rfl,rfl⟩
theorem Ic(f:aE)(k:bH){i:Nat}(hi:i<13):bS f k ((List.range 13).drop i)=if bX f k i≠0 then bX f k i else bS f k ((List.range 13).drop (i+1)):=by
 rw[List.drop_eq_getElem_cons (by simpa using hi),List.getElem_range];rfl
end
end Go.Proofs.YthjekgfoidmagaaGreatDoor
