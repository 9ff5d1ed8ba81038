/- ROpts -/
import Derived.Test.YtejkibnaidiklaaGreatDoorJRZero
set_option maxHeartbeats 16000000
set_option maxRecDepth 100000
namespace Go.Proofs.YtejkibnaidiklaaGreatDoor
open Go.Proofs.Tryz
open Go Go.RowKit Num
theorem Hy{n d:List UInt8}(h:Cu n d=true):nE n d [] []=0↔(n.isEmpty&&d.isEmpty)=true:=by
 rw[<-vD];have e1:pW n d=bG (if lU d<0 then -(val n) else val n) 0:=by
  unfold pW iY iG;have e:val ([]:List UInt8)=0:=rfl;rw[uA,Int.mul_one,Int.mul_one,e,Int.zero_mul,Int.sub_zero,uT (qQ d)]
 rw[e1,(Da _).2.1];constructor
 ·intro hz;have hv:val n=0:=by split at hz <;> omega
  unfold Cu at h;rw[hv,Cj] at h;have hr:fT 0 (lU d)=1:=by
   have hd:=qQ d;unfold fT;have hg:(gE 0 (lU d):Int)=(lU d).natAbs:=by unfold gE;simp
   rw[hg];split
   ·rw[show ((lU d).natAbs:Int) = -(lU d) by omega];exact Int.fdiv_self (by omega)
   ·rw[show ((lU d).natAbs:Int)=lU d by omega];exact Int.fdiv_self (by omega)
  rw[hr,oO,nA] at h;simp at h;simp[h]
 ·intro hn;simp at hn;obtain⟨rfl,rfl⟩:=hn;have e:val ([]:List UInt8)=0:=rfl;rw[e];split <;> rfl
theorem Uf{n d:List UInt8}(hn:n.length<=13)(hd:d.length<=13){p:Bool}(h:lim p false n d=0):Cu n d=true:=by
 rw[tO hn hd] at h;cases hf:Cu n d with
 |true=>rfl
 |false=>rw[hf] at h;simp at h
theorem Qc{ins:List UInt8}{os:List eJ}{k:Nat}{x:eJ}(h:os[k]?=some x):nX ins (os.drop k)=if sG ins x≠0 then sG ins x else nX ins (os.drop (k+1)):=by
 have hk:=(Li.1 h).1;have hp:=(Li.1 h).2;rw[List.drop_eq_getElem_cons hk,hp];rfl
theorem aDk(a b c:bZ):dA [a,b,c]=if lim false false a.n a.d≠0 then lim false false a.n a.d else if lim false false b.n b.d≠0 then lim false false b.n b.d else if lim false false c.n c.d≠0 then lim false false c.n c.d else 0:=rfl
theorem Fk(f:aE)(pa oa:Option Addr)(pc oc:Nat)(w:World)(hb:f.Behind w pa oa)(hins:f.ins ≠ [])(hp13:∀o,o∈f.options->o.other.length<=1000/\o.ratio.n.length<=13/\o.ratio.d.length<=13/\o.price.n.length<=13/\o.price.d.length<=13/\o.value.n.length<=13/\o.value.d.length<=13)(hpm:f.options.length<=1000):
  Calls prog 232 #[.agg (f.cells pa pc oa oc)] w fun e w'=>e=.returned (.int .i64 (iP f))/\Below w.heap.size w w':=by
 have HSR:=Hd hb.2;obtain⟨res,hres⟩:∃res,res=iP f:=⟨_,rfl⟩
 rw[<-hres];unfold iP at hres;obtain⟨key,stamp,cancelled,day,kind,ins,other,cur,target,fq,amt,fee,price,ratio,share,picks,os,choice⟩:=f;clear hb;have HX:=Hd (aP.new0 w ((aE.mk key stamp cancelled day kind ins other cur target fq amt fee price ratio share picks os choice).cells pa pc oa oc) 59);have HB:=Hd (aB w (.cells ((aE.mk key stamp cancelled day kind ins other cur target fq amt fee price ratio share picks os choice).cells pa pc oa oc) 59));unfold aE.cells at HX HB ⊢;dsimp only at *;have k19:=HX.out.cell 19
 by_cases h0:os.length=0
 ·rw[if_pos h0] at hres;subst hres;rw[h0] at k19 ⊢;clear HSR hp13 HX hins;go_enter func232,ntmps232;go_wp2;go_ret;exact⟨rfl,by rw[h0] at HB;exact HB.out⟩
 ·rw[if_neg h0] at hres;have h0b:((os.length:Int)==0)=false:=by simpa using h0
  by_cases hbig:8<os.length
  ·rw[if_pos hbig] at hres;subst hres;clear HSR hp13 HX hins;go_enter func232,ntmps232;go_wp2;go_ret;exact⟨rfl,HB.out⟩
  ·rw[if_neg hbig] at hres;have HRES:=Hd hres;have HP13:=Hd hp13;have HINS:=Hd hins;clear hres hp13 hins;obtain⟨W0,hW0⟩:∃W0,W0=w.alloc (.cells #[.string ⟨key.toArray⟩,.int .i64 stamp,.bool cancelled,.int .i64 day,.int .i64 kind,.string ⟨ins.toArray⟩,.string ⟨other.toArray⟩,.string ⟨cur.toArray⟩,.string ⟨target.toArray⟩,.string ⟨fq.toArray⟩,.string ⟨amt.toArray⟩,.string ⟨fee.toArray⟩,.string ⟨price.n.toArray⟩,.string ⟨price.d.toArray⟩,.string ⟨ratio.n.toArray⟩,.string ⟨ratio.d.toArray⟩,.string ⟨share.n.toArray⟩,.string ⟨share.d.toArray⟩,.slice pa picks.length pc,.slice oa os.length oc,.int .i64 choice] 59):=⟨_,rfl⟩
   rw[<-hW0] at HX HB k19;have HSR0:Hid (gJ W0 oa 7 (os.map eJ.cells)):=HSR.out.below (by rw[hW0];exact aB _ _);clear HSR;go_enter func232,ntmps232;go_wp2_with fail;rw[<-hW0];clear hW0;go_loopw [3] (fun iv W=>∃k:Nat,k<=os.length/\iv=.int .i64 (k:Int)/\Hid (res=nX ins (os.drop k))/\Hid (Below W0.heap.size W0 W)) (fun iv _=>os.length-(intOf iv).toNat)
   case atStart=>exact⟨0,Nat.zero_le _,rfl,HRES,Br _ _⟩
   case round =>
    obtain⟨k,hk,rfl,HP,HW⟩:=hrel;have c19:=(HX.out.below HW.out).cell 19
    by_cases hlt:k<os.length
    ·obtain⟨x,hx⟩:∃x,os[k]?=some x:=⟨_,Lg hlt⟩
     have HST:=Hd (HP.out.trans (Qc hx));obtain⟨l0,l1,l2,l3,l4,l5,l6⟩:=HP13.out x (List.mem_of_getElem? hx);obtain⟨b,off,rfl,hbl,hcc⟩:=HSR0.out.addr (k:=k) (cs:=x.cells) (by rw[List.getElem?_map,hx];rfl);have HC:Hid (∀j v,x.cells.toArray.toList[j]?=some v->wr.cell? ⟨b,off+k*7+j,none⟩=some v):=fun j v hv=>(HW.out.cell (p:=⟨b,off+k*7+j,none⟩) hbl).trans (hcc j v (by simpa using hv))
     have HSZ:Hid ((prog.info? 197).map (·.size)=some x.cells.toArray.size):=Az;have HONE:=Hd (tJ x);have HS7:Hid ((#[.string ⟨#[]⟩,.string ⟨#[]⟩,.string ⟨#[]⟩,.string ⟨#[]⟩,.string ⟨#[]⟩,.string ⟨#[]⟩,.string ⟨#[]⟩]:Array Value).size=x.cells.toArray.size):=rfl;have HNEW:=Hd (heap_alloc_new wr (.cells #[.string ⟨#[]⟩,.string ⟨#[]⟩,.string ⟨#[]⟩,.string ⟨#[]⟩,.string ⟨#[]⟩,.string ⟨#[]⟩,.string ⟨#[]⟩] 197));have KO:Hid (aP ((wr.alloc (.cells #[.string ⟨#[]⟩,.string ⟨#[]⟩,.string ⟨#[]⟩,.string ⟨#[]⟩,.string ⟨#[]⟩,.string ⟨#[]⟩,.string ⟨#[]⟩] 197)).setRow wr.heap.size x.cells.toArray) wr.heap.size x.cells.toArray 197):=⟨by simp[World.setRow],setRow_heap _ _ _ _ _ _ (heap_alloc_new wr (.cells #[.string ⟨#[]⟩,.string ⟨#[]⟩,.string ⟨#[]⟩,.string ⟨#[]⟩,.string ⟨#[]⟩,.string ⟨#[]⟩,.string ⟨#[]⟩] 197))⟩
     have HBo:=Hd (aA HW.out (below_setRow (aB wr (.cells #[.string ⟨#[]⟩,.string ⟨#[]⟩,.string ⟨#[]⟩,.string ⟨#[]⟩,.string ⟨#[]⟩,.string ⟨#[]⟩,.string ⟨#[]⟩] 197)) (Nl _) x.cells.toArray));have HXo:=Hd (HX.out.below HBo.out);have e5:=HXo.out.cell 5;have q0:=(KO.out.cell 0).trans (show _=some (.string ⟨x.other.toArray⟩) from rfl);have q1:=(KO.out.cell 1).trans (show _=some (.string ⟨x.ratio.n.toArray⟩) from rfl);have q2:=(KO.out.cell 2).trans (show _=some (.string ⟨x.ratio.d.toArray⟩) from rfl);have q3:=(KO.out.cell 3).trans (show _=some (.string ⟨x.price.n.toArray⟩) from rfl);have q4:=(KO.out.cell 4).trans (show _=some (.string ⟨x.price.d.toArray⟩) from rfl);have q5:=(KO.out.cell 5).trans (show _=some (.string ⟨x.value.n.toArray⟩) from rfl);have q6:=(KO.out.cell 6).trans (show _=some (.string ⟨x.value.d.toArray⟩) from rfl);have HQ0:=Hd (show x.cells.toArray[0]?=some (.string ⟨x.other.toArray⟩) from rfl);have HQ1:=Hd (show x.cells.toArray[1]?=some (.string ⟨x.ratio.n.toArray⟩) from rfl);have HQ2:=Hd (show x.cells.toArray[2]?=some (.string ⟨x.ratio.d.toArray⟩) from rfl);have HQ3:=Hd (show x.cells.toArray[3]?=some (.string ⟨x.price.n.toArray⟩) from rfl);have HQ4:=Hd (show x.cells.toArray[4]?=some (.string ⟨x.price.d.toArray⟩) from rfl);have HQ5:=Hd (show x.cells.toArray[5]?=some (.string ⟨x.value.n.toArray⟩) from rfl);have HQ6:=Hd (show x.cells.toArray[6]?=some (.string ⟨x.value.d.toArray⟩) from rfl);have HNM:=Hd (fun W=>mL x.other W (by omega));have HN1:=Hd (fun W=>gD x.ratio.n x.ratio.d false W l1 l2);have HN2:=Hd (fun W=>gD x.price.n x.price.d false W l3 l4);have HN3:=Hd (fun W=>gD x.value.n x.value.d false W l5 l6);have HG1:=Hd (fun W=>sU x.ratio.n x.ratio.d W (by omega) (by omega));have HG3:=Hd (fun W=>sU x.value.n x.value.d W (by omega) (by omega));have HNO1:=Hd (fun h=>Hy (Uf (p:=false) l1 l2 h));have HNO3:=Hd (fun h=>Hy (Uf (p:=false) l5 l6 h));clear hcc HP l0 l1 l2 l3 l4 l5 l6 hx;unfold sG iO bZ.none at HST;rw[aDk] at HST;generalize x.cells.toArray=xc at *;obtain⟨oo,⟨rn,rd⟩,⟨pn,pd⟩,⟨vn,vd⟩⟩:=x;dsimp only at *;generalize lim false false rn rd=z1 at *;generalize lim false false pn pd=z2 at *;generalize lim false false vn vd=z3 at *;generalize nE rn rd [] []=s1 at *;generalize nE vn vd [] []=s3 at *;generalize(rn.isEmpty&&rd.isEmpty)=n1 at *;generalize(vn.isEmpty&&vd.isEmpty)=n3 at *;cases hoe:oo.isEmpty with
     |true =>
      have hoi:(oo==ins)=false:=by
       have:oo=[]:=by simpa using hoe
       rw[this];have:=HINS.out;cases ins with|nil=>exact absurd rfl this|cons _ _=>rfl
      go_wp2_with (first|(refine aM rfl 197 _ rfl b (off+k*7) rfl xc _ HC.out underlying197 rfl HSZ.out ?_)|(refine wpList_store_row rfl 197 _ _ rfl wr.heap.size xc rfl rfl 197 #[.string ⟨#[]⟩,.string ⟨#[]⟩,.string ⟨#[]⟩,.string ⟨#[]⟩,.string ⟨#[]⟩,.string ⟨#[]⟩,.string ⟨#[]⟩] HNEW.out HSZ.out HS7.out HONE.out ?_));refine(HN1.out _).mono ?_;rintro e w11 ⟨rfl,hb⟩;have KO1:=Hd (KO.out.below hb);have HBo1:=Hd (aA HBo.out hb);have HXo1:=Hd (HXo.out.below hb);clear hb e5 q0 q1 q2 q3 q4 q5 q6 c19;have c19:=HXo1.out.cell 19;have e5:=HXo1.out.cell 5;have q0:=(KO1.out.cell 0).trans HQ0.out;have q1:=(KO1.out.cell 1).trans HQ1.out;have q2:=(KO1.out.cell 2).trans HQ2.out;have q3:=(KO1.out.cell 3).trans HQ3.out;have q4:=(KO1.out.cell 4).trans HQ4.out;have q5:=(KO1.out.cell 5).trans HQ5.out;have q6:=(KO1.out.cell 6).trans HQ6.out
      by_cases hz1:z1=0
      ·have hs1:=HNO1.out hz1;subst hz1;go_wp2_with fail;refine(HN2.out _).mono ?_;rintro e w12 ⟨rfl,hb⟩;have KO2:=Hd (KO1.out.below hb);have HBo2:=Hd (aA HBo1.out hb);have HXo2:=Hd (HXo1.out.below hb);clear hb e5 q0 q1 q2 q3 q4 q5 q6 c19;have c19:=HXo2.out.cell 19;have e5:=HXo2.out.cell 5;have q0:=(KO2.out.cell 0).trans HQ0.out;have q1:=(KO2.out.cell 1).trans HQ1.out;have q2:=(KO2.out.cell 2).trans HQ2.out;have q3:=(KO2.out.cell 3).trans HQ3.out;have q4:=(KO2.out.cell 4).trans HQ4.out;have q5:=(KO2.out.cell 5).trans HQ5.out;have q6:=(KO2.out.cell 6).trans HQ6.out
       by_cases hz2:z2=0
       ·subst hz2;go_wp2_with fail;refine(HN3.out _).mono ?_;rintro e w13 ⟨rfl,hb⟩;have KO3:=Hd (KO2.out.below hb);have HBo3:=Hd (aA HBo2.out hb);have HXo3:=Hd (HXo2.out.below hb);clear hb e5 q0 q1 q2 q3 q4 q5 q6 c19;have c19:=HXo3.out.cell 19;have e5:=HXo3.out.cell 5;have q0:=(KO3.out.cell 0).trans HQ0.out;have q1:=(KO3.out.cell 1).trans HQ1.out;have q2:=(KO3.out.cell 2).trans HQ2.out;have q3:=(KO3.out.cell 3).trans HQ3.out;have q4:=(KO3.out.cell 4).trans HQ4.out;have q5:=(KO3.out.cell 5).trans HQ5.out;have q6:=(KO3.out.cell 6).trans HQ6.out
        by_cases hz3:z3=0
        ·have hs3:=HNO3.out hz3;subst hz3;go_wp2_with fail;refine(HG1.out _).mono ?_;rintro e w14 ⟨rfl,hb⟩;have KO4:=Hd (KO3.out.below hb);have HBo4:=Hd (aA HBo3.out hb);have HXo4:=Hd (HXo3.out.below hb);clear hb e5 q0 q1 q2 q3 q4 q5 q6 c19;have c19:=HXo4.out.cell 19;have e5:=HXo4.out.cell 5;have q0:=(KO4.out.cell 0).trans HQ0.out;have q1:=(KO4.out.cell 1).trans HQ1.out;have q2:=(KO4.out.cell 2).trans HQ2.out;have q3:=(KO4.out.cell 3).trans HQ3.out;have q4:=(KO4.out.cell 4).trans HQ4.out;have q5:=(KO4.out.cell 5).trans HQ5.out;have q6:=(KO4.out.cell 6).trans HQ6.out;cases hn1:n1 with
         |true =>
          rw[hn1] at hs1;have hs1':s1=0:=hs1.2 rfl;subst hs1';clear HNO1 HNO3 hs1;go_wp2_with fail;refine(HG3.out _).mono ?_;rintro e w15 ⟨rfl,hb⟩;have KO5:=Hd (KO4.out.below hb);have HBo5:=Hd (aA HBo4.out hb);have HXo5:=Hd (HXo4.out.below hb);clear hb e5 q0 q1 q2 q3 q4 q5 q6 c19;have c19:=HXo5.out.cell 19;have e5:=HXo5.out.cell 5;have q0:=(KO5.out.cell 0).trans HQ0.out;have q1:=(KO5.out.cell 1).trans HQ1.out;have q2:=(KO5.out.cell 2).trans HQ2.out;have q3:=(KO5.out.cell 3).trans HQ3.out;have q4:=(KO5.out.cell 4).trans HQ4.out;have q5:=(KO5.out.cell 5).trans HQ5.out;have q6:=(KO5.out.cell 6).trans HQ6.out;cases hn3:n3 with
          |true =>
           have hr:Hid (res=nX ins (os.drop (k+1))):=by have h:=HST.out;simp[hoe,hoi,hn1,hn3] at h;exact h
           rw[hn3] at hs3;have hs3':s3=0:=hs3.2 rfl;clear HST hs3;subst hs3';go_wp2;go_roundw
           case rel=>exact⟨k+1,by omega,by go_num,hr,HBo5⟩
           case measure=>simp[intOf];omega
          |false =>
           have hr:Hid (res=2):=by have h:=HST.out;simp[hoe,hoi,hn1,hn3] at h;exact h
           rw[hn3] at hs3;have hs3':(s3 != 0)=true:=by simpa using fun h=>Bool.noConfusion (hs3.1 h)
           clear HST hs3;go_wp2;go_ret;exact⟨by rw[hr.out];rfl,aA HB.out HBo5.out⟩
         |false =>
          rw[hn1] at hs1;have hs1':(s1==0)=false:=by simpa using fun h=>Bool.noConfusion (hs1.1 h)
          have hr:Hid (res=2):=by have h:=HST.out;simp[hoe,hoi,hn1] at h;exact h
          clear HST hs1 hs3 HNO1 HNO3;go_wp2;go_ret;exact⟨by rw[hr.out];rfl,aA HB.out HBo4.out⟩
        ·have hr:Hid (res=z3):=by have h:=HST.out;simp[hoe,hoi,hz3] at h;exact h
         have hzb:(z3 != 0)=true:=by simpa using hz3
         clear HST HNO1 HNO3 hz3;go_wp2;go_ret;exact⟨by rw[hr.out];rfl,aA HB.out HBo3.out⟩
       ·have hr:Hid (res=z2):=by have h:=HST.out;simp[hoe,hoi,hz2] at h;exact h
        have hzb:(z2 != 0)=true:=by simpa using hz2
        clear HST HNO1 HNO3 hz2;go_wp2;go_ret;exact⟨by rw[hr.out];rfl,aA HB.out HBo2.out⟩
      ·have hr:Hid (res=z1):=by have h:=HST.out;simp[hoe,hoi,hz1] at h;exact h
       have hzb:(z1 != 0)=true:=by simpa using hz1
       clear HST HNO1 HNO3 hz1;go_wp2;go_ret;exact⟨by rw[hr.out];rfl,aA HB.out HBo1.out⟩
     |false =>
      cases hnm:dC oo with
      |false =>
       have hr:Hid (res=23):=by have h:=HST.out;simp[hoe,hnm] at h;exact h
       rw[hnm] at HNM;clear HST HNO1 HNO3;go_wp2_with (first|(refine aM rfl 197 _ rfl b (off+k*7) rfl xc _ HC.out underlying197 rfl HSZ.out ?_)|(refine wpList_store_row rfl 197 _ _ rfl wr.heap.size xc rfl rfl 197 #[.string ⟨#[]⟩,.string ⟨#[]⟩,.string ⟨#[]⟩,.string ⟨#[]⟩,.string ⟨#[]⟩,.string ⟨#[]⟩,.string ⟨#[]⟩] HNEW.out HSZ.out HS7.out HONE.out ?_));refine(HNM.out _).mono ?_;rintro e w9 ⟨rfl,rfl⟩;go_wp2;go_ret;exact⟨by rw[hr.out];rfl,aA HB.out HBo.out⟩
      |true =>
       rw[hnm] at HNM;cases hoi:(oo==ins) with
       |true =>
        have hr:Hid (res=18):=by have h:=HST.out;simp[hoe,hnm,hoi] at h;exact h
        clear HST HNO1 HNO3;go_wp2_with (first|(refine aM rfl 197 _ rfl b (off+k*7) rfl xc _ HC.out underlying197 rfl HSZ.out ?_)|(refine wpList_store_row rfl 197 _ _ rfl wr.heap.size xc rfl rfl 197 #[.string ⟨#[]⟩,.string ⟨#[]⟩,.string ⟨#[]⟩,.string ⟨#[]⟩,.string ⟨#[]⟩,.string ⟨#[]⟩,.string ⟨#[]⟩] HNEW.out HSZ.out HS7.out HONE.out ?_));refine(HNM.out _).mono ?_;rintro e w9 ⟨rfl,rfl⟩;go_wp2;go_ret;exact⟨by rw[hr.out];rfl,aA HB.out HBo.out⟩
       |false =>
        go_wp2_with (first|(refine aM rfl 197 _ rfl b (off+k*7) rfl xc _ HC.out underlying197 rfl HSZ.out ?_)|(refine wpList_store_row rfl 197 _ _ rfl wr.heap.size xc rfl rfl 197 #[.string ⟨#[]⟩,.string ⟨#[]⟩,.string ⟨#[]⟩,.string ⟨#[]⟩,.string ⟨#[]⟩,.string ⟨#[]⟩,.string ⟨#[]⟩] HNEW.out HSZ.out HS7.out HONE.out ?_));refine(HNM.out _).mono ?_;rintro e w9 ⟨rfl,rfl⟩;go_wp2_with fail;refine(HN1.out _).mono ?_;rintro e w11 ⟨rfl,hb⟩;have KO1:=Hd (KO.out.below hb);have HBo1:=Hd (aA HBo.out hb);have HXo1:=Hd (HXo.out.below hb);clear hb e5 q0 q1 q2 q3 q4 q5 q6 c19;have c19:=HXo1.out.cell 19;have e5:=HXo1.out.cell 5;have q0:=(KO1.out.cell 0).trans HQ0.out;have q1:=(KO1.out.cell 1).trans HQ1.out;have q2:=(KO1.out.cell 2).trans HQ2.out;have q3:=(KO1.out.cell 3).trans HQ3.out;have q4:=(KO1.out.cell 4).trans HQ4.out;have q5:=(KO1.out.cell 5).trans HQ5.out;have q6:=(KO1.out.cell 6).trans HQ6.out
        by_cases hz1:z1=0
        ·have hs1:=HNO1.out hz1;subst hz1;go_wp2_with fail;refine(HN2.out _).mono ?_;rintro e w12 ⟨rfl,hb⟩;have KO2:=Hd (KO1.out.below hb);have HBo2:=Hd (aA HBo1.out hb);have HXo2:=Hd (HXo1.out.below hb);clear hb e5 q0 q1 q2 q3 q4 q5 q6 c19;have c19:=HXo2.out.cell 19;have e5:=HXo2.out.cell 5;have q0:=(KO2.out.cell 0).trans HQ0.out;have q1:=(KO2.out.cell 1).trans HQ1.out;have q2:=(KO2.out.cell 2).trans HQ2.out;have q3:=(KO2.out.cell 3).trans HQ3.out;have q4:=(KO2.out.cell 4).trans HQ4.out;have q5:=(KO2.out.cell 5).trans HQ5.out;have q6:=(KO2.out.cell 6).trans HQ6.out
         by_cases hz2:z2=0
         ·subst hz2;go_wp2_with fail;refine(HN3.out _).mono ?_;rintro e w13 ⟨rfl,hb⟩;have KO3:=Hd (KO2.out.below hb);have HBo3:=Hd (aA HBo2.out hb);have HXo3:=Hd (HXo2.out.below hb);clear hb e5 q0 q1 q2 q3 q4 q5 q6 c19;have c19:=HXo3.out.cell 19;have e5:=HXo3.out.cell 5;have q0:=(KO3.out.cell 0).trans HQ0.out;have q1:=(KO3.out.cell 1).trans HQ1.out;have q2:=(KO3.out.cell 2).trans HQ2.out;have q3:=(KO3.out.cell 3).trans HQ3.out;have q4:=(KO3.out.cell 4).trans HQ4.out;have q5:=(KO3.out.cell 5).trans HQ5.out;have q6:=(KO3.out.cell 6).trans HQ6.out
          by_cases hz3:z3=0
          ·have hs3:=HNO3.out hz3;subst hz3;go_wp2_with fail;refine(HG1.out _).mono ?_;rintro e w14 ⟨rfl,hb⟩;have KO4:=Hd (KO3.out.below hb);have HBo4:=Hd (aA HBo3.out hb);have HXo4:=Hd (HXo3.out.below hb);clear hb e5 q0 q1 q2 q3 q4 q5 q6 c19;have c19:=HXo4.out.cell 19;have e5:=HXo4.out.cell 5;have q0:=(KO4.out.cell 0).trans HQ0.out;have q1:=(KO4.out.cell 1).trans HQ1.out;have q2:=(KO4.out.cell 2).trans HQ2.out;have q3:=(KO4.out.cell 3).trans HQ3.out;have q4:=(KO4.out.cell 4).trans HQ4.out;have q5:=(KO4.out.cell 5).trans HQ5.out;have q6:=(KO4.out.cell 6).trans HQ6.out;cases hn1:n1 with
           |true =>
            rw[hn1] at hs1;have hs1':s1=0:=hs1.2 rfl;subst hs1';have hr:Hid (res=2):=by have h:=HST.out;simp[hoe,hnm,hoi,hn1] at h;exact h
            clear HST hs1 hs3 HNO1 HNO3;go_wp2;go_ret;exact⟨by rw[hr.out];rfl,aA HB.out HBo4.out⟩
           |false =>
            rw[hn1] at hs1;have hs1':(s1==0)=false:=by simpa using fun h=>Bool.noConfusion (hs1.1 h)
            have hr:Hid (res=nX ins (os.drop (k+1))):=by have h:=HST.out;simp[hoe,hnm,hoi,hn1] at h;exact h
            clear HST hs1 hs3 HNO1 HNO3;go_wp2;go_roundw
            case rel=>exact⟨k+1,by omega,by go_num,hr,HBo4⟩
            case measure=>simp[intOf];omega
          ·have hr:Hid (res=z3):=by have h:=HST.out;simp[hoe,hnm,hoi,hz3] at h;exact h
           have hzb:(z3 != 0)=true:=by simpa using hz3
           clear HST HNO1 HNO3 hz3;go_wp2;go_ret;exact⟨by rw[hr.out];rfl,aA HB.out HBo3.out⟩
         ·have hr:Hid (res=z2):=by have h:=HST.out;simp[hoe,hnm,hoi,hz2] at h;exact h
          have hzb:(z2 != 0)=true:=by simpa using hz2
          clear HST HNO1 HNO3 hz2;go_wp2;go_ret;exact⟨by rw[hr.out];rfl,aA HB.out HBo2.out⟩
        ·have hr:Hid (res=z1):=by have h:=HST.out;simp[hoe,hnm,hoi,hz1] at h;exact h
         have hzb:(z1 != 0)=true:=by simpa using hz1
         clear HST HNO1 HNO3 hz1;go_wp2;go_ret;exact⟨by rw[hr.out];rfl,aA HB.out HBo1.out⟩
    ·obtain rfl:k=os.length:=by omega
     have hr:Hid (res=0):=by have h:=HP.out;rw[List.drop_of_length_le (Nl _)] at h;exact h
     clear HP;go_wp2;go_ret;exact⟨by rw[hr.out];rfl,aA HB.out HW.out⟩
end Go.Proofs.YtejkibnaidiklaaGreatDoor
