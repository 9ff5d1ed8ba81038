/- RCheck RCheck2 RCompare -/
import Derived.Test.YthjekgfoidmagaaGreatDoorURField
set_option maxHeartbeats 16000000
set_option maxRecDepth 100000
namespace Go.Proofs.YthjekgfoidmagaaGreatDoor
open Go.Proofs.Tryz
section
open Go Go.RowKit Num
theorem Lj{k:Int}{p:Int×bH}(hf:aX.find? (fun q=>q.1==k)=some p)(h:p.2.has.getD 11 false=true):p.2.has.getD 0 false=true:=by
 have hm:=List.mem_of_find?_eq_some hf;have hall:(aX.all fun q=>!(q.2.has.getD 11 false) || q.2.has.getD 0 false)=true:=by decide
 have:=List.all_eq_true.1 hall p hm;rw[h] at this;simpa using this
theorem Jh(f:aE)(pa oa:Option Addr)(pc oc:Nat)(w:World)(ht:f.tight)(hb:f.Behind w pa oa)(hcan:f.cancelled=false):
  Calls prog 13 #[.agg (f.cells pa pc oa oc)] w fun e w'=>e=.returned (.int .i64 (bY f))/\Below w.heap.size w w':=by
 have HN:=Hd (fun W=>mL f.key W (by have:=ht.small.key;omega));have HD:=Hd (fun W=>We f.day W);have HW:=Hd (fun W=>Rs f.kind W);have HH:=Hd (fun i W=>Wb f.kind i W);have HZ:=Hd (fun i hi W=>bYc f pa oa pc oc i hi W);have HF:=Hd (fun i hi W (hbw:Below w.heap.size w W) hins=>xZ f pa oa pc oc i hi W ht (hb.below hbw) hins);have HFB:=Hd (aP.new0 w (f.cells pa pc oa oc) 29);have hsz:Hid ((prog.info? 29).map (·.size)=some (f.cells pa pc oa oc).size):=aY f pa oa pc oc;have HQ0:=Hd (show (f.cells pa pc oa oc)[0]?=some (.string ⟨f.key.toArray⟩) from rfl);have HQ1:=Hd (show (f.cells pa pc oa oc)[1]?=some (.int .i64 f.stamp) from rfl);have HQ2:=Hd (show (f.cells pa pc oa oc)[2]?=some (.bool false) by rw[<-hcan];rfl);have HQ3:=Hd (show (f.cells pa pc oa oc)[3]?=some (.int .i64 f.day) from rfl);have HQ4:=Hd (show (f.cells pa pc oa oc)[4]?=some (.int .i64 f.kind) from rfl);obtain⟨res,hres⟩:∃res,res=bY f:=⟨_,rfl⟩
 rw[<-hres];unfold bY at hres;rw[if_neg (show ¬ f.cancelled=true by rw[hcan];decide)] at hres;have HRES:=Hd hres;have HFK:=Hd (Cw f.kind);clear hres;generalize f.cells pa pc oa oc=cs at *;have q0:=(HFB.out.cell 0).trans HQ0.out;have q1:=(HFB.out.cell 1).trans HQ1.out;have q2:=(HFB.out.cell 2).trans HQ2.out;have q3:=(HFB.out.cell 3).trans HQ3.out;have q4:=(HFB.out.cell 4).trans HQ4.out;have HB:=Hd (aB w (.cells cs 29));cases hnm:dC f.key with
 |false =>
  have hr:Hid (res=23):=by have h:=HRES.out;rw[if_pos hnm] at h;exact h
  rw[hnm] at HN;clear HRES HFK hnm HF HZ HH HW HD;generalize f.key=key at *;generalize f.stamp=stamp at *;generalize f.day=day at *;generalize f.kind=kind at *;go_enter func13,ntmps13;go_wp2_with fail;refine(HN.out _).mono ?_;rintro e w1 ⟨rfl,rfl⟩;go_wp2;go_ret;exact⟨by rw[hr.out];rfl,HB.out⟩
 |true =>
  rw[hnm] at HN;have HR1:Hid (res=if f.stamp<0 then 2 else if f.day < -25567∨84005<f.day then 13 else match aX.find? (fun p=>p.1==f.kind) with|some p=>bS f p.2 (List.range 13)|none=>7):=by
   have h:=HRES.out;rw[if_neg (by rw[hnm];decide)] at h;exact h
  clear HRES
  by_cases hst:f.stamp<0
  ·have hr:Hid (res=2):=by have h:=HR1.out;rw[if_pos hst] at h;exact h
   clear HR1 HFK HF HZ HH HW HD;generalize f.stamp=stamp at *;go_enter func13,ntmps13;go_wp2_with fail;refine(HN.out _).mono ?_;rintro e w1 ⟨rfl,rfl⟩;go_wp2;go_ret;exact⟨by rw[hr.out];rfl,HB.out⟩
  ·by_cases hdy:f.day < -25567∨84005<f.day
   ·have hr:Hid (res=13):=by have h:=HR1.out;rw[if_neg hst,if_pos hdy] at h;exact h
    rw[if_pos hdy] at HD;clear HR1 HFK HF HZ HH HW hdy;generalize f.stamp=stamp at *;generalize f.day=day at *;go_enter func13,ntmps13;go_wp2_with fail;refine(HN.out _).mono ?_;rintro e w1 ⟨rfl,rfl⟩;go_wp2_with fail;refine(HD.out _).mono ?_;rintro e w1 ⟨rfl,rfl⟩;go_wp2;go_ret;exact⟨by rw[hr.out];rfl,HB.out⟩
   ·rw[if_neg hdy] at HD;rcases HFK.out with⟨hfn,hw0⟩|⟨p,hfp,hwn,hhas⟩
    ·have hr:Hid (res=7):=by have h:=HR1.out;rw[if_neg hst,if_neg hdy,hfn] at h;exact h
     rw[hw0] at HW;clear HR1 HFK HF HZ HH hdy hfn hw0;generalize f.stamp=stamp at *;generalize f.day=day at *;generalize f.kind=kind at *;go_enter func13,ntmps13;go_wp2_with fail;refine(HN.out _).mono ?_;rintro e w1 ⟨rfl,rfl⟩;go_wp2_with fail;refine(HD.out _).mono ?_;rintro e w1 ⟨rfl,rfl⟩;go_wp2_with fail;refine(HW.out _).mono ?_;rintro e w1 ⟨rfl,rfl⟩;go_wp2;go_ret;exact⟨by rw[hr.out];rfl,HB.out⟩
    ·have hr:Hid (res=bS f p.2 (List.range 13)):=by have h:=HR1.out;rw[if_neg hst,if_neg hdy,hfp] at h;exact h
     have HHAS:=Hd hhas;have hw0:(tE f.kind).isEmpty=false:=by simpa using hwn
     have HLAW:=Hd (fun i (hi:i<13) (hc:p.2.has.getD i false=true)=>Kc hfp hi hc);have HEL:=Hd (fun h=>Lj hfp h);clear HR1 HFK hdy hwn hhas hfp;generalize tE f.kind=rw0 at *;generalize f.stamp=stamp at *;generalize f.day=day at *;go_enter func13,ntmps13;go_wp2_with fail;refine(HN.out _).mono ?_;rintro e w1 ⟨rfl,rfl⟩;go_wp2_with fail;refine(HD.out _).mono ?_;rintro e w1 ⟨rfl,rfl⟩;go_wp2_with fail;refine(HW.out _).mono ?_;rintro e w1 ⟨rfl,rfl⟩;go_wp2_with fail;go_loopw [4] (fun iv W=>∃i:Nat,i<=13/\iv=.int .i64 (i:Int)/\Hid (res=bS f p.2 ((List.range 13).drop i))/\Hid (0<i->bX f p.2 0=0)/\Hid (aP W w.heap.size cs 29)/\Hid (Below w.heap.size w W)) (fun iv _=>13-(intOf iv).toNat)
     case atStart=>exact⟨0,Nat.zero_le _,rfl,hr,fun h=>absurd h (Nat.lt_irrefl 0),HFB,HB⟩
     case round =>
      obtain⟨i,hi,rfl,HR,HF0,HXr,HWr⟩:=hrel
      by_cases hlt:i<13
      ·have r4:=(HXr.out.cell 4).trans HQ4.out;have HST:=Hd (HR.out.trans (Ic f p.2 hlt));clear q0 q1 q2 q3 q4 HR;go_wp2_with fail;refine(HH.out i _).mono ?_;rintro e w2 ⟨rfl,hb2⟩;rw[HHAS.out i hlt];have HX1:=Hd (HXr.out.below hb2);have HB1:=Hd (aA HWr.out hb2);clear hb2 r4 HXr HWr;cases hhi:p.2.has.getD i false with
       |true =>
        have hbad:bX f p.2 i=dN f i:=by unfold bX;rw[if_pos hhi];exact(HLAW.out i hlt hhi).symm
        have hins:i=11->f.ins ≠ []:=fun h11=>by
         subst h11;have h0:=HF0.out (by omega);unfold bX at h0;rw[if_pos (HEL.out hhi)] at h0;have h1:fA f.ins=0:=h0;intro e;rw[e] at h1;exact absurd h1 (by decide)
        have HFE:=Hd (HF.out i hlt w2 HB1.out hins);rw[hbad] at HST;have HF1:Hid (dN f i=0->0<i+1->bX f p.2 0=0):=fun h0 _=>by
         rcases Nat.eq_zero_or_pos i with h|h
         ·subst h;rw[hbad];exact h0
         ·exact HF0.out h
        clear hbad hins HF0 hhi;generalize dN f i=z at *
        by_cases hz:z=0
        ·have HR2:Hid (res=bS f p.2 ((List.range 13).drop (i+1))):=by have h:=HST.out;rw[if_neg (by simpa using hz)] at h;exact h
         have HF2:=Hd (HF1.out hz);clear HST HF1;subst hz;go_wp2_with (refine wpList_load_row rfl 29 _ rfl w.heap.size rfl 29 cs (0,0) _ HX1.out.2 underlying29 rfl hsz.out ?_);refine HFE.out.mono ?_;rintro e w3 ⟨rfl,hb3⟩;have HX2:=Hd (HX1.out.below hb3);have HB2:=Hd (aA HB1.out hb3);clear hb3;go_wp2;go_roundw
         case rel=>exact⟨i+1,by omega,by go_num,HR2,HF2,HX2,HB2⟩
         case measure=>simp[intOf];omega
        ·have HR2:Hid (res=z):=by have h:=HST.out;rw[if_pos hz] at h;exact h
         have hzb:(z != 0)=true:=by simpa using hz
         clear HST HF1 hz;go_wp2_with (refine wpList_load_row rfl 29 _ rfl w.heap.size rfl 29 cs (0,0) _ HX1.out.2 underlying29 rfl hsz.out ?_);refine HFE.out.mono ?_;rintro e w3 ⟨rfl,hb3⟩;have HB2:=Hd (aA HB1.out hb3);clear hb3;go_wp2;go_ret;exact⟨by rw[HR2.out];rfl,HB2.out⟩
       |false =>
        have hbad:bX f p.2 i=if f.zero i=true then 0 else 1:=by unfold bX;rw[if_neg (by rw[hhi];decide)]
        have HFE:=Hd (HZ.out i hlt w2);rw[hbad] at HST;have HF1:Hid (f.zero i=true->0<i+1->bX f p.2 0=0):=fun h0 _=>by
         rcases Nat.eq_zero_or_pos i with h|h
         ·subst h;rw[hbad,if_pos h0]
         ·exact HF0.out h
        clear hbad HF0 hhi;generalize f.zero i=z at *;cases z with
        |true =>
         have HR2:Hid (res=bS f p.2 ((List.range 13).drop (i+1))):=by have h:=HST.out;simp at h;exact h
         have HF2:=Hd (HF1.out rfl);clear HST HF1;go_wp2_with (refine wpList_load_row rfl 29 _ rfl w.heap.size rfl 29 cs (0,0) _ HX1.out.2 underlying29 rfl hsz.out ?_);refine HFE.out.mono ?_;rintro e w3 ⟨rfl,hb3⟩;have HX2:=Hd (HX1.out.below hb3);have HB2:=Hd (aA HB1.out hb3);clear hb3;go_wp2;go_roundw
         case rel=>exact⟨i+1,by omega,by go_num,HR2,HF2,HX2,HB2⟩
         case measure=>simp[intOf];omega
        |false =>
         have HR2:Hid (res=1):=by have h:=HST.out;simp at h;exact h
         clear HST HF1;go_wp2_with (refine wpList_load_row rfl 29 _ rfl w.heap.size rfl 29 cs (0,0) _ HX1.out.2 underlying29 rfl hsz.out ?_);refine HFE.out.mono ?_;rintro e w3 ⟨rfl,hb3⟩;have HB2:=Hd (aA HB1.out hb3);clear hb3;go_wp2;go_ret;exact⟨by rw[HR2.out];rfl,HB2.out⟩
      ·obtain rfl:i=13:=by omega
       have hr0:Hid (res=0):=HR.out;go_wp2;go_ret;exact⟨by rw[hr0.out];rfl,HWr.out⟩
end
section
open Go Go.RowKit Num
theorem Rp(f:aE):f.blank=true↔(∀i,i<13->f.zero i=true)/\f.day=0/\f.kind=0:=by
 have z4:f.zero 4=f.q.isEmpty:=by show bZ.none ⟨f.q,[]⟩=_;unfold bZ.none;simp
 have z5:f.zero 5=f.amt.isEmpty:=by show bZ.none ⟨f.amt,[]⟩=_;unfold bZ.none;simp
 have z6:f.zero 6=f.fee.isEmpty:=by show bZ.none ⟨f.fee,[]⟩=_;unfold bZ.none;simp
 have e:f.blank=(decide (f.day=0)&&decide (f.kind=0)&&f.zero 0&&f.zero 1&&f.zero 2&&f.zero 3&&f.zero 4&&f.zero 5&&f.zero 6&&f.zero 7&&f.zero 8&&f.zero 9&&f.zero 10&&f.zero 11&&f.zero 12):=by
  rw[z4,z5,z6];rfl
 rw[e];simp only[Bool.and_eq_true,decide_eq_true_eq];constructor
 ·rintro⟨⟨⟨⟨⟨⟨⟨⟨⟨⟨⟨⟨⟨⟨hd,hk⟩,h0⟩,h1⟩,h2⟩,h3⟩,h4⟩,h5⟩,h6⟩,h7⟩,h8⟩,h9⟩,h10⟩,h11⟩,h12⟩;refine⟨fun i hi=>?_,hd,hk⟩
  match i,hi with
  |0,_=>exact h0
  |1,_=>exact h1
  |2,_=>exact h2
  |3,_=>exact h3
  |4,_=>exact h4
  |5,_=>exact h5
  |6,_=>exact h6
  |7,_=>exact h7
  |8,_=>exact h8
  |9,_=>exact h9
  |10,_=>exact h10
  |11,_=>exact h11
  |12,_=>exact h12
 ·rintro⟨h,hd,hk⟩;exact⟨⟨⟨⟨⟨⟨⟨⟨⟨⟨⟨⟨⟨⟨hd,hk⟩,h 0 (by decide)⟩,h 1 (by decide)⟩,h 2 (by decide)⟩,h 3 (by decide)⟩,h 4 (by decide)⟩,h 5 (by decide)⟩,h 6 (by decide)⟩,h 7 (by decide)⟩,h 8 (by decide)⟩,h 9 (by decide)⟩,h 10 (by decide)⟩,h 11 (by decide)⟩,h 12 (by decide)⟩
theorem Ji(f:aE)(pa oa:Option Addr)(pc oc:Nat)(w:World)(ht:f.tight)(hcan:f.cancelled=true):
  Calls prog 13 #[.agg (f.cells pa pc oa oc)] w fun e w'=>e=.returned (.int .i64 (bY f))/\Below w.heap.size w w':=by
 have HN:=Hd (fun W=>mL f.key W (by have:=ht.small.key;omega));have HZ:=Hd (fun i hi W=>bYc f pa oa pc oc i hi W);have HFB:=Hd (aP.new0 w (f.cells pa pc oa oc) 29);have hsz:Hid ((prog.info? 29).map (·.size)=some (f.cells pa pc oa oc).size):=aY f pa oa pc oc;have HQ0:=Hd (show (f.cells pa pc oa oc)[0]?=some (.string ⟨f.key.toArray⟩) from rfl);have HQ1:=Hd (show (f.cells pa pc oa oc)[1]?=some (.int .i64 f.stamp) from rfl);have HQ2:=Hd (show (f.cells pa pc oa oc)[2]?=some (.bool true) by rw[<-hcan];rfl);have HQ3:=Hd (show (f.cells pa pc oa oc)[3]?=some (.int .i64 f.day) from rfl);have HQ4:=Hd (show (f.cells pa pc oa oc)[4]?=some (.int .i64 f.kind) from rfl);obtain⟨res,hres⟩:∃res,res=bY f:=⟨_,rfl⟩
 rw[<-hres];unfold bY at hres;rw[if_pos hcan] at hres;have HRES:=Hd hres;have HBL:=Hd (Rp f);clear hres;generalize f.cells pa pc oa oc=cs at *;have q0:=(HFB.out.cell 0).trans HQ0.out;have q1:=(HFB.out.cell 1).trans HQ1.out;have q2:=(HFB.out.cell 2).trans HQ2.out;have q3:=(HFB.out.cell 3).trans HQ3.out;have q4:=(HFB.out.cell 4).trans HQ4.out;have HB:=Hd (aB w (.cells cs 29));cases hnm:dC f.key with
 |false =>
  have hr:Hid (res=23):=by have h:=HRES.out;rw[if_pos hnm] at h;exact h
  rw[hnm] at HN;clear HRES hnm HZ HBL;generalize f.key=key at *;generalize f.stamp=stamp at *;generalize f.day=day at *;generalize f.kind=kind at *;go_enter func13,ntmps13;go_wp2_with fail;refine(HN.out _).mono ?_;rintro e w1 ⟨rfl,rfl⟩;go_wp2;go_ret;exact⟨by rw[hr.out];rfl,HB.out⟩
 |true =>
  rw[hnm] at HN;have HR1:Hid (res=if f.stamp<0 then 2 else if f.blank=true then 0 else 1):=by
   have h:=HRES.out;rw[if_neg (by rw[hnm];decide)] at h;exact h
  clear HRES
  by_cases hst:f.stamp<0
  ·have hr:Hid (res=2):=by have h:=HR1.out;rw[if_pos hst] at h;exact h
   clear HR1 HZ HBL;generalize f.stamp=stamp at *;go_enter func13,ntmps13;go_wp2_with fail;refine(HN.out _).mono ?_;rintro e w1 ⟨rfl,rfl⟩;go_wp2;go_ret;exact⟨by rw[hr.out];rfl,HB.out⟩
  ·have hr:Hid (res=if f.blank=true then 0 else 1):=by have h:=HR1.out;rw[if_neg hst] at h;exact h
   clear HR1;generalize f.stamp=stamp at *;generalize f.day=day at *;generalize f.kind=kind at *;generalize f.blank=blank at *;go_enter func13,ntmps13;go_wp2_with fail;refine(HN.out _).mono ?_;rintro e w1 ⟨rfl,rfl⟩;go_wp2_with fail;go_loopw [3] (fun iv W=>∃i:Nat,i<=13/\iv=.int .i64 (i:Int)/\Hid (∀j,j<i->f.zero j=true)/\Hid (aP W w.heap.size cs 29)/\Hid (Below w.heap.size w W)) (fun iv _=>13-(intOf iv).toNat)
   case atStart=>exact⟨0,Nat.zero_le _,rfl,fun j hj=>absurd hj (Nat.not_lt_zero _),HFB,HB⟩
   case round =>
    obtain⟨i,hi,rfl,HA,HXr,HWr⟩:=hrel;clear q0 q1 q2 q3 q4
    by_cases hlt:i<13
    ·have HFE:=Hd (HZ.out i hlt wr);cases hz:f.zero i with
     |true =>
      have HA2:Hid (∀j,j<i+1->f.zero j=true):=fun j hj=>by
       rcases Nat.lt_succ_iff_lt_or_eq.1 hj with h|h
       ·exact HA.out j h
       ·rw[h];exact hz
      rw[hz] at HFE;clear hz HA;go_wp2_with (refine wpList_load_row rfl 29 _ rfl w.heap.size rfl 29 cs (0,0) _ HXr.out.2 underlying29 rfl hsz.out ?_);refine HFE.out.mono ?_;rintro e w3 ⟨rfl,hb3⟩;have HX2:=Hd (HXr.out.below hb3);have HB2:=Hd (aA HWr.out hb3);clear hb3;go_wp2;go_roundw
      case rel=>exact⟨i+1,by omega,by go_num,HA2,HX2,HB2⟩
      case measure=>simp[intOf];omega
     |false =>
      have hr2:Hid (res=1):=by
       have h:=hr.out;rw[if_neg (by intro hb;have:=(HBL.out.1 hb).1 i hlt;rw[hz] at this;exact absurd this (by decide))] at h;exact h
      rw[hz] at HFE;clear hz HA hr HBL;go_wp2_with (refine wpList_load_row rfl 29 _ rfl w.heap.size rfl 29 cs (0,0) _ HXr.out.2 underlying29 rfl hsz.out ?_);refine HFE.out.mono ?_;rintro e w3 ⟨rfl,hb3⟩;have HB2:=Hd (aA HWr.out hb3);clear hb3;go_wp2;go_ret;exact⟨by rw[hr2.out];rfl,HB2.out⟩
    ·obtain rfl:i=13:=by omega
     have r3:=(HXr.out.cell 3).trans HQ3.out;have r4:=(HXr.out.cell 4).trans HQ4.out;have hbl:Hid (blank=true↔day=0/\kind=0):=by
      constructor
      ·intro hb;exact(HBL.out.1 hb).2
      ·intro hd;exact HBL.out.2 ⟨HA.out,hd⟩
     clear HBL HA HZ
     by_cases hd:day=0
     ·by_cases hk:kind=0
      ·have hr2:Hid (res=0):=by have h:=hr.out;rw[if_pos (hbl.out.2 ⟨hd,hk⟩)] at h;exact h
       clear hr hbl;subst hd hk;go_wp2;go_ret;exact⟨by rw[hr2.out];rfl,HWr.out⟩
      ·have hr2:Hid (res=1):=by have h:=hr.out;rw[if_neg (fun hb=>hk (hbl.out.1 hb).2)] at h;exact h
       have hkb:(kind != 0)=true:=by simpa using hk
       clear hr hbl;subst hd;go_wp2;go_ret;exact⟨by rw[hr2.out];rfl,HWr.out⟩
     ·have hr2:Hid (res=1):=by have h:=hr.out;rw[if_neg (fun hb=>hd (hbl.out.1 hb).1)] at h;exact h
      have hdb:(day != 0)=true:=by simpa using hd
      clear hr hbl;go_wp2;go_ret;exact⟨by rw[hr2.out];rfl,HWr.out⟩
theorem uI(f:aE)(pa oa:Option Addr)(pc oc:Nat)(w:World)(ht:f.tight)(hb:f.Behind w pa oa):
  Calls prog 13 #[.agg (f.cells pa pc oa oc)] w fun e w'=>e=.returned (.int .i64 (bY f))/\Below w.heap.size w w':=by
 cases hc:f.cancelled with
 |true=>exact Ji f pa oa pc oc w ht hc
 |false=>exact Jh f pa oa pc oc w ht hb hc
end
section
open Go Go.RowKit Num
theorem Fn(k:Int)(w:World):Calls prog 47 #[.int .i64 k] w fun e w'=>e=.returned (.int .i64 (eY k))/\w'=w:=by
 rcases jV k with rfl|rfl|rfl|rfl|rfl|rfl|rfl|rfl|rfl|rfl|rfl|rfl|rfl|rfl|rfl|rfl|rfl|rfl|⟨h1,h2,h3,h4,h5,h6,h7,h8,h9,h10,h11,h12,h13,h14,h15,h16,h17,h18⟩
 case inr.inr.inr.inr.inr.inr.inr.inr.inr.inr.inr.inr.inr.inr.inr.inr.inr.inr =>
  have h0:eY k=0:=by
   simp only[beq_eq_false_iff_ne,ne_eq] at *;unfold eY;rw[List.find?_eq_none.2 (fun q hq=>by
    have:∀q,q∈aX->1<=q.1/\q.1<=18:=by decide +kernel
    have:=this q hq;simp only[beq_iff_eq];omega)]
  rw[h0];clear h0;go_enter func47,ntmps47;go_wp2;go_ret;exact⟨rfl,rfl⟩
 all_goals
  go_enter func47,ntmps47;go_wp2;go_ret;exact⟨rfl,rfl⟩
theorem Vq{f g:aE}(h:f.day≠g.day):iL f g=if f.day<g.day then -1 else 1:=by
 unfold iL;rw[if_pos (by rw[ne_eq,iC];exact h)];unfold bG;split
 ·rfl
 ·rw[if_pos (by omega)]
theorem Vr{f g:aE}(h:f.day=g.day)(h2:eY f.kind≠eY g.kind):iL f g=if eY f.kind<eY g.kind then -1 else 1:=by
 unfold iL;rw[if_neg (by rw[Decidable.not_not,iC];exact h),if_pos (by rw[ne_eq,iC];exact h2)];unfold bG;split
 ·rfl
 ·rw[if_pos (by omega)]
theorem Vp{f g:aE}(h:f.day=g.day)(h2:eY f.kind=eY g.kind):iL f g=sS f.key g.key:=by
 unfold iL;rw[if_neg (by rw[Decidable.not_not,iC];exact h),if_neg (by rw[Decidable.not_not,iC];exact h2)]
theorem Fm(f g:aE)(pa oa pb ob:Option Addr)(pc oc pd od:Nat)(w:World):
  Calls prog 15 #[.agg (f.cells pa pc oa oc),.agg (g.cells pb pd ob od)] w fun e w'=>e=.returned (.int .i64 (iL f g))/\Below w.heap.size w w':=by
 have K1:=(aP.new0 w (f.cells pa pc oa oc) 29).below (aB _ (.cells (g.cells pb pd ob od) 29));have K2:=aP.new0 (w.alloc (.cells (f.cells pa pc oa oc) 29)) (g.cells pb pd ob od) 29;rw[World.size_alloc] at K2;have HB0:=Hd (((Br _ w).alloc (Nl _) (.cells (f.cells pa pc oa oc) 29)).alloc (by simp) (.cells (g.cells pb pd ob od) 29));have a4:=(K1.cell 4).trans (show _=some (.int .i64 f.kind) from rfl);have b4:=(K2.cell 4).trans (show _=some (.int .i64 g.kind) from rfl);have a3:=(K1.cell 3).trans (show _=some (.int .i64 f.day) from rfl);have b3:=(K2.cell 3).trans (show _=some (.int .i64 g.day) from rfl);have a0:=(K1.cell 0).trans (show _=some (.string ⟨f.key.toArray⟩) from rfl);have b0:=(K2.cell 0).trans (show _=some (.string ⟨g.key.toArray⟩) from rfl);have HD:=Hd (@Vq f g);have HC:=Hd (@Vr f g);have HK:=Hd (@Vp f g);have HCL:Hid (∀k W,Calls prog 47 #[.int .i64 k] W fun e w'=>e=.returned (.int .i64 (eY k))/\w'=W):=Fn;clear K1 K2;generalize iL f g=res at *;generalize eY=cl at *;generalize f.cells pa pc oa oc=fc at *;generalize g.cells pb pd ob od=gc at *;generalize f.kind=k1 at *;generalize g.kind=k2 at *;generalize f.day=d1 at *;generalize g.day=d2 at *;generalize f.key=s1 at *;generalize g.key=s2 at *
 by_cases hd:d1=d2
 ·subst hd;have HC:=Hd (HC.out rfl);have HK:=Hd (HK.out rfl);clear HD
  by_cases hc:cl k1=cl k2
  ·have HK:=Hd (HK.out hc);have hcb:(cl k1==cl k2)=true:=by simpa using hc
   have hci:decide (cl k1=cl k2)=true:=by simpa using hc
   have hci':decide (cl k1≠cl k2)=false:=by simpa using hc
   clear HC
   by_cases hk:s1=s2
   ·subst hk;have HV:Hid (res=0):=HK.out.trans (Rj.2 rfl);clear HK hc;go_enter func15,ntmps15;go_wp2_with fail;go_quiet (refine Calls.quiet_of_same (HCL.out _ _));go_wp2;go_ret;exact⟨by rw[HV.out];rfl,by first|exact HB0.out|exact aD HB0.out _|exact aD (aD HB0.out _) _⟩
   ·have hkb:(s1==s2)=false:=by simpa using hk
    by_cases hl:s1<s2
    ·have b1:Op.bytesLess s1 s2=true:=by rw[bytesLess_eq];simpa using hl
     have HV:Hid (res = -1):=HK.out.trans (by unfold sS;rw[if_pos hl]);clear HK hk hc hl;go_enter func15,ntmps15;go_wp2_with fail;go_quiet (refine Calls.quiet_of_same (HCL.out _ _));go_wp2;go_ret;exact⟨by rw[HV.out];rfl,by first|exact HB0.out|exact aD HB0.out _|exact aD (aD HB0.out _) _⟩
    ·have b1:Op.bytesLess s1 s2=false:=by rw[bytesLess_eq];exact decide_eq_false hl
     have HV:Hid (res=1):=HK.out.trans (by unfold sS;rw[if_neg hl];split;rfl;rename_i h;exact absurd (List.le_antisymm h hl) hk);clear HK hk hc hl;go_enter func15,ntmps15;go_wp2_with fail;go_quiet (refine Calls.quiet_of_same (HCL.out _ _));go_wp2;go_ret;exact⟨by rw[HV.out];rfl,by first|exact HB0.out|exact aD HB0.out _|exact aD (aD HB0.out _) _⟩
  ·have HC:=Hd (HC.out hc);have hcb:(cl k1==cl k2)=false:=by simpa using hc
   have hci:decide (cl k1=cl k2)=false:=by simpa using hc
   have hci':decide (cl k1≠cl k2)=true:=by simpa using hc
   clear HK
   by_cases hl:cl k1<cl k2
   ·have hld:decide (cl k1<cl k2)=true:=by simpa using hl
    have HV:Hid (res = -1):=HC.out.trans (if_pos hl);clear HC hc;go_enter func15,ntmps15;go_wp2_with fail;go_quiet (refine Calls.quiet_of_same (HCL.out _ _));have a4:(((w.alloc (.cells fc 29)).alloc (.cells gc 29)).drewN nq).cell? ⟨w.heap.size,4,none⟩=some (.int .i64 k1):=a4;have b4:(((w.alloc (.cells fc 29)).alloc (.cells gc 29)).drewN nq).cell? ⟨w.heap.size+1,4,none⟩=some (.int .i64 k2):=b4;have HB0:=Hd (aD HB0.out nq);clear a3 b3 a0 b0;generalize((w.alloc (.cells fc 29)).alloc (.cells gc 29)).drewN nq=W1 at *;go_wp2_with fail;go_quiet (refine Calls.quiet_of_same (HCL.out _ _));go_wp2;go_ret;exact⟨by rw[HV.out];rfl,by first|exact HB0.out|exact aD HB0.out _|exact aD (aD HB0.out _) _⟩
   ·have hld:decide (cl k1<cl k2)=false:=by simpa using hl
    have HV:Hid (res=1):=HC.out.trans (if_neg hl);clear HC hc;go_enter func15,ntmps15;go_wp2_with fail;go_quiet (refine Calls.quiet_of_same (HCL.out _ _));have a4:(((w.alloc (.cells fc 29)).alloc (.cells gc 29)).drewN nq).cell? ⟨w.heap.size,4,none⟩=some (.int .i64 k1):=a4;have b4:(((w.alloc (.cells fc 29)).alloc (.cells gc 29)).drewN nq).cell? ⟨w.heap.size+1,4,none⟩=some (.int .i64 k2):=b4;have HB0:=Hd (aD HB0.out nq);clear a3 b3 a0 b0;generalize((w.alloc (.cells fc 29)).alloc (.cells gc 29)).drewN nq=W1 at *;go_wp2_with fail;go_quiet (refine Calls.quiet_of_same (HCL.out _ _));go_wp2;go_ret;exact⟨by rw[HV.out];rfl,by first|exact HB0.out|exact aD HB0.out _|exact aD (aD HB0.out _) _⟩
 ·have hdb:(d1==d2)=false:=by simpa using hd
  have HD:=Hd (HD.out hd);clear HC HK HCL
  by_cases hl:d1<d2
  ·have HV:Hid (res = -1):=HD.out.trans (if_pos hl);go_enter func15,ntmps15;go_wp2;go_ret;exact⟨by rw[HV.out];rfl,by first|exact HB0.out|exact aD HB0.out _|exact aD (aD HB0.out _) _⟩
  ·have HV:Hid (res=1):=HD.out.trans (if_neg hl);go_enter func15,ntmps15;go_wp2;go_ret;exact⟨by rw[HV.out];rfl,by first|exact HB0.out|exact aD HB0.out _|exact aD (aD HB0.out _) _⟩
end
end Go.Proofs.YthjekgfoidmagaaGreatDoor
