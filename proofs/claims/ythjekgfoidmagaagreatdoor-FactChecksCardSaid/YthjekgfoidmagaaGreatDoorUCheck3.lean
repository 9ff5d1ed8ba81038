/- Check2 Check3 -/
import Derived.Test.YthjekgfoidmagaaGreatDoorUField
import Derived.Test.YthjekgfoidmagaaGreatDoorUSameG
set_option maxHeartbeats 16000000
set_option maxRecDepth 100000
namespace Go.Proofs.YthjekgfoidmagaaGreatDoor
open Tryz
section
open Go Go.RowKit Num
def bH.fine(k:bH):Bool:=decide ((k.nums.map Prod.fst).Nodup)&&k.nums.all (fun q=>!(q.2.1&&q.2.2))&&k.more.all (fun x=>decide (x<4∨9<x))
theorem Ld:(aX.all fun q=>q.2.fine)=true:=by decide +kernel
theorem Yu(k:bH){i:Nat}(h:i<13):k.has.getD i false=(k.nums.any (fun p=>p.1==(i:Int)) || k.more.contains (i:Int)):=by
 unfold bH.has;rw[List.getD_eq_getElem?_getD,List.getElem?_map,List.getElem?_range h];rfl
theorem uW{w:World}{q:Int×bH}(hq:q∈aX){mv:Option Nat}(hm:(mv=none/\q.2.nums=[])∨∃b kvs,mv=some b/\eL w b kvs/\rY (nU w) q.2.nums kvs/\∀x,x∈q.2.nums->∃p,p∈kvs/\p.1=x.1){i:Nat}(h4:4<=i)(h9:i<=9)(hh:q.2.has.getD i false=true):
  ∃mb kvs pv,∃pq:Bool×Bool,mv=some mb/\eL w mb kvs/\kvs.find? (fun p=>p.1==(i:Int))=some pv/\(pq.1&&pq.2)=false/\nU w pv.2 pq/\q.2.nums.find? (fun p=>p.1==(i:Int))=some ((i:Int),pq):=by
 have hf:=List.all_eq_true.1 Ld q hq;unfold bH.fine at hf;simp only[Bool.and_eq_true,decide_eq_true_eq] at hf;obtain⟨⟨f1,f2⟩,f3⟩:=hf;rw[Yu _ (by omega)] at hh;have hn:q.2.more.contains (i:Int)=false:=by
  rw[<-Bool.not_eq_true];intro hc;have:=List.all_eq_true.1 f3 (i:Int) (by simpa using hc);simp at this;omega
 rw[hn,Bool.or_false] at hh;obtain⟨x,hx,ex⟩:=(Fe _ _).1 hh;rcases hm with⟨_,h0⟩|⟨b,kvs,rfl,h1,h2,h3⟩
 ·rw[h0] at hx;cases hx
 ·obtain⟨p,hp,ep⟩:=h3 x hx;cases hfd:kvs.find? fun p=>p.1==(i:Int) with
  |none =>
   have:=List.find?_eq_none.1 hfd p hp;simp[ep,ex] at this
  |some pv =>
   have hpm:=List.mem_of_find?_eq_some hfd;have hpk:pv.1=(i:Int):=by have:=List.find?_some hfd;simpa using this
   obtain⟨y,hy,e1,hl⟩:=h2 pv hpm;refine⟨b,kvs,pv,y.2,rfl,h1,hfd,?_,hl,?_⟩
   ·have:=List.all_eq_true.1 f2 y hy
    revert this
    cases y.2.1 <;> cases y.2.2 <;> simp
   ·cases hfn:q.2.nums.find? fun p=>p.1==(i:Int) with
    |none =>
     have:=List.find?_eq_none.1 hfn y hy;simp[<-e1,hpk] at this
    |some z =>
     have hzm:=List.mem_of_find?_eq_some hfn;have hzk:z.1=(i:Int):=by have:=List.find?_some hfn;simpa using this
     obtain rfl:=Cm f1 hzm hy (by rw[hzk,<-e1,hpk]);rw[<-hzk]
theorem Ar(f:aE)(pa oa:Option Addr)(pc oc:Nat)(q:Int×bH)(hq:q∈aX)(cs:Array Value)(w:World)(hE:iE w)(hs:f.small)(hcap:f.picks.length<=pc)(hb:f.Behind w pa oa)(hv:oG w (.agg cs) q.2)(i:Nat)(hi:i<13)(hh:q.2.has.getD i false=true):
  Calls prog 35 #[.agg (f.cells pa pc oa oc),.agg cs,.int .i64 (i:Int)] w fun e w'=>e=.returned (.int .i64 (bT f q.2 i))/\Below w.heap.size w w':=by
 obtain⟨mv,e,hm⟩:=hv;injection e with e
 subst e
 match i,hi with
 |0,_=>exact Zf f pa oa pc oc q.2 mv w hs.ins
 |1,_ =>
  have e1:bT f q.2 1=gM f q.2.code:=rfl;rw[e1];cases hc:q.2.code with
  |true=>rw[<-hc];have:=Uu f pa oa pc oc q.2 mv w hs.other hc;rw[hc] at this ⊢;exact this
  |false=>rw[<-hc];have:=Uv f pa oa pc oc q.2 mv w hs.other hc;rw[hc] at this ⊢;exact this
 |2,_=>exact Ze f pa oa pc oc q.2 mv w hs.cur
 |3,_=>exact Zd f pa oa pc oc q.2 mv w hs.target
 |10,_=>exact Uy f pa oa pc oc q.2 mv w hE hs hcap hb
 |11,_=>exact Ux f pa oa pc oc q.2 mv w hE hs hb
 |12,_=>exact Uw f pa oa pc oc q.2 mv w
 |4,_ =>
  obtain⟨mb,kvs,pv,pq,h1,h2,h3,h4,h5,h6⟩:=uW hq hm (i:=4) (by decide) (by decide) hh;have e1:bT f q.2 4=lim pq.1 pq.2 (f.num 4).n (f.num 4).d:=by
   show (match q.2.nums.find? (fun p=>p.1==((4:Nat):Int)) with|some p=>lim p.2.1 p.2.2 (f.num 4).n (f.num 4).d|none=>0)=_;rw[h6]
  rw[e1];exact Zc f pa oa pc oc q.2 mv w hE hs mb kvs pq.1 pq.2 h1 h2 pv h3 h4 h5
 |5,_ =>
  obtain⟨mb,kvs,pv,pq,h1,h2,h3,h4,h5,h6⟩:=uW hq hm (i:=5) (by decide) (by decide) hh;have e1:bT f q.2 5=lim pq.1 pq.2 (f.num 5).n (f.num 5).d:=by
   show (match q.2.nums.find? (fun p=>p.1==((5:Nat):Int)) with|some p=>lim p.2.1 p.2.2 (f.num 5).n (f.num 5).d|none=>0)=_;rw[h6]
  rw[e1];exact Zb f pa oa pc oc q.2 mv w hE hs mb kvs pq.1 pq.2 h1 h2 pv h3 h4 h5
 |6,_ =>
  obtain⟨mb,kvs,pv,pq,h1,h2,h3,h4,h5,h6⟩:=uW hq hm (i:=6) (by decide) (by decide) hh;have e1:bT f q.2 6=lim pq.1 pq.2 (f.num 6).n (f.num 6).d:=by
   show (match q.2.nums.find? (fun p=>p.1==((6:Nat):Int)) with|some p=>lim p.2.1 p.2.2 (f.num 6).n (f.num 6).d|none=>0)=_;rw[h6]
  rw[e1];exact Za f pa oa pc oc q.2 mv w hE hs mb kvs pq.1 pq.2 h1 h2 pv h3 h4 h5
 |7,_ =>
  obtain⟨mb,kvs,pv,pq,h1,h2,h3,h4,h5,h6⟩:=uW hq hm (i:=7) (by decide) (by decide) hh;have e1:bT f q.2 7=lim pq.1 pq.2 (f.num 7).n (f.num 7).d:=by
   show (match q.2.nums.find? (fun p=>p.1==((7:Nat):Int)) with|some p=>lim p.2.1 p.2.2 (f.num 7).n (f.num 7).d|none=>0)=_;rw[h6]
  rw[e1];exact Yz f pa oa pc oc q.2 mv w hE hs mb kvs pq.1 pq.2 h1 h2 pv h3 h4 h5
 |8,_ =>
  obtain⟨mb,kvs,pv,pq,h1,h2,h3,h4,h5,h6⟩:=uW hq hm (i:=8) (by decide) (by decide) hh;have e1:bT f q.2 8=lim pq.1 pq.2 (f.num 8).n (f.num 8).d:=by
   show (match q.2.nums.find? (fun p=>p.1==((8:Nat):Int)) with|some p=>lim p.2.1 p.2.2 (f.num 8).n (f.num 8).d|none=>0)=_;rw[h6]
  rw[e1];exact Yy f pa oa pc oc q.2 mv w hE hs mb kvs pq.1 pq.2 h1 h2 pv h3 h4 h5
 |9,_ =>
  obtain⟨mb,kvs,pv,pq,h1,h2,h3,h4,h5,h6⟩:=uW hq hm (i:=9) (by decide) (by decide) hh;have e1:bT f q.2 9=lim pq.1 pq.2 (f.num 9).n (f.num 9).d:=by
   show (match q.2.nums.find? (fun p=>p.1==((9:Nat):Int)) with|some p=>lim p.2.1 p.2.2 (f.num 9).n (f.num 9).d|none=>0)=_;rw[h6]
  rw[e1];exact Yx f pa oa pc oc q.2 mv w hE hs mb kvs pq.1 pq.2 h1 h2 pv h3 h4 h5
 |n+13,hi=>omega
end
section
open Go Go.RowKit Num
theorem Ek(f:aE)(k:bH){i:Nat}(hi:i<13):bS f k ((List.range 13).drop i)=if bX f k i≠0 then bX f k i else bS f k ((List.range 13).drop (i+1)):=by
 rw[List.drop_eq_getElem_cons (by simpa using hi)];rw[List.getElem_range];rfl
theorem rT(f:aE)(pa oa:Option Addr)(pc oc:Nat)(w:World)(hE:iE w)(hs:f.small)(hcap:f.picks.length<=pc)(hb:f.Behind w pa oa):
  Calls prog 12 #[.agg (f.cells pa pc oa oc)] w fun e w'=>e=.returned (.int .i64 (bY f))/\Below w.heap.size w w':=by
 have KF:=aP.new0 w (f.cells pa pc oa oc) 29;have c0:=(KF.cell 0).trans (show _=some (.string ⟨f.key.toArray⟩) from rfl);have c1:=(KF.cell 1).trans (show _=some (.int .i64 f.stamp) from rfl);have c2:=(KF.cell 2).trans (show _=some (.bool f.cancelled) from rfl);have c3:=(KF.cell 3).trans (show _=some (.int .i64 f.day) from rfl);have c4:=(KF.cell 4).trans (show _=some (.int .i64 f.kind) from rfl);have HSZ:Hid ((prog.info? 29).map (·.size)=some (f.cells pa pc oa oc).size):=aY f pa oa pc oc;have HN:=Hd (fun W=>qW f.key W (by have:=hs.key;omega));have HS:Hid (f.cancelled=true->∀W,Calls prog 19 #[.agg (f.cells pa pc oa oc),.agg #[.string ⟨f.key.toArray⟩,.int .i64 f.stamp,.bool true,.int .i64 0,.int .i64 0,.string ⟨#[]⟩,.string ⟨#[]⟩,.string ⟨#[]⟩,.string ⟨#[]⟩,.string ⟨#[]⟩,.string ⟨#[]⟩,.string ⟨#[]⟩,.string ⟨#[]⟩,.string ⟨#[]⟩,.string ⟨#[]⟩,.string ⟨#[]⟩,.string ⟨#[]⟩,.string ⟨#[]⟩,.slice none 0 0,.slice none 0 0,.int .i64 0]] W fun e w'=>e=.returned (.bool f.blank)/\Below W.heap.size W w'):=fun hc W=>Jz f pa oa pc oc W hc
 have HFD:Hid (∀(q:Int×bH) (cs:Array Value) (W:World) (i:Nat),q∈aX->Below w.heap.size w W->oG W (.agg cs) q.2->i<13->q.2.has.getD i false=true->Calls prog 35 #[.agg (f.cells pa pc oa oc),.agg cs,.int .i64 (i:Int)] W fun e w'=>e=.returned (.int .i64 (bT f q.2 i))/\Below W.heap.size W w') :=
  fun q cs W i hq hbw hv hi hh=>Ar f pa oa pc oc q hq cs W (hE.below hbw) hs hcap (hb.below hbw) hv i hi hh
 have HEM:=Hd (fun i hi W=>Rd f i hi pa oa pc oc W);have HB0:=Hd (aB w (.cells (f.cells pa pc oa oc) 29));have KF:=Hd KF;obtain⟨res,hres⟩:∃res,res=bY f:=⟨_,rfl⟩
 rw[<-hres];have HRES:Hid (res=if dC f.key=false then 23 else if f.stamp<0 then 2 else if f.cancelled=true then(if f.blank=true then 0 else 1) else if f.day < -25567∨84005<f.day then 13 else match aX.find? (fun p=>p.1==f.kind) with|some p=>bS f p.2 (List.range 13)|none=>7):=hres;clear hres hE hs hcap hb;generalize f.cells pa pc oa oc=fc at *;generalize f.blank=bl at *;generalize f.key=key at *;generalize f.stamp=stamp at *;generalize f.cancelled=canc at *;generalize f.day=day at *;generalize f.kind=kd at *;go_enter func12,ntmps12;go_wp2_with fail;refine(HN.out _).mono ?_;rintro e w2 ⟨rfl,hb2⟩;have KF:=Hd (KF.out.below hb2);have HB2:=Hd (aA HB0.out hb2);have c0:=(hb2.cell (p:=⟨w.heap.size,0,none⟩) (by simp)).trans c0;have c1:=(hb2.cell (p:=⟨w.heap.size,1,none⟩) (by simp)).trans c1;have c2:=(hb2.cell (p:=⟨w.heap.size,2,none⟩) (by simp)).trans c2;have c3:=(hb2.cell (p:=⟨w.heap.size,3,none⟩) (by simp)).trans c3;have c4:=(hb2.cell (p:=⟨w.heap.size,4,none⟩) (by simp)).trans c4;clear hb2 HN HB0;generalize dC key=nm at *;cases nm with
 |false =>
  have HV:Hid (res=23):=by show _=_;rw[HRES.out];rfl
  go_wp2;go_ret;exact⟨by rw[HV.out];rfl,HB2.out⟩
 |true =>
  have HRES2:Hid (res=if stamp<0 then 2 else if canc=true then(if bl=true then 0 else 1) else if day < -25567∨84005<day then 13 else match aX.find? (fun p=>p.1==kd) with|some p=>bS f p.2 (List.range 13)|none=>7):=by show _=_;rw[HRES.out];rfl
  clear HRES
  by_cases hst:stamp<0
  ·have HV:Hid (res=2):=by show _=_;rw[HRES2.out,if_pos hst]
   go_wp2;go_ret;exact⟨by rw[HV.out];rfl,HB2.out⟩
  ·cases canc with
   |true =>
    have HSW:=Hd (HS.out rfl);clear HS;have HV:Hid (res=if bl=true then 0 else 1):=by show _=_;rw[HRES2.out,if_neg hst,if_pos rfl]
    go_wp2_with (refine wpList_load_row rfl 29 _ rfl w.heap.size rfl 29 fc (0,0) _ KF.out.2 underlying29 rfl HSZ.out ?_);refine(HSW.out _).mono ?_;rintro e w3 ⟨rfl,hb3⟩;have HB3:=Hd (aA HB2.out hb3);clear hb3;cases bl with
    |true =>
     go_wp2;go_ret;exact⟨by rw[HV.out];rfl,HB3.out⟩
    |false =>
     go_wp2;go_ret;exact⟨by rw[HV.out];rfl,HB3.out⟩
   |false =>
    by_cases hd1:day < -25567
    ·have HV:Hid (res=13):=by show _=_;rw[HRES2.out,if_neg hst,if_neg (by decide),if_pos (.inl hd1)]
     go_wp2;go_ret;exact⟨by rw[HV.out];rfl,HB2.out⟩
    ·by_cases hd2:84005<day
     ·have HV:Hid (res=13):=by show _=_;rw[HRES2.out,if_neg hst,if_neg (by decide),if_pos (.inr hd2)]
      go_wp2;go_ret;exact⟨by rw[HV.out];rfl,HB2.out⟩
     ·have HV:Hid (res=match aX.find? (fun p=>p.1==kd) with|some p=>bS f p.2 (List.range 13)|none=>7):=by show _=_;rw[HRES2.out,if_neg hst,if_neg (by decide),if_neg (by omega)]
      have HC4:Hid (∀W,Below w2.heap.size w2 W->W.cell? ⟨w.heap.size,4,none⟩=some (.int .i64 kd)):=fun W h=>(h.cell (p:=⟨w.heap.size,4,none⟩) KF.out.1).trans c4
      clear HRES2;go_wp2_with fail;refine Gy (w0:=w2) (bf:=w.heap.size) (kd:=kd) HC4.out rfl rfl rfl (Br _ _) ?_;intro t W bk cs hts h1 h3 h4 hlo hbk hv hbW;obtain⟨x0,x1,x2,x3,x4,x5,x6,x7,x8,x9,x10,x11,x12,x13,x14,x15,x16,x17,x18,x19,x20,x21,x22,x23,x24,x25,x26,x27,x28,x29,x30,x31,x32,x33,x34,x35,x36,x37,x38,x39,x40,x41,x42,x43,x44,x45,x46,x47,x48,x49,x50,x51,x52,x53,x54,x55,x56,x57,x58,x59,rfl⟩:=aEm t hts;obtain rfl:=Option.some.inj h1;obtain rfl:=Option.some.inj h3;obtain rfl:=Option.some.inj h4;dsimp only;cases hfd:aX.find? fun p=>p.1==kd with
      |none =>
       have HV2:Hid (res=7):=by show _=_;rw[HV.out,hfd]
       have HBW:=Hd (aA HB2.out hbW);clear HV;go_wp2;go_ret;exact⟨by rw[HV2.out];rfl,HBW.out⟩
      |some q =>
       have HQ:=Hd (List.mem_of_find?_eq_some hfd);have hv':oG W (.agg cs) q.2:=by rw[hfd] at hv;exact hv
       have HCS:Hid (∀i,i<13->cs[2+i]?=some (.bool (q.2.has.getD i false))):=fun i hi=>by
        obtain⟨mv,e,_⟩:=hv';injection e with e
        rw[e];exact pA (by rw[nI];exact hi)
       have HSZK:Hid ((prog.info? 62).map (·.size)=some cs.size):=by
        obtain⟨mv,e,_⟩:=hv';injection e with e
        show _=_;rw[e,Cr];exact oJ
       have HVK:=Hd hv';have KB:=Hd hbk;have KFW:=Hd (KF.out.below hbW);have HBW:=Hd (aA HB2.out hbW);have HV2:Hid (res=bS f q.2 ((List.range 13).drop 0)):=by show _=_;rw[HV.out,hfd];rfl
       clear HV hv hv' hbk hbW hlo hfd KF HB2 HC4 hts;go_wp2_with fail;go_loopw [41] (fun iv wr=>∃k:Nat,k<=13/\iv=.int .i64 k/\Hid (res=bS f q.2 ((List.range 13).drop k))/\Hid (Below W.heap.size W wr)) (fun iv _=>13-(intOf iv).toNat)
       case atStart=>exact⟨0,by decide,rfl,HV2,Br _ _⟩
       case round =>
        clear HV2;obtain⟨k,hk,rfl,HR,HBr⟩:=hrel
        by_cases hlt:k<13
        ·have HR2:Hid (res=if bX f q.2 k≠0 then bX f q.2 k else bS f q.2 ((List.range 13).drop (k+1))):=by show _=_;rw[HR.out];exact Ek f q.2 hlt
         clear HR;have ch:=((KB.out.below HBr.out).cell (2+k)).trans (HCS.out k hlt);have KFr:=Hd (KFW.out.below HBr.out);have KBr:=Hd (KB.out.below HBr.out);have HBa:=Hd (aA HBW.out HBr.out);cases hh:q.2.has.getD k false with
         |true =>
          rw[hh] at ch;have HCK:=Hd (HFD.out q cs wr k HQ.out HBa.out (HVK.out.below HBr.out) hlt hh);have HR3:Hid (res=if bT f q.2 k≠0 then bT f q.2 k else bS f q.2 ((List.range 13).drop (k+1))):=by
           show _=_;rw[HR2.out];unfold bX;rw[if_pos hh]
          clear HR2 hh;generalize bT f q.2 k=fe at *;go_wp2_with (first|(refine wpList_load_row rfl 29 _ rfl w.heap.size rfl 29 fc (0,0) _ KFr.out.2 underlying29 rfl HSZ.out ?_)|(refine wpList_load_row rfl 62 _ rfl bk rfl 62 cs (0,0) _ KBr.out.2 underlying62 rfl HSZK.out ?_));refine HCK.out.mono ?_;rintro e w4 ⟨rfl,hb4⟩;have HB4:=Hd (aA HBr.out hb4);have HB5:=Hd (aA HBa.out hb4);clear hb4 HCK ch
          by_cases he:fe=0
          ·subst he;have HR4:Hid (res=bS f q.2 ((List.range 13).drop (k+1))):=by show _=_;rw[HR3.out];rfl
           clear HR3;go_wp2;go_roundw
           case rel=>exact⟨k+1,by omega,by go_num,HR4,HB4⟩
           case measure=>simp[intOf];omega
          ·have HR4:Hid (res=fe):=by show _=_;rw[HR3.out,if_pos he]
           have he':(fe==0)=false:=by simpa using he
           clear HR3;go_wp2;go_ret;exact⟨by rw[HR4.out];rfl,HB5.out⟩
         |false =>
          rw[hh] at ch;have HR3:Hid (res=if f.zero k=true then bS f q.2 ((List.range 13).drop (k+1)) else 1):=by
           show _=_;rw[HR2.out];have e:bX f q.2 k=if f.zero k=true then 0 else 1:=by unfold bX;rw[hh];rfl
           rw[e];cases f.zero k <;> rfl
          have HEK:=Hd (HEM.out k hlt);clear HR2 hh;generalize f.zero k=fz at *;go_wp2_with (refine wpList_load_row rfl 29 _ rfl w.heap.size rfl 29 fc (0,0) _ KFr.out.2 underlying29 rfl HSZ.out ?_);refine(HEK.out _).mono ?_;rintro e w4 ⟨rfl,hb4⟩;have HB4:=Hd (aA HBr.out hb4);have HB5:=Hd (aA HBa.out hb4);clear hb4 HEK ch;cases fz with
          |true =>
           have HR4:Hid (res=bS f q.2 ((List.range 13).drop (k+1))):=by show _=_;rw[HR3.out];rfl
           clear HR3;go_wp2;go_roundw
           case rel=>exact⟨k+1,by omega,by go_num,HR4,HB4⟩
           case measure=>simp[intOf];omega
          |false =>
           have HR4:Hid (res=1):=by show _=_;rw[HR3.out];rfl
           clear HR3;go_wp2;go_ret;exact⟨by rw[HR4.out];rfl,HB5.out⟩
        ·obtain rfl:k=13:=by omega
         have HR4:Hid (res=0):=by show _=_;rw[HR.out];rfl
         have HBa:=Hd (aA HBW.out HBr.out);clear HR;go_wp2;go_ret;exact⟨by rw[HR4.out];rfl,HBa.out⟩
end
end Go.Proofs.YthjekgfoidmagaaGreatDoor
