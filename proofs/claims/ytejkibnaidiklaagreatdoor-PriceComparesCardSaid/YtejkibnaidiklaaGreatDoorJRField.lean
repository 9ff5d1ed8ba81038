/- RField RField9 RFieldP RDay -/
import Derived.Test.YtejkibnaidiklaaGreatDoorJROpts
set_option maxHeartbeats 16000000
set_option maxRecDepth 100000
namespace Go.Proofs.YtejkibnaidiklaaGreatDoor
open Go.Proofs.Tryz
section
open Go Go.RowKit Num
theorem Ti(f:aE)(pa oa:Option Addr)(pc oc:Nat)(w:World)(ht:f.tight):
  Calls prog 173 #[.agg (f.cells pa pc oa oc),.int .i64 0] w fun e w'=>e=.returned (.int .i64 (fA f.ins))/\Below w.heap.size w w':=by
 have HL:=Hd (fun W=>show Calls prog 224 #[.string ⟨f.ins.toArray⟩] W (fun e w'=>e=.returned (.int .i64 (fA f.ins))/\w'=W) from xQ f.ins W ht.small.ins);obtain⟨z,hz⟩:∃z,z=fA f.ins:=⟨_,rfl⟩
 rw[<-hz] at HL ⊢;clear hz;obtain⟨key,stamp,cancelled,day,kind,ins,other,cur,target,fq,amt,fee,price,ratio,share,picks,os,choice⟩:=f;unfold aE.cells at *;dsimp only at *;go_enter func173,ntmps173;go_wp2_with fail;refine(HL.out _).mono ?_;rintro e w1 ⟨rfl,rfl⟩;go_wp2;go_ret;exact⟨rfl,aB w _⟩
theorem Th(f:aE)(pa oa:Option Addr)(pc oc:Nat)(w:World)(ht:f.tight):
  Calls prog 173 #[.agg (f.cells pa pc oa oc),.int .i64 1] w fun e w'=>e=.returned (.int .i64 (gM f (decide (f.kind=7∨f.kind=16))))/\Below w.heap.size w w':=by
 have HL:=Hd (fun W (_:Below w.heap.size w W)=>Mr f pa oa pc oc W ht.small.other);obtain⟨z,hz⟩:∃z,z=gM f (decide (f.kind=7∨f.kind=16)):=⟨_,rfl⟩
 rw[<-hz] at HL ⊢;clear hz;have HFB:=Hd (aP.new0 w (f.cells pa pc oa oc) 59);have hsz:Hid ((prog.info? 59).map (·.size)=some (f.cells pa pc oa oc).size):=aY f pa oa pc oc;generalize f.cells pa pc oa oc=cs at *;go_enter func173,ntmps173;go_wp2_with (refine wpList_load_row rfl 59 _ rfl w.heap.size rfl 59 cs (0,0) _ HFB.out.2 underlying59 rfl hsz.out ?_);refine(HL.out _ (aB w _)).mono ?_;rintro e w1 ⟨rfl,hb⟩;have HB:=Hd (aA (aB w _) hb);clear hb;go_wp2;go_ret;exact⟨rfl,HB.out⟩
theorem Tg(f:aE)(pa oa:Option Addr)(pc oc:Nat)(w:World)(ht:f.tight):
  Calls prog 173 #[.agg (f.cells pa pc oa oc),.int .i64 2] w fun e w'=>e=.returned (.int .i64 (if fV f.cur=true then 0 else 12))/\Below w.heap.size w w':=by
 have HL:=Hd (fun W=>De f.cur W ht.small.cur);obtain⟨z,hz⟩:∃z,z=fV f.cur:=⟨_,rfl⟩
 rw[<-hz] at HL ⊢;clear hz;obtain⟨key,stamp,cancelled,day,kind,ins,other,cur,target,fq,amt,fee,price,ratio,share,picks,os,choice⟩:=f;unfold aE.cells at *;dsimp only at *;cases z
 all_goals
  go_enter func173,ntmps173;go_wp2_with fail;refine(HL.out _).mono ?_;rintro e w1 ⟨rfl,rfl⟩;go_wp2;go_ret;exact⟨rfl,aB w _⟩
theorem Tf(f:aE)(pa oa:Option Addr)(pc oc:Nat)(w:World)(ht:f.tight):
  Calls prog 173 #[.agg (f.cells pa pc oa oc),.int .i64 3] w fun e w'=>e=.returned (.int .i64 (fA f.target))/\Below w.heap.size w w':=by
 have HL:=Hd (fun W=>show Calls prog 224 #[.string ⟨f.target.toArray⟩] W (fun e w'=>e=.returned (.int .i64 (fA f.target))/\w'=W) from xQ f.target W ht.small.target);obtain⟨z,hz⟩:∃z,z=fA f.target:=⟨_,rfl⟩
 rw[<-hz] at HL ⊢;clear hz;obtain⟨key,stamp,cancelled,day,kind,ins,other,cur,target,fq,amt,fee,price,ratio,share,picks,os,choice⟩:=f;unfold aE.cells at *;dsimp only at *;go_enter func173,ntmps173;go_wp2_with fail;refine(HL.out _).mono ?_;rintro e w1 ⟨rfl,rfl⟩;go_wp2;go_ret;exact⟨rfl,aB w _⟩
theorem Te(f:aE)(pa oa:Option Addr)(pc oc:Nat)(w:World)(ht:f.tight):
  Calls prog 173 #[.agg (f.cells pa pc oa oc),.int .i64 4] w fun e w'=>e=.returned (.int .i64 (lim true false f.q []))/\Below w.heap.size w w':=by
 have HL:Hid (∀W,Calls prog 227 #[.string ⟨f.q.toArray⟩,.string ⟨([49]:List UInt8).toArray⟩] W fun e w'=>e=.returned (.int .i64 (lim true false f.q []))/\w'=W):=fun W=>pO f.q true W ht.q
 obtain⟨z,hz⟩:∃z,z=lim true false f.q []:=⟨_,rfl⟩
 rw[<-hz] at HL ⊢;clear hz;obtain⟨key,stamp,cancelled,day,kind,ins,other,cur,target,fq,amt,fee,price,ratio,share,picks,os,choice⟩:=f;unfold aE.cells at *;dsimp only at *;go_enter func173,ntmps173;go_wp2_with fail;refine(HL.out _).mono ?_;rintro e w1 ⟨rfl,rfl⟩;go_wp2;go_ret;exact⟨rfl,aB w _⟩
theorem Td(f:aE)(pa oa:Option Addr)(pc oc:Nat)(w:World)(ht:f.tight):
  Calls prog 173 #[.agg (f.cells pa pc oa oc),.int .i64 5] w fun e w'=>e=.returned (.int .i64 (lim (decide (¬ (f.kind=3∨f.kind=4))) false f.amt []))/\Below w.heap.size w w':=by
 have HL:=Hd (fun W=>pO f.amt (decide (¬ (f.kind=3∨f.kind=4))) W ht.amt);have HM:=Hd (fun W=>Jb f.kind W);generalize(if decide (¬ (f.kind=3∨f.kind=4))=true then([49]:List UInt8) else[])=le at *;obtain⟨z,hz⟩:∃z,z=lim (decide (¬ (f.kind=3∨f.kind=4))) false f.amt []:=⟨_,rfl⟩
 rw[<-hz] at HL ⊢;clear hz;obtain⟨key,stamp,cancelled,day,kind,ins,other,cur,target,fq,amt,fee,price,ratio,share,picks,os,choice⟩:=f;unfold aE.cells at *;dsimp only at *;have HX:=Hd (aP.new0 w #[.string ⟨key.toArray⟩,.int .i64 stamp,.bool cancelled,.int .i64 day,.int .i64 kind,.string ⟨ins.toArray⟩,.string ⟨other.toArray⟩,.string ⟨cur.toArray⟩,.string ⟨target.toArray⟩,.string ⟨fq.toArray⟩,.string ⟨amt.toArray⟩,.string ⟨fee.toArray⟩,.string ⟨price.n.toArray⟩,.string ⟨price.d.toArray⟩,.string ⟨ratio.n.toArray⟩,.string ⟨ratio.d.toArray⟩,.string ⟨share.n.toArray⟩,.string ⟨share.d.toArray⟩,.slice pa picks.length pc,.slice oa os.length oc,.int .i64 choice] 59);have k4:=HX.out.cell 4;have k10:=HX.out.cell 10;go_enter func173,ntmps173;go_wp2_with fail;go_quiet (first|(go_at_call 228;refine Calls.quiet_of_same (HM.out _))|(go_at_call 227;refine Calls.quiet_of_same (HL.out _)));go_wp2;go_ret;exact⟨rfl,aD (aB w _) _⟩
theorem Tc(f:aE)(pa oa:Option Addr)(pc oc:Nat)(w:World)(ht:f.tight):
  Calls prog 173 #[.agg (f.cells pa pc oa oc),.int .i64 6] w fun e w'=>e=.returned (.int .i64 (lim false false f.fee []))/\Below w.heap.size w w':=by
 have HL:Hid (∀W,Calls prog 227 #[.string ⟨f.fee.toArray⟩,.string ⟨#[]⟩] W fun e w'=>e=.returned (.int .i64 (lim false false f.fee []))/\w'=W):=fun W=>pO f.fee false W ht.fee
 obtain⟨z,hz⟩:∃z,z=lim false false f.fee []:=⟨_,rfl⟩
 rw[<-hz] at HL ⊢;clear hz;obtain⟨key,stamp,cancelled,day,kind,ins,other,cur,target,fq,amt,fee,price,ratio,share,picks,os,choice⟩:=f;unfold aE.cells at *;dsimp only at *;go_enter func173,ntmps173;go_wp2_with fail;refine(HL.out _).mono ?_;rintro e w1 ⟨rfl,rfl⟩;go_wp2;go_ret;exact⟨rfl,aB w _⟩
theorem fL{f:bZ}(h:bI f=false):f.n.length<=13/\f.d.length<=13:=by
 unfold bI at h;simp at h;exact⟨by omega,by omega⟩
theorem Tb(f:aE)(pa oa:Option Addr)(pc oc:Nat)(w:World)(ht:f.tight):
  Calls prog 173 #[.agg (f.cells pa pc oa oc),.int .i64 7] w fun e w'=>e=.returned (.int .i64 (lim (decide (f.kind=5∨f.kind=13)) false f.price.n f.price.d))/\Below w.heap.size w w':=by
 have HL:=Hd (fun W=>gD f.price.n f.price.d (decide (f.kind=5∨f.kind=13)) W (fL ht.price).1 (fL ht.price).2);obtain⟨z,hz⟩:∃z,z=lim (decide (f.kind=5∨f.kind=13)) false f.price.n f.price.d:=⟨_,rfl⟩
 rw[<-hz] at HL ⊢;clear hz;obtain⟨key,stamp,cancelled,day,kind,ins,other,cur,target,fq,amt,fee,price,ratio,share,picks,os,choice⟩:=f;unfold aE.cells at *;dsimp only at *;rcases(show kind=5∨kind=13∨(kind≠5/\kind≠13) by omega) with rfl|rfl|⟨h1,h2⟩
 ·have e:decide ((5:Int)=5∨(5:Int)=13)=true:=rfl;rw[e] at HL;clear e;go_enter func173,ntmps173;go_wp2_with fail;refine(HL.out _).mono ?_;rintro e w1 ⟨rfl,hb⟩;have HB:=Hd (aA (aB w _) hb);clear hb;go_wp2;go_ret;exact⟨rfl,HB.out⟩
 ·have e:decide ((13:Int)=5∨(13:Int)=13)=true:=rfl;rw[e] at HL;clear e;go_enter func173,ntmps173;go_wp2_with fail;refine(HL.out _).mono ?_;rintro e w1 ⟨rfl,hb⟩;have HB:=Hd (aA (aB w _) hb);clear hb;go_wp2;go_ret;exact⟨rfl,HB.out⟩
 ·have e:decide (kind=5∨kind=13)=false:=by simp[h1,h2]
  rw[e] at HL;have e1:(kind==5)=false:=by simpa using h1
  have e2:(kind==13)=false:=by simpa using h2
  clear e h1 h2;go_enter func173,ntmps173;go_wp2_with fail;refine(HL.out _).mono ?_;rintro e w1 ⟨rfl,hb⟩;have HB:=Hd (aA (aB w _) hb);clear hb;go_wp2;go_ret;exact⟨rfl,HB.out⟩
theorem Ta(f:aE)(pa oa:Option Addr)(pc oc:Nat)(w:World)(ht:f.tight):
  Calls prog 173 #[.agg (f.cells pa pc oa oc),.int .i64 8] w fun e w'=>e=.returned (.int .i64 (lim true false f.ratio.n f.ratio.d))/\Below w.heap.size w w':=by
 have HL:=Hd (fun W=>gD f.ratio.n f.ratio.d true W (fL ht.ratio).1 (fL ht.ratio).2);obtain⟨z,hz⟩:∃z,z=lim true false f.ratio.n f.ratio.d:=⟨_,rfl⟩
 rw[<-hz] at HL ⊢;clear hz;obtain⟨key,stamp,cancelled,day,kind,ins,other,cur,target,fq,amt,fee,price,ratio,share,picks,os,choice⟩:=f;unfold aE.cells at *;dsimp only at *;go_enter func173,ntmps173;go_wp2_with fail;refine(HL.out _).mono ?_;rintro e w1 ⟨rfl,hb⟩;have HB:=Hd (aA (aB w _) hb);clear hb;go_wp2;go_ret;exact⟨rfl,HB.out⟩
theorem Pw(f:aE)(pa oa:Option Addr)(pc oc:Nat)(w:World)(ht:f.tight)(hb0:f.Behind w pa oa):
  Calls prog 173 #[.agg (f.cells pa pc oa oc),.int .i64 10] w fun e w'=>e=.returned (.int .i64 (jF f))/\Below w.heap.size w w':=by
 have HL:=Hd (fun W (hbw:Below w.heap.size w W)=>Mq f pa oa pc oc W (hb0.below hbw) ht.q (fun p hp=>⟨(ht.small.pick p hp).1,ht.pick p hp⟩) ht.small.picks);obtain⟨z,hz⟩:∃z,z=jF f:=⟨_,rfl⟩
 rw[<-hz] at HL ⊢;clear hz;have HFB:=Hd (aP.new0 w (f.cells pa pc oa oc) 59);have hsz:Hid ((prog.info? 59).map (·.size)=some (f.cells pa pc oa oc).size):=aY f pa oa pc oc;generalize f.cells pa pc oa oc=cs at *;go_enter func173,ntmps173;go_wp2_with (refine wpList_load_row rfl 59 _ rfl w.heap.size rfl 59 cs (0,0) _ HFB.out.2 underlying59 rfl hsz.out ?_);refine(HL.out _ (aB w _)).mono ?_;rintro e w1 ⟨rfl,hb⟩;have HB:=Hd (aA (aB w _) hb);clear hb;go_wp2;go_ret;exact⟨rfl,HB.out⟩
theorem Pv(f:aE)(pa oa:Option Addr)(pc oc:Nat)(w:World)(ht:f.tight)(hb0:f.Behind w pa oa)(hins:f.ins ≠ []):
  Calls prog 173 #[.agg (f.cells pa pc oa oc),.int .i64 11] w fun e w'=>e=.returned (.int .i64 (iP f))/\Below w.heap.size w w':=by
 have HL:=Hd (fun W (hbw:Below w.heap.size w W)=>Fk f pa oa pc oc W (hb0.below hbw) hins (fun o ho=>⟨(ht.small.option o ho).1,(fL (ht.option o ho).1).1,(fL (ht.option o ho).1).2,(fL (ht.option o ho).2.1).1,(fL (ht.option o ho).2.1).2,(fL (ht.option o ho).2.2).1,(fL (ht.option o ho).2.2).2⟩) ht.small.options);obtain⟨z,hz⟩:∃z,z=iP f:=⟨_,rfl⟩
 rw[<-hz] at HL ⊢;clear hz;have HFB:=Hd (aP.new0 w (f.cells pa pc oa oc) 59);have hsz:Hid ((prog.info? 59).map (·.size)=some (f.cells pa pc oa oc).size):=aY f pa oa pc oc;generalize f.cells pa pc oa oc=cs at *;go_enter func173,ntmps173;go_wp2_with (refine wpList_load_row rfl 59 _ rfl w.heap.size rfl 59 cs (0,0) _ HFB.out.2 underlying59 rfl hsz.out ?_);refine(HL.out _ (aB w _)).mono ?_;rintro e w1 ⟨rfl,hb⟩;have HB:=Hd (aA (aB w _) hb);clear hb;go_wp2;go_ret;exact⟨rfl,HB.out⟩
theorem Pt(f:aE)(pa oa:Option Addr)(pc oc:Nat)(w:World):
  Calls prog 173 #[.agg (f.cells pa pc oa oc),.int .i64 12] w fun e w'=>e=.returned (.int .i64 (if f.choice<0 then 2 else 0))/\Below w.heap.size w w':=by
 obtain⟨key,stamp,cancelled,day,kind,ins,other,cur,target,fq,amt,fee,price,ratio,share,picks,os,choice⟩:=f;unfold aE.cells;dsimp only
 by_cases h:choice<0
 ·rw[if_pos h];go_enter func173,ntmps173;go_wp2;go_ret;exact⟨rfl,aB w _⟩
 ·rw[if_neg h];go_enter func173,ntmps173;go_wp2;go_ret;exact⟨rfl,aB w _⟩
end
section
open Go Go.RowKit Num
theorem Qn{n d:List UInt8}(hn:n.length<=13)(hd:d.length<=13):(lim false false n d≠0->lim false true n d=lim false false n d)/\(lim false false n d=0->lim false true n d=if 0<nE n d [49] [] then 2 else 0):=by
 rw[tO hn hd,Ue hn hd];cases Cu n d with
 |false=>simp
 |true =>
  by_cases h:nE n d [] []<0
  ·simp[h]
  ·simp[h]
theorem Sz(f:aE)(pa oa:Option Addr)(pc oc:Nat)(w:World)(ht:f.tight):
  Calls prog 173 #[.agg (f.cells pa pc oa oc),.int .i64 9] w fun e w'=>e=.returned (.int .i64 (lim false true f.share.n f.share.d))/\Below w.heap.size w w':=by
 obtain⟨l1,l2⟩:=fL ht.share;have HN:=Hd (fun W=>gD f.share.n f.share.d false W l1 l2);have HR:=Hd (fun W=>Fj W);have HC:=Hd (fun W=>rX f.share.n f.share.d [49] [] W (by omega) (by omega) (by simp) (by simp));obtain⟨e1,e2⟩:=Qn l1 l2;obtain⟨key,stamp,cancelled,day,kind,ins,other,cur,target,fq,amt,fee,price,ratio,⟨n,d⟩,picks,os,choice⟩:=f;dsimp only at *;obtain⟨res,hres⟩:∃res,res=lim false true n d:=⟨_,rfl⟩
 rw[<-hres] at e1 e2 ⊢;clear hres ht l1 l2;generalize lim false false n d=z at *;generalize nE n d [49] []=s at *;unfold aE.cells;dsimp only;have HX:=Hd (aP.new0 w #[.string ⟨key.toArray⟩,.int .i64 stamp,.bool cancelled,.int .i64 day,.int .i64 kind,.string ⟨ins.toArray⟩,.string ⟨other.toArray⟩,.string ⟨cur.toArray⟩,.string ⟨target.toArray⟩,.string ⟨fq.toArray⟩,.string ⟨amt.toArray⟩,.string ⟨fee.toArray⟩,.string ⟨price.n.toArray⟩,.string ⟨price.d.toArray⟩,.string ⟨ratio.n.toArray⟩,.string ⟨ratio.d.toArray⟩,.string ⟨n.toArray⟩,.string ⟨d.toArray⟩,.slice pa picks.length pc,.slice oa os.length oc,.int .i64 choice] 59)
 by_cases hz:z=0
 ·have hr:=Hd (e2 hz);clear e1 e2;subst hz;go_enter func173,ntmps173;go_wp2_with fail;refine(HN.out _).mono ?_;rintro e w1 ⟨rfl,hb⟩;have HX1:=Hd (HX.out.below hb);have HB1:=Hd (aA (aB w _) hb);have k16:=HX1.out.cell 16;have k17:=HX1.out.cell 17;have HR2:Hid (∀k,Calls prog 230 #[.int .i64 1,.int .i64 1] (w1.drewN k) fun e w'=>e=.returned (.agg #[.string ⟨([49]:List UInt8).toArray⟩,.string ⟨#[]⟩])/\Below w1.heap.size w1 w'):=fun k =>
   (HR.out _).mono fun e w' ⟨h1,h2⟩=>⟨h1,(aD (Br _ _) k).trans h2⟩
  clear hb HX;go_wp2_with fail;go_region_held3 (fun W=>W.cell? ⟨w.heap.size,16,none⟩=some (.string ⟨n.toArray⟩)/\W.cell? ⟨w.heap.size,17,none⟩=some (.string ⟨d.toArray⟩)) (first|exact⟨k16,k17⟩|go_keep)
   (first|(go_at_call 230;refine(HR2.out 1).mono ?_;rintro e w5 ⟨rfl,hb5⟩;have HX5:=Hd (HX1.out.below hb5);have k16:=HX5.out.cell 16;have k17:=HX5.out.cell 17;have HB5:=Hd (aA HB1.out hb5);clear hb5)|(go_at_call 75;refine(HC.out _).mono ?_;rintro e w6 ⟨rfl,hb6⟩;have k16:=(HX5.out.below hb6).cell 16;have k17:=(HX5.out.below hb6).cell 17;have HB6:=Hd (aA HB5.out hb6);clear hb6))
  by_cases hs:0<s
  ·have hr2:Hid (res=2):=by have h:=hr.out;rw[if_pos hs] at h;exact h
   go_wp2;go_ret;exact⟨by rw[hr2.out];rfl,HB6.out⟩
  ·have hr2:Hid (res=0):=by have h:=hr.out;rw[if_neg hs] at h;exact h
   go_wp2;go_ret;exact⟨by rw[hr2.out];rfl,HB6.out⟩
 ·have hr:=Hd (e1 hz);have hzb:(z != 0)=true:=by simpa using hz
  clear e1 e2 hz;go_enter func173,ntmps173;go_wp2_with fail;refine(HN.out _).mono ?_;rintro e w1 ⟨rfl,hb⟩;have HB1:=Hd (aA (aB w _) hb);clear hb;go_wp2;go_ret;exact⟨by rw[hr.out];rfl,HB1.out⟩
end
section
open Go.RowKit Num
def dN(f:aE)(i:Nat):Int :=
 if i=0 then fA f.ins else if i=1 then gM f (decide (f.kind=7∨f.kind=16)) else if i=2 then(if fV f.cur=true then 0 else 12) else if i=3 then fA f.target
 else if i=4 then lim true false f.q [] else if i=5 then lim (decide (¬ (f.kind=3∨f.kind=4))) false f.amt [] else if i=6 then lim false false f.fee []
 else if i=7 then lim (decide (f.kind=5∨f.kind=13)) false f.price.n f.price.d else if i=8 then lim true false f.ratio.n f.ratio.d else if i=9 then lim false true f.share.n f.share.d
 else if i=10 then jF f else if i=11 then iP f else if f.choice<0 then 2 else 0
theorem xZ(f:aE)(pa oa:Option Addr)(pc oc:Nat)(i:Nat)(hi:i<13)(w:World)(ht:f.tight)(hb:f.Behind w pa oa)(hins:i=11->f.ins ≠ []):
  Calls prog 173 #[.agg (f.cells pa pc oa oc),.int .i64 (i:Int)] w fun e w'=>e=.returned (.int .i64 (dN f i))/\Below w.heap.size w w':=by
 match i,hi with
 |0,_=>exact Ti f pa oa pc oc w ht
 |1,_=>exact Th f pa oa pc oc w ht
 |2,_=>exact Tg f pa oa pc oc w ht
 |3,_=>exact Tf f pa oa pc oc w ht
 |4,_=>exact Te f pa oa pc oc w ht
 |5,_=>exact Td f pa oa pc oc w ht
 |6,_=>exact Tc f pa oa pc oc w ht
 |7,_=>exact Tb f pa oa pc oc w ht
 |8,_=>exact Ta f pa oa pc oc w ht
 |9,_=>exact Sz f pa oa pc oc w ht
 |10,_=>exact Pw f pa oa pc oc w ht hb
 |11,_=>exact Pv f pa oa pc oc w ht hb (hins rfl)
 |12,_=>exact Pt f pa oa pc oc w
theorem Kc{f:aE}{p:Int×bH}(hf:aX.find? (fun q=>q.1==f.kind)=some p){i:Nat}(hi:i<13)(hc:p.2.has.getD i false=true):dN f i=bT f p.2 i:=by
 rcases jV f.kind with h|h|h|h|h|h|h|h|h|h|h|h|h|h|h|h|h|h|⟨h1,h2,h3,h4,h5,h6,h7,h8,h9,h10,h11,h12,h13,h14,h15,h16,h17,h18⟩
 all_goals first
  |(
   rw[h] at hf;have hf2:some _=some p:=hf;injection hf2 with hf2
   subst hf2
   match i,hi with
   |0,_=>first|(exfalso;revert hc;decide)|(unfold dN bT aE.num;first|(simp;done)|simp[h])
   |1,_=>first|(exfalso;revert hc;decide)|(unfold dN bT aE.num;first|(simp;done)|simp[h])
   |2,_=>first|(exfalso;revert hc;decide)|(unfold dN bT aE.num;first|(simp;done)|simp[h])
   |3,_=>first|(exfalso;revert hc;decide)|(unfold dN bT aE.num;first|(simp;done)|simp[h])
   |4,_=>first|(exfalso;revert hc;decide)|(unfold dN bT aE.num;first|(simp;done)|simp[h])
   |5,_=>first|(exfalso;revert hc;decide)|(unfold dN bT aE.num;first|(simp;done)|simp[h])
   |6,_=>first|(exfalso;revert hc;decide)|(unfold dN bT aE.num;first|(simp;done)|simp[h])
   |7,_=>first|(exfalso;revert hc;decide)|(unfold dN bT aE.num;first|(simp;done)|simp[h])
   |8,_=>first|(exfalso;revert hc;decide)|(unfold dN bT aE.num;first|(simp;done)|simp[h])
   |9,_=>first|(exfalso;revert hc;decide)|(unfold dN bT aE.num;first|(simp;done)|simp[h])
   |10,_=>first|(exfalso;revert hc;decide)|(unfold dN bT aE.num;first|(simp;done)|simp[h])
   |11,_=>first|(exfalso;revert hc;decide)|(unfold dN bT aE.num;first|(simp;done)|simp[h])
   |12,_=>first|(exfalso;revert hc;decide)|(unfold dN bT aE.num;first|(simp;done)|simp[h]))
  |(
   exfalso;rcases Cw f.kind with⟨e,_⟩|⟨q,e,hne,_⟩
   ·rw[e] at hf;cases hf
   ·apply hne;unfold tE;simp only[beq_eq_false_iff_ne,ne_eq] at *;simp[*])
end
section
open Go Go.RowKit Num
theorem We(d:Int)(w:World):Calls prog 73 #[.int .i64 d] w fun e w'=>e=.returned (.int .i64 (if d < -25567∨84005<d then 13 else 0))/\w'=w:=by
 rcases(show d < -25567∨(¬ d < -25567/\84005<d)∨(¬ d < -25567/\¬ 84005<d) by omega) with h1|⟨h1,h2⟩|⟨h1,h2⟩
 ·rw[if_pos (.inl h1)];go_enter func73,ntmps73;go_wp2;go_ret;exact⟨rfl,rfl⟩
 ·rw[if_pos (.inr h2)];go_enter func73,ntmps73;go_wp2;go_ret;exact⟨rfl,rfl⟩
 ·rw[if_neg (by omega)];go_enter func73,ntmps73;go_wp2;go_ret;exact⟨rfl,rfl⟩
theorem Ic(f:aE)(k:bH){i:Nat}(hi:i<13):bS f k ((List.range 13).drop i)=if bX f k i≠0 then bX f k i else bS f k ((List.range 13).drop (i+1)):=by
 rw[List.drop_eq_getElem_cons (by simpa using hi),List.getElem_range];rfl
end
end Go.Proofs.YtejkibnaidiklaaGreatDoor
