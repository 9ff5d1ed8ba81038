/- OrS Word13 WordP13 WordO13 WordAll13 -/
import Derived.Test.YthjekgfoidmagaaGreatDoorUEncP
import Derived.Deep.AppendLies
set_option maxHeartbeats 16000000
set_option maxRecDepth 100000
namespace Go.Proofs.YthjekgfoidmagaaGreatDoor
open Go.Proofs.Tryz
section
open Go Go.RowKit Num
theorem bM7(x:List UInt8)(g:Nat)(w:World)(hb:aP w g #[.string ⟨x.toArray⟩,.string ⟨#[45]⟩] 9):Calls prog 120 #[.slice (some ⟨g,0,none⟩) 2 2] w fun e w'=>e=.returned (.string ⟨(bFd x).toArray⟩)/\w=w':=by
 have c0:=(hb.cell 0).trans (show _=some (.string ⟨x.toArray⟩) from rfl);have c1:=(hb.cell 1).trans (show _=some (.string ⟨#[45]⟩) from rfl);clear hb;unfold bFd
 by_cases hx:x=[]
 ·subst hx;rw[if_pos rfl];go_enter func120,ntmps120;go_wp2_with fail;go_loopw [8] (fun iv wr=>∃k:Nat,iv=.int .i64 k/\wr=w/\(k=0∨k=1)) (fun iv _=>2-(intOf iv).toNat)
  case atStart=>exact⟨0,rfl,rfl,.inl rfl⟩
  case round =>
   obtain⟨k,rfl,rfl,H⟩:=hrel;rcases H with rfl|rfl
   ·go_wp2;go_roundw
    case rel=>exact⟨1,by go_num,by trivial,.inr rfl⟩
    case measure=>simp[intOf]
   ·go_wp2;go_ret;exact⟨rfl,rfl⟩
 ·rw[if_neg hx];have hx':(x == [])=false:=by simpa using hx
  clear hx;go_enter func120,ntmps120;go_wp2_with fail;go_loopw [8] (fun iv wr=>iv=.int .i64 (0:Nat)/\wr=w) (fun iv _=>2-(intOf iv).toNat)
  case atStart=>exact⟨rfl,rfl⟩
  case round =>
   obtain⟨rfl,rfl⟩:=hrel;go_wp2;go_ret;exact⟨rfl,rfl⟩
end
section
open Go Go.RowKit Num
theorem bOb(f:aE)(i:Nat)(hi:i=4∨i=5∨i=6∨i=7∨i=8∨i=9)(pa oa:Option Addr)(pc oc:Nat)(w:World)(hE:iE w)(hn:(f.num i).n.length<=2000)(hd:(f.num i).d.length<=2000):
  Calls prog 59 #[.agg (f.cells pa pc oa oc),.int .i64 (i:Int)] w fun e w'=>e=.returned (.string ⟨(bD8 f i).toArray⟩)/\Below w.heap.size w w':=by
 have HV:=Hd (fun W=>bBv f i hi pa oa pc oc W);have HP:=Hd (fun W hE=>bGc (f.num i).n (f.num i).d W hE hn hd);have hz:bD8 f i=bEb (eT (val (f.num i).n) (lU (f.num i).d)) (fT (val (f.num i).n) (lU (f.num i).d)):=by rcases hi with rfl|rfl|rfl|rfl|rfl|rfl <;> rfl
 rw[hz];generalize bEb (eT (val (f.num i).n) (lU (f.num i).d)) (fT (val (f.num i).n) (lU (f.num i).d))=p at *;have HE:=Hd hE;clear hz hn hd hE;unfold bZ.agg at HV;generalize f.num i=x at *;obtain⟨n,d⟩:=x;dsimp only at *;have HFB:=Hd (aP.new0 w (f.cells pa pc oa oc) 29);have hsz:Hid ((prog.info? 29).map (·.size)=some (f.cells pa pc oa oc).size):=aY f pa oa pc oc;generalize f.cells pa pc oa oc=cs at *;rcases hi with rfl|rfl|rfl|rfl|rfl|rfl
 all_goals
  go_enter func59,ntmps59;go_wp2_with (refine wpList_load_row rfl 29 _ rfl w.heap.size rfl 29 cs (0,0) _ HFB.out.2 underlying29 rfl hsz.out ?_);refine(HV.out _).mono ?_;rintro e w1 ⟨rfl,hb1⟩;have HB1:=Hd (aA (aB w _) hb1);clear hb1;go_wp2_with fail;refine(HP.out _ (HE.out.below HB1.out)).mono ?_;rintro e w2 ⟨rfl,hb2⟩;have HB2:=Hd (aA HB1.out hb2);clear hb2;go_wp2;go_ret;exact⟨rfl,HB2.out⟩
theorem bOa(f:aE)(i:Nat)(hi:i=0∨i=1∨i=2∨i=3)(pa oa:Option Addr)(pc oc:Nat)(w:World):
  Calls prog 59 #[.agg (f.cells pa pc oa oc),.int .i64 (i:Int)] w fun e w'=>e=.returned (.string ⟨(bD8 f i).toArray⟩)/\Below w.heap.size w w':=by
 unfold aE.cells;obtain⟨key,stamp,cancelled,day,kind,ins,other,cur,target,fq,amt,fee,price,ratio,share,picks,os,choice⟩:=f;dsimp only;rcases hi with rfl|rfl|rfl|rfl
 all_goals
  go_enter func59,ntmps59;go_wp2;go_ret;exact⟨rfl,aB w _⟩
theorem bKu(f:aE)(pa oa:Option Addr)(pc oc:Nat)(w:World)(hE:iE w)(h0:-9223372036854775808<=f.choice)(h1:f.choice<=9223372036854775807):
  Calls prog 59 #[.agg (f.cells pa pc oa oc),.int .i64 12] w fun e w'=>e=.returned (.string ⟨(bD8 f 12).toArray⟩)/\Below w.heap.size w w':=by
 have HI:=Hd (fun W hE=>Uj f.choice h0 h1 W hE);have HE:=Hd hE;rw[show bD8 f 12=Lib.itoa f.choice from rfl];clear h0 h1 hE;generalize Lib.itoa f.choice=c at *;unfold aE.cells;obtain⟨key,stamp,cancelled,day,kind,ins,other,cur,target,fq,amt,fee,price,ratio,share,picks,os,choice⟩:=f;dsimp only at *;have HB0:Hid (∀o,Below w.heap.size w (w.alloc o)):=fun o=>aB w o
 go_enter func59,ntmps59;go_wp2_with fail;refine(HI.out _ (HE.out.below (HB0.out _))).mono ?_;rintro e w1 ⟨rfl,hb1⟩;have HB1:=Hd (aA (HB0.out _) hb1);clear hb1;go_wp2;go_ret;exact⟨rfl,HB1.out⟩
end
section
open Go Go.RowKit Num
def bDf(l:List (List UInt8)):List Value:=l.map fun s=>.string ⟨s.toArray⟩
theorem bGr:(prog.info? 9).map (fun i=>(i.zero,i.size,i.bytes))=some (some (.string ⟨#[]⟩),1,16):=by kernel_rfl
theorem bDu{w w':World}{base n:Nat}{e:TypeId}{size:Nat}{v:Value}{xs:List Value}(h:w.ownsRow base e size v n xs)(hb:Below w.heap.size w w'):w'.ownsRow base e size v n xs :=
 h.kept (row:=none) ⟨hb.os,hb.tape,hb.output,hb.size,fun k hk _=>hb.block k hk⟩ (Classical.em _)
theorem bFv{w:World}{a:Addr}{v:Value}{o:Obj}(h:w.cell? a=some v):(w.alloc o).cell? a=some v:=Lib.cell?_alloc_some _ h
theorem bF9{w:World}{base n:Nat}{e:TypeId}{v:Value}{ls:List (List UInt8)}(h:w.ownsRow base e 1 v n (bDf ls)):∃a cap,v=.slice a ls.length cap/\ls.length<=cap/\(ls=[]∨∃b off,a=some ⟨b,off,none⟩/\b<w.heap.size/\∀j x,ls[j]?=some x->w.cell? ⟨b,off+j,none⟩=some (.string ⟨x.toArray⟩)):=by
 obtain⟨h1,h2⟩:=h;have hn:n=ls.length:=by rw[Nat.mul_one] at h1;rw[<-h1];simp[bDf]
 subst hn;rcases h2 with⟨hv,h0⟩|⟨g,cap,cur,hv,hg,hh,hc,hm,hs,ht⟩
 ·exact⟨none,0,by rw[hv,h0],by omega,.inl (List.length_eq_zero_iff.1 h0)⟩
 ·refine⟨_,cap,hv,hc,.inr ⟨g,0,rfl,(Ai.1 hh).1,fun j x hx=>?_⟩⟩;have hj:=(Li.1 hx).1;rw[Nat.zero_add,aS hh,<-Array.getElem?_toList];have:(bDf ls)[j]?=some (.string ⟨x.toArray⟩):=by unfold bDf;rw[List.getElem?_map,hx];rfl
  rw[<-this,<-ht];rw[List.getElem?_take_of_lt (by omega)]
attribute [local go_sem] eW aV
theorem bKh{p:bJ}(h1:p.lot.length<=1000)(h2:(bDr (val p.q)).length<=700):(bDg p).length<=1701:=by
 unfold bDg;rw[List.length_append,List.length_cons];omega
theorem bLj(f:aE)(pa oa:Option Addr)(pc oc:Nat)(w:World)(hr:gJ w pa 2 (f.picks.map bJ.cells))(hn:f.picks.length<=1000)(hs:∀p,p∈f.picks->p.lot.length<=1000/\p.q.length<=400)
  (hjl:(bDo 44 (f.picks.map bDg)).length<=100000000) :
  Calls prog 59 #[.agg (f.cells pa pc oa oc),.int .i64 10] w fun e w'=>e=.returned (.string ⟨(bD8 f 10).toArray⟩)/\Below w.heap.size w w':=by
 obtain⟨i0,hi,hz0,hz1,hz2⟩:=info_parts bGr;have HINF:=Hd (And.intro hi (And.intro hz0 (And.intro hz1 hz2)));have HR:=Hd hr;have HS:=Hd hs;have HJ:=Hd hjl;rw[show bD8 f 10=bFd (bDo 44 (f.picks.map bDg)) from rfl];clear hi hz0 hz1 hz2 hr hs hjl;unfold aE.cells;obtain⟨key,stamp,cancelled,day,kind,ins,other,cur,target,fq,amt,fee,price,ratio,share,ps,os,choice⟩:=f;dsimp only at *;have HB0:Hid (∀o,Below w.heap.size w (w.alloc o)):=fun o=>aB w o
 go_enter func59,ntmps59;go_wp2_with fail;go_loopw [5,38] (fun lv iv wr=>∃k:Nat,k<=ps.length/\iv=.int .i64 k/\Hid (wr.ownsRow w.heap.size 9 1 lv k (bDf ((ps.take k).map bDg)))/\Hid (Below w.heap.size w wr)) (fun _ iv _=>ps.length-(intOf iv).toNat)
 case atStart=>exact⟨0,Nat.zero_le _,rfl,World.ownsRow_nil _ _ _ _,HB0.out _⟩
 case round =>
  obtain⟨k,hk,rfl,HO,HB⟩:=hrel
  by_cases hlt:k<ps.length
  ·obtain⟨p,hx⟩:∃p,ps[k]?=some p:=⟨ps[k],Lg hlt⟩
   obtain⟨b',off,ha,hb',hc⟩:=(HR.out.below HB.out).addr (k:=k) (cs:=p.cells) (by simp[hx]);subst ha;have c0:wr.cell? ⟨b',off+k*2,none⟩=some (.string ⟨p.lot.toArray⟩):=hc 0 _ rfl;have c1:wr.cell? ⟨b',off+k*2+1,none⟩=some (.string ⟨p.q.toArray⟩):=hc 1 _ rfl;obtain⟨s1,s2⟩:=HS.out p (List.mem_of_getElem? hx);have HP:=Hd (fun W=>bFm p.q W (by omega));have hpl:(bDr (val p.q)).length<=700:=bEl (Nat.le_trans (bWk (K:=400) (by decide) s2) (by decide)) (by decide);have HNX:Hid (bDf ((ps.take (k+1)).map bDg)=bDf ((ps.take k).map bDg) ++ [.string ⟨(p.lot++58::bDr (val p.q)).toArray⟩]):=by
    show _=_;rw[List.take_add_one,hx];simp[bDf,bDg]
   have KP:=Hd (aP.new0 wr #[.string ⟨p.lot.toArray⟩,.string ⟨p.q.toArray⟩] 83);have BP:=Hd (aB wr (.cells #[.string ⟨p.lot.toArray⟩,.string ⟨p.q.toArray⟩] 83));generalize bDr (val p.q)=pt at *;have hc1:¬ (9223372036854775807<p.lot.length+1):=by omega
   have hc2:¬ (9223372036854775807<=p.lot.length):=by omega
   have hc3:¬ (9223372036854775807<p.lot.length+1+pt.length):=by omega
   have hc4:¬ (9223372036854775807<p.lot.length+(pt.length+1)):=by omega
   clear hc hx;have hsz:=HB.out.size;have hrow:∀q,some q=Value.ownBlock _->w.heap.size<=q/\q<wr.heap.size:=fun q hq=>HO.out.lt q hq.symm
   go_wp2_with fail;go_region_held3 (fun W=>W.cell? ⟨wr.heap.size,0,none⟩=some (.string ⟨p.lot.toArray⟩)/\W.cell? ⟨wr.heap.size,1,none⟩=some (.string ⟨p.q.toArray⟩))
    (first|exact⟨KP.out.cell 0,KP.out.cell 1⟩|exact⟨k0,k1⟩|exact⟨g0,g1⟩|go_keep)
    (first
     |(go_at_call 119;refine(HP.out _).mono ?_;rintro e w5 ⟨rfl,hb5⟩;have hA5:=aA (aD (Br _ _) 1) hb5;have KP5:=KP.out.below hA5;have k0:=KP5.cell 0;have k1:=KP5.cell 1;have hB5:=aA BP.out hA5;have HO5:=Hd (bDu HO.out hB5);have HB5:=Hd (aA HB.out hB5);have hk5:=KP5.1;clear hb5 hA5)
     |(refine step_append_lies _ (by rfl) _ _ _ (by rfl) w.heap.size 9 i0 _ 1 16 underlying36 HINF.out.1 HINF.out.2.1 HINF.out.2.2.1 HINF.out.2.2.2 rfl (by omega) _ k (bDf ((ps.take k).map bDg)) (by rfl) (HO5.out.alloc _) ⟨w5.heap.size,0,none⟩ 1 1 [.string ⟨(p.lot++58::pt).toArray⟩] (by rfl) (by rfl) (World.news_of_block (cs:=#[.string ⟨(p.lot++58::pt).toArray⟩]) (t:=9) (fr:=(0,0)) (heap_alloc_new w5 _)) (by simp[Value.oneCell']) (by omega) (by unfold maxLen;omega) (by omega) (by have:=HB5.out.size;simp;omega) (w5.heap.size+1) (by simp) ?_;intro gg cap w6 hown6 hgrow hat hltg;have g0:=(hgrow.cell_far ⟨wr.heap.size,0,none⟩ (by simp;omega) (fun e=>absurd (hrow _ e).2 (Nat.lt_irrefl _))).trans ((bFv k0));have g1:=(hgrow.cell_far ⟨wr.heap.size,1,none⟩ (by simp;omega) (fun e=>absurd (hrow _ e).2 (Nat.lt_irrefl _))).trans ((bFv k1))))
   all_goals
    have HB6:=Hd ((aA HB5.out (aB w5 (.cells #[.string ⟨(p.lot++58::pt).toArray⟩] 9))).grown hgrow (by have:=HB5.out.size;simp;omega) (fun q hq=>(hrow q hq.symm).1));have HO6:=Hd hown6;clear hown6 hgrow hat hltg g0 g1 k0 k1 KP5 hB5 hk5;go_wp2;go_roundw
    case rel=>exact⟨k+1,by omega,by go_num,by show World.ownsRow _ _ _ _ _ _ _;rw[HNX.out];exact HO6.out,HB6⟩
    case measure=>simp[intOf];omega
  ·obtain rfl:k=ps.length:=by omega
   have ho:=HO.out;rw[List.take_length] at ho;obtain⟨a,cap,rfl,hcap,hcell⟩:=bF9 ho;have HJN:=Hd (bF5 (ps.map bDg) a cap 44 wr hcap HJ.out hcell);have HOR:=Hd (fun x g W hb=>bM7 x g W hb);generalize hjw:bDo 44 (ps.map bDg)=jw at *;have HJW:=Hd hjw;generalize(ps.map bDg).length=m at *;clear ho hcap hcell HO HJ hk hlt HS HR hjw;go_wp2_with fail;refine HJN.out.mono ?_;rintro e w2 ⟨rfl,hb2⟩;have HB2:=Hd (aA HB.out hb2);have KO:=Hd (aP.new0 w2 #[.string ⟨jw.toArray⟩,.string ⟨#[45]⟩] 9);have HB3:=Hd (aA HB2.out (aB w2 (.cells #[.string ⟨jw.toArray⟩,.string ⟨#[45]⟩] 9)));clear hb2;go_wp2_with fail;refine(HOR.out jw _ _ KO.out).mono ?_;rintro e w3 ⟨rfl,rfl⟩;go_wp2;go_ret;exact⟨by rw[HJW.out];rfl,HB3.out⟩
end
section
open Go Go.RowKit Num
theorem bNj{W:World}{g:Nat}{T:TypeId}{ls:List (List UInt8)}(h:aP W g (bDf ls).toArray T):∀j x,ls[j]?=some x->W.cell? ⟨g,0+j,none⟩=some (.string ⟨x.toArray⟩):=fun j x hx=>by
 rw[Nat.zero_add,h.cell j,List.getElem?_toArray];unfold bDf;rw[List.getElem?_map,hx];rfl
theorem bG8{f:bZ}(h:f.small):(bDj f).length<=4003:=by
 have l1:(aJ (eT (val f.n) (lU f.d))).length<=2001:=uE (K:=2000) (by decide) (Sy (qQ f.d)) rfl (by have:=h.1;omega);have l2:(aJ (fT (val f.n) (lU f.d))).length<=2001:=uE (K:=2000) (by decide) (Tk (qQ f.d)) (iH f.d).symm (qR (K:=2000) (by decide) (by have:=h.2;omega));have p1:=bEl l1 (by decide);have p2:=bEl l2 (by decide);unfold bDj bEb;split
 ·omega
 ·rw[List.length_append,List.length_cons];omega
theorem bO1{l:List UInt8}(h:l.length<=1000):(bFd l).length<=1000:=by
 unfold bFd;split
 ·simp
 ·exact h
theorem bIj{o:eJ}(h:o.other.length<=1000/\o.ratio.small/\o.price.small/\o.value.small):(bDy o).length<=20000:=by
 have h0:=bO1 h.1;have h1:=bG8 h.2.1;have h2:=bG8 h.2.2.1;have h3:=bG8 h.2.2.2;unfold bDy;rw[bGq];simp only[Lib.lens,List.map_cons,List.map_nil,List.sum_cons,List.sum_nil,List.length_cons,List.length_nil];omega
attribute [local go_sem] eW aV
theorem bNe(f:aE)(pa oa:Option Addr)(pc oc:Nat)(w:World)(hE:iE w)(hr:gJ w oa 7 (f.options.map eJ.cells))(hn:f.options.length<=1000)(hs:∀o,o∈f.options->o.other.length<=1000/\o.ratio.small/\o.price.small/\o.value.small)
  (hjl:(bDo 44 (f.options.map bDy)).length<=100000000) :
  Calls prog 59 #[.agg (f.cells pa pc oa oc),.int .i64 11] w fun e w'=>e=.returned (.string ⟨(bD8 f 11).toArray⟩)/\Below w.heap.size w w':=by
 obtain⟨i0,hi,hz0,hz1,hz2⟩:=info_parts bGr;have HINF:=Hd (And.intro hi (And.intro hz0 (And.intro hz1 hz2)));have HR:=Hd hr;have HS:=Hd hs;have HJ:=Hd hjl;have HE:=Hd hE;rw[show bD8 f 11=bDo 44 (f.options.map bDy) from rfl];clear hi hz0 hz1 hz2 hr hs hjl hE;unfold aE.cells;obtain⟨key,stamp,cancelled,day,kind,ins,other,cur,target,fq,amt,fee,price,ratio,share,ps,os,choice⟩:=f;dsimp only at *;have HB0:Hid (∀o,Below w.heap.size w (w.alloc o)):=fun o=>aB w o
 go_enter func59,ntmps59;go_wp2_with fail;go_loopw [8,62] (fun lv iv wr=>∃k:Nat,k<=os.length/\iv=.int .i64 k/\Hid (wr.ownsRow w.heap.size 9 1 lv k (bDf ((os.take k).map bDy)))/\Hid (Below w.heap.size w wr)) (fun _ iv _=>os.length-(intOf iv).toNat)
 case atStart=>exact⟨0,Nat.zero_le _,rfl,World.ownsRow_nil _ _ _ _,HB0.out _⟩
 case round =>
  obtain⟨k,hk,rfl,HO,HB⟩:=hrel
  by_cases hlt:k<os.length
  ·obtain⟨p,hx⟩:∃p,os[k]?=some p:=⟨os[k],Lg hlt⟩
   obtain⟨b',off,ha,hb',hc⟩:=(HR.out.below HB.out).addr (k:=k) (cs:=p.cells) (by simp[hx]);subst ha;have hsp:=HS.out p (List.mem_of_getElem? hx);have HOL:=Hd (bIj hsp);have HNX:Hid (bDf ((os.take (k+1)).map bDy)=bDf ((os.take k).map bDy) ++ [.string ⟨(bDo 58 [bFd p.other,bDj p.ratio,bDj p.price,bDj p.value]).toArray⟩]):=by
    show _=_;rw[List.take_add_one,hx];simp[bDf,bDy]
   have HOW:Hid ((bDo 58 [bFd p.other,bDj p.ratio,bDj p.price,bDj p.value]).length<=100000000):=by
    have:=HOL.out;show _<=_;exact Nat.le_trans this (by decide)
   have HJO:Hid (∀(a:Option Addr) (W:World),([bFd p.other,bDj p.ratio,bDj p.price,bDj p.value]=[]∨∃b off,a=some ⟨b,off,none⟩/\b<W.heap.size/\∀j x,[bFd p.other,bDj p.ratio,bDj p.price,bDj p.value][j]?=some x->W.cell? ⟨b,off+j,none⟩=some (.string ⟨x.toArray⟩))->Calls prog 56 #[.slice a 4 4,.string ⟨#[58]⟩] W fun e w'=>e=.returned (.string ⟨(bDo 58 [bFd p.other,bDj p.ratio,bDj p.price,bDj p.value]).toArray⟩)/\Below W.heap.size W w'):=fun a W hc=>bF5 [bFd p.other,bDj p.ratio,bDj p.price,bDj p.value] a 4 58 W (by simp) HOW.out hc
   obtain⟨oth,⟨rn,rd⟩,⟨pn,pd⟩,⟨vn,vd⟩⟩:=p;dsimp only[eJ.cells,bZ.small] at *;have c0:wr.cell? ⟨b',off+k*7,none⟩=some (.string ⟨oth.toArray⟩):=hc 0 _ rfl;have c1:wr.cell? ⟨b',off+k*7+1,none⟩=some (.string ⟨rn.toArray⟩):=hc 1 _ rfl;have c2:wr.cell? ⟨b',off+k*7+2,none⟩=some (.string ⟨rd.toArray⟩):=hc 2 _ rfl;have c3:wr.cell? ⟨b',off+k*7+3,none⟩=some (.string ⟨pn.toArray⟩):=hc 3 _ rfl;have c4:wr.cell? ⟨b',off+k*7+4,none⟩=some (.string ⟨pd.toArray⟩):=hc 4 _ rfl;have c5:wr.cell? ⟨b',off+k*7+5,none⟩=some (.string ⟨vn.toArray⟩):=hc 5 _ rfl;have c6:wr.cell? ⟨b',off+k*7+6,none⟩=some (.string ⟨vd.toArray⟩):=hc 6 _ rfl;have HOR:=Hd (fun g W hb=>bM7 oth g W hb);have HF1:=Hd (fun W hE=>bGc rn rd W hE (by omega) (by omega));have HF2:=Hd (fun W hE=>bGc pn pd W hE (by omega) (by omega));have HF3:=Hd (fun W hE=>bGc vn vd W hE (by omega) (by omega));rw[show bEb (eT (val rn) (lU rd)) (fT (val rn) (lU rd))=bDj ⟨rn,rd⟩ from rfl] at HF1;rw[show bEb (eT (val pn) (lU pd)) (fT (val pn) (lU pd))=bDj ⟨pn,pd⟩ from rfl] at HF2;rw[show bEb (eT (val vn) (lU vd)) (fT (val vn) (lU vd))=bDj ⟨vn,vd⟩ from rfl] at HF3;generalize bDj ⟨rn,rd⟩=t1 at *;generalize bDj ⟨pn,pd⟩=t2 at *;generalize bDj ⟨vn,vd⟩=t3 at *;generalize bFd oth=t0 at *;generalize bDo 58 [t0,t1,t2,t3]=jw at *;have KP:=Hd (aP.new0 wr #[.string ⟨oth.toArray⟩,.string ⟨rn.toArray⟩,.string ⟨rd.toArray⟩,.string ⟨pn.toArray⟩,.string ⟨pd.toArray⟩,.string ⟨vn.toArray⟩,.string ⟨vd.toArray⟩] 55);have BP:=Hd (aB wr (.cells #[.string ⟨oth.toArray⟩,.string ⟨rn.toArray⟩,.string ⟨rd.toArray⟩,.string ⟨pn.toArray⟩,.string ⟨pd.toArray⟩,.string ⟨vn.toArray⟩,.string ⟨vd.toArray⟩] 55));clear hc hx hsp;have hsz:=HB.out.size;have hrow:∀q,some q=Value.ownBlock _->w.heap.size<=q/\q<wr.heap.size:=fun q hq=>HO.out.lt q hq.symm
   have HBX:Hid (∀o n s,Below wr.heap.size wr (((wr.alloc o).drewN n).alloc s)):=fun o n s=>(aD (aB wr o) n).alloc (by simp) s
   have HBY:Hid (∀o n s,Below (wr.alloc o).heap.size (wr.alloc o) (((wr.alloc o).drewN n).alloc s)):=fun o n s=>(aD (Br _ _) n).alloc (by simp) s
   have HBOX:Hid (∀o n cs T,aP (((wr.alloc o).drewN n).alloc (.cells cs T)) (wr.heap.size+1) cs T):=fun o n cs T=>by
    have h:=aP.new0 ((wr.alloc o).drewN n) cs T
    rwa [show ((wr.alloc o).drewN n).heap.size=wr.heap.size+1 by simp] at h
   go_wp2_with fail;go_region_held3 (fun W=>W.cell? ⟨wr.heap.size,0,none⟩=some (.string ⟨oth.toArray⟩)/\W.cell? ⟨wr.heap.size,1,none⟩=some (.string ⟨rn.toArray⟩)/\W.cell? ⟨wr.heap.size,2,none⟩=some (.string ⟨rd.toArray⟩)/\W.cell? ⟨wr.heap.size,3,none⟩=some (.string ⟨pn.toArray⟩)/\W.cell? ⟨wr.heap.size,4,none⟩=some (.string ⟨pd.toArray⟩)/\W.cell? ⟨wr.heap.size,5,none⟩=some (.string ⟨vn.toArray⟩)/\W.cell? ⟨wr.heap.size,6,none⟩=some (.string ⟨vd.toArray⟩))
    (first|exact⟨KP.out.cell 0,KP.out.cell 1,KP.out.cell 2,KP.out.cell 3,KP.out.cell 4,KP.out.cell 5,KP.out.cell 6⟩|exact⟨g0,g1,g2,g3,g4,g5,g6⟩|exact⟨k0,k1,k2,k3,k4,k5,k6⟩|go_keep)
    (first
     |(go_at_call 120;refine(HOR.out _ _ (HBOX.out _ _ _ _)).mono ?_;rintro e w4 ⟨rfl,rfl⟩)
     |(go_at_call 121;refine(HF3.out _ (HE.out.below HB6.out)).mono ?_;rintro e w7 ⟨rfl,hb7⟩;have K5:=HK6.out.below hb7;have k0:=K5.cell 0;have k1:=K5.cell 1;have k2:=K5.cell 2;have k3:=K5.cell 3;have k4:=K5.cell 4;have k5:=K5.cell 5;have k6:=K5.cell 6;have HO7:=Hd (bDu HO6.out hb7);have HB7:=Hd (aA HB6.out hb7);have HK7:=Hd K5;clear hb7 K5)
     |(go_at_call 121;refine(HF2.out _ (HE.out.below HB5.out)).mono ?_;rintro e w6 ⟨rfl,hb6⟩;have K5:=HK5.out.below hb6;have k0:=K5.cell 0;have k1:=K5.cell 1;have k2:=K5.cell 2;have k3:=K5.cell 3;have k4:=K5.cell 4;have k5:=K5.cell 5;have k6:=K5.cell 6;have HO6:=Hd (bDu HO5.out hb6);have HB6:=Hd (aA HB5.out hb6);have HK6:=Hd K5;clear hb6 K5)
     |(go_at_call 121;refine(HF1.out _ (HE.out.below (aA HB.out (HBX.out _ _ _)))).mono ?_;rintro e w5 ⟨rfl,hb5⟩;have hA5:=aA (HBY.out _ _ _) hb5;have K5:=KP.out.below hA5;have k0:=K5.cell 0;have k1:=K5.cell 1;have k2:=K5.cell 2;have k3:=K5.cell 3;have k4:=K5.cell 4;have k5:=K5.cell 5;have k6:=K5.cell 6;have hB5:=aA BP.out hA5;have HO5:=Hd (bDu HO.out hB5);have HB5:=Hd (aA HB.out hB5);have HK5:=Hd K5;clear hb5 hA5 K5)
     |(go_at_call 56;refine(HJO.out (some ⟨w7.heap.size,0,none⟩) (w7.alloc (.cells #[.string ⟨t0.toArray⟩,.string ⟨t1.toArray⟩,.string ⟨t2.toArray⟩,.string ⟨t3.toArray⟩] 9)) (.inr ⟨w7.heap.size,0,rfl,by simp,bNj (aP.new0 w7 (bDf [t0,t1,t2,t3]).toArray 9)⟩)).mono ?_;rintro e w8 ⟨rfl,hb8⟩;have hA8:=aA (aB w7 (.cells #[.string ⟨t0.toArray⟩,.string ⟨t1.toArray⟩,.string ⟨t2.toArray⟩,.string ⟨t3.toArray⟩] 9)) hb8;have K5:=HK7.out.below hA8;have k0:=K5.cell 0;have k1:=K5.cell 1;have k2:=K5.cell 2;have k3:=K5.cell 3;have k4:=K5.cell 4;have k5:=K5.cell 5;have k6:=K5.cell 6;have HO8:=Hd (bDu HO7.out hA8);have HB8:=Hd (aA HB7.out hA8);have HL8:=Hd K5.1;clear hb8 hA8 K5)
     |(refine step_append_lies _ (by rfl) _ _ _ (by rfl) w.heap.size 9 i0 _ 1 16 underlying36 HINF.out.1 HINF.out.2.1 HINF.out.2.2.1 HINF.out.2.2.2 rfl (by omega) _ k (bDf ((os.take k).map bDy)) (by rfl) (HO8.out.alloc _) ⟨w8.heap.size,0,none⟩ 1 1 [.string ⟨jw.toArray⟩] (by rfl) (by rfl) (World.news_of_block (cs:=#[.string ⟨jw.toArray⟩]) (t:=9) (fr:=(0,0)) (heap_alloc_new w8 _)) (by simp[Value.oneCell']) (by omega) (by unfold maxLen;omega) (by omega) (by have:=HB8.out.size;simp;omega) (w8.heap.size+1) (by simp) ?_;intro gg cap w9 hown9 hgrow hat hltg;have hfar:=fun j v (h:w8.cell? ⟨wr.heap.size,j,none⟩=some v)=>(hgrow.cell_far ⟨wr.heap.size,j,none⟩ (by have:=HL8.out;simp;omega) (fun e=>absurd (hrow _ e).2 (Nat.lt_irrefl _))).trans (bFv h);have g0:=hfar 0 _ k0;have g1:=hfar 1 _ k1;have g2:=hfar 2 _ k2;have g3:=hfar 3 _ k3;have g4:=hfar 4 _ k4;have g5:=hfar 5 _ k5;have g6:=hfar 6 _ k6)
     |fail)
   all_goals
    have HB9:=Hd ((aA HB8.out (aB w8 (.cells #[.string ⟨jw.toArray⟩] 9))).grown hgrow (by have:=HB8.out.size;simp;omega) (fun q hq=>(hrow q hq.symm).1));have HO9:=Hd hown9;clear hown9 hgrow hat hltg g0 g1 g2 g3 g4 g5 g6 k0 k1 k2 k3 k4 k5 k6 hfar;go_wp2;go_roundw
    case rel=>exact⟨k+1,by omega,by go_num,by show World.ownsRow _ _ _ _ _ _ _;rw[HNX.out];exact HO9.out,HB9⟩
    case measure=>simp[intOf];omega
  ·obtain rfl:k=os.length:=by omega
   have ho:=HO.out;rw[List.take_length] at ho;obtain⟨a,cap,rfl,hcap,hcell⟩:=bF9 ho;have HJN:=Hd (bF5 (os.map bDy) a cap 44 wr hcap HJ.out hcell);generalize hjw:bDo 44 (os.map bDy)=jw at *;have HJW:=Hd hjw;generalize(os.map bDy).length=m at *;clear ho hcap hcell HO HJ hk hlt HS HR hjw;go_wp2_with fail;refine HJN.out.mono ?_;rintro e w2 ⟨rfl,hb2⟩;have HB2:=Hd (aA HB.out hb2);clear hb2;go_wp2;go_ret;exact⟨by rw[HJW.out];rfl,HB2.out⟩
end
section
open Go Go.RowKit Num
structure aE.lean13(f:aE):Prop where
 small:f.small
 c0:-9223372036854775808<=f.choice
 c1:f.choice<=9223372036854775807
 s0:-9223372036854775808<=f.stamp
 s1:f.stamp<=9223372036854775807
theorem bK5{c:UInt8}{K:Nat}:∀ {ls:List (List UInt8)},(∀l,l∈ls->l.length<=K)->(bDo c ls).length<=ls.length*(K+1)
 | [],_=>by simp[bDo,Lib.join,List.intercalate]
 |x::r,h=>by
  rw[bGq];have:∀ {ms:List (List UInt8)},(∀l,l∈ms->l.length<=K)->Lib.lens ms<=ms.length*K:=by
   intro ms
   induction ms with
   |nil=>intro _;simp[Lib.lens]
   |cons a t ih =>
    intro g;have h1:=g a List.mem_cons_self;have h2:=ih fun l hl=>g l (List.mem_cons_of_mem _ hl)
    unfold Lib.lens at *;rw[List.map_cons,List.sum_cons,List.length_cons,Nat.add_mul,Nat.one_mul];omega
  have h3:=this h;rw[Nat.mul_add,Nat.mul_one];simp only[List.length_cons] at *;omega
theorem bOc(f:aE)(hf:f.lean13)(i:Nat)(hi:i<13)(pa oa:Option Addr)(pc oc:Nat)(w:World)(hE:iE w)(hB:f.Behind w pa oa):
  Calls prog 59 #[.agg (f.cells pa pc oa oc),.int .i64 (i:Int)] w fun e w'=>e=.returned (.string ⟨(bD8 f i).toArray⟩)/\Below w.heap.size w w':=by
 have hs:=hf.small
 by_cases h1:i=4∨i=5∨i=6∨i=7∨i=8∨i=9
 ·have hl:(f.num i).n.length<=400/\(f.num i).d.length<=400:=by
   rcases h1 with rfl|rfl|rfl|rfl|rfl|rfl
   ·exact⟨hs.q,Nat.zero_le _⟩
   ·exact⟨hs.amt,Nat.zero_le _⟩
   ·exact⟨hs.fee,Nat.zero_le _⟩
   ·exact hs.price
   ·exact hs.ratio
   ·exact hs.share
  exact bOb f i h1 pa oa pc oc w hE (by omega) (by omega)
 ·by_cases h2:i=0∨i=1∨i=2∨i=3
  ·exact bOa f i h2 pa oa pc oc w
  ·have:i=10∨i=11∨i=12:=by omega
   rcases this with rfl|rfl|rfl
   ·refine bLj f pa oa pc oc w hB.1 hs.picks (fun p hp=>hs.pick p hp) (Nat.le_trans (bK5 (K:=1701) fun l hl=>?_) ?_)
    ·obtain⟨p,hp,rfl⟩:=List.mem_map.1 hl;obtain⟨g1,g2⟩:=hs.pick p hp;exact bKh g1 (bEl (Nat.le_trans (bWk (K:=400) (by decide) g2) (by decide)) (by decide))
    ·rw[List.length_map];have:=hs.picks;omega
   ·refine bNe f pa oa pc oc w hE hB.2 hs.options (fun p hp=>hs.option p hp) (Nat.le_trans (bK5 (K:=20000) fun l hl=>?_) ?_)
    ·obtain⟨p,hp,rfl⟩:=List.mem_map.1 hl;exact bIj (hs.option p hp)
    ·rw[List.length_map];have:=hs.options;omega
   ·exact bKu f pa oa pc oc w hE hf.c0 hf.c1
end
end Go.Proofs.YthjekgfoidmagaaGreatDoor
