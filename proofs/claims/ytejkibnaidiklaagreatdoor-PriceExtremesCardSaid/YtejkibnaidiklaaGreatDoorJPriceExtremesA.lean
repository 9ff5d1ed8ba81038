/- PriceExtremesLaw -/
import Derived.Test.YtejkibnaidiklaaGreatDoorJMem
import Derived.Test.YtejkibnaidiklaaGreatDoorJPriceExt
import Derived.Test.YtejkibnaidiklaaGreatDoorJPriceFreshA
import Derived.Test.YtejkibnaidiklaaGreatDoorJPriceC
import Derived.Test.YtejkibnaidiklaaGreatDoorJPriceA
set_option maxHeartbeats 16000000
set_option maxRecDepth 100000
namespace Go.Proofs.YtejkibnaidiklaaGreatDoor
open Go Go.RowKit Num
theorem aVs:(Tryz.prog.info? 28).map (fun i=>(i.zero,i.size,i.bytes))=some (some (.agg #[.string ⟨#[]⟩,.string ⟨#[]⟩]),2,32):=by kernel_rfl
theorem aUv{fs:List aE}(h:dF fs=0):aPk fs 0 []=0:=by
 unfold aPk;rw[h,if_neg (by simp),if_neg (by decide),if_neg (by decide)]
theorem aUr(xs:List aF)(a:Option Addr)(c:Nat)(ins:List UInt8)(fr til:Int)(w:World)(hE:iE w)(hv:gT w a c xs):
  Calls Tryz.prog 41 #[.slice a xs.length c,.string ⟨ins.toArray⟩,.agg #[.int .i64 fr,.int .i64 til]] w fun e w'=>e=.returned (.tuple #[.agg (aPf (FV (aLq (aUc (xs.map aF.f) ins fr til)))),.agg (aPf (FV (aK0 (aUc (xs.map aF.f) ins fr til)))),.int .i64 (aUk (xs.map aF.f) ins fr til)])∧Below w.heap.size w w':=by
 by_cases he:aPk (xs.map aF.f) 0 [fr,til]=0
 ·by_cases hlt:til<fr
  ·have h:=aVu xs a c ins fr til w hE hv (fun _=>hlt);unfold aUc aUk;rw[if_pos he,if_pos he,if_pos hlt,if_pos hlt];rw[if_pos he] at h;exact h
  ·have h:=aV0 xs a c ins fr til w hE hv he hlt;unfold aUc aUk;rw[if_pos he,if_pos he,if_neg hlt,if_neg hlt];exact h
 ·have h:=aVu xs a c ins fr til w hE hv (fun h=>absurd h he);unfold aUc aUk;rw[if_neg he,if_neg he];rw[if_neg he] at h;exact h
theorem aVg{fs:List aE}(ins:List UInt8)(fr til:Int)(hv:dF fs=0):
  (aUk fs ins fr til=0∧aRm fr til (ser ins fs) ≠ []∧aUc fs ins fr til=aRm fr til (ser ins fs))∨(aUk fs ins fr til=11∧aRm fr til (ser ins fs)=[]∧aUc fs ins fr til=[])∨(¬ aUk fs ins fr til=0∧¬ aUk fs ins fr til=11∧aUc fs ins fr til=[]):=by
 have hp:aPk fs 0 [fr,til]=0∨aPk fs 0 [fr,til]=13:=by
  unfold aPk;rw[hv,if_neg (by simp)];split
  ·exact .inr rfl
  ·exact .inl (by simp)
 unfold aUk aUc;rcases hp with h|h
 ·rw[if_pos h,if_pos h]
  by_cases hlt:til<fr
  ·rw[if_pos hlt,if_pos hlt];exact .inr (.inr ⟨by decide,by decide,rfl⟩)
  ·rw[if_neg hlt,if_neg hlt];unfold aTx;cases hl:aRm fr til (ser ins fs) with
   |nil=>exact .inr (.inl ⟨rfl,rfl,rfl⟩)
   |cons p r=>exact .inl ⟨rfl,by simp,rfl⟩
 ·rw[h];exact .inr (.inr ⟨by simp,by simp,by rw[if_neg (by decide)]⟩)
theorem aUm{fr til:Int}{l:List aJv}{k:Nat}{x:aJv}(h:l[k]?=some x):aRm fr til (l.take (k+1))=if inP fr til x=true then aRm fr til (l.take k) ++ [x.price] else aRm fr til (l.take k):=by
 rw[List.take_add_one,h];show aRm fr til (l.take k ++ [x])=_;cases hu:inP fr til x with
 |true=>rw[if_pos rfl];exact aT5 _ hu
 |false=>rw[if_neg (by decide)];exact aU5 _ hu
theorem aUa(fr til:Int)(l:List aJv)(k:Nat):(aRm fr til (l.take k)).length≤k:=by
 unfold aRm;rw[List.length_map];exact Nat.le_trans (List.length_filter_le _ _) (by rw[List.length_take];exact Nat.min_le_left _ _)
theorem aT4(xs:List aF)(ins:List UInt8)(fr til:Int)(a:Option Addr)(c:Nat)(w:World)(hE:iE w)(hn:xs.length≤9223372036854775807)(_hcap:xs.length≤c)(hr:fS w a xs)(hf:∀x,x∈xs→x.fits):
  Calls Tryz.prog 9 #[.slice a xs.length c,.string ⟨ins.toArray⟩,.agg #[.int .i64 fr,.int .i64 til]] w fun e w'=>e=.returned (.bool true)∧Below w.heap.size w w':=by
 obtain⟨i0,hi,hz0,hz1,hz2⟩:=info_parts aVs;have HINF:=Hd (And.intro hi (And.intro hz0 (And.intro hz1 hz2)));have KP:=Hd (aP.new0 w #[.int .i64 fr,.int .i64 til] 70);have HB0:=Hd (aB w (.cells #[.int .i64 fr,.int .i64 til] 70));have HG:=Hd (aQn xs a c (w.alloc (.cells #[.int .i64 fr,.int .i64 til] 70)) (hE.below HB0.out) hn (hr.below HB0.out) hf);have HAW:Hid (∀W,Below w.heap.size w W→Calls Tryz.prog 12 #[] W fun e w'=>e=.returned (.bool true)∧Below W.heap.size W w'):=fun W hb=>aQe W (hE.below hb)
 have HE:=Hd hE;have HR:=Hd hr;have HF:=Hd hf;obtain⟨w0,hw0⟩:∃w0,w0=w.alloc (.cells #[.int .i64 fr,.int .i64 til] 70):=⟨_,rfl⟩
 rw[←hw0] at KP HB0 HG;clear hE hr hf _hcap hi hz0 hz1 hz2;go_enter Tryz.func9,Tryz.ntmps9;go_wp2_with fail;rw[←hw0];clear hw0;refine HG.out.mono ?_;rintro e w1 ⟨⟨g,rfl,hg⟩,hb⟩;have HB1:=Hd (aA HB0.out hb);have KP1:=Hd (KP.out.below hb);have HGG:=Hd hg;clear hb hg HG KP HB0;cases g with
 |false =>
  go_wp2_with fail;refine(HAW.out _ HB1.out).mono ?_;rintro e wz ⟨rfl,hb⟩;go_wp2;go_ret;exact⟨rfl,aA HB1.out hb⟩
 |true =>
  have HFI:=Hd (HGG.out rfl);clear HGG;have hV:gT w a c xs:=⟨HR.out,fun y hy=>⟨(HFI.out.1 y hy).small,(HF.out y hy).picks⟩,by have:=HFI.out.2.1;omega⟩
  obtain⟨fs,hfs⟩:∃fs,fs=xs.map aF.f:=⟨_,rfl⟩
  have hvc:dF fs=0:=by rw[hfs];exact HFI.out.2.2
  have HEX:Hid (∀W,Below w.heap.size w W→Calls Tryz.prog 41 #[.slice a xs.length c,.string ⟨ins.toArray⟩,.agg #[.int .i64 fr,.int .i64 til]] W fun e w'=>e=.returned (.tuple #[.agg (aPf (FV (aLq (aUc fs ins fr til)))),.agg (aPf (FV (aK0 (aUc fs ins fr til)))),.int .i64 (aUk fs ins fr til)])∧Below W.heap.size W w'):=fun W hb=>by
   rw[hfs];exact aUr xs a c ins fr til W (HE.out.below hb) (hV.below hb)
  have HSE:Hid (∀W,Below w.heap.size w W→Calls Tryz.prog 32 #[.slice a xs.length c,.string ⟨ins.toArray⟩] W fun e w'=>(∃v,e=.returned (.tuple #[v,.int .i64 0])∧w'.ownsRow W.heap.size 46 3 v (ser ins fs).length (aT7 (ser ins fs)))∧Below W.heap.size W w'):=fun W hb=>by
   rw[hfs];exact aUz xs a c ins W (HE.out.below hb) (hV.below hb) (aUv (by rw[←hfs];exact hvc))
  have HCASE:=Hd (aVg ins fr til hvc);have HSMALL:Hid (∀p,p∈aRm fr til (ser ins fs)→p.small∧0<lU p.d):=fun p hp=>by
   obtain⟨q,hq,_,rfl⟩:=aUi hp;refine⟨?_,aVx hvc hq⟩;obtain⟨f,hf,_,rfl⟩:=aLv hvc hq;rw[hfs] at hf;obtain⟨x,hx,rfl⟩:=List.mem_map.1 hf;exact(hV.ok x hx).small.price
  have HLEN:Hid ((ser ins fs).length≤1000000):=by
   have h1:=aLw ins fs;have h2:=HFI.out.2.1;rw[hfs,List.length_map] at h1;show (ser ins fs).length≤_;rw[hfs];omega
  have HCMP:Hid (∀(p q:bZ) W,p.small→q.small→Below w.heap.size w W→Calls Tryz.prog 25 #[.agg #[.string ⟨p.n.toArray⟩,.string ⟨p.d.toArray⟩],.agg #[.string ⟨q.n.toArray⟩,.string ⟨q.d.toArray⟩]] W fun e w'=>e=.returned (.int .i64 (aJ3 p q))∧Below W.heap.size W w'):=fun p q W h1 h2 hb=>fB p.n p.d q.n q.d W (HE.out.below hb) h1.1 h1.2 h2.1 h2.2
  have HSF:Hid (∀f,(Tryz.prog.info? 28).map (·.size)=some (aPf f).size):=fun _=>aPp
  have HONF:Hid (∀f,(aPf f).all (·.oneCell')=true):=aP0;have HS2:Hid (∀f,Z2.size=(aPf f).size):=fun _=>rfl
  have HFC:Hid (∀f,(aPf f)[0]?=some (.string ⟨f.n.toArray⟩)∧(aPf f)[1]?=some (.string ⟨f.d.toArray⟩)):=fun _=>⟨rfl,rfl⟩
  clear HE HR HF HFI hV hvc;obtain⟨lo,hlo⟩:∃lo,lo=FV (aLq (aUc fs ins fr til)):=⟨_,rfl⟩
  obtain⟨hi,hhi⟩:∃hi,hi=FV (aK0 (aUc fs ins fr til)):=⟨_,rfl⟩
  obtain⟨er,her⟩:∃er,er=aUk fs ins fr til:=⟨_,rfl⟩
  obtain⟨L,hL⟩:∃L,L=ser ins fs:=⟨_,rfl⟩
  rw[←hlo,←hhi,←her] at HEX;rw[←hL] at HSE HSMALL HLEN;have HCS:Hid ((er=0∧lo∈aRm fr til L∧hi∈aRm fr til L∧∀p,p∈aRm fr til L→¬ aJ3 p lo<0∧¬ 0<aJ3 p hi)∨(er=11∧aRm fr til L=[])∨(¬ er=0∧¬ er=11∧lo=⟨[],[]⟩∧hi=⟨[],[]⟩)):=by
   rcases HCASE.out with⟨h1,h2,h3⟩|⟨h1,h2,h3⟩|⟨h1,h2,h3⟩
   ·left;rw[←her] at h1;rw[h3,←hL] at hlo hhi;rw[←hL] at h2;have hd:∀p,p∈aRm fr til L→0<lU p.d:=fun p hp=>(HSMALL.out p hp).2
    obtain⟨x,e1,m1,c1⟩:=aLz hd h2;obtain⟨y,e2,m2,c2⟩:=aLr hd h2;rw[e1] at hlo;rw[e2] at hhi;have e3:lo=x:=hlo;have e4:hi=y:=hhi;subst e3 e4;exact⟨h1,m1,m2,fun p hp=>⟨c1 p hp,c2 p hp⟩⟩
   ·rw[←her] at h1;rw[←hL] at h2;exact .inr (.inl ⟨h1,h2⟩)
   ·rw[←her] at h1 h2;rw[h3] at hlo hhi;exact .inr (.inr ⟨h1,h2,hlo,hhi⟩)
  clear HCASE hlo hhi her hL hfs;generalize xs.length=n at *;have p0:=(KP1.out.cell 0).trans (show _=some (.int .i64 fr) from rfl);have p1:=(KP1.out.cell 1).trans (show _=some (.int .i64 til) from rfl);go_wp2_with fail;refine(HEX.out _ HB1.out).mono ?_;rintro e w2 ⟨rfl,hb⟩;have HB2:=Hd (aA HB1.out hb);have KP2:=Hd (KP1.out.below hb);have hba:=aB w2 (.cells #[.string ⟨#[]⟩,.string ⟨#[]⟩] 28);have hbb:=aB (w2.alloc (.cells #[.string ⟨#[]⟩,.string ⟨#[]⟩] 28)) (.cells #[.string ⟨#[]⟩,.string ⟨#[]⟩] 28);have HN2:=Hd (aA hba hbb);have KN7:Hid (aP ((w2.alloc (.cells #[.string ⟨#[]⟩,.string ⟨#[]⟩] 28)).alloc (.cells #[.string ⟨#[]⟩,.string ⟨#[]⟩] 28)) w2.heap.size Z2 28):=(aP.new0 w2 _ _).below hbb;have KN8:Hid (aP ((w2.alloc (.cells #[.string ⟨#[]⟩,.string ⟨#[]⟩] 28)).alloc (.cells #[.string ⟨#[]⟩,.string ⟨#[]⟩] 28)) (w2.heap.size+1) Z2 28):=by
   have h:=aP.new0 (w2.alloc (.cells Z2 28)) Z2 28;rw[World.size_alloc] at h;exact h
  have HNE:Hid (w2.heap.size+1≠w2.heap.size):=by show _≠_;omega
  clear hb HB1 KP1 HEX p0 p1 hba hbb;go_wp2_with (first|(refine aOw rfl 28 _ _ rfl w2.heap.size rfl (aPf lo) rfl KN7.out (HSF.out _) (HS2.out _) (HONF.out _) ?_;intro w3 kx bx kot hs3;have HB3:=Hd (HN2.out.trans (bx _ (Nl _)));have KL3:=Hd kx;have KN83:=Hd (kot _ _ _ HNE.out KN8.out);clear kx bx kot hs3)|(refine aOw rfl 28 _ _ rfl (w2.heap.size+1) rfl (aPf hi) rfl KN83.out (HSF.out _) (HS2.out _) (HONF.out _) ?_;intro w4 kx bx kot hs4;have HB4:=Hd (HB3.out.trans (bx _ (Nat.le_succ _)));have KH4:=Hd kx;have KL4:=Hd (kot _ _ _ HNE.out.symm KL3.out);clear kx bx kot hs4));refine(HSE.out _ (aA HB2.out HB4.out)).mono ?_;rintro e w5 ⟨⟨v5,rfl,ho5⟩,hb⟩;have HB5:=Hd (aA (aA HB2.out HB4.out) hb);have KP5:=Hd ((KP2.out.below HB4.out).below hb);have KL5:=Hd (KL4.out.below hb);have KH5:=Hd (KH4.out.below hb);obtain⟨a5,c5,rfl,hr5⟩:=gK ho5;have HR5:=Hd (aUo hr5);obtain⟨bLow,hbLow⟩:∃bLow,bLow=w2.heap.size:=⟨_,rfl⟩
  rw[←hbLow] at KL5 KH5 ⊢;clear hb ho5 hr5 HSE HB2 KP2 HN2 KN7 KN8 HNE HB3 KL3 KN83 HB4 KH4 KL4 hbLow;have hll:=HLEN.out;rcases HCS.out with⟨rfl,m1,m2,hcmp⟩|⟨rfl,hnil⟩|⟨hne0,hne11,rfl,rfl⟩
  ·clear HCS;have HM:=Hd (And.intro m1 (And.intro m2 hcmp));clear m1 m2 hcmp;go_wp2_with fail;go_loopw [12,62] (fun ov iv wr=>∃k:Nat,k≤L.length∧iv=.int .i64 k∧Hid (wr.ownsRow w5.heap.size 28 2 ov (aRm fr til (L.take k)).length (aT3 (aRm fr til (L.take k))))∧Hid (Below w5.heap.size w5 wr)) (fun _ iv _=>L.length-(intOf iv).toNat)
   case atStart=>exact⟨0,Nat.zero_le _,rfl,World.ownsRow_nil _ _ _ _,Br _ _⟩
   case round =>
    obtain⟨k,hk,rfl,HOa,HBa⟩:=hrel
    by_cases hlt:k<L.length
    ·obtain⟨x,hx⟩:∃x,L[k]?=some x:=⟨L[k],Lg hlt⟩
     obtain⟨bb,off,hal,hbl,hcc⟩:=(HR5.out.below HBa.out).addr (k:=k) (cs:=aUp x) (by rw[List.getElem?_map,hx];rfl);subst hal;have HC:Hid (∀j v,(aOx x).toList[j]?=some v→wr.cell? ⟨bb,off+k*3+j,none⟩=some v):=hcc;have HK:=Hd (aUm (fr:=fr) (til:=til) hx);have hml:=aUa fr til L k;have HIN:Hid (inP fr til x=(decide (fr≤x.day)&&decide (x.day<til))):=rfl;have HFL:=Hd (aUf (aRm fr til (L.take k)) x.price);have HPA:Hid ((aPf x.price).toList=[.string ⟨x.price.n.toArray⟩,.string ⟨x.price.d.toArray⟩]):=rfl;have HXC:Hid ((aOx x)[0]?=some (.int .i64 x.day)∧(aOx x)[1]?=some (.string ⟨x.price.n.toArray⟩)∧(aOx x)[2]?=some (.string ⟨x.price.d.toArray⟩)):=⟨rfl,rfl,rfl⟩
     have HXS:Hid ((Tryz.prog.info? 46).map (·.size)=some (aOx x).size):=aPm;have HX1:=Hd (aPw x);have HX3:Hid (Z3.size=(aOx x).size):=rfl;obtain⟨s',hs'⟩:∃s',s'=aRm fr til (L.take (k+1)):=⟨_,rfl⟩
     rw[←hs'] at HK;have HS':=Hd hs';have HN:=Hd (aB wr (.cells Z3 46));have KN:=Hd (aP.new0 wr Z3 46);have KPr:=Hd (KP5.out.below HBa.out);have hwz:=HBa.out.size;clear hs' hx hcc;generalize aRm fr til (L.take k)=m at *;generalize aOx x=qx at *;generalize aPf x.price=fx at *;generalize x.day=xd at *;generalize(⟨x.price.n.toArray⟩:ByteArray)=xn at *;generalize(⟨x.price.d.toArray⟩:ByteArray)=xm at *
     by_cases hd1:fr≤xd
     ·by_cases hd2:xd<til
      ·have HK2:Hid (s'=m ++ [x.price]):=by show _=_;rw[HK.out,HIN.out];simp[hd1,hd2]
       clear HK HIN;go_wp2_with (first|(refine aM rfl 46 _ rfl bb (off+k*3) rfl qx _ HC.out Tryz.underlying46 rfl HXS.out ?_)|(refine aOw rfl 46 _ _ rfl wr.heap.size rfl qx rfl KN.out HXS.out HX3.out HX1.out ?_;intro w6 kx bx kot hs6;have hb8:=HN.out.trans (bx _ (Nl _));have HB6:=Hd (aA HBa.out hb8);have HO6:=Hd (aPl HOa.out hb8);have HSZ6:=Hd HB6.out.size;have x0:=(kx.cell 0).trans HXC.out.1;have x1:=(kx.cell 1).trans HXC.out.2.1;have x2:=(kx.cell 2).trans HXC.out.2.2;have p0:=((KPr.out.below hb8).cell 0).trans (show _=some (.int .i64 fr) from rfl);have p1:=((KPr.out.below hb8).cell 1).trans (show _=some (.int .i64 til) from rfl);clear kx bx kot hs6 hb8)|(at_builtin;refine wpList_append_own_at _ rfl _ _ 36 rfl w5.heap.size 28 i0 (.agg #[.string ⟨#[]⟩,.string ⟨#[]⟩]) 2 32 Tryz.underlying36 HINF.out.1 HINF.out.2.1 HINF.out.2.2.1 HINF.out.2.2.2 rfl (by decide) _ _ _ rfl (HO6.out.alloc _) ⟨w6.heap.size,0,none⟩ 1 1 [.string xn,.string xm] rfl rfl (fun j u hj=>aUb w6 #[.string xn,.string xm] _ j u hj) (by simp[Value.oneCell']) (by unfold maxLen;omega) (by omega) (by have:=HSZ6.out;simp;omega) ?_));intro v' w9 hown' hgrow _ _;have HB9:=Hd (Ut (HO6.out.alloc (.cells #[.string xn,.string xm] 28)) hgrow (aA HB6.out (aB _ _)) (by have:=HSZ6.out;simp;omega));have HO9:Hid (w9.ownsRow w5.heap.size 28 2 v' s'.length (aT3 s')):=by
        show World.ownsRow _ _ _ _ _ _ _;rw[HK2.out,HFL.out,HPA.out];simpa using hown'
       clear hgrow hown';go_wp2;go_roundw
       case rel=>exact⟨k+1,by omega,by go_num,(by rw[←HS'.out];exact HO9),HB9⟩
       case measure=>simp[intOf];omega
      ·have HK2:Hid (s'=m):=by show _=_;rw[HK.out,HIN.out];simp[hd1,hd2]
       clear HK HIN;go_wp2_with (first|(refine aM rfl 46 _ rfl bb (off+k*3) rfl qx _ HC.out Tryz.underlying46 rfl HXS.out ?_)|(refine aOw rfl 46 _ _ rfl wr.heap.size rfl qx rfl KN.out HXS.out HX3.out HX1.out ?_;intro w6 kx bx kot hs6;have hb8:=HN.out.trans (bx _ (Nl _));have HB6:=Hd (aA HBa.out hb8);have HO6:=Hd (aPl HOa.out hb8);have x0:=(kx.cell 0).trans HXC.out.1;have p0:=((KPr.out.below hb8).cell 0).trans (show _=some (.int .i64 fr) from rfl);have p1:=((KPr.out.below hb8).cell 1).trans (show _=some (.int .i64 til) from rfl);clear kx bx kot hs6 hb8));go_roundw
       case rel=>exact⟨k+1,by omega,by go_num,(by rw[←HS'.out,HK2.out];exact HO6),HB6⟩
       case measure=>simp[intOf];omega
     ·have HK2:Hid (s'=m):=by show _=_;rw[HK.out,HIN.out];simp[hd1]
      clear HK HIN;go_wp2_with (first|(refine aM rfl 46 _ rfl bb (off+k*3) rfl qx _ HC.out Tryz.underlying46 rfl HXS.out ?_)|(refine aOw rfl 46 _ _ rfl wr.heap.size rfl qx rfl KN.out HXS.out HX3.out HX1.out ?_;intro w6 kx bx kot hs6;have hb8:=HN.out.trans (bx _ (Nl _));have HB6:=Hd (aA HBa.out hb8);have HO6:=Hd (aPl HOa.out hb8);have x0:=(kx.cell 0).trans HXC.out.1;have p0:=((KPr.out.below hb8).cell 0).trans (show _=some (.int .i64 fr) from rfl);have p1:=((KPr.out.below hb8).cell 1).trans (show _=some (.int .i64 til) from rfl);clear kx bx kot hs6 hb8));go_roundw
      case rel=>exact⟨k+1,by omega,by go_num,(by rw[←HS'.out,HK2.out];exact HO6),HB6⟩
      case measure=>simp[intOf];omega
    ·obtain rfl:k=L.length:=by omega
     have hoe:=HOa.out;rw[List.take_length] at hoe;obtain⟨a6,c6,rfl,hr6⟩:=gK hoe;have HR6:=Hd (aUd hr6);have HB6:=Hd (aA HB5.out HBa.out);have KL6:=Hd (KL5.out.below HBa.out);have KH6:=Hd (KH5.out.below HBa.out);have hml:=aUa fr til L L.length;rw[List.take_length] at hml;clear hoe hr6 HOa HBa;obtain⟨I,hI⟩:∃I,I=aRm fr til L:=⟨_,rfl⟩
     rw[←hI] at HR6 HM HSMALL hml ⊢;have HIL:Hid (I.length≤1000000):=by show _≤_;omega
     have HCLO:Hid (∀W,Below wr.heap.size wr W→Calls Tryz.prog 43 #[.slice a6 I.length c6,.agg #[.string ⟨lo.n.toArray⟩,.string ⟨lo.d.toArray⟩]] W fun e w'=>e=.returned (.bool true)∧Below W.heap.size W w'):=fun W hb=>aT2 I a6 c6 lo W HIL.out (HR6.out.below hb) HM.out.1
     have HCHI:Hid (∀W,Below wr.heap.size wr W→Calls Tryz.prog 43 #[.slice a6 I.length c6,.agg #[.string ⟨hi.n.toArray⟩,.string ⟨hi.d.toArray⟩]] W fun e w'=>e=.returned (.bool true)∧Below W.heap.size W w'):=fun W hb=>aT2 I a6 c6 hi W HIL.out (HR6.out.below hb) HM.out.2.1
     have HCP:Hid (∀p,p∈I→∀W,Below w.heap.size w W→(Calls Tryz.prog 25 #[.agg #[.string ⟨p.n.toArray⟩,.string ⟨p.d.toArray⟩],.agg #[.string ⟨lo.n.toArray⟩,.string ⟨lo.d.toArray⟩]] W fun e w'=>(∃r,e=.returned (.int .i64 r)∧¬ r<0)∧Below W.heap.size W w')∧(Calls Tryz.prog 25 #[.agg #[.string ⟨p.n.toArray⟩,.string ⟨p.d.toArray⟩],.agg #[.string ⟨hi.n.toArray⟩,.string ⟨hi.d.toArray⟩]] W fun e w'=>(∃r,e=.returned (.int .i64 r)∧¬ 0<r)∧Below W.heap.size W w')):=fun p hp W hb=>by
      have h1:=HM.out.2.2 p hp;refine⟨(HCMP.out p lo W (HSMALL.out p hp).1 (HSMALL.out lo HM.out.1).1 hb).mono ?_,(HCMP.out p hi W (HSMALL.out p hp).1 (HSMALL.out hi HM.out.2.1).1 hb).mono ?_⟩
      ·rintro e w' ⟨rfl,hb'⟩;exact⟨⟨_,rfl,by have:=h1.1;omega⟩,hb'⟩
      ·rintro e w' ⟨rfl,hb'⟩;exact⟨⟨_,rfl,by have:=h1.2;omega⟩,hb'⟩
     have l0:=(KL6.out.cell 0).trans (HFC.out lo).1;have l1:=(KL6.out.cell 1).trans (HFC.out lo).2;have HLC:=Hd (And.intro (HFC.out lo) (HFC.out hi));clear HM HSMALL HCMP hI HFC HR5 KL5 KH5 KP5;generalize(⟨lo.n.toArray⟩:ByteArray)=ln at *;generalize(⟨lo.d.toArray⟩:ByteArray)=lm at *;generalize(⟨hi.n.toArray⟩:ByteArray)=gn at *;generalize(⟨hi.d.toArray⟩:ByteArray)=gm at *;generalize aPf lo=flo at *;generalize aPf hi=fhi at *;go_wp2_with fail;refine(HCLO.out _ (Br _ _)).mono ?_;rintro e w7 ⟨rfl,hb⟩;have HBr7:=Hd hb;have h0:=((KH6.out.below hb).cell 0).trans HLC.out.2.1;have h1:=((KH6.out.below hb).cell 1).trans HLC.out.2.2;clear hb HCLO l0 l1;go_wp2_with fail;refine(HCHI.out _ HBr7.out).mono ?_;rintro e w8 ⟨rfl,hb⟩;have HBr8:=Hd (aA HBr7.out hb);have HB8:=Hd (aA HB6.out HBr8.out);have KL8:=Hd (KL6.out.below HBr8.out);have KH8:=Hd (KH6.out.below HBr8.out);have HR8:=Hd (HR6.out.below HBr8.out);clear hb HCHI HBr7 h0 h1 HR6 KL6 KH6 HB6;have hil:=HIL.out;go_wp2_with fail;go_loopw [104] (fun iv wr=>∃k:Nat,k≤I.length∧iv=.int .i64 k∧Hid (Below w8.heap.size w8 wr)) (fun iv _=>I.length-(intOf iv).toNat)
     case atStart=>exact⟨0,Nat.zero_le _,rfl,Br _ _⟩
     case round =>
      obtain⟨k,hk2,rfl,HBa⟩:=hrel
      by_cases hlt2:k<I.length
      ·obtain⟨p,hp⟩:∃p,I[k]?=some p:=⟨I[k],Lg hlt2⟩
       have HCPp:=Hd (HCP.out p (List.mem_of_getElem? hp));obtain⟨bb,off,hal,hbl,hcc⟩:=(HR8.out.below HBa.out).addr (k:=k) (cs:=aT8 p) (by rw[List.getElem?_map,hp];rfl);subst hal;have r0:=hcc 0 (.string ⟨p.n.toArray⟩) rfl;have r1:=hcc 1 (.string ⟨p.d.toArray⟩) rfl;have HBw:=Hd (aA HB8.out HBa.out);have hba:=aB wr (.cells #[.string ⟨p.n.toArray⟩,.string ⟨p.d.toArray⟩] 28);have HBn:=Hd (aA HBw.out hba);have HBm:=Hd (aA HBa.out hba);have KPn:=Hd (aP.new0 wr #[.string ⟨p.n.toArray⟩,.string ⟨p.d.toArray⟩] 28);have hl8:=(KL8.out.below HBa.out).below hba;have hh8:=(KH8.out.below HBa.out).below hba;have HC1:=Hd (HCPp.out _ HBn.out).1;have HC2:=Hd (fun W hb=>(HCPp.out W hb).2);have l0:=(hl8.cell 0).trans HLC.out.1.1;have l1:=(hl8.cell 1).trans HLC.out.1.2;have HH8:=Hd hh8;simp only[Nat.add_zero] at r0;clear hcc hp hbl HCP HCPp hba hl8 hh8;generalize(⟨p.n.toArray⟩:ByteArray)=pn at *;generalize(⟨p.d.toArray⟩:ByteArray)=pm at *;go_wp2_with fail;refine HC1.out.mono ?_;rintro e w10 ⟨⟨r,rfl,hr1⟩,hb⟩;have HB10:=Hd (aA HBn.out hb);have HBm10:=Hd (aA HBm.out hb);have g0:=((HH8.out.below hb).cell 0).trans HLC.out.2.1;have g1:=((HH8.out.below hb).cell 1).trans HLC.out.2.2;have q0:=((KPn.out.below hb).cell 0).trans (show _=some (.string pn) from rfl);have q1:=((KPn.out.below hb).cell 1).trans (show _=some (.string pm) from rfl);clear hb HC1 l0 l1 r0 r1 KPn HH8 HBn HBm;go_wp2_with fail;refine(HC2.out _ HB10.out).mono ?_;rintro e w11 ⟨⟨r',rfl,hr2⟩,hb⟩;have HBm11:=Hd (aA HBm10.out hb);clear hb HC2 g0 g1 q0 q1;go_wp2_with fail;go_roundw
       case rel=>exact⟨k+1,by omega,by go_num,HBm11⟩
       case measure=>simp[intOf];omega
      ·obtain rfl:k=I.length:=by omega
       have HBz:=Hd (aA HB8.out HBa.out);go_wp2_with fail;refine(HAW.out _ HBz.out).mono ?_;rintro e wz ⟨rfl,hb⟩;go_wp2;go_ret;exact⟨rfl,aA HBz.out hb⟩
  ·clear HCS;have HNIL:=Hd hnil;clear hnil;go_wp2_with fail;go_loopw [12,62] (fun ov iv wr=>∃k:Nat,k≤L.length∧iv=.int .i64 k∧Hid (wr.ownsRow w5.heap.size 28 2 ov (aRm fr til (L.take k)).length (aT3 (aRm fr til (L.take k))))∧Hid (Below w5.heap.size w5 wr)) (fun _ iv _=>L.length-(intOf iv).toNat)
   case atStart=>exact⟨0,Nat.zero_le _,rfl,World.ownsRow_nil _ _ _ _,Br _ _⟩
   case round =>
    obtain⟨k,hk,rfl,HOa,HBa⟩:=hrel
    by_cases hlt:k<L.length
    ·obtain⟨x,hx⟩:∃x,L[k]?=some x:=⟨L[k],Lg hlt⟩
     obtain⟨bb,off,hal,hbl,hcc⟩:=(HR5.out.below HBa.out).addr (k:=k) (cs:=aUp x) (by rw[List.getElem?_map,hx];rfl);subst hal;have HC:Hid (∀j v,(aOx x).toList[j]?=some v→wr.cell? ⟨bb,off+k*3+j,none⟩=some v):=hcc;have HK:=Hd (aUm (fr:=fr) (til:=til) hx);have hml:=aUa fr til L k;have HIN:Hid (inP fr til x=(decide (fr≤x.day)&&decide (x.day<til))):=rfl;have HFL:=Hd (aUf (aRm fr til (L.take k)) x.price);have HPA:Hid ((aPf x.price).toList=[.string ⟨x.price.n.toArray⟩,.string ⟨x.price.d.toArray⟩]):=rfl;have HXC:Hid ((aOx x)[0]?=some (.int .i64 x.day)∧(aOx x)[1]?=some (.string ⟨x.price.n.toArray⟩)∧(aOx x)[2]?=some (.string ⟨x.price.d.toArray⟩)):=⟨rfl,rfl,rfl⟩
     have HXS:Hid ((Tryz.prog.info? 46).map (·.size)=some (aOx x).size):=aPm;have HX1:=Hd (aPw x);have HX3:Hid (Z3.size=(aOx x).size):=rfl;obtain⟨s',hs'⟩:∃s',s'=aRm fr til (L.take (k+1)):=⟨_,rfl⟩
     rw[←hs'] at HK;have HS':=Hd hs';have HN:=Hd (aB wr (.cells Z3 46));have KN:=Hd (aP.new0 wr Z3 46);have KPr:=Hd (KP5.out.below HBa.out);have hwz:=HBa.out.size;clear hs' hx hcc;generalize aRm fr til (L.take k)=m at *;generalize aOx x=qx at *;generalize aPf x.price=fx at *;generalize x.day=xd at *;generalize(⟨x.price.n.toArray⟩:ByteArray)=xn at *;generalize(⟨x.price.d.toArray⟩:ByteArray)=xm at *
     by_cases hd1:fr≤xd
     ·by_cases hd2:xd<til
      ·have HK2:Hid (s'=m ++ [x.price]):=by show _=_;rw[HK.out,HIN.out];simp[hd1,hd2]
       clear HK HIN;go_wp2_with (first|(refine aM rfl 46 _ rfl bb (off+k*3) rfl qx _ HC.out Tryz.underlying46 rfl HXS.out ?_)|(refine aOw rfl 46 _ _ rfl wr.heap.size rfl qx rfl KN.out HXS.out HX3.out HX1.out ?_;intro w6 kx bx kot hs6;have hb8:=HN.out.trans (bx _ (Nl _));have HB6:=Hd (aA HBa.out hb8);have HO6:=Hd (aPl HOa.out hb8);have HSZ6:=Hd HB6.out.size;have x0:=(kx.cell 0).trans HXC.out.1;have x1:=(kx.cell 1).trans HXC.out.2.1;have x2:=(kx.cell 2).trans HXC.out.2.2;have p0:=((KPr.out.below hb8).cell 0).trans (show _=some (.int .i64 fr) from rfl);have p1:=((KPr.out.below hb8).cell 1).trans (show _=some (.int .i64 til) from rfl);clear kx bx kot hs6 hb8)|(at_builtin;refine wpList_append_own_at _ rfl _ _ 36 rfl w5.heap.size 28 i0 (.agg #[.string ⟨#[]⟩,.string ⟨#[]⟩]) 2 32 Tryz.underlying36 HINF.out.1 HINF.out.2.1 HINF.out.2.2.1 HINF.out.2.2.2 rfl (by decide) _ _ _ rfl (HO6.out.alloc _) ⟨w6.heap.size,0,none⟩ 1 1 [.string xn,.string xm] rfl rfl (fun j u hj=>aUb w6 #[.string xn,.string xm] _ j u hj) (by simp[Value.oneCell']) (by unfold maxLen;omega) (by omega) (by have:=HSZ6.out;simp;omega) ?_));intro v' w9 hown' hgrow _ _;have HB9:=Hd (Ut (HO6.out.alloc (.cells #[.string xn,.string xm] 28)) hgrow (aA HB6.out (aB _ _)) (by have:=HSZ6.out;simp;omega));have HO9:Hid (w9.ownsRow w5.heap.size 28 2 v' s'.length (aT3 s')):=by
        show World.ownsRow _ _ _ _ _ _ _;rw[HK2.out,HFL.out,HPA.out];simpa using hown'
       clear hgrow hown';go_wp2;go_roundw
       case rel=>exact⟨k+1,by omega,by go_num,(by rw[←HS'.out];exact HO9),HB9⟩
       case measure=>simp[intOf];omega
      ·have HK2:Hid (s'=m):=by show _=_;rw[HK.out,HIN.out];simp[hd1,hd2]
       clear HK HIN;go_wp2_with (first|(refine aM rfl 46 _ rfl bb (off+k*3) rfl qx _ HC.out Tryz.underlying46 rfl HXS.out ?_)|(refine aOw rfl 46 _ _ rfl wr.heap.size rfl qx rfl KN.out HXS.out HX3.out HX1.out ?_;intro w6 kx bx kot hs6;have hb8:=HN.out.trans (bx _ (Nl _));have HB6:=Hd (aA HBa.out hb8);have HO6:=Hd (aPl HOa.out hb8);have x0:=(kx.cell 0).trans HXC.out.1;have p0:=((KPr.out.below hb8).cell 0).trans (show _=some (.int .i64 fr) from rfl);have p1:=((KPr.out.below hb8).cell 1).trans (show _=some (.int .i64 til) from rfl);clear kx bx kot hs6 hb8));go_roundw
       case rel=>exact⟨k+1,by omega,by go_num,(by rw[←HS'.out,HK2.out];exact HO6),HB6⟩
       case measure=>simp[intOf];omega
     ·have HK2:Hid (s'=m):=by show _=_;rw[HK.out,HIN.out];simp[hd1]
      clear HK HIN;go_wp2_with (first|(refine aM rfl 46 _ rfl bb (off+k*3) rfl qx _ HC.out Tryz.underlying46 rfl HXS.out ?_)|(refine aOw rfl 46 _ _ rfl wr.heap.size rfl qx rfl KN.out HXS.out HX3.out HX1.out ?_;intro w6 kx bx kot hs6;have hb8:=HN.out.trans (bx _ (Nl _));have HB6:=Hd (aA HBa.out hb8);have HO6:=Hd (aPl HOa.out hb8);have x0:=(kx.cell 0).trans HXC.out.1;have p0:=((KPr.out.below hb8).cell 0).trans (show _=some (.int .i64 fr) from rfl);have p1:=((KPr.out.below hb8).cell 1).trans (show _=some (.int .i64 til) from rfl);clear kx bx kot hs6 hb8));go_roundw
      case rel=>exact⟨k+1,by omega,by go_num,(by rw[←HS'.out,HK2.out];exact HO6),HB6⟩
      case measure=>simp[intOf];omega
    ·obtain rfl:k=L.length:=by omega
     have hoe:=HOa.out;rw[List.take_length] at hoe;obtain⟨a6,c6,rfl,hr6⟩:=gK hoe;have HR6:=Hd (aUd hr6);have HB6:=Hd (aA HB5.out HBa.out);have KL6:=Hd (KL5.out.below HBa.out);have KH6:=Hd (KH5.out.below HBa.out);have hml:=aUa fr til L L.length;rw[List.take_length] at hml;clear hoe hr6 HOa HBa;rw[HNIL.out];go_wp2_with fail;refine(HAW.out _ HB6.out).mono ?_;rintro e wz ⟨rfl,hb⟩;go_wp2;go_ret;exact⟨rfl,aA HB6.out hb⟩
  ·have hne0':(er==0)=false:=by simpa using hne0
   have hne11':(er==11)=false:=by simpa using hne11
   have hnt:(er != 0)=true:=by simpa using hne0
   have hnt11:(er != 11)=true:=by simpa using hne11
   have l0:w5.cell? ⟨bLow,0,none⟩=some (.string ⟨#[]⟩):=(KL5.out.cell 0).trans (HFC.out _).1;have l1:w5.cell? ⟨bLow,1,none⟩=some (.string ⟨#[]⟩):=(KL5.out.cell 1).trans (HFC.out _).2;have h0:w5.cell? ⟨bLow+1,0,none⟩=some (.string ⟨#[]⟩):=(KH5.out.cell 0).trans (HFC.out _).1;have h1:w5.cell? ⟨bLow+1,1,none⟩=some (.string ⟨#[]⟩):=(KH5.out.cell 1).trans (HFC.out _).2;clear HCS HSMALL HCMP HLEN HR5;go_wp2_with fail;refine(HAW.out _ HB5.out).mono ?_;rintro e wz ⟨rfl,hb⟩;go_wp2;go_ret;exact⟨rfl,aA HB5.out hb⟩
end Go.Proofs.YtejkibnaidiklaaGreatDoor
