/- QMissing PriceFreshLaw OpenStrs -/
import Derived.Test.YtejkibnaidiklaaGreatDoorJMem
import Derived.Test.YtejkibnaidiklaaGreatDoorJPriceA
import Derived.Test.YtejkibnaidiklaaGreatDoorJWhereA
import Derived.Test.YtejkibnaidiklaaGreatDoorJPriceC
import Derived.Test.YtejkibnaidiklaaGreatDoorJViewA
import Derived.Test.YtejkibnaidiklaaGreatDoorJOpen
set_option maxHeartbeats 16000000
set_option maxRecDepth 100000
namespace Go.Proofs.YtejkibnaidiklaaGreatDoor
section
open Go Go.RowKit Num
theorem aPl{w w':World}{base:Nat}{e:TypeId}{size:Nat}{x:Value}{n:Nat}{xs:List Value}(h:w.ownsRow base e size x n xs)(hb:Below w.heap.size w w'):w'.ownsRow base e size x n xs :=
 h.kept (row:=none) ⟨hb.os,hb.tape,hb.output,hb.size,fun k hk _=>hb.block k hk⟩ (Classical.em _)
def aP9(fs:List aE)(d stale:Int)(s:List UInt8):Bool:=(aL1 fs s d stale).isNone
def aPu(fs:List aE)(d stale:Int)(l:List (List UInt8))(k:Nat):List (List UInt8):=(l.take k).filter (aP9 fs d stale)
def aPq(fs:List aE)(d stale:Int)(l:List (List UInt8)):List (List UInt8):=l.filter (aP9 fs d stale)
def aRj(fs:List aE)(d stale:Int)(l:List (List UInt8)):List (List UInt8):=if aPk fs stale [d]=0 then aPq fs d stale l else[]
theorem aQv{fs:List aE}{d stale:Int}{l:List (List UInt8)}{k:Nat}{s:List UInt8}(h:l[k]?=some s):aPu fs d stale l (k+1)=if aP9 fs d stale s=true then aPu fs d stale l k ++ [s] else aPu fs d stale l k:=by
 unfold aPu;rw[List.take_add_one,h,List.filter_append];cases e:aP9 fs d stale s <;> simp[e]
theorem aQ5(fs:List aE)(d stale:Int)(l:List (List UInt8))(k:Nat):(aPu fs d stale l k).length≤k :=
 Nat.le_trans (List.length_filter_le _ _) (by rw[List.length_take];exact Nat.min_le_left _ _)
theorem aQl(fs:List aE)(d stale:Int)(l:List (List UInt8)):aPu fs d stale l l.length=aPq fs d stale l:=by unfold aPu aPq;rw[List.take_length]
theorem aR5(xs:List aF)(a:Option Addr)(c:Nat)(l:List (List UInt8))(al:Option Addr)(cl:Nat)(d stale:Int)(w:World)(hE:iE w)(hv:gT w a c xs)(hl:l.length≤1000)(hrl:dT w al (iS l)):
  Calls Tryz.prog 37 #[.slice a xs.length c,.slice al l.length cl,.int .i64 d,.int .i64 stale] w fun e w'=>(∃v,e=.returned (.tuple #[v,.int .i64 (aPk (xs.map aF.f) stale [d])])∧w'.ownsRow w.heap.size 9 1 v (aRj (xs.map aF.f) d stale l).length (iS (aRj (xs.map aF.f) d stale l)))∧Below w.heap.size w w':=by
 obtain⟨i0,hi,hz0,hz1,hz2⟩:=info_parts Ys;have hn:=hv.len;have HFR:Hid (aPk (xs.map aF.f) stale [d]=0→∀s W,Below w.heap.size w W→Calls Tryz.prog 67 #[.slice a xs.length c,.string ⟨s.toArray⟩,.int .i64 d,.int .i64 stale] W fun e w'=>e=.returned (.tuple #[.agg (aPf (FV (aL1 (xs.map aF.f) s d stale))),.bool (aL1 (xs.map aF.f) s d stale).isSome])∧Below W.heap.size W w'):=fun h s W hb=>aRg xs a c s d stale W hn (hv.facts.below hb) (aPx h).1 (by have:=(aPx h).2.1;simpa using this)
 have HB0:=Hd (aB w (.cells #[.int .i64 d] 23));have hpc:=aQa xs a c stale [d] (some ⟨w.heap.size,0,none⟩) 1 _ (hE.below HB0.out) (hv.below HB0.out) (by simp) (aQ1 (aP.new0 w #[.int .i64 d] 23));rw[show [d].length=1 from rfl] at hpc;have HPC:=Hd hpc;have HRL:=Hd hrl;obtain⟨fs,hfs⟩:∃fs,fs=xs.map aF.f:=⟨_,rfl⟩
 rw[←hfs] at HFR HPC ⊢;have HMV:Hid (aRj fs d stale l=if aPk fs stale [d]=0 then aPq fs d stale l else[]):=rfl;have HINF:=Hd (And.intro hi (And.intro hz0 (And.intro hz1 hz2)));have HSF:Hid (∀f,(Tryz.prog.info? 28).map (·.size)=some (aPf f).size):=fun _=>aPp
 have HONF:Hid (∀f,(aPf f).all (·.oneCell')=true):=aP0;have HS2:Hid (∀f,Z2.size=(aPf f).size):=fun _=>rfl
 clear hE hv hpc hrl hi hz0 hz1 hz2 hfs;generalize aRj fs d stale l=mv at *;generalize aPk fs stale [d]=pe at *;generalize xs.length=n at *;go_enter Tryz.func37,Tryz.ntmps37;go_wp2_with fail;refine HPC.out.mono ?_;rintro e w1 ⟨rfl,hb⟩;have HB1:=Hd (aA HB0.out hb);clear hb HPC HB0
 by_cases he:pe=0
 ·subst he;have HFR2:=Hd (HFR.out rfl);have HMV2:Hid (mv=aPq fs d stale l):=by show _=_;rw[HMV.out,if_pos rfl]
  clear HMV HFR;go_wp2_with fail;go_loopw [11,26] (fun ov iv wr=>∃k:Nat,k≤l.length∧iv=.int .i64 k∧Hid (wr.ownsRow w.heap.size 9 1 ov (aPu fs d stale l k).length (iS (aPu fs d stale l k)))∧Hid (Below w.heap.size w wr)) (fun _ iv _=>l.length-(intOf iv).toNat)
  case atStart=>exact⟨0,Nat.zero_le _,rfl,World.ownsRow_nil _ _ _ _,HB1⟩
  case round =>
   obtain⟨k,hk,rfl,HOa,HBa⟩:=hrel
   by_cases hlt:k<l.length
   ·obtain⟨s,hs⟩:∃s,l[k]?=some s:=⟨l[k],Lg hlt⟩
    obtain⟨b,off,rfl,hbl,hcc⟩:=(HRL.out.below HBa.out).addr (by intro e;unfold iS at e;rw[List.map_eq_nil_iff] at e;subst e;simp at hlt);have hc:=hcc k (.string ⟨s.toArray⟩) (by unfold iS;rw[List.getElem?_map,hs];rfl);have HK:=Hd (aQv (fs:=fs) (d:=d) (stale:=stale) hs);have hll:=aQ5 fs d stale l k;have HSP:Hid (aP9 fs d stale s=(aL1 fs s d stale).isNone):=rfl;have HC:=Hd (HFR2.out s wr HBa.out);obtain⟨s',hs'⟩:∃s',s'=aPu fs d stale l (k+1):=⟨_,rfl⟩
    rw[←hs'] at HK;have HS':=Hd hs';clear hs' hs hcc hbl;generalize aPu fs d stale l k=m at *;generalize aL1 fs s d stale=o at *;generalize aP9 fs d stale s=sp at *;go_wp2_with fail;refine HC.out.mono ?_;rintro e w4 ⟨rfl,hb⟩;have HO4:=Hd (aPl HOa.out hb);have HB4:=Hd (aA HBa.out hb);have HN4:=Hd (aB w4 (.cells Z2 28));have KN4:=Hd (aP.new0 w4 Z2 28);have HSZ4:=Hd HB4.out.size;clear hb HC HOa HBa hc;cases o with
    |some p =>
     have HK2:Hid (s'=m):=by show _=_;rw[HK.out,HSP.out];simp
     clear HK HSP;simp only[Option.isSome_some];go_wp2_with (refine aOw rfl 28 _ _ rfl w4.heap.size rfl (aPf (FV (some p))) rfl KN4.out (HSF.out _) (HS2.out _) (HONF.out _) ?_;intro w5 kx bx kot _;have hb5:=HN4.out.trans (bx _ (Nl _));have HO5:=Hd (aPl HO4.out hb5);have HB5:=Hd (aA HB4.out hb5);clear kx bx kot hb5);go_roundw
     case rel=>exact⟨k+1,by omega,by go_num,(by rw[←HS'.out,HK2.out];exact HO5),HB5⟩
     case measure=>simp[intOf];omega
    |none =>
     have HK2:Hid (s'=m ++ [s]):=by show _=_;rw[HK.out,HSP.out];simp
     clear HK HSP;simp only[Option.isSome_none];go_wp2_with (first|(refine aOw rfl 28 _ _ rfl w4.heap.size rfl (aPf (FV none)) rfl KN4.out (HSF.out _) (HS2.out _) (HONF.out _) ?_;intro w5 kx bx kot hsz5;have hb5:=HN4.out.trans (bx _ (Nl _));have HO5:=Hd (aPl HO4.out hb5);have HB5:=Hd (aA HB4.out hb5);have HSZ5:=Hd HB5.out.size;clear kx bx kot hb5 hsz5)|(at_builtin;refine wpList_append_own_at _ rfl _ _ 62 rfl w.heap.size 9 i0 (.string ⟨#[]⟩) 1 16 Tryz.underlying62 HINF.out.1 HINF.out.2.1 HINF.out.2.2.1 HINF.out.2.2.2 rfl (by decide) _ _ _ rfl (HO5.out.alloc _) ⟨w5.heap.size,0,none⟩ 1 1 [.string ⟨s.toArray⟩] rfl rfl (cell_one_new _ _ _) (by simp[Value.oneCell']) (by unfold maxLen;omega) (by omega) (by have:=HSZ5.out;simp;omega) ?_));intro v' w9 hown' hgrow _ _;have HB9:=Hd (Ut (HO5.out.alloc (.cells #[.string ⟨s.toArray⟩] 9)) hgrow (aA HB5.out (aB _ _)) (by have:=HSZ5.out;simp;omega));have HO9:Hid (w9.ownsRow w.heap.size 9 1 v' s'.length (iS s')):=by
      show World.ownsRow _ _ _ _ _ _ _;rw[HK2.out];simpa[iS] using hown'
     clear hgrow hown';go_wp2;go_roundw
     case rel=>exact⟨k+1,by omega,by go_num,(by rw[←HS'.out];exact HO9),HB9⟩
     case measure=>simp[intOf];omega
   ·obtain rfl:k=l.length:=by omega
    have hoe:=HOa.out;rw[aQl,←HMV2.out] at hoe;have HOE:=Hd hoe;clear hoe HOa;go_wp2;go_ret2;exact⟨⟨_,rfl,HOE.out⟩,HBa.out⟩
 ·have he':(pe==0)=false:=by simpa using he
  have HV:Hid (mv=[]):=by show _=_;rw[HMV.out,if_neg he]
  clear HMV HFR;go_wp2;go_ret2;exact⟨⟨_,rfl,by rw[HV.out];exact World.ownsRow_nil _ _ _ _⟩,HB1.out⟩
end
section
open Go Go.RowKit Num
theorem aQr(xs:List aF)(l:List (List UInt8))(d stale more:Int)(a al:Option Addr)(c cl:Nat)(w:World)(hE:iE w)(hn:xs.length≤9223372036854775807)(_hcap:xs.length≤c)(hr:fS w a xs)(hf:∀x,x∈xs→x.fits)(_hln:l.length≤9223372036854775807)(_hcl:l.length≤cl)(hl:dT w al (iS l)):
  Calls Tryz.prog 7 #[.slice a xs.length c,.slice al l.length cl,.int .i64 d,.int .i64 stale,.int .i64 more] w fun e w'=>e=.returned (.bool true)∧Below w.heap.size w w':=by
 obtain⟨i0,hi,hz0,hz1,hz2⟩:=info_parts Ys;have HINF:=Hd (And.intro hi (And.intro hz0 (And.intro hz1 hz2)));have HG:=Hd (aQn xs a c w hE hn hr hf);have HAW:Hid (∀W,Below w.heap.size w W→Calls Tryz.prog 12 #[] W fun e w'=>e=.returned (.bool true)∧Below W.heap.size W w'):=fun W hb=>aQe W (hE.below hb)
 have HE:=Hd hE;have HR:=Hd hr;have HF:=Hd hf;have HRL:=Hd hl;have HSF:Hid (∀f,(Tryz.prog.info? 28).map (·.size)=some (aPf f).size):=fun _=>aPp
 have HSQ:Hid ((Tryz.prog.info? 46).map (·.size)=some 3):=aPm;clear hE hr hf hl hi hz0 hz1 hz2 _hcap _hcl;go_enter Tryz.func7,Tryz.ntmps7;go_wp2_with fail;refine HG.out.mono ?_;rintro e w1 ⟨⟨g,rfl,hg⟩,hb⟩;have HB1:=Hd hb;have HGG:=Hd hg;clear hb hg HG;cases g with
 |false =>
  go_wp2_with fail;refine(HAW.out _ HB1.out).mono ?_;rintro e wz ⟨rfl,hb⟩;go_wp2;go_ret;exact⟨rfl,aA HB1.out hb⟩
 |true =>
  have HFI:=Hd (HGG.out rfl);clear HGG
  by_cases h1:(8:Int)<(l.length:Int)
  ·go_wp2_with fail;refine(HAW.out _ HB1.out).mono ?_;rintro e wz ⟨rfl,hb⟩;go_wp2;go_ret;exact⟨rfl,aA HB1.out hb⟩
  by_cases h2:d < -25567
  ·go_wp2_with fail;refine(HAW.out _ HB1.out).mono ?_;rintro e wz ⟨rfl,hb⟩;go_wp2;go_ret;exact⟨rfl,aA HB1.out hb⟩
  by_cases h3:84005<d
  ·go_wp2_with fail;refine(HAW.out _ HB1.out).mono ?_;rintro e wz ⟨rfl,hb⟩;go_wp2;go_ret;exact⟨rfl,aA HB1.out hb⟩
  by_cases h4:stale<0
  ·go_wp2_with fail;refine(HAW.out _ HB1.out).mono ?_;rintro e wz ⟨rfl,hb⟩;go_wp2;go_ret;exact⟨rfl,aA HB1.out hb⟩
  by_cases h5:more<stale
  ·go_wp2_with fail;refine(HAW.out _ HB1.out).mono ?_;rintro e wz ⟨rfl,hb⟩;go_wp2;go_ret;exact⟨rfl,aA HB1.out hb⟩
  have hll:l.length≤8:=by omega
  have hV:gT w a c xs:=⟨HR.out,fun y hy=>⟨(HFI.out.1 y hy).small,(HF.out y hy).picks⟩,by have:=HFI.out.2.1;omega⟩
  obtain⟨fs,hfs⟩:∃fs,fs=xs.map aF.f:=⟨_,rfl⟩
  have hvc:dF fs=0:=by rw[hfs];exact HFI.out.2.2
  have HMS:Hid (∀W,Below w.heap.size w W→Calls Tryz.prog 37 #[.slice a xs.length c,.slice al l.length cl,.int .i64 d,.int .i64 stale] W fun e w'=>(∃v,e=.returned (.tuple #[v,.int .i64 0])∧w'.ownsRow W.heap.size 9 1 v (aPq fs d stale l).length (iS (aPq fs d stale l)))∧Below W.heap.size W w'):=fun W hb=>by
   have h:=aR5 xs a c l al cl d stale W (HE.out.below hb) (hV.below hb) (by omega) (HRL.out.below hb);have e1:aRj (xs.map aF.f) d stale l=aPq fs d stale l:=by unfold aRj;rw[←hfs,if_pos (aPr hvc h2 h3 h4)]
   rw[e1,←hfs,aPr hvc h2 h3 h4] at h;exact h
  have HFR:Hid (∀s m,¬ m<0→∀W,Below w.heap.size w W→Calls Tryz.prog 30 #[.slice a xs.length c,.string ⟨s.toArray⟩,.int .i64 d,.int .i64 m] W fun e w'=>e=.returned (.tuple #[.agg (aPf (FV (aL1 fs s d m))),.int .i64 (if(aL1 fs s d m).isSome=true then 0 else 17)])∧Below W.heap.size W w'):=fun s m hm W hb=>by
   have h:=aQt xs a c s d m W (HE.out.below hb) (hV.below hb);rw[←hfs,(aQx (aPr hvc h2 h3 hm)).1,(aQx (aPr hvc h2 h3 hm)).2] at h;exact h
  have HLA:Hid (∀s W,Below w.heap.size w W→Calls Tryz.prog 28 #[.slice a xs.length c,.string ⟨s.toArray⟩,.int .i64 d] W fun e w'=>e=.returned (.tuple #[.agg (aOx (QV (aJ0 fs s d))),.bool (aJ0 fs s d).isSome,.int .i64 0])∧Below W.heap.size W w'):=fun s W hb=>by
   have h:=aQo xs a c s d W (HE.out.below hb) (hV.below hb);have e1:aPz (xs.map aF.f) s d=aJ0 fs s d:=by unfold aPz;rw[←hfs,if_pos (aPr hvc h2 h3 (by decide))]
   rw[e1,←hfs,aPr hvc h2 h3 (by decide)] at h;exact h
  have HLD:Hid (∀s q,aJ0 fs s d=some q→-25567≤q.day∧q.day≤84005):=fun s q h=>aQ6 hvc h
  have HM0:Hid (¬ more<0):=by show ¬ _;omega
  have HMORE:Hid (¬ more<stale):=h5;have HDD:Hid (-25567≤d∧d≤84005):=by show _∧_;omega
  clear HE HR HF HFI hV hvc hfs;generalize xs.length=n at *;go_wp2_with fail;refine(HMS.out _ HB1.out).mono ?_;rintro e w2 ⟨⟨v2,rfl,ho2⟩,hb⟩;have HB2:=Hd (aA HB1.out hb);obtain⟨a2,c2,rfl,hr2⟩:=gK ho2;have HR2:=Hd hr2;have HRL2:=Hd (HRL.out.below HB2.out);clear hb ho2 hr2 HMS HRL HB1;go_wp2_with fail;go_loopw [13,59] (fun ov iv wr=>∃k:Nat,k≤l.length∧iv=.int .i64 k∧Hid (wr.ownsRow w2.heap.size 9 1 ov (aPu fs d stale l k).length (iS (aPu fs d stale l k)))∧Hid (Below w2.heap.size w2 wr)) (fun _ iv _=>l.length-(intOf iv).toNat)
  case atStart=>exact⟨0,Nat.zero_le _,rfl,World.ownsRow_nil _ _ _ _,Br _ _⟩
  case round =>
   obtain⟨k,hk,rfl,HOa,HBa⟩:=hrel
   by_cases hlt:k<l.length
   ·obtain⟨s,hs⟩:∃s,l[k]?=some s:=⟨l[k],Lg hlt⟩
    obtain⟨b,off,hal,hbl,hcc⟩:=(HRL2.out.below HBa.out).addr (by intro e;unfold iS at e;rw[List.map_eq_nil_iff] at e;subst e;simp at hlt);subst hal;have hc:=hcc k (.string ⟨s.toArray⟩) (by unfold iS;rw[List.getElem?_map,hs];rfl);have HK:=Hd (aQv (fs:=fs) (d:=d) (stale:=stale) hs);have hll2:=aQ5 fs d stale l k;have HBw:=Hd (aA HB2.out HBa.out);obtain⟨s',hs'⟩:∃s',s'=aPu fs d stale l (k+1):=⟨_,rfl⟩
    rw[←hs'] at HK;have HS':=Hd hs';have HC1:=Hd (HFR.out s stale h4);have HC2:=Hd (HFR.out s more HM0.out);have HC3:=Hd (HLA.out s);have HLDs:=Hd (HLD.out s);have HSP:Hid (aP9 fs d stale s=(aL1 fs s d stale).isNone):=rfl;have HV1:Hid (aL1 fs s d stale=match aJ0 fs s d with|some q=>if stale<d-q.day then none else some q.price|none=>none):=rfl;have HV2:Hid (aL1 fs s d more=match aJ0 fs s d with|some q=>if more<d-q.day then none else some q.price|none=>none):=rfl;clear hs' hs hcc hbl HLA HFR HLD h1 h2 h3 h4 h5;generalize aPu fs d stale l k=m at *;generalize aP9 fs d stale s=sp at *;generalize aL1 fs s d stale=o1 at *;generalize aL1 fs s d more=o2 at *;generalize aJ0 fs s d=o3 at *
    by_cases hfr:∃q,o3=some q∧¬ stale<d-q.day
    ·obtain⟨q,rfl,hst⟩:=hfr;have e1:o1=some q.price:=by rw[HV1.out];simp only;rw[if_neg hst]
     have e2:o2=some q.price:=by rw[HV2.out];simp only;rw[if_neg (by have:=HMORE.out;omega)]
     subst e1 e2;have hqd:=HLDs.out q rfl;have HW:Hid (wrap64 (d-q.day)=d-q.day):=by have h2:=HDD.out;show _=_;unfold wrap64;omega
     have HK2:Hid (s'=m):=by show _=_;rw[HK.out,HSP.out];simp
     have HD1:Hid (∀W,Below w.heap.size w W→Calls Tryz.prog 30 #[.slice a n c,.string ⟨s.toArray⟩,.int .i64 d,.int .i64 stale] W fun e w'=>e=.returned (.tuple #[.agg (aPf q.price),.int .i64 0])∧Below W.heap.size W w'):=HC1.out;have HD2:Hid (∀W,Below w.heap.size w W→Calls Tryz.prog 30 #[.slice a n c,.string ⟨s.toArray⟩,.int .i64 d,.int .i64 more] W fun e w'=>e=.returned (.tuple #[.agg (aPf q.price),.int .i64 0])∧Below W.heap.size W w'):=HC2.out;have HD3:Hid (∀W,Below w.heap.size w W→Calls Tryz.prog 28 #[.slice a n c,.string ⟨s.toArray⟩,.int .i64 d] W fun e w'=>e=.returned (.tuple #[.agg (aOx q),.bool true,.int .i64 0])∧Below W.heap.size W w'):=HC3.out;have HFC:Hid ((aPf q.price)[0]?=some (.string ⟨q.price.n.toArray⟩)∧(aPf q.price)[1]?=some (.string ⟨q.price.d.toArray⟩)):=⟨rfl,rfl⟩
     have HQC:Hid ((aOx q)[0]?=some (.int .i64 q.day)∧(aOx q)[1]?=some (.string ⟨q.price.n.toArray⟩)∧(aOx q)[2]?=some (.string ⟨q.price.d.toArray⟩)):=⟨rfl,rfl,rfl⟩
     have HSFA:Hid ((Tryz.prog.info? 28).map (·.size)=some (aPf q.price).size):=aPp;have HSQA:Hid ((Tryz.prog.info? 46).map (·.size)=some (aOx q).size):=aPm;have HF1A:=Hd (aP0 q.price);have HQ1A:=Hd (aPw q);have HF2A:Hid (Z2.size=(aPf q.price).size):=rfl;have HQ2A:Hid (Z3.size=(aOx q).size):=rfl;have hwr:=HW.out;clear HC1 HC2 HC3 HLDs HSP HV1 HV2 HK hqd HW HSF HSQ HMORE HDD HM0;generalize aPf q.price=fa at *;generalize aOx q=qa at *;generalize q.price.n=pn at *;generalize q.price.d=pd at *;generalize q.day=qd at *;go_wp2_with fail;refine(HD1.out _ HBw.out).mono ?_;rintro e w4 ⟨rfl,hb⟩;have HO4:=Hd (aPl HOa.out hb);have HB4:=Hd (aA HBa.out hb);have HBw4:=Hd (aA HBw.out hb);have HN4:=Hd (aB w4 (.cells Z2 28));have KN4:=Hd (aP.new0 w4 Z2 28);clear hb HOa HBa HBw HD1 hc;go_wp2_with (refine aOw rfl 28 _ _ rfl w4.heap.size rfl fa rfl KN4.out HSFA.out HF2A.out HF1A.out ?_;intro w5 kx bx kot _;have hb5:=HN4.out.trans (bx _ (Nl _));have HO5:=Hd (aPl HO4.out hb5);have HB5:=Hd (aA HB4.out hb5);have HBw5:=Hd (aA HBw4.out hb5);have KA5:=Hd kx;clear kx bx kot hb5);refine(HD2.out _ HBw5.out).mono ?_;rintro e w6 ⟨rfl,hb⟩;have HO6:=Hd (aPl HO5.out hb);have HB6:=Hd (aA HB5.out hb);have HBw6:=Hd (aA HBw5.out hb);have KA6:=Hd (KA5.out.below hb);have HN6:=Hd (aB w6 (.cells Z2 28));have KN6:=Hd (aP.new0 w6 Z2 28);clear hb HO5 HB5 HBw5 KA5 HD2 HO4 HB4 HBw4 HN4 KN4;go_wp2_with (refine aOw rfl 28 _ _ rfl w6.heap.size rfl fa rfl KN6.out HSFA.out HF2A.out HF1A.out ?_;intro w7 kx bx kot _;have hb5:=HN6.out.trans (bx _ (Nl _));have HO7:=Hd (aPl HO6.out hb5);have HB7:=Hd (aA HB6.out hb5);have HBw7:=Hd (aA HBw6.out hb5);have KA7:=Hd (KA6.out.below hb5);have KB7:=Hd kx;clear kx bx kot hb5);refine(HD3.out _ HBw7.out).mono ?_;rintro e w8 ⟨rfl,hb⟩;have HO8:=Hd (aPl HO7.out hb);have HB8:=Hd (aA HB7.out hb);have KA8:=Hd (KA7.out.below hb);have KB8:=Hd (KB7.out.below hb);have HN8:=Hd (aB w8 (.cells Z3 46));have KN8:=Hd (aP.new0 w8 Z3 46);clear hb HO7 HB7 HBw7 KA7 KB7 HD3 HO6 HB6 HBw6 KA6 HN6 KN6;go_wp2_with (refine aOw rfl 46 _ _ rfl w8.heap.size rfl qa rfl KN8.out HSQA.out HQ2A.out HQ1A.out ?_;intro w9 kx bx kot _;have hb5:=HN8.out.trans (bx _ (Nl _));have HO9:=Hd (aPl HO8.out hb5);have HB9:=Hd (aA HB8.out hb5);have a0:=((KA8.out.below hb5).cell 0).trans HFC.out.1;have a1:=((KA8.out.below hb5).cell 1).trans HFC.out.2;have b0:=((KB8.out.below hb5).cell 0).trans HFC.out.1;have b1:=((KB8.out.below hb5).cell 1).trans HFC.out.2;have q0:=(kx.cell 0).trans HQC.out.1;have q1:=(kx.cell 1).trans HQC.out.2.1;have q2:=(kx.cell 2).trans HQC.out.2.2;clear kx bx kot hb5);go_roundw
     case rel=>exact⟨k+1,by omega,by go_num,(by rw[←HS'.out,HK2.out];exact HO9),HB9⟩
     case measure=>simp[intOf];omega
    ·have e1:o1=none:=by
      rw[HV1.out];cases o3 with
      |none=>rfl
      |some q =>
       by_cases h:stale<d-q.day
       ·simp only;rw[if_pos h]
       ·exact absurd ⟨q,rfl,h⟩ hfr
     have HIS:Hid (o3.isSome=true→stale<d-(QV o3).day∧wrap64 (d-(QV o3).day)=d-(QV o3).day):=fun h=>by
      cases o3 with
      |none=>cases h
      |some q =>
       by_cases h':stale<d-q.day
       ·refine⟨h',?_⟩;have h1:=HLDs.out q rfl;have h2:=HDD.out;show wrap64 (d-q.day)=d-q.day;unfold wrap64;omega
       ·exact absurd ⟨q,rfl,h'⟩ hfr
     subst e1;have HK2:Hid (s'=m ++ [s]):=by show _=_;rw[HK.out,HSP.out];simp
     have HD1:Hid (∀W,Below w.heap.size w W→Calls Tryz.prog 30 #[.slice a n c,.string ⟨s.toArray⟩,.int .i64 d,.int .i64 stale] W fun e w'=>e=.returned (.tuple #[.agg Z2,.int .i64 17])∧Below W.heap.size W w'):=HC1.out;have HQC:Hid ((aOx (QV o3))[0]?=some (.int .i64 (QV o3).day)):=rfl;have HSFA:Hid ((Tryz.prog.info? 28).map (·.size)=some (aPf (FV o2)).size):=aPp;have HSFZ:Hid ((Tryz.prog.info? 28).map (·.size)=some Z2.size):=aPp;have HSQA:Hid ((Tryz.prog.info? 46).map (·.size)=some (aOx (QV o3)).size):=aPm;have HF1A:=Hd (aP0 (FV o2));have HZ1A:Hid (Z2.all (·.oneCell')=true):=aP0 ⟨[],[]⟩;have HQ1A:=Hd (aPw (QV o3));have HF2A:Hid (Z2.size=(aPf (FV o2)).size):=rfl;have HQ2A:Hid (Z3.size=(aOx (QV o3)).size):=rfl;have HZC:Hid (Z2[0]?=some (.string ⟨#[]⟩)∧Z2[1]?=some (.string ⟨#[]⟩)):=⟨rfl,rfl⟩
     obtain⟨er,her⟩:∃er:Int,er=if o2.isSome=true then 0 else 17:=⟨_,rfl⟩
     rw[←her] at HC2;clear HC1 HLDs HSP HV1 HV2 HK HSF HSQ HMORE HDD HM0 hfr her;generalize aPf (FV o2)=fa at *;generalize aOx (QV o3)=qa at *;generalize(QV o3).day=qd at *;generalize o3.isSome=isb at *;go_wp2_with fail;refine(HD1.out _ HBw.out).mono ?_;rintro e w4 ⟨rfl,hb⟩;have HO4:=Hd (aPl HOa.out hb);have HB4:=Hd (aA HBa.out hb);have HBw4:=Hd (aA HBw.out hb);have HN4:=Hd (aB w4 (.cells Z2 28));have KN4:=Hd (aP.new0 w4 Z2 28);clear hb HOa HBa HBw HD1 hc;go_wp2_with (refine aOw rfl 28 _ _ rfl w4.heap.size rfl Z2 rfl KN4.out HSFZ.out rfl HZ1A.out ?_;intro w5 kx bx kot _;have hb5:=HN4.out.trans (bx _ (Nl _));have HO5:=Hd (aPl HO4.out hb5);have HB5:=Hd (aA HB4.out hb5);have HBw5:=Hd (aA HBw4.out hb5);have KA5:=Hd kx;clear kx bx kot hb5);refine(HC2.out _ HBw5.out).mono ?_;rintro e w6 ⟨rfl,hb⟩;have HO6:=Hd (aPl HO5.out hb);have HB6:=Hd (aA HB5.out hb);have HBw6:=Hd (aA HBw5.out hb);have KA6:=Hd (KA5.out.below hb);have HN6:=Hd (aB w6 (.cells Z2 28));have KN6:=Hd (aP.new0 w6 Z2 28);clear hb HO5 HB5 HBw5 KA5 HC2 HO4 HB4 HBw4 HN4 KN4;go_wp2_with (refine aOw rfl 28 _ _ rfl w6.heap.size rfl fa rfl KN6.out HSFA.out HF2A.out HF1A.out ?_;intro w7 kx bx kot _;have hb5:=HN6.out.trans (bx _ (Nl _));have HO7:=Hd (aPl HO6.out hb5);have HB7:=Hd (aA HB6.out hb5);have HBw7:=Hd (aA HBw6.out hb5);have KA7:=Hd (KA6.out.below hb5);clear kx bx kot hb5);refine(HC3.out _ HBw7.out).mono ?_;rintro e w8 ⟨rfl,hb⟩;have HO8:=Hd (aPl HO7.out hb);have HB8:=Hd (aA HB7.out hb);have KA8:=Hd (KA7.out.below hb);have HN8:=Hd (aB w8 (.cells Z3 46));have KN8:=Hd (aP.new0 w8 Z3 46);clear hb HO7 HB7 HBw7 KA7 HC3 HO6 HB6 HBw6 KA6 HN6 KN6;have HISP:Hid (isb=false∨isb=true∧stale<d-qd∧wrap64 (d-qd)=d-qd):=by
      cases isb with
      |false=>exact .inl rfl
      |true=>exact .inr ⟨rfl,HIS.out rfl⟩
     rcases HISP.out with rfl|⟨rfl,hst,hwr⟩
     all_goals
      clear HISP HIS;go_wp2_with (first|(refine aOw rfl 46 _ _ rfl w8.heap.size rfl qa rfl KN8.out HSQA.out HQ2A.out HQ1A.out ?_;intro w9 kx bx kot hsz9;have hb5:=HN8.out.trans (bx _ (Nl _));have HO9:=Hd (aPl HO8.out hb5);have HB9:=Hd (aA HB8.out hb5);have HSZ9:=Hd HB9.out.size;have a0:=((KA8.out.below hb5).cell 0).trans HZC.out.1;have a1:=((KA8.out.below hb5).cell 1).trans HZC.out.2;have q0:=(kx.cell 0).trans HQC.out;clear kx bx kot hb5 hsz9)|(at_builtin;refine wpList_append_own_at _ rfl _ _ 62 rfl w2.heap.size 9 i0 (.string ⟨#[]⟩) 1 16 Tryz.underlying62 HINF.out.1 HINF.out.2.1 HINF.out.2.2.1 HINF.out.2.2.2 rfl (by decide) _ _ _ rfl (HO9.out.alloc _) ⟨w9.heap.size,0,none⟩ 1 1 [.string ⟨s.toArray⟩] rfl rfl (cell_one_new _ _ _) (by simp[Value.oneCell']) (by unfold maxLen;omega) (by omega) (by have:=HSZ9.out;simp;omega) ?_));intro v' w10 hown' hgrow _ _;have HB10:=Hd (Ut (HO9.out.alloc (.cells #[.string ⟨s.toArray⟩] 9)) hgrow (aA HB9.out (aB _ _)) (by have:=HSZ9.out;simp;omega));have HO10:Hid (w10.ownsRow w2.heap.size 9 1 v' s'.length (iS s')):=by
       show World.ownsRow _ _ _ _ _ _ _;rw[HK2.out];simpa[iS] using hown'
      clear hgrow hown';go_wp2;go_roundw
      case rel=>exact⟨k+1,by omega,by go_num,(by rw[←HS'.out];exact HO10),HB10⟩
      case measure=>simp[intOf];omega
   ·obtain rfl:k=l.length:=by omega
    have hoe:=HOa.out;rw[aQl] at hoe;obtain⟨a3,c3,rfl,hr3⟩:=gK hoe;have HLL:Hid ((aPq fs d stale l).length≤1000000):=by have:=List.length_filter_le (aP9 fs d stale) l;show (aPq fs d stale l).length≤_;unfold aPq;omega
    have HEQ:Hid (Calls Tryz.prog 38 #[.slice a2 (aPq fs d stale l).length c2,.slice a3 (aPq fs d stale l).length c3] wr fun e w'=>e=.returned (.bool true)∧Below wr.heap.size wr w'):=by
     have h:=Ep (aPq fs d stale l) (aPq fs d stale l) a2 a3 c2 c3 wr HLL.out HLL.out (HR2.out.below HBa.out) hr3;rw[decide_eq_true (rfl:aPq fs d stale l=aPq fs d stale l)] at h;exact h
    rw[aQl] at *;have HBw:=Hd (aA HB2.out HBa.out);clear hoe hr3 HOa HLA HFR HLD HBa;generalize(aPq fs d stale l).length=ml at *;go_wp2_with fail;refine HEQ.out.mono ?_;rintro e w11 ⟨rfl,hb⟩;have HB11:=Hd (aA HBw.out hb);clear hb HEQ HBw;go_wp2_with fail;refine(HAW.out _ HB11.out).mono ?_;rintro e wz ⟨rfl,hb⟩;go_wp2;go_ret;exact⟨rfl,aA HB11.out hb⟩
end
section
open Go.RowKit Num Dt Go.ChangeShapes Go.WideShapes Go.ChangeAt
section
variable {H:Type}{enc:TypeId×Value→H}{w:World}{base:Nat}{held:Bool}
theorem aRy{v:Value}{d:DataW H}{ps:List MemPlace}(hv:Value.okWide Tryz.prog w .any base 62 v)(h:DataW.Trod enc Tryz.prog w 0 (fun _=>true) held 62 v d ps):
  ∃(a:Option Addr) (c:Nat) (ss:List (List UInt8)),v=.slice a ss.length c∧ss.length≤c∧ss.length≤maxLen∧dT w a (iS ss):=by
 obtain⟨a,n,c,rfl,hnc,hm,hx⟩:=Tw (N:=1) (by decide) Tryz.underlying62 (by kernel_rfl) hv h;rcases hx with rfl|⟨b,off,rfl,hb,hx⟩
 ·exact⟨a,c,[],rfl,Nat.zero_le _,Nat.zero_le _,.inl rfl⟩
 ·obtain⟨ss,hl,hp⟩:=Dv (α:=List UInt8) (p:=fun i z=>w.cell? ⟨b,off+i,none⟩=some (Pm z)) (fun i hi=>by
   obtain⟨cs,m,y,hlen,hcc,ht⟩:=hx i hi;obtain⟨z,e,_,_⟩:=DataW.trod_string Tryz.underlying9 ht;refine⟨z.data.toList,?_⟩;have:=hcc 0 (by decide);rw[e] at this;simpa[Pm] using this)
  subst hl;refine⟨_,c,ss,rfl,hnc,hm,.inr ⟨b,off,rfl,hb,fun k u hk=>?_⟩⟩;unfold iS at hk;rw[List.getElem?_map] at hk;cases hz:ss[k]? with
  |none=>rw[hz] at hk;cases hk
  |some z =>
   rw[hz] at hk;obtain rfl:=Option.some.inj hk;exact hp k z hz
end
end
end Go.Proofs.YtejkibnaidiklaaGreatDoor
