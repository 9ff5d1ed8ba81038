/- FindP2 Find -/
import Derived.Test.YtejkibnaidiklaaGreatDoorJMem
import Derived.Test.YtejkibnaidiklaaGreatDoorJViewA
import Derived.Test.YtejkibnaidiklaaGreatDoorJLog
import Derived.Test.YtejkibnaidiklaaGreatDoorJDate
set_option maxHeartbeats 16000000
set_option maxRecDepth 100000
namespace Go.Proofs.YtejkibnaidiklaaGreatDoor
section
open Go Go.RowKit Num
theorem aFj{fs:List aE}{key:List UInt8}{k:Nat}(h:lT fs key=some k):∃f,fs[k]?=some f∧f.key=key:=by
 unfold lT at h;rw[List.findIdx?_eq_some_iff_getElem] at h;obtain⟨hl,he,_⟩:=h;exact⟨fs[k],Lg hl,by simpa using he⟩
theorem aDr{fs:List aE}(hn:(fs.map (·.key)).Nodup){k:Nat}{f:aE}(hf:fs[k]?=some f):lT fs f.key=some k:=by
 refine Ab (fun j g hj hg=>?_) hf (by simp);have h1:(fs.map (·.key))[j]?=some g.key:=by rw[List.getElem?_map,hg];rfl
 have h2:(fs.map (·.key))[k]?=some f.key:=by rw[List.getElem?_map,hf];rfl
 cases h:(g.key==f.key) with
 |false=>rfl
 |true =>
  have e:g.key=f.key:=by simpa using h
  rw[e] at h1;obtain⟨l1,g1⟩:=Li.1 h1;obtain⟨l2,g2⟩:=Li.1 h2;have:=(List.nodup_iff_pairwise_ne.1 hn)
  have hp:=List.pairwise_iff_getElem.1 this j k l1 l2 hj;exact absurd (g1.trans g2.symm) hp
def aG5(o:Option Nat):Int:=match o with
 |some i=>(i:Int)
 |none=>-1
end
section
open Go Go.RowKit Num
theorem aGr(x:aF)(key:List UInt8)(bk:Nat)(w:World)(hb:aP w bk #[.string ⟨key.toArray⟩] 9):
  Calls Tryz.prog 77 #[.agg x.arr,.pointer (some ⟨bk,0,none⟩)] w fun e w'=>e=.returned (.bool (x.f.key==key))∧Below w.heap.size w w':=by
 have KX:=aP.new0 w x.arr 59;have x0:=(KX.cell 0).trans (show _=some (.string ⟨x.f.key.toArray⟩) from rfl);have ck:=((hb.below (aB w (.cells x.arr 59))).cell 0).trans (show _=some (.string ⟨key.toArray⟩) from rfl);have HB0:=Hd (aB w (.cells x.arr 59));clear KX hb;generalize x.arr=xc at *;generalize x.f.key=kk at *;cases h:(kk==key) with
 |true =>
  go_enter Tryz.func77,Tryz.ntmps77;go_wp2;go_ret;exact⟨rfl,HB0.out⟩
 |false =>
  go_enter Tryz.func77,Tryz.ntmps77;go_wp2;go_ret;exact⟨rfl,HB0.out⟩
theorem aFx(xs:List aF)(a:Option Addr)(c:Nat)(key:List UInt8)(bk:Nat)(w:World)(hn:xs.length≤1000000)(hr:fS w a xs)(hb:aP w bk #[.string ⟨key.toArray⟩] 9):
  Calls Tryz.prog 72 #[.slice a xs.length c,.func (.func 77) #[] #[.pointer (some ⟨bk,0,none⟩)]] w fun e w'=>e=.returned (.int .i64 (aG5 (lT (xs.map aF.f) key)))∧Below w.heap.size w w':=by
 obtain⟨res,hres⟩:∃res,res=aG5 (lT (xs.map aF.f) key):=⟨_,rfl⟩
 rw[←hres];have HRES:=Hd hres;have HR:=Hd hr;have HK:=Hd hb;clear hres hr hb;go_enter Tryz.func72,Tryz.ntmps72;go_wp2_with fail;go_loopw [8] (fun iv wr=>∃k:Nat,k≤xs.length∧iv=.int .i64 k∧Hid (∀j g,j<k→(xs.map aF.f)[j]?=some g→(g.key==key)=false)∧Hid (Below w.heap.size w wr)) (fun iv _=>xs.length-(intOf iv).toNat)
 case atStart=>exact⟨0,Nat.zero_le _,rfl,fun j g h=>absurd h (Nat.not_lt_zero j),Br _ _⟩
 case round =>
  obtain⟨k,hk,rfl,HS,HB⟩:=hrel
  by_cases hlt:k<xs.length
  ·obtain⟨x,hx⟩:∃x,xs[k]?=some x:=⟨xs[k],Lg hlt⟩
   have hfk:(xs.map aF.f)[k]?=some x.f:=by rw[List.getElem?_map,hx];rfl
   obtain⟨b,off,rfl,hbl,hc⟩:=HR.out.1.addr (k:=k) (cs:=x.cells) (by rw[List.getElem?_map,hx];rfl);have HC:Hid (∀j v,x.arr.toList[j]?=some v→wr.cell? ⟨b,off+k*21+j,none⟩=some v):=fun j v hv=>(HB.out.cell (p:=⟨b,off+k*21+j,none⟩) hbl).trans (hc j v hv)
   have HSZ:Hid ((Tryz.prog.info? 59).map (·.size)=some x.arr.size):=aY x.f x.pa x.oa x.pc x.oc;have HG:=Hd (aGr x key bk wr (HK.out.below HB.out));have HHIT:Hid ((x.f.key==key)=true→res=(k:Int)):=fun he=>by rw[HRES.out,Ab HS.out hfk he];rfl
   have HS2:Hid ((x.f.key==key)=false→∀j g,j<k+1→(xs.map aF.f)[j]?=some g→(g.key==key)=false):=fun he j g hj hg=>by
    by_cases e:j=k
    ·subst e;rw[hfk] at hg;injection hg with hg;subst hg;exact he
    ·exact HS.out j g (by omega) hg
   clear HS hfk hx hc;generalize(x.f.key==key)=hit at *;generalize x.arr=fc at *;go_wp2_with (refine aM rfl 59 _ rfl b (off+k*21) rfl fc _ HC.out Tryz.underlying59 rfl HSZ.out ?_);refine HG.out.mono ?_;rintro e w1 ⟨rfl,hb⟩;have HB1:=Hd (aA HB.out hb);clear hb;cases hit with
   |true =>
    have HV:=Hd (HHIT.out rfl);clear HHIT HS2;go_wp2;go_ret;exact⟨by rw[HV.out];rfl,HB1.out⟩
   |false =>
    have HS3:=Hd (HS2.out rfl);clear HHIT HS2;go_wp2;go_roundw
    case rel=>exact⟨k+1,by omega,by go_num,HS3,HB1⟩
    case measure=>simp[intOf];omega
  ·obtain rfl:k=xs.length:=by omega
   have HV:Hid (res = -1):=by show _=_;rw[HRES.out,Aa (fun j g hj=>HS.out j g (by simpa using hj))];rfl
   clear HS;go_wp2;go_ret;exact⟨by rw[HV.out];rfl,HB.out⟩
theorem aG3(xs:List aF)(a:Option Addr)(c:Nat)(key:List UInt8)(w:World)(hn:xs.length≤1000000)(hr:fS w a xs):
  Calls Tryz.prog 44 #[.slice a xs.length c,.string ⟨key.toArray⟩] w fun e w'=>e=.returned (qN (xs.map aF.f) key)∧Below w.heap.size w w':=by
 have HB0:=Hd (aB w (.cells #[.string ⟨key.toArray⟩] 9));have HI:=Hd (aFx xs a c key w.heap.size (w.alloc (.cells #[.string ⟨key.toArray⟩] 9)) hn (hr.below HB0.out) (aP.new0 w #[.string ⟨key.toArray⟩] 9));have hlt:∀i,lT (xs.map aF.f) key=some i→i≤1000000:=fun i hi=>by
  obtain⟨f,hf,_⟩:=aFj hi;have:=(Li.1 hf).1;rw[List.length_map] at this;omega
 clear hr;unfold qN;generalize xs.length=n at *;cases ho:lT (xs.map aF.f) key with
 |none =>
  rw[ho] at HI;have HI:Hid (Calls Tryz.prog 72 #[.slice a n c,.func (.func 77) #[] #[.pointer (some ⟨w.heap.size,0,none⟩)]] (w.alloc (.cells #[.string ⟨key.toArray⟩] 9)) fun e w'=>e=.returned (.int .i64 (-1))∧Below (w.alloc (.cells #[.string ⟨key.toArray⟩] 9)).heap.size (w.alloc (.cells #[.string ⟨key.toArray⟩] 9)) w'):=HI;clear ho hlt;go_enter Tryz.func44,Tryz.ntmps44;go_wp2_with fail;refine HI.out.mono ?_;rintro e w1 ⟨rfl,hb⟩;have HB1:=Hd (aA HB0.out hb);clear hb;go_wp2;go_ret2;exact⟨rfl,HB1.out⟩
 |some i =>
  have hi:=hlt i ho;rw[ho] at HI;have HI:Hid (Calls Tryz.prog 72 #[.slice a n c,.func (.func 77) #[] #[.pointer (some ⟨w.heap.size,0,none⟩)]] (w.alloc (.cells #[.string ⟨key.toArray⟩] 9)) fun e w'=>e=.returned (.int .i64 (i:Int))∧Below (w.alloc (.cells #[.string ⟨key.toArray⟩] 9)).heap.size (w.alloc (.cells #[.string ⟨key.toArray⟩] 9)) w'):=HI;clear ho hlt;go_enter Tryz.func44,Tryz.ntmps44;go_wp2_with fail;refine HI.out.mono ?_;rintro e w1 ⟨rfl,hb⟩;have HB1:=Hd (aA HB0.out hb);clear hb;go_wp2;go_ret2;exact⟨rfl,HB1.out⟩
end
end Go.Proofs.YtejkibnaidiklaaGreatDoor
