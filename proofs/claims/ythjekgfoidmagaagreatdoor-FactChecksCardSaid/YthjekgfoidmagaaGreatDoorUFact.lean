/- FactA FactP Picks Picks2 -/
import Derived.Test.YthjekgfoidmagaaGreatDoorUFrac
set_option maxHeartbeats 16000000
set_option maxRecDepth 100000
namespace Go.Proofs.YthjekgfoidmagaaGreatDoor
open Tryz
section
open Go.RowKit Num
theorem fN(l:List UInt8)(w:World):
  Calls prog 142 #[.string ⟨l.toArray⟩] w fun e w'=>e=.returned (.int .i64 ((body l).length:Int))/\w=w':=by
 have H:=Hd (strings_TrimPrefix ⟨l.toArray⟩ ⟨#[45]⟩ w);have hb:=Ot l;have hlen:((⟨(body l).toArray⟩:ByteArray).size)=(body l).length:=aV _;have hbl:=uG l;rw[show (⟨l.toArray⟩:ByteArray).data.toList=l by simp,show (⟨#[45]⟩:ByteArray).data.toList=[45] from rfl,hb] at H;generalize body l=b at *;clear hb;go_enter func142,ntmps142;go_wp2_with fail;refine H.out.mono ?_;rintro e w' ⟨rfl,hw⟩;subst hw;go_wp2;go_ret;exact⟨by first|rfl|simp[hlen],rfl⟩
def Nk(c:UInt8):Bool:=decide (65<=c.toNat)&&decide (c.toNat<=90)
def fV(l:List UInt8):Bool:=decide (l.length=3)&&l.all Nk
def rL:List UInt8:=[65,66,67,68,69,70,71,72,73,74,75,76,77,78,79,80,81,82,83,84,85,86,87,88,89,90]
theorem uZ(c:UInt8):rL.contains c=Nk c:=by
 have h:∀n:Fin 256,rL.contains (UInt8.ofNat n.1)=Nk (UInt8.ofNat n.1):=by decide +kernel
 have h2:=h ⟨c.toNat,c.toNat_lt⟩;simpa using h2
theorem Dh(l:List UInt8):Lib.trimS l rL=[]↔l.all Nk=true:=by
 rw[rO];simp only[uZ]
theorem Fx(l:List UInt8)(w:World)(hl:l.length<=9000000000000000000):
  Calls prog 144 #[.string ⟨l.toArray⟩,.string ⟨#[65,66,67,68,69,70,71,72,73,74,75,76,77,78,79,80,81,82,83,84,85,86,87,88,89,90]⟩] w fun e w'=>e=.returned (.string ⟨(Lib.trimS l rL).toArray⟩)/\Below w.heap.size w w' :=
 (Any.strings_Trim_laid lays160 (by kernel_rfl) ⟨l.toArray⟩ ⟨rL.toArray⟩ w (by rw[aV];omega) (by decide) (ascii_of_all (by decide))).mono fun e w' ⟨he,hw⟩=>⟨by rw[he],hw⟩
theorem zQ(l:List UInt8)(w:World)(hl:l.length<=9000000000000000000):
  Calls prog 91 #[.string ⟨l.toArray⟩] w fun e w'=>e=.returned (.bool (fV l))/\Below w.heap.size w w':=by
 have H:=Hd (Fx l w hl);have ht:=Dh l;have hlen:((⟨l.toArray⟩:ByteArray).size)=l.length:=aV _;generalize Lib.trimS l rL=t at *
 by_cases h3:l.length=3
 ·have hc:fV l=t.isEmpty:=by
   unfold fV;rw[h3];cases t with
   |nil=>simp[ht.1 rfl]
   |cons a b =>
    have:¬ l.all Nk=true:=fun h=>by have:=ht.2 h;cases this
    simp[this]
  rw[hc];have h3':((l.length:Int)==3)=true:=by simp;omega
  clear hc ht h3;go_enter func91,ntmps91;go_wp2_with fail;refine H.out.mono ?_;rintro e w' ⟨rfl,hb⟩;cases ht2:t.isEmpty
  all_goals
   go_wp2;go_ret;exact⟨by rw[ht2];rfl,hb⟩
 ·have hc:fV l=false:=by unfold fV;simp[h3]
  rw[hc];have h3':((l.length:Int)==3)=false:=by simp;omega
  clear hc ht h3 H;go_enter func91,ntmps91;go_wp2;go_ret;exact⟨rfl,Br _ _⟩
theorem lF(l:List UInt8)(w:World):
  Calls prog 148 #[.string ⟨l.toArray⟩] w fun e w'=>e=.returned (.agg #[.string ⟨l.toArray⟩,.string ⟨#[]⟩])/\Below w.heap.size w w':=by
 go_enter func148,ntmps148;go_wp2;exact bodyPost_ret (v:=.agg #[.string ⟨l.toArray⟩,.string ⟨#[]⟩]) (by simp[results,results148,go_sem]) rfl ⟨rfl,aB w _⟩
theorem Ir(p q:Bool)(w:World):
  Calls prog 86 #[.bool p,.bool q] w fun e w'=>e=.returned (.func (.func 139) #[] #[.pointer (some ⟨w.heap.size,0,none⟩),.pointer (some ⟨w.heap.size+1,0,none⟩)])/\(w.alloc (.cells #[.bool p] 4)).alloc (.cells #[.bool q] 4)=w':=by
 go_enter func86,ntmps86;go_wp2;go_ret;exact⟨rfl,rfl⟩
theorem If(l:List UInt8)(w:World)(hE:iE w)(hl:l.length<4294967281):
  Calls prog 145 #[.string ⟨l.toArray⟩] w fun e w'=>e=.returned (.bool (sP l))/\Below w.heap.size w w':=by
 have H1:=Hd (Vi l w hE hl);have hc:=Hd (show sP l=(oL (Lib.cut l [47]).2.1&&dC (Lib.cut l [47]).1) from rfl);have hcl:=Zt l;generalize(Lib.cut l [47]).1=x at *;generalize(Lib.cut l [47]).2.1=y at *;generalize(Lib.cut l [47]).2.2=z at *;generalize sP l=r at *;have H4:=Hd (fun W=>qW x W (by omega));have HE:=Hd hE;rcases Classical.em (∃v,Lib.atoiAll y=.ok v) with⟨v,hv⟩|hv
 ·have H2:=Hd (fun W (_:True)=>Vw y v hv W (by omega));have hb:=aAa hv;have H3:=Hd (fun W hW=>Uj v hb.1 hb.2 W hW);have hn:=Hd (Uk hv);clear hv hE;obtain⟨hbd1,hbd2⟩:=hb;generalize oL y=ny at *;generalize dC x=nx at *;generalize Lib.itoa v=t at *
  by_cases g1:1<=v <;> by_cases g2:v<=9999 <;> by_cases g3:t=y <;> cases nx
  all_goals try(exfalso;omega)
  all_goals
   go_enter func145,ntmps145;go_wp2_with fail;refine H1.out.mono ?_;rintro e w1 ⟨rfl,hb1⟩;go_wp2_with fail;refine(H2.out _ trivial).mono ?_;rintro e w2 ⟨rfl,hb2⟩;go_wp2_with (first|(go_at_call 29;refine(H4.out _).mono ?_;rintro e w4 ⟨rfl,hb4⟩)|(go_at_call 55;refine(H3.out _ (HE.out.below (by first|exact aA (aA hb1 hb2) hb4|exact aA hb1 hb2))).mono ?_;rintro e w3 ⟨rfl,hb3⟩));go_ret;refine⟨dG (by rw[hc.out,hn.out];simp[g1,g2,g3]),?_⟩
   first|exact aA (aA (aA hb1 hb2) hb3) hb4|exact aA (aA (aA hb1 hb2) hb4) hb3|exact aA (aA hb1 hb2) hb4|exact aA (aA hb1 hb2) hb3|exact aA hb1 hb2
 ·have hv':∀v,Lib.atoiAll y ≠ .ok v:=fun v h=>hv ⟨v,h⟩
  have H2:=Hd (fun W hW=>Zz y hv' W hW (by omega));have hn:=Hd (Qu hv');have H3:True:=trivial;clear hv hv' hE;generalize oL y=ny at *;generalize dC x=nx at *;cases nx
  all_goals
   go_enter func145,ntmps145;go_wp2_with fail;refine H1.out.mono ?_;rintro e w1 ⟨rfl,hb1⟩;go_wp2_with fail;refine(H2.out _ (HE.out.below hb1)).mono ?_;rintro e w2 ⟨n,p,rfl,hb2⟩;go_wp2_with (first|(go_at_call 29;refine(H4.out _).mono ?_;rintro e w4 ⟨rfl,hb4⟩)|(go_at_call 55;skip));go_ret;refine⟨dG (by rw[hc.out,hn.out];simp),?_⟩
   first|exact aA (aA (aA hb1 hb2) hb3) hb4|exact aA (aA (aA hb1 hb2) hb4) hb3|exact aA (aA hb1 hb2) hb4|exact aA (aA hb1 hb2) hb3|exact aA hb1 hb2
def pW(n d:List UInt8):Int:=bG (eT (iY n d [] []) (iG d [])) 0
def tU(n d:List UInt8):Int:=bG (eT (iY n d [49] []) (iG d [])) 0
def lim(p q:Bool)(n d:List UInt8):Int :=
 if Cu n d=false then 1 else if 40<(body n).length∨40<(body d).length then 4
 else if pW n d<0∨(p=true/\pW n d=0)∨(q=true/\0<tU n d) then 2 else 0
theorem aZ3(p q:Bool)(hpq:(p&&q)=false)(n d:List UInt8)(bp bq:Nat)(T T':TypeId)(w:World)(hE:iE w)(hn:n.length<=400)(hd:d.length<=400)(hp:aP w bp #[.bool p] T)(hq:aP w bq #[.bool q] T'):
  Calls prog 139 #[.agg #[.string ⟨n.toArray⟩,.string ⟨d.toArray⟩],.pointer (some ⟨bp,0,none⟩),.pointer (some ⟨bq,0,none⟩)] w fun e w'=>e=.returned (.int .i64 (lim p q n d))/\Below w.heap.size w w':=by
 have HE:=Hd hE;have HC:=Hd (fun W hE=>fB n d [] [] W hE hn hd (by simp) (by simp));rw[show bG (eT (iY n d [] []) (iG d [])) 0=pW n d from rfl] at HC;have HO:=Hd (fun W hE=>fB n d [49] [] W hE hn hd (by simp) (by simp));rw[show bG (eT (iY n d [49] []) (iG d [])) 0=tU n d from rfl] at HO;have HK:=Hd (fun W hE=>oB n d W hE (by omega) (by omega));have H1:=Hd (fun W=>fN n W);have H2:=Hd (fun W=>fN d W);obtain⟨res,hres⟩:∃r,r=lim p q n d:=⟨_,rfl⟩
 rw[<-hres];unfold lim at hres;generalize pW n d=sg at *;generalize tU n d=ov at *;generalize(body n).length=ln at *;generalize(body d).length=ld at *;generalize Cu n d=bf at *;have HRES:=Hd hres;have HPQ:=Hd hpq;clear hres hpq;have HBP:=Hd hp;have HBQ:=Hd hq;clear hE hp hq;have HB0:=Hd (aP.new0 w #[.string ⟨n.toArray⟩,.string ⟨d.toArray⟩] 25);have HBw:=Hd (aB w (.cells #[.string ⟨n.toArray⟩,.string ⟨d.toArray⟩] 25));go_enter func139,ntmps139;go_wp2_with fail;refine(HC.out _ (HE.out.below HBw.out)).mono ?_;rintro e w1 ⟨rfl,hb1⟩;have KB:=HB0.out.below hb1;have k0:=KB.cell 0;have k1:=KB.cell 1;have B1:=aA HBw.out hb1;go_wp2_with fail;refine(HK.out _ (HE.out.below B1)).mono ?_;rintro e w2 ⟨rfl,hb2⟩;have KB:=KB.below hb2;have k0:=KB.cell 0;have k1:=KB.cell 1;have B2:=aA B1 hb2;have kp:=(HBP.out.below B2).cell 0;have kq:=(HBQ.out.below B2).cell 0;cases bf with
 |false =>
  have hr:Hid (res=1):=by have hh:=HRES.out;simp at hh;exact hh
  go_wp2;go_ret;exact⟨by rw[hr.out];rfl,B2⟩
 |true =>
 go_wp2_with fail;refine(H1.out _).mono ?_;rintro e w3 ⟨rfl,rfl⟩
 by_cases h1:40<ln
 ·have h1':(40:Int)<ln:=by omega
  have hr:Hid (res=4):=by have hh:=HRES.out;simp[h1] at hh;exact hh
  clear h1;go_wp2;go_ret;exact⟨by rw[hr.out];rfl,B2⟩
 have h1':¬ (40:Int)<ln:=by omega
 go_wp2_with fail;refine(H2.out _).mono ?_;rintro e w3 ⟨rfl,rfl⟩
 by_cases h2:40<ld
 ·have h2':(40:Int)<ld:=by omega
  have hr:Hid (res=4):=by have hh:=HRES.out;simp[h1,h2] at hh;exact hh
  clear h1 h2;go_wp2;go_ret;exact⟨by rw[hr.out];rfl,B2⟩
 have h2':¬ (40:Int)<ld:=by omega
 have HRES:Hid (res=if sg<0∨(p=true/\sg=0)∨(q=true/\0<ov) then 2 else 0):=by have hh:=HRES.out;rw[if_neg (by decide),if_neg (by omega)] at hh;exact hh
 clear h1 h2;go_wp2_with fail
 by_cases h:sg<0
 ·have s1:decide (sg<0)=true:=by simp[h]
  have hr:Hid (res=2):=by have hh:=HRES.out;simp[h] at hh;exact hh
  clear h;cases p <;> cases q
  all_goals
   go_quiet (fail);go_wp2;go_ret;exact⟨by rw[hr.out];rfl,aD B2 _⟩
 have s1:decide (sg<0)=false:=by simp;omega
 cases p with
 |true =>
  cases q with
  |true=>exact absurd HPQ.out (by decide)
  |false =>
  by_cases h0:sg=0
  ·have s2:(sg==0)=true:=by simp[h0]
   have hr:Hid (res=2):=by have hh:=HRES.out;simp[h0] at hh;exact hh
   clear h h0;go_quiet (fail);go_wp2;go_ret;exact⟨by rw[hr.out];rfl,aD B2 _⟩
  ·have s2:(sg==0)=false:=by simp[h0]
   have hr:Hid (res=0):=by have hh:=HRES.out;simp[h,h0] at hh;exact hh
   clear h h0;go_quiet (fail);go_wp2;go_ret;exact⟨by rw[hr.out];rfl,aD B2 _⟩
 |false =>
  cases q with
  |false =>
   have hr:Hid (res=0):=by have hh:=HRES.out;simp[h] at hh;exact hh
   clear h;go_quiet (fail);go_wp2;go_ret;exact⟨by rw[hr.out];rfl,aD B2 _⟩
  |true =>
   have HOV:Hid (res=if 0<ov then 2 else 0):=by have h2:=HRES.out;simp[h] at h2;exact h2
   clear h HRES;have HBc:Below w.heap.size w w2.drew:=aD B2 1;have KX:aP w2.drew w.heap.size #[.string ⟨n.toArray⟩,.string ⟨d.toArray⟩] _:=KB;have KP:aP w2.drew bp #[.bool false] T:=HBP.out.below HBc;have KQ:aP w2.drew bq #[.bool true] T':=HBQ.out.below HBc;refine wp_region_held_drew (S:=fun W=>W.cell? ⟨w.heap.size,0,none⟩=some (.string ⟨n.toArray⟩)/\W.cell? ⟨w.heap.size,1,none⟩=some (.string ⟨d.toArray⟩)/\W.cell? ⟨bp,0,none⟩=some (.bool false)/\W.cell? ⟨bq,0,none⟩=some (.bool true)) (by kernel_rfl) ?hS1 (fun hHeld=>?hR1)
   case hS1=>exact⟨KX.cell 0,KX.cell 1,KP.cell 0,KQ.cell 0⟩
   refine In 0 (some 25) rfl rfl ?_;simp only[pS];refine In 1 (some 26) rfl rfl ?_;simp only[pS];refine In 2 (some 27) rfl rfl ?_;simp only[pS];refine In 3 (some 28) rfl rfl ?_;simp only[pS];refine In 4 (some 29) rfl rfl ?_;simp only[pS];refine tu 5 (some 30) rfl rfl ?_;simp only[pS];refine tu 6 (some 31) rfl rfl ?_;simp only[pS];refine In 7 (some 32) rfl rfl ?_;simp only[pS];refine In 8 (some 33) rfl rfl ?_;simp only[pS];refine In 9 (some 34) rfl rfl ?_;simp only[pS];refine In 10 (some 35) rfl rfl ?_;simp only[pS];refine In 11 (some 36) rfl rfl ?_;simp only[pS];refine In 12 (some 37) rfl rfl ?_;simp only[pS];refine rd1 13 rfl (fun K hK=>?_);go_simp;go_at_call 143;refine(zW _ (HE.out.below HBc)).mono ?_;rintro e wn ⟨rfl,hbn⟩;replace HBc:=aA HBc hbn;replace KX:=KX.below hbn;replace KP:=KP.below hbn;replace KQ:=KQ.below hbn;clear hbn;go_wp2_with fail;refine hK.out _ _ ?hS13 (fun hHeld=>?hR13)
   case hS13=>exact⟨KX.cell 0,KX.cell 1,KP.cell 0,KQ.cell 0⟩
   try simp only[pS]
   refine rd1 14 rfl (fun K hK=>?_);go_simp;go_at_call 140;refine(HO.out _ (HE.out.below HBc)).mono ?_;rintro e wn ⟨rfl,hbn⟩;replace HBc:=aA HBc hbn;replace KX:=KX.below hbn;replace KP:=KP.below hbn;replace KQ:=KQ.below hbn;clear hbn;go_wp2_with fail;refine hK.out _ _ ?hS14 (fun hHeld=>?hR14)
   case hS14=>exact⟨KX.cell 0,KX.cell 1,KP.cell 0,KQ.cell 0⟩
   try simp only[pS]
   refine In 15 (some 40) rfl rfl ?_;simp only[pS];refine In 16 (some 41) rfl rfl ?_;simp only[pS];refine In 17 (some 42) rfl rfl ?_;simp only[pS];refine In 18 (some 24) rfl rfl ?_;simp only[pS];refine wpAnyH_done (by kernel_rfl) ?_ _
   by_cases h':0<ov
   ·have hr:Hid (res=2):=HOV.out.trans (if_pos h');have s3:decide (0<ov)=true:=by simp[h']
    go_wp2;go_ret;exact⟨by rw[hr.out];rfl,HBc⟩
   ·have hr:Hid (res=0):=HOV.out.trans (if_neg h');have s3:decide (0<ov)=false:=by simp;omega
    go_wp2;go_ret;exact⟨by rw[hr.out];rfl,HBc⟩
end
section
open Go.RowKit Num
structure bZ where
 n:List UInt8
 d:List UInt8
structure bJ where
 lot:List UInt8
 q:List UInt8
structure eJ where
 other:List UInt8
 ratio:bZ
 price:bZ
 value:bZ
structure aE where
 key:List UInt8
 stamp:Int
 cancelled:Bool
 day:Int
 kind:Int
 ins:List UInt8
 other:List UInt8
 cur:List UInt8
 target:List UInt8
 q:List UInt8
 amt:List UInt8
 fee:List UInt8
 price:bZ
 ratio:bZ
 share:bZ
 picks:List bJ
 options:List eJ
 choice:Int
def gJ(w:World)(a:Option Addr)(sz:Nat)(css:List (List Value)):Prop :=
 css=[]∨∃b off,a=some ⟨b,off,none⟩/\b<w.heap.size/\∀k cs,css[k]?=some cs->∀j v,cs[j]?=some v->w.cell? ⟨b,off+k*sz+j,none⟩=some v
theorem gJ.below{w w':World}{a:Option Addr}{sz:Nat}{css:List (List Value)}(h:gJ w a sz css)(hb:Below w.heap.size w w'):gJ w' a sz css:=by
 rcases h with h|⟨b,off,ha,hlt,hc⟩
 ·exact .inl h
 ·exact .inr ⟨b,off,ha,Nat.lt_of_lt_of_le hlt hb.size,fun k cs hk j v hv=>(hb.cell (p:=⟨b,off+k*sz+j,none⟩) hlt).trans (hc k cs hk j v hv)⟩
theorem gJ.addr{w:World}{a:Option Addr}{sz:Nat}{css:List (List Value)}(h:gJ w a sz css){k:Nat}{cs:List Value}(hk:css[k]?=some cs):
  ∃b off,a=some ⟨b,off,none⟩/\b<w.heap.size/\∀j v,cs[j]?=some v->w.cell? ⟨b,off+k*sz+j,none⟩=some v:=by
 rcases h with h|⟨b,off,ha,hlt,hc⟩
 ·rw[h] at hk;simp at hk
 ·exact⟨b,off,ha,hlt,hc k cs hk⟩
theorem gJ.take{w:World}{a:Option Addr}{sz:Nat}{css:List (List Value)}(h:gJ w a sz css)(n:Nat):gJ w a sz (css.take n):=by
 rcases h with h|⟨b,off,ha,hlt,hc⟩
 ·exact .inl (by rw[h];simp)
 ·refine .inr ⟨b,off,ha,hlt,fun k cs hk j v hv=>hc k cs ?_ j v hv⟩;rw[List.getElem?_take] at hk;split at hk
  ·exact hk
  ·cases hk
def bZ.cells(f:bZ):List Value:=[.string ⟨f.n.toArray⟩,.string ⟨f.d.toArray⟩]
def bZ.agg(f:bZ):Value:=.agg #[.string ⟨f.n.toArray⟩,.string ⟨f.d.toArray⟩]
def bJ.cells(p:bJ):List Value:=[.string ⟨p.lot.toArray⟩,.string ⟨p.q.toArray⟩]
def eJ.cells(o:eJ):List Value:=[.string ⟨o.other.toArray⟩,.string ⟨o.ratio.n.toArray⟩,.string ⟨o.ratio.d.toArray⟩,.string ⟨o.price.n.toArray⟩,.string ⟨o.price.d.toArray⟩,.string ⟨o.value.n.toArray⟩,.string ⟨o.value.d.toArray⟩]
def aE.cells(f:aE)(pa:Option Addr)(pc:Nat)(oa:Option Addr)(oc:Nat):Array Value :=
 #[.string ⟨f.key.toArray⟩,.int .i64 f.stamp,.bool f.cancelled,.int .i64 f.day,.int .i64 f.kind,.string ⟨f.ins.toArray⟩,.string ⟨f.other.toArray⟩,.string ⟨f.cur.toArray⟩,.string ⟨f.target.toArray⟩,.string ⟨f.q.toArray⟩,.string ⟨f.amt.toArray⟩,.string ⟨f.fee.toArray⟩,
  .string ⟨f.price.n.toArray⟩,.string ⟨f.price.d.toArray⟩,.string ⟨f.ratio.n.toArray⟩,.string ⟨f.ratio.d.toArray⟩,.string ⟨f.share.n.toArray⟩,.string ⟨f.share.d.toArray⟩,.slice pa f.picks.length pc,.slice oa f.options.length oc,.int .i64 f.choice]
theorem bXy{W:World}{b:Nat}{f:aE}{pa oa:Option Addr}{pc oc:Nat}{T:TypeId}(K:aP W b (f.cells pa pc oa oc) T):
  W.cell? ⟨b,0,none⟩=some (.string ⟨f.key.toArray⟩)/\W.cell? ⟨b,1,none⟩=some (.int .i64 f.stamp)/\W.cell? ⟨b,2,none⟩=some (.bool f.cancelled)/\W.cell? ⟨b,3,none⟩=some (.int .i64 f.day)/\W.cell? ⟨b,4,none⟩=some (.int .i64 f.kind)/\W.cell? ⟨b,5,none⟩=some (.string ⟨f.ins.toArray⟩)/\W.cell? ⟨b,6,none⟩=some (.string ⟨f.other.toArray⟩)/\W.cell? ⟨b,7,none⟩=some (.string ⟨f.cur.toArray⟩)/\W.cell? ⟨b,8,none⟩=some (.string ⟨f.target.toArray⟩)/\W.cell? ⟨b,9,none⟩=some (.string ⟨f.q.toArray⟩)/\W.cell? ⟨b,10,none⟩=some (.string ⟨f.amt.toArray⟩)/\W.cell? ⟨b,11,none⟩=some (.string ⟨f.fee.toArray⟩)/\W.cell? ⟨b,12,none⟩=some (.string ⟨f.price.n.toArray⟩)/\W.cell? ⟨b,13,none⟩=some (.string ⟨f.price.d.toArray⟩)/\W.cell? ⟨b,14,none⟩=some (.string ⟨f.ratio.n.toArray⟩)/\W.cell? ⟨b,15,none⟩=some (.string ⟨f.ratio.d.toArray⟩)/\W.cell? ⟨b,16,none⟩=some (.string ⟨f.share.n.toArray⟩)/\W.cell? ⟨b,17,none⟩=some (.string ⟨f.share.d.toArray⟩)/\W.cell? ⟨b,18,none⟩=some (.slice pa f.picks.length pc)/\W.cell? ⟨b,19,none⟩=some (.slice oa f.options.length oc)/\W.cell? ⟨b,20,none⟩=some (.int .i64 f.choice) :=
 ⟨K.cell 0,K.cell 1,K.cell 2,K.cell 3,K.cell 4,K.cell 5,K.cell 6,K.cell 7,K.cell 8,K.cell 9,K.cell 10,K.cell 11,K.cell 12,K.cell 13,K.cell 14,K.cell 15,K.cell 16,K.cell 17,K.cell 18,K.cell 19,K.cell 20⟩
def aE.Behind(f:aE)(w:World)(pa:Option Addr)(oa:Option Addr):Prop:=gJ w pa 2 (f.picks.map bJ.cells)/\gJ w oa 7 (f.options.map eJ.cells)
theorem aE.Behind.below{f:aE}{w w':World}{pa oa:Option Addr}(h:f.Behind w pa oa)(hb:Below w.heap.size w w'):f.Behind w' pa oa:=⟨h.1.below hb,h.2.below hb⟩
def bZ.small(f:bZ):Prop:=f.n.length<=400/\f.d.length<=400
def bJ.small(p:bJ):Prop:=p.lot.length<=1000/\p.q.length<=400
def eJ.small(o:eJ):Prop:=o.other.length<=1000/\o.ratio.small/\o.price.small/\o.value.small
structure aE.small(f:aE):Prop where
 key:f.key.length<=1000
 ins:f.ins.length<=1000
 other:f.other.length<=1000
 cur:f.cur.length<=1000
 target:f.target.length<=1000
 q:f.q.length<=400
 amt:f.amt.length<=400
 fee:f.fee.length<=400
 price:f.price.small
 ratio:f.ratio.small
 share:f.share.small
 picks:f.picks.length<=1000
 pick:∀p,p∈f.picks->p.small
 options:f.options.length<=1000
 option:∀o,o∈f.options->o.small
def Kl(q:List UInt8):List bJ->List (List UInt8)->Int->Int
 | [],_,s=>if val q<s then 15 else 0
 |p::r,seen,s=>if sP p.lot=false then 23 else if seen.contains p.lot=true then 5 else if lim true false p.q []≠0 then lim true false p.q [] else Kl q r (seen ++ [p.lot]) (s+val p.q)
def jF(f:aE):Int:=if 64<f.picks.length then 4 else Kl f.q f.picks [] 0
end
section
open Go.RowKit Num
theorem Km(p:bJ)(l q:List UInt8)(b:Nat)(T:TypeId)(w:World)(hB:aP w b #[.string ⟨l.toArray⟩,.string ⟨q.toArray⟩] T):
  Calls prog 147 #[.agg #[.string ⟨p.lot.toArray⟩,.string ⟨p.q.toArray⟩],.pointer (some ⟨b,0,none⟩)] w fun e w'=>e=.returned (.bool (p.lot==l))/\Below w.heap.size w w':=by
 have HB:=Hd (hB.below (aB w (.cells #[.string ⟨p.lot.toArray⟩,.string ⟨p.q.toArray⟩] 83)));have k0:=HB.out.cell 0;have hne:b≠w.heap.size:=by have:=hB.1;omega
 clear hB HB;cases h:p.lot==l
 all_goals
  go_enter func147,ntmps147;go_wp2;go_ret;exact⟨by first|rfl|simp[h],aB w _⟩
theorem Bz{α:Type}{ps:List α}{k:Nat}{x:α}(hx:ps[k]?=some x)(f:α->Bool):(ps.take (k+1)).any f=((ps.take k).any f || f x):=by
 rw[List.take_add_one,hx];simp
theorem Bn(ps:List bJ)(a:Option Addr)(cap:Nat)(l q:List UInt8)(b:Nat)(T:TypeId)(w:World)(hn:ps.length<=1000)(hr:gJ w a 2 (ps.map bJ.cells))(hB:aP w b #[.string ⟨l.toArray⟩,.string ⟨q.toArray⟩] T):
  Calls prog 217 #[.slice a ps.length cap,.func (.func 147) #[] #[.pointer (some ⟨b,0,none⟩)]] w fun e w'=>(∃i:Int,e=.returned (.int .i64 i)/\decide (0<=i)=ps.any (fun p=>p.lot==l))/\Below w.heap.size w w':=by
 have HR:=Hd hr;have HB:=Hd hB;clear hr hB;go_enter func217,ntmps217;go_wp2_with fail;go_loopw [8] (fun i W=>∃k:Nat,k<=ps.length/\i=.int .i64 (k:Int)/\Hid ((ps.take k).any (fun p=>p.lot==l)=false)/\Hid (Below w.heap.size w W)) (fun i _=>ps.length-(intOf i).toNat)
 case atStart=>exact⟨0,Nat.zero_le _,rfl,rfl,Br _ _⟩
 case round =>
  obtain⟨k,hk,rfl,hp,HBW⟩:=hrel
  by_cases hlt:k<ps.length
  ·obtain⟨p,hx⟩:∃p,ps[k]?=some p:=⟨ps[k],Lg hlt⟩
   obtain⟨b',off,ha,hb',hc⟩:=(HR.out.below HBW.out).addr (k:=k) (cs:=p.cells) (by simp[hx]);subst ha;have c0:wr.cell? ⟨b',off+k*2,none⟩=some (.string ⟨p.lot.toArray⟩):=hc 0 _ rfl;have c1:wr.cell? ⟨b',off+k*2+1,none⟩=some (.string ⟨p.q.toArray⟩):=hc 1 _ rfl;have HE:=Hd (Bz hx (fun p=>p.lot==l));have HHIT:=Hd (fun h:(p.lot==l)=true=>show ps.any (fun p=>p.lot==l)=true from List.any_eq_true.2 ⟨p,List.mem_of_getElem? hx,h⟩);have HC:=Hd (Km p l q b T wr (HB.out.below HBW.out));clear hx hc;go_wp2_with fail;refine HC.out.mono ?_;rintro e w1 ⟨rfl,hb1⟩;cases h:p.lot==l
   ·go_wp2;go_roundw
    case rel=>exact⟨k+1,by omega,by go_num,by show _=_;rw[HE.out,hp.out,h];rfl,aA HBW.out hb1⟩
    case measure=>simp[intOf];omega
   ·go_wp2;go_ret;exact⟨⟨(k:Int),rfl,by rw[HHIT.out h];simp⟩,aA HBW.out hb1⟩
  ·obtain rfl:k=ps.length:=by omega
   go_wp2;go_ret;exact⟨⟨-1,rfl,by have:=hp.out;rw[List.take_length] at this;rw[this];rfl⟩,HBW.out⟩
theorem vH(ps:List bJ)(a:Option Addr)(cap:Nat)(l q:List UInt8)(b:Nat)(T:TypeId)(w:World)(hn:ps.length<=1000)(hr:gJ w a 2 (ps.map bJ.cells))(hB:aP w b #[.string ⟨l.toArray⟩,.string ⟨q.toArray⟩] T):
  Calls prog 146 #[.slice a ps.length cap,.func (.func 147) #[] #[.pointer (some ⟨b,0,none⟩)]] w fun e w'=>e=.returned (.bool (ps.any (fun p=>p.lot==l)))/\Below w.heap.size w w':=by
 have H:=Hd (Bn ps a cap l q b T w hn hr hB);clear hr hB;go_enter func146,ntmps146;go_wp2_with fail;refine H.out.mono ?_;rintro e w1 ⟨⟨i,rfl,hi⟩,hb⟩;have HI:=Hd hi;clear hi;go_wp2;go_ret;exact⟨by rw[<-HI.out];rfl,hb⟩
end
section
open Go.RowKit Num
theorem gS(p q:Bool)(w:World):
  Calls prog 86 #[.bool p,.bool q] w fun e w'=>∃bp bq,e=.returned (.func (.func 139) #[] #[.pointer (some ⟨bp,0,none⟩),.pointer (some ⟨bq,0,none⟩)])/\aP w' bp #[.bool p] 4/\aP w' bq #[.bool q] 4/\Below w.heap.size w w':=by
 refine(Ir p q w).mono ?_;rintro e w' ⟨rfl,rfl⟩;refine⟨w.heap.size,w.heap.size+1,rfl,(aP.new0 w _ _).below (aB _ _),?_,((Br _ _).alloc (Nl _) _).alloc (by simp) _⟩;have h:=aP.new0 (w.alloc (.cells #[.bool p] 4)) #[.bool q] 4;rw[World.size_alloc] at h;exact h
theorem Du{ps:List bJ}{k:Nat}{p:bJ}(hx:ps[k]?=some p):(ps.take (k+1)).map bJ.lot=(ps.take k).map bJ.lot ++ [p.lot]:=by
 rw[List.take_add_one,hx];simp
theorem tX{α:Type}{ps:List α}{k:Nat}{p:α}(hx:ps[k]?=some p):ps.drop k=p::ps.drop (k+1):=by
 obtain⟨h,rfl⟩:=Li.1 hx;exact List.drop_eq_getElem_cons h
theorem Ff(ps:List bJ)(l:List UInt8):ps.any (fun p=>p.lot==l)=(ps.map bJ.lot).contains l:=by
 induction ps with
 |nil=>rfl
 |cons p r ih=>simp only[List.any_cons,List.map_cons,List.contains_cons,ih];rw[Bool.beq_comm]
theorem bX2{p q:Bool}{n d:List UInt8}(h:lim p q n d=0):n.length<=41:=by
 unfold lim at h;split at h
 ·cases h
 ·split at h
  ·cases h
  ·rename_i _ g;have:(body n).length<=40:=Nat.le_of_not_lt fun e=>g (.inl e)
   unfold body at this;split at this
   ·rw[List.length_tail] at this;omega
   ·omega
theorem Aq(f:aE)(pa oa:Option Addr)(pc oc:Nat)(w:World)(hE:iE w)(hs:f.small)(hcap:f.picks.length<=pc)(hb:f.Behind w pa oa):
  Calls prog 92 #[.agg (f.cells pa pc oa oc)] w fun e w'=>e=.returned (.int .i64 (jF f))/\Below w.heap.size w w':=by
 have HE:=Hd hE;have HR:=Hd hb.1;have HS:=Hd (And.intro hs.pick hs.q);have hn:=hs.picks;have KF:=Hd (aP.new0 w (f.cells pa pc oa oc) 29);have HB0:=Hd (aB w (.cells (f.cells pa pc oa oc) 29));unfold jF;obtain⟨key,stamp,cancelled,day,kind,ins,other,cur,target,fq,amt,fee,price,ratio,share,ps,options,choice⟩:=f;dsimp only at *;unfold aE.cells at *;dsimp only at *;clear hE hb hs
 by_cases h64:64<ps.length
 ·rw[if_pos h64];have h64':(64:Int)<ps.length:=by omega
  clear h64;go_enter func92,ntmps92;go_wp2;go_ret;exact⟨rfl,HB0.out⟩
 ·rw[if_neg h64];have h64':¬ (64:Int)<ps.length:=by omega
  clear h64;obtain⟨res,hres⟩:∃res,res=Kl fq ps [] 0:=⟨_,rfl⟩
  rw[<-hres];have HRES:=Hd hres;clear hres;go_enter func92,ntmps92;go_wp2_with fail;go_loopw [3,14] (fun sv i W=>∃(k:Nat) (s:Int),k<=ps.length/\i=.int .i64 (k:Int)/\sv=.string ⟨(aJ s).toArray⟩/\Hid (res=Kl fq (ps.drop k) ((ps.take k).map bJ.lot) s/\s.natAbs<=k*10^60)/\Hid (Below (w.alloc (.cells #[.string ⟨key.toArray⟩,.int .i64 stamp,.bool cancelled,.int .i64 day,.int .i64 kind,.string ⟨ins.toArray⟩,.string ⟨other.toArray⟩,.string ⟨cur.toArray⟩,.string ⟨target.toArray⟩,.string ⟨fq.toArray⟩,.string ⟨amt.toArray⟩,.string ⟨fee.toArray⟩,.string ⟨price.n.toArray⟩,.string ⟨price.d.toArray⟩,.string ⟨ratio.n.toArray⟩,.string ⟨ratio.d.toArray⟩,.string ⟨share.n.toArray⟩,.string ⟨share.d.toArray⟩,.slice pa ps.length pc,.slice oa options.length oc,.int .i64 choice] 29)).heap.size (w.alloc (.cells #[.string ⟨key.toArray⟩,.int .i64 stamp,.bool cancelled,.int .i64 day,.int .i64 kind,.string ⟨ins.toArray⟩,.string ⟨other.toArray⟩,.string ⟨cur.toArray⟩,.string ⟨target.toArray⟩,.string ⟨fq.toArray⟩,.string ⟨amt.toArray⟩,.string ⟨fee.toArray⟩,.string ⟨price.n.toArray⟩,.string ⟨price.d.toArray⟩,.string ⟨ratio.n.toArray⟩,.string ⟨ratio.d.toArray⟩,.string ⟨share.n.toArray⟩,.string ⟨share.d.toArray⟩,.slice pa ps.length pc,.slice oa options.length oc,.int .i64 choice] 29)) W)) (fun _ i _=>ps.length-(intOf i).toNat)
  case atStart=>exact⟨0,0,Nat.zero_le _,rfl,by rw[nA],⟨by rw[HRES.out];rfl,by simp⟩,Br _ _⟩
  case round =>
   obtain⟨k,s,hk,rfl,rfl,hI,HBW⟩:=hrel;have KFr:=KF.out.below HBW.out;have q15:=KFr.cell 18;have q9:=KFr.cell 9;have HBw:=Hd (aA HB0.out HBW.out);have KFr:=Hd KFr
   by_cases hlt:k<ps.length
   ·obtain⟨p,hx⟩:∃p,ps[k]?=some p:=⟨ps[k],Lg hlt⟩
    obtain⟨b',off,ha,hb',hc⟩:=(HR.out.below HBw.out).addr (k:=k) (cs:=p.cells) (by simp[hx]);subst ha;have c0:wr.cell? ⟨b',off+k*2,none⟩=some (.string ⟨p.lot.toArray⟩):=hc 0 _ rfl;have c1:wr.cell? ⟨b',off+k*2+1,none⟩=some (.string ⟨p.q.toArray⟩):=hc 1 _ rfl;have hps:=HS.out.1 p (List.mem_of_getElem? hx);have HSTEP:Hid (Kl fq (ps.drop k) ((ps.take k).map bJ.lot) s=if sP p.lot=false then 23 else if((ps.take k).map bJ.lot).contains p.lot=true then 5 else if lim true false p.q []≠0 then lim true false p.q [] else Kl fq (ps.drop (k+1)) ((ps.take (k+1)).map bJ.lot) (s+val p.q)):=by
     show _=_;rw[tX hx,Du hx];rfl
    have HLOT:=Hd (fun W hE=>If p.lot W hE (by have:=hps.1;omega));have HLIM:=Hd (fun bp bq W hE hP hQ=>aZ3 true false rfl p.q [] bp bq 4 4 W hE hps.2 (by simp) hP hQ);have HPS:=Hd hps;have KP0:=Hd (aP.new0 wr #[.string ⟨p.lot.toArray⟩,.string ⟨p.q.toArray⟩] 83);have BP0:=Hd (aB wr (.cells #[.string ⟨p.lot.toArray⟩,.string ⟨p.q.toArray⟩] 83));have HCON:=Hd (fun W (hb:Below wr.heap.size wr W) hB=>vH (ps.take k) (some ⟨b',off,none⟩) pc p.lot p.q wr.heap.size 83 W (by rw[List.length_take];omega) (by have h:=((HR.out.below HBw.out).take k).below hb;rwa [<-List.map_take] at h) hB);rw[show (ps.take k).length=k by rw[List.length_take];omega,Ff] at HCON;have hq60:lim true false p.q []=0->(val p.q).natAbs<10^60:=fun h=>lO (Nat.le_trans (bX2 h) (by decide))
    have hsl:(aJ s).length<=64:=gC (K:=63) (by decide) (by have h1:=hI.out.2;have h2:k*10^60<=999*10^60:=Nat.mul_le_mul_right _ (by omega);omega);have HADD:=Hd (fun W hE=>aAg (aJ s) p.q W hE (by omega) (by have:=hps.2;omega));rw[bE] at HADD;have HNEW:Hid (lim true false p.q []=0->(s+val p.q).natAbs<=(k+1)*10^60):=by
     intro h;have h1:=hI.out.2;have h2:=hq60 h;rw[Nat.add_mul,Nat.one_mul];omega
    clear hx hc hps hq60 hsl;generalize lim true false p.q []=lv at *;generalize sP p.lot=g1 at *;generalize((ps.take k).map bJ.lot).contains p.lot=g2 at *;go_wp2_with fail;refine(HLOT.out _ (HE.out.below (aA HBw.out BP0.out))).mono ?_;rintro e w1 ⟨rfl,hb1⟩;have KP1:=KP0.out.below hb1;have B1:=aA BP0.out hb1;cases g1
    ·have HFIN:Hid (res=23):=by show _=_;rw[hI.out.1,HSTEP.out];rfl
     go_wp2;go_ret;exact⟨by rw[HFIN.out];rfl,aA HBw.out B1⟩
    have r15:=(KFr.out.below B1).cell 18;have hkc:k<=pc:=by omega
    go_wp2_with fail;refine(HCON.out _ B1 KP1).mono ?_;rintro e w2 ⟨rfl,hb2⟩;have KX2:=KP1.below hb2;have B2:=aA B1 hb2;cases g2
    case true =>
     have HFIN:Hid (res=5):=by show _=_;rw[hI.out.1,HSTEP.out];rfl
     go_wp2;go_ret;exact⟨by rw[HFIN.out];rfl,aA HBw.out B2⟩
    go_wp2_with fail;have HBc:=aD (aA HBW.out B2) 1;have KX:aP w2.drew wr.heap.size #[.string ⟨p.lot.toArray⟩,.string ⟨p.q.toArray⟩] 83:=KX2;clear KX2;refine wp_region_held_drew (S:=fun W=>W.cell? ⟨wr.heap.size,1,none⟩=some (.string ⟨p.q.toArray⟩)) (by kernel_rfl) ?hS1 (fun hHeld=>?hR1)
    case hS1=>exact KX.cell 1
    refine In 1 (some 30) rfl rfl ?_;simp only[pS];refine In 2 (some 31) rfl rfl ?_;simp only[pS];refine rd1 0 rfl (fun K hK=>?_);go_simp;go_at_call 86;refine(gS true false _).mono ?_;rintro e wn ⟨bp,bq,rfl,hP,hQ,hbn⟩;replace HBc:=aA HBc hbn;replace KX:=KX.below hbn;clear hbn;go_wp2_with fail;refine hK.out _ _ ?hS4 (fun hHeld=>?hR4)
    case hS4=>exact KX.cell 1
    try simp only[pS]
    refine rd1 3 rfl (fun K hK=>?_);go_simp;go_at_call 148;refine(lF p.q _).mono ?_;rintro e wn ⟨rfl,hbn⟩;replace HBc:=aA HBc hbn;replace KX:=KX.below hbn;replace hP:=hP.below hbn;replace hQ:=hQ.below hbn;clear hbn;go_wp2_with fail;refine hK.out _ _ ?hS5 (fun hHeld=>?hR5)
    case hS5=>exact KX.cell 1
    try simp only[pS]
    refine rd1 4 rfl (fun K hK=>?_);go_simp;go_at_call 139;refine(HLIM.out bp bq _ (HE.out.below (aA HB0.out HBc)) hP hQ).mono ?_;rintro e wn ⟨rfl,hbn⟩;replace HBc:=aA HBc hbn;replace KX:=KX.below hbn;clear hbn hP hQ;go_wp2_with fail;refine hK.out _ _ ?hS6 (fun hHeld=>?hR6)
    case hS6=>exact KX.cell 1
    try simp only[pS]
    refine In 5 (some 6) rfl rfl ?_;simp only[pS];refine wpAnyH_done (by kernel_rfl) ?_ _;have HBc:=Hd HBc;have m1:=KX.cell 1
    by_cases hlv:lv=0
    ·subst hlv;have HFIN:Hid (res=Kl fq (ps.drop (k+1)) ((ps.take (k+1)).map bJ.lot) (s+val p.q)):=by show _=_;rw[hI.out.1,HSTEP.out];rfl
     have HBB:=Hd KX.1;go_wp2_with fail;refine(HADD.out _ (HE.out.below (aA HB0.out HBc.out))).mono ?_;rintro e w9 ⟨rfl,hb9⟩;go_wp2;go_roundw
     case rel=>exact⟨k+1,s+val p.q,by omega,by go_num,rfl,⟨HFIN.out,HNEW.out (by trivial)⟩,aA HBc.out hb9⟩
     case measure=>simp[intOf];omega
    ·have hlv':(lv==0)=false:=by simp[hlv]
     have HFIN:Hid (res=lv):=by show _=_;rw[hI.out.1,HSTEP.out];simp[hlv]
     clear hlv;go_wp2;go_ret;exact⟨by rw[HFIN.out];rfl,aA HB0.out HBc.out⟩
   ·obtain rfl:k=ps.length:=by omega
    have hsl:(aJ s).length<=64:=gC (K:=63) (by decide) (by have h1:=hI.out.2;have h2:ps.length*10^60<=999*10^60:=Nat.mul_le_mul_right _ (by omega);omega);have HCMP:=Hd (fun W=>nV (aJ s) fq W (by omega) (by have:=HS.out.2;omega));rw[bE] at HCMP;have HFIN:Hid (res=if val fq<s then 15 else 0):=by show _=_;rw[hI.out.1,List.drop_eq_nil_of_le (Nl _)];rfl
    clear hsl
    by_cases hc:val fq<s
    ·have hcv:bG s (val fq)=1:=by unfold bG;rw[if_neg (by omega),if_pos hc]
     rw[hcv] at HCMP;have HFIN:Hid (res=15):=by show _=_;rw[HFIN.out,if_pos hc]
     clear hcv hc;go_wp2_with fail;refine(HCMP.out _).mono ?_;rintro e w1 ⟨rfl,hb1⟩;go_wp2;go_ret;exact⟨by rw[HFIN.out];rfl,aA HBw.out hb1⟩
    ·have hcv:¬ 0<bG s (val fq):=by unfold bG;split <;> simp
     generalize bG s (val fq)=cv at *;have HFIN:Hid (res=0):=by show _=_;rw[HFIN.out,if_neg hc]
     clear hc;go_wp2_with fail;refine(HCMP.out _).mono ?_;rintro e w1 ⟨rfl,hb1⟩;go_wp2;go_ret;exact⟨by rw[HFIN.out];rfl,aA HBw.out hb1⟩
end
end Go.Proofs.YthjekgfoidmagaaGreatDoor
