/- Shelf4 StrsC Find ElectionCountsLaw -/
import Derived.Test.YtbcebibkpfklnaaGreatDoorJMem
import Derived.Test.YtbcebibkpfklnaaGreatDoorJShelf
import Derived.Test.YtbcebibkpfklnaaGreatDoorJMoreC
import Derived.Test.YtbcebibkpfklnaaGreatDoorProg
import Derived.Test.YtbcebibkpfklnaaGreatDoorJViewA
import Derived.Test.YtbcebibkpfklnaaGreatDoorJCountsP
import Derived.Test.YtbcebibkpfklnaaGreatDoorJLog
import Derived.Test.YtbcebibkpfklnaaGreatDoorJDate
import Derived.Test.YtbcebibkpfklnaaGreatDoorJElectionA
import Derived.Shelf.Strings.Builder1
import Derived.Shelf.Strings.Builder2
import Derived.Shelf.Strings.Trim
import Derived.Shelf.Small.Utf8
import Derived.Shelf.Small.Strs
import Derived.Shelf.Small.Wraps
import Derived.Shelf.Strings.BuilderF
import Derived.Shelf.Strings.BuilderK
import Derived.Shelf.Strings.Builder2Cap
import Derived.Shelf.Strconv.Atoi
import Derived.Shelf.Strconv.Itoa0
import Derived.Shelf.Strconv.Itoa1
import Derived.Shelf.LaysM
import Derived.Shelf.Strconv.Itoa2
import Derived.Shelf.Strconv.Itoa3
import Derived.Shelf.Strconv.AtoiErrFast
import Derived.Shelf.Strconv.ParseIntEmpty
import Derived.Shelf.Strconv.AtoiFail
import Derived.Shelf.Strconv.Clone
import Derived.Shelf.Strconv.SyntaxError
import Derived.Shelf.LaysC
import Derived.Shelf.Strconv.ToError
import Derived.Shelf.Strconv.Lower
import Derived.Shelf.Strconv.ParseUint10
import Derived.Shelf.Strconv.ParseUint10Empty
import Derived.Shelf.Strconv.ParseUint10Any
import Derived.Shelf.Strconv.ParseInt10
import Derived.Shelf.Strconv.AtoiLong
import Derived.Shelf.Strconv.AtoiInnerAll
import Derived.Shelf.Strconv.RangeError
import Derived.Shelf.Strconv.ToErrorRange
import Derived.Shelf.Strconv.AtoiAll
import Derived.Shelf.Strconv.ErrVarAll
import Derived.Ground.MpProg
import Derived.Shelf.Pu.ParseUintPublic10
import Derived.Shelf.Pu.ErrVarParseUint
import Derived.Shelf.Strings.Search1
import Derived.Shelf.Strings.Search2
import Derived.Shelf.Strings.Cut
import Derived.Shelf.Strings.Shaped
import Derived.Shelf.Strings.Prefix
import Derived.Shelf.Strings.Runes
import Derived.Shelf.Strings.AsciiSet
import Derived.Shelf.Bits.Mul64
import Derived.Shelf.Strings.Repeat
import Derived.Shelf.Unicode.DecodeSlow
import Derived.Shelf.Strings.BuilderCap
import Derived.Shelf.Slices.Turned
import Derived.Shelf.Slices.Equal
import Derived.Shelf.Slices.Empties2
set_option maxHeartbeats 16000000
set_option maxRecDepth 100000
section
namespace Go.Proofs
def Tryz.lays110_ren:Go.Shelf.Ren:=⟨fun|110=>23|109=>51|n=>n,fun|31=>45|9=>9|4=>4|3=>3|0=>0|n=>n,fun|n=>n⟩
theorem Tryz.lays110:Go.Proofs.Lays.n110 Tryz.prog Tryz.lays110_ren:={
 mixed:=by kernel_rfl
 f109:=Tryz.func51.trans (congrArg some (by kernel_rfl))
 f110:=Tryz.func23.trans (congrArg some (by kernel_rfl))
 t0:=Tryz.underlying0
 a0:=Tryz.isAgg0
 z0:=Tryz.sizeOf0
 v0:=Tryz.zeroValue0
 t3:=Tryz.underlying3
 a3:=Tryz.isAgg3
 z3:=Tryz.sizeOf3
 v3:=Tryz.zeroValue3
 t4:=Tryz.underlying4
 a4:=Tryz.isAgg4
 z4:=Tryz.sizeOf4
 v4:=Tryz.zeroValue4
 t9:=Tryz.underlying9
 a9:=Tryz.isAgg9
 z9:=Tryz.sizeOf9
 v9:=Tryz.zeroValue9
 t31:=Tryz.underlying45
 a31:=Tryz.isAgg45
 z31:=Tryz.sizeOf45
 v31:=Tryz.zeroValue45 }
open Go.Lib in
theorem Tryz.slices_Contains_string(b off n c:Nat)(zs:List ByteArray)(x:ByteArray)(w:World)(hz:n≤zs.length)(hbig:n≤9223372036854775807)(hc:∀j,j<zs.length→w.cell? ⟨b,off+j,none⟩=some (.string (zs.getD j ByteArray.empty))):
  Calls Tryz.prog 23 #[.slice (some ⟨b,off,none⟩) n c,.string x] w fun e w'=>e=.returned (.bool (Lib.containsS (zs.take n) x))∧w'=w:=Any.slices_Contains_string Tryz.lays110 b off n c zs x w hz hbig hc
open Go.Lib in
theorem Tryz.slices_Contains_string_empty(a:Option Addr)(c:Nat)(x:ByteArray)(w:World):
  Calls Tryz.prog 23 #[.slice a 0 c,.string x] w fun e w'=>e=.returned (.bool false)∧w'=w:=Any.slices_Contains_string_empty Tryz.lays110 a c x w
end Go.Proofs
end
section
namespace Go.Proofs.YtbcebibkpfklnaaGreatDoor
open Go Go.RowKit Num
theorem aFh(ss:List (List UInt8))(a:Option Addr)(c:Nat)(x:List UInt8)(w:World)(hn:ss.length≤1000000)(h:dT w a (iS ss)):
  Calls Tryz.prog 23 #[.slice a ss.length c,.string ⟨x.toArray⟩] w fun e w'=>e=.returned (.bool (ss.contains x))∧w'=w:=by
 rcases Nw h with rfl|⟨b,off,rfl,hc⟩
 ·exact Tryz.slices_Contains_string_empty a c _ w
 ·have h:=Tryz.slices_Contains_string b off ss.length c (Wi ss) ⟨x.toArray⟩ w (by rw[yJ];exact Nl _) (by omega) hc;rw[←yJ,List.take_length,yJ] at h;have e:Lib.containsS (Wi ss) ⟨x.toArray⟩=ss.contains x:=by
   rw[Bool.eq_iff_iff,Lib.containsS_iff,List.contains_iff_mem];unfold Wi;rw[List.mem_map];constructor
   ·rintro⟨y,hy,e⟩;exact aDo e ▸ hy
   ·exact fun hx=>⟨x,hx,rfl⟩
  rw[e] at h;exact h
end Go.Proofs.YtbcebibkpfklnaaGreatDoor
end
section
namespace Go.Proofs.YtbcebibkpfklnaaGreatDoor
open Go Go.RowKit Num
theorem aGr(x:aF)(key:List UInt8)(bk:Nat)(w:World)(hb:aP w bk #[.string ⟨key.toArray⟩] 9):
  Calls Tryz.prog 50 #[.agg x.arr,.pointer (some ⟨bk,0,none⟩)] w fun e w'=>e=.returned (.bool (x.f.key==key))∧Below w.heap.size w w':=by
 have KX:=aP.new0 w x.arr 30;have x0:=(KX.cell 0).trans (show _=some (.string ⟨x.f.key.toArray⟩) from rfl);have ck:=((hb.below (aB w (.cells x.arr 30))).cell 0).trans (show _=some (.string ⟨key.toArray⟩) from rfl);have HB0:=Hd (aB w (.cells x.arr 30));clear KX hb;generalize x.arr=xc at *;generalize x.f.key=kk at *;cases h:(kk==key) with
 |true =>
  go_enter Tryz.func50,Tryz.ntmps50;go_wp2;go_ret;exact⟨rfl,HB0.out⟩
 |false =>
  go_enter Tryz.func50,Tryz.ntmps50;go_wp2;go_ret;exact⟨rfl,HB0.out⟩
theorem aFx(xs:List aF)(a:Option Addr)(c:Nat)(key:List UInt8)(bk:Nat)(w:World)(hn:xs.length≤1000000)(hr:fS w a xs)(hb:aP w bk #[.string ⟨key.toArray⟩] 9):
  Calls Tryz.prog 49 #[.slice a xs.length c,.func (.func 50) #[] #[.pointer (some ⟨bk,0,none⟩)]] w fun e w'=>e=.returned (.int .i64 (aG5 (lT (xs.map aF.f) key)))∧Below w.heap.size w w':=by
 obtain⟨res,hres⟩:∃res,res=aG5 (lT (xs.map aF.f) key):=⟨_,rfl⟩
 rw[←hres];have HRES:=Hd hres;have HR:=Hd hr;have HK:=Hd hb;clear hres hr hb;go_enter Tryz.func49,Tryz.ntmps49;go_wp2_with fail;go_loopw [8] (fun iv wr=>∃k:Nat,k≤xs.length∧iv=.int .i64 k∧Hid (∀j g,j<k→(xs.map aF.f)[j]?=some g→(g.key==key)=false)∧Hid (Below w.heap.size w wr)) (fun iv _=>xs.length-(intOf iv).toNat)
 case atStart=>exact⟨0,Nat.zero_le _,rfl,fun j g h=>absurd h (Nat.not_lt_zero j),Br _ _⟩
 case round =>
  obtain⟨k,hk,rfl,HS,HB⟩:=hrel
  by_cases hlt:k<xs.length
  ·obtain⟨x,hx⟩:∃x,xs[k]?=some x:=⟨xs[k],Lg hlt⟩
   have hfk:(xs.map aF.f)[k]?=some x.f:=by rw[List.getElem?_map,hx];rfl
   obtain⟨b,off,rfl,hbl,hc⟩:=HR.out.1.addr (k:=k) (cs:=x.cells) (by rw[List.getElem?_map,hx];rfl);have HC:Hid (∀j v,x.arr.toList[j]?=some v→wr.cell? ⟨b,off+k*21+j,none⟩=some v):=fun j v hv=>(HB.out.cell (p:=⟨b,off+k*21+j,none⟩) hbl).trans (hc j v hv)
   have HSZ:Hid ((Tryz.prog.info? 30).map (·.size)=some x.arr.size):=aY x.f x.pa x.oa x.pc x.oc;have HG:=Hd (aGr x key bk wr (HK.out.below HB.out));have HHIT:Hid ((x.f.key==key)=true→res=(k:Int)):=fun he=>by rw[HRES.out,Ab HS.out hfk he];rfl
   have HS2:Hid ((x.f.key==key)=false→∀j g,j<k+1→(xs.map aF.f)[j]?=some g→(g.key==key)=false):=fun he j g hj hg=>by
    by_cases e:j=k
    ·subst e;rw[hfk] at hg;injection hg with hg;subst hg;exact he
    ·exact HS.out j g (by omega) hg
   clear HS hfk hx hc;generalize(x.f.key==key)=hit at *;generalize x.arr=fc at *;go_wp2_with (refine aM rfl 30 _ rfl b (off+k*21) rfl fc _ HC.out Tryz.underlying30 rfl HSZ.out ?_);refine HG.out.mono ?_;rintro e w1 ⟨rfl,hb⟩;have HB1:=Hd (aA HB.out hb);clear hb;cases hit with
   |true =>
    have HV:=Hd (HHIT.out rfl);clear HHIT HS2;go_wp2;go_ret;exact⟨by rw[HV.out];rfl,HB1.out⟩
   |false =>
    have HS3:=Hd (HS2.out rfl);clear HHIT HS2;go_wp2;go_roundw
    case rel=>exact⟨k+1,by omega,by go_num,HS3,HB1⟩
    case measure=>simp[intOf];omega
  ·obtain rfl:k=xs.length:=by omega
   have HV:Hid (res = -1):=by show _=_;rw[HRES.out,Aa (fun j g hj=>HS.out j g (by simpa using hj))];rfl
   clear HS;go_wp2;go_ret;exact⟨by rw[HV.out];rfl,HB.out⟩
theorem aG3(xs:List aF)(a:Option Addr)(c:Nat)(key:List UInt8)(w:World)(hn:xs.length≤1000000)(hr:fS w a xs):
  Calls Tryz.prog 22 #[.slice a xs.length c,.string ⟨key.toArray⟩] w fun e w'=>e=.returned (qN (xs.map aF.f) key)∧Below w.heap.size w w':=by
 have HB0:=Hd (aB w (.cells #[.string ⟨key.toArray⟩] 9));have HI:=Hd (aFx xs a c key w.heap.size (w.alloc (.cells #[.string ⟨key.toArray⟩] 9)) hn (hr.below HB0.out) (aP.new0 w #[.string ⟨key.toArray⟩] 9));have hlt:∀i,lT (xs.map aF.f) key=some i→i≤1000000:=fun i hi=>by
  obtain⟨f,hf,_⟩:=aFj hi;have:=(Li.1 hf).1;rw[List.length_map] at this;omega
 clear hr;unfold qN;generalize xs.length=n at *;cases ho:lT (xs.map aF.f) key with
 |none =>
  rw[ho] at HI;have HI:Hid (Calls Tryz.prog 49 #[.slice a n c,.func (.func 50) #[] #[.pointer (some ⟨w.heap.size,0,none⟩)]] (w.alloc (.cells #[.string ⟨key.toArray⟩] 9)) fun e w'=>e=.returned (.int .i64 (-1))∧Below (w.alloc (.cells #[.string ⟨key.toArray⟩] 9)).heap.size (w.alloc (.cells #[.string ⟨key.toArray⟩] 9)) w'):=HI;clear ho hlt;go_enter Tryz.func22,Tryz.ntmps22;go_wp2_with fail;refine HI.out.mono ?_;rintro e w1 ⟨rfl,hb⟩;have HB1:=Hd (aA HB0.out hb);clear hb;go_wp2;go_ret2;exact⟨rfl,HB1.out⟩
 |some i =>
  have hi:=hlt i ho;rw[ho] at HI;have HI:Hid (Calls Tryz.prog 49 #[.slice a n c,.func (.func 50) #[] #[.pointer (some ⟨w.heap.size,0,none⟩)]] (w.alloc (.cells #[.string ⟨key.toArray⟩] 9)) fun e w'=>e=.returned (.int .i64 (i:Int))∧Below (w.alloc (.cells #[.string ⟨key.toArray⟩] 9)).heap.size (w.alloc (.cells #[.string ⟨key.toArray⟩] 9)) w'):=HI;clear ho hlt;go_enter Tryz.func22,Tryz.ntmps22;go_wp2_with fail;refine HI.out.mono ?_;rintro e w1 ⟨rfl,hb⟩;have HB1:=Hd (aA HB0.out hb);clear hb;go_wp2;go_ret2;exact⟨rfl,HB1.out⟩
end Go.Proofs.YtbcebibkpfklnaaGreatDoor
end
section
namespace Go.Proofs.YtbcebibkpfklnaaGreatDoor
open Go Go.RowKit Num
theorem aE2(fs:List aE):(dZ fs).length≤fs.length:=by
 unfold dZ Ha;rw[List.length_map];exact List.length_filter_le _ _
theorem aG0{w:World}{a:Option Addr}{l:List (List UInt8)}(h:dT w a (iS l))(j:Nat):dT w a (iS (l.take j)):=by
 rcases h with h|⟨b,off,ha,hb,hc⟩
 ·left;rw[show l=[] from List.map_eq_nil_iff.1 h];simp[iS]
 ·refine .inr ⟨b,off,ha,hb,fun i v hv=>hc i v ?_⟩;have hl:=(Li.1 hv).1;rw[show iS (l.take j)=(iS l).take j by simp[iS,List.map_take]] at hv hl;rw[List.length_take] at hl;rw[List.getElem?_take_of_lt (by omega)] at hv;exact hv
theorem aG6{ops:Array Oper}{rest:List Oper}{o:Oper}{a:Act}{Q:Exit→Act→World→Prop}(w:World)
  (hw:Region.wanted o (yielded ops a.tmps)=true) (m x:Operand) (hop:o.op=Op.lookup 51 m x false) (B n:Nat) (ids:List (List UInt8)) (hm:a.eval m=.map (some B)) (hown:xY w B n ids)
  (l:List UInt8) (hl:l.length≤maxLen) (hx:a.eval x=.string ⟨l.toArray⟩) (r:Bool) (hr:ids.contains l=r)
  (hK:wpList Tryz.prog ops Q rest (a.put o.dst (.bool r)) w):wpList Tryz.prog ops Q (o::rest) a w:=by
 subst hr;refine wpList_step fun K' hK'=>?_
 rw[if_pos hw];have hrun:=Qm hown Tryz.underlying9 Tryz.underlying51 Tryz.underlying4 (Pb w) hl;generalize ids.contains l=r at *;unfold Oper.wp;simp[execOp,hop,hm,hx,hrun,Result.andThen];exact hK' _ _ hK
theorem aF2(xs:List aF)(a:Option Addr)(c:Nat)(w:World)(hE:iE w)(hn:xs.length≤9223372036854775807)(_hcap:xs.length≤c)(hr:fS w a xs)(hf:∀x,x∈xs→x.fits):
  Calls Tryz.prog 6 #[.slice a xs.length c] w fun e w'=>e=.returned (.bool true)∧Below w.heap.size w w':=by
 have HG:=Hd (nJ xs [] a none c 0 w hn hr hf (by decide) ⟨.inl rfl,fun y hy=>by cases hy⟩ (fun y hy=>by cases hy));have HAW:Hid (∀W,Below w.heap.size w W→Calls Tryz.prog 11 #[] W fun e w'=>e=.returned (.bool true)∧Below W.heap.size W w'):=fun W hb=>nR W (hE.below hb)
 have HE:=Hd hE;have HR:=Hd hr;have HF:=Hd hf;clear hE hr hf;go_enter Tryz.func6,Tryz.ntmps6;go_wp2_with fail;refine HG.out.mono ?_;rintro e w1 ⟨⟨g,rfl,hg⟩,hb⟩;have HB1:=Hd hb;have HGS:=Hd hg;clear hb hg HG;cases g with
 |true =>
  go_wp2_with fail;refine(HAW.out _ HB1.out).mono ?_;rintro e w2 ⟨rfl,hb⟩;go_wp2;go_ret;exact⟨rfl,aA HB1.out hb⟩
 |false =>
  have HSM:=Hd (HGS.out rfl);clear HGS;have hlen:xs.length≤1003:=by rcases HSM.out.1.2 with h|h <;> omega
  have HV:Hid (gT w a c xs):=⟨HR.out,fun y hy=>⟨(HSM.out.1.1 y hy).small,(HF.out y hy).picks⟩,by omega⟩
  have HSML:Hid (∀y,y∈xs→y.f.tight):=HSM.out.1.1;clear HSM HF;obtain⟨fs,hfs⟩:∃fs,fs=xs.map aF.f:=⟨_,rfl⟩
  by_cases hvc:dF fs=0
  ·have HLT:Hid (Calls Tryz.prog 21 #[.slice a xs.length c] w1 fun e w'=>(∃v,e=.returned (.tuple #[v,.int .i64 0])∧w'.ownsRow w1.heap.size 9 1 v (dZ fs).length (iS (dZ fs)))∧Below w1.heap.size w1 w'):=by
    rw[hfs];exact Gz xs a c w1 (HE.out.below HB1.out) (HV.out.below HB1.out) (by rw[←hfs];exact hvc)
   have HVC:=Hd hvc;have HFS:=Hd hfs;have HFI:Hid (∀key W,Below w.heap.size w W→Calls Tryz.prog 22 #[.slice a xs.length c,.string ⟨key.toArray⟩] W fun e w'=>e=.returned (qN fs key)∧Below W.heap.size W w'):=fun key W hb=>by
    rw[hfs];exact aG3 xs a c key W HV.out.len (HV.out.facts.below hb)
   have HCH:Hid (∀y W,y∈xs→Below w.heap.size w W→Calls Tryz.prog 12 #[.slice a xs.length c,.agg y.arr] W fun e w'=>e=.returned (.tuple #[.int .i64 (bC fs y.f),.int .i64 (aL fs y.f)])∧Below W.heap.size W w'):=fun y W hy hb=>by
    rw[hfs];exact fE xs a c y W (HE.out.below hb) (HV.out.below hb) (HV.out.ok y hy) ((HV.out.facts.below hb).2 y hy)
   have hlk:=aE2 fs;rw[hfs,List.length_map,←hfs] at hlk;have HTG:Hid (∀y,y∈xs→y.f.target.length≤1000∧y.f.key.length≤1000):=fun y hy=>⟨(HV.out.ok y hy).small.target,(HV.out.ok y hy).small.key⟩
   have HPL:Hid (∀j key,(dZ fs)[j]?=some key→∃k y,qN fs key=.tuple #[.int .i64 ((k:Nat):Int),.bool true]∧xs[k]?=some y∧y.f.kind=11∧((dZ fs).take j).contains key=false):=fun j key hj=>by
    obtain⟨k,x,h1,h2,h3⟩:=aGq HVC.out (List.mem_of_getElem? hj);rw[HFS.out,List.getElem?_map] at h2;obtain⟨y,hy,rfl⟩:=Option.map_eq_some_iff.1 h2;exact⟨k,y,by unfold qN;rw[h1],hy,h3,aG1 HVC.out hj⟩
   have HCO:Hid (∀(l:List (List UInt8)) (a':Option Addr) (c':Nat) key W,l.length≤1000000→dT W a' (iS l)→Calls Tryz.prog 23 #[.slice a' l.length c',.string ⟨key.toArray⟩] W fun e w'=>e=.returned (.bool (l.contains key))∧w'=W):=fun l a' c' key W hl hr=>aFh l a' c' key W hl hr
   have HLC:Hid (∀y,y∈xs→y.f.kind=11→(dZ fs).contains y.f.key = !pJ fs y.f):=fun y hy hk=>aFt HVC.out (by rw[HFS.out];exact List.mem_map_of_mem hy) hk
   have HC1:Hid (∀j y,xs[j]?=some y→pJ fs y.f=true→∃k z,qN fs y.f.target=.tuple #[.int .i64 ((k:Nat):Int),.bool true]∧xs[k]?=some z∧z.f.kind=10∧(zZ fs j).contains y.f.target=false∧aL fs z.f=0∧bC fs z.f=y.f.choice):=fun j y hy hc=>by
    obtain⟨k,g,h1,h2,h3,h4,h5,h6⟩:=aGu HVC.out (j:=j) (x:=y.f) (by rw[HFS.out,List.getElem?_map,hy];rfl) hc;rw[HFS.out,List.getElem?_map] at h2;obtain⟨z,hz,rfl⟩:=Option.map_eq_some_iff.1 h2;exact⟨k,z,by unfold qN;rw[h1],hz,h3,h4,h5,h6⟩
   have HC2:Hid (∀y,y∈xs→y.f.kind=10→(zZ fs fs.length).contains y.f.key=false→aL fs y.f=0∧bC fs y.f=0):=fun y hy hk hc=>aGk HVC.out (by rw[HFS.out];exact List.mem_map_of_mem hy) hk hc
   have HCS:Hid (∀j y,xs[j]?=some y→zZ fs (j+1)=if(decide (y.f.kind=11)&&pJ fs y.f)=true then zZ fs j ++ [y.f.target] else zZ fs j):=fun j y hy=>aFm (by rw[HFS.out,List.getElem?_map,hy];rfl)
   have hfl:fs.length=xs.length:=by rw[hfs,List.length_map]
   have hlk:=aE2 fs;rw[hfl] at hlk HC2;have HRX:=Hd HR.out.1;clear hvc hfs HV HR HSML HE HVC HFS;obtain⟨lk,hlkE⟩:∃lk,lk=dZ fs:=⟨_,rfl⟩
   rw[←hlkE] at HLT HPL HLC hlk;clear hlkE hfl;go_wp2_with fail;refine HLT.out.mono ?_;rintro e w2 ⟨⟨v,rfl,ho⟩,hb⟩;obtain⟨la,lc,rfl,hrow,_,_⟩:=aEp ho;have HB2:=Hd (aA HB1.out hb);have HRW:=Hd hrow;clear hb ho hrow HLT HB1;go_wp2_with fail;go_loopw [38] (fun iv wr=>∃j:Nat,j≤lk.length∧iv=.int .i64 j∧Hid (Below w2.heap.size w2 wr)) (fun iv _=>lk.length-(intOf iv).toNat)
   case atStart=>exact⟨0,Nat.zero_le _,rfl,Br _ _⟩
   case round =>
    obtain⟨j,hj,rfl,HB⟩:=hrel
    by_cases hlt:j<lk.length
    ·obtain⟨key,hkey⟩:∃key,lk[j]?=some key:=⟨lk[j],Lg hlt⟩
     obtain⟨k,y,hfv,hy,hkd,hct⟩:=HPL.out j key hkey;have hk:k<xs.length:=(Li.1 hy).1;have HBW:=Hd (aA HB2.out HB.out);obtain⟨bl,ol,rfl,hbl,hcl⟩:∃bl ol,la=some ⟨bl,ol,none⟩∧bl<w2.heap.size∧w2.cell? ⟨bl,ol+j,none⟩=some (.string ⟨key.toArray⟩):=by
      rcases HRW.out with h|⟨bl,ol,ha,hb,hc⟩
      ·exfalso;have:lk=[]:=List.map_eq_nil_iff.1 h;rw[this] at hlt;exact Nat.not_lt_zero _ hlt
      ·exact⟨bl,ol,ha,hb,hc j _ (by unfold iS;rw[List.getElem?_map,hkey];rfl)⟩
     have cL:=(HB.out.cell (p:=⟨bl,ol+j,none⟩) hbl).trans hcl;obtain⟨b,off,rfl,hbx,hcy⟩:=HRX.out.addr (k:=k) (cs:=y.cells) (by rw[List.getElem?_map,hy];rfl);have HCY:Hid (∀W,Below w.heap.size w W→W.cell? ⟨b,off+k*21+4,none⟩=some (.int .i64 11)):=fun W hW=>by
      have:=(hW.cell (p:=⟨b,off+k*21+4,none⟩) hbx).trans (hcy 4 _ (show y.arr.toList[4]?=some (.int .i64 y.f.kind) from rfl));rw[hkd] at this;exact this
     have HF1:=Hd (HFI.out key wr HBW.out);rw[hfv] at HF1;have HC:Hid (∀W,Below w2.heap.size w2 W→Calls Tryz.prog 23 #[.slice (some ⟨bl,ol,none⟩) j lc,.string ⟨key.toArray⟩] W fun e w'=>e=.returned (.bool false)∧w'=W):=fun W hW=>by
      have h:=HCO.out (lk.take j) (some ⟨bl,ol,none⟩) lc key W (by rw[List.length_take];omega) (aG0 (HRW.out.below hW) j);rw[hct,List.length_take,Nat.min_eq_left hj] at h;exact h
     clear hfv hy hkd hct hkey hcl hcy;go_wp2_with fail;refine HF1.out.mono ?_;rintro e w3 ⟨rfl,hb⟩;have HB3:=Hd (aA HB.out hb);have cY:=HCY.out w3 (aA HBW.out hb);clear hb HF1 HCY cL;go_wp2_with fail;refine(HC.out w3 HB3.out).mono ?_;rintro e w4 ⟨rfl,rfl⟩;go_wp2;go_roundw
     case rel=>exact⟨j+1,by omega,by go_num,HB3⟩
     case measure=>simp[intOf];omega
    ·obtain rfl:j=lk.length:=by omega
     have HB4:=Hd (aA HB2.out HB.out);have HRW4:=Hd (HRW.out.below HB.out);clear hj hlt HPL HB HB2 HRW;have HB2:=HB4;have HRW:=HRW4;clear HB4 HRW4;obtain⟨w4,hw4⟩:∃w4,w4=wr:=⟨_,rfl⟩
     subst hw4;have HMK:=Hd (Pr w4);have hmk:=@run_makeMap Tryz.prog;have HK0:=Hd (aFl fs);go_wp2_with fail;go_loopw [80] (fun iv wr=>∃k:Nat,k≤xs.length∧iv=.int .i64 k∧Hid (xY wr w4.heap.size (zZ fs k).length (zZ fs k))∧Hid (Below w4.heap.size w4 wr)) (fun iv _=>xs.length-(intOf iv).toNat)
     case atStart=>exact⟨0,Nat.zero_le _,rfl,by rw[HK0.out];exact HMK.out,aB w4 _⟩
     case round =>
      clear HMK;obtain⟨k,hk,rfl,HM,HB⟩:=hrel
      by_cases hlt:k<xs.length
      ·obtain⟨x,hx⟩:∃x,xs[k]?=some x:=⟨xs[k],Lg hlt⟩
       obtain⟨b,off,rfl,hbl,hc⟩:=HRX.out.addr (k:=k) (cs:=x.cells) (by rw[List.getElem?_map,hx];rfl);have hxm:=List.mem_of_getElem? hx;have HC:Hid (∀j v,x.arr.toList[j]?=some v→wr.cell? ⟨b,off+k*21+j,none⟩=some v):=fun j v hv=>((aA HB2.out HB.out).cell (p:=⟨b,off+k*21+j,none⟩) hbl).trans (hc j v hv)
       have HSZ:Hid ((Tryz.prog.info? 30).map (·.size)=some x.arr.size):=aY x.f x.pa x.oa x.pc x.oc;have HONE:=Hd (dV x);have HST:Hid (x.arr[0]?=some (.string ⟨x.f.key.toArray⟩)∧x.arr[4]?=some (.int .i64 x.f.kind)∧x.arr[8]?=some (.string ⟨x.f.target.toArray⟩)∧x.arr[20]?=some (.int .i64 x.f.choice)):=⟨rfl,rfl,rfl,rfl⟩
       have hsz21:x.arr.size=21:=rfl;have HCSX:=Hd (HCS.out k x hx);have HC1X:=Hd (HC1.out k x hx);have HLCX:=Hd (HLC.out x hxm);have HCOX:Hid (∀W,Below w4.heap.size w4 W→Calls Tryz.prog 23 #[.slice la lk.length lc,.string ⟨x.f.key.toArray⟩] W fun e w'=>e=.returned (.bool (lk.contains x.f.key))∧w'=W):=fun W hW=>HCO.out lk la lc x.f.key W (by omega) (HRW.out.below hW)
       have HTL:=Hd (HTG.out x hxm);have HFIX:Hid (∀W,Below w4.heap.size w4 W→Calls Tryz.prog 22 #[.slice (some ⟨b,off,none⟩) xs.length c,.string ⟨x.f.target.toArray⟩] W fun e w'=>e=.returned (qN fs x.f.target)∧Below W.heap.size W w'):=fun W hW=>HFI.out x.f.target W (aA HB2.out hW)
       have hkl:(zZ fs k).length≤k:=by
        unfold zZ;rw[List.length_map];exact Nat.le_trans (List.length_filter_le _ _) (by rw[List.length_take];exact Nat.min_le_left _ _)
       have HBA:=Hd (aB wr (.cells eS 30));have HS21:Hid (eS.size=x.arr.size):=hsz21.symm;have HNEW:=Hd (heap_alloc_new wr (.cells eS 30));clear hc hx hsz21 HCS HC1 HLC HCO HTG HFI;obtain⟨s',hs'⟩:∃s',s'=zZ fs (k+1):=⟨_,rfl⟩
       rw[←hs'] at HCSX;have HS':=Hd hs';clear hs';generalize zZ fs k=s at *;generalize x.arr=fc at *
       by_cases h1:x.f.kind=11
       ·rw[h1] at HST;cases hcn:pJ fs x.f with
        |false =>
         have e1:lk.contains x.f.key=true:=by rw[HLCX.out h1,hcn];rfl
         have HK2:Hid (s'=s):=by show _=_;rw[HCSX.out,if_neg (by rw[hcn];simp)]
         rw[e1] at HCOX;clear HCSX HC1X HLCX HFIX hcn e1;generalize x.f.key=xk at *;generalize x.f.target=tg at *;go_wp2_with (first|(refine aM rfl 30 _ rfl b (off+k*21) rfl fc _ HC.out Tryz.underlying30 rfl HSZ.out ?_)|(refine fI rfl 30 _ _ rfl wr.heap.size rfl fc rfl HNEW.out HSZ.out HS21.out HONE.out ?_;intro w5 k5 b5 _;have HB5:=Hd (HBA.out.trans (b5 _ (Nl _)));have c4:=(k5.cell 4).trans HST.out.2.1;have c0:=(k5.cell 0).trans HST.out.1;have c8:=(k5.cell 8).trans HST.out.2.2.1;have HK5:=Hd k5;clear k5 b5));refine(HCOX.out w5 (aA HB.out HB5.out)).mono ?_;rintro e w6 ⟨rfl,rfl⟩;go_wp2;go_roundw
         case rel=>exact⟨k+1,by omega,by go_num,(by rw[←HS'.out,HK2.out];exact HM.out.below HB5.out),aA HB.out HB5.out⟩
         case measure=>simp[intOf];omega
        |true =>
         have e1:lk.contains x.f.key=false:=by rw[HLCX.out h1,hcn];rfl
         have HK2:Hid (s'=s ++ [x.f.target]):=by show _=_;rw[HCSX.out,if_pos (by rw[hcn];simp[h1])]
         rw[e1] at HCOX;obtain⟨m,z,hfv,hz,hzk,hct,he0,hcv⟩:=HC1X.out hcn;rw[hfv] at HFIX;have hm:m<xs.length:=(Li.1 hz).1;obtain⟨b',off',e',_,hcz⟩:=HRX.out.addr (k:=m) (cs:=z.cells) (by rw[List.getElem?_map,hz];rfl);injection e' with e'
         injection e' with e2 e3
         subst e2 e3;have HCZ:Hid (∀W,Below w4.heap.size w4 W→∀j v,z.arr.toList[j]?=some v→W.cell? ⟨b,off+m*21+j,none⟩=some v):=fun W hW j v hv=>((aA HB2.out hW).cell (p:=⟨b,off+m*21+j,none⟩) hbl).trans (hcz j v hv)
         have HZ4:Hid (z.arr.toList[4]?=some (.int .i64 10)):=by show _=_;rw[←hzk];rfl
         have HZZ:Hid ((Tryz.prog.info? 30).map (·.size)=some z.arr.size):=aY z.f z.pa z.oa z.pc z.oc;have HCHZ:Hid (∀W,Below w4.heap.size w4 W→Calls Tryz.prog 12 #[.slice (some ⟨b,off,none⟩) xs.length c,.agg z.arr] W fun e w'=>e=.returned (.tuple #[.int .i64 x.f.choice,.int .i64 0])∧Below W.heap.size W w'):=fun W hW=>by
          have h:=HCH.out z W (List.mem_of_getElem? hz) (aA HB2.out hW);rw[he0,hcv] at h;exact h
         have HCT:=Hd hct;clear HCSX HC1X HLCX hcn e1 hfv hz hzk hct he0 hcv hcz HCH;generalize z.arr=za at *;generalize x.f.key=xk at *;generalize htg:x.f.target=tg at *;generalize x.f.choice=ch at *;go_wp2_with (first|(refine aM rfl 30 _ rfl b (off+k*21) rfl fc _ HC.out Tryz.underlying30 rfl HSZ.out ?_)|(refine fI rfl 30 _ _ rfl wr.heap.size rfl fc rfl HNEW.out HSZ.out HS21.out HONE.out ?_;intro w5 k5 b5 _;have HB5:=Hd (HBA.out.trans (b5 _ (Nl _)));have c4:=(k5.cell 4).trans HST.out.2.1;have c0:=(k5.cell 0).trans HST.out.1;have c8:=(k5.cell 8).trans HST.out.2.2.1;have HK5:=Hd k5;clear k5 b5));have HB5w:=Hd (aA HB.out HB5.out);have HM5:=Hd (HM.out.below HB5.out);have HNE:Hid (wr.heap.size≠w4.heap.size):=by have:=HM.out.lt;show _≠_;omega
         clear HB HM HBA HNEW;refine(HCOX.out w5 HB5w.out).mono ?_;rintro e w6 ⟨rfl,rfl⟩;go_wp2_with fail;refine(HFIX.out w6 HB5w.out).mono ?_;rintro e w7 ⟨rfl,hb⟩;have HB7:=Hd (aA HB5w.out hb);have HM7:=Hd (HM5.out.below hb);have HK7:=Hd (HK5.out.below hb);have c8:=(HK7.out.cell 8).trans HST.out.2.2.1;have z4:=HCZ.out w7 HB7.out 4 _ HZ4.out;clear hb HB5w HM5 HCOX HFIX c0 c4;go_wp2_with (first|(at_lookup;refine lS _ rfl _ _ rfl w4.heap.size s.length _ rfl HM7.out tg (Nat.le_trans HTL.out.1 (by decide)) rfl false HCT.out ?_;simp only[pS])|(at_mapUpdate;refine sY _ rfl _ _ _ rfl w4.heap.size s.length _ rfl HM7.out (by unfold maxLen;omega) tg (Nat.le_trans HTL.out.1 (by decide)) rfl rfl ?_;intro w8 hS8 hg8;have HS8:=Hd hS8;have HB8:=Hd (HB7.out.grown hg8 HB7.out.size (fun j hj=>by cases hj;exact Nl _));have HK8:=Hd (aP.kept HK7.out hg8 HNE.out);have HCW:=Hd (HCZ.out w8 HB8.out);clear hg8 hS8)|(refine aM rfl 30 _ rfl b (off+m*21) rfl za _ HCW.out Tryz.underlying30 rfl HZZ.out ?_;simp only[pS]));refine(HCHZ.out w8 HB8.out).mono ?_;rintro e w9 ⟨rfl,hb⟩;have HB9:=Hd (aA HB8.out hb);have HS9:=Hd (HS8.out.below hb);have c20:=((HK8.out.below hb).cell 20).trans HST.out.2.2.2;clear hb HB8 HS8 HK8 HCHZ HCW z4 c8;go_wp2_with fail;go_roundw
         case rel=>exact⟨k+1,by omega,by go_num,(by rw[←HS'.out,HK2.out,List.length_append];exact HS9.out),HB9.out⟩
         case measure=>simp[intOf];omega
       ·have h1':(x.f.kind==11)=false:=by simpa using h1
        have HK2:Hid (s'=s):=by show _=_;rw[HCSX.out,if_neg (by simp[h1])]
        clear HCSX HC1X HLCX HFIX HCOX;generalize x.f.kind=kd at *;generalize x.f.key=xk at *;generalize x.f.target=tg at *;go_wp2_with (first|(refine aM rfl 30 _ rfl b (off+k*21) rfl fc _ HC.out Tryz.underlying30 rfl HSZ.out ?_)|(refine fI rfl 30 _ _ rfl wr.heap.size rfl fc rfl HNEW.out HSZ.out HS21.out HONE.out ?_;intro w5 k5 b5 _;have HB5:=Hd (HBA.out.trans (b5 _ (Nl _)));have c4:=(k5.cell 4).trans HST.out.2.1;have c0:=(k5.cell 0).trans HST.out.1;have c8:=(k5.cell 8).trans HST.out.2.2.1;have HK5:=Hd k5;clear k5 b5));go_roundw
        case rel=>exact⟨k+1,by omega,by go_num,(by rw[←HS'.out,HK2.out];exact HM.out.below HB5.out),aA HB.out HB5.out⟩
        case measure=>simp[intOf];omega
      ·obtain rfl:k=xs.length:=by omega
       have HM0:=HM;have HB0:=HB;clear HM HB hk hlt HC1 HLC HCS HFI HRW HCO;obtain⟨cl,hcl⟩:∃cl,cl=zZ fs xs.length:=⟨_,rfl⟩
       rw[←hcl] at HC2 HM0;clear hcl;obtain⟨w6,hw6⟩:∃w6,w6=wr:=⟨_,rfl⟩
       subst hw6;go_wp2_with fail;go_loopw [149] (fun iv wr=>∃k:Nat,k≤xs.length∧iv=.int .i64 k∧Hid (xY wr w4.heap.size cl.length cl)∧Hid (Below w4.heap.size w4 wr)) (fun iv _=>xs.length-(intOf iv).toNat)
       case atStart=>exact⟨0,Nat.zero_le _,rfl,HM0,HB0⟩
       case round =>
        clear HM0 HB0;obtain⟨k,hk,rfl,HM,HB⟩:=hrel
        by_cases hlt:k<xs.length
        ·obtain⟨x,hx⟩:∃x,xs[k]?=some x:=⟨xs[k],Lg hlt⟩
         obtain⟨b,off,rfl,hbl,hc⟩:=HRX.out.addr (k:=k) (cs:=x.cells) (by rw[List.getElem?_map,hx];rfl);have hxm:=List.mem_of_getElem? hx;have HC:Hid (∀j v,x.arr.toList[j]?=some v→wr.cell? ⟨b,off+k*21+j,none⟩=some v):=fun j v hv=>((aA HB2.out HB.out).cell (p:=⟨b,off+k*21+j,none⟩) hbl).trans (hc j v hv)
         have HSZ:Hid ((Tryz.prog.info? 30).map (·.size)=some x.arr.size):=aY x.f x.pa x.oa x.pc x.oc;have HONE:=Hd (dV x);have HST:Hid (x.arr[0]?=some (.string ⟨x.f.key.toArray⟩)∧x.arr[4]?=some (.int .i64 x.f.kind)):=⟨rfl,rfl⟩
         have hsz21:x.arr.size=21:=rfl;have HTL:=Hd (HTG.out x hxm);have HC2X:=Hd (HC2.out x hxm);have HCHX:Hid (∀W,Below w4.heap.size w4 W→Calls Tryz.prog 12 #[.slice (some ⟨b,off,none⟩) xs.length c,.agg x.arr] W fun e w'=>e=.returned (.tuple #[.int .i64 (bC fs x.f),.int .i64 (aL fs x.f)])∧Below W.heap.size W w'):=fun W hW=>HCH.out x W hxm (aA HB2.out hW)
         have HBA:=Hd (aB wr (.cells eS 30));have HS21:Hid (eS.size=x.arr.size):=hsz21.symm;have HNEW:=Hd (heap_alloc_new wr (.cells eS 30));clear hc hx hsz21 HCH HC2 HTG hxm;generalize x.arr=fc at *;generalize x.f.key=xk at *
         by_cases h1:x.f.kind=10
         ·rw[h1] at HST;cases hct:cl.contains xk with
          |true =>
           have HCT:=Hd hct;clear HC2X HCHX hct;go_wp2_with (first|(refine aM rfl 30 _ rfl b (off+k*21) rfl fc _ HC.out Tryz.underlying30 rfl HSZ.out ?_)|(refine fI rfl 30 _ _ rfl wr.heap.size rfl fc rfl HNEW.out HSZ.out HS21.out HONE.out ?_;intro w5 k5 b5 _;have HB5:=Hd (HBA.out.trans (b5 _ (Nl _)));have c4:=(k5.cell 4).trans HST.out.2;have c0:=(k5.cell 0).trans HST.out.1;have HK5:=Hd k5;have HM5:=Hd (HM.out.below HB5.out);clear k5 b5)|(at_lookup;refine aG6 _ (by rfl) _ _ rfl w4.heap.size cl.length _ rfl HM5.out xk (Nat.le_trans HTL.out.2 (by decide)) rfl true HCT.out ?_;simp only[pS])|(refine wpList_load_row rfl 30 _ rfl wr.heap.size rfl 30 fc (0,0) _ HK5.out.2 Tryz.underlying30 rfl HSZ.out ?_;simp only[pS]));go_roundw
           case rel=>exact⟨k+1,by omega,by go_num,HM5,aA HB.out HB5.out⟩
           case measure=>simp[intOf];omega
          |false =>
           have HCT:=Hd hct;obtain⟨e1,e2⟩:=HC2X.out h1 hct;rw[e1,e2] at HCHX;clear HC2X hct e1 e2;go_wp2_with (first|(refine aM rfl 30 _ rfl b (off+k*21) rfl fc _ HC.out Tryz.underlying30 rfl HSZ.out ?_)|(refine fI rfl 30 _ _ rfl wr.heap.size rfl fc rfl HNEW.out HSZ.out HS21.out HONE.out ?_;intro w5 k5 b5 _;have HB5:=Hd (HBA.out.trans (b5 _ (Nl _)));have c4:=(k5.cell 4).trans HST.out.2;have c0:=(k5.cell 0).trans HST.out.1;have HK5:=Hd k5;have HM5:=Hd (HM.out.below HB5.out);clear k5 b5)|(at_lookup;refine aG6 _ (by rfl) _ _ rfl w4.heap.size cl.length _ rfl HM5.out xk (Nat.le_trans HTL.out.2 (by decide)) rfl false HCT.out ?_;simp only[pS])|(refine wpList_load_row rfl 30 _ rfl wr.heap.size rfl 30 fc (0,0) _ HK5.out.2 Tryz.underlying30 rfl HSZ.out ?_;simp only[pS]));have HB5w:=Hd (aA HB.out HB5.out);refine(HCHX.out w5 HB5w.out).mono ?_;rintro e w7 ⟨rfl,hb⟩;have HB7:=Hd (aA HB5w.out hb);have HM7:=Hd (HM5.out.below hb);clear hb HB5w;go_wp2;go_roundw
           case rel=>exact⟨k+1,by omega,by go_num,HM7,HB7⟩
           case measure=>simp[intOf];omega
         ·have h1':(x.f.kind==10)=false:=by simpa using h1
          clear HC2X HCHX;generalize x.f.kind=kd at *;go_wp2_with (first|(refine aM rfl 30 _ rfl b (off+k*21) rfl fc _ HC.out Tryz.underlying30 rfl HSZ.out ?_)|(refine fI rfl 30 _ _ rfl wr.heap.size rfl fc rfl HNEW.out HSZ.out HS21.out HONE.out ?_;intro w5 k5 b5 _;have HB5:=Hd (HBA.out.trans (b5 _ (Nl _)));have c4:=(k5.cell 4).trans HST.out.2;have c0:=(k5.cell 0).trans HST.out.1;have HK5:=Hd k5;have HM5:=Hd (HM.out.below HB5.out);clear k5 b5));go_roundw
          case rel=>exact⟨k+1,by omega,by go_num,HM5,aA HB.out HB5.out⟩
          case measure=>simp[intOf];omega
        ·obtain rfl:k=xs.length:=by omega
         have HB8:=Hd (aA HB2.out HB.out);go_wp2_with fail;refine(HAW.out _ HB8.out).mono ?_;rintro e w9 ⟨rfl,hb⟩;go_wp2;go_ret;exact⟨rfl,aA HB8.out hb⟩
  ·have HLT:Hid (Calls Tryz.prog 21 #[.slice a xs.length c] w1 fun e w'=>e=.returned (.tuple #[.slice none 0 0,.int .i64 1])∧Below w1.heap.size w1 w'):=aGm xs a c w1 (HE.out.below HB1.out) (HV.out.below HB1.out) (by rw[←hfs];exact hvc);clear hvc hfs HV HR HSML HE;generalize xs.length=n at *;go_wp2_with fail;refine HLT.out.mono ?_;rintro e w2 ⟨rfl,hb⟩;have HB2:=Hd (aA HB1.out hb);clear hb HLT;go_wp2_with fail;refine(HAW.out _ HB2.out).mono ?_;rintro e w3 ⟨rfl,hb⟩;go_wp2;go_ret;exact⟨rfl,aA HB2.out hb⟩
end Go.Proofs.YtbcebibkpfklnaaGreatDoor
end
