/- QContains PriceRemainsReg PriceRemainsLaw -/
import Derived.Test.YtejkibnaidiklaaGreatDoorJMem
import Derived.Test.YtejkibnaidiklaaGreatDoorJPriceA
import Derived.Test.YtejkibnaidiklaaGreatDoorJPriceB
import Derived.Test.YtejkibnaidiklaaGreatDoorJPriceC
import Derived.Test.YtejkibnaidiklaaGreatDoorJPriceSer
set_option maxHeartbeats 16000000
set_option maxRecDepth 100000
namespace Go.Proofs.YtejkibnaidiklaaGreatDoor
section
open Go Go.RowKit Num
def aUi(ins:List UInt8)(q:aJv)(f:aE):Prop:=f.kind=15∧f.ins=ins∧f.day=q.day∧f.price=q.price
def aU2(M:Prop)(e:Ending):Prop:=∃b,e=.returned (.bool b)∧(M→b=true)
theorem aT2(x:aF)(ins:List UInt8)(q:aJv)(bi bq:Nat)(w:World)(hi:aP w bi #[.string ⟨ins.toArray⟩] 9)(hq:aP w bq (aOx q) 46):
  Calls Tryz.prog 36 #[.agg x.arr,.pointer (some ⟨bi,0,none⟩),.pointer (some ⟨bq,0,none⟩)] w fun e w'=>aU2 (aUi ins q x.f) e∧Below w.heap.size w w':=by
 have HB0:=Hd (aB w (.cells x.arr 59));have KX:=aP.new0 w x.arr 59;have x3:=(KX.cell 3).trans (show _=some (.int .i64 x.f.day) from rfl);have x4:=(KX.cell 4).trans (show _=some (.int .i64 x.f.kind) from rfl);have x5:=(KX.cell 5).trans (show _=some (.string ⟨x.f.ins.toArray⟩) from rfl);have x12:=(KX.cell 12).trans (show _=some (.string ⟨x.f.price.n.toArray⟩) from rfl);have x13:=(KX.cell 13).trans (show _=some (.string ⟨x.f.price.d.toArray⟩) from rfl);have hb0:=HB0.out;have ci:=((hi.below hb0).cell 0).trans (show _=some (.string ⟨ins.toArray⟩) from rfl);have q0:=((hq.below hb0).cell 0).trans (show _=some (.int .i64 q.day) from rfl);have q1:=((hq.below hb0).cell 1).trans (show _=some (.string ⟨q.price.n.toArray⟩) from rfl);have q2:=((hq.below hb0).cell 2).trans (show _=some (.string ⟨q.price.d.toArray⟩) from rfl);have HM:Hid (aUi ins q x.f→x.f.kind=15∧(x.f.ins==ins)=true∧x.f.day=q.day∧(⟨x.f.price.n.toArray⟩:ByteArray)=⟨q.price.n.toArray⟩∧(⟨x.f.price.d.toArray⟩:ByteArray)=⟨q.price.d.toArray⟩):=fun⟨h1,h2,h3,h4⟩=>⟨h1,by rw[h2];simp,h3,by rw[h4],by rw[h4]⟩
 clear KX hi hq hb0;generalize aUi ins q x.f=M at *;generalize x.arr=xc at *;generalize x.f.kind=kd at *;generalize x.f.ins=xi at *;generalize x.f.day=xd at *;generalize(⟨x.f.price.n.toArray⟩:ByteArray)=an at *;generalize(⟨x.f.price.d.toArray⟩:ByteArray)=am at *;generalize q.day=qd at *;generalize(⟨q.price.n.toArray⟩:ByteArray)=bn at *;generalize(⟨q.price.d.toArray⟩:ByteArray)=bm at *;go_enter Tryz.func36,Tryz.ntmps36
 by_cases h1:kd=15
 case neg =>
  have h1':(kd==15)=false:=by simpa using h1
  go_wp2;go_ret;exact⟨⟨_,rfl,fun h=>absurd (HM.out h).1 h1⟩,HB0.out⟩
 subst h1;cases h2:(xi==ins) with
 |false =>
  go_wp2;go_ret;exact⟨⟨_,rfl,fun h=>by have:=(HM.out h).2.1;rw[h2] at this;cases this⟩,HB0.out⟩
 |true =>
 by_cases h3:xd=qd
 case neg =>
  have h3':(xd==qd)=false:=by simpa using h3
  go_wp2;go_ret;exact⟨⟨_,rfl,fun h=>absurd (HM.out h).2.2.1 h3⟩,HB0.out⟩
 subst h3
 by_cases h4:an.toList=bn.toList
 case neg =>
  go_wp2;go_ret;exact⟨⟨_,rfl,fun h=>absurd (by rw[(HM.out h).2.2.2.1]) h4⟩,HB0.out⟩
 by_cases h5:am.toList=bm.toList
 case neg =>
  go_wp2;go_ret;exact⟨⟨_,rfl,fun h=>absurd (by rw[(HM.out h).2.2.2.2]) h5⟩,HB0.out⟩
 go_wp2;go_ret;exact⟨⟨_,rfl,fun _=>rfl⟩,HB0.out⟩
theorem aT9(xs:List aF)(a:Option Addr)(c:Nat)(ins:List UInt8)(q:aJv)(bi bq:Nat)(w:World)(hn:xs.length≤1000000)(hr:fS w a xs)(hi:aP w bi #[.string ⟨ins.toArray⟩] 9)(hq:aP w bq (aOx q) 46)(hm:∃x,x∈xs∧aUi ins q x.f):
  Calls Tryz.prog 72 #[.slice a xs.length c,.func (.func 36) #[] #[.pointer (some ⟨bi,0,none⟩),.pointer (some ⟨bq,0,none⟩)]] w fun e w'=>(∃i:Nat,e=.returned (.int .i64 (i:Int)))∧Below w.heap.size w w':=by
 have HR:=Hd hr;have HKI:=Hd hi;have HKQ:=Hd hq;obtain⟨y,hy,hat⟩:=hm;obtain⟨m,hym⟩:=List.getElem?_of_mem hy;have HY:=Hd hym;have HAT:=Hd hat;clear hr hi hq hy hym hat;go_enter Tryz.func72,Tryz.ntmps72;go_wp2_with fail;go_loopw [8] (fun iv wr=>∃k:Nat,k≤xs.length∧iv=.int .i64 k∧Hid (k≤m)∧Hid (Below w.heap.size w wr)) (fun iv _=>xs.length-(intOf iv).toNat)
 case atStart=>exact⟨0,Nat.zero_le _,rfl,Nat.zero_le _,Br _ _⟩
 case round =>
  obtain⟨k,hk,rfl,HS,HB⟩:=hrel
  by_cases hlt:k<xs.length
  ·obtain⟨x,hx⟩:∃x,xs[k]?=some x:=⟨xs[k],Lg hlt⟩
   obtain⟨b,off,rfl,hbl,hc⟩:=HR.out.1.addr (k:=k) (cs:=x.cells) (by rw[List.getElem?_map,hx];rfl);have HC:Hid (∀j v,x.arr.toList[j]?=some v→wr.cell? ⟨b,off+k*21+j,none⟩=some v):=fun j v hv=>(HB.out.cell (p:=⟨b,off+k*21+j,none⟩) hbl).trans (hc j v hv)
   have HSZ:Hid ((Tryz.prog.info? 59).map (·.size)=some x.arr.size):=aY x.f x.pa x.oa x.pc x.oc;have HG:=Hd (aT2 x ins q bi bq wr (HKI.out.below HB.out) (HKQ.out.below HB.out));have HNX:Hid ((aUi ins q x.f→false=true)→k+1≤m):=fun h=>by
    have h1:=HS.out
    by_cases e:k=m
    ·subst e;have h2:=HY.out;rw[hx] at h2;obtain rfl:=Option.some.inj h2;exact absurd (h HAT.out) (by decide)
    ·omega
   clear hx hc;generalize x.arr=fc at *;generalize aUi ins q x.f=M at *;go_wp2_with (refine aM rfl 59 _ rfl b (off+k*21) rfl fc _ HC.out Tryz.underlying59 rfl HSZ.out ?_);refine HG.out.mono ?_;rintro e w1 ⟨⟨hit,rfl,hh⟩,hb⟩;have HB1:=Hd (aA HB.out hb);have HH:=Hd hh;clear hb hh HG;cases hit with
   |true =>
    clear HNX HH;go_wp2;go_ret;exact⟨⟨k,rfl⟩,HB1.out⟩
   |false =>
    have HS3:=Hd (HNX.out HH.out);clear HNX HH;go_wp2;go_roundw
    case rel=>exact⟨k+1,by omega,by go_num,HS3,HB1⟩
    case measure=>simp[intOf];omega
  ·exact absurd (Li.1 HY.out).1 (by have:=HS.out;omega)
theorem aTw(xs:List aF)(a:Option Addr)(c:Nat)(ins:List UInt8)(q:aJv)(bi bq:Nat)(w:World)(hn:xs.length≤1000000)(hr:fS w a xs)(hi:aP w bi #[.string ⟨ins.toArray⟩] 9)(hq:aP w bq (aOx q) 46)(hm:∃x,x∈xs∧aUi ins q x.f):
  Calls Tryz.prog 35 #[.slice a xs.length c,.func (.func 36) #[] #[.pointer (some ⟨bi,0,none⟩),.pointer (some ⟨bq,0,none⟩)]] w fun e w'=>e=.returned (.bool true)∧Below w.heap.size w w':=by
 have HI:=Hd (aT9 xs a c ins q bi bq w hn hr hi hq hm);clear hr hi hq hm hn;generalize xs.length=n at *;go_enter Tryz.func35,Tryz.ntmps35;go_wp2_with fail;refine HI.out.mono ?_;rintro e w1 ⟨⟨i,rfl⟩,hb⟩;have HB:=Hd hb;have hge:(0:Int)≤(i:Int):=Int.natCast_nonneg i;clear hb HI;go_wp2;go_ret;exact⟨by simp,HB.out⟩
end
section
open Go Go.RowKit Num
theorem bB{ops:Array Oper}{a:Act}{i j s:Nat}(hgd:(ops[i]?).map (·.guard)=some (some (j,false)))(hj:(ops[j]?).bind (·.dst)=some s)(hv:a.tmps[s]?=some (.bool false)):∀o,ops[i]?=some o→Region.wanted o (yielded ops a.tmps)=true:=fun o ho=>by
 rw[nL hgd rfl hj hv o ho];rfl
noncomputable def aUv:Array Oper:=(Tryz.f6.body.bind (jE 12)).getD #[]
def aUj:List (Nat×Nat):=[(0,58),(1,59),(2,60),(3,61),(4,62),(5,63),(6,64),(7,65),(8,66),(9,67),(10,68),(11,69),(12,70),(13,71),(14,72),(15,73),(16,74),(17,75),(18,76)]
structure aUh where
 W0:World
 b4:Nat
 b15:Nat
 qa:Array Value
 xd:Int
 bb:Nat
 off:Nat
 n:Nat
 cap:Nat
 kk:Nat
 kp:Nat
 pd:Int
 g0:Bool
 va:Option Addr
 vn:Nat
 vc:Nat
def aUh.val(C:aUh)(_:Unit):Nat→Value
 |0=>.int .i64 (C.kk:Int)
 |1=>.bool C.g0
 |2=>.bool C.g0
 |3=>gv C.g0 (.pointer (some ⟨C.b15,0,none⟩))
 |4=>gv C.g0 (.int .i64 C.xd)
 |5=>gv C.g0 (.slice (some ⟨C.bb,C.off,none⟩) C.n C.cap)
 |6=>gv C.g0 (.int .i64 (C.kk:Int))
 |7=>gv C.g0 (.int .i64 (C.kp:Int))
 |8=>gv C.g0 (.pointer (some ⟨C.bb,C.off+C.kp*3,none⟩))
 |9=>gv C.g0 (.pointer (some ⟨C.bb,C.off+C.kp*3,none⟩))
 |10=>gv C.g0 (.int .i64 C.pd)
 |11=>gv C.g0 (.bool false)
 |12=>.bool false
 |13=>.bool false
 |14=>.slice C.va C.vn C.vc
 |15=>.func (.func 36) #[] #[.pointer (some ⟨C.b4,0,none⟩),.pointer (some ⟨C.b15,0,none⟩)]
 |16=>.bool true
 |17=>.bool false
 |_=>.bool false
def aUh.gg(C:aUh)(_:Unit)(_:Array Bool)(W:World):Prop:=Below C.W0.heap.size C.W0 W
structure aU8(C:aUh)(t0:Array Value):Prop where
 sz:t0.size=114
 tv0:t0[0]?=some (.slice C.va C.vn C.vc)
 t4:t0[4]?=some (.pointer (some ⟨C.b4,0,none⟩))
 t7:t0[7]?=some (.slice (some ⟨C.bb,C.off,none⟩) C.n C.cap)
 t14:t0[14]?=some (.int .i64 (C.kk:Int))
 t15:t0[15]?=some (.pointer (some ⟨C.b15,0,none⟩))
 k15:aP C.W0 C.b15 C.qa 46
 q0:C.qa[0]?=some (.int .i64 C.xd)
 g0:(decide (0<C.kk))=C.g0
 wk:C.g0=true→IntKind.i64.wrap ((C.kk:Int)-1)=(C.kp:Int)
 lt:C.g0=true→C.kp<C.n
 cp:C.g0=true→∀W,Below C.W0.heap.size C.W0 W→W.cell? ⟨C.bb,C.off+C.kp*3,none⟩=some (.int .i64 C.pd)
 le:C.g0=true→¬ C.xd≤C.pd
 cf:∀W,Below C.W0.heap.size C.W0 W→Calls Tryz.prog 35 #[.slice C.va C.vn C.vc,.func (.func 36) #[] #[.pointer (some ⟨C.b4,0,none⟩),.pointer (some ⟨C.b15,0,none⟩)]] W fun e w'=>e=.returned (.bool true)∧Below W.heap.size W w'
section
variable {C:aUh}{t0:Array Value}{Q:Exit→Act→World→Prop}
theorem aUd(M:aU8 C t0){a:Act}{w:World}(hdf:a.defers=[])(ht:a.tmps=t0)(hw:w.drewN 1=C.W0)
  (hQ:∀W,Below C.W0.heap.size C.W0 W→Q .normal { tmps:=iZ (C.val ()) aUj t0,defers:=[] } W):(Code.region 12 aUv true).wp Tryz.prog Q a w:=by
 have hsz:aUv.size=19:=by kernel_rfl
 refine eV (ds:=aUj) (val:=C.val) (G:=C.gg) (by kernel_rfl) (by kernel_rfl) (by decide) (fun p hp=>?_) (by kernel_rfl) ?_ (γ:=()) hdf ht (by rw[hw];exact Br _ _) (fun _ _ W _ hg=>hQ W hg)
 ·rw[M.sz];have:∀p,p∈aUj→p.2<114:=by decide
  exact this p hp
 ·intro γ l a w i H hr;cases γ;have hi:i<19:=by
   obtain⟨_,o,ho,_⟩:=mem_ready.1 hr;have:=(Ai.1 ho).1;rw[hsz] at this;exact this
  have tv0:=H.low (s:=0) (by decide) M.tv0;have t4:=H.low (s:=4) (by decide) M.t4;have t7:=H.low (s:=7) (by decide) M.t7;have t14:=H.low (s:=14) (by decide) M.t14;have t15:=H.low (s:=15) (by decide) M.t15;have hb:Below C.W0.heap.size C.W0 w:=H.g
  match i,hi,hr with
  |0,_,hr =>
   exact aH (X:=.move (.tmp 14)) (v:=.int .i64 (C.kk:Int)) (by kernel_rfl) (fun o h=>by simp[execOp,h,t14,go_sem]) rfl hb
  |1,_,hr =>
   have v0:a.tmps[58]?=some (.int .i64 (C.kk:Int)):=H.dep hr 0 58 (by kernel_rfl) ⟨rfl,by decide⟩;have hg0:=M.g0;exact aH (X:=.binOp .gtr 3 (.tmp 58) (.const (.int .i64 0)) 3) (v:=.bool C.g0) (by kernel_rfl) (fun o h=>by simp[execOp,h,v0,go_sem];exact hg0) rfl hb
  |2,_,hr =>
   have v1:a.tmps[59]?=some (.bool C.g0):=H.dep hr 1 59 (by kernel_rfl) ⟨rfl,by decide⟩;exact aH (X:=.move (.tmp 59)) (v:=.bool C.g0) (by kernel_rfl) (fun o h=>by simp[execOp,h,v1,go_sem]) rfl hb
  |3,_,hr =>
   have hv:a.tmps[60]?=some (.bool C.g0):=H.dep hr 2 60 (by kernel_rfl) ⟨rfl,by decide⟩;exact dH (X:=.fieldAddr 46 (.tmp 15) 0) (v:=.pointer (some ⟨C.b15,0,none⟩)) (gb:=C.g0) (by kernel_rfl) (by kernel_rfl) (j:=2) (s:=60) (by kernel_rfl) hv rfl (fun hgb o h=>by simp[execOp,h,t15,go_sem]) hb
  |4,_,hr =>
   have hv:a.tmps[60]?=some (.bool C.g0):=H.dep hr 2 60 (by kernel_rfl) ⟨rfl,by decide⟩;have v3:a.tmps[61]?=some (gv C.g0 (.pointer (some ⟨C.b15,0,none⟩))):=H.dep hr 3 61 (by kernel_rfl) ⟨rfl,by decide⟩;have c0:=((M.k15.below hb).cell 0).trans M.q0;exact dH (X:=.load 23 (.tmp 61)) (v:=.int .i64 C.xd) (gb:=C.g0) (by kernel_rfl) (by kernel_rfl) (j:=2) (s:=60) (by kernel_rfl) hv rfl (fun hgb o h=>by unfold gv at v3;rw[hgb,if_pos rfl] at v3;simp[execOp,h,v3,c0,go_sem]) hb
  |5,_,hr =>
   have hv:a.tmps[60]?=some (.bool C.g0):=H.dep hr 2 60 (by kernel_rfl) ⟨rfl,by decide⟩;exact dH (X:=.move (.tmp 7)) (v:=.slice (some ⟨C.bb,C.off,none⟩) C.n C.cap) (gb:=C.g0) (by kernel_rfl) (by kernel_rfl) (j:=2) (s:=60) (by kernel_rfl) hv rfl (fun hgb o h=>by simp[execOp,h,t7,go_sem]) hb
  |6,_,hr =>
   have hv:a.tmps[60]?=some (.bool C.g0):=H.dep hr 2 60 (by kernel_rfl) ⟨rfl,by decide⟩;exact dH (X:=.move (.tmp 14)) (v:=.int .i64 (C.kk:Int)) (gb:=C.g0) (by kernel_rfl) (by kernel_rfl) (j:=2) (s:=60) (by kernel_rfl) hv rfl (fun hgb o h=>by simp[execOp,h,t14,go_sem]) hb
  |7,_,hr =>
   have hv:a.tmps[60]?=some (.bool C.g0):=H.dep hr 2 60 (by kernel_rfl) ⟨rfl,by decide⟩;have v6:a.tmps[64]?=some (gv C.g0 (.int .i64 (C.kk:Int))):=H.dep hr 6 64 (by kernel_rfl) ⟨rfl,by decide⟩;exact dH (X:=.binOp .sub 3 (.tmp 64) (.const (.int .i64 1)) 3) (v:=.int .i64 (C.kp:Int)) (gb:=C.g0) (by kernel_rfl) (by kernel_rfl) (j:=2) (s:=60) (by kernel_rfl) hv rfl (fun hgb o h=>by unfold gv at v6;rw[hgb,if_pos rfl] at v6;have hwk:=M.wk hgb;simp[execOp,h,v6,go_sem,hwk]) hb
  |8,_,hr =>
   have hv:a.tmps[60]?=some (.bool C.g0):=H.dep hr 2 60 (by kernel_rfl) ⟨rfl,by decide⟩;have v5:a.tmps[63]?=some (gv C.g0 (.slice (some ⟨C.bb,C.off,none⟩) C.n C.cap)):=H.dep hr 5 63 (by kernel_rfl) ⟨rfl,by decide⟩;have v7:a.tmps[65]?=some (gv C.g0 (.int .i64 (C.kp:Int))):=H.dep hr 7 65 (by kernel_rfl) ⟨rfl,by decide⟩;exact dH (X:=.indexAddr 50 (.tmp 63) (.tmp 65)) (v:=.pointer (some ⟨C.bb,C.off+C.kp*3,none⟩)) (gb:=C.g0) (by kernel_rfl) (by kernel_rfl) (j:=2) (s:=60) (by kernel_rfl) hv rfl (fun hgb o h=>by unfold gv at v5 v7;rw[hgb,if_pos rfl] at v5 v7;have hlt:=M.lt hgb;simp[execOp,h,v5,v7,go_sem,hlt]) hb
  |9,_,hr =>
   have hv:a.tmps[60]?=some (.bool C.g0):=H.dep hr 2 60 (by kernel_rfl) ⟨rfl,by decide⟩;have v8:a.tmps[66]?=some (gv C.g0 (.pointer (some ⟨C.bb,C.off+C.kp*3,none⟩))):=H.dep hr 8 66 (by kernel_rfl) ⟨rfl,by decide⟩;exact dH (X:=.fieldAddr 46 (.tmp 66) 0) (v:=.pointer (some ⟨C.bb,C.off+C.kp*3,none⟩)) (gb:=C.g0) (by kernel_rfl) (by kernel_rfl) (j:=2) (s:=60) (by kernel_rfl) hv rfl (fun hgb o h=>by unfold gv at v8;rw[hgb,if_pos rfl] at v8;simp[execOp,h,v8,go_sem]) hb
  |10,_,hr =>
   have hv:a.tmps[60]?=some (.bool C.g0):=H.dep hr 2 60 (by kernel_rfl) ⟨rfl,by decide⟩;have v9:a.tmps[67]?=some (gv C.g0 (.pointer (some ⟨C.bb,C.off+C.kp*3,none⟩))):=H.dep hr 9 67 (by kernel_rfl) ⟨rfl,by decide⟩;exact dH (X:=.load 23 (.tmp 67)) (v:=.int .i64 C.pd) (gb:=C.g0) (by kernel_rfl) (by kernel_rfl) (j:=2) (s:=60) (by kernel_rfl) hv rfl (fun hgb o h=>by unfold gv at v9;rw[hgb,if_pos rfl] at v9;have c0:=M.cp hgb _ hb;simp[execOp,h,v9,c0,go_sem]) hb
  |11,_,hr =>
   have hv:a.tmps[60]?=some (.bool C.g0):=H.dep hr 2 60 (by kernel_rfl) ⟨rfl,by decide⟩;have v4:a.tmps[62]?=some (gv C.g0 (.int .i64 C.xd)):=H.dep hr 4 62 (by kernel_rfl) ⟨rfl,by decide⟩;have v10:a.tmps[68]?=some (gv C.g0 (.int .i64 C.pd)):=H.dep hr 10 68 (by kernel_rfl) ⟨rfl,by decide⟩;exact dH (X:=.binOp .leq 23 (.tmp 62) (.tmp 68) 23) (v:=.bool false) (gb:=C.g0) (by kernel_rfl) (by kernel_rfl) (j:=2) (s:=60) (by kernel_rfl) hv rfl (fun hgb o h=>by unfold gv at v4 v10;rw[hgb,if_pos rfl] at v4 v10;have hle:=M.le hgb;simp[execOp,h,v4,v10,go_sem,hle]) hb
  |12,_,hr =>
   have v2:a.tmps[60]?=some (.bool C.g0):=H.dep hr 2 60 (by kernel_rfl) ⟨rfl,by decide⟩;have v11:a.tmps[69]?=some (gv C.g0 (.bool false)):=H.dep hr 11 69 (by kernel_rfl) ⟨rfl,by decide⟩;unfold gv at v11;exact aH (X:=.pick (.tmp 60) (.tmp 69) (.const (.bool false))) (v:=.bool false) (by kernel_rfl) (fun o h=>by cases hg:C.g0 <;> rw[hg] at v2 v11 <;> simp[execOp,h,v2,v11,go_sem]) rfl hb
  |13,_,hr =>
   have v12:a.tmps[70]?=some (.bool false):=H.dep hr 12 70 (by kernel_rfl) ⟨rfl,by decide⟩;exact aH (X:=.move (.tmp 70)) (v:=.bool false) (by kernel_rfl) (fun o h=>by simp[execOp,h,v12,go_sem]) rfl hb
  |14,_,hr =>
   have hon:a.tmps[71]?=some (.bool false):=H.dep hr 13 71 (by kernel_rfl) ⟨rfl,by decide⟩;exact bA (X:=.move (.tmp 0)) (v:=.slice C.va C.vn C.vc) (by kernel_rfl) (bB (i:=14) (j:=13) (s:=71) (by kernel_rfl) (by kernel_rfl) hon) (fun o h=>by simp[execOp,h,tv0,go_sem]) rfl hb
  |15,_,hr =>
   have hon:a.tmps[71]?=some (.bool false):=H.dep hr 13 71 (by kernel_rfl) ⟨rfl,by decide⟩;exact bA (X:=.makeFunc (.func 36) #[] #[.tmp 4,.tmp 15]) (v:=.func (.func 36) #[] #[.pointer (some ⟨C.b4,0,none⟩),.pointer (some ⟨C.b15,0,none⟩)]) (by kernel_rfl) (bB (i:=15) (j:=13) (s:=71) (by kernel_rfl) (by kernel_rfl) hon) (fun o h=>by simp[execOp,h,t4,t15,go_sem]) rfl hb
  |16,_,hr =>
   have v14:a.tmps[72]?=some (.slice C.va C.vn C.vc):=H.dep hr 14 72 (by kernel_rfl) ⟨rfl,by decide⟩;have v15:a.tmps[73]?=some (.func (.func 36) #[] #[.pointer (some ⟨C.b4,0,none⟩),.pointer (some ⟨C.b15,0,none⟩)]):=H.dep hr 15 73 (by kernel_rfl) ⟨rfl,by decide⟩;have hon:a.tmps[71]?=some (.bool false):=H.dep hr 13 71 (by kernel_rfl) ⟨rfl,by decide⟩;refine mX (f:=35) (lb:=#[]) (c:=.func 35) (args:=#[.tmp 72,.tmp 73]) (ts:=#[22,60]) (vs:=#[.slice C.va C.vn C.vc,.func (.func 36) #[] #[.pointer (some ⟨C.b4,0,none⟩),.pointer (some ⟨C.b15,0,none⟩)]]) (by kernel_rfl) (bB (i:=16) (j:=13) (s:=71) (by kernel_rfl) (by kernel_rfl) hon) rfl (enters_of Tryz.func35 (by kernel_rfl) rfl) (by simp[Act.eval,v14,v15]) ((M.cf w hb).mono ?_);rintro e w' ⟨rfl,hb'⟩;exact⟨_,(),rfl,rfl,fun _ _=>rfl,aA hb hb'⟩
  |17,_,hr =>
   have v16:a.tmps[74]?=some (.bool true):=H.dep hr 16 74 (by kernel_rfl) ⟨rfl,by decide⟩;have hon:a.tmps[71]?=some (.bool false):=H.dep hr 13 71 (by kernel_rfl) ⟨rfl,by decide⟩;exact bA (X:=.unOp .not 4 (.tmp 74)) (v:=.bool false) (by kernel_rfl) (bB (i:=17) (j:=13) (s:=71) (by kernel_rfl) (by kernel_rfl) hon) (fun o h=>by simp[execOp,h,v16,go_sem]) rfl hb
  |18,_,hr =>
   have v13:a.tmps[71]?=some (.bool false):=H.dep hr 13 71 (by kernel_rfl) ⟨rfl,by decide⟩;have v17:a.tmps[75]?=some (.bool false):=H.dep hr 17 75 (by kernel_rfl) ⟨rfl,by decide⟩;exact aH (X:=.pick (.tmp 71) (.const (.bool true)) (.tmp 75)) (v:=.bool false) (by kernel_rfl) (fun o h=>by simp[execOp,h,v13,v17,go_sem]) rfl hb
  |n+19,h,_=>exact absurd h (by omega)
end
end
section
open Go Go.RowKit Num
theorem aUe{fs:List aE}(h:dF fs=0):aPk fs 0 []=0:=by
 unfold aPk;rw[h,if_neg (by simp),if_neg (by decide),if_neg (by decide)]
theorem aUk{k:Nat}(h:0<k)(h2:k≤1000000):IntKind.i64.wrap ((k:Int)-1)=((k-1:Nat):Int):=by
 rw[IntWalk.i64_in _ (by omega)];omega
theorem aS1(xs:List aF)(ins:List UInt8)(d:Int)(a:Option Addr)(c:Nat)(w:World)(hE:iE w)(hn:xs.length≤9223372036854775807)(_hcap:xs.length≤c)(hr:fS w a xs)(hf:∀x,x∈xs→x.fits):
  Calls Tryz.prog 6 #[.slice a xs.length c,.string ⟨ins.toArray⟩,.int .i64 d] w fun e w'=>e=.returned (.bool true)∧Below w.heap.size w w':=by
 have KI:=Hd (aP.new0 w #[.string ⟨ins.toArray⟩] 9);have HB0:=Hd (aB w (.cells #[.string ⟨ins.toArray⟩] 9));have HG:=Hd (aQn xs a c (w.alloc (.cells #[.string ⟨ins.toArray⟩] 9)) (hE.below HB0.out) hn (hr.below HB0.out) hf);have HAW:Hid (∀W,Below w.heap.size w W→Calls Tryz.prog 12 #[] W fun e w'=>e=.returned (.bool true)∧Below W.heap.size W w'):=fun W hb=>aQe W (hE.below hb)
 have HE:=Hd hE;have HR:=Hd hr;have HF:=Hd hf;obtain⟨w0,hw0⟩:∃w0,w0=w.alloc (.cells #[.string ⟨ins.toArray⟩] 9):=⟨_,rfl⟩
 rw[←hw0] at KI HB0 HG;clear hE hr hf _hcap;go_enter Tryz.func6,Tryz.ntmps6;go_wp2_with fail;rw[←hw0];clear hw0;refine HG.out.mono ?_;rintro e w1 ⟨⟨g,rfl,hg⟩,hb⟩;have HB1:=Hd (aA HB0.out hb);have KI1:=Hd (KI.out.below hb);have HGG:=Hd hg;clear hb hg HG KI HB0;cases g with
 |false =>
  go_wp2_with fail;refine(HAW.out _ HB1.out).mono ?_;rintro e wz ⟨rfl,hb⟩;go_wp2;go_ret;exact⟨rfl,aA HB1.out hb⟩
 |true =>
  have HFI:=Hd (HGG.out rfl);clear HGG
  by_cases h2:d < -25567
  ·go_wp2_with fail;refine(HAW.out _ HB1.out).mono ?_;rintro e wz ⟨rfl,hb⟩;go_wp2;go_ret;exact⟨rfl,aA HB1.out hb⟩
  by_cases h3:84005<d
  ·go_wp2_with fail;refine(HAW.out _ HB1.out).mono ?_;rintro e wz ⟨rfl,hb⟩;go_wp2;go_ret;exact⟨rfl,aA HB1.out hb⟩
  have hV:gT w a c xs:=⟨HR.out,fun y hy=>⟨(HFI.out.1 y hy).small,(HF.out y hy).picks⟩,by have:=HFI.out.2.1;omega⟩
  obtain⟨fs,hfs⟩:∃fs,fs=xs.map aF.f:=⟨_,rfl⟩
  have hvc:dF fs=0:=by rw[hfs];exact HFI.out.2.2
  have HSE:Hid (∀W,Below w.heap.size w W→Calls Tryz.prog 32 #[.slice a xs.length c,.string ⟨ins.toArray⟩] W fun e w'=>(∃v,e=.returned (.tuple #[v,.int .i64 0])∧w'.ownsRow W.heap.size 46 3 v (ser ins fs).length (aTp (ser ins fs)))∧Below W.heap.size W w'):=fun W hb=>by
   rw[hfs];exact aUb xs a c ins W (HE.out.below hb) (hV.below hb) (aUe (by rw[←hfs];exact hvc))
  have HLA:Hid (∀u W,¬ u < -25567→¬ 84005<u→Below w.heap.size w W→Calls Tryz.prog 28 #[.slice a xs.length c,.string ⟨ins.toArray⟩,.int .i64 u] W fun e w'=>e=.returned (.tuple #[.agg (aOx (QV (aJ0 fs ins u))),.bool (aJ0 fs ins u).isSome,.int .i64 0])∧Below W.heap.size W w'):=fun u W hu1 hu2 hb=>by
   have h:=aQo xs a c ins u W (HE.out.below hb) (hV.below hb);have e1:aPz (xs.map aF.f) ins u=aJ0 fs ins u:=by unfold aPz;rw[←hfs,if_pos (aPr hvc hu1 hu2 (by decide))]
   rw[e1,←hfs,aPr hvc hu1 hu2 (by decide)] at h;exact h
  have HCF:Hid (∀(q:aJv) (b:Nat) W,q∈ser ins fs→Below w.heap.size w W→aP W w.heap.size #[.string ⟨ins.toArray⟩] 9→aP W b (aOx q) 46→Calls Tryz.prog 35 #[.slice a xs.length c,.func (.func 36) #[] #[.pointer (some ⟨w.heap.size,0,none⟩),.pointer (some ⟨b,0,none⟩)]] W fun e w'=>e=.returned (.bool true)∧Below W.heap.size W w'):=fun q b W hq hb h1 h2=>by
   refine aTw xs a c ins q w.heap.size b W (by have:=HFI.out.2.1;omega) (HR.out.below hb) h1 h2 ?_;obtain⟨f,hf,hi,rfl⟩:=aLv hvc hq;rw[hfs] at hf;obtain⟨x,hx,rfl⟩:=List.mem_map.1 hf;unfold isQ at hi;simp at hi;exact⟨x,hx,hi.1,hi.2,rfl,rfl⟩
  have HOWN:Hid (∀q,q∈ser ins fs→aJ0 fs ins q.day=some q∧¬ q.day < -25567∧¬ 84005<q.day):=fun q hq=>by
   have h1:=aK4 hvc hq;have h2:=aQ6 hvc h1;exact⟨h1,by omega,by omega⟩
  have HASC:Hid (Asc (ser ins fs)):=aK9 hvc;have HLEN:Hid ((ser ins fs).length≤1000000):=by
   have h1:=aLw ins fs;have h2:=HFI.out.2.1;rw[hfs,List.length_map] at h1;show (ser ins fs).length≤_;rw[hfs];omega
  have HD1:=Hd (HLA.out d);have HLT:=Hd (aT5 fs ins d);clear HE HR HF HFI hV hvc hfs;obtain⟨L,hL⟩:∃L,L=ser ins fs:=⟨_,rfl⟩
  rw[←hL] at HSE HCF HOWN HASC HLEN HLT;clear hL;generalize xs.length=n at *;have ki:=(KI1.out.cell 0).trans (show _=some (.string ⟨ins.toArray⟩) from rfl);go_wp2_with fail;refine(HSE.out _ HB1.out).mono ?_;rintro e w2 ⟨⟨v2,rfl,ho2⟩,hb⟩;have HB2:=Hd (aA HB1.out hb);have KI2:=Hd (KI1.out.below hb);obtain⟨a2,c2,rfl,hr2⟩:=gK ho2;have HR2:=Hd (aTx hr2);have ki:=(KI2.out.cell 0).trans (show _=some (.string ⟨ins.toArray⟩) from rfl);clear hb ho2 hr2 HSE HB1 KI1;go_wp2_with fail;refine(HD1.out _ h2 h3 HB2.out).mono ?_;rintro e w3 ⟨rfl,hb⟩;have HB3:=Hd (aA HB2.out hb);have KI3:=Hd (KI2.out.below hb);have HR3:=Hd (HR2.out.below hb);have HN3:=Hd (aB w3 (.cells Z3 46));have KN3:=Hd (aP.new0 w3 Z3 46);have HSQ:Hid (∀q,(Tryz.prog.info? 46).map (·.size)=some (aOx q).size):=fun _=>aPm
  have HONE:Hid (∀q,(aOx q).all (·.oneCell')=true):=aPw;have HS3:Hid (∀q,Z3.size=(aOx q).size):=fun _=>rfl
  have HQC:Hid (∀q:aJv,(aOx q)[0]?=some (.int .i64 q.day)∧(aOx q)[1]?=some (.string ⟨q.price.n.toArray⟩)∧(aOx q)[2]?=some (.string ⟨q.price.d.toArray⟩)):=fun _=>⟨rfl,rfl,rfl⟩
  clear hb HD1 HB2 KI2 HR2 ki;obtain⟨o,ho⟩:∃o,o=aJ0 fs ins d:=⟨_,rfl⟩
  rw[←ho] at HLT ⊢;clear ho;go_wp2_with (refine aOw rfl 46 _ _ rfl w3.heap.size rfl (aOx (QV o)) rfl KN3.out (HSQ.out _) (HS3.out _) (HONE.out _) ?_;intro w4 kx bx _ hsz4;have hb8:=HN3.out.trans (bx _ (Nl _));have HB4:=Hd (aA HB3.out hb8);have KI4:=Hd (KI3.out.below hb8);have HR4:=Hd (HR3.out.below hb8);have KQ4:=Hd kx;clear kx bx hb8 hsz4);obtain⟨w5,hw5⟩:∃w5,w5=w4.alloc (.cells #[.int .i64 0,.string ⟨#[]⟩,.string ⟨#[]⟩] 46):=⟨_,rfl⟩
  have HBW:Hid (Below w4.heap.size w4 w5):=by rw[hw5];exact aB _ _
  have KW:Hid (aP w5 w4.heap.size (aPs (aPv d (L.take 0))) 46):=by rw[hw5];exact aP.new0 w4 _ _
  have HS5:Hid (w5.heap.size=w4.heap.size+1):=by show _=_;rw[hw5,World.size_alloc]
  rw[←hw5];clear hw5;have HB5:=Hd (aA HB4.out HBW.out);go_loopw [13,53] (fun fv iv wr=>∃k:Nat,k≤L.length∧iv=.int .i64 k∧fv=.bool (!(aPv d (L.take k)).isEmpty)∧Hid (aP wr w4.heap.size (aPs (aPv d (L.take k))) 46)∧Hid (Below w4.heap.size w5 wr)) (fun _ iv _=>L.length-(intOf iv).toNat)
  case atStart=>exact⟨0,Nat.zero_le _,rfl,rfl,KW,Br _ _⟩
  case round =>
   obtain⟨k,hk,rfl,rfl,KWr,HBr⟩:=hrel;have HBk:Hid (Below w4.heap.size w4 wr):=HBW.out.trans HBr.out;have HRr:=Hd (HR4.out.below HBk.out);have KIr:=Hd (KI4.out.below HBk.out);have KQr:=Hd (KQ4.out.below HBk.out);have HBwr:=Hd (aA HB4.out HBk.out)
   by_cases hlt:k<L.length
   ·obtain⟨x,hx⟩:∃x,L[k]?=some x:=⟨L[k],Lg hlt⟩
    have hmem:x∈L:=List.mem_of_getElem? hx;obtain⟨bb,off,hal,hbl,hcc⟩:=HRr.out.addr (k:=k) (cs:=aT4 x) (by rw[List.getElem?_map,hx];rfl);subst hal;have HC:Hid (∀j v,(aOx x).toList[j]?=some v→wr.cell? ⟨bb,off+k*3+j,none⟩=some v):=hcc;have HPC:Hid (0<k→wr.cell? ⟨bb,off+(k-1)*3,none⟩=some (.int .i64 ((L[k-1]?.map aJv.day).getD 0))∧¬ x.day≤(L[k-1]?.map aJv.day).getD 0):=fun h0=>by
     obtain⟨y,hy⟩:∃y,L[k-1]?=some y:=⟨L[k-1]'(by omega),Lg (by omega)⟩
     obtain⟨bb2,off2,hal2,_,hcc2⟩:=HRr.out.addr (k:=k-1) (cs:=aT4 y) (by rw[List.getElem?_map,hy];rfl);injection hal2 with hal2
     injection hal2 with e1 e2 _
     subst e1 e2;rw[hy];refine⟨hcc2 0 _ rfl,?_⟩;have:=aU0 HASC.out hy hx (by omega);show ¬ x.day≤y.day;omega
    have HSTEP:=Hd (aUa d hx);have HUP:Hid (aKf d x=decide (x.day≤d)):=rfl;obtain⟨hown,hd1,hd2⟩:=HOWN.out x hmem;have HLX:Hid (∀W,Below w.heap.size w W→Calls Tryz.prog 28 #[.slice a n c,.string ⟨ins.toArray⟩,.int .i64 x.day] W fun e w'=>e=.returned (.tuple #[.agg (aOx x),.bool true,.int .i64 0])∧Below W.heap.size W w'):=fun W hb=>by
     have h:=HLA.out x.day W hd1 hd2 hb;rw[hown] at h;exact h
    have HCX:=Hd (fun b W=>HCF.out x b W hmem);have HXC:=Hd (HQC.out x);have HXS:=Hd (HSQ.out x);have HX1:=Hd (HONE.out x);have HX3:=Hd (HS3.out x);have HKL:Hid (k≤1000000):=by have:=HLEN.out;show _≤_;omega
    obtain⟨tk,htk⟩:∃tk,tk=aPv d (L.take k):=⟨_,rfl⟩
    obtain⟨tk',htk'⟩:∃tk',tk'=aPv d (L.take (k+1)):=⟨_,rfl⟩
    rw[←htk,←htk'] at HSTEP;rw[←htk] at KWr ⊢;have HTK:=Hd htk';have HCUR:Hid (aPs (tk ++ [x])=aOx x):=aP1 _ _;have HCSZ:Hid ((aPs tk).size=3):=aQd _;have HN:=Hd (aB wr (.cells Z3 46));have KN:=Hd (aP.new0 wr Z3 46);obtain⟨pd,hpd⟩:∃pd,pd=(L[k-1]?.map aJv.day).getD 0:=⟨_,rfl⟩
    rw[←hpd] at HPC;clear htk htk' hx hmem hcc hown hd1 hd2 hpd HLA HCF HOWN HASC HRr HBk;obtain⟨qx,hqx⟩:∃qx,qx=aOx x:=⟨_,rfl⟩
    rw[←hqx] at HC HLX HCX HXC HXS HX1 HX3 HCUR;have HQX:Hid (qx=#[.int .i64 x.day,.string ⟨x.price.n.toArray⟩,.string ⟨x.price.d.toArray⟩]):=hqx;have HOS:Hid ((aPs tk).size=qx.size):=by show _=_;rw[HCSZ.out,HQX.out];rfl
    have hll:=HLEN.out;clear hqx;generalize x.day=xd at *;generalize(⟨x.price.n.toArray⟩:ByteArray)=xn at *;generalize(⟨x.price.d.toArray⟩:ByteArray)=xm at *;go_wp2_with (first|(refine aM rfl 46 _ rfl bb (off+k*3) rfl qx _ HC.out Tryz.underlying46 rfl HXS.out ?_)|(refine aOw rfl 46 _ _ rfl wr.heap.size rfl qx rfl KN.out HXS.out HX3.out HX1.out ?_;intro w6 kx bx kot _;have hb8:=HN.out.trans (bx _ (Nl _));have HBs:=Hd hb8;have KX6:=Hd kx;clear kx bx kot hb8));have HB6:=Hd (aA HBwr.out HBs.out);have KI6:=Hd (KIr.out.below HBs.out);have KQ6:=Hd (KQr.out.below HBs.out);have KW6:=Hd (KWr.out.below HBs.out);have HBl6:Hid (Below w4.heap.size w5 w6):=HBr.out.trans (HBs.out.mono (by have h1:=HBr.out.size;have h2:=HS5.out;omega));have HSZ6:Hid (w4.heap.size<wr.heap.size∧wr.heap.size<w6.heap.size):=⟨KWr.out.1,KX6.out.1⟩
    refine aUd (C:=⟨w6.drewN 1,w.heap.size,wr.heap.size,qx,xd,bb,off,L.length,c2,k,k-1,pd,decide (0<k),a,n,c⟩) ⟨rfl,rfl,rfl,rfl,rfl,rfl,KX6.out,HXC.out.1,rfl,fun h=>aUk (of_decide_eq_true h) HKL.out,fun h=>(by have:=of_decide_eq_true h;show k-1<L.length;omega),fun h W hb=>((hb.cell (p:=⟨bb,off+(k-1)*3,none⟩) (Nat.lt_of_lt_of_le hbl HBs.out.size)).trans (HBs.out.cell (p:=⟨bb,off+(k-1)*3,none⟩) hbl)).trans (HPC.out (of_decide_eq_true h)).1,fun h=>(by have:=(HPC.out (of_decide_eq_true h)).2;show ¬ xd≤pd;omega),fun W hb=>HCX.out wr.heap.size W ((aD HB6.out 1).trans (hb.mono HB6.out.size)) ((show aP (w6.drewN 1) w.heap.size _ _ from KI6.out).below hb) ((show aP (w6.drewN 1) wr.heap.size _ _ from KX6.out).below hb)⟩ rfl rfl rfl ?_;intro w7 hb7;have hb67:Below w6.heap.size w6 w7:=(aD (Br w6.heap.size w6) 1).trans hb7;have HB7:=Hd (aA HB6.out hb67);have KI7:=Hd (KI6.out.below hb67);have KQ7:=Hd (KQ6.out.below hb67);have KX7:=Hd (KX6.out.below hb67);have KW7:=Hd (KW6.out.below hb67);have HBl7:Hid (Below w4.heap.size w5 w7):=HBl6.out.trans (hb67.mono (by have:=HSZ6.out;omega));have HSZ7:Hid (wr.heap.size<w7.heap.size):=KX7.out.1;have ki:=(KI7.out.cell 0).trans (show _=some (.string ⟨ins.toArray⟩) from rfl);have x0:=(KX7.out.cell 0).trans HXC.out.1;clear hb7 hb67 HB6 KI6 KQ6 KX6 KW6 HBl6 HPC HCX HC hbl HBs HN KN HBwr KIr KQr KWr HBr;simp only[iZ,aUj,List.foldl,List.setIfInBounds_toArray,List.set_cons_zero,List.set_cons_succ,aUh.val];go_wp2_with fail;refine(HLX.out _ HB7.out).mono ?_;rintro e w8 ⟨rfl,hb⟩;have HB8:=Hd (aA HB7.out hb);have KQ8:=Hd (KQ7.out.below hb);have KX8:=Hd (KX7.out.below hb);have KW8:=Hd (KW7.out.below hb);have HBl8:Hid (Below w4.heap.size w5 w8):=HBl7.out.trans (hb.mono (by have:=HSZ6.out;have:=HSZ7.out;omega));have HN8:=Hd (aB w8 (.cells Z3 46));have KN8:=Hd (aP.new0 w8 Z3 46);clear hb HB7 KI7 KQ7 KX7 KW7 HBl7 HLX ki x0
    by_cases hu:xd≤d
    ·have HT2:Hid (tk'=tk ++ [x]):=by show _=_;rw[HSTEP.out,if_pos (by rw[HUP.out];exact decide_eq_true hu)]
     clear HSTEP HUP;go_wp2_with (first|(refine aOw rfl 46 _ _ rfl w8.heap.size rfl qx rfl KN8.out HXS.out HX3.out HX1.out ?_;intro w9 kx bx kot _;have hb8:=HN8.out.trans (bx _ (Nl _));have HBs9:=Hd hb8;have KW9:=Hd (KW8.out.below hb8);have KX9:=Hd (KX8.out.below hb8);have KXL:=KX9.out;have KYL:=kx;rw[HQX.out] at KXL KYL;have KXL:=Hd KXL;have KYL:=Hd KYL;have x0:=(KX9.out.cell 0).trans HXC.out.1;clear kx bx kot hb8)|(refine wpList_load_row rfl 46 _ rfl wr.heap.size rfl 46 qx (0,0) _ KX9.out.2 Tryz.underlying46 rfl HXS.out ?_;simp only[pS])|(refine gV (by rfl) 46 _ rfl wr.heap.size rfl 46 #[.int .i64 xd,.string xn,.string xm] (0,0) _ KXL.out.2 Tryz.underlying46 rfl aPm ?_;simp only[pS])|(refine gV (by rfl) 46 _ rfl w8.heap.size rfl 46 #[.int .i64 xd,.string xn,.string xm] (0,0) _ KYL.out.2 Tryz.underlying46 rfl aPm ?_;simp only[pS])|(refine aOw rfl 46 _ _ rfl w4.heap.size rfl qx rfl KW9.out HXS.out HOS.out HX1.out ?_;intro w10 kx bx kot _;have HBo:=Hd (bx _ (Nl _));have KWo:=Hd kx;clear kx bx kot));go_roundw
     case rel =>
      refine⟨k+1,by omega,by go_num,?_,?_,?_⟩
      ·rw[←HTK.out,HT2.out];simp
      ·show aP _ _ _ _;rw[←HTK.out,HT2.out,HCUR.out];exact KWo.out
      ·exact(HBl8.out.trans (HBs9.out.mono (by have:=HSZ6.out;have:=HSZ7.out;have:=KX8.out.1;omega))).trans HBo.out
     case measure=>simp[intOf];omega
    ·have HT2:Hid (tk'=tk):=by show _=_;rw[HSTEP.out,if_neg (by rw[HUP.out];simpa using hu)]
     clear HSTEP HUP;go_wp2_with (first|(refine aOw rfl 46 _ _ rfl w8.heap.size rfl qx rfl KN8.out HXS.out HX3.out HX1.out ?_;intro w9 kx bx kot _;have hb8:=HN8.out.trans (bx _ (Nl _));have HBs9:=Hd hb8;have KW9:=Hd (KW8.out.below hb8);have KX9:=Hd (KX8.out.below hb8);have KXL:=KX9.out;have KYL:=kx;rw[HQX.out] at KXL KYL;have KXL:=Hd KXL;have KYL:=Hd KYL;have x0:=(KX9.out.cell 0).trans HXC.out.1;clear kx bx kot hb8)|(refine gV (by rfl) 46 _ rfl wr.heap.size rfl 46 #[.int .i64 xd,.string xn,.string xm] (0,0) _ KXL.out.2 Tryz.underlying46 rfl aPm ?_;simp only[pS])|(refine gV (by rfl) 46 _ rfl w8.heap.size rfl 46 #[.int .i64 xd,.string xn,.string xm] (0,0) _ KYL.out.2 Tryz.underlying46 rfl aPm ?_;simp only[pS]));go_roundw
     case rel =>
      refine⟨k+1,by omega,by go_num,by rw[←HTK.out,HT2.out],?_,?_⟩
      ·show aP _ _ _ _;rw[←HTK.out,HT2.out];exact KW9.out
      ·exact HBl8.out.trans (HBs9.out.mono (by have:=HSZ6.out;have:=HSZ7.out;have:=KX8.out.1;omega))
     case measure=>simp[intOf];omega
   ·obtain rfl:k=L.length:=by omega
    have hkw:=KWr.out;rw[List.take_length,aSz,←HLT.out] at hkw;have KWe:=Hd hkw;have HIE:Hid ((!(aPv d (L.take L.length)).isEmpty)=o.isSome):=by show _=_;rw[List.take_length,aRn,←HLT.out]
    rw[HIE.out];have hbe:=HBwr.out;have HBe:=Hd hbe;have q0:=(KQr.out.cell 0).trans (HQC.out (QV o)).1;have q1:=(KQr.out.cell 1).trans (HQC.out (QV o)).2.1;have q2:=(KQr.out.cell 2).trans (HQC.out (QV o)).2.2;have v0:=(KWe.out.cell 0).trans (HQC.out (QV o)).1;have v1:=(KWe.out.cell 1).trans (HQC.out (QV o)).2.1;have v2:=(KWe.out.cell 2).trans (HQC.out (QV o)).2.2;clear hkw hbe KWr KWe KQr KIr HRr HBk HBr HBwr HIE HLT HLA HCF HOWN HASC HLEN HQC;generalize(QV o).day=od at *;generalize(⟨(QV o).price.n.toArray⟩:ByteArray)=on at *;generalize(⟨(QV o).price.d.toArray⟩:ByteArray)=om at *;generalize o.isSome=is at *;go_wp2_with fail;refine(HAW.out _ HBe.out).mono ?_;rintro e wz ⟨rfl,hb⟩;go_wp2;go_ret;exact⟨rfl,aA HBe.out hb⟩
end
end Go.Proofs.YtejkibnaidiklaaGreatDoor
