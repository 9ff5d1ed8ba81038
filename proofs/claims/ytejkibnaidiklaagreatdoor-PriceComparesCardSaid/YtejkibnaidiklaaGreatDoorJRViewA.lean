/- RCompare RView RView2 RView3 -/
import Derived.Test.YtejkibnaidiklaaGreatDoorJRCheck
set_option maxHeartbeats 16000000
set_option maxRecDepth 100000
namespace Go.Proofs.YtejkibnaidiklaaGreatDoor
open Go.Proofs.Tryz
section
open Go Go.RowKit Num
theorem Fn(k:Int)(w:World):Calls prog 174 #[.int .i64 k] w fun e w'=>e=.returned (.int .i64 (eY k))/\w'=w:=by
 rcases jV k with rfl|rfl|rfl|rfl|rfl|rfl|rfl|rfl|rfl|rfl|rfl|rfl|rfl|rfl|rfl|rfl|rfl|rfl|⟨h1,h2,h3,h4,h5,h6,h7,h8,h9,h10,h11,h12,h13,h14,h15,h16,h17,h18⟩
 case inr.inr.inr.inr.inr.inr.inr.inr.inr.inr.inr.inr.inr.inr.inr.inr.inr.inr =>
  have h0:eY k=0:=by
   simp only[beq_eq_false_iff_ne,ne_eq] at *;unfold eY;rw[List.find?_eq_none.2 (fun q hq=>by
    have:∀q,q∈aX->1<=q.1/\q.1<=18:=by decide +kernel
    have:=this q hq;simp only[beq_iff_eq];omega)]
  rw[h0];clear h0;go_enter func174,ntmps174;go_wp2;go_ret;exact⟨rfl,rfl⟩
 all_goals
  go_enter func174,ntmps174;go_wp2;go_ret;exact⟨rfl,rfl⟩
theorem Vq{f g:aE}(h:f.day≠g.day):iL f g=if f.day<g.day then -1 else 1:=by
 unfold iL;rw[if_pos (by rw[ne_eq,iC];exact h)];unfold bG;split
 ·rfl
 ·rw[if_pos (by omega)]
theorem Vr{f g:aE}(h:f.day=g.day)(h2:eY f.kind≠eY g.kind):iL f g=if eY f.kind<eY g.kind then -1 else 1:=by
 unfold iL;rw[if_neg (by rw[Decidable.not_not,iC];exact h),if_pos (by rw[ne_eq,iC];exact h2)];unfold bG;split
 ·rfl
 ·rw[if_pos (by omega)]
theorem Vp{f g:aE}(h:f.day=g.day)(h2:eY f.kind=eY g.kind):iL f g=sS f.key g.key:=by
 unfold iL;rw[if_neg (by rw[Decidable.not_not,iC];exact h),if_neg (by rw[Decidable.not_not,iC];exact h2)]
theorem Fm(f g:aE)(pa oa pb ob:Option Addr)(pc oc pd od:Nat)(w:World):
  Calls prog 121 #[.agg (f.cells pa pc oa oc),.agg (g.cells pb pd ob od)] w fun e w'=>e=.returned (.int .i64 (iL f g))/\Below w.heap.size w w':=by
 have K1:=(aP.new0 w (f.cells pa pc oa oc) 59).below (aB _ (.cells (g.cells pb pd ob od) 59));have K2:=aP.new0 (w.alloc (.cells (f.cells pa pc oa oc) 59)) (g.cells pb pd ob od) 59;rw[World.size_alloc] at K2;have HB0:=Hd (((Br _ w).alloc (Nl _) (.cells (f.cells pa pc oa oc) 59)).alloc (by simp) (.cells (g.cells pb pd ob od) 59));have a4:=(K1.cell 4).trans (show _=some (.int .i64 f.kind) from rfl);have b4:=(K2.cell 4).trans (show _=some (.int .i64 g.kind) from rfl);have a3:=(K1.cell 3).trans (show _=some (.int .i64 f.day) from rfl);have b3:=(K2.cell 3).trans (show _=some (.int .i64 g.day) from rfl);have a0:=(K1.cell 0).trans (show _=some (.string ⟨f.key.toArray⟩) from rfl);have b0:=(K2.cell 0).trans (show _=some (.string ⟨g.key.toArray⟩) from rfl);have HD:=Hd (@Vq f g);have HC:=Hd (@Vr f g);have HK:=Hd (@Vp f g);have HCL:Hid (∀k W,Calls prog 174 #[.int .i64 k] W fun e w'=>e=.returned (.int .i64 (eY k))/\w'=W):=Fn;clear K1 K2;generalize iL f g=res at *;generalize eY=cl at *;generalize f.cells pa pc oa oc=fc at *;generalize g.cells pb pd ob od=gc at *;generalize f.kind=k1 at *;generalize g.kind=k2 at *;generalize f.day=d1 at *;generalize g.day=d2 at *;generalize f.key=s1 at *;generalize g.key=s2 at *
 by_cases hd:d1=d2
 ·subst hd;have HC:=Hd (HC.out rfl);have HK:=Hd (HK.out rfl);clear HD
  by_cases hc:cl k1=cl k2
  ·have HK:=Hd (HK.out hc);have hcb:(cl k1==cl k2)=true:=by simpa using hc
   have hci:decide (cl k1=cl k2)=true:=by simpa using hc
   have hci':decide (cl k1≠cl k2)=false:=by simpa using hc
   clear HC
   by_cases hk:s1=s2
   ·subst hk;have HV:Hid (res=0):=HK.out.trans (Rj.2 rfl);clear HK hc;go_enter func121,ntmps121;go_wp2_with fail;go_quiet (refine Calls.quiet_of_same (HCL.out _ _));go_wp2;go_ret;exact⟨by rw[HV.out];rfl,by first|exact HB0.out|exact aD HB0.out _|exact aD (aD HB0.out _) _⟩
   ·have hkb:(s1==s2)=false:=by simpa using hk
    by_cases hl:s1<s2
    ·have b1:Op.bytesLess s1 s2=true:=by rw[bytesLess_eq];simpa using hl
     have HV:Hid (res = -1):=HK.out.trans (by unfold sS;rw[if_pos hl]);clear HK hk hc hl;go_enter func121,ntmps121;go_wp2_with fail;go_quiet (refine Calls.quiet_of_same (HCL.out _ _));go_wp2;go_ret;exact⟨by rw[HV.out];rfl,by first|exact HB0.out|exact aD HB0.out _|exact aD (aD HB0.out _) _⟩
    ·have b1:Op.bytesLess s1 s2=false:=by rw[bytesLess_eq];exact decide_eq_false hl
     have HV:Hid (res=1):=HK.out.trans (by unfold sS;rw[if_neg hl];split;rfl;rename_i h;exact absurd (List.le_antisymm h hl) hk);clear HK hk hc hl;go_enter func121,ntmps121;go_wp2_with fail;go_quiet (refine Calls.quiet_of_same (HCL.out _ _));go_wp2;go_ret;exact⟨by rw[HV.out];rfl,by first|exact HB0.out|exact aD HB0.out _|exact aD (aD HB0.out _) _⟩
  ·have HC:=Hd (HC.out hc);have hcb:(cl k1==cl k2)=false:=by simpa using hc
   have hci:decide (cl k1=cl k2)=false:=by simpa using hc
   have hci':decide (cl k1≠cl k2)=true:=by simpa using hc
   clear HK
   by_cases hl:cl k1<cl k2
   ·have hld:decide (cl k1<cl k2)=true:=by simpa using hl
    have HV:Hid (res = -1):=HC.out.trans (if_pos hl);clear HC hc;go_enter func121,ntmps121;go_wp2_with fail;go_quiet (refine Calls.quiet_of_same (HCL.out _ _));have a4:(((w.alloc (.cells fc 59)).alloc (.cells gc 59)).drewN nq).cell? ⟨w.heap.size,4,none⟩=some (.int .i64 k1):=a4;have b4:(((w.alloc (.cells fc 59)).alloc (.cells gc 59)).drewN nq).cell? ⟨w.heap.size+1,4,none⟩=some (.int .i64 k2):=b4;have HB0:=Hd (aD HB0.out nq);clear a3 b3 a0 b0;generalize((w.alloc (.cells fc 59)).alloc (.cells gc 59)).drewN nq=W1 at *;go_wp2_with fail;go_quiet (refine Calls.quiet_of_same (HCL.out _ _));go_wp2;go_ret;exact⟨by rw[HV.out];rfl,by first|exact HB0.out|exact aD HB0.out _|exact aD (aD HB0.out _) _⟩
   ·have hld:decide (cl k1<cl k2)=false:=by simpa using hl
    have HV:Hid (res=1):=HC.out.trans (if_neg hl);clear HC hc;go_enter func121,ntmps121;go_wp2_with fail;go_quiet (refine Calls.quiet_of_same (HCL.out _ _));have a4:(((w.alloc (.cells fc 59)).alloc (.cells gc 59)).drewN nq).cell? ⟨w.heap.size,4,none⟩=some (.int .i64 k1):=a4;have b4:(((w.alloc (.cells fc 59)).alloc (.cells gc 59)).drewN nq).cell? ⟨w.heap.size+1,4,none⟩=some (.int .i64 k2):=b4;have HB0:=Hd (aD HB0.out nq);clear a3 b3 a0 b0;generalize((w.alloc (.cells fc 59)).alloc (.cells gc 59)).drewN nq=W1 at *;go_wp2_with fail;go_quiet (refine Calls.quiet_of_same (HCL.out _ _));go_wp2;go_ret;exact⟨by rw[HV.out];rfl,by first|exact HB0.out|exact aD HB0.out _|exact aD (aD HB0.out _) _⟩
 ·have hdb:(d1==d2)=false:=by simpa using hd
  have HD:=Hd (HD.out hd);clear HC HK HCL
  by_cases hl:d1<d2
  ·have HV:Hid (res = -1):=HD.out.trans (if_pos hl);go_enter func121,ntmps121;go_wp2;go_ret;exact⟨by rw[HV.out];rfl,by first|exact HB0.out|exact aD HB0.out _|exact aD (aD HB0.out _) _⟩
  ·have HV:Hid (res=1):=HD.out.trans (if_neg hl);go_enter func121,ntmps121;go_wp2;go_ret;exact⟨by rw[HV.out];rfl,by first|exact HB0.out|exact aD HB0.out _|exact aD (aD HB0.out _) _⟩
end
section
open Go Go.RowKit Num
theorem Rw(xs:List aF)(a:Option Addr)(c:Nat)(key:List UInt8)(w:World)(hn:xs.length<=1000000)(hr:fS w a xs):
  Calls prog 120 #[.slice a xs.length c,.string ⟨key.toArray⟩] w fun e w'=>e=.returned (qN (xs.map aF.f) key)/\Below w.heap.size w w':=by
 obtain⟨res,hres⟩:∃res,res=qN (xs.map aF.f) key:=⟨_,rfl⟩
 rw[<-hres];have HRES:=Hd hres;have HR:=Hd hr;clear hres hr;go_enter func120,ntmps120;go_wp2_with fail;go_loopw [6] (fun iv wr=>∃k:Nat,k<=xs.length/\iv=.int .i64 k/\Hid (∀j g,j<k->(xs.map aF.f)[j]?=some g->(g.key==key)=false)/\Hid (Below w.heap.size w wr)) (fun iv _=>xs.length-(intOf iv).toNat)
 case atStart=>exact⟨0,Nat.zero_le _,rfl,fun j g h=>absurd h (Nat.not_lt_zero j),Br _ _⟩
 case round =>
  obtain⟨k,hk,rfl,HS,HB⟩:=hrel
  by_cases hlt:k<xs.length
  ·obtain⟨x,hx⟩:∃x,xs[k]?=some x:=⟨xs[k],Lg hlt⟩
   have hfk:(xs.map aF.f)[k]?=some x.f:=by rw[List.getElem?_map,hx];rfl
   obtain⟨b,off,rfl,hbl,hc⟩:=HR.out.1.addr (k:=k) (cs:=x.cells) (by rw[List.getElem?_map,hx];rfl);have c0:=(HB.out.cell (p:=⟨b,off+k*21,none⟩) hbl).trans (hc 0 _ (show x.arr.toList[0]?=some (.string ⟨x.f.key.toArray⟩) from rfl));cases he:(x.f.key==key) with
   |true =>
    have HV:Hid (res=.tuple #[.int .i64 (k:Int),.bool true]):=by show _=_;rw[HRES.out];unfold qN;rw[Ab HS.out hfk he]
    clear HS hfk hx hc;generalize x.f.key=kk at *;go_wp2;go_ret2;exact⟨by rw[HV.out];rfl,HB.out⟩
   |false =>
    have HS2:Hid (∀j g,j<k+1->(xs.map aF.f)[j]?=some g->(g.key==key)=false):=fun j g hj hg=>by
     by_cases e:j=k
     ·subst e;rw[hfk] at hg;injection hg with hg;subst hg;exact he
     ·exact HS.out j g (by omega) hg
    clear HS hfk hx hc;generalize x.f.key=kk at *;go_wp2;go_roundw
    case rel=>exact⟨k+1,by omega,by go_num,HS2,HB⟩
    case measure=>simp[intOf];omega
  ·obtain rfl:k=xs.length:=by omega
   have HV:Hid (res=.tuple #[.int .i64 0,.bool false]):=by show _=_;rw[HRES.out];unfold qN;rw[Aa (fun j g hj=>HS.out j g (by simpa using hj))]
   clear HS;go_wp2;go_ret2;exact⟨by rw[HV.out];rfl,HB.out⟩
end
section
open Go Go.RowKit Num
noncomputable def Tj:Array Oper:=(f70.body.bind (jE 13)).getD #[]
def Nx:List (Nat×Nat):=[(0,36),(1,37),(2,38),(3,39),(4,40),(5,41),(6,42),(7,43),(8,44),(9,35),(10,45),(11,46),(12,5),(13,6)]
structure Mm where
 W0:World
 b:Nat
 off:Nat
 n:Nat
 c:Nat
 k:Nat
 key:List UInt8
 idx:Int
 bl:Bool
def Mm.val(C:Mm)(_:Unit):Nat->Value
 |0=>.slice (some ⟨C.b,C.off,none⟩) C.n C.c
 |1=>.int .i64 (C.k:Int)
 |2=>.slice (some ⟨C.b,C.off,none⟩) C.k C.c
 |3=>.slice (some ⟨C.b,C.off,none⟩) C.n C.c
 |4=>.int .i64 (C.k:Int)
 |5=>.pointer (some ⟨C.b,C.off+C.k*21,none⟩)
 |6=>.pointer (some ⟨C.b,C.off+C.k*21,none⟩)
 |7=>.string ⟨C.key.toArray⟩
 |8=>.tuple #[.int .i64 C.idx,.bool C.bl]
 |9=>.tuple #[.int .i64 C.idx,.bool C.bl]
 |10=>.int .i64 C.idx
 |11=>.bool C.bl
 |12=>.int .i64 C.idx
 |_=>.bool C.bl
def Mm.gg(C:Mm)(_:Unit)(_:Array Bool)(W:World):Prop:=Below C.W0.heap.size C.W0 W
structure aE7(C:Mm)(t0:Array Value):Prop where
 sz:t0.size=63
 t0':t0[0]?=some (.slice (some ⟨C.b,C.off,none⟩) C.n C.c)
 t3:t0[3]?=some (.int .i64 (C.k:Int))
 lt:C.k<C.n
 small:C.n<=1000000
 cap:C.n<=C.c
 hb:C.b<C.W0.heap.size
 ck:C.W0.cell? ⟨C.b,C.off+C.k*21,none⟩=some (.string ⟨C.key.toArray⟩)
 find:∀W,Below C.W0.heap.size C.W0 W->Calls prog 120 #[.slice (some ⟨C.b,C.off,none⟩) C.k C.c,.string ⟨C.key.toArray⟩] W fun e w'=>e=.returned (.tuple #[.int .i64 C.idx,.bool C.bl])/\Below W.heap.size W w'
section
variable {C:Mm}{t0:Array Value}{Q:Exit->Act->World->Prop}
theorem Kd(M:aE7 C t0){a:Act}{w:World}(hdf:a.defers=[])(ht:a.tmps=t0)(hw:w.drewN 1=C.W0)
  (hQ:∀W,Below C.W0.heap.size C.W0 W->Q .normal { tmps:=iZ (C.val ()) Nx t0,defers:=[] } W):(Code.region 13 Tj true).wp prog Q a w:=by
 have hsz:Tj.size=14:=by kernel_rfl
 refine eV (ds:=Nx) (val:=C.val) (G:=C.gg) (by kernel_rfl) (by kernel_rfl) (by decide) (fun p hp=>?_) (by kernel_rfl) ?_ (γ:=()) hdf ht (by rw[hw];exact Br _ _) (fun _ _ W _ hg=>hQ W hg)
 ·rw[M.sz];have:∀p,p∈Nx->p.2<63:=by decide
  exact this p hp
 ·intro γ l a w i H hr;cases γ;have hi:i<14:=by
   obtain⟨_,o,ho,_⟩:=mem_ready.1 hr;have:=(Ai.1 ho).1;rw[hsz] at this;exact this
  have t0':=H.low (s:=0) (by decide) M.t0';have t3:=H.low (s:=3) (by decide) M.t3;have hb:Below C.W0.heap.size C.W0 w:=H.g
  match i,hi,hr with
  |0,_,hr =>
   exact aWj (.move (.tmp 0)) (.slice (some ⟨C.b,C.off,none⟩) C.n C.c) (fun o h=>by simp[execOp,h,t0',go_sem]) hb
  |1,_,hr =>
   exact aWj (.move (.tmp 3)) (.int .i64 (C.k:Int)) (fun o h=>by simp[execOp,h,t3,go_sem]) hb
  |2,_,hr =>
   have v0:a.tmps[36]?=some (.slice (some ⟨C.b,C.off,none⟩) C.n C.c):=H.dep hr 0 36;have v1:a.tmps[37]?=some (.int .i64 (C.k:Int)):=H.dep hr 1 37;have hlt:=M.lt;have hcc:=M.cap;have hle:C.k<=C.c:=by omega
   exact aWj (.slice 22 (.tmp 36) none (some (.tmp 37)) none) (.slice (some ⟨C.b,C.off,none⟩) C.k C.c) (fun o h=>by simp[execOp,h,v0,v1,hle,go_sem]) hb
  |3,_,hr =>
   exact aWj (.move (.tmp 0)) (.slice (some ⟨C.b,C.off,none⟩) C.n C.c) (fun o h=>by simp[execOp,h,t0',go_sem]) hb
  |4,_,hr =>
   exact aWj (.move (.tmp 3)) (.int .i64 (C.k:Int)) (fun o h=>by simp[execOp,h,t3,go_sem]) hb
  |5,_,hr =>
   have v3:a.tmps[39]?=some (.slice (some ⟨C.b,C.off,none⟩) C.n C.c):=H.dep hr 3 39;have v4:a.tmps[40]?=some (.int .i64 (C.k:Int)):=H.dep hr 4 40;have hlt:=M.lt;have hsm:=M.small;exact aWj (.indexAddr 22 (.tmp 39) (.tmp 40)) (.pointer (some ⟨C.b,C.off+C.k*21,none⟩)) (fun o h=>by simp[execOp,h,v3,v4,hlt,go_sem]) hb
  |6,_,hr =>
   have v5:a.tmps[41]?=some (.pointer (some ⟨C.b,C.off+C.k*21,none⟩)):=H.dep hr 5 41;exact aWj (.fieldAddr 59 (.tmp 41) 0) (.pointer (some ⟨C.b,C.off+C.k*21,none⟩)) (fun o h=>by simp[execOp,h,v5,go_sem]) hb
  |7,_,hr =>
   have v6:a.tmps[42]?=some (.pointer (some ⟨C.b,C.off+C.k*21,none⟩)):=H.dep hr 6 42;have hc:=(hb.cell (p:=⟨C.b,C.off+C.k*21,none⟩) M.hb).trans M.ck;exact aWj (.load 9 (.tmp 42)) (.string ⟨C.key.toArray⟩) (fun o h=>by simp[execOp,h,v6,hc,go_sem]) hb
  |8,_,hr =>
   have v2:a.tmps[38]?=some (.slice (some ⟨C.b,C.off,none⟩) C.k C.c):=H.dep hr 2 38;have v7:a.tmps[43]?=some (.string ⟨C.key.toArray⟩):=H.dep hr 7 43;refine gA (f:=120) (lb:=#[]) (c:=.func 120) (args:=#[.tmp 38,.tmp 43]) (ts:=#[22,9]) (vs:=#[.slice (some ⟨C.b,C.off,none⟩) C.k C.c,.string ⟨C.key.toArray⟩]) (by kernel_rfl) rfl (aXb func120) (by simp[Act.eval,v2,v7]) ((M.find w hb).mono ?_);rintro e w' ⟨rfl,hb'⟩;exact⟨_,(),rfl,rfl,fun _ _=>rfl,aA hb hb'⟩
  |9,_,hr =>
   have v8:a.tmps[44]?=some (.tuple #[.int .i64 C.idx,.bool C.bl]):=H.dep hr 8 44;exact aWj (.move (.tmp 44)) (.tuple #[.int .i64 C.idx,.bool C.bl]) (fun o h=>by simp[execOp,h,v8,go_sem]) hb
  |10,_,hr =>
   have v9:a.tmps[35]?=some (.tuple #[.int .i64 C.idx,.bool C.bl]):=H.dep hr 9 35;exact aWj (.extract (.tmp 35) 0) (.int .i64 C.idx) (fun o h=>by simp[execOp,h,v9,go_sem]) hb
  |11,_,hr =>
   have v9:a.tmps[35]?=some (.tuple #[.int .i64 C.idx,.bool C.bl]):=H.dep hr 9 35;exact aWj (.extract (.tmp 35) 1) (.bool C.bl) (fun o h=>by simp[execOp,h,v9,go_sem]) hb
  |12,_,hr =>
   have v10:a.tmps[45]?=some (.int .i64 C.idx):=H.dep hr 10 45;exact aWj (.assign (.tmp 45)) (.int .i64 C.idx) (fun o h=>by simp[execOp,h,v10,go_sem]) hb
  |13,_,hr =>
   have v11:a.tmps[46]?=some (.bool C.bl):=H.dep hr 11 46;exact aWj (.assign (.tmp 46)) (.bool C.bl) (fun o h=>by simp[execOp,h,v11,go_sem]) hb
  |n+14,h,_=>exact absurd h (by omega)
end
noncomputable def Tm:Array Oper:=(f70.body.bind (jE 16)).getD #[]
def Nz:List (Nat×Nat):=[(0,48),(1,49),(2,50),(3,51),(4,52),(5,53),(6,54),(7,55),(8,56),(9,57),(10,58),(11,59),(12,60),(13,61),(14,62)]
structure Fg where
 W0:World
 b:Nat
 off:Nat
 n:Nat
 c:Nat
 k:Nat
 gb:Bool
 pc:Array Value
 fc:Array Value
 r:Int
def Fg.val(C:Fg)(_:Unit):Nat->Value
 |0=>.int .i64 (C.k:Int)
 |1=>.bool C.gb
 |2=>.bool C.gb
 |3=>gv C.gb (.slice (some ⟨C.b,C.off,none⟩) C.n C.c)
 |4=>gv C.gb (.int .i64 (C.k:Int))
 |5=>gv C.gb (.int .i64 ((C.k:Int)-1))
 |6=>gv C.gb (.pointer (some ⟨C.b,C.off+(C.k-1)*21,none⟩))
 |7=>gv C.gb (.agg C.pc)
 |8=>gv C.gb (.slice (some ⟨C.b,C.off,none⟩) C.n C.c)
 |9=>gv C.gb (.int .i64 (C.k:Int))
 |10=>gv C.gb (.pointer (some ⟨C.b,C.off+C.k*21,none⟩))
 |11=>gv C.gb (.agg C.fc)
 |12=>gv C.gb (.int .i64 C.r)
 |13=>gv C.gb (.bool (decide (0<=C.r)))
 |_=>.bool (C.gb&&decide (0<=C.r))
def Fg.gg(C:Fg)(_:Unit)(_:Array Bool)(W:World):Prop:=Below C.W0.heap.size C.W0 W
structure aE9(C:Fg)(t0:Array Value):Prop where
 sz:t0.size=63
 t0':t0[0]?=some (.slice (some ⟨C.b,C.off,none⟩) C.n C.c)
 t3:t0[3]?=some (.int .i64 (C.k:Int))
 gb:C.gb=decide (0<C.k)
 lt:C.k<C.n
 small:C.n<=1000000
 hb:C.b<C.W0.heap.size
 pcs:(prog.info? 59).map (·.size)=some C.pc.size
 pc:C.gb=true->∀j v,C.pc.toList[j]?=some v->C.W0.cell? ⟨C.b,C.off+(C.k-1)*21+j,none⟩=some v
 fcs:(prog.info? 59).map (·.size)=some C.fc.size
 fc:∀j v,C.fc.toList[j]?=some v->C.W0.cell? ⟨C.b,C.off+C.k*21+j,none⟩=some v
 cmp:∀W,Calls prog 121 #[.agg C.pc,.agg C.fc] W fun e w'=>e=.returned (.int .i64 C.r)/\Below W.heap.size W w'
section
variable {C:Fg}{t0:Array Value}{Q:Exit->Act->World->Prop}
theorem Kj(M:aE9 C t0){a:Act}{w:World}(hdf:a.defers=[])(ht:a.tmps=t0)(hw:w.drewN 1=C.W0)
  (hQ:∀W,Below C.W0.heap.size C.W0 W->Q .normal { tmps:=iZ (C.val ()) Nz t0,defers:=[] } W):(Code.region 16 Tm true).wp prog Q a w:=by
 have hsz:Tm.size=15:=by kernel_rfl
 refine eV (ds:=Nz) (val:=C.val) (G:=C.gg) (by kernel_rfl) (by kernel_rfl) (by decide) (fun p hp=>?_) (by kernel_rfl) ?_ (γ:=()) hdf ht (by rw[hw];exact Br _ _) (fun _ _ W _ hg=>hQ W hg)
 ·rw[M.sz];have:∀p,p∈Nz->p.2<63:=by decide
  exact this p hp
 ·intro γ l a w i H hr;cases γ;have hi:i<15:=by
   obtain⟨_,o,ho,_⟩:=mem_ready.1 hr;have:=(Ai.1 ho).1;rw[hsz] at this;exact this
  have t0':=H.low (s:=0) (by decide) M.t0';have t3:=H.low (s:=3) (by decide) M.t3;have hb:Below C.W0.heap.size C.W0 w:=H.g
  match i,hi,hr with
  |0,_,hr =>
   exact aWj (.move (.tmp 3)) (.int .i64 (C.k:Int)) (fun o h=>by simp[execOp,h,t3,go_sem]) hb
  |1,_,hr =>
   have v0:a.tmps[48]?=some (.int .i64 (C.k:Int)):=H.dep hr 0 48;exact aWj (.binOp .gtr 3 (.tmp 48) (.const (.int .i64 0)) 3) (.bool C.gb) (fun o h=>by rw[M.gb];simp[execOp,h,v0,go_sem]) hb
  |2,_,hr =>
   have v1:a.tmps[49]?=some (.bool C.gb):=H.dep hr 1 49;exact aWj (.move (.tmp 49)) (.bool C.gb) (fun o h=>by simp[execOp,h,v1,go_sem]) hb
  |3,_,hr =>
   have hv:a.tmps[50]?=some (.bool C.gb):=H.dep hr 2 50;exact dH (X:=.move (.tmp 0)) (v:=.slice (some ⟨C.b,C.off,none⟩) C.n C.c) (gb:=C.gb) (by kernel_rfl) (by kernel_rfl) (j:=2) (s:=50) (by kernel_rfl) hv rfl (fun hgb o h=>by simp[execOp,h,t0',go_sem]) hb
  |4,_,hr =>
   have hv:a.tmps[50]?=some (.bool C.gb):=H.dep hr 2 50;exact dH (X:=.move (.tmp 3)) (v:=.int .i64 (C.k:Int)) (gb:=C.gb) (by kernel_rfl) (by kernel_rfl) (j:=2) (s:=50) (by kernel_rfl) hv rfl (fun hgb o h=>by simp[execOp,h,t3,go_sem]) hb
  |5,_,hr =>
   have hv:a.tmps[50]?=some (.bool C.gb):=H.dep hr 2 50;have v4:a.tmps[52]?=some (gv C.gb (.int .i64 (C.k:Int))):=H.dep hr 4 52;have hp:C.gb=true->0<C.k:=fun h=>by have:=M.gb;rw[h] at this;simpa using this.symm
   have hlt:=M.lt;have hsm:=M.small;exact dH (X:=.binOp .sub 3 (.tmp 52) (.const (.int .i64 1)) 3) (v:=.int .i64 ((C.k:Int)-1)) (gb:=C.gb) (by kernel_rfl) (by kernel_rfl) (j:=2) (s:=50) (by kernel_rfl) hv rfl (fun hgb o h=>by unfold gv at v4;rw[hgb,if_pos rfl] at v4;simp[execOp,h,v4,go_sem];rw[IntKind.wrap_i64];omega) hb
  |6,_,hr =>
   have hv:a.tmps[50]?=some (.bool C.gb):=H.dep hr 2 50;have v3:a.tmps[51]?=some (gv C.gb (.slice (some ⟨C.b,C.off,none⟩) C.n C.c)):=H.dep hr 3 51;have v5:a.tmps[53]?=some (gv C.gb (.int .i64 ((C.k:Int)-1))):=H.dep hr 5 53;have hp:C.gb=true->0<C.k:=fun h=>by have:=M.gb;rw[h] at this;simpa using this.symm
   have hlt:=M.lt;have hsm:=M.small;exact dH (X:=.indexAddr 22 (.tmp 51) (.tmp 53)) (v:=.pointer (some ⟨C.b,C.off+(C.k-1)*21,none⟩)) (gb:=C.gb) (by kernel_rfl) (by kernel_rfl) (j:=2) (s:=50) (by kernel_rfl) hv rfl (fun hgb o h=>by unfold gv at v3 v5;rw[hgb,if_pos rfl] at v3 v5;have hp:=hp hgb;have e:((C.k:Int)-1)=((C.k-1:Nat):Int):=(by omega);rw[e] at v5;have hl2:C.k-1<C.n:=(by omega);simp[execOp,h,v3,v5,go_sem,hl2]) hb
  |7,_,hr =>
   have hv:a.tmps[50]?=some (.bool C.gb):=H.dep hr 2 50;have v6:a.tmps[54]?=some (gv C.gb (.pointer (some ⟨C.b,C.off+(C.k-1)*21,none⟩))):=H.dep hr 6 54;exact dH (X:=.load 59 (.tmp 54)) (v:=.agg C.pc) (gb:=C.gb) (by kernel_rfl) (by kernel_rfl) (j:=2) (s:=50) (by kernel_rfl) hv rfl (fun hgb o h=>by unfold gv at v6;rw[hgb,if_pos rfl] at v6;exact aW h (oC v6) (fun j v hj=>(hb.cell (p:=⟨C.b,C.off+(C.k-1)*21+j,none⟩) M.hb).trans (M.pc hgb j v hj)) underlying59 rfl M.pcs) hb
  |8,_,hr =>
   have hv:a.tmps[50]?=some (.bool C.gb):=H.dep hr 2 50;exact dH (X:=.move (.tmp 0)) (v:=.slice (some ⟨C.b,C.off,none⟩) C.n C.c) (gb:=C.gb) (by kernel_rfl) (by kernel_rfl) (j:=2) (s:=50) (by kernel_rfl) hv rfl (fun hgb o h=>by simp[execOp,h,t0',go_sem]) hb
  |9,_,hr =>
   have hv:a.tmps[50]?=some (.bool C.gb):=H.dep hr 2 50;exact dH (X:=.move (.tmp 3)) (v:=.int .i64 (C.k:Int)) (gb:=C.gb) (by kernel_rfl) (by kernel_rfl) (j:=2) (s:=50) (by kernel_rfl) hv rfl (fun hgb o h=>by simp[execOp,h,t3,go_sem]) hb
  |10,_,hr =>
   have hv:a.tmps[50]?=some (.bool C.gb):=H.dep hr 2 50;have v8:a.tmps[56]?=some (gv C.gb (.slice (some ⟨C.b,C.off,none⟩) C.n C.c)):=H.dep hr 8 56;have v9:a.tmps[57]?=some (gv C.gb (.int .i64 (C.k:Int))):=H.dep hr 9 57;have hlt:=M.lt;have hsm:=M.small;exact dH (X:=.indexAddr 22 (.tmp 56) (.tmp 57)) (v:=.pointer (some ⟨C.b,C.off+C.k*21,none⟩)) (gb:=C.gb) (by kernel_rfl) (by kernel_rfl) (j:=2) (s:=50) (by kernel_rfl) hv rfl (fun hgb o h=>by unfold gv at v8 v9;rw[hgb,if_pos rfl] at v8 v9;simp[execOp,h,v8,v9,hlt,go_sem]) hb
  |11,_,hr =>
   have hv:a.tmps[50]?=some (.bool C.gb):=H.dep hr 2 50;have v10:a.tmps[58]?=some (gv C.gb (.pointer (some ⟨C.b,C.off+C.k*21,none⟩))):=H.dep hr 10 58;exact dH (X:=.load 59 (.tmp 58)) (v:=.agg C.fc) (gb:=C.gb) (by kernel_rfl) (by kernel_rfl) (j:=2) (s:=50) (by kernel_rfl) hv rfl (fun hgb o h=>by unfold gv at v10;rw[hgb,if_pos rfl] at v10;exact aW h (oC v10) (fun j v hj=>(hb.cell (p:=⟨C.b,C.off+C.k*21+j,none⟩) M.hb).trans (M.fc j v hj)) underlying59 rfl M.fcs) hb
  |12,_,hr =>
   have hv:a.tmps[50]?=some (.bool C.gb):=H.dep hr 2 50;have v7:a.tmps[55]?=some (gv C.gb (.agg C.pc)):=H.dep hr 7 55;have v11:a.tmps[59]?=some (gv C.gb (.agg C.fc)):=H.dep hr 11 59;refine qL (f:=121) (lb:=#[]) (c:=.func 121) (args:=#[.tmp 55,.tmp 59]) (ts:=#[59,59]) (vs:=#[.agg C.pc,.agg C.fc]) (gb:=C.gb) (by kernel_rfl) (by kernel_rfl) (j:=2) (s:=50) (by kernel_rfl) hv rfl (aXb func121) (fun h=>by simp[Fg.val,gv,h]) (fun _=>hb) (fun hgb=>by unfold gv at v7 v11;rw[hgb,if_pos rfl] at v7 v11;simp[Act.eval,v7,v11]) (fun hgb=>(M.cmp w).mono ?_);rintro e w' ⟨rfl,hb'⟩;exact⟨_,(),rfl,by simp[Fg.val,gv,hgb],fun _ _=>rfl,aA hb hb'⟩
  |13,_,hr =>
   have hv:a.tmps[50]?=some (.bool C.gb):=H.dep hr 2 50;have v12:a.tmps[60]?=some (gv C.gb (.int .i64 C.r)):=H.dep hr 12 60;exact dH (X:=.binOp .geq 3 (.tmp 60) (.const (.int .i64 0)) 3) (v:=.bool (decide (0<=C.r))) (gb:=C.gb) (by kernel_rfl) (by kernel_rfl) (j:=2) (s:=50) (by kernel_rfl) hv rfl (fun hgb o h=>by unfold gv at v12;rw[hgb,if_pos rfl] at v12;simp[execOp,h,v12,go_sem]) hb
  |14,_,hr =>
   have v2:a.tmps[50]?=some (.bool C.gb):=H.dep hr 2 50;have v13:a.tmps[61]?=some (gv C.gb (.bool (decide (0<=C.r)))):=H.dep hr 13 61;exact aWj (.pick (.tmp 50) (.tmp 61) (.const (.bool false))) (.bool (C.gb&&decide (0<=C.r))) (fun o h=>by cases hgb:C.gb with|true=>(unfold gv at v13;rw[hgb,if_pos rfl] at v13;rw[hgb] at v2;simp[execOp,h,v2,v13,go_sem])|false=>(rw[hgb] at v2;simp[execOp,h,v2,go_sem])) hb
  |n+15,h,_=>exact absurd h (by omega)
end
end
section
open Go Go.RowKit Num
theorem Lo{fs:List aE}{k:Nat}{key:List UInt8}:∃idx:Int,qN (fs.take k) key=.tuple #[.int .i64 idx,.bool (((fs.take k).map (·.key)).contains key)]:=by
 unfold qN;cases h:lT (fs.take k) key with
 |none =>
  refine⟨0,?_⟩;unfold lT at h;rw[List.findIdx?_eq_none_iff] at h;have:((fs.take k).map (·.key)).contains key=false:=by
   rw[<-Bool.not_eq_true];intro hc;rw[List.contains_iff_mem] at hc;obtain⟨f,hf,e⟩:=List.mem_map.1 hc;have:=h f hf;simp[e] at this
  rw[this]
 |some i =>
  refine⟨i,?_⟩;unfold lT at h;rw[List.findIdx?_eq_some_iff_getElem] at h;obtain⟨hl,he,_⟩:=h;have:((fs.take k).map (·.key)).contains key=true:=by
   rw[List.contains_iff_mem];exact List.mem_map.2 ⟨_,List.getElem_mem hl,by simpa using he⟩
  rw[this]
theorem Fp(xs:List aF)(a:Option Addr)(c:Nat)(w:World)(hn:xs.length<=1000000)(hcap:xs.length<=c)(hr:fS w a xs)(hok:∀x,x∈xs->x.f.tight):
  Calls prog 70 #[.slice a xs.length c] w fun e w'=>e=.returned (.int .i64 (dF (xs.map aF.f)))/\Below w.heap.size w w':=by
 obtain⟨res,hres⟩:∃res,res=dF (xs.map aF.f):=⟨_,rfl⟩
 rw[<-hres];unfold dF at hres;rw[List.length_map] at hres;have HR:=Hd hr;have HOK:=Hd hok
 by_cases hbig:1000<xs.length
 ·rw[if_pos hbig] at hres;have HV:=Hd hres;clear hres hr hok;generalize xs.length=n at *;go_enter func70,ntmps70;go_wp2;go_ret;exact⟨by rw[HV.out];rfl,Br _ _⟩
 ·rw[if_neg hbig] at hres;have HV:Hid (res=yL (((xs.map aF.f).take 0).map (·.key)) (vX (xs.map aF.f) 0) ((xs.map aF.f).drop 0)):=hres;clear hres hr hok;go_enter func70,ntmps70;go_wp2_with fail;go_loopw [3] (fun iv wr=>∃k:Nat,k<=xs.length/\iv=.int .i64 k/\Hid (res=yL (((xs.map aF.f).take k).map (·.key)) (vX (xs.map aF.f) k) ((xs.map aF.f).drop k))/\Hid (Below w.heap.size w wr)) (fun iv _=>xs.length-(intOf iv).toNat)
  case atStart=>exact⟨0,Nat.zero_le _,rfl,HV,Br _ _⟩
  case round =>
   clear HV;obtain⟨k,hk,rfl,HS,HB⟩:=hrel
   by_cases hlt:k<xs.length
   ·obtain⟨x,hx⟩:∃x,xs[k]?=some x:=⟨xs[k],Lg hlt⟩
    obtain⟨b,off,rfl,hbl,hc⟩:=HR.out.1.addr (k:=k) (cs:=x.cells) (by rw[List.getElem?_map,hx];rfl);have hxm:=List.mem_of_getElem? hx;have HX:=Hd (And.intro (HOK.out x hxm) (HR.out.2 x hxm));have hfk:(xs.map aF.f)[k]?=some x.f:=by rw[List.getElem?_map,hx];rfl
    have HS2:=Hd (HS.out.trans (Sg hfk));obtain⟨pv,hpv⟩:∃pv:aF,0<k->xs[k-1]?=some pv:=by
     cases k with
     |zero=>exact⟨x,fun h=>absurd h (by decide)⟩
     |succ m=>exact⟨xs[m],fun _=>Lg (by omega)⟩
    have HBAD:Hid ((if k=0 then none else(xs.map aF.f)[k-1]?).any (fun p=>decide (0<=iL p x.f))=(decide (0<k)&&decide (0<=iL pv.f x.f))):=by
     show _=_
     by_cases h0:k=0
     ·subst h0;rfl
     ·have:=hpv (by omega);rw[if_neg h0,List.getElem?_map,this];simp[show 0<k by omega]
    have HPC:Hid (decide (0<k)=true->∀j v,pv.arr.toList[j]?=some v->w.cell? ⟨b,off+(k-1)*21+j,none⟩=some v):=fun h j v hv=>by
     obtain⟨b',off',ea,_,hc'⟩:=HR.out.1.addr (k:=k-1) (cs:=pv.cells) (by rw[List.getElem?_map,hpv (by simpa using h)];rfl);injection ea with ea
     injection ea with e1 e2
     subst e1 e2;exact hc' j v hv
    have HPS:Hid ((prog.info? 59).map (·.size)=some pv.arr.size):=aY pv.f pv.pa pv.oa pv.pc pv.oc;have HCMP:Hid (∀W,Calls prog 121 #[.agg pv.arr,.agg x.arr] W fun e w'=>e=.returned (.int .i64 (iL pv.f x.f))/\Below W.heap.size W w'):=fun W=>Fm pv.f x.f pv.pa pv.oa x.pa x.oa pv.pc pv.oc x.pc x.oc W
    have HCW:Hid (∀j v,x.arr.toList[j]?=some v->w.cell? ⟨b,off+k*21+j,none⟩=some v):=hc;have HC:Hid (∀j v,x.arr.toList[j]?=some v->wr.cell? ⟨b,off+k*21+j,none⟩=some v):=fun j v hv=>(HB.out.cell (p:=⟨b,off+k*21+j,none⟩) hbl).trans (hc j v hv)
    have HSZ:Hid ((prog.info? 59).map (·.size)=some x.arr.size):=aY x.f x.pa x.oa x.pc x.oc;have HCK:Hid (Calls prog 119 #[.agg x.arr] wr fun e w'=>e=.returned (.int .i64 (bY x.f))/\Below wr.heap.size wr w'):=uI x.f x.pa x.oa x.pc x.oc wr HX.out.1 (HX.out.2.below HB.out);obtain⟨idx,hidx⟩:=Lo (fs:=xs.map aF.f) (k:=k) (key:=x.f.key);have HFI:Hid (∀W,Below w.heap.size w W->Calls prog 120 #[.slice (some ⟨b,off,none⟩) k c,.string ⟨x.f.key.toArray⟩] W fun e w'=>e=.returned (.tuple #[.int .i64 idx,.bool ((((xs.map aF.f).take k).map (·.key)).contains x.f.key)])/\Below W.heap.size W w'):=fun W hbw=>by
     have hf:=HR.out.below hbw;have:=Rw (xs.take k) (some ⟨b,off,none⟩) c x.f.key W (by rw[List.length_take];omega) ⟨by rw[List.map_take];exact hf.1.take k,fun y hy=>hf.2 y (List.mem_of_mem_take hy)⟩;rw[List.length_take,Nat.min_eq_left (by omega),List.map_take,hidx] at this;exact this
    have c0:=hc 0 _ (show x.arr.toList[0]?=some (.string ⟨x.f.key.toArray⟩) from rfl);have c1:=hc 1 _ (show x.arr.toList[1]?=some (.int .i64 x.f.stamp) from rfl);have c2:=hc 2 _ (show x.arr.toList[2]?=some (.bool x.f.cancelled) from rfl);clear HS hc hpv hfk hxm hidx;have HEQ:Hid (yL (((xs.map aF.f).take (k+1)).map (·.key)) (if k+1=0 then none else(xs.map aF.f)[k+1-1]?) ((xs.map aF.f).drop (k+1))=yL (((xs.map aF.f).take (k+1)).map (·.key)) (vX (xs.map aF.f) (k+1)) ((xs.map aF.f).drop (k+1))):=rfl;generalize yL (((xs.map aF.f).take (k+1)).map (·.key)) (if k+1=0 then none else(xs.map aF.f)[k+1-1]?) ((xs.map aF.f).drop (k+1))=nxt at *;generalize(((xs.map aF.f).take k).map (·.key)).contains x.f.key=seen at *;generalize x.arr=fc at *;generalize pv.arr=pc at *;generalize iL pv.f x.f=r at *;go_wp2_with (refine aM rfl 59 _ rfl b (off+k*21) rfl fc _ HC.out underlying59 rfl HSZ.out ?_);refine HCK.out.mono ?_;rintro e w2 ⟨rfl,hb2⟩;have HB2:=Hd (aA HB.out hb2);have HC0:=Hd ((HB2.out.cell (p:=⟨b,off+k*21,none⟩) hbl).trans c0);have c1:=(HB2.out.cell (p:=⟨b,off+k*21+1,none⟩) hbl).trans c1;have c2:=(HB2.out.cell (p:=⟨b,off+k*21+2,none⟩) hbl).trans c2;clear hb2 HC HCK c0;generalize bY x.f=fe at *
    by_cases he:fe=0
    ·subst he;have HS3:=Hd (HS2.out.trans (if_neg (by simp)));clear HS2;cases hca:x.f.cancelled with
     |true =>
      rw[hca] at c2;have HV2:Hid (res=19):=by show _=_;rw[HS3.out,if_pos hca]
      clear HS3;go_wp2_with fail;go_ret;exact⟨by rw[HV2.out];rfl,HB2.out⟩
     |false =>
      rw[hca] at c2;have HS4:=Hd (HS3.out.trans (if_neg (by rw[hca];decide)));clear HS3 hca
      by_cases hst:x.f.stamp=0
      ·rw[hst] at c1;have HS5:=Hd (HS4.out.trans (if_neg (by simpa using hst)));clear HS4 hst;go_wp2_with fail;refine Kd (C:=⟨w2.drewN 1,b,off,xs.length,c,k,x.f.key,idx,seen⟩) ⟨rfl,rfl,rfl,hlt,hn,hcap,Nat.lt_of_lt_of_le hbl HB2.out.size,HC0.out,fun W hb=>HFI.out W (HB2.out.trans (((aD (Br _ w2) 1).trans hb).mono HB2.out.size))⟩ rfl rfl rfl ?_;intro w3 hb3;have hb3:=(aD (Br w2.heap.size w2) 1).trans hb3;have HB3:=Hd (aA HB2.out hb3);clear hb3 c1 c2 HFI HC0;simp only[iZ,Nx,List.foldl,List.setIfInBounds_toArray,List.set_cons_zero,List.set_cons_succ,Mm.val];cases seen with
       |true =>
        have HV2:Hid (res=5):=by show _=_;rw[HS5.out,if_pos rfl]
        clear HS5;go_wp2_with fail;go_ret;exact⟨by rw[HV2.out];rfl,HB3.out⟩
       |false =>
        have HS6:=Hd (HS5.out.trans (if_neg (by decide)));have HS7:Hid (res=if(decide (0<k)&&decide (0<=r))=true then 8 else nxt):=by show _=_;rw[HS6.out,HBAD.out]
        clear HS5 HS6;go_wp2_with fail;refine Kj (C:=⟨w3.drewN 1,b,off,xs.length,c,k,decide (0<k),pc,fc,r⟩) ⟨rfl,rfl,rfl,rfl,hlt,hn,Nat.lt_of_lt_of_le hbl HB3.out.size,HPS.out,fun h j v hj=>(HB3.out.cell (p:=⟨b,off+(k-1)*21+j,none⟩) hbl).trans (HPC.out h j v hj),HSZ.out,fun j v hj=>(HB3.out.cell (p:=⟨b,off+k*21+j,none⟩) hbl).trans (HCW.out j v hj),HCMP.out⟩ rfl rfl rfl ?_;intro w4 hb4;have hb4:=(aD (Br w3.heap.size w3) 1).trans hb4;have HB4:=Hd (aA HB3.out hb4);clear hb4 HPS HPC HCMP HSZ HBAD HCW HB3;simp only[iZ,Nz,List.foldl,List.setIfInBounds_toArray,List.set_cons_zero,List.set_cons_succ,Fg.val];generalize(decide (0<k)&&decide (0<=r))=bad at *;generalize decide (0<k)=gk at *;cases bad with
        |true =>
         have HV2:Hid (res=8):=HS7.out;go_wp2_with fail;go_ret;exact⟨by rw[HV2.out];rfl,HB4.out⟩
        |false =>
         have HV2:Hid (res=yL (((xs.map aF.f).take (k+1)).map (·.key)) (vX (xs.map aF.f) (k+1)) ((xs.map aF.f).drop (k+1))):=HS7.out.trans HEQ.out;clear HS7 HEQ;go_wp2_with fail;go_roundw
         case rel=>exact⟨k+1,by omega,by go_num,HV2,HB4⟩
         case measure=>simp[intOf];omega
      ·have HV2:Hid (res=1):=by show _=_;rw[HS4.out,if_pos hst]
       generalize x.f.stamp=st at *;have hst':(st==0)=false:=by simpa using hst
       clear HS4;go_wp2_with fail;go_ret;exact⟨by rw[HV2.out];rfl,HB2.out⟩
    ·have HV2:Hid (res=fe):=by show _=_;rw[HS2.out,if_pos he]
     have he':(fe==0)=false:=by simpa using he
     clear HS2;go_wp2_with fail;go_ret;exact⟨by rw[HV2.out];rfl,HB2.out⟩
   ·obtain rfl:k=xs.length:=by omega
    have HV2:Hid (res=0):=by show _=_;rw[HS.out,List.drop_eq_nil_of_le (by simp)];rfl
    clear HS;go_wp2_with fail;go_ret;exact⟨by rw[HV2.out];rfl,HB.out⟩
end
end Go.Proofs.YtejkibnaidiklaaGreatDoor
