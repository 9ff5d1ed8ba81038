/- FactOrderLaw -/
import Derived.Test.YthjekgfoidmagaaGreatDoorULaw13
import Derived.Test.YthjekgfoidmagaaGreatDoorUInst
set_option maxHeartbeats 16000000
set_option maxRecDepth 100000
namespace Go.Proofs.YthjekgfoidmagaaGreatDoor
open Go.Proofs.Tryz
open Go Go.RowKit Num
noncomputable def bOi:Array Oper:=(Tryz.f5.body.bind (jE 3)).getD #[]
def bOj:List (Nat×Nat):=[(0,20),(1,21),(2,22),(3,23),(4,24),(5,25),(6,26),(7,27),(8,28),(9,7),(10,8),(11,9)]
structure bN7 where
 W0:World
 b3:Nat
 b4:Nat
 b5:Nat
 xc:Array Value
 yc:Array Value
 zc:Array Value
 n1:Int
 n2:Int
 n3:Int
def bN7.val(C:bN7)(_:Unit):Nat->Value
 |0=>.agg C.xc
 |1=>.agg C.yc
 |2=>.int .i64 C.n1
 |3=>.agg C.yc
 |4=>.agg C.zc
 |5=>.int .i64 C.n2
 |6=>.agg C.xc
 |7=>.agg C.zc
 |8=>.int .i64 C.n3
 |9=>.int .i64 C.n1
 |10=>.int .i64 C.n2
 |_=>.int .i64 C.n3
def bN7.gg(C:bN7)(_:Unit)(_:Array Bool)(W:World):Prop:=Below C.W0.heap.size C.W0 W
structure bQp(C:bN7)(t0:Array Value):Prop where
 sz:t0.size=128
 t3:t0[3]?=some (.pointer (some ⟨C.b3,0,none⟩))
 t4:t0[4]?=some (.pointer (some ⟨C.b4,0,none⟩))
 t5:t0[5]?=some (.pointer (some ⟨C.b5,0,none⟩))
 k3:aP C.W0 C.b3 C.xc 29
 k4:aP C.W0 C.b4 C.yc 29
 k5:aP C.W0 C.b5 C.zc 29
 sx:(prog.info? 29).map (·.size)=some C.xc.size
 sy:(prog.info? 29).map (·.size)=some C.yc.size
 sz5:(prog.info? 29).map (·.size)=some C.zc.size
 h1:∀W,Calls prog 14 #[.agg C.xc,.agg C.yc] W fun e w'=>e=.returned (.int .i64 C.n1)/\Below W.heap.size W w'
 h2:∀W,Calls prog 14 #[.agg C.yc,.agg C.zc] W fun e w'=>e=.returned (.int .i64 C.n2)/\Below W.heap.size W w'
 h3:∀W,Calls prog 14 #[.agg C.xc,.agg C.zc] W fun e w'=>e=.returned (.int .i64 C.n3)/\Below W.heap.size W w'
section
variable {C:bN7}{t0:Array Value}{Q:Exit->Act->World->Prop}
theorem bPz(M:bQp C t0){a:Act}{w:World}(hdf:a.defers=[])(ht:a.tmps=t0)(hw:w.drewN 1=C.W0)
  (hQ:∀W,Below C.W0.heap.size C.W0 W->Q .normal { tmps:=iZ (C.val ()) bOj t0,defers:=[] } W):(Code.region 3 bOi true).wp prog Q a w:=by
 have hsz:bOi.size=12:=by kernel_rfl
 refine eV (ds:=bOj) (val:=C.val) (G:=C.gg) (by kernel_rfl) (by kernel_rfl) (by decide) (fun p hp=>?_) (by kernel_rfl) ?_ (γ:=()) hdf ht (by rw[hw];exact Br _ _) (fun _ _ W _ hg=>hQ W hg)
 ·rw[M.sz];have:∀p,p∈bOj->p.2<128:=by decide
  exact this p hp
 ·intro γ l a w i H hr;cases γ;have hi:i<12:=by
   obtain⟨_,o,ho,_⟩:=mem_ready.1 hr;have:=(Ai.1 ho).1;rw[hsz] at this;exact this
  have t3:=H.low (s:=3) (by decide) M.t3;have t4:=H.low (s:=4) (by decide) M.t4;have t5:=H.low (s:=5) (by decide) M.t5;have hb:Below C.W0.heap.size C.W0 w:=H.g
  match i,hi,hr with
  |0,_,hr =>
   exact aWj (.load 29 (.tmp 3)) (.agg C.xc) (fun o h=>by exact aW h (ev' t3) (bFb (M.k3.below hb)) underlying29 rfl M.sx) hb
  |1,_,hr =>
   exact aWj (.load 29 (.tmp 4)) (.agg C.yc) (fun o h=>by exact aW h (ev' t4) (bFb (M.k4.below hb)) underlying29 rfl M.sy) hb
  |2,_,hr =>
   have v0:a.tmps[20]?=some (.agg C.xc):=H.dep hr 0 20;have v1:a.tmps[21]?=some (.agg C.yc):=H.dep hr 1 21;refine gA (f:=14) (lb:=#[]) (c:=.func 14) (args:=#[.tmp 20,.tmp 21]) (ts:=#[29,29]) (vs:=#[.agg C.xc,.agg C.yc]) (by kernel_rfl) rfl (aXb func14) (by simp[Act.eval,v0,v1]) ((M.h1 w).mono ?_);rintro e w' ⟨rfl,hb'⟩;exact⟨_,(),rfl,rfl,fun _ _=>rfl,aA hb hb'⟩
  |3,_,hr =>
   exact aWj (.load 29 (.tmp 4)) (.agg C.yc) (fun o h=>by exact aW h (ev' t4) (bFb (M.k4.below hb)) underlying29 rfl M.sy) hb
  |4,_,hr =>
   exact aWj (.load 29 (.tmp 5)) (.agg C.zc) (fun o h=>by exact aW h (ev' t5) (bFb (M.k5.below hb)) underlying29 rfl M.sz5) hb
  |5,_,hr =>
   have v3:a.tmps[23]?=some (.agg C.yc):=H.dep hr 3 23;have v4:a.tmps[24]?=some (.agg C.zc):=H.dep hr 4 24;refine gA (f:=14) (lb:=#[]) (c:=.func 14) (args:=#[.tmp 23,.tmp 24]) (ts:=#[29,29]) (vs:=#[.agg C.yc,.agg C.zc]) (by kernel_rfl) rfl (aXb func14) (by simp[Act.eval,v3,v4]) ((M.h2 w).mono ?_);rintro e w' ⟨rfl,hb'⟩;exact⟨_,(),rfl,rfl,fun _ _=>rfl,aA hb hb'⟩
  |6,_,hr =>
   exact aWj (.load 29 (.tmp 3)) (.agg C.xc) (fun o h=>by exact aW h (ev' t3) (bFb (M.k3.below hb)) underlying29 rfl M.sx) hb
  |7,_,hr =>
   exact aWj (.load 29 (.tmp 5)) (.agg C.zc) (fun o h=>by exact aW h (ev' t5) (bFb (M.k5.below hb)) underlying29 rfl M.sz5) hb
  |8,_,hr =>
   have v6:a.tmps[26]?=some (.agg C.xc):=H.dep hr 6 26;have v7:a.tmps[27]?=some (.agg C.zc):=H.dep hr 7 27;refine gA (f:=14) (lb:=#[]) (c:=.func 14) (args:=#[.tmp 26,.tmp 27]) (ts:=#[29,29]) (vs:=#[.agg C.xc,.agg C.zc]) (by kernel_rfl) rfl (aXb func14) (by simp[Act.eval,v6,v7]) ((M.h3 w).mono ?_);rintro e w' ⟨rfl,hb'⟩;exact⟨_,(),rfl,rfl,fun _ _=>rfl,aA hb hb'⟩
  |9,_,hr =>
   have v2:a.tmps[22]?=some (.int .i64 C.n1):=H.dep hr 2 22;exact aWj (.assign (.tmp 22)) (.int .i64 C.n1) (fun o h=>by simp[execOp,h,v2,go_sem]) hb
  |10,_,hr =>
   have v5:a.tmps[25]?=some (.int .i64 C.n2):=H.dep hr 5 25;exact aWj (.assign (.tmp 25)) (.int .i64 C.n2) (fun o h=>by simp[execOp,h,v5,go_sem]) hb
  |11,_,hr =>
   have v8:a.tmps[28]?=some (.int .i64 C.n3):=H.dep hr 8 28;exact aWj (.assign (.tmp 28)) (.int .i64 C.n3) (fun o h=>by simp[execOp,h,v8,go_sem]) hb
  |n+12,h,_=>exact absurd h (by omega)
end
theorem bK0{x y z:aE}:iL y x = -iL x y/\-1<=iL x y/\iL x y<=1/\(iL x y=iL y z->iL x z=iL x y)/\(iL x y=0->iL x z=iL y z)/\iL x x=0/\(iL x y=0↔x.day=y.day/\eY x.kind=eY y.kind/\x.key=y.key)/\(x.day<y.day->iL x y = -1)/\(x.day=y.day->eY x.kind<eY y.kind->iL x y = -1) :=
 ⟨bF2.anti y x,(bF2.low x y).1,(bF2.low x y).2,bF2.same x y z,bF2.left x y z,bF2.refl x,bN5,bMo,bMp⟩
theorem bNw(x y z:aF)(w:World)(hE:iE w)(hbx:x.f.Behind w x.pa x.oa)(hfx:x.fits)(hby:y.f.Behind w y.pa y.oa)(hfy:y.fits)(hbz:z.f.Behind w z.pa z.oa)(hfz:z.fits):
  Calls prog 5 #[.agg x.arr,.agg y.arr,.agg z.arr] w fun e w'=>e=.returned (.bool true)/\Below w.heap.size w w':=by
 obtain⟨wA,hwA⟩:∃wA,wA=w.alloc (.cells x.arr 29):=⟨_,rfl⟩
 obtain⟨wB,hwB⟩:∃wB,wB=wA.alloc (.cells y.arr 29):=⟨_,rfl⟩
 obtain⟨wC,hwC⟩:∃wC,wC=wB.alloc (.cells z.arr 29):=⟨_,rfl⟩
 have sA:wA.heap.size=w.heap.size+1:=by rw[hwA,World.size_alloc]
 have sB:wB.heap.size=w.heap.size+1+1:=by rw[hwB,World.size_alloc,sA]
 have bA:Below w.heap.size w wA:=by rw[hwA];exact aB _ _
 have bB:Below wA.heap.size wA wB:=by rw[hwB];exact aB _ _
 have bC:Below wB.heap.size wB wC:=by rw[hwC];exact aB _ _
 have k0:aP wA w.heap.size x.arr 29:=by rw[hwA];exact aP.new0 _ _ _
 have k1:aP wB (w.heap.size+1) y.arr 29:=by rw[hwB,<-sA];exact aP.new0 _ _ _
 have k2:aP wC (w.heap.size+1+1) z.arr 29:=by rw[hwC,<-sB];exact aP.new0 _ _ _
 have K0:=Hd ((k0.below bB).below bC);have K1:=Hd (k1.below bC);have K2:=Hd k2;have bW:=(bA.trans (bB.mono bA.size)).trans (bC.mono (Nat.le_trans bA.size bB.size));have HB:=Hd bW;have hg:=bNt x y z wC (hbx.below bW) (hby.below bW) (hbz.below bW) hfx hfy hfz;rw[Array.append_assoc] at hg;have HG:=Hd hg;have HRUN:=Hd (bOg x y z wC);have HAW:Hid (∀W,Below w.heap.size w W->Calls prog 11 #[] W fun e w'=>e=.returned (.bool true)/\Below W.heap.size W w'):=fun W hb=>bLi W (hE.below hb)
 have HC:Hid (∀(u v:aF) W,Calls prog 14 #[.agg u.arr,.agg v.arr] W fun e w'=>e=.returned (.int .i64 (iL u.f v.f))/\Below W.heap.size W w'):=fun u v W=>El u.f v.f u.pa u.oa v.pa v.oa u.pc u.oc v.pc v.oc W
 have HXY:=Hd (HC.out x y);have HYZ:=Hd (HC.out y z);have HXZ:=Hd (HC.out x z);have HYX:=Hd (HC.out y x);have HXX:=Hd (HC.out x x);have HLX:=Hd (fun W=>Db x.f.kind W);have HLY:=Hd (fun W=>Db y.f.kind W);have HLAW:=Hd (bK0 (x:=x.f) (y:=y.f) (z:=z.f));rw[HLAW.out.2.2.2.2.2.1] at HXX;rw[HLAW.out.1] at HYX;have HSX:Hid ((prog.info? 29).map (·.size)=some x.arr.size):=aY x.f x.pa x.oa x.pc x.oc;have HSY:Hid ((prog.info? 29).map (·.size)=some y.arr.size):=aY y.f y.pa y.oa y.pc y.oc;have HSZ:Hid ((prog.info? 29).map (·.size)=some z.arr.size):=aY z.f z.pa z.oa z.pc z.oc;have HX:Hid (x.arr[0]?=some (.string ⟨x.f.key.toArray⟩)/\x.arr[3]?=some (.int .i64 x.f.day)/\x.arr[4]?=some (.int .i64 x.f.kind)):=⟨rfl,rfl,rfl⟩
 have HY:Hid (y.arr[0]?=some (.string ⟨y.f.key.toArray⟩)/\y.arr[3]?=some (.int .i64 y.f.day)/\y.arr[4]?=some (.int .i64 y.f.kind)):=⟨rfl,rfl,rfl⟩
 clear hE hbx hfx hby hfy hbz hfz bA bB bC k0 k1 k2 sA sB bW HC hg;generalize(x.f.tight/\y.f.tight/\z.f.tight)=PT at *;generalize x.arr=xc at *;generalize y.arr=yc at *;generalize z.arr=zc at *;go_enter func5,ntmps5;have A1:Hid (w.alloc (.cells xc 29)=wA):=hwA.symm;have A2:Hid (wA.alloc (.cells yc 29)=wB):=hwB.symm;have A3:Hid (wB.alloc (.cells zc 29)=wC):=hwC.symm;clear hwA hwB hwC;go_wp2_with (first
  |(rw[A1.out,A2.out,A3.out];refine wpList_load_row rfl 29 _ rfl w.heap.size rfl 29 xc (0,0) _ K0.out.2 underlying29 rfl HSX.out ?_)
  |(refine wpList_load_row rfl 29 _ rfl (w.heap.size+1) rfl 29 yc (0,0) _ K1.out.2 underlying29 rfl HSY.out ?_)
  |(refine wpList_load_row rfl 29 _ rfl (w.heap.size+1+1) rfl 29 zc (0,0) _ K2.out.2 underlying29 rfl HSZ.out ?_)
  |(refine bN8 rfl 47 3 _ rfl #[(0,.agg xc),(1,.agg yc),(2,.agg zc)] _ (by first|rfl|kernel_rfl) HRUN.out ?_))
 refine HG.out.mono ?_;rintro e w1 ⟨⟨g,rfl,_⟩,hb⟩;have HB1:=Hd (HB.out.trans (hb.mono HB.out.size));have K0b:=Hd (K0.out.below hb);have K1b:=Hd (K1.out.below hb);have K2b:=Hd (K2.out.below hb);clear hb K0 K1 K2 HB HRUN HG A1 A2 A3;cases g with
 |true =>
  clear HLAW HXY HYZ HXZ HYX HXX HLX HLY;go_wp2_with fail;refine(HAW.out _ HB1.out).mono ?_;rintro e w2 ⟨rfl,hb⟩;go_wp2;go_ret;exact⟨rfl,aA HB1.out hb⟩
 |false =>
  go_wp2_with fail;refine bPz (C:=⟨w1.drewN 1,w.heap.size,w.heap.size+1,w.heap.size+1+1,xc,yc,zc,iL x.f y.f,iL y.f z.f,iL x.f z.f⟩) ⟨rfl,rfl,rfl,rfl,K0b.out.below (aD (Br _ _) 1),K1b.out.below (aD (Br _ _) 1),K2b.out.below (aD (Br _ _) 1),HSX.out,HSY.out,HSZ.out,HXY.out,HYZ.out,HXZ.out⟩ rfl rfl rfl ?_;intro w3 hb3;have hb3:Below w1.heap.size w1 w3:=(aD (Br _ _) 1).trans hb3;have HB3:=Hd (HB1.out.trans (hb3.mono HB1.out.size));have K0c:=Hd (K0b.out.below hb3);have K1c:=Hd (K1b.out.below hb3);clear hb3 K0b K1b K2b HB1 HXY HYZ HXZ HSZ;simp only[iZ,bOj,List.foldl,bN7.val,List.setIfInBounds_toArray,List.set_cons_zero,List.set_cons_succ];obtain⟨l1,l2,l3,l4,l5,_,l6,l7,l8⟩:=HLAW.out;generalize iL x.f y.f=n1 at *;generalize iL y.f z.f=n2 at *;generalize iL x.f z.f=n3 at *;generalize eY x.f.kind=mx at *;generalize eY y.f.kind=my at *;generalize Md x.f.kind=ex at *;generalize Md y.f.kind=ey at *;generalize x.f.kind=kx at *;generalize y.f.kind=ky at *;generalize x.f.day=dx at *;generalize y.f.day=dy at *;generalize x.f.key=sx at *;generalize y.f.key=sy at *;clear l1 HLAW;have HN:Hid ((n1=0/\n3=n2/\dx=dy/\mx=my/\sx=sy)∨((n1=1∨n1 = -1)/\(n1=n2->n3=n1)/\(dx<dy->n1 = -1)/\(dx=dy->mx<my->n1 = -1)/\¬ (dx=dy/\mx=my/\sx=sy))):=by
   show _∨_
   by_cases h0:n1=0
   ·exact .inl ⟨h0,l5 h0,l6.1 h0⟩
   ·exact .inr ⟨by omega,l4,l7,l8,fun h=>h0 (l6.2 h)⟩
  clear l2 l3 l4 l5 l6 l7 l8;go_wp2_with (first
   |(refine wpList_load_row rfl 29 _ rfl w.heap.size rfl 29 xc (0,0) _ K0c.out.2 underlying29 rfl HSX.out ?_;simp only[pS])
   |(refine wpList_load_row rfl 29 _ rfl (w.heap.size+1) rfl 29 yc (0,0) _ K1c.out.2 underlying29 rfl HSY.out ?_;simp only[pS]))
  refine(HYX.out _).mono ?_;rintro e w4 ⟨rfl,hb⟩;have HB4:=Hd (HB3.out.trans (hb.mono HB3.out.size));have K0d:=Hd (K0c.out.below hb);have K1d:=Hd (K1c.out.below hb);clear hb K0c K1c HB3 HYX;rcases HN.out with⟨rfl,rfl,rfl,rfl,rfl⟩|⟨h1,h2,h3,h4,h5⟩
  ·clear HN
   by_cases hz:(0:Int)=n3
   ·subst hz;go_wp2_with (refine bFn (by rfl) 29 _ rfl w.heap.size rfl 29 xc (0,0) _ K0d.out.2 underlying29 rfl HSX.out ?_;simp only[pS]);refine(HXX.out _).mono ?_;rintro e w5 ⟨rfl,hb⟩;have HB5:=Hd (HB4.out.trans (hb.mono HB4.out.size));have K0e:=Hd (K0d.out.below hb);have K1e:=Hd (K1d.out.below hb);have c04:=(K0e.out.cell 4).trans HX.out.2.2;clear hb K0d K1d HB4 HXX;go_wp2_with fail;refine(HLX.out _).mono ?_;rintro e w6 ⟨rfl,hb⟩;have HB6:=Hd (HB5.out.trans (hb.mono HB5.out.size));have K0f:=Hd (K0e.out.below hb);have K1f:=Hd (K1e.out.below hb);have c14:=(K1f.out.cell 4).trans HY.out.2.2;clear hb K0e K1e HB5 HLX c04;go_wp2_with fail;refine(HLY.out _).mono ?_;rintro e w7 ⟨rfl,hb⟩;have HB7:=Hd (HB6.out.trans (hb.mono HB6.out.size));have c00:=((K0f.out.below hb).cell 0).trans HX.out.1;have c03:=((K0f.out.below hb).cell 3).trans HX.out.2.1;have c10:=((K1f.out.below hb).cell 0).trans HY.out.1;have c13:=((K1f.out.below hb).cell 3).trans HY.out.2.1;clear hb K0f K1f HB6 HLY c14;go_wp2_with fail;refine(HAW.out _ HB7.out).mono ?_;rintro e w8 ⟨rfl,hb⟩;go_wp2;go_ret;exact⟨rfl,aA HB7.out hb⟩
   ·have hz1:decide ((0:Int)=n3)=false:=by simpa using hz
    go_wp2_with (refine bFn (by rfl) 29 _ rfl w.heap.size rfl 29 xc (0,0) _ K0d.out.2 underlying29 rfl HSX.out ?_;simp only[pS]);refine(HXX.out _).mono ?_;rintro e w5 ⟨rfl,hb⟩;have HB5:=Hd (HB4.out.trans (hb.mono HB4.out.size));have K0e:=Hd (K0d.out.below hb);have K1e:=Hd (K1d.out.below hb);have c04:=(K0e.out.cell 4).trans HX.out.2.2;clear hb K0d K1d HB4 HXX;go_wp2_with fail;refine(HLX.out _).mono ?_;rintro e w6 ⟨rfl,hb⟩;have HB6:=Hd (HB5.out.trans (hb.mono HB5.out.size));have K0f:=Hd (K0e.out.below hb);have K1f:=Hd (K1e.out.below hb);have c14:=(K1f.out.cell 4).trans HY.out.2.2;clear hb K0e K1e HB5 HLX c04;go_wp2_with fail;refine(HLY.out _).mono ?_;rintro e w7 ⟨rfl,hb⟩;have HB7:=Hd (HB6.out.trans (hb.mono HB6.out.size));have c00:=((K0f.out.below hb).cell 0).trans HX.out.1;have c03:=((K0f.out.below hb).cell 3).trans HX.out.2.1;have c10:=((K1f.out.below hb).cell 0).trans HY.out.1;have c13:=((K1f.out.below hb).cell 3).trans HY.out.2.1;clear hb K0f K1f HB6 HLY c14;go_wp2_with fail;refine(HAW.out _ HB7.out).mono ?_;rintro e w8 ⟨rfl,hb⟩;go_wp2;go_ret;exact⟨rfl,aA HB7.out hb⟩
  ·have HD:(dx<dy/\n1 = -1)∨dy<dx∨(dx=dy/\mx<my/\n1 = -1)∨(dx=dy/\my<mx)∨(dx=dy/\mx=my/\sx≠sy):=by
    rcases Int.lt_trichotomy dx dy with h|h|h
    ·exact .inl ⟨h,h3 h⟩
    ·rcases Int.lt_trichotomy mx my with g|g|g
     ·exact .inr (.inr (.inl ⟨h,g,h4 h g⟩))
     ·exact .inr (.inr (.inr (.inr ⟨h,g,fun hs=>h5 ⟨h,g,hs⟩⟩)))
     ·exact .inr (.inr (.inr (.inl ⟨h,g⟩)))
    ·exact .inr (.inl h)
   have HD:=Hd HD;have HW:Hid ((n1=n2/\n3=n1)∨¬ n1=n2):=by
    show _∨_
    by_cases h:n1=n2
    ·exact .inl ⟨h,h2 h⟩
    ·exact .inr h
   clear HN h2 h3 h4 h5;rcases h1 with rfl|rfl
   ·rcases HW.out with⟨rfl,rfl⟩|hw
    ·clear HW;rcases HD.out with⟨d1,d2⟩|d1|⟨rfl,d1,d2⟩|⟨rfl,d1⟩|⟨rfl,rfl,d1⟩
     ·clear HD;exact absurd d2 (by decide)
     ·clear HD;have g1:decide (dx=dy)=false:=by simpa using(by omega:¬ dx=dy)
      have g2:decide (dy<=dx)=true:=by simpa using(by omega:dy<=dx)
      go_wp2_with (refine bFn (by rfl) 29 _ rfl w.heap.size rfl 29 xc (0,0) _ K0d.out.2 underlying29 rfl HSX.out ?_;simp only[pS]);refine(HXX.out _).mono ?_;rintro e w5 ⟨rfl,hb⟩;have HB5:=Hd (HB4.out.trans (hb.mono HB4.out.size));have K0e:=Hd (K0d.out.below hb);have K1e:=Hd (K1d.out.below hb);have c04:=(K0e.out.cell 4).trans HX.out.2.2;clear hb K0d K1d HB4 HXX;go_wp2_with fail;refine(HLX.out _).mono ?_;rintro e w6 ⟨rfl,hb⟩;have HB6:=Hd (HB5.out.trans (hb.mono HB5.out.size));have K0f:=Hd (K0e.out.below hb);have K1f:=Hd (K1e.out.below hb);have c14:=(K1f.out.cell 4).trans HY.out.2.2;clear hb K0e K1e HB5 HLX c04;go_wp2_with fail;refine(HLY.out _).mono ?_;rintro e w7 ⟨rfl,hb⟩;have HB7:=Hd (HB6.out.trans (hb.mono HB6.out.size));have c00:=((K0f.out.below hb).cell 0).trans HX.out.1;have c03:=((K0f.out.below hb).cell 3).trans HX.out.2.1;have c10:=((K1f.out.below hb).cell 0).trans HY.out.1;have c13:=((K1f.out.below hb).cell 3).trans HY.out.2.1;clear hb K0f K1f HB6 HLY c14;go_wp2_with fail;refine(HAW.out _ HB7.out).mono ?_;rintro e w8 ⟨rfl,hb⟩;go_wp2;go_ret;exact⟨rfl,aA HB7.out hb⟩
     ·clear HD;exact absurd d2 (by decide)
     ·clear HD;have g1:decide (mx=my)=false:=by simpa using(by omega:¬ mx=my)
      have g2:decide (my<=mx)=true:=by simpa using(by omega:my<=mx)
      go_wp2_with (refine bFn (by rfl) 29 _ rfl w.heap.size rfl 29 xc (0,0) _ K0d.out.2 underlying29 rfl HSX.out ?_;simp only[pS]);refine(HXX.out _).mono ?_;rintro e w5 ⟨rfl,hb⟩;have HB5:=Hd (HB4.out.trans (hb.mono HB4.out.size));have K0e:=Hd (K0d.out.below hb);have K1e:=Hd (K1d.out.below hb);have c04:=(K0e.out.cell 4).trans HX.out.2.2;clear hb K0d K1d HB4 HXX;go_wp2_with fail;refine(HLX.out _).mono ?_;rintro e w6 ⟨rfl,hb⟩;have HB6:=Hd (HB5.out.trans (hb.mono HB5.out.size));have K0f:=Hd (K0e.out.below hb);have K1f:=Hd (K1e.out.below hb);have c14:=(K1f.out.cell 4).trans HY.out.2.2;clear hb K0e K1e HB5 HLX c04;go_wp2_with fail;refine(HLY.out _).mono ?_;rintro e w7 ⟨rfl,hb⟩;have HB7:=Hd (HB6.out.trans (hb.mono HB6.out.size));have c00:=((K0f.out.below hb).cell 0).trans HX.out.1;have c03:=((K0f.out.below hb).cell 3).trans HX.out.2.1;have c10:=((K1f.out.below hb).cell 0).trans HY.out.1;have c13:=((K1f.out.below hb).cell 3).trans HY.out.2.1;clear hb K0f K1f HB6 HLY c14;go_wp2_with fail;refine(HAW.out _ HB7.out).mono ?_;rintro e w8 ⟨rfl,hb⟩;go_wp2;go_ret;exact⟨rfl,aA HB7.out hb⟩
     ·clear HD;have g1:(sx==sy)=false:=by simpa using d1
      go_wp2_with (refine bFn (by rfl) 29 _ rfl w.heap.size rfl 29 xc (0,0) _ K0d.out.2 underlying29 rfl HSX.out ?_;simp only[pS]);refine(HXX.out _).mono ?_;rintro e w5 ⟨rfl,hb⟩;have HB5:=Hd (HB4.out.trans (hb.mono HB4.out.size));have K0e:=Hd (K0d.out.below hb);have K1e:=Hd (K1d.out.below hb);have c04:=(K0e.out.cell 4).trans HX.out.2.2;clear hb K0d K1d HB4 HXX;go_wp2_with fail;refine(HLX.out _).mono ?_;rintro e w6 ⟨rfl,hb⟩;have HB6:=Hd (HB5.out.trans (hb.mono HB5.out.size));have K0f:=Hd (K0e.out.below hb);have K1f:=Hd (K1e.out.below hb);have c14:=(K1f.out.cell 4).trans HY.out.2.2;clear hb K0e K1e HB5 HLX c04;go_wp2_with fail;refine(HLY.out _).mono ?_;rintro e w7 ⟨rfl,hb⟩;have HB7:=Hd (HB6.out.trans (hb.mono HB6.out.size));have c00:=((K0f.out.below hb).cell 0).trans HX.out.1;have c03:=((K0f.out.below hb).cell 3).trans HX.out.2.1;have c10:=((K1f.out.below hb).cell 0).trans HY.out.1;have c13:=((K1f.out.below hb).cell 3).trans HY.out.2.1;clear hb K0f K1f HB6 HLY c14;go_wp2_with fail;refine(HAW.out _ HB7.out).mono ?_;rintro e w8 ⟨rfl,hb⟩;go_wp2;go_ret;exact⟨rfl,aA HB7.out hb⟩
    ·clear HW;have hw1:decide ((1:Int)=n2)=false:=by simpa using hw
     rcases HD.out with⟨d1,d2⟩|d1|⟨rfl,d1,d2⟩|⟨rfl,d1⟩|⟨rfl,rfl,d1⟩
     ·clear HD;exact absurd d2 (by decide)
     ·clear HD;have g1:decide (dx=dy)=false:=by simpa using(by omega:¬ dx=dy)
      have g2:decide (dy<=dx)=true:=by simpa using(by omega:dy<=dx)
      go_wp2_with (refine bFn (by rfl) 29 _ rfl w.heap.size rfl 29 xc (0,0) _ K0d.out.2 underlying29 rfl HSX.out ?_;simp only[pS]);refine(HXX.out _).mono ?_;rintro e w5 ⟨rfl,hb⟩;have HB5:=Hd (HB4.out.trans (hb.mono HB4.out.size));have K0e:=Hd (K0d.out.below hb);have K1e:=Hd (K1d.out.below hb);have c04:=(K0e.out.cell 4).trans HX.out.2.2;clear hb K0d K1d HB4 HXX;go_wp2_with fail;refine(HLX.out _).mono ?_;rintro e w6 ⟨rfl,hb⟩;have HB6:=Hd (HB5.out.trans (hb.mono HB5.out.size));have K0f:=Hd (K0e.out.below hb);have K1f:=Hd (K1e.out.below hb);have c14:=(K1f.out.cell 4).trans HY.out.2.2;clear hb K0e K1e HB5 HLX c04;go_wp2_with fail;refine(HLY.out _).mono ?_;rintro e w7 ⟨rfl,hb⟩;have HB7:=Hd (HB6.out.trans (hb.mono HB6.out.size));have c00:=((K0f.out.below hb).cell 0).trans HX.out.1;have c03:=((K0f.out.below hb).cell 3).trans HX.out.2.1;have c10:=((K1f.out.below hb).cell 0).trans HY.out.1;have c13:=((K1f.out.below hb).cell 3).trans HY.out.2.1;clear hb K0f K1f HB6 HLY c14;go_wp2_with fail;refine(HAW.out _ HB7.out).mono ?_;rintro e w8 ⟨rfl,hb⟩;go_wp2;go_ret;exact⟨rfl,aA HB7.out hb⟩
     ·clear HD;exact absurd d2 (by decide)
     ·clear HD;have g1:decide (mx=my)=false:=by simpa using(by omega:¬ mx=my)
      have g2:decide (my<=mx)=true:=by simpa using(by omega:my<=mx)
      go_wp2_with (refine bFn (by rfl) 29 _ rfl w.heap.size rfl 29 xc (0,0) _ K0d.out.2 underlying29 rfl HSX.out ?_;simp only[pS]);refine(HXX.out _).mono ?_;rintro e w5 ⟨rfl,hb⟩;have HB5:=Hd (HB4.out.trans (hb.mono HB4.out.size));have K0e:=Hd (K0d.out.below hb);have K1e:=Hd (K1d.out.below hb);have c04:=(K0e.out.cell 4).trans HX.out.2.2;clear hb K0d K1d HB4 HXX;go_wp2_with fail;refine(HLX.out _).mono ?_;rintro e w6 ⟨rfl,hb⟩;have HB6:=Hd (HB5.out.trans (hb.mono HB5.out.size));have K0f:=Hd (K0e.out.below hb);have K1f:=Hd (K1e.out.below hb);have c14:=(K1f.out.cell 4).trans HY.out.2.2;clear hb K0e K1e HB5 HLX c04;go_wp2_with fail;refine(HLY.out _).mono ?_;rintro e w7 ⟨rfl,hb⟩;have HB7:=Hd (HB6.out.trans (hb.mono HB6.out.size));have c00:=((K0f.out.below hb).cell 0).trans HX.out.1;have c03:=((K0f.out.below hb).cell 3).trans HX.out.2.1;have c10:=((K1f.out.below hb).cell 0).trans HY.out.1;have c13:=((K1f.out.below hb).cell 3).trans HY.out.2.1;clear hb K0f K1f HB6 HLY c14;go_wp2_with fail;refine(HAW.out _ HB7.out).mono ?_;rintro e w8 ⟨rfl,hb⟩;go_wp2;go_ret;exact⟨rfl,aA HB7.out hb⟩
     ·clear HD;have g1:(sx==sy)=false:=by simpa using d1
      go_wp2_with (refine bFn (by rfl) 29 _ rfl w.heap.size rfl 29 xc (0,0) _ K0d.out.2 underlying29 rfl HSX.out ?_;simp only[pS]);refine(HXX.out _).mono ?_;rintro e w5 ⟨rfl,hb⟩;have HB5:=Hd (HB4.out.trans (hb.mono HB4.out.size));have K0e:=Hd (K0d.out.below hb);have K1e:=Hd (K1d.out.below hb);have c04:=(K0e.out.cell 4).trans HX.out.2.2;clear hb K0d K1d HB4 HXX;go_wp2_with fail;refine(HLX.out _).mono ?_;rintro e w6 ⟨rfl,hb⟩;have HB6:=Hd (HB5.out.trans (hb.mono HB5.out.size));have K0f:=Hd (K0e.out.below hb);have K1f:=Hd (K1e.out.below hb);have c14:=(K1f.out.cell 4).trans HY.out.2.2;clear hb K0e K1e HB5 HLX c04;go_wp2_with fail;refine(HLY.out _).mono ?_;rintro e w7 ⟨rfl,hb⟩;have HB7:=Hd (HB6.out.trans (hb.mono HB6.out.size));have c00:=((K0f.out.below hb).cell 0).trans HX.out.1;have c03:=((K0f.out.below hb).cell 3).trans HX.out.2.1;have c10:=((K1f.out.below hb).cell 0).trans HY.out.1;have c13:=((K1f.out.below hb).cell 3).trans HY.out.2.1;clear hb K0f K1f HB6 HLY c14;go_wp2_with fail;refine(HAW.out _ HB7.out).mono ?_;rintro e w8 ⟨rfl,hb⟩;go_wp2;go_ret;exact⟨rfl,aA HB7.out hb⟩
   ·rcases HW.out with⟨rfl,rfl⟩|hw
    ·clear HW;rcases HD.out with⟨d1,d2⟩|d1|⟨rfl,d1,d2⟩|⟨rfl,d1⟩|⟨rfl,rfl,d1⟩
     ·clear HD;have g1:decide (dx=dy)=false:=by simpa using(by omega:¬ dx=dy)
      have g2:decide (dy<=dx)=false:=by simpa using d1
      clear d2;go_wp2_with (refine bFn (by rfl) 29 _ rfl w.heap.size rfl 29 xc (0,0) _ K0d.out.2 underlying29 rfl HSX.out ?_;simp only[pS]);refine(HXX.out _).mono ?_;rintro e w5 ⟨rfl,hb⟩;have HB5:=Hd (HB4.out.trans (hb.mono HB4.out.size));have K0e:=Hd (K0d.out.below hb);have K1e:=Hd (K1d.out.below hb);have c04:=(K0e.out.cell 4).trans HX.out.2.2;clear hb K0d K1d HB4 HXX;go_wp2_with fail;refine(HLX.out _).mono ?_;rintro e w6 ⟨rfl,hb⟩;have HB6:=Hd (HB5.out.trans (hb.mono HB5.out.size));have K0f:=Hd (K0e.out.below hb);have K1f:=Hd (K1e.out.below hb);have c14:=(K1f.out.cell 4).trans HY.out.2.2;clear hb K0e K1e HB5 HLX c04;go_wp2_with fail;refine(HLY.out _).mono ?_;rintro e w7 ⟨rfl,hb⟩;have HB7:=Hd (HB6.out.trans (hb.mono HB6.out.size));have c00:=((K0f.out.below hb).cell 0).trans HX.out.1;have c03:=((K0f.out.below hb).cell 3).trans HX.out.2.1;have c10:=((K1f.out.below hb).cell 0).trans HY.out.1;have c13:=((K1f.out.below hb).cell 3).trans HY.out.2.1;clear hb K0f K1f HB6 HLY c14;go_wp2_with fail;refine(HAW.out _ HB7.out).mono ?_;rintro e w8 ⟨rfl,hb⟩;go_wp2;go_ret;exact⟨rfl,aA HB7.out hb⟩
     ·clear HD;have g1:decide (dx=dy)=false:=by simpa using(by omega:¬ dx=dy)
      have g2:decide (dy<=dx)=true:=by simpa using(by omega:dy<=dx)
      go_wp2_with (refine bFn (by rfl) 29 _ rfl w.heap.size rfl 29 xc (0,0) _ K0d.out.2 underlying29 rfl HSX.out ?_;simp only[pS]);refine(HXX.out _).mono ?_;rintro e w5 ⟨rfl,hb⟩;have HB5:=Hd (HB4.out.trans (hb.mono HB4.out.size));have K0e:=Hd (K0d.out.below hb);have K1e:=Hd (K1d.out.below hb);have c04:=(K0e.out.cell 4).trans HX.out.2.2;clear hb K0d K1d HB4 HXX;go_wp2_with fail;refine(HLX.out _).mono ?_;rintro e w6 ⟨rfl,hb⟩;have HB6:=Hd (HB5.out.trans (hb.mono HB5.out.size));have K0f:=Hd (K0e.out.below hb);have K1f:=Hd (K1e.out.below hb);have c14:=(K1f.out.cell 4).trans HY.out.2.2;clear hb K0e K1e HB5 HLX c04;go_wp2_with fail;refine(HLY.out _).mono ?_;rintro e w7 ⟨rfl,hb⟩;have HB7:=Hd (HB6.out.trans (hb.mono HB6.out.size));have c00:=((K0f.out.below hb).cell 0).trans HX.out.1;have c03:=((K0f.out.below hb).cell 3).trans HX.out.2.1;have c10:=((K1f.out.below hb).cell 0).trans HY.out.1;have c13:=((K1f.out.below hb).cell 3).trans HY.out.2.1;clear hb K0f K1f HB6 HLY c14;go_wp2_with fail;refine(HAW.out _ HB7.out).mono ?_;rintro e w8 ⟨rfl,hb⟩;go_wp2;go_ret;exact⟨rfl,aA HB7.out hb⟩
     ·clear HD;have g1:decide (mx=my)=false:=by simpa using(by omega:¬ mx=my)
      have g2:decide (my<=mx)=false:=by simpa using d1
      clear d2;go_wp2_with (refine bFn (by rfl) 29 _ rfl w.heap.size rfl 29 xc (0,0) _ K0d.out.2 underlying29 rfl HSX.out ?_;simp only[pS]);refine(HXX.out _).mono ?_;rintro e w5 ⟨rfl,hb⟩;have HB5:=Hd (HB4.out.trans (hb.mono HB4.out.size));have K0e:=Hd (K0d.out.below hb);have K1e:=Hd (K1d.out.below hb);have c04:=(K0e.out.cell 4).trans HX.out.2.2;clear hb K0d K1d HB4 HXX;go_wp2_with fail;refine(HLX.out _).mono ?_;rintro e w6 ⟨rfl,hb⟩;have HB6:=Hd (HB5.out.trans (hb.mono HB5.out.size));have K0f:=Hd (K0e.out.below hb);have K1f:=Hd (K1e.out.below hb);have c14:=(K1f.out.cell 4).trans HY.out.2.2;clear hb K0e K1e HB5 HLX c04;go_wp2_with fail;refine(HLY.out _).mono ?_;rintro e w7 ⟨rfl,hb⟩;have HB7:=Hd (HB6.out.trans (hb.mono HB6.out.size));have c00:=((K0f.out.below hb).cell 0).trans HX.out.1;have c03:=((K0f.out.below hb).cell 3).trans HX.out.2.1;have c10:=((K1f.out.below hb).cell 0).trans HY.out.1;have c13:=((K1f.out.below hb).cell 3).trans HY.out.2.1;clear hb K0f K1f HB6 HLY c14;go_wp2_with fail;refine(HAW.out _ HB7.out).mono ?_;rintro e w8 ⟨rfl,hb⟩;go_wp2;go_ret;exact⟨rfl,aA HB7.out hb⟩
     ·clear HD;have g1:decide (mx=my)=false:=by simpa using(by omega:¬ mx=my)
      have g2:decide (my<=mx)=true:=by simpa using(by omega:my<=mx)
      go_wp2_with (refine bFn (by rfl) 29 _ rfl w.heap.size rfl 29 xc (0,0) _ K0d.out.2 underlying29 rfl HSX.out ?_;simp only[pS]);refine(HXX.out _).mono ?_;rintro e w5 ⟨rfl,hb⟩;have HB5:=Hd (HB4.out.trans (hb.mono HB4.out.size));have K0e:=Hd (K0d.out.below hb);have K1e:=Hd (K1d.out.below hb);have c04:=(K0e.out.cell 4).trans HX.out.2.2;clear hb K0d K1d HB4 HXX;go_wp2_with fail;refine(HLX.out _).mono ?_;rintro e w6 ⟨rfl,hb⟩;have HB6:=Hd (HB5.out.trans (hb.mono HB5.out.size));have K0f:=Hd (K0e.out.below hb);have K1f:=Hd (K1e.out.below hb);have c14:=(K1f.out.cell 4).trans HY.out.2.2;clear hb K0e K1e HB5 HLX c04;go_wp2_with fail;refine(HLY.out _).mono ?_;rintro e w7 ⟨rfl,hb⟩;have HB7:=Hd (HB6.out.trans (hb.mono HB6.out.size));have c00:=((K0f.out.below hb).cell 0).trans HX.out.1;have c03:=((K0f.out.below hb).cell 3).trans HX.out.2.1;have c10:=((K1f.out.below hb).cell 0).trans HY.out.1;have c13:=((K1f.out.below hb).cell 3).trans HY.out.2.1;clear hb K0f K1f HB6 HLY c14;go_wp2_with fail;refine(HAW.out _ HB7.out).mono ?_;rintro e w8 ⟨rfl,hb⟩;go_wp2;go_ret;exact⟨rfl,aA HB7.out hb⟩
     ·clear HD;have g1:(sx==sy)=false:=by simpa using d1
      go_wp2_with (refine bFn (by rfl) 29 _ rfl w.heap.size rfl 29 xc (0,0) _ K0d.out.2 underlying29 rfl HSX.out ?_;simp only[pS]);refine(HXX.out _).mono ?_;rintro e w5 ⟨rfl,hb⟩;have HB5:=Hd (HB4.out.trans (hb.mono HB4.out.size));have K0e:=Hd (K0d.out.below hb);have K1e:=Hd (K1d.out.below hb);have c04:=(K0e.out.cell 4).trans HX.out.2.2;clear hb K0d K1d HB4 HXX;go_wp2_with fail;refine(HLX.out _).mono ?_;rintro e w6 ⟨rfl,hb⟩;have HB6:=Hd (HB5.out.trans (hb.mono HB5.out.size));have K0f:=Hd (K0e.out.below hb);have K1f:=Hd (K1e.out.below hb);have c14:=(K1f.out.cell 4).trans HY.out.2.2;clear hb K0e K1e HB5 HLX c04;go_wp2_with fail;refine(HLY.out _).mono ?_;rintro e w7 ⟨rfl,hb⟩;have HB7:=Hd (HB6.out.trans (hb.mono HB6.out.size));have c00:=((K0f.out.below hb).cell 0).trans HX.out.1;have c03:=((K0f.out.below hb).cell 3).trans HX.out.2.1;have c10:=((K1f.out.below hb).cell 0).trans HY.out.1;have c13:=((K1f.out.below hb).cell 3).trans HY.out.2.1;clear hb K0f K1f HB6 HLY c14;go_wp2_with fail;refine(HAW.out _ HB7.out).mono ?_;rintro e w8 ⟨rfl,hb⟩;go_wp2;go_ret;exact⟨rfl,aA HB7.out hb⟩
    ·clear HW;have hw1:decide ((-1:Int)=n2)=false:=by simpa using hw
     rcases HD.out with⟨d1,d2⟩|d1|⟨rfl,d1,d2⟩|⟨rfl,d1⟩|⟨rfl,rfl,d1⟩
     ·clear HD;have g1:decide (dx=dy)=false:=by simpa using(by omega:¬ dx=dy)
      have g2:decide (dy<=dx)=false:=by simpa using d1
      clear d2;go_wp2_with (refine bFn (by rfl) 29 _ rfl w.heap.size rfl 29 xc (0,0) _ K0d.out.2 underlying29 rfl HSX.out ?_;simp only[pS]);refine(HXX.out _).mono ?_;rintro e w5 ⟨rfl,hb⟩;have HB5:=Hd (HB4.out.trans (hb.mono HB4.out.size));have K0e:=Hd (K0d.out.below hb);have K1e:=Hd (K1d.out.below hb);have c04:=(K0e.out.cell 4).trans HX.out.2.2;clear hb K0d K1d HB4 HXX;go_wp2_with fail;refine(HLX.out _).mono ?_;rintro e w6 ⟨rfl,hb⟩;have HB6:=Hd (HB5.out.trans (hb.mono HB5.out.size));have K0f:=Hd (K0e.out.below hb);have K1f:=Hd (K1e.out.below hb);have c14:=(K1f.out.cell 4).trans HY.out.2.2;clear hb K0e K1e HB5 HLX c04;go_wp2_with fail;refine(HLY.out _).mono ?_;rintro e w7 ⟨rfl,hb⟩;have HB7:=Hd (HB6.out.trans (hb.mono HB6.out.size));have c00:=((K0f.out.below hb).cell 0).trans HX.out.1;have c03:=((K0f.out.below hb).cell 3).trans HX.out.2.1;have c10:=((K1f.out.below hb).cell 0).trans HY.out.1;have c13:=((K1f.out.below hb).cell 3).trans HY.out.2.1;clear hb K0f K1f HB6 HLY c14;go_wp2_with fail;refine(HAW.out _ HB7.out).mono ?_;rintro e w8 ⟨rfl,hb⟩;go_wp2;go_ret;exact⟨rfl,aA HB7.out hb⟩
     ·clear HD;have g1:decide (dx=dy)=false:=by simpa using(by omega:¬ dx=dy)
      have g2:decide (dy<=dx)=true:=by simpa using(by omega:dy<=dx)
      go_wp2_with (refine bFn (by rfl) 29 _ rfl w.heap.size rfl 29 xc (0,0) _ K0d.out.2 underlying29 rfl HSX.out ?_;simp only[pS]);refine(HXX.out _).mono ?_;rintro e w5 ⟨rfl,hb⟩;have HB5:=Hd (HB4.out.trans (hb.mono HB4.out.size));have K0e:=Hd (K0d.out.below hb);have K1e:=Hd (K1d.out.below hb);have c04:=(K0e.out.cell 4).trans HX.out.2.2;clear hb K0d K1d HB4 HXX;go_wp2_with fail;refine(HLX.out _).mono ?_;rintro e w6 ⟨rfl,hb⟩;have HB6:=Hd (HB5.out.trans (hb.mono HB5.out.size));have K0f:=Hd (K0e.out.below hb);have K1f:=Hd (K1e.out.below hb);have c14:=(K1f.out.cell 4).trans HY.out.2.2;clear hb K0e K1e HB5 HLX c04;go_wp2_with fail;refine(HLY.out _).mono ?_;rintro e w7 ⟨rfl,hb⟩;have HB7:=Hd (HB6.out.trans (hb.mono HB6.out.size));have c00:=((K0f.out.below hb).cell 0).trans HX.out.1;have c03:=((K0f.out.below hb).cell 3).trans HX.out.2.1;have c10:=((K1f.out.below hb).cell 0).trans HY.out.1;have c13:=((K1f.out.below hb).cell 3).trans HY.out.2.1;clear hb K0f K1f HB6 HLY c14;go_wp2_with fail;refine(HAW.out _ HB7.out).mono ?_;rintro e w8 ⟨rfl,hb⟩;go_wp2;go_ret;exact⟨rfl,aA HB7.out hb⟩
     ·clear HD;have g1:decide (mx=my)=false:=by simpa using(by omega:¬ mx=my)
      have g2:decide (my<=mx)=false:=by simpa using d1
      clear d2;go_wp2_with (refine bFn (by rfl) 29 _ rfl w.heap.size rfl 29 xc (0,0) _ K0d.out.2 underlying29 rfl HSX.out ?_;simp only[pS]);refine(HXX.out _).mono ?_;rintro e w5 ⟨rfl,hb⟩;have HB5:=Hd (HB4.out.trans (hb.mono HB4.out.size));have K0e:=Hd (K0d.out.below hb);have K1e:=Hd (K1d.out.below hb);have c04:=(K0e.out.cell 4).trans HX.out.2.2;clear hb K0d K1d HB4 HXX;go_wp2_with fail;refine(HLX.out _).mono ?_;rintro e w6 ⟨rfl,hb⟩;have HB6:=Hd (HB5.out.trans (hb.mono HB5.out.size));have K0f:=Hd (K0e.out.below hb);have K1f:=Hd (K1e.out.below hb);have c14:=(K1f.out.cell 4).trans HY.out.2.2;clear hb K0e K1e HB5 HLX c04;go_wp2_with fail;refine(HLY.out _).mono ?_;rintro e w7 ⟨rfl,hb⟩;have HB7:=Hd (HB6.out.trans (hb.mono HB6.out.size));have c00:=((K0f.out.below hb).cell 0).trans HX.out.1;have c03:=((K0f.out.below hb).cell 3).trans HX.out.2.1;have c10:=((K1f.out.below hb).cell 0).trans HY.out.1;have c13:=((K1f.out.below hb).cell 3).trans HY.out.2.1;clear hb K0f K1f HB6 HLY c14;go_wp2_with fail;refine(HAW.out _ HB7.out).mono ?_;rintro e w8 ⟨rfl,hb⟩;go_wp2;go_ret;exact⟨rfl,aA HB7.out hb⟩
     ·clear HD;have g1:decide (mx=my)=false:=by simpa using(by omega:¬ mx=my)
      have g2:decide (my<=mx)=true:=by simpa using(by omega:my<=mx)
      go_wp2_with (refine bFn (by rfl) 29 _ rfl w.heap.size rfl 29 xc (0,0) _ K0d.out.2 underlying29 rfl HSX.out ?_;simp only[pS]);refine(HXX.out _).mono ?_;rintro e w5 ⟨rfl,hb⟩;have HB5:=Hd (HB4.out.trans (hb.mono HB4.out.size));have K0e:=Hd (K0d.out.below hb);have K1e:=Hd (K1d.out.below hb);have c04:=(K0e.out.cell 4).trans HX.out.2.2;clear hb K0d K1d HB4 HXX;go_wp2_with fail;refine(HLX.out _).mono ?_;rintro e w6 ⟨rfl,hb⟩;have HB6:=Hd (HB5.out.trans (hb.mono HB5.out.size));have K0f:=Hd (K0e.out.below hb);have K1f:=Hd (K1e.out.below hb);have c14:=(K1f.out.cell 4).trans HY.out.2.2;clear hb K0e K1e HB5 HLX c04;go_wp2_with fail;refine(HLY.out _).mono ?_;rintro e w7 ⟨rfl,hb⟩;have HB7:=Hd (HB6.out.trans (hb.mono HB6.out.size));have c00:=((K0f.out.below hb).cell 0).trans HX.out.1;have c03:=((K0f.out.below hb).cell 3).trans HX.out.2.1;have c10:=((K1f.out.below hb).cell 0).trans HY.out.1;have c13:=((K1f.out.below hb).cell 3).trans HY.out.2.1;clear hb K0f K1f HB6 HLY c14;go_wp2_with fail;refine(HAW.out _ HB7.out).mono ?_;rintro e w8 ⟨rfl,hb⟩;go_wp2;go_ret;exact⟨rfl,aA HB7.out hb⟩
     ·clear HD;have g1:(sx==sy)=false:=by simpa using d1
      go_wp2_with (refine bFn (by rfl) 29 _ rfl w.heap.size rfl 29 xc (0,0) _ K0d.out.2 underlying29 rfl HSX.out ?_;simp only[pS]);refine(HXX.out _).mono ?_;rintro e w5 ⟨rfl,hb⟩;have HB5:=Hd (HB4.out.trans (hb.mono HB4.out.size));have K0e:=Hd (K0d.out.below hb);have K1e:=Hd (K1d.out.below hb);have c04:=(K0e.out.cell 4).trans HX.out.2.2;clear hb K0d K1d HB4 HXX;go_wp2_with fail;refine(HLX.out _).mono ?_;rintro e w6 ⟨rfl,hb⟩;have HB6:=Hd (HB5.out.trans (hb.mono HB5.out.size));have K0f:=Hd (K0e.out.below hb);have K1f:=Hd (K1e.out.below hb);have c14:=(K1f.out.cell 4).trans HY.out.2.2;clear hb K0e K1e HB5 HLX c04;go_wp2_with fail;refine(HLY.out _).mono ?_;rintro e w7 ⟨rfl,hb⟩;have HB7:=Hd (HB6.out.trans (hb.mono HB6.out.size));have c00:=((K0f.out.below hb).cell 0).trans HX.out.1;have c03:=((K0f.out.below hb).cell 3).trans HX.out.2.1;have c10:=((K1f.out.below hb).cell 0).trans HY.out.1;have c13:=((K1f.out.below hb).cell 3).trans HY.out.2.1;clear hb K0f K1f HB6 HLY c14;go_wp2_with fail;refine(HAW.out _ HB7.out).mono ?_;rintro e w8 ⟨rfl,hb⟩;go_wp2;go_ret;exact⟨rfl,aA HB7.out hb⟩
end Go.Proofs.YthjekgfoidmagaaGreatDoor
