/- FracEq FracMul Round PValue QChange -/
import Derived.Test.YtejkibnaidiklaaGreatDoorJPriceA
set_option maxHeartbeats 16000000
set_option maxRecDepth 100000
namespace Go.Proofs.YtejkibnaidiklaaGreatDoor
open Go.Proofs.Tryz
section
open Go
theorem Dl{P:Program}{o:Oper}{a:Act}{w:World}{op:BinOp}{t t':TypeId}{x y:Operand}{u v r:Value}(ho:o.op=.binOp op t x y t')(hx:a.eval x=u)(hy:a.eval y=v)(hg:(eqGuard op t x y u v).run P w=.ok () w)(hb:(binOp op t u v).run P w=.ok r w):(execOp a.eval o).run P w=.ok (.value r) w:=by
 unfold execOp;simp only[ho,hx,hy];simp[hg,hb,Result.andThen]
end
section
open Go Go.RowKit Num
def aQj(n n':List UInt8):Int:=val n*val n'
def aQk(d d':List UInt8):Int:=lU d*lU d'
def aP5(n d':List UInt8):Int:=val n*lU d'
def aP2(d n':List UInt8):Int:=lU d*val n'
noncomputable def aS7:Array Oper:=(f92.body.bind (jE 1)).getD #[]
def aSp:List (Nat×Nat):=[(0,11),(1,12),(2,13),(3,14),(4,15),(5,16),(6,17),(7,18),(8,9),(9,10)]
structure aSk where
 W0:World
 bm:Nat
 a:List UInt8
 b:List UInt8
 c:List UInt8
 d:List UInt8
 r1:List UInt8
 r2:List UInt8
def aSk.val(C:aSk)(_:Unit):Nat->Value
 |0=>.func (.func 89) #[] #[]
 |1=>.string ⟨C.a.toArray⟩
 |2=>.string ⟨C.c.toArray⟩
 |3=>.string ⟨C.r1.toArray⟩
 |4=>.func (.func 89) #[] #[]
 |5=>.string ⟨C.b.toArray⟩
 |6=>.string ⟨C.d.toArray⟩
 |7=>.string ⟨C.r2.toArray⟩
 |8=>.string ⟨C.r1.toArray⟩
 |_=>.string ⟨C.r2.toArray⟩
def aSk.gg(C:aSk)(_:Unit)(_:Array Bool)(W:World):Prop:=Below C.W0.heap.size C.W0 W
structure aT0(C:aSk)(t0:Array Value):Prop where
 sz:t0.size=19
 t0':t0[0]?=some (.string ⟨C.a.toArray⟩)
 t1':t0[1]?=some (.string ⟨C.b.toArray⟩)
 t2':t0[2]?=some (.string ⟨C.c.toArray⟩)
 t3':t0[3]?=some (.string ⟨C.d.toArray⟩)
 t4:t0[4]?=some (.pointer (some ⟨C.bm,0,none⟩))
 kb:C.bm<C.W0.heap.size
 kc:C.W0.cell? ⟨C.bm,0,none⟩=some (.func (.func 89) #[] #[])
 h1:∀W,Below C.W0.heap.size C.W0 W->Calls prog 89 #[.string ⟨C.a.toArray⟩,.string ⟨C.c.toArray⟩] W fun e w'=>e=.returned (.string ⟨C.r1.toArray⟩)/\Below W.heap.size W w'
 h2:∀W,Below C.W0.heap.size C.W0 W->Calls prog 89 #[.string ⟨C.b.toArray⟩,.string ⟨C.d.toArray⟩] W fun e w'=>e=.returned (.string ⟨C.r2.toArray⟩)/\Below W.heap.size W w'
section
variable {C:aSk}{t0:Array Value}{Q:Exit->Act->World->Prop}
theorem aSd(M:aT0 C t0){a:Act}{w:World}(hdf:a.defers=[])(ht:a.tmps=t0)(hw:w.drewN 1=C.W0)
  (hQ:∀W,Below C.W0.heap.size C.W0 W->Q .normal { tmps:=iZ (C.val ()) aSp t0,defers:=[] } W):(Code.region 1 aS7 true).wp prog Q a w:=by
 have hsz:aS7.size=10:=by kernel_rfl
 refine eV (ds:=aSp) (val:=C.val) (G:=C.gg) (by kernel_rfl) (by kernel_rfl) (by decide) (fun p hp=>?_) (by kernel_rfl) ?_ (γ:=()) hdf ht (by rw[hw];exact Br _ _) (fun _ _ W _ hg=>hQ W hg)
 ·rw[M.sz];have:∀p,p∈aSp->p.2<19:=by decide
  exact this p hp
 ·intro γ l a w i H hr;cases γ;have hi:i<10:=by
   obtain⟨_,o,ho,_⟩:=mem_ready.1 hr;have:=(Ai.1 ho).1;rw[hsz] at this;exact this
  have t0':=H.low (s:=0) (by decide) M.t0';have t1':=H.low (s:=1) (by decide) M.t1';have t2':=H.low (s:=2) (by decide) M.t2';have t3':=H.low (s:=3) (by decide) M.t3';have t4:=H.low (s:=4) (by decide) M.t4;have hb:Below C.W0.heap.size C.W0 w:=H.g
  match i,hi,hr with
  |0,_,hr =>
   have kc:=(hb.cell (p:=⟨C.bm,0,none⟩) M.kb).trans M.kc;exact aWj (.load 39 (.tmp 4)) (.func (.func 89) #[] #[]) (fun o h=>by simp[execOp,h,t4,kc,go_sem]) hb
  |1,_,hr =>
   exact aWj (.move (.tmp 0)) (.string ⟨C.a.toArray⟩) (fun o h=>by simp[execOp,h,t0',go_sem]) hb
  |2,_,hr =>
   exact aWj (.move (.tmp 2)) (.string ⟨C.c.toArray⟩) (fun o h=>by simp[execOp,h,t2',go_sem]) hb
  |3,_,hr =>
   have v1:a.tmps[12]?=some (.string ⟨C.a.toArray⟩):=H.dep hr 1 12;have v2:a.tmps[13]?=some (.string ⟨C.c.toArray⟩):=H.dep hr 2 13;have vf:a.tmps[11]?=some (.func (.func 89) #[] #[]):=H.dep hr 0 11;refine gA (f:=89) (lb:=#[]) (c:=.tmp 11) (args:=#[.tmp 12,.tmp 13]) (ts:=#[26,26]) (vs:=#[.string ⟨C.a.toArray⟩,.string ⟨C.c.toArray⟩]) (by kernel_rfl) (oC vf) (aXb func89) (by simp[Act.eval,v1,v2]) ((M.h1 w hb).mono ?_);rintro e w' ⟨rfl,hb'⟩;exact⟨_,(),rfl,rfl,fun _ _=>rfl,aA hb hb'⟩
  |4,_,hr =>
   have kc:=(hb.cell (p:=⟨C.bm,0,none⟩) M.kb).trans M.kc;exact aWj (.load 39 (.tmp 4)) (.func (.func 89) #[] #[]) (fun o h=>by simp[execOp,h,t4,kc,go_sem]) hb
  |5,_,hr =>
   exact aWj (.move (.tmp 1)) (.string ⟨C.b.toArray⟩) (fun o h=>by simp[execOp,h,t1',go_sem]) hb
  |6,_,hr =>
   exact aWj (.move (.tmp 3)) (.string ⟨C.d.toArray⟩) (fun o h=>by simp[execOp,h,t3',go_sem]) hb
  |7,_,hr =>
   have v5:a.tmps[16]?=some (.string ⟨C.b.toArray⟩):=H.dep hr 5 16;have v6:a.tmps[17]?=some (.string ⟨C.d.toArray⟩):=H.dep hr 6 17;have vf:a.tmps[15]?=some (.func (.func 89) #[] #[]):=H.dep hr 4 15;refine gA (f:=89) (lb:=#[]) (c:=.tmp 15) (args:=#[.tmp 16,.tmp 17]) (ts:=#[26,26]) (vs:=#[.string ⟨C.b.toArray⟩,.string ⟨C.d.toArray⟩]) (by kernel_rfl) (oC vf) (aXb func89) (by simp[Act.eval,v5,v6]) ((M.h2 w hb).mono ?_);rintro e w' ⟨rfl,hb'⟩;exact⟨_,(),rfl,rfl,fun _ _=>rfl,aA hb hb'⟩
  |8,_,hr =>
   have v3:a.tmps[14]?=some (.string ⟨C.r1.toArray⟩):=H.dep hr 3 14;exact aWj (.assign (.tmp 14)) (.string ⟨C.r1.toArray⟩) (fun o h=>by simp[execOp,h,v3,go_sem]) hb
  |9,_,hr =>
   have v7:a.tmps[18]?=some (.string ⟨C.r2.toArray⟩):=H.dep hr 7 18;exact aWj (.assign (.tmp 18)) (.string ⟨C.r2.toArray⟩) (fun o h=>by simp[execOp,h,v7,go_sem]) hb
  |n+10,h,_=>exact absurd h (by omega)
end
theorem aTg(a b c d:List UInt8)(bm:Nat)(T:TypeId)(w:World)(hE:iE w)(ha:a.length<=60)(hb:b.length<=60)(hc:c.length<=60)(hd:d.length<=60)(hB:aP w bm #[.func (.func 89) #[] #[]] T):
  Calls prog 92 #[.string ⟨a.toArray⟩,.string ⟨b.toArray⟩,.string ⟨c.toArray⟩,.string ⟨d.toArray⟩,.pointer (some ⟨bm,0,none⟩)] w fun e w'=>e=.returned (.tuple #[.string ⟨(aJ (val a*val c)).toArray⟩,.string ⟨(aJ (val b*val d)).toArray⟩])/\Below w.heap.size w w':=by
 have H1:=Hd (fun W (hb:Below w.heap.size w W)=>Fq a c W (hE.below hb) (by omega) (by omega));have H2:=Hd (fun W (hb:Below w.heap.size w W)=>Fq b d W (hE.below hb) (by omega) (by omega));have HB:=Hd hB;generalize aJ (val a*val c)=r1 at *;generalize aJ (val b*val d)=r2 at *;clear hE ha hb hc hd hB;go_enter func92,ntmps92;go_wp2_with fail;have hbd:Below w.heap.size w (w.drewN 1):=aD (Br _ _) 1;refine aSd (C:=⟨w.drewN 1,bm,a,b,c,d,r1,r2⟩) ?M rfl rfl rfl ?_
 case M=>exact⟨rfl,rfl,rfl,rfl,rfl,rfl,HB.out.1,HB.out.cell 0,fun W h=>H1.out W (hbd.trans h),fun W h=>H2.out W (hbd.trans h)⟩
 intro W hbW;have HBW:=Hd (hbd.trans hbW);clear hbW hbd H1 H2 HB;simp only[iZ,aSp,List.foldl,List.setIfInBounds_toArray,List.set_cons_zero,List.set_cons_succ,aSk.val];go_wp2;go_ret2;exact⟨rfl,HBW.out⟩
noncomputable def aS6:Array Oper:=(f93.body.bind (jE 1)).getD #[]
def aSo:List (Nat×Nat):=[(0,11),(1,12),(2,13),(3,14),(4,15),(5,16),(6,17),(7,18),(8,9),(9,10)]
structure aSj where
 W0:World
 bm:Nat
 a:List UInt8
 b:List UInt8
 c:List UInt8
 d:List UInt8
 r1:List UInt8
 r2:List UInt8
def aSj.val(C:aSj)(_:Unit):Nat->Value
 |0=>.func (.func 89) #[] #[]
 |1=>.string ⟨C.a.toArray⟩
 |2=>.string ⟨C.d.toArray⟩
 |3=>.string ⟨C.r1.toArray⟩
 |4=>.func (.func 89) #[] #[]
 |5=>.string ⟨C.b.toArray⟩
 |6=>.string ⟨C.c.toArray⟩
 |7=>.string ⟨C.r2.toArray⟩
 |8=>.string ⟨C.r1.toArray⟩
 |_=>.string ⟨C.r2.toArray⟩
def aSj.gg(C:aSj)(_:Unit)(_:Array Bool)(W:World):Prop:=Below C.W0.heap.size C.W0 W
structure aTz(C:aSj)(t0:Array Value):Prop where
 sz:t0.size=19
 t0':t0[0]?=some (.string ⟨C.a.toArray⟩)
 t1':t0[1]?=some (.string ⟨C.b.toArray⟩)
 t2':t0[2]?=some (.string ⟨C.c.toArray⟩)
 t3':t0[3]?=some (.string ⟨C.d.toArray⟩)
 t4:t0[4]?=some (.pointer (some ⟨C.bm,0,none⟩))
 kb:C.bm<C.W0.heap.size
 kc:C.W0.cell? ⟨C.bm,0,none⟩=some (.func (.func 89) #[] #[])
 h1:∀W,Below C.W0.heap.size C.W0 W->Calls prog 89 #[.string ⟨C.a.toArray⟩,.string ⟨C.d.toArray⟩] W fun e w'=>e=.returned (.string ⟨C.r1.toArray⟩)/\Below W.heap.size W w'
 h2:∀W,Below C.W0.heap.size C.W0 W->Calls prog 89 #[.string ⟨C.b.toArray⟩,.string ⟨C.c.toArray⟩] W fun e w'=>e=.returned (.string ⟨C.r2.toArray⟩)/\Below W.heap.size W w'
section
variable {C:aSj}{t0:Array Value}{Q:Exit->Act->World->Prop}
theorem aSc(M:aTz C t0){a:Act}{w:World}(hdf:a.defers=[])(ht:a.tmps=t0)(hw:w.drewN 1=C.W0)
  (hQ:∀W,Below C.W0.heap.size C.W0 W->Q .normal { tmps:=iZ (C.val ()) aSo t0,defers:=[] } W):(Code.region 1 aS6 true).wp prog Q a w:=by
 have hsz:aS6.size=10:=by kernel_rfl
 refine eV (ds:=aSo) (val:=C.val) (G:=C.gg) (by kernel_rfl) (by kernel_rfl) (by decide) (fun p hp=>?_) (by kernel_rfl) ?_ (γ:=()) hdf ht (by rw[hw];exact Br _ _) (fun _ _ W _ hg=>hQ W hg)
 ·rw[M.sz];have:∀p,p∈aSo->p.2<19:=by decide
  exact this p hp
 ·intro γ l a w i H hr;cases γ;have hi:i<10:=by
   obtain⟨_,o,ho,_⟩:=mem_ready.1 hr;have:=(Ai.1 ho).1;rw[hsz] at this;exact this
  have t0':=H.low (s:=0) (by decide) M.t0';have t1':=H.low (s:=1) (by decide) M.t1';have t2':=H.low (s:=2) (by decide) M.t2';have t3':=H.low (s:=3) (by decide) M.t3';have t4:=H.low (s:=4) (by decide) M.t4;have hb:Below C.W0.heap.size C.W0 w:=H.g
  match i,hi,hr with
  |0,_,hr =>
   have kc:=(hb.cell (p:=⟨C.bm,0,none⟩) M.kb).trans M.kc;exact aWj (.load 39 (.tmp 4)) (.func (.func 89) #[] #[]) (fun o h=>by simp[execOp,h,t4,kc,go_sem]) hb
  |1,_,hr =>
   exact aWj (.move (.tmp 0)) (.string ⟨C.a.toArray⟩) (fun o h=>by simp[execOp,h,t0',go_sem]) hb
  |2,_,hr =>
   exact aWj (.move (.tmp 3)) (.string ⟨C.d.toArray⟩) (fun o h=>by simp[execOp,h,t3',go_sem]) hb
  |3,_,hr =>
   have v1:a.tmps[12]?=some (.string ⟨C.a.toArray⟩):=H.dep hr 1 12;have v2:a.tmps[13]?=some (.string ⟨C.d.toArray⟩):=H.dep hr 2 13;have vf:a.tmps[11]?=some (.func (.func 89) #[] #[]):=H.dep hr 0 11;refine gA (f:=89) (lb:=#[]) (c:=.tmp 11) (args:=#[.tmp 12,.tmp 13]) (ts:=#[26,26]) (vs:=#[.string ⟨C.a.toArray⟩,.string ⟨C.d.toArray⟩]) (by kernel_rfl) (oC vf) (aXb func89) (by simp[Act.eval,v1,v2]) ((M.h1 w hb).mono ?_);rintro e w' ⟨rfl,hb'⟩;exact⟨_,(),rfl,rfl,fun _ _=>rfl,aA hb hb'⟩
  |4,_,hr =>
   have kc:=(hb.cell (p:=⟨C.bm,0,none⟩) M.kb).trans M.kc;exact aWj (.load 39 (.tmp 4)) (.func (.func 89) #[] #[]) (fun o h=>by simp[execOp,h,t4,kc,go_sem]) hb
  |5,_,hr =>
   exact aWj (.move (.tmp 1)) (.string ⟨C.b.toArray⟩) (fun o h=>by simp[execOp,h,t1',go_sem]) hb
  |6,_,hr =>
   exact aWj (.move (.tmp 2)) (.string ⟨C.c.toArray⟩) (fun o h=>by simp[execOp,h,t2',go_sem]) hb
  |7,_,hr =>
   have v5:a.tmps[16]?=some (.string ⟨C.b.toArray⟩):=H.dep hr 5 16;have v6:a.tmps[17]?=some (.string ⟨C.c.toArray⟩):=H.dep hr 6 17;have vf:a.tmps[15]?=some (.func (.func 89) #[] #[]):=H.dep hr 4 15;refine gA (f:=89) (lb:=#[]) (c:=.tmp 15) (args:=#[.tmp 16,.tmp 17]) (ts:=#[26,26]) (vs:=#[.string ⟨C.b.toArray⟩,.string ⟨C.c.toArray⟩]) (by kernel_rfl) (oC vf) (aXb func89) (by simp[Act.eval,v5,v6]) ((M.h2 w hb).mono ?_);rintro e w' ⟨rfl,hb'⟩;exact⟨_,(),rfl,rfl,fun _ _=>rfl,aA hb hb'⟩
  |8,_,hr =>
   have v3:a.tmps[14]?=some (.string ⟨C.r1.toArray⟩):=H.dep hr 3 14;exact aWj (.assign (.tmp 14)) (.string ⟨C.r1.toArray⟩) (fun o h=>by simp[execOp,h,v3,go_sem]) hb
  |9,_,hr =>
   have v7:a.tmps[18]?=some (.string ⟨C.r2.toArray⟩):=H.dep hr 7 18;exact aWj (.assign (.tmp 18)) (.string ⟨C.r2.toArray⟩) (fun o h=>by simp[execOp,h,v7,go_sem]) hb
  |n+10,h,_=>exact absurd h (by omega)
end
theorem aTf(a b c d:List UInt8)(bm:Nat)(T:TypeId)(w:World)(hE:iE w)(ha:a.length<=60)(hb:b.length<=60)(hc:c.length<=60)(hd:d.length<=60)(hB:aP w bm #[.func (.func 89) #[] #[]] T):
  Calls prog 93 #[.string ⟨a.toArray⟩,.string ⟨b.toArray⟩,.string ⟨c.toArray⟩,.string ⟨d.toArray⟩,.pointer (some ⟨bm,0,none⟩)] w fun e w'=>e=.returned (.tuple #[.string ⟨(aJ (val a*val d)).toArray⟩,.string ⟨(aJ (val b*val c)).toArray⟩])/\Below w.heap.size w w':=by
 have H1:=Hd (fun W (hb:Below w.heap.size w W)=>Fq a d W (hE.below hb) (by omega) (by omega));have H2:=Hd (fun W (hb:Below w.heap.size w W)=>Fq b c W (hE.below hb) (by omega) (by omega));have HB:=Hd hB;generalize aJ (val a*val d)=r1 at *;generalize aJ (val b*val c)=r2 at *;clear hE ha hb hc hd hB;go_enter func93,ntmps93;go_wp2_with fail;have hbd:Below w.heap.size w (w.drewN 1):=aD (Br _ _) 1;refine aSc (C:=⟨w.drewN 1,bm,a,b,c,d,r1,r2⟩) ?M rfl rfl rfl ?_
 case M=>exact⟨rfl,rfl,rfl,rfl,rfl,rfl,HB.out.1,HB.out.cell 0,fun W h=>H1.out W (hbd.trans h),fun W h=>H2.out W (hbd.trans h)⟩
 intro W hbW;have HBW:=Hd (hbd.trans hbW);clear hbW hbd H1 H2 HB;simp only[iZ,aSo,List.foldl,List.setIfInBounds_toArray,List.set_cons_zero,List.set_cons_succ,aSj.val];go_wp2;go_ret2;exact⟨rfl,HBW.out⟩
theorem aSh(n d n' d':List UInt8)(bm:Nat)(T:TypeId)(w:World)(hE:iE w)(hn:n.length<=60)(hd:d.length<=60)(hn':n'.length<=60)(hd':d'.length<=60)(hB:aP w bm #[.func (.func 89) #[] #[]] T):
  Calls prog 52 #[.func (.func 92) #[] #[.pointer (some ⟨bm,0,none⟩)],.agg #[.string ⟨n.toArray⟩,.string ⟨d.toArray⟩],.agg #[.string ⟨n'.toArray⟩,.string ⟨d'.toArray⟩]] w fun e w'=>e=.returned (.agg #[.string ⟨(aJ (eT (aQj n n') (aQk d d'))).toArray⟩,.string ⟨(nD (fT (aQj n n') (aQk d d'))).toArray⟩])/\Below w.heap.size w w':=by
 have HE:=Hd hE;have HP1:=Hd (fun W=>rD n d W (by omega));have HP2:=Hd (fun W=>rD n' d' W (by omega));have dl:=qR (d:=d) (K:=60) (by decide) hd;have dl':=qR (d:=d') (K:=60) (by decide) hd';have HO:=Hd (fun W hE hB=>aTg n (jN d) n' (jN d') bm T W hE hn dl hn' dl' hB);have m1:=lE (l:=n) (m:=n') hn hn' (by decide);have m3:=lE (l:=jN d) (m:=jN d') dl dl' (by decide);have HM:=Hd (fun W hE=>zH (aJ (val n*val n')) (aJ (val (jN d)*val (jN d'))) W hE (by omega) (by omega) (by rw[bE,iH,iH];exact Int.mul_ne_zero (qQ d) (qQ d')));rw[bE,bE] at HM;simp only[iH] at HO HM;rw[show val n*val n'=aQj n n' from rfl,show lU d*lU d'=aQk d d' from rfl] at HO HM;generalize aJ (eT (aQj n n') (aQk d d'))=rn at *;generalize nD (fT (aQj n n') (aQk d d'))=rd at *;generalize aJ (aQj n n')=sn at *;generalize aJ (aQk d d')=sd at *;generalize jN d=ds at *;generalize jN d'=ds' at *;have HBX:=Hd hB;clear hE m1 m3 dl dl' hB;go_enter func52,ntmps52;go_wp2_with fail;refine(HP1.out _).mono ?_;rintro e w1 ⟨rfl,hb1⟩;obtain⟨q1,q2,q3⟩:=Aw (n:=0) hb1;have k0:=aS q2 0;have k1:=aS q2 1;have HB1:=Hd (aA ((((Br w.heap.size w).alloc (Nl _) _).alloc (by simp) _).alloc (by simp;omega) _) hb1);have KR:aP w1 (w.heap.size+1+1) #[.string ⟨#[]⟩,.string ⟨#[]⟩] _:=⟨(Ai.1 q3).1,q3⟩
 have KR:=Hd KR;clear q1 q2 q3 hb1;go_wp2_with fail;refine(HP2.out _).mono ?_;rintro e w2 ⟨rfl,hb2⟩;have HB2:=Hd (aA HB1.out hb2);have KR2:=Hd (KR.out.below hb2);clear hb2 KR k0 k1 HB1;go_wp2_with fail;refine(HO.out _ (HE.out.below HB2.out) (HBX.out.below HB2.out)).mono ?_;rintro e w3 ⟨rfl,hb3⟩;have HB3:=Hd (aA HB2.out hb3);have KR3:=Hd (KR2.out.below hb3);clear hb3 KR2 HB2;go_wp2_with fail;refine(HM.out _ (HE.out.below HB3.out)).mono ?_;rintro e w4 ⟨rfl,hb4⟩;have HB4:=Hd (aA HB3.out hb4);have KR4:=KR3.out.below hb4;have k0:=KR4.cell 0;have k1:=KR4.cell 1;have f0:=aR KR4.2 0;have f1:=aR KR4.2 1;clear hb4 KR3 HB3 KR4;go_wp2;exact bodyPost_ret (v:=.agg #[.string ⟨rn.toArray⟩,.string ⟨rd.toArray⟩]) (by simp[results,results52,go_sem,k0,k1]) rfl ⟨rfl,(HB4.out.setCell (p:=⟨w.heap.size+1+1,0,none⟩) (by show _<=w.heap.size+1+1;omega) _).setCell (p:=⟨w.heap.size+1+1,1,none⟩) (by show _<=w.heap.size+1+1;omega) _⟩
theorem aSg(n d n' d':List UInt8)(bm:Nat)(T:TypeId)(w:World)(hE:iE w)(hn:n.length<=60)(hd:d.length<=60)(hn':n'.length<=60)(hd':d'.length<=60)(h0:val n'≠0)(hB:aP w bm #[.func (.func 89) #[] #[]] T):
  Calls prog 52 #[.func (.func 93) #[] #[.pointer (some ⟨bm,0,none⟩)],.agg #[.string ⟨n.toArray⟩,.string ⟨d.toArray⟩],.agg #[.string ⟨n'.toArray⟩,.string ⟨d'.toArray⟩]] w fun e w'=>e=.returned (.agg #[.string ⟨(aJ (eT (aP5 n d') (aP2 d n'))).toArray⟩,.string ⟨(nD (fT (aP5 n d') (aP2 d n'))).toArray⟩])/\Below w.heap.size w w':=by
 have HE:=Hd hE;have HP1:=Hd (fun W=>rD n d W (by omega));have HP2:=Hd (fun W=>rD n' d' W (by omega));have dl:=qR (d:=d) (K:=60) (by decide) hd;have dl':=qR (d:=d') (K:=60) (by decide) hd';have HO:=Hd (fun W hE hB=>aTf n (jN d) n' (jN d') bm T W hE hn dl hn' dl' hB);have m1:=lE (l:=n) (m:=jN d') hn dl' (by decide);have m3:=lE (l:=jN d) (m:=n') dl hn' (by decide);have HM:=Hd (fun W hE=>zH (aJ (val n*val (jN d'))) (aJ (val (jN d)*val n')) W hE (by omega) (by omega) (by rw[bE,iH];exact Int.mul_ne_zero (qQ d) h0));rw[bE,bE] at HM;simp only[iH] at HO HM;rw[show val n*lU d'=aP5 n d' from rfl,show lU d*val n'=aP2 d n' from rfl] at HO HM;generalize aJ (eT (aP5 n d') (aP2 d n'))=rn at *;generalize nD (fT (aP5 n d') (aP2 d n'))=rd at *;generalize aJ (aP5 n d')=sn at *;generalize aJ (aP2 d n')=sd at *;generalize jN d=ds at *;generalize jN d'=ds' at *;have HBX:=Hd hB;clear hE m1 m3 dl dl' hB;go_enter func52,ntmps52;go_wp2_with fail;refine(HP1.out _).mono ?_;rintro e w1 ⟨rfl,hb1⟩;obtain⟨q1,q2,q3⟩:=Aw (n:=0) hb1;have k0:=aS q2 0;have k1:=aS q2 1;have HB1:=Hd (aA ((((Br w.heap.size w).alloc (Nl _) _).alloc (by simp) _).alloc (by simp;omega) _) hb1);have KR:aP w1 (w.heap.size+1+1) #[.string ⟨#[]⟩,.string ⟨#[]⟩] _:=⟨(Ai.1 q3).1,q3⟩
 have KR:=Hd KR;clear q1 q2 q3 hb1;go_wp2_with fail;refine(HP2.out _).mono ?_;rintro e w2 ⟨rfl,hb2⟩;have HB2:=Hd (aA HB1.out hb2);have KR2:=Hd (KR.out.below hb2);clear hb2 KR k0 k1 HB1;go_wp2_with fail;refine(HO.out _ (HE.out.below HB2.out) (HBX.out.below HB2.out)).mono ?_;rintro e w3 ⟨rfl,hb3⟩;have HB3:=Hd (aA HB2.out hb3);have KR3:=Hd (KR2.out.below hb3);clear hb3 KR2 HB2;go_wp2_with fail;refine(HM.out _ (HE.out.below HB3.out)).mono ?_;rintro e w4 ⟨rfl,hb4⟩;have HB4:=Hd (aA HB3.out hb4);have KR4:=KR3.out.below hb4;have k0:=KR4.cell 0;have k1:=KR4.cell 1;have f0:=aR KR4.2 0;have f1:=aR KR4.2 1;clear hb4 KR3 HB3 KR4;go_wp2;exact bodyPost_ret (v:=.agg #[.string ⟨rn.toArray⟩,.string ⟨rd.toArray⟩]) (by simp[results,results52,go_sem,k0,k1]) rfl ⟨rfl,(HB4.out.setCell (p:=⟨w.heap.size+1+1,0,none⟩) (by show _<=w.heap.size+1+1;omega) _).setCell (p:=⟨w.heap.size+1+1,1,none⟩) (by show _<=w.heap.size+1+1;omega) _⟩
theorem aQb(w:World):
  Calls prog 53 #[] w fun e w'=>∃f0 f1 bm,e=.returned (.agg #[f0,f1,.func (.func 92) #[] #[.pointer (some ⟨bm,0,none⟩)],.func (.func 93) #[] #[.pointer (some ⟨bm,0,none⟩)]])/\(∃T,aP w' bm #[.func (.func 89) #[] #[]] T)/\Below w.heap.size w w':=by
 go_enter func53,ntmps53;go_wp2;refine bodyPost_ret (v:=.agg #[.func (.func 90) #[] #[.pointer (some ⟨w.heap.size+1,0,none⟩)],.func (.func 91) #[] #[.pointer (some ⟨w.heap.size+1,0,none⟩)],.func (.func 92) #[] #[.pointer (some ⟨w.heap.size+1,0,none⟩)],.func (.func 93) #[] #[.pointer (some ⟨w.heap.size+1,0,none⟩)]]) (by simp[results,results53,go_sem]) rfl ⟨_,_,w.heap.size+1,rfl,?_,?_⟩
 ·refine⟨39,?_⟩;have h:=aP.new0 (w.alloc (.cells #[.func (.func 90) #[] #[.pointer (some ⟨w.heap.size+1,0,none⟩)],.func (.func 91) #[] #[.pointer (some ⟨w.heap.size+1,0,none⟩)],.func (.func 92) #[] #[.pointer (some ⟨w.heap.size+1,0,none⟩)],.func (.func 93) #[] #[.pointer (some ⟨w.heap.size+1,0,none⟩)]] 89)) #[.func (.func 89) #[] #[]] 39;rw[World.size_alloc] at h;exact h
 ·exact((Br _ _).alloc (Nl _) _).alloc (by simp) _
theorem aQy(n d n' d':List UInt8)(w:World)(hE:iE w)(hn:n.length<=60)(hd:d.length<=60)(hn':n'.length<=60)(hd':d'.length<=60):
  Calls prog 14 #[.agg #[.string ⟨n.toArray⟩,.string ⟨d.toArray⟩],.agg #[.string ⟨n'.toArray⟩,.string ⟨d'.toArray⟩]] w fun e w'=>e=.returned (.agg #[.string ⟨(aJ (eT (aQj n n') (aQk d d'))).toArray⟩,.string ⟨(nD (fT (aQj n n') (aQk d d'))).toArray⟩])/\Below w.heap.size w w':=by
 have HE:=Hd hE;have HA:=Hd (fun bm T W hE hB=>aSh n d n' d' bm T W hE hn hd hn' hd' hB);generalize aJ (eT (aQj n n') (aQk d d'))=rn at *;generalize nD (fT (aQj n n') (aQk d d'))=rd at *;clear hE hn hd hn' hd';have hix:∀(f0 f1 f2 f3:Value) (W:World),(Instr.index 89 (.agg #[f0,f1,f2,f3]) (.int .i64 2)).run prog W=.ok f2 W:=fun _ _ _ _ _=>by kernel_rfl
 have HB:=Hd (fun o1 o2 o3 n=>show Below w.heap.size w ((((w.alloc o1).alloc o2).alloc o3).drewN n) from aD ((((Br _ _).alloc (Nl _) _).alloc (by simp) _).alloc (by simp;omega) _) n);go_enter func14,ntmps14;go_wp2_with fail;go_region_held3 (fun W=>W.cell? ⟨w.heap.size,0,none⟩=some (.string ⟨n.toArray⟩)/\W.cell? ⟨w.heap.size,1,none⟩=some (.string ⟨d.toArray⟩)/\W.cell? ⟨w.heap.size+1,0,none⟩=some (.string ⟨n'.toArray⟩)/\W.cell? ⟨w.heap.size+1,1,none⟩=some (.string ⟨d'.toArray⟩))
  (first|exact⟨j0,j1,j2,j3⟩|exact⟨k0,k1,k2,k3⟩|exact⟨(dM _ _ (by omega)).trans j0,(dM _ _ (by omega)).trans j1,(dM _ _ (by omega)).trans j2,(dM _ _ (by omega)).trans j3⟩|go_keep)
  (first|(go_at_call 53;refine(aQb _).mono ?_;rintro e w1 ⟨f0,f1,bm,rfl,⟨T,hBm⟩,hb1⟩;obtain⟨q1,q2,q3⟩:=Aw (n:=1) hb1;have k0:=aS q1 0;have k1:=aS q1 1;have k2:=aS q2 0;have k3:=aS q2 1;have Q3:=Hd (show aP w1 (w.heap.size+1+1) _ _ from⟨(Ai.1 q3).1,q3⟩);have l1:=(Ai.1 q1).1;have l2:=(Ai.1 q2).1;have HB1:=Hd (aA (HB.out _ _ _ 1) hb1);have HBM:=Hd hBm;clear q1 q2 q3 hb1 hBm)|(go_at_call 52;refine(HA.out bm T _ (HE.out.below HB1.out) HBM.out).mono ?_;rintro e w2 ⟨rfl,hb2⟩;have j0:=(hb2.cell (p:=⟨w.heap.size,0,none⟩) l1).trans k0;have j1:=(hb2.cell (p:=⟨w.heap.size,1,none⟩) l1).trans k1;have j2:=(hb2.cell (p:=⟨w.heap.size+1,0,none⟩) l2).trans k2;have j3:=(hb2.cell (p:=⟨w.heap.size+1,1,none⟩) l2).trans k3;have KR:=Q3.out.below hb2;have r0:=KR.cell 0;have r1:=KR.cell 1;have g0:=aR KR.2 0;have g1:=aR KR.2 1;have HB2:=Hd (aA HB1.out hb2);clear KR hb2))
 go_wp2;exact bodyPost_ret (v:=.agg #[.string ⟨rn.toArray⟩,.string ⟨rd.toArray⟩]) (by simp[results,results14,go_sem,r0,r1]) rfl ⟨rfl,(HB2.out.setCell (p:=⟨w.heap.size+1+1,0,none⟩) (by show _<=w.heap.size+1+1;omega) _).setCell (p:=⟨w.heap.size+1+1,1,none⟩) (by show _<=w.heap.size+1+1;omega) _⟩
theorem aTj{z:Int}(h:z≠0):(bG z 0==0)=false:=by
 unfold bG;split
 ·rfl
 ·split
  ·rfl
  ·omega
theorem aRo(n d n' d':List UInt8)(w:World)(hn':n'.length<=60)(h0:val n'=0):
  Calls prog 51 #[.agg #[.string ⟨n.toArray⟩,.string ⟨d.toArray⟩],.agg #[.string ⟨n'.toArray⟩,.string ⟨d'.toArray⟩]] w fun e w'=>e=.returned (.tuple #[.agg #[.string ⟨#[]⟩,.string ⟨#[]⟩],.int .i64 10])/\Below w.heap.size w w':=by
 have HC:=Hd (fun W=>nV n' [] W (by omega) (by simp));rw[h0,show val []=0 from rfl,show bG 0 0=0 from rfl] at HC;clear h0 hn';go_enter func51,ntmps51;go_wp2_with fail;refine(HC.out _).mono ?_;rintro e w1 ⟨rfl,hb1⟩;obtain⟨q1,q2,q3⟩:=Aw (n:=0) hb1;have HB1:=Hd (aA ((((Br w.heap.size w).alloc (Nl _) _).alloc (by simp) _).alloc (by simp;omega) _) hb1);have KR:aP w1 (w.heap.size+1+1) #[.string ⟨#[]⟩,.string ⟨#[]⟩] _:=⟨(Ai.1 q3).1,q3⟩
 have k0:=KR.cell 0;have k1:=KR.cell 1;have f0:=aR KR.2 0;have f1:=aR KR.2 1;clear q1 q2 q3 hb1 KR;go_wp2;exact bodyPost_ret (v:=.tuple #[.agg #[.string ⟨#[]⟩,.string ⟨#[]⟩],.int .i64 10]) (by simp[results,results51,go_sem,k0,k1]) rfl ⟨rfl,(HB1.out.setCell (p:=⟨w.heap.size+1+1,0,none⟩) (by show _<=w.heap.size+1+1;omega) _).setCell (p:=⟨w.heap.size+1+1,1,none⟩) (by show _<=w.heap.size+1+1;omega) _⟩
theorem aR2(n d n' d':List UInt8)(w:World)(hE:iE w)(hn:n.length<=60)(hd:d.length<=60)(hn':n'.length<=60)(hd':d'.length<=60)(h0:val n'≠0):
  Calls prog 51 #[.agg #[.string ⟨n.toArray⟩,.string ⟨d.toArray⟩],.agg #[.string ⟨n'.toArray⟩,.string ⟨d'.toArray⟩]] w fun e w'=>e=.returned (.tuple #[.agg #[.string ⟨(aJ (eT (aP5 n d') (aP2 d n'))).toArray⟩,.string ⟨(nD (fT (aP5 n d') (aP2 d n'))).toArray⟩],.int .i64 0])/\Below w.heap.size w w':=by
 have HE:=Hd hE;have HA:=Hd (fun bm T W hE hB=>aSg n d n' d' bm T W hE hn hd hn' hd' h0 hB);have HC:=Hd (fun W=>nV n' [] W (by omega) (by simp));rw[show val []=0 from rfl] at HC;have hz:=aTj h0;generalize bG (val n') 0=cv at *;generalize aJ (eT (aP5 n d') (aP2 d n'))=rn at *;generalize nD (fT (aP5 n d') (aP2 d n'))=rd at *;clear hE hn hd hn' hd' h0;have hix:∀(f0 f1 f2 f3:Value) (W:World),(Instr.index 89 (.agg #[f0,f1,f2,f3]) (.int .i64 3)).run prog W=.ok f3 W:=fun _ _ _ _ _=>by kernel_rfl
 go_enter func51,ntmps51;go_wp2_with fail;refine(HC.out _).mono ?_;rintro e w0 ⟨rfl,hb0⟩;obtain⟨q1,q2,q3⟩:=Aw (n:=0) hb0;have HB0:=Hd (aA ((((Br w.heap.size w).alloc (Nl _) _).alloc (by simp) _).alloc (by simp;omega) _) hb0);have KX:=Hd (show aP w0 w.heap.size _ _ from⟨(Ai.1 q1).1,q1⟩);have KY:=Hd (show aP w0 (w.heap.size+1) _ _ from⟨(Ai.1 q2).1,q2⟩);have KR:=Hd (show aP w0 (w.heap.size+1+1) _ _ from⟨(Ai.1 q3).1,q3⟩);clear q1 q2 q3 hb0 HC;have i0:=KX.out.cell 0;have i1:=KX.out.cell 1;have i2:=KY.out.cell 0;have i3:=KY.out.cell 1;go_wp2_with fail;go_region_held3 (fun W=>W.cell? ⟨w.heap.size,0,none⟩=some (.string ⟨n.toArray⟩)/\W.cell? ⟨w.heap.size,1,none⟩=some (.string ⟨d.toArray⟩)/\W.cell? ⟨w.heap.size+1,0,none⟩=some (.string ⟨n'.toArray⟩)/\W.cell? ⟨w.heap.size+1,1,none⟩=some (.string ⟨d'.toArray⟩))
  (first|exact⟨i0,i1,i2,i3⟩|exact⟨j0,j1,j2,j3⟩|exact⟨k0,k1,k2,k3⟩|exact⟨(dM _ _ (by omega)).trans j0,(dM _ _ (by omega)).trans j1,(dM _ _ (by omega)).trans j2,(dM _ _ (by omega)).trans j3⟩|go_keep)
  (first|(go_at_call 53;refine(aQb _).mono ?_;rintro e w1 ⟨f0,f1,bm,rfl,⟨T,hBm⟩,hb1⟩;have KX1:=aP.below (w:=w0.drewN 1) KX.out hb1;have KY1:=aP.below (w:=w0.drewN 1) KY.out hb1;have KR1:=Hd (aP.below (w:=w0.drewN 1) KR.out hb1);have k0:=KX1.cell 0;have k1:=KX1.cell 1;have k2:=KY1.cell 0;have k3:=KY1.cell 1;have l1:=KX1.1;have l2:=KY1.1;have HB1:=Hd (aA (aD HB0.out 1) hb1);have HBM:=Hd hBm;clear KX1 KY1 hb1 hBm)|(go_at_call 52;refine(HA.out bm T _ (HE.out.below HB1.out) HBM.out).mono ?_;rintro e w2 ⟨rfl,hb2⟩;have j0:=(hb2.cell (p:=⟨w.heap.size,0,none⟩) l1).trans k0;have j1:=(hb2.cell (p:=⟨w.heap.size,1,none⟩) l1).trans k1;have j2:=(hb2.cell (p:=⟨w.heap.size+1,0,none⟩) l2).trans k2;have j3:=(hb2.cell (p:=⟨w.heap.size+1,1,none⟩) l2).trans k3;have KR2:=KR1.out.below hb2;have r0:=KR2.cell 0;have r1:=KR2.cell 1;have g0:=aR KR2.2 0;have g1:=aR KR2.2 1;have HB2:=Hd (aA HB1.out hb2);clear KR2 hb2))
 go_wp2;exact bodyPost_ret (v:=.tuple #[.agg #[.string ⟨rn.toArray⟩,.string ⟨rd.toArray⟩],.int .i64 0]) (by simp[results,results51,go_sem,r0,r1]) rfl ⟨rfl,(HB2.out.setCell (p:=⟨w.heap.size+1+1,0,none⟩) (by show _<=w.heap.size+1+1;omega) _).setCell (p:=⟨w.heap.size+1+1,1,none⟩) (by show _<=w.heap.size+1+1;omega) _⟩
end
section
open Go Go.RowKit Num
theorem aRs(z:Int):eT z 1=z:=by unfold eT gE;simp
theorem aRt(z:Int):fT z 1=1:=by unfold fT gE;simp
theorem aQz(z:Int):(aJ z == [])=decide (z=0):=by
 by_cases h:z=0
 ·subst h;rw[nA];rfl
 ·have:aJ z ≠ []:=fun e=>h (by rw[<-bE z,e];rfl)
  simp[h,this]
theorem aQ4{l:List UInt8}(h:0<=val l):dD l=false:=by
 rw[Gv];simp;omega
theorem aQ8(l:List UInt8)(w:World)(hE:iE w)(hl:l.length<=200):
  Calls prog 15 #[.string ⟨l.toArray⟩] w fun e w'=>e=.returned (.agg #[.string ⟨(aJ (val l)).toArray⟩,.string ⟨#[]⟩])/\Below w.heap.size w w':=by
 have HM:=Hd (fun W hE=>zH l [49] W hE hl (by decide) (by decide));rw[jB,aRs,aRt,oO] at HM;have HE:=Hd hE;generalize aJ (val l)=cl at *;clear hE;go_enter func15,ntmps15;go_wp2_with fail;refine(HM.out _ (HE.out.below (aB w _))).mono ?_;rintro e w1 ⟨rfl,hb1⟩;have q:=sT (n:=0) hb1;have k0:=aS q 0;have k1:=aS q 1;have f0:=aR q 0;have f1:=aR q 1;have HB1:=Hd (aA (aB w (.cells #[.string ⟨#[]⟩,.string ⟨#[]⟩] 28)) hb1);clear hb1 q;go_wp2;exact bodyPost_ret (v:=.agg #[.string ⟨cl.toArray⟩,.string ⟨#[]⟩]) (by simp[results,results15,go_sem,k0,k1]) rfl ⟨rfl,(HB1.out.setCell (p:=⟨w.heap.size,0,none⟩) (Nl _) _).setCell (p:=⟨w.heap.size,1,none⟩) (Nl _) _⟩
theorem aRe(n d:List UInt8)(w:World)(hE:iE w)(hn:n.length<=200)(hd:d.length<=200):
  Calls prog 95 #[.agg #[.string ⟨n.toArray⟩,.string ⟨d.toArray⟩]] w fun e w'=>e=.returned (.tuple #[.string ⟨(aJ (eT (val n) (lU d))).toArray⟩,.string ⟨(aJ (fT (val n) (lU d))).toArray⟩])/\Below w.heap.size w w':=by
 have HE:=Hd hE;have HP:=Hd (fun W=>rD n d W (by omega));have HRD:=Hd (fun W hE=>Gf n (jN d) W hE hn (qR (K:=200) (by decide) hd) (by rw[iH];exact qQ d));rw[iH] at HRD;generalize aJ (eT (val n) (lU d))=r1 at *;generalize aJ (fT (val n) (lU d))=r2 at *;generalize jN d=ds at *;clear hE;go_enter func95,ntmps95;go_wp2_with fail;refine(HP.out _).mono ?_;rintro e w1 ⟨rfl,hb1⟩;have HB1:=Hd (aA (aB w (.cells #[.string ⟨n.toArray⟩,.string ⟨d.toArray⟩] 28)) hb1);clear hb1 HP;go_wp2_with fail;refine(HRD.out _ (HE.out.below HB1.out)).mono ?_;rintro e w2 ⟨rfl,hb2⟩;have HB2:=Hd (aA HB1.out hb2);clear hb2;go_wp2;go_ret2;exact⟨rfl,HB2.out⟩
theorem aS8(l:List UInt8)(w:World)(hE:iE w)(hl:l.length<=1000)(h0:0<=val l):
  Calls prog 97 #[.string ⟨l.toArray⟩] w fun e w'=>e=.returned (.bool (decide ((val l).fmod 2=0)))/\Below w.heap.size w w':=by
 have HD:=Hd (Ry l [50] w hE (by omega) (by decide) (by decide) (.inl ((aQ4 h0).trans (by decide))));rw[show val [50]=2 from by decide] at HD;have hz:=aQz ((val l).fmod 2);generalize aJ ((val l).fmod 2)=r at *;generalize aJ ((val l).fdiv 2)=q at *;generalize decide ((val l).fmod 2=0)=b at *;clear hE hl h0;go_enter func97,ntmps97;go_wp2_with fail;refine HD.out.mono ?_;rintro e w1 ⟨rfl,hb1⟩;have HB1:=Hd hb1;clear hb1 HD;go_wp2;go_ret;exact⟨by rw[<-hz];rfl,HB1.out⟩
def aQ3(N D:Int):Int:=if D<N.fmod D+N.fmod D∨(N.fmod D+N.fmod D=D/\¬ (N.fdiv D).fmod 2=0) then N.fdiv D+1 else N.fdiv D
theorem aSs(n d:List UInt8)(w:World)(hE:iE w)(hn:n.length<=130)(hd:d.length<=130)(h0:0<=eT (val n) (lU d))(h1:0<fT (val n) (lU d)):
  Calls prog 55 #[.agg #[.string ⟨n.toArray⟩,.string ⟨d.toArray⟩],.int .i64 1] w fun e w'=>e=.returned (.tuple #[.string ⟨(aJ (aQ3 (eT (val n) (lU d)) (fT (val n) (lU d)))).toArray⟩,.int .i64 0])/\Below w.heap.size w w':=by
 have HE:=Hd hE;have HP:=Hd (fun W hE=>aRe n d W hE (by omega) (by omega));have lp:(aJ (eT (val n) (lU d))).length<=131:=uE (K:=130) (by decide) (Sy (qQ d)) rfl hn;have lq:(aJ (fT (val n) (lU d))).length<=131:=uE (K:=130) (by decide) (Tk (qQ d)) (iH d).symm (qR (K:=130) (by decide) hd);generalize eT (val n) (lU d)=N at *;generalize fT (val n) (lU d)=D at *;have hlow:0<=N.fdiv D:=by rw[Int.fdiv_eq_ediv_of_nonneg _ (by omega)];exact Int.ediv_nonneg h0 (by omega)
 have hrl:0<=N.fmod D/\N.fmod D<D:=⟨Int.fmod_nonneg_of_pos _ h1,Int.fmod_lt_of_pos _ h1⟩
 have hlowle:N.fdiv D<=N:=by rw[Int.fdiv_eq_ediv_of_nonneg _ (by omega)];exact Int.ediv_le_self _ h0
 have abN:N.natAbs<10^131:=by have:=lO lp;rwa [bE] at this
 have abD:D.natAbs<10^131:=by have:=lO lq;rwa [bE] at this
 have ll:(aJ (N.fdiv D)).length<=132:=gC (by decide) (Nat.lt_of_le_of_lt (by omega) abN);have lr:(aJ (N.fmod D)).length<=132:=gC (by decide) (Nat.lt_of_le_of_lt (by omega) abD);have HDV:=Hd (fun W hE=>Ry (aJ N) (aJ D) W hE (by omega) (by omega) (by rw[bE];omega) (.inl ((aQ4 (by rw[bE];exact h0)).trans (aQ4 (by rw[bE];omega)).symm)));rw[bE,bE] at HDV;have HAD:=Hd (fun W hE=>aAg (aJ (N.fdiv D)) [49] W hE (by omega) (by decide));rw[bE,jB] at HAD;have HRR:=Hd (fun W hE=>aAg (aJ (N.fmod D)) (aJ (N.fmod D)) W hE (by omega) (by omega));rw[bE] at HRR;have HCN:=Hd (fun W=>nV (aJ N) [] W (by omega) (by simp));rw[bE,show val []=0 from rfl] at HCN;have l2:(aJ (N.fmod D+N.fmod D)).length<=134:=gC (by decide) (by omega);have HCH:=Hd (fun W=>nV (aJ (N.fmod D+N.fmod D)) (aJ D) W (by omega) (by omega));rw[bE,bE] at HCH;have HEV:=Hd (fun W hE=>aS8 (aJ (N.fdiv D)) W hE (by omega) (by rw[bE];exact hlow));rw[bE] at HEV;have hz:=aQz (N.fmod D);have HRV:Hid (aQ3 N D=if D<N.fmod D+N.fmod D∨(N.fmod D+N.fmod D=D/\¬ (N.fdiv D).fmod 2=0) then N.fdiv D+1 else N.fdiv D):=rfl;have HR0:=Hd hrl;generalize aQ3 N D=rv at *;have hc:bG (N.fmod D+N.fmod D) D=if N.fmod D+N.fmod D<D then -1 else if D<N.fmod D+N.fmod D then 1 else 0:=rfl
 clear abN abD hlow hlowle ll lr l2 lp lq hE hn hd h0 hrl;generalize N.fdiv D=lo at *;generalize N.fmod D=r at *;generalize bG N 0=cn at *;generalize bG (r+r) D=ch at *;obtain⟨ev,hev⟩:∃ev,ev=decide (lo.fmod 2=0):=⟨_,rfl⟩
 rw[<-hev] at HEV
 by_cases hr:r=0
 ·subst hr;have hR:=HR0.out;have HV:Hid (rv=lo):=by show _=_;rw[HRV.out,if_neg (by rintro(h|⟨h,_⟩) <;> omega)]
  have hch:ch = -1:=by rw[hc,if_pos (by omega)]
  have hz':(aJ (0:Int) == [])=true:=by rw[hz];rfl
  subst hch;clear hz hc hR HR0 HRV HEV HAD;generalize aJ (0:Int)=sr at *;go_enter func55,ntmps55;have HB0:=Hd (aB w (.cells #[.string ⟨n.toArray⟩,.string ⟨d.toArray⟩] 28));go_wp2_with fail;refine(HP.out _ (HE.out.below HB0.out)).mono ?_;rintro e w1 ⟨rfl,hb⟩;have HB1:=Hd (aA HB0.out hb);clear hb HP HB0;go_wp2_with fail;refine(HDV.out _ (HE.out.below HB1.out)).mono ?_;rintro e w2 ⟨rfl,hb⟩;have HB2:=Hd (aA HB1.out hb);clear hb HDV HB1;go_wp2_with fail;refine(HCN.out _).mono ?_;rintro e w4 ⟨rfl,hb⟩;have HB4:=Hd (aA HB2.out hb);clear hb HCN;go_wp2_with fail;refine(HRR.out _ (HE.out.below HB4.out)).mono ?_;rintro e w5 ⟨rfl,hb⟩;have HB5:=Hd (aA HB4.out hb);clear hb HRR HB4;go_wp2_with fail;refine(HCH.out _).mono ?_;rintro e w6 ⟨rfl,hb⟩;have HB6:=Hd (aA HB5.out hb);clear hb HCH HB5;go_wp2;go_ret2;exact⟨by rw[HV.out];rfl,HB6.out⟩
 ·have hz':(aJ r == [])=false:=by rw[hz];simpa using hr
  rcases Int.lt_trichotomy (r+r) D with h|h|h
  ·have HV:Hid (rv=lo):=by show _=_;rw[HRV.out,if_neg (by rintro(h'|⟨h',_⟩) <;> omega)]
   have hch:ch = -1:=by rw[hc,if_pos h]
   subst hch;clear HEV;clear hz hc HR0 HRV h hr;go_enter func55,ntmps55;have HB0:=Hd (aB w (.cells #[.string ⟨n.toArray⟩,.string ⟨d.toArray⟩] 28));go_wp2_with fail;refine(HP.out _ (HE.out.below HB0.out)).mono ?_;rintro e w1 ⟨rfl,hb⟩;have HB1:=Hd (aA HB0.out hb);clear hb HP HB0;go_wp2_with fail;refine(HDV.out _ (HE.out.below HB1.out)).mono ?_;rintro e w2 ⟨rfl,hb⟩;have HB2:=Hd (aA HB1.out hb);clear hb HDV HB1;go_wp2_with fail;refine(HAD.out _ (HE.out.below HB2.out)).mono ?_;rintro e w3 ⟨rfl,hb⟩;have HB3:=Hd (aA HB2.out hb);clear hb HAD HB2;go_wp2_with fail;refine(HCN.out _).mono ?_;rintro e w4 ⟨rfl,hb⟩;have HB4:=Hd (aA HB3.out hb);clear hb HCN;go_wp2_with fail;refine(HRR.out _ (HE.out.below HB4.out)).mono ?_;rintro e w5 ⟨rfl,hb⟩;have HB5:=Hd (aA HB4.out hb);clear hb HRR HB4;go_wp2_with fail;refine(HCH.out _).mono ?_;rintro e w6 ⟨rfl,hb⟩;have HB6:=Hd (aA HB5.out hb);clear hb HCH HB5;go_wp2;go_ret2;exact⟨by rw[HV.out];rfl,HB6.out⟩
  ·have hch:ch=0:=by rw[hc,if_neg (by omega),if_neg (by omega)]
   subst hch;have HV0:Hid (rv=if ev=true then lo else lo+1):=by
    show _=_;rw[HRV.out,hev]
    by_cases h2:lo.fmod 2=0
    ·rw[if_neg (by rintro(h'|⟨_,h'⟩);omega;exact h' h2)];simp[h2]
    ·rw[if_pos (.inr ⟨h,h2⟩)];simp[h2]
   clear hev;clear hz hc HR0 HRV h hr;go_enter func55,ntmps55;have HB0:=Hd (aB w (.cells #[.string ⟨n.toArray⟩,.string ⟨d.toArray⟩] 28));go_wp2_with fail;refine(HP.out _ (HE.out.below HB0.out)).mono ?_;rintro e w1 ⟨rfl,hb⟩;have HB1:=Hd (aA HB0.out hb);clear hb HP HB0;go_wp2_with fail;refine(HDV.out _ (HE.out.below HB1.out)).mono ?_;rintro e w2 ⟨rfl,hb⟩;have HB2:=Hd (aA HB1.out hb);clear hb HDV HB1;go_wp2_with fail;refine(HAD.out _ (HE.out.below HB2.out)).mono ?_;rintro e w3 ⟨rfl,hb⟩;have HB3:=Hd (aA HB2.out hb);clear hb HAD HB2;go_wp2_with fail;refine(HCN.out _).mono ?_;rintro e w4 ⟨rfl,hb⟩;have HB4:=Hd (aA HB3.out hb);clear hb HCN;go_wp2_with fail;refine(HRR.out _ (HE.out.below HB4.out)).mono ?_;rintro e w5 ⟨rfl,hb⟩;have HB5:=Hd (aA HB4.out hb);clear hb HRR HB4;go_wp2_with fail;refine(HCH.out _).mono ?_;rintro e w6 ⟨rfl,hb⟩;have HB6:=Hd (aA HB5.out hb);clear hb HCH HB5;go_wp2_with fail;refine(HEV.out _ (HE.out.below HB6.out)).mono ?_;rintro e w7 ⟨rfl,hb⟩;have HB7:=Hd (aA HB6.out hb);clear hb HEV HB6;cases ev with
   |true =>
    have HV:Hid (rv=lo):=HV0.out;go_wp2;go_ret2;exact⟨by rw[HV.out];rfl,HB7.out⟩
   |false =>
    have HV:Hid (rv=lo+1):=HV0.out;go_wp2;go_ret2;exact⟨by rw[HV.out];rfl,HB7.out⟩
  ·have HV:Hid (rv=lo+1):=by show _=_;rw[HRV.out,if_pos (.inl h)]
   have hch:ch=1:=by rw[hc,if_neg (by omega),if_pos h]
   subst hch;clear HEV;clear hz hc HR0 HRV h hr;go_enter func55,ntmps55;have HB0:=Hd (aB w (.cells #[.string ⟨n.toArray⟩,.string ⟨d.toArray⟩] 28));go_wp2_with fail;refine(HP.out _ (HE.out.below HB0.out)).mono ?_;rintro e w1 ⟨rfl,hb⟩;have HB1:=Hd (aA HB0.out hb);clear hb HP HB0;go_wp2_with fail;refine(HDV.out _ (HE.out.below HB1.out)).mono ?_;rintro e w2 ⟨rfl,hb⟩;have HB2:=Hd (aA HB1.out hb);clear hb HDV HB1;go_wp2_with fail;refine(HAD.out _ (HE.out.below HB2.out)).mono ?_;rintro e w3 ⟨rfl,hb⟩;have HB3:=Hd (aA HB2.out hb);clear hb HAD HB2;go_wp2_with fail;refine(HCN.out _).mono ?_;rintro e w4 ⟨rfl,hb⟩;have HB4:=Hd (aA HB3.out hb);clear hb HCN;go_wp2_with fail;refine(HRR.out _ (HE.out.below HB4.out)).mono ?_;rintro e w5 ⟨rfl,hb⟩;have HB5:=Hd (aA HB4.out hb);clear hb HRR HB4;go_wp2_with fail;refine(HCH.out _).mono ?_;rintro e w6 ⟨rfl,hb⟩;have HB6:=Hd (aA HB5.out hb);clear hb HCH HB5;go_wp2;go_ret2;exact⟨by rw[HV.out];rfl,HB6.out⟩
end
section
open Go Go.RowKit Num
theorem aTo{N D N' D':Int}(hD:D≠0)(hD':D'≠0)(h:N*D'=N'*D):eT N D=eT N' D'/\fT N D=fT N' D':=by
 rw[<-aKg hD hD' (N:=N),<-aKh hD hD' (N:=N),<-aKg hD' hD (N:=N'),<-aKh hD' hD (N:=N'),h,Int.mul_comm D D'];exact⟨rfl,rfl⟩
theorem aTc{N D:Int}(hD:D≠0):eT (eT N D) (fT N D)=eT N D/\fT (eT N D) (fT N D)=fT N D:=by
 have hp:=aKn (N:=N) hD;exact aTo (by omega) hD (aKt hD)
noncomputable def aTn:Array Oper:=(f18.body.bind (jE 1)).getD #[]
def aTe:List (Nat×Nat):=[(0,8),(1,9),(2,10),(3,11),(4,12),(5,7),(6,13),(7,14),(8,5),(9,6)]
structure PvC where
 W0:World
 b:Nat
 n:List UInt8
 d:List UInt8
 q:List UInt8
 on:List UInt8
 od:List UInt8
 pn:List UInt8
 pd:List UInt8
 v:List UInt8
def PvC.val(C:PvC)(_:Unit):Nat->Value
 |0=>.agg #[.string ⟨C.n.toArray⟩,.string ⟨C.d.toArray⟩]
 |1=>.string ⟨C.q.toArray⟩
 |2=>.agg #[.string ⟨C.on.toArray⟩,.string ⟨C.od.toArray⟩]
 |3=>.agg #[.string ⟨C.pn.toArray⟩,.string ⟨C.pd.toArray⟩]
 |4=>.tuple #[.string ⟨C.v.toArray⟩,.int .i64 0]
 |5=>.tuple #[.string ⟨C.v.toArray⟩,.int .i64 0]
 |6=>.string ⟨C.v.toArray⟩
 |7=>.int .i64 0
 |8=>.string ⟨C.v.toArray⟩
 |_=>.int .i64 0
def PvC.gg(C:PvC)(_:Unit)(_:Array Bool)(W:World):Prop:=Below C.W0.heap.size C.W0 W
structure PvM(C:PvC)(t0:Array Value):Prop where
 sz:t0.size=16
 t1:t0[1]?=some (.string ⟨C.q.toArray⟩)
 t2:t0[2]?=some (.pointer (some ⟨C.b,0,none⟩))
 kb:C.b<C.W0.heap.size
 c0:C.W0.cell? ⟨C.b,0,none⟩=some (.string ⟨C.n.toArray⟩)
 c1:C.W0.cell? ⟨C.b,1,none⟩=some (.string ⟨C.d.toArray⟩)
 h1:∀W,Below C.W0.heap.size C.W0 W->Calls prog 15 #[.string ⟨C.q.toArray⟩] W fun e w'=>e=.returned (.agg #[.string ⟨C.on.toArray⟩,.string ⟨C.od.toArray⟩])/\Below W.heap.size W w'
 h2:∀W,Below C.W0.heap.size C.W0 W->Calls prog 14 #[.agg #[.string ⟨C.n.toArray⟩,.string ⟨C.d.toArray⟩],.agg #[.string ⟨C.on.toArray⟩,.string ⟨C.od.toArray⟩]] W fun e w'=>e=.returned (.agg #[.string ⟨C.pn.toArray⟩,.string ⟨C.pd.toArray⟩])/\Below W.heap.size W w'
 h3:∀W,Below C.W0.heap.size C.W0 W->Calls prog 55 #[.agg #[.string ⟨C.pn.toArray⟩,.string ⟨C.pd.toArray⟩],.int .i64 1] W fun e w'=>e=.returned (.tuple #[.string ⟨C.v.toArray⟩,.int .i64 0])/\Below W.heap.size W w'
section
variable {C:PvC}{t0:Array Value}{Q:Exit->Act->World->Prop}
theorem aSv(M:PvM C t0){a:Act}{w:World}(hdf:a.defers=[])(ht:a.tmps=t0)(hw:w.drewN 1=C.W0)
  (hQ:∀W,Below C.W0.heap.size C.W0 W->Q .normal { tmps:=iZ (C.val ()) aTe t0,defers:=[] } W):(Code.region 1 aTn true).wp prog Q a w:=by
 have hsz:aTn.size=10:=by kernel_rfl
 refine eV (ds:=aTe) (val:=C.val) (G:=C.gg) (by kernel_rfl) (by kernel_rfl) (by decide) (fun p hp=>?_) (by kernel_rfl) ?_ (γ:=()) hdf ht (by rw[hw];exact Br _ _) (fun _ _ W _ hg=>hQ W hg)
 ·rw[M.sz];have:∀p,p∈aTe->p.2<16:=by decide
  exact this p hp
 ·intro γ l a w i H hr;cases γ;have hi:i<10:=by
   obtain⟨_,o,ho,_⟩:=mem_ready.1 hr;have:=(Ai.1 ho).1;rw[hsz] at this;exact this
  have t1:=H.low (s:=1) (by decide) M.t1;have t2:=H.low (s:=2) (by decide) M.t2;have hb:Below C.W0.heap.size C.W0 w:=H.g
  match i,hi,hr with
  |0,_,hr =>
   have c0:=(hb.cell (p:=⟨C.b,0,none⟩) M.kb).trans M.c0;have c1:=(hb.cell (p:=⟨C.b,1,none⟩) M.kb).trans M.c1;exact aWj (.load 28 (.tmp 2)) (.agg #[.string ⟨C.n.toArray⟩,.string ⟨C.d.toArray⟩]) (fun o h=>by simp[execOp,h,t2,c0,c1,go_sem]) hb
  |1,_,hr =>
   exact aWj (.move (.tmp 1)) (.string ⟨C.q.toArray⟩) (fun o h=>by simp[execOp,h,t1,go_sem]) hb
  |2,_,hr =>
   have v1:a.tmps[9]?=some (.string ⟨C.q.toArray⟩):=H.dep hr 1 9;refine gA (f:=15) (lb:=#[]) (c:=.func 15) (args:=#[.tmp 9]) (ts:=#[26]) (vs:=#[.string ⟨C.q.toArray⟩]) (by kernel_rfl) rfl (aXb func15) (by simp[Act.eval,v1]) ((M.h1 w hb).mono ?_);rintro e w' ⟨rfl,hb'⟩;exact⟨_,(),rfl,rfl,fun _ _=>rfl,aA hb hb'⟩
  |3,_,hr =>
   have v0:a.tmps[8]?=some (.agg #[.string ⟨C.n.toArray⟩,.string ⟨C.d.toArray⟩]):=H.dep hr 0 8;have v2:a.tmps[10]?=some (.agg #[.string ⟨C.on.toArray⟩,.string ⟨C.od.toArray⟩]):=H.dep hr 2 10;refine gA (f:=14) (lb:=#[]) (c:=.func 14) (args:=#[.tmp 8,.tmp 10]) (ts:=#[28,28]) (vs:=#[.agg #[.string ⟨C.n.toArray⟩,.string ⟨C.d.toArray⟩],.agg #[.string ⟨C.on.toArray⟩,.string ⟨C.od.toArray⟩]]) (by kernel_rfl) rfl (aXb func14) (by simp[Act.eval,v0,v2]) ((M.h2 w hb).mono ?_);rintro e w' ⟨rfl,hb'⟩;exact⟨_,(),rfl,rfl,fun _ _=>rfl,aA hb hb'⟩
  |4,_,hr =>
   have v3:a.tmps[11]?=some (.agg #[.string ⟨C.pn.toArray⟩,.string ⟨C.pd.toArray⟩]):=H.dep hr 3 11;refine gA (f:=55) (lb:=#[]) (c:=.func 55) (args:=#[.tmp 11,.const (.int .i64 1)]) (ts:=#[28,3]) (vs:=#[.agg #[.string ⟨C.pn.toArray⟩,.string ⟨C.pd.toArray⟩],.int .i64 1]) (by kernel_rfl) rfl (aXb func55) (by simp[Act.eval,v3]) ((M.h3 w hb).mono ?_);rintro e w' ⟨rfl,hb'⟩;exact⟨_,(),rfl,rfl,fun _ _=>rfl,aA hb hb'⟩
  |5,_,hr =>
   have v4:a.tmps[12]?=some (.tuple #[.string ⟨C.v.toArray⟩,.int .i64 0]):=H.dep hr 4 12;exact aWj (.move (.tmp 12)) (.tuple #[.string ⟨C.v.toArray⟩,.int .i64 0]) (fun o h=>by simp[execOp,h,v4,go_sem]) hb
  |6,_,hr =>
   have v5:a.tmps[7]?=some (.tuple #[.string ⟨C.v.toArray⟩,.int .i64 0]):=H.dep hr 5 7;exact aWj (.extract (.tmp 7) 0) (.string ⟨C.v.toArray⟩) (fun o h=>by simp[execOp,h,v5,go_sem]) hb
  |7,_,hr =>
   have v5:a.tmps[7]?=some (.tuple #[.string ⟨C.v.toArray⟩,.int .i64 0]):=H.dep hr 5 7;exact aWj (.extract (.tmp 7) 1) (.int .i64 0) (fun o h=>by simp[execOp,h,v5,go_sem]) hb
  |8,_,hr =>
   have v6:a.tmps[13]?=some (.string ⟨C.v.toArray⟩):=H.dep hr 6 13;exact aWj (.assign (.tmp 13)) (.string ⟨C.v.toArray⟩) (fun o h=>by simp[execOp,h,v6,go_sem]) hb
  |9,_,hr =>
   have v7:a.tmps[14]?=some (.int .i64 0):=H.dep hr 7 14;exact aWj (.assign (.tmp 14)) (.int .i64 0) (fun o h=>by simp[execOp,h,v7,go_sem]) hb
  |n+10,h,_=>exact absurd h (by omega)
end
def aRq(n d q:List UInt8):Int:=aQ3 (eT (val n*val q) (lU d)) (fT (val n*val q) (lU d))
theorem aRf(n d q:List UInt8)(w:World)(hE:iE w)(hn:n.length<=60)(hd:d.length<=60)(hq:q.length<=58)(h0:0<=val n*val q)(h1:0<lU d):
  Calls prog 18 #[.agg #[.string ⟨n.toArray⟩,.string ⟨d.toArray⟩],.string ⟨q.toArray⟩] w fun e w'=>e=.returned (.string ⟨(aJ (aRq n d q)).toArray⟩)/\Below w.heap.size w w':=by
 have hdn:lU d≠0:=by omega
 have lo:(aJ (val q)).length<=60:=Nat.le_trans (gC (K:=59) (by decide) (Nat.lt_of_lt_of_le (lO hq) (by decide))) (by decide);have H1:=Hd (fun W (hb:Below w.heap.size w W)=>aQ8 q W (hE.below hb) (by omega));have H2:=Hd (fun W (hb:Below w.heap.size w W)=>aQy n d (aJ (val q)) [] W (hE.below hb) hn hd lo (by decide));have e1:aQj n (aJ (val q))=val n*val q:=by unfold aQj;rw[bE]
 have e2:aQk d []=lU d:=by unfold aQk;rw[show lU []=1 from rfl,Int.mul_one]
 rw[e1,e2] at H2;have m1:=lE (l:=n) (m:=q) hn hq (by decide);have lp:(aJ (eT (val n*val q) (lU d))).length<=130:=Nat.le_trans (uE (K:=119) (by decide) (Sy hdn) (bE _).symm m1) (by decide);have lq:(nD (fT (val n*val q) (lU d))).length<=130:=Nat.le_trans (Uz (uE (K:=60) (by decide) (Tk hdn) (iH d).symm (qR (K:=60) (by decide) hd))) (by decide);have hrp:=aKn (N:=val n*val q) hdn;obtain⟨r1,r2⟩:=aTc (N:=val n*val q) hdn;have hnn:0<=eT (val n*val q) (lU d):=by
  have:=(aLa (N:=val n*val q) h1).1;omega
 have H3:=Hd (fun W (hb:Below w.heap.size w W)=>aSs (aJ (eT (val n*val q) (lU d))) (nD (fT (val n*val q) (lU d))) W (hE.below hb) lp lq (by rw[bE,aK1 hrp,r1];exact hnn) (by rw[bE,aK1 hrp,r2];exact hrp));rw[bE,aK1 hrp,r1,r2,show aQ3 (eT (val n*val q) (lU d)) (fT (val n*val q) (lU d))=aRq n d q from rfl] at H3;generalize aJ (aRq n d q)=v at *;generalize aJ (eT (val n*val q) (lU d))=pn at *;generalize nD (fT (val n*val q) (lU d))=pd at *;generalize aJ (val q)=on at *;clear hE lo e1 e2 m1 lp lq hrp r1 r2 hnn hn hd hq h0 h1 hdn;have HB0:=Hd (aB w (.cells #[.string ⟨n.toArray⟩,.string ⟨d.toArray⟩] 28));have KX:=Hd (aP.new0 w #[.string ⟨n.toArray⟩,.string ⟨d.toArray⟩] 28);go_enter func18,ntmps18;go_wp2_with fail;refine aSv (C:=⟨(w.alloc (.cells #[.string ⟨n.toArray⟩,.string ⟨d.toArray⟩] 28)).drewN 1,w.heap.size,n,d,q,on,[],pn,pd,v⟩) ?M rfl rfl rfl ?_
 case M=>exact⟨rfl,rfl,rfl,KX.out.1,KX.out.cell 0,KX.out.cell 1,fun W h=>H1.out W (aA (aD HB0.out 1) h),fun W h=>H2.out W (aA (aD HB0.out 1) h),fun W h=>H3.out W (aA (aD HB0.out 1) h)⟩
 intro W hbW;have HBW:=Hd (aA (aD HB0.out 1) hbW);clear hbW H1 H2 H3 HB0 KX;simp only[iZ,aTe,List.foldl,List.setIfInBounds_toArray,List.set_cons_zero,List.set_cons_succ,PvC.val];go_wp2;go_ret;exact⟨rfl,HBW.out⟩
end
section
open Go Go.RowKit Num
def aP7(oa ob:Option aJv):Option bZ:=match oa,ob with
 |some p,some q=>if val p.price.n=0 then none else some (mkF (aP5 q.price.n p.price.d) (aP2 q.price.d p.price.n))
 |_,_=>none
def aP3(oa ob:Option aJv):Int:=match oa,ob with
 |some p,some _=>if val p.price.n=0 then 10 else 0
 |_,_=>6
def aPo(fs:List aE)(ins:List UInt8)(a b:Int):Option bZ:=if aPk fs 0 [a,b]=0 then aP7 (aJ0 fs ins a) (aJ0 fs ins b) else none
def aPn(fs:List aE)(ins:List UInt8)(a b:Int):Int:=if aPk fs 0 [a,b]=0 then aP3 (aJ0 fs ins a) (aJ0 fs ins b) else aPk fs 0 [a,b]
theorem aQs{w:World}{a:Option Addr}{c:Nat}{xs:List aF}{ins:List UInt8}{d:Int}{q:aJv}(hv:gT w a c xs)(hc:dF (xs.map aF.f)=0)(h:aJ0 (xs.map aF.f) ins d=some q):q.price.small:=by
 obtain⟨f,hf,_,rfl⟩:=aLv hc (aK5 h);obtain⟨x,hx,rfl⟩:=List.mem_map.1 hf;exact(hv.ok x hx).small.price
theorem aRb(xs:List aF)(ad:Option Addr)(c:Nat)(ins:List UInt8)(a b:Int)(w:World)(hE:iE w)(hv:gT w ad c xs):
  Calls prog 13 #[.slice ad xs.length c,.string ⟨ins.toArray⟩,.int .i64 a,.int .i64 b] w fun e w'=>e=.returned (.tuple #[.agg (aPf (FV (aPo (xs.map aF.f) ins a b))),.int .i64 (aPn (xs.map aF.f) ins a b)])/\Below w.heap.size w w':=by
 have hn:=hv.len;have HLA:Hid (∀d W,Below w.heap.size w W->Calls prog 50 #[.slice ad xs.length c,.string ⟨ins.toArray⟩,.int .i64 d] W fun e w'=>e=.returned (.tuple #[.agg (aOx (QV (aJ0 (xs.map aF.f) ins d))),.bool (aJ0 (xs.map aF.f) ins d).isSome])/\Below W.heap.size W w'):=fun d W hb=>aQm xs ad c ins d W hn (hv.facts.below hb)
 have HLAa:=Hd (HLA.out a);have HLAb:=Hd (HLA.out b);have HSM:Hid (aPk (xs.map aF.f) 0 [a,b]=0->(∀q,aJ0 (xs.map aF.f) ins a=some q->q.price.small)/\(∀q,aJ0 (xs.map aF.f) ins b=some q->q.price.small)):=fun h=>⟨fun q=>aQs hv (aPx h).1,fun q=>aQs hv (aPx h).1⟩
 have HB0:=Hd (((Br w.heap.size w).alloc (Nl _) (.cells Z2 28)).alloc (by simp) (.cells #[.int .i64 a,.int .i64 b] 23));have kd:=aP.new0 (w.alloc (.cells Z2 28)) #[.int .i64 a,.int .i64 b] 23;rw[World.size_alloc] at kd;have hpc:=aQa xs ad c 0 [a,b] (some ⟨w.heap.size+1,0,none⟩) 2 _ (hE.below HB0.out) (hv.below HB0.out) (by simp) (aQ1 kd);rw[show [a,b].length=2 from rfl] at hpc;have HPC:=Hd hpc;have HE:=Hd hE;have KR:=Hd ((aP.new0 w Z2 28).below (aB _ (.cells #[.int .i64 a,.int .i64 b] 23)));have HLV:Hid (aPo (xs.map aF.f) ins a b=if aPk (xs.map aF.f) 0 [a,b]=0 then aP7 (aJ0 (xs.map aF.f) ins a) (aJ0 (xs.map aF.f) ins b) else none):=rfl;have HEV:Hid (aPn (xs.map aF.f) ins a b=if aPk (xs.map aF.f) 0 [a,b]=0 then aP3 (aJ0 (xs.map aF.f) ins a) (aJ0 (xs.map aF.f) ins b) else aPk (xs.map aF.f) 0 [a,b]):=rfl;have HSQ:Hid (∀q,(prog.info? 46).map (·.size)=some (aOx q).size):=fun _=>aPm
 have HONE:Hid (∀q,(aOx q).all (·.oneCell')=true):=aPw;have HS3:Hid (∀q,Z3.size=(aOx q).size):=fun _=>rfl
 have HSF:Hid (∀f,(prog.info? 28).map (·.size)=some (aPf f).size):=fun _=>aPp
 have HONF:Hid (∀f,(aPf f).all (·.oneCell')=true):=aP0;have HS2:Hid (∀f,Z2.size=(aPf f).size):=fun _=>rfl
 clear hE hv kd hpc HLA;generalize aPo (xs.map aF.f) ins a b=lo at *;generalize aPn (xs.map aF.f) ins a b=le at *;generalize aJ0 (xs.map aF.f) ins a=oa at *;generalize aJ0 (xs.map aF.f) ins b=ob at *;generalize aPk (xs.map aF.f) 0 [a,b]=pe at *;generalize xs.length=n at *;go_enter func13,ntmps13;go_wp2_with fail;refine HPC.out.mono ?_;rintro e w1 ⟨rfl,hb⟩;have HB1:=Hd (aA HB0.out hb);have KR1:=Hd (KR.out.below hb);clear hb HPC KR HB0
 by_cases he:pe=0
 ·subst he;obtain⟨hsa,hsb⟩:=HSM.out rfl;have HSA:=Hd hsa;have HSB:=Hd hsb;have HV:Hid (lo=aP7 oa ob):=by show _=_;rw[HLV.out];simp
  have HV2:Hid (le=aP3 oa ob):=by show _=_;rw[HEV.out];simp
  clear HLV HEV HSM hsa hsb;go_wp2_with fail;refine(HLAa.out _ HB1.out).mono ?_;rintro e w2 ⟨rfl,hb⟩;have HB2:=Hd (aA HB1.out hb);have KR2:=Hd (KR1.out.below hb);have HN2:=Hd (aB w2 (.cells Z3 46));have KN2:=Hd (aP.new0 w2 Z3 46);have HNE:Hid (w.heap.size≠w2.heap.size):=by have:=KR2.out.1;show _≠_;omega
  clear hb HLAa HB1 KR1;go_wp2_with (refine aOw rfl 46 _ _ rfl w2.heap.size rfl (aOx (QV oa)) rfl KN2.out (HSQ.out _) (HS3.out _) (HONE.out _) ?_;intro w3 kx bx Rt _;have HB3:=Hd (aA HB2.out (HN2.out.trans (bx _ (Nl _))));have KA3:=Hd kx;have KR3:=Hd (Rt _ _ _ HNE.out (KR2.out.below HN2.out));clear kx bx Rt);refine(HLAb.out _ HB3.out).mono ?_;rintro e w4 ⟨rfl,hb⟩;have HB4:=Hd (aA HB3.out hb);have KR4:=Hd (KR3.out.below hb);have KA4:=Hd (KA3.out.below hb);have HN4:=Hd (aB w4 (.cells Z3 46));have KN4:=Hd (aP.new0 w4 Z3 46);have HNE4:Hid (w.heap.size≠w4.heap.size/\w2.heap.size≠w4.heap.size):=by have:=KR4.out.1;have:=KA4.out.1;show _/\_;omega
  clear hb HLAb HB3 KR3 KA3 HB2 KR2 HN2 KN2 HNE;cases oa with
  |none =>
   simp only[Option.isSome_none];have HV0:Hid (aP7 none ob=none):=by cases ob <;> rfl
   have HE0:Hid (aP3 none ob=6):=by cases ob <;> rfl
   have HVV:Hid (lo=none):=by show _=_;rw[HV.out,HV0.out]
   have HEE:Hid (le=6):=by show _=_;rw[HV2.out,HE0.out]
   clear HV HV2 HV0 HE0;go_wp2_with (first|(refine aOw rfl 46 _ _ rfl w4.heap.size rfl (aOx (QV ob)) rfl KN4.out (HSQ.out _) (HS3.out _) (HONE.out _) ?_;intro w5 kx bx Rt _;have HB5:=Hd (aA HB4.out (HN4.out.trans (bx _ (Nl _))));have KB5:=Hd kx;have KR5:=Hd (Rt _ _ _ HNE4.out.1 (KR4.out.below HN4.out));have KA5:=Hd (Rt _ _ _ HNE4.out.2 (KA4.out.below HN4.out));clear kx bx Rt)|(refine aOw rfl 28 _ _ rfl w.heap.size rfl (#[.string ⟨#[]⟩,.string ⟨#[]⟩]) rfl KR5.out (HSF.out (FV none)) (HS2.out (FV none)) (HONF.out (FV none)) ?_;intro w6 kx bx _ _;have HB9:=Hd (HB5.out.trans (bx _ (Nl _)));have KX9:=Hd kx;clear kx bx));refine bodyPost_ret (fX rfl _ _ _ _ _ (0,0) _ rfl KX9.out.2 underlying28 rfl (HSF.out (FV none))) rfl ?_;exact⟨by rw[HVV.out,HEE.out];rfl,HB9.out⟩
  |some p =>
   simp only[Option.isSome_some];cases ob with
   |none =>
    simp only[Option.isSome_none];have HVV:Hid (lo=none):=HV.out;have HEE:Hid (le=6):=HV2.out;go_wp2_with (first|(refine aOw rfl 46 _ _ rfl w4.heap.size rfl (aOx (QV none)) rfl KN4.out (HSQ.out _) (HS3.out _) (HONE.out _) ?_;intro w5 kx bx Rt _;have HB5:=Hd (aA HB4.out (HN4.out.trans (bx _ (Nl _))));have KB5:=Hd kx;have KR5:=Hd (Rt _ _ _ HNE4.out.1 (KR4.out.below HN4.out));have KA5:=Hd (Rt _ _ _ HNE4.out.2 (KA4.out.below HN4.out));clear kx bx Rt)|(refine aOw rfl 28 _ _ rfl w.heap.size rfl (#[.string ⟨#[]⟩,.string ⟨#[]⟩]) rfl KR5.out (HSF.out (FV none)) (HS2.out (FV none)) (HONF.out (FV none)) ?_;intro w6 kx bx _ _;have HB9:=Hd (HB5.out.trans (bx _ (Nl _)));have KX9:=Hd kx;clear kx bx));refine bodyPost_ret (fX rfl _ _ _ _ _ (0,0) _ rfl KX9.out.2 underlying28 rfl (HSF.out (FV none))) rfl ?_;exact⟨by rw[HVV.out,HEE.out];rfl,HB9.out⟩
   |some q =>
    simp only[Option.isSome_some];obtain⟨la,la'⟩:=HSA.out p rfl;obtain⟨lb,lb'⟩:=HSB.out q rfl;have HPC:Hid ((aOx (QV (some p)))[1]?=some (.string ⟨p.price.n.toArray⟩)/\(aOx (QV (some p)))[2]?=some (.string ⟨p.price.d.toArray⟩)):=⟨rfl,rfl⟩
    have HQC:Hid ((aOx (QV (some q)))[1]?=some (.string ⟨q.price.n.toArray⟩)/\(aOx (QV (some q)))[2]?=some (.string ⟨q.price.d.toArray⟩)):=⟨rfl,rfl⟩
    have HCV:Hid (aP7 (some p) (some q)=if val p.price.n=0 then none else some (mkF (aP5 q.price.n p.price.d) (aP2 q.price.d p.price.n))):=rfl;have HCE:Hid (aP3 (some p) (some q)=if val p.price.n=0 then 10 else 0):=rfl;rw[HCV.out] at HV;rw[HCE.out] at HV2;have HQ0:Hid (val p.price.n=0->∀W,Calls prog 51 #[.agg #[.string ⟨q.price.n.toArray⟩,.string ⟨q.price.d.toArray⟩],.agg #[.string ⟨p.price.n.toArray⟩,.string ⟨p.price.d.toArray⟩]] W fun e w'=>e=.returned (.tuple #[.agg #[.string ⟨#[]⟩,.string ⟨#[]⟩],.int .i64 10])/\Below W.heap.size W w'):=fun h W=>aRo _ _ _ _ W la h
    have HQ1:Hid (val p.price.n≠0->∀W,Below w.heap.size w W->Calls prog 51 #[.agg #[.string ⟨q.price.n.toArray⟩,.string ⟨q.price.d.toArray⟩],.agg #[.string ⟨p.price.n.toArray⟩,.string ⟨p.price.d.toArray⟩]] W fun e w'=>e=.returned (.tuple #[.agg (aPf (mkF (aP5 q.price.n p.price.d) (aP2 q.price.d p.price.n))),.int .i64 0])/\Below W.heap.size W w'):=fun h W hb=>aR2 _ _ _ _ W (HE.out.below hb) lb lb' la la' h
    clear HCV HCE HSA HSB la la' lb lb';generalize aOx (QV (some p))=pa at *;generalize p.price.n=pn at *;generalize p.price.d=pd at *
    by_cases h0:val pn=0
    ·rw[if_pos h0] at HV HV2;have HVV:Hid (lo=none):=HV.out;have HEE:Hid (le=10):=HV2.out;have HC:=Hd (HQ0.out h0);clear HQ0 HQ1 HV HV2 h0;go_wp2_with (refine aOw rfl 46 _ _ rfl w4.heap.size rfl (aOx (QV (some q))) rfl KN4.out (HSQ.out _) (HS3.out _) (HONE.out _) ?_;intro w5 kx bx Rt _;have HB5:=Hd (aA HB4.out (HN4.out.trans (bx _ (Nl _))));have KB5:=Hd kx;have KR5:=Hd (Rt _ _ _ HNE4.out.1 (KR4.out.below HN4.out));have KA5:=Hd (Rt _ _ _ HNE4.out.2 (KA4.out.below HN4.out));have b1:=(kx.cell 1).trans HQC.out.1;have b2:=(kx.cell 2).trans HQC.out.2;have a1:=(KA5.out.cell 1).trans HPC.out.1;have a2:=(KA5.out.cell 2).trans HPC.out.2;clear kx bx Rt);refine(HC.out _).mono ?_;rintro e w7 ⟨rfl,hb⟩;have HB7:=Hd (aA HB5.out hb);have KR7:=Hd (KR5.out.below hb);clear hb HC a1 a2 b1 b2;go_wp2_with (refine aOw rfl 28 _ _ rfl w.heap.size rfl (#[.string ⟨#[]⟩,.string ⟨#[]⟩]) rfl KR7.out (HSF.out (FV none)) (HS2.out (FV none)) (HONF.out (FV none)) ?_;intro w8 kx bx _ _;have HB9:=Hd (HB7.out.trans (bx _ (Nl _)));have KX9:=Hd kx;clear kx bx);refine bodyPost_ret (fX rfl _ _ _ _ _ (0,0) _ rfl KX9.out.2 underlying28 rfl (HSF.out (FV none))) rfl ?_;exact⟨by rw[HVV.out,HEE.out];rfl,HB9.out⟩
    ·rw[if_neg h0] at HV HV2;have HVV:Hid (lo=some (mkF (aP5 q.price.n pd) (aP2 q.price.d pn))):=HV.out;have HEE:Hid (le=0):=HV2.out;have HC:=Hd (HQ1.out h0);clear HQ0 HQ1 HV HV2 h0;generalize mkF (aP5 q.price.n pd) (aP2 q.price.d pn)=mq at *;go_wp2_with (refine aOw rfl 46 _ _ rfl w4.heap.size rfl (aOx (QV (some q))) rfl KN4.out (HSQ.out _) (HS3.out _) (HONE.out _) ?_;intro w5 kx bx Rt _;have HB5:=Hd (aA HB4.out (HN4.out.trans (bx _ (Nl _))));have KB5:=Hd kx;have KR5:=Hd (Rt _ _ _ HNE4.out.1 (KR4.out.below HN4.out));have KA5:=Hd (Rt _ _ _ HNE4.out.2 (KA4.out.below HN4.out));have b1:=(kx.cell 1).trans HQC.out.1;have b2:=(kx.cell 2).trans HQC.out.2;have a1:=(KA5.out.cell 1).trans HPC.out.1;have a2:=(KA5.out.cell 2).trans HPC.out.2;clear kx bx Rt);refine(HC.out _ HB5.out).mono ?_;rintro e w7 ⟨rfl,hb⟩;have HB7:=Hd (aA HB5.out hb);have KR7:=Hd (KR5.out.below hb);clear hb HC a1 a2 b1 b2;go_wp2_with (refine aOw rfl 28 _ _ rfl w.heap.size rfl (aPf mq) rfl KR7.out (HSF.out (mq)) (HS2.out (mq)) (HONF.out (mq)) ?_;intro w8 kx bx _ _;have HB9:=Hd (HB7.out.trans (bx _ (Nl _)));have KX9:=Hd kx;clear kx bx);refine bodyPost_ret (fX rfl _ _ _ _ _ (0,0) _ rfl KX9.out.2 underlying28 rfl (HSF.out (mq))) rfl ?_;exact⟨by rw[HVV.out,HEE.out];rfl,HB9.out⟩
 ·have he':(pe==0)=false:=by simpa using he
  have HVV:Hid (lo=none):=by show _=_;rw[HLV.out,if_neg he]
  have HEE:Hid (le=pe):=by show _=_;rw[HEV.out,if_neg he]
  clear HLV HEV HLAa HLAb HSM;go_wp2_with (refine aOw rfl 28 _ _ rfl w.heap.size rfl (#[.string ⟨#[]⟩,.string ⟨#[]⟩]) rfl KR1.out (HSF.out (FV none)) (HS2.out (FV none)) (HONF.out (FV none)) ?_;intro w6 kx bx _ _;have HB9:=Hd (HB1.out.trans (bx _ (Nl _)));have KX9:=Hd kx;clear kx bx);refine bodyPost_ret (fX rfl _ _ _ _ _ (0,0) _ rfl KX9.out.2 underlying28 rfl (HSF.out (FV none))) rfl ?_;exact⟨by rw[HVV.out,HEE.out];rfl,HB9.out⟩
end
end Go.Proofs.YtejkibnaidiklaaGreatDoor
