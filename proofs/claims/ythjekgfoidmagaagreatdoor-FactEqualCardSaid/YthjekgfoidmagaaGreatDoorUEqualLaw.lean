/- FactEqualLaw -/
import Derived.Test.YthjekgfoidmagaaGreatDoorULaw13
import Derived.Test.YthjekgfoidmagaaGreatDoorUInst
set_option maxHeartbeats 16000000
set_option maxRecDepth 100000
namespace Go.Proofs.YthjekgfoidmagaaGreatDoor
open Go.Proofs.Tryz
open Go Go.RowKit Num
noncomputable def bUw:Array Oper:=(Tryz.f7.body.bind (jE 8)).getD #[]
def bUp:List (Nat×Nat):=[(0,46),(1,47),(2,48),(3,49),(4,50),(5,51),(6,52),(7,53),(8,54),(9,55),(10,56),(11,57),(12,58),(13,59),(14,60),(15,61),(16,62),(17,63),(18,64),(19,65),(20,66),(21,67),(22,68),(23,69),(24,70),(25,71),(26,72),(27,73),(28,74),(29,75),(30,76),(31,77),(32,78),(33,79),(34,80),(35,4)]
structure bUm where
 W0:World
 b2:Nat
 b3:Nat
 b9:Nat
 xc:Array Value
 yc:Array Value
 zc:Array Value
 a:ByteArray
 b:ByteArray
 z:ByteArray
 s1:Bool
 s2:Bool
def bUm.val(C:bUm)(_:Unit):Nat->Value
 |0=>.int .i64 0
 |1=>.int .i64 0
 |2=>.int .i64 0
 |3=>.int .i64 0
 |4=>.bool true
 |5=>.bool true
 |6=>.agg C.xc
 |7=>.agg C.yc
 |8=>.bool C.s1
 |9=>.string C.a
 |10=>.string C.b
 |11=>.bool C.s1
 |12=>.bool true
 |13=>.bool true
 |14=>.bool true
 |15=>.agg C.zc
 |16=>.agg C.yc
 |17=>.bool C.s2
 |18=>.string C.z
 |19=>.string C.b
 |20=>.bool C.s2
 |21=>.bool true
 |22=>.bool true
 |23=>.bool true
 |24=>.agg C.xc
 |25=>.agg C.yc
 |26=>.bool C.s1
 |27=>.agg C.yc
 |28=>.agg C.xc
 |29=>.bool C.s1
 |30=>.bool true
 |31=>.bool true
 |32=>.bool true
 |33=>.bool true
 |34=>.bool true
 |_=>.bool true
def bUm.gg(C:bUm)(_:Unit)(_:Array Bool)(W:World):Prop:=Below C.W0.heap.size C.W0 W
structure bVb(C:bUm)(t0:Array Value):Prop where
 sz:t0.size=81
 t2:t0[2]?=some (.pointer (some ⟨C.b2,0,none⟩))
 t3:t0[3]?=some (.pointer (some ⟨C.b3,0,none⟩))
 t9:t0[9]?=some (.pointer (some ⟨C.b9,0,none⟩))
 t5:t0[5]?=some (.string C.a)
 t7:t0[7]?=some (.string C.b)
 t10:t0[10]?=some (.string C.z)
 t6:t0[6]?=some (.int .i64 0)
 t8:t0[8]?=some (.int .i64 0)
 t11:t0[11]?=some (.int .i64 0)
 k2:aP C.W0 C.b2 C.xc 29
 k3:aP C.W0 C.b3 C.yc 29
 k9:aP C.W0 C.b9 C.zc 29
 sx:(prog.info? 29).map (·.size)=some C.xc.size
 sy:(prog.info? 29).map (·.size)=some C.yc.size
 sz9:(prog.info? 29).map (·.size)=some C.zc.size
 h1:∀W,Below C.W0.heap.size C.W0 W->Calls prog 19 #[.agg C.xc,.agg C.yc] W fun e w'=>e=.returned (.bool C.s1)/\Below W.heap.size W w'
 h2:∀W,Below C.W0.heap.size C.W0 W->Calls prog 19 #[.agg C.zc,.agg C.yc] W fun e w'=>e=.returned (.bool C.s2)/\Below W.heap.size W w'
 h3:∀W,Below C.W0.heap.size C.W0 W->Calls prog 19 #[.agg C.yc,.agg C.xc] W fun e w'=>e=.returned (.bool C.s1)/\Below W.heap.size W w'
 e1:∀W,(binOp .eql 9 (.string C.a) (.string C.b)).run prog W=.ok (.bool C.s1) W
 e2:∀W,(binOp .eql 9 (.string C.z) (.string C.b)).run prog W=.ok (.bool C.s2) W
 aw:∀W,Below C.W0.heap.size C.W0 W->Calls prog 11 #[] W fun e w'=>e=.returned (.bool true)/\Below W.heap.size W w'
section
variable {C:bUm}{t0:Array Value}{Q:Exit->Act->World->Prop}
theorem bUj(M:bVb C t0){a:Act}{w:World}(hdf:a.defers=[])(ht:a.tmps=t0)(hw:w.drewN 1=C.W0)
  (hQ:∀W,Below C.W0.heap.size C.W0 W->Q .normal { tmps:=iZ (C.val ()) bUp t0,defers:=[] } W):(Code.region 8 bUw true).wp prog Q a w:=by
 have hsz:bUw.size=36:=by kernel_rfl
 refine eV (ds:=bUp) (val:=C.val) (G:=C.gg) (by kernel_rfl) (by kernel_rfl) (by decide) (fun p hp=>?_) (by kernel_rfl) ?_ (γ:=()) hdf ht (by rw[hw];exact Br _ _) (fun _ _ W _ hg=>hQ W hg)
 ·rw[M.sz];have:∀p,p∈bUp->p.2<81:=by decide
  exact this p hp
 ·intro γ l a w i H hr;cases γ;have hi:i<36:=by
   obtain⟨_,o,ho,_⟩:=mem_ready.1 hr;have:=(Ai.1 ho).1;rw[hsz] at this;exact this
  have t2:=H.low (s:=2) (by decide) M.t2;have t3:=H.low (s:=3) (by decide) M.t3;have t9:=H.low (s:=9) (by decide) M.t9;have t5:=H.low (s:=5) (by decide) M.t5;have t7:=H.low (s:=7) (by decide) M.t7;have t10:=H.low (s:=10) (by decide) M.t10;have t6:=H.low (s:=6) (by decide) M.t6;have t8:=H.low (s:=8) (by decide) M.t8;have t11:=H.low (s:=11) (by decide) M.t11;have hb:Below C.W0.heap.size C.W0 w:=H.g
  match i,hi,hr with
  |0,_,hr =>
   exact aWj (.move (.tmp 6)) (.int .i64 0) (fun o h=>by simp[execOp,h,t6,go_sem]) hb
  |1,_,hr =>
   exact aWj (.move (.tmp 8)) (.int .i64 0) (fun o h=>by simp[execOp,h,t8,go_sem]) hb
  |2,_,hr =>
   exact aWj (.move (.tmp 11)) (.int .i64 0) (fun o h=>by simp[execOp,h,t11,go_sem]) hb
  |3,_,hr =>
   have v0:a.tmps[46]?=some (.int .i64 0):=H.dep hr 0 46;have v1:a.tmps[47]?=some (.int .i64 0):=H.dep hr 1 47;have v2:a.tmps[48]?=some (.int .i64 0):=H.dep hr 2 48;exact aWj (.call { callee:=.builtin .max,args:=#[.tmp 46,.tmp 47,.tmp 48],argTypes:=#[32,32,32] }) (.int .i64 0) (fun o h=>by simp[execOp,h,v0,v1,v2,go_sem]) hb
  |4,_,hr =>
   have v3:a.tmps[49]?=some (.int .i64 0):=H.dep hr 3 49;exact aWj (.binOp .eql 32 (.tmp 49) (.const (.int .i64 0)) 32) (.bool true) (fun o h=>by simp[execOp,h,v3,go_sem]) hb
  |5,_,hr =>
   have v4:a.tmps[50]?=some (.bool true):=H.dep hr 4 50;exact aWj (.move (.tmp 50)) (.bool true) (fun o h=>by simp[execOp,h,v4,go_sem]) hb
  |6,_,hr =>
   have hon:a.tmps[51]?=some (.bool true):=H.dep hr 5 51;exact bMv (X:=.load 29 (.tmp 2)) (v:=.agg C.xc) (by kernel_rfl) (bR1 (i:=6) (j:=5) (s:=51) (by kernel_rfl) (by kernel_rfl) hon) (fun o h=>by exact aW h (ev' t2) (bFb (M.k2.below hb)) underlying29 rfl M.sx) rfl hb
  |7,_,hr =>
   have hon:a.tmps[51]?=some (.bool true):=H.dep hr 5 51;exact bMv (X:=.load 29 (.tmp 3)) (v:=.agg C.yc) (by kernel_rfl) (bR1 (i:=7) (j:=5) (s:=51) (by kernel_rfl) (by kernel_rfl) hon) (fun o h=>by exact aW h (ev' t3) (bFb (M.k3.below hb)) underlying29 rfl M.sy) rfl hb
  |8,_,hr =>
   have v6:a.tmps[52]?=some (.agg C.xc):=H.dep hr 6 52;have v7:a.tmps[53]?=some (.agg C.yc):=H.dep hr 7 53;have hon:a.tmps[51]?=some (.bool true):=H.dep hr 5 51;refine mX (f:=19) (lb:=#[]) (c:=.func 19) (args:=#[.tmp 52,.tmp 53]) (ts:=#[29,29]) (vs:=#[.agg C.xc,.agg C.yc]) (by kernel_rfl) (bR1 (i:=8) (j:=5) (s:=51) (by kernel_rfl) (by kernel_rfl) hon) rfl (aXb func19) (by simp[Act.eval,v6,v7]) ((M.h1 w hb).mono ?_);rintro e w' ⟨rfl,hb'⟩;exact⟨_,(),rfl,rfl,fun _ _=>rfl,aA hb hb'⟩
  |9,_,hr =>
   have hon:a.tmps[51]?=some (.bool true):=H.dep hr 5 51;exact bMv (X:=.move (.tmp 5)) (v:=.string C.a) (by kernel_rfl) (bR1 (i:=9) (j:=5) (s:=51) (by kernel_rfl) (by kernel_rfl) hon) (fun o h=>by simp[execOp,h,t5,go_sem]) rfl hb
  |10,_,hr =>
   have hon:a.tmps[51]?=some (.bool true):=H.dep hr 5 51;exact bMv (X:=.move (.tmp 7)) (v:=.string C.b) (by kernel_rfl) (bR1 (i:=10) (j:=5) (s:=51) (by kernel_rfl) (by kernel_rfl) hon) (fun o h=>by simp[execOp,h,t7,go_sem]) rfl hb
  |11,_,hr =>
   have v9:a.tmps[55]?=some (.string C.a):=H.dep hr 9 55;have v10:a.tmps[56]?=some (.string C.b):=H.dep hr 10 56;have hon:a.tmps[51]?=some (.bool true):=H.dep hr 5 51;exact bMv (X:=.binOp .eql 9 (.tmp 55) (.tmp 56) 9) (v:=.bool C.s1) (by kernel_rfl) (bR1 (i:=11) (j:=5) (s:=51) (by kernel_rfl) (by kernel_rfl) hon) (fun o h=>by exact bJz h (ev' v9) (ev' v10) (by simp[go_sem,eqGuard]) (M.e1 w)) rfl hb
  |12,_,hr =>
   have v8:a.tmps[54]?=some (.bool C.s1):=H.dep hr 8 54;have v11:a.tmps[57]?=some (.bool C.s1):=H.dep hr 11 57;have hon:a.tmps[51]?=some (.bool true):=H.dep hr 5 51;exact bMv (X:=.binOp .eql 4 (.tmp 54) (.tmp 57) 4) (v:=.bool true) (by kernel_rfl) (bR1 (i:=12) (j:=5) (s:=51) (by kernel_rfl) (by kernel_rfl) hon) (fun o h=>by simp[execOp,h,v8,v11,go_sem]) rfl hb
  |13,_,hr =>
   have v5:a.tmps[51]?=some (.bool true):=H.dep hr 5 51;have v12:a.tmps[58]?=some (.bool true):=H.dep hr 12 58;exact aWj (.pick (.tmp 51) (.tmp 58) (.const (.bool false))) (.bool true) (fun o h=>by simp[execOp,h,v5,v12,go_sem]) hb
  |14,_,hr =>
   have v13:a.tmps[59]?=some (.bool true):=H.dep hr 13 59;exact aWj (.move (.tmp 59)) (.bool true) (fun o h=>by simp[execOp,h,v13,go_sem]) hb
  |15,_,hr =>
   have hon:a.tmps[60]?=some (.bool true):=H.dep hr 14 60;exact bMv (X:=.load 29 (.tmp 9)) (v:=.agg C.zc) (by kernel_rfl) (bR1 (i:=15) (j:=14) (s:=60) (by kernel_rfl) (by kernel_rfl) hon) (fun o h=>by exact aW h (ev' t9) (bFb (M.k9.below hb)) underlying29 rfl M.sz9) rfl hb
  |16,_,hr =>
   have hon:a.tmps[60]?=some (.bool true):=H.dep hr 14 60;exact bMv (X:=.load 29 (.tmp 3)) (v:=.agg C.yc) (by kernel_rfl) (bR1 (i:=16) (j:=14) (s:=60) (by kernel_rfl) (by kernel_rfl) hon) (fun o h=>by exact aW h (ev' t3) (bFb (M.k3.below hb)) underlying29 rfl M.sy) rfl hb
  |17,_,hr =>
   have v15:a.tmps[61]?=some (.agg C.zc):=H.dep hr 15 61;have v16:a.tmps[62]?=some (.agg C.yc):=H.dep hr 16 62;have hon:a.tmps[60]?=some (.bool true):=H.dep hr 14 60;refine mX (f:=19) (lb:=#[]) (c:=.func 19) (args:=#[.tmp 61,.tmp 62]) (ts:=#[29,29]) (vs:=#[.agg C.zc,.agg C.yc]) (by kernel_rfl) (bR1 (i:=17) (j:=14) (s:=60) (by kernel_rfl) (by kernel_rfl) hon) rfl (aXb func19) (by simp[Act.eval,v15,v16]) ((M.h2 w hb).mono ?_);rintro e w' ⟨rfl,hb'⟩;exact⟨_,(),rfl,rfl,fun _ _=>rfl,aA hb hb'⟩
  |18,_,hr =>
   have hon:a.tmps[60]?=some (.bool true):=H.dep hr 14 60;exact bMv (X:=.move (.tmp 10)) (v:=.string C.z) (by kernel_rfl) (bR1 (i:=18) (j:=14) (s:=60) (by kernel_rfl) (by kernel_rfl) hon) (fun o h=>by simp[execOp,h,t10,go_sem]) rfl hb
  |19,_,hr =>
   have hon:a.tmps[60]?=some (.bool true):=H.dep hr 14 60;exact bMv (X:=.move (.tmp 7)) (v:=.string C.b) (by kernel_rfl) (bR1 (i:=19) (j:=14) (s:=60) (by kernel_rfl) (by kernel_rfl) hon) (fun o h=>by simp[execOp,h,t7,go_sem]) rfl hb
  |20,_,hr =>
   have v18:a.tmps[64]?=some (.string C.z):=H.dep hr 18 64;have v19:a.tmps[65]?=some (.string C.b):=H.dep hr 19 65;have hon:a.tmps[60]?=some (.bool true):=H.dep hr 14 60;exact bMv (X:=.binOp .eql 9 (.tmp 64) (.tmp 65) 9) (v:=.bool C.s2) (by kernel_rfl) (bR1 (i:=20) (j:=14) (s:=60) (by kernel_rfl) (by kernel_rfl) hon) (fun o h=>by exact bJz h (ev' v18) (ev' v19) (by simp[go_sem,eqGuard]) (M.e2 w)) rfl hb
  |21,_,hr =>
   have v17:a.tmps[63]?=some (.bool C.s2):=H.dep hr 17 63;have v20:a.tmps[66]?=some (.bool C.s2):=H.dep hr 20 66;have hon:a.tmps[60]?=some (.bool true):=H.dep hr 14 60;exact bMv (X:=.binOp .eql 4 (.tmp 63) (.tmp 66) 4) (v:=.bool true) (by kernel_rfl) (bR1 (i:=21) (j:=14) (s:=60) (by kernel_rfl) (by kernel_rfl) hon) (fun o h=>by simp[execOp,h,v17,v20,go_sem]) rfl hb
  |22,_,hr =>
   have v14:a.tmps[60]?=some (.bool true):=H.dep hr 14 60;have v21:a.tmps[67]?=some (.bool true):=H.dep hr 21 67;exact aWj (.pick (.tmp 60) (.tmp 67) (.const (.bool false))) (.bool true) (fun o h=>by simp[execOp,h,v14,v21,go_sem]) hb
  |23,_,hr =>
   have v22:a.tmps[68]?=some (.bool true):=H.dep hr 22 68;exact aWj (.move (.tmp 68)) (.bool true) (fun o h=>by simp[execOp,h,v22,go_sem]) hb
  |24,_,hr =>
   have hon:a.tmps[69]?=some (.bool true):=H.dep hr 23 69;exact bMv (X:=.load 29 (.tmp 2)) (v:=.agg C.xc) (by kernel_rfl) (bR1 (i:=24) (j:=23) (s:=69) (by kernel_rfl) (by kernel_rfl) hon) (fun o h=>by exact aW h (ev' t2) (bFb (M.k2.below hb)) underlying29 rfl M.sx) rfl hb
  |25,_,hr =>
   have hon:a.tmps[69]?=some (.bool true):=H.dep hr 23 69;exact bMv (X:=.load 29 (.tmp 3)) (v:=.agg C.yc) (by kernel_rfl) (bR1 (i:=25) (j:=23) (s:=69) (by kernel_rfl) (by kernel_rfl) hon) (fun o h=>by exact aW h (ev' t3) (bFb (M.k3.below hb)) underlying29 rfl M.sy) rfl hb
  |26,_,hr =>
   have v24:a.tmps[70]?=some (.agg C.xc):=H.dep hr 24 70;have v25:a.tmps[71]?=some (.agg C.yc):=H.dep hr 25 71;have hon:a.tmps[69]?=some (.bool true):=H.dep hr 23 69;refine mX (f:=19) (lb:=#[]) (c:=.func 19) (args:=#[.tmp 70,.tmp 71]) (ts:=#[29,29]) (vs:=#[.agg C.xc,.agg C.yc]) (by kernel_rfl) (bR1 (i:=26) (j:=23) (s:=69) (by kernel_rfl) (by kernel_rfl) hon) rfl (aXb func19) (by simp[Act.eval,v24,v25]) ((M.h1 w hb).mono ?_);rintro e w' ⟨rfl,hb'⟩;exact⟨_,(),rfl,rfl,fun _ _=>rfl,aA hb hb'⟩
  |27,_,hr =>
   have hon:a.tmps[69]?=some (.bool true):=H.dep hr 23 69;exact bMv (X:=.load 29 (.tmp 3)) (v:=.agg C.yc) (by kernel_rfl) (bR1 (i:=27) (j:=23) (s:=69) (by kernel_rfl) (by kernel_rfl) hon) (fun o h=>by exact aW h (ev' t3) (bFb (M.k3.below hb)) underlying29 rfl M.sy) rfl hb
  |28,_,hr =>
   have hon:a.tmps[69]?=some (.bool true):=H.dep hr 23 69;exact bMv (X:=.load 29 (.tmp 2)) (v:=.agg C.xc) (by kernel_rfl) (bR1 (i:=28) (j:=23) (s:=69) (by kernel_rfl) (by kernel_rfl) hon) (fun o h=>by exact aW h (ev' t2) (bFb (M.k2.below hb)) underlying29 rfl M.sx) rfl hb
  |29,_,hr =>
   have v27:a.tmps[73]?=some (.agg C.yc):=H.dep hr 27 73;have v28:a.tmps[74]?=some (.agg C.xc):=H.dep hr 28 74;have hon:a.tmps[69]?=some (.bool true):=H.dep hr 23 69;refine mX (f:=19) (lb:=#[]) (c:=.func 19) (args:=#[.tmp 73,.tmp 74]) (ts:=#[29,29]) (vs:=#[.agg C.yc,.agg C.xc]) (by kernel_rfl) (bR1 (i:=29) (j:=23) (s:=69) (by kernel_rfl) (by kernel_rfl) hon) rfl (aXb func19) (by simp[Act.eval,v27,v28]) ((M.h3 w hb).mono ?_);rintro e w' ⟨rfl,hb'⟩;exact⟨_,(),rfl,rfl,fun _ _=>rfl,aA hb hb'⟩
  |30,_,hr =>
   have v26:a.tmps[72]?=some (.bool C.s1):=H.dep hr 26 72;have v29:a.tmps[75]?=some (.bool C.s1):=H.dep hr 29 75;have hon:a.tmps[69]?=some (.bool true):=H.dep hr 23 69;exact bMv (X:=.binOp .eql 4 (.tmp 72) (.tmp 75) 4) (v:=.bool true) (by kernel_rfl) (bR1 (i:=30) (j:=23) (s:=69) (by kernel_rfl) (by kernel_rfl) hon) (fun o h=>by simp[execOp,h,v26,v29,go_sem]) rfl hb
  |31,_,hr =>
   have v23:a.tmps[69]?=some (.bool true):=H.dep hr 23 69;have v30:a.tmps[76]?=some (.bool true):=H.dep hr 30 76;exact aWj (.pick (.tmp 69) (.tmp 76) (.const (.bool false))) (.bool true) (fun o h=>by simp[execOp,h,v23,v30,go_sem]) hb
  |32,_,hr =>
   have v31:a.tmps[77]?=some (.bool true):=H.dep hr 31 77;exact aWj (.move (.tmp 77)) (.bool true) (fun o h=>by simp[execOp,h,v31,go_sem]) hb
  |33,_,hr =>
   have hon:a.tmps[78]?=some (.bool true):=H.dep hr 32 78;refine mX (f:=11) (lb:=#[]) (c:=.func 11) (args:=#[]) (ts:=#[]) (vs:=#[]) (by kernel_rfl) (bR1 (i:=33) (j:=32) (s:=78) (by kernel_rfl) (by kernel_rfl) hon) rfl (aXb func11) (by simp) ((M.aw w hb).mono ?_);rintro e w' ⟨rfl,hb'⟩;exact⟨_,(),rfl,rfl,fun _ _=>rfl,aA hb hb'⟩
  |34,_,hr =>
   have v32:a.tmps[78]?=some (.bool true):=H.dep hr 32 78;have v33:a.tmps[79]?=some (.bool true):=H.dep hr 33 79;exact aWj (.pick (.tmp 78) (.tmp 79) (.const (.bool false))) (.bool true) (fun o h=>by simp[execOp,h,v32,v33,go_sem]) hb
  |35,_,hr =>
   have v34:a.tmps[80]?=some (.bool true):=H.dep hr 34 80;exact aWj (.assign (.tmp 80)) (.bool true) (fun o h=>by simp[execOp,h,v34,go_sem]) hb
  |n+36,h,_=>exact absurd h (by omega)
end
theorem bQ5{x:aF}(h:x.fits):-9223372036854775808<=x.f.stamp/\x.f.stamp<=9223372036854775807/\-9223372036854775808<=x.f.choice/\x.f.choice<=9223372036854775807:=by
 have h1:=h.stamp;have h2:=h.choice;simp[Lit.wf,IntKind.min,IntKind.max,IntKind.signed,IntKind.bits] at h1 h2;omega
theorem bRz(x:aF)(hx:x.fits)(ht:x.f.small)(he:bY x.f=0)(w:World)(hE:iE w)(hB:x.f.Behind w x.pa x.oa):
  Calls prog 21 #[.agg x.arr] w fun e w'=>e=.returned (.tuple #[.string ⟨(enc x.f).toArray⟩,.int .i64 0])/\Below w.heap.size w w':=by
 obtain⟨r1,r2,r3,r4⟩:=bQ5 hx;exact bIc x.f ⟨ht,r3,r4,r1,r2⟩ he (Nat.le_trans (bTn he ht r2 r4) (by decide)) x.pa x.oa x.pc x.oc w hE hx.picks hB
theorem bUb(f g:aE)(hf:bY f=0)(hg:bY g=0)(hfr:f.stamp<=9223372036854775807/\f.choice<=9223372036854775807)(hgr:g.stamp<=9223372036854775807/\g.choice<=9223372036854775807)(W:World):(binOp .eql 9 (.string ⟨(enc f).toArray⟩) (.string ⟨(enc g).toArray⟩)).run prog W=.ok (.bool (bI2 f g)) W:=by
 have h:bI2 f g=decide (enc f=enc g):=by
  rw[Bool.eq_iff_iff,bKw,decide_eq_true_eq];exact⟨fun e=>by rw[e],fun e=>bT2 hf hfr.1 hfr.2 hg hgr.1 hgr.2 e⟩
 rw[h];simp[go_sem];rw[Bool.eq_iff_iff];simp
theorem bT7{f:aE}(h:f.small)(s:Int):({ f with stamp:=s }:aE).small:={ h with }
def bQc(x y:aF):aF:={ x with f:={ x.f with stamp:=y.f.stamp } }
theorem bQ7{f:aE}(h:bY f=0){s:Int}(hs:¬ s<0):bY { f with stamp:=s }=0:=by
 obtain⟨hk,h0⟩:=bP4 h;unfold bY at h ⊢;rw[if_neg (by rw[hk];simp),if_neg h0] at h;rw[if_neg (by show ¬ dC f.key=false;rw[hk];simp),if_neg hs];exact h
theorem bSu(x y:aF)(w:World)(hE:iE w)(hbx:x.f.Behind w x.pa x.oa)(hfx:x.fits)(hby:y.f.Behind w y.pa y.oa)(hfy:y.fits):
  Calls prog 7 #[.agg x.arr,.agg y.arr] w fun e w'=>e=.returned (.bool true)/\Below w.heap.size w w':=by
 obtain⟨wA,hwA⟩:∃wA,wA=w.alloc (.cells x.arr 29):=⟨_,rfl⟩
 obtain⟨wB,hwB⟩:∃wB,wB=wA.alloc (.cells y.arr 29):=⟨_,rfl⟩
 have sA:wA.heap.size=w.heap.size+1:=by rw[hwA,World.size_alloc]
 have sB:wB.heap.size=w.heap.size+1+1:=by rw[hwB,World.size_alloc,sA]
 have bA:Below w.heap.size w wA:=by rw[hwA];exact aB _ _
 have bB:Below wA.heap.size wA wB:=by rw[hwB];exact aB _ _
 have k0:aP wA w.heap.size x.arr 29:=by rw[hwA];exact aP.new0 _ _ _
 have k1:aP wB (w.heap.size+1) y.arr 29:=by rw[hwB,<-sA];exact aP.new0 _ _ _
 have K0:=Hd (k0.below bB);have K1:=Hd k1;have bW:=bA.trans (bB.mono bA.size);have HB:=Hd bW;have HG:=Hd (bTk x y wB (hbx.below bW) (hby.below bW) hfx hfy);have HRUN:=Hd (bTs x y wB);have HAW:Hid (∀W,Below w.heap.size w W->Calls prog 11 #[] W fun e w'=>e=.returned (.bool true)/\Below W.heap.size W w'):=fun W hb=>bLi W (hE.below hb)
 have HCX:Hid (x.f.small->∀W,Below w.heap.size w W->Calls prog 12 #[.agg x.arr] W fun e w'=>e=.returned (.int .i64 (bY x.f))/\Below W.heap.size W w'):=fun ht W hb=>rT x.f x.pa x.oa x.pc x.oc W (hE.below hb) ht hfx.picks (hbx.below hb)
 have HCY:Hid (y.f.small->∀W,Below w.heap.size w W->Calls prog 12 #[.agg y.arr] W fun e w'=>e=.returned (.int .i64 (bY y.f))/\Below W.heap.size W w'):=fun ht W hb=>rT y.f y.pa y.oa y.pc y.oc W (hE.below hb) ht hfy.picks (hby.below hb)
 have HEX:Hid (x.f.small->bY x.f=0->∀W,Below w.heap.size w W->Calls prog 21 #[.agg x.arr] W fun e w'=>e=.returned (.tuple #[.string ⟨(enc x.f).toArray⟩,.int .i64 0])/\Below W.heap.size W w'):=fun ht he W hb=>bRz x hfx ht he W (hE.below hb) (hbx.below hb)
 have HEY:Hid (y.f.small->bY y.f=0->∀W,Below w.heap.size w W->Calls prog 21 #[.agg y.arr] W fun e w'=>e=.returned (.tuple #[.string ⟨(enc y.f).toArray⟩,.int .i64 0])/\Below W.heap.size W w'):=fun ht he W hb=>bRz y hfy ht he W (hE.below hb) (hby.below hb)
 have hzf:(bQc x y).fits:={ hfx with stamp:=hfy.stamp }
 have HEZ:Hid (x.f.small->bY x.f=0->bY y.f=0->∀W,Below w.heap.size w W->Calls prog 21 #[.agg (bQc x y).arr] W fun e w'=>e=.returned (.tuple #[.string ⟨(enc (bQc x y).f).toArray⟩,.int .i64 0])/\Below W.heap.size W w'):=fun ht he hy W hb=>bRz (bQc x y) hzf (bT7 ht _) (bQ7 he (bP4 hy).2) W (hE.below hb) (hbx.below hb)
 have HSM:Hid (x.f.small->y.f.small->∀W,Below w.heap.size w W->Calls prog 19 #[.agg x.arr,.agg y.arr] W (fun e w'=>e=.returned (.bool (bI2 x.f y.f))/\Below W.heap.size W w')/\Calls prog 19 #[.agg (bQc x y).arr,.agg y.arr] W (fun e w'=>e=.returned (.bool (bI2 (bQc x y).f y.f))/\Below W.heap.size W w')/\Calls prog 19 #[.agg y.arr,.agg x.arr] W (fun e w'=>e=.returned (.bool (bI2 x.f y.f))/\Below W.heap.size W w')):=fun hx hy W hb=>by
  have p1:=Nat.le_trans hx.picks (show 1000<=1000000 by decide);have p2:=Nat.le_trans hx.options (show 1000<=1000000 by decide);have q1:=Nat.le_trans hy.picks (show 1000<=1000000 by decide);have q2:=Nat.le_trans hy.options (show 1000<=1000000 by decide);refine⟨bLs x.f y.f x.pa x.oa y.pa y.oa x.pc x.oc y.pc y.oc W (hbx.below hb) (hby.below hb) p1 p2,bLs (bQc x y).f y.f x.pa x.oa y.pa y.oa x.pc x.oc y.pc y.oc W (hbx.below hb) (hby.below hb) p1 p2,?_⟩;rw[bR0 x.f y.f];exact bLs y.f x.f y.pa y.oa x.pa x.oa y.pc y.oc x.pc x.oc W (hby.below hb) (hbx.below hb) q1 q2
 have HEQ:Hid (bY x.f=0->bY y.f=0->∀W,(binOp .eql 9 (.string ⟨(enc x.f).toArray⟩) (.string ⟨(enc y.f).toArray⟩)).run prog W=.ok (.bool (bI2 x.f y.f)) W/\(binOp .eql 9 (.string ⟨(enc (bQc x y).f).toArray⟩) (.string ⟨(enc y.f).toArray⟩)).run prog W=.ok (.bool (bI2 (bQc x y).f y.f)) W):=fun he hy W=>by
  obtain⟨r1,r2,r3,r4⟩:=bQ5 hfx;obtain⟨s1,s2,s3,s4⟩:=bQ5 hfy;exact⟨bUb _ _ he hy ⟨r2,r4⟩ ⟨s2,s4⟩ W,bUb _ _ (bQ7 he (bP4 hy).2) hy ⟨s2,r4⟩ ⟨s2,s4⟩ W⟩
 have HSX:Hid ((prog.info? 29).map (·.size)=some x.arr.size):=aY x.f x.pa x.oa x.pc x.oc;have HSY:Hid ((prog.info? 29).map (·.size)=some y.arr.size):=aY y.f y.pa y.oa y.pc y.oc;have HSZ:Hid ((prog.info? 29).map (·.size)=some (bQc x y).arr.size):=aY (bQc x y).f x.pa x.oa x.pc x.oc;have HZA:Hid ((bQc x y).arr=x.arr.setIfInBounds 1 (.int .i64 y.f.stamp)):=rfl;have HX1:Hid (x.arr.size=21/\x.arr.all (·.oneCell')=true/\y.arr[1]?=some (.int .i64 y.f.stamp)/\x.arr[1]?=some (.int .i64 x.f.stamp)):=⟨rfl,by unfold aF.arr aE.cells;simp[Value.oneCell'],rfl,rfl⟩
 have HSML:Hid (x.f.tight/\y.f.tight->x.f.small/\y.f.small):=fun h=>⟨h.1.small,h.2.small⟩
 clear hE hbx hfx hby hfy bA bB k0 k1 sA sB bW hzf;generalize(bQc x y).arr=zc at *;generalize enc (bQc x y).f=ez at *;generalize bI2 (bQc x y).f y.f=sz at *;generalize enc x.f=ex at *;generalize enc y.f=ey at *;generalize bI2 x.f y.f=sx at *;generalize x.arr=xc at *;generalize y.arr=yc at *;generalize bY x.f=cx at *;generalize bY y.f=cy at *;generalize x.f.stamp=ux at *;generalize y.f.stamp=uy at *;generalize(x.f.tight/\y.f.tight)=PT at *;generalize x.f.small=PX at *;generalize y.f.small=PY at *;clear x y;go_enter func7,ntmps7;have A1:Hid (w.alloc (.cells xc 29)=wA):=hwA.symm;have A2:Hid (wA.alloc (.cells yc 29)=wB):=hwB.symm;clear hwA hwB;go_wp2_with (first
  |(rw[A1.out,A2.out];refine wpList_load_row rfl 29 _ rfl w.heap.size rfl 29 xc (0,0) _ K0.out.2 underlying29 rfl HSX.out ?_)
  |(refine wpList_load_row rfl 29 _ rfl (w.heap.size+1) rfl 29 yc (0,0) _ K1.out.2 underlying29 rfl HSY.out ?_)
  |(refine bN8 rfl 47 2 _ rfl #[(0,.agg xc),(1,.agg yc)] _ (by first|rfl|kernel_rfl) HRUN.out ?_))
 refine HG.out.mono ?_;rintro e w1 ⟨⟨g,rfl,hg⟩,hb⟩;have HB1:=Hd (HB.out.trans (hb.mono HB.out.size));have K0b:=Hd (K0.out.below hb);have K1b:=Hd (K1.out.below hb);clear hb K0 K1 HB HRUN HG A1 A2;cases g with
 |true =>
  clear HCX HCY HEX HEY HEZ HSM HEQ HSML hg;go_wp2_with fail;refine(HAW.out _ HB1.out).mono ?_;rintro e wa ⟨rfl,hb⟩;go_wp2;go_ret;exact⟨rfl,aA HB1.out hb⟩
 |false =>
  obtain⟨px,py⟩:=HSML.out (hg rfl);clear HSML hg;have HCX2:=Hd (HCX.out px);have HCY2:=Hd (HCY.out py);clear HCX HCY;go_wp2_with (refine bFn (by rfl) 29 _ rfl w.heap.size rfl 29 xc (0,0) _ K0b.out.2 underlying29 rfl HSX.out ?_);refine(HCX2.out _ HB1.out).mono ?_;rintro e w2 ⟨rfl,hb⟩;have HB2:=Hd (HB1.out.trans (hb.mono HB1.out.size));have K0c:=Hd (K0b.out.below hb);have K1c:=Hd (K1b.out.below hb);clear hb K0b K1b HB1 HCX2
  by_cases hx:cx=0
  rotate_left
  ·have hx1:(cx==0)=false:=by simpa using hx
   clear HCY2 HEX HEY HEZ HSM HEQ;go_wp2_with fail;refine(HAW.out _ HB2.out).mono ?_;rintro e wa ⟨rfl,hb⟩;go_wp2;go_ret;exact⟨rfl,aA HB2.out hb⟩
  subst hx;go_wp2_with (refine bFn ?hw 29 _ rfl (w.heap.size+1) rfl 29 yc (0,0) _ K1c.out.2 underlying29 rfl HSY.out ?_);refine(HCY2.out _ HB2.out).mono ?_;rintro e w3 ⟨rfl,hb⟩;have HB3:=Hd (HB2.out.trans (hb.mono HB2.out.size));have K0d:=Hd (K0c.out.below hb);have K1d:=Hd (K1c.out.below hb);clear hb K0c K1c HB2 HCY2
  by_cases hy:cy=0
  rotate_left
  ·have hy1:(cy==0)=false:=by simpa using hy
   clear HEX HEY HEZ HSM HEQ;go_wp2_with fail;refine(HAW.out _ HB3.out).mono ?_;rintro e wa ⟨rfl,hb⟩;go_wp2;go_ret;exact⟨rfl,aA HB3.out hb⟩
  subst hy;have HEX2:=Hd (HEX.out px (by trivial));have HEY2:=Hd (HEY.out py (by trivial));have HEZ2:=Hd (HEZ.out px (by trivial) (by trivial));have HSM2:=Hd (HSM.out px py);have HEQ2:=Hd (HEQ.out (by trivial) (by trivial));clear HEX HEY HEZ HSM HEQ;go_wp2_with (refine wpList_load_row rfl 29 _ rfl w.heap.size rfl 29 xc (0,0) _ K0d.out.2 underlying29 rfl HSX.out ?_);refine(HEX2.out _ HB3.out).mono ?_;rintro e w4 ⟨rfl,hb⟩;have HB4:=Hd (HB3.out.trans (hb.mono HB3.out.size));have K0e:=Hd (K0d.out.below hb);have K1e:=Hd (K1d.out.below hb);clear hb K0d K1d HB3 HEX2;go_wp2_with (refine wpList_load_row rfl 29 _ rfl (w.heap.size+1) rfl 29 yc (0,0) _ K1e.out.2 underlying29 rfl HSY.out ?_);refine(HEY2.out _ HB4.out).mono ?_;rintro e w5 ⟨rfl,hb⟩;have HB5:=Hd (HB4.out.trans (hb.mono HB4.out.size));have K0f:=Hd (K0e.out.below hb);have K1f:=Hd (K1e.out.below hb);have KZ:=Hd (bFz w5);have BZ:=Hd (aB w5 Z13);unfold Z13 at KZ BZ;clear hb K0e K1e HB4 HEY2;go_wp2_with (first
   |(refine wpList_load_row rfl 29 _ rfl w.heap.size rfl 29 xc (0,0) _ K0f.out.2 underlying29 rfl HSX.out ?_)
   |(refine bC5 rfl 29 _ _ rfl w5.heap.size xc rfl rfl KZ.out HSX.out (by show _=_;rw[HX1.out.1];rfl) HX1.out.2.1 ?_;intro w6 kx bx gr;have B6:=Hd (BZ.out.trans (bx _ (Nl _)));have c9:=(kx.cell 1).trans HX1.out.2.2.2;have f9:=aR kx.2 1;have c1:=((K1f.out.below B6.out).cell 1).trans HX1.out.2.2.1;have KZ9:Hid (aP (w6.setCell ⟨w5.heap.size,1,none⟩ (.int .i64 uy)) w5.heap.size zc 29):=(by show aP _ _ _ _;rw[HZA.out];exact bGb kx);have HB6:Hid (Below w5.heap.size w5 (w6.setCell ⟨w5.heap.size,1,none⟩ (.int .i64 uy))):=B6.out.setCell (Nl _) _;clear kx bx gr KZ BZ)
   |(refine wpList_load_row rfl 29 _ rfl w5.heap.size rfl 29 zc (0,0) _ KZ9.out.2 underlying29 rfl HSZ.out ?_))
  clear c9 f9 c1 B6;generalize w6.setCell ⟨w5.heap.size,1,none⟩ (.int .i64 uy)=w7 at *;have HB7:=Hd (HB5.out.trans (HB6.out.mono HB5.out.size));refine(HEZ2.out _ HB7.out).mono ?_;rintro e w8 ⟨rfl,hb⟩;have HB8:=Hd (HB7.out.trans (hb.mono HB7.out.size));have K0g:=Hd ((K0f.out.below HB6.out).below hb);have K1g:=Hd ((K1f.out.below HB6.out).below hb);have K9g:=Hd (KZ9.out.below hb);clear hb K0f K1f KZ9 HB7 HB6 HB5 HEZ2;go_wp2_with fail;have bd:Below w8.heap.size w8 (w8.drewN 1):=aD (Br _ _) 1;have bw:∀W,Below (w8.drewN 1).heap.size (w8.drewN 1) W->Below w.heap.size w W:=fun W hW=>(HB8.out.trans (bd.mono HB8.out.size)).trans (hW.mono (Nat.le_trans HB8.out.size bd.size))
  refine bUj (C:=⟨w8.drewN 1,w.heap.size,w.heap.size+1,w5.heap.size,xc,yc,zc,⟨ex.toArray⟩,⟨ey.toArray⟩,⟨ez.toArray⟩,sx,sz⟩) ⟨rfl,rfl,rfl,rfl,rfl,rfl,rfl,rfl,rfl,rfl,K0g.out.below bd,K1g.out.below bd,K9g.out.below bd,HSX.out,HSY.out,HSZ.out,fun W hW=>(HSM2.out W (bw W hW)).1,fun W hW=>(HSM2.out W (bw W hW)).2.1,fun W hW=>(HSM2.out W (bw W hW)).2.2,fun W=>(HEQ2.out W).1,fun W=>(HEQ2.out W).2,fun W hW=>HAW.out W (bw W hW)⟩ rfl rfl rfl ?_;intro w9 hb9;have HB9:=Hd (bw w9 hb9);clear hb9 bd bw;simp only[iZ,bUp,List.foldl,bUm.val,List.setIfInBounds_toArray,List.set_cons_zero,List.set_cons_succ];go_wp2_with fail;go_ret;exact⟨rfl,HB9.out⟩
end Go.Proofs.YthjekgfoidmagaaGreatDoor
