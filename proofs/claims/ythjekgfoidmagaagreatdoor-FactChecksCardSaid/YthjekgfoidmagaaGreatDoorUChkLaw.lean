/- FactChecksLaw -/
import Derived.Test.YthjekgfoidmagaaGreatDoorULaw13
import Derived.Test.YthjekgfoidmagaaGreatDoorURCheck
import Derived.Test.YthjekgfoidmagaaGreatDoorURInst
set_option maxHeartbeats 16000000
set_option maxRecDepth 100000
namespace Go.Proofs.YthjekgfoidmagaaGreatDoor
open Go.Proofs.Tryz
open Go Go.RowKit Num
def bWo(ns:List (List UInt8))(v:Value)(w:World):Prop:=∃a c,v=.slice a ns.length c/\dT w a (iS ns)
theorem bWo.below{ns:List (List UInt8)}{v:Value}{w w':World}(h:bWo ns v w)(hb:Below w.heap.size w w'):bWo ns v w':=by
 obtain⟨a,c,e,hr⟩:=h;exact⟨a,c,e,hr.below hb⟩
noncomputable def bXu:Array Oper:=(Tryz.f3.body.bind (jE 3)).getD #[]
def bYx:List (Nat×Nat):=[(0,10),(1,11),(2,12),(3,13),(4,14),(5,15),(6,16),(7,17),(8,18),(9,19),(10,20),(11,21),(12,22),(13,23),(14,24),(15,25),(16,26),(17,27),(18,28),(19,29),(20,30),(21,31),(22,32),(23,33),(24,34),(25,35),(26,36),(27,37),(28,38),(29,39),(30,40),(31,41),(32,42),(33,43),(34,44),(35,45),(36,46),(37,47),(38,4)]
structure bYl where
 W0:World
 b2:Nat
 b3:Nat
 xc:Array Value
 yc:Array Value
 cx:Int
 cn:Int
 s1:Bool
 ns:List (List UInt8)
def bYl.val(C:bYl)(γ:Value×Value):Nat->Value
 |0=>.agg C.xc
 |1=>.int .i64 C.cx
 |2=>.agg C.xc
 |3=>.int .i64 C.cx
 |4=>.bool true
 |5=>.bool true
 |6=>.agg C.xc
 |7=>.agg C.yc
 |8=>.int .i64 C.cn
 |9=>.agg C.xc
 |10=>.agg C.yc
 |11=>.int .i64 C.cn
 |12=>.bool true
 |13=>.bool true
 |14=>.bool true
 |15=>.agg C.xc
 |16=>γ.1
 |17=>.agg C.xc
 |18=>γ.2
 |19=>.bool true
 |20=>.bool true
 |21=>.bool true
 |22=>.agg C.xc
 |23=>.agg C.yc
 |24=>.bool C.s1
 |25=>.agg C.xc
 |26=>.agg C.yc
 |27=>.bool C.s1
 |28=>.bool true
 |29=>.bool true
 |30=>.bool true
 |31=>.agg C.xc
 |32=>.agg C.xc
 |33=>.bool true
 |34=>.bool true
 |35=>.bool true
 |36=>.bool true
 |37=>.bool true
 |_=>.bool true
def bYl.gg(C:bYl)(γ:Value×Value)(l:Array Bool)(W:World):Prop:=Below C.W0.heap.size C.W0 W/\(lP l 16->bWo C.ns γ.1 W)/\(lP l 18->bWo C.ns γ.2 W)
theorem bY5(C:bYl)(γ:Value×Value)(v:Value){j:Nat}(h:j≠16):C.val (v,γ.2) j=C.val γ j:=by unfold bYl.val;split<;>first|rfl|exact absurd rfl h|(split<;>first|rfl|simp_all)
theorem bY4(C:bYl)(γ:Value×Value)(v:Value){j:Nat}(h:j≠18):C.val (γ.1,v) j=C.val γ j:=by unfold bYl.val;split<;>first|rfl|exact absurd rfl h|(split<;>first|rfl|simp_all)
structure bZo(C:bYl)(t0:Array Value):Prop where
 sz:t0.size=48
 t2:t0[2]?=some (.pointer (some ⟨C.b2,0,none⟩))
 t3:t0[3]?=some (.pointer (some ⟨C.b3,0,none⟩))
 k2:aP C.W0 C.b2 C.xc 29
 k3:aP C.W0 C.b3 C.yc 29
 sx:(prog.info? 29).map (·.size)=some C.xc.size
 sy:(prog.info? 29).map (·.size)=some C.yc.size
 h1:∀W,Below C.W0.heap.size C.W0 W->Calls prog 12 #[.agg C.xc] W fun e w'=>e=.returned (.int .i64 C.cx)/\Below W.heap.size W w'
 h2:∀W,Below C.W0.heap.size C.W0 W->Calls prog 13 #[.agg C.xc] W fun e w'=>e=.returned (.int .i64 C.cx)/\Below W.heap.size W w'
 h3:∀W,Below C.W0.heap.size C.W0 W->Calls prog 14 #[.agg C.xc,.agg C.yc] W fun e w'=>e=.returned (.int .i64 C.cn)/\Below W.heap.size W w'
 h4:∀W,Below C.W0.heap.size C.W0 W->Calls prog 15 #[.agg C.xc,.agg C.yc] W fun e w'=>e=.returned (.int .i64 C.cn)/\Below W.heap.size W w'
 h5:∀W,Below C.W0.heap.size C.W0 W->Calls prog 17 #[.agg C.xc] W fun e w'=>(∃v,e=.returned v/\bWo C.ns v w')/\Below W.heap.size W w'
 h6:∀W,Below C.W0.heap.size C.W0 W->Calls prog 18 #[.agg C.xc] W fun e w'=>(∃v,e=.returned v/\bWo C.ns v w')/\Below W.heap.size W w'
 h7:∀v v' W,Below C.W0.heap.size C.W0 W->bWo C.ns v W->bWo C.ns v' W->Calls prog 16 #[v,v'] W fun e w'=>e=.returned (.bool true)/\Below W.heap.size W w'
 h8:∀W,Below C.W0.heap.size C.W0 W->Calls prog 19 #[.agg C.xc,.agg C.yc] W fun e w'=>e=.returned (.bool C.s1)/\Below W.heap.size W w'
 h9:∀W,Below C.W0.heap.size C.W0 W->Calls prog 20 #[.agg C.xc,.agg C.yc] W fun e w'=>e=.returned (.bool C.s1)/\Below W.heap.size W w'
 h10:∀W,Below C.W0.heap.size C.W0 W->Calls prog 19 #[.agg C.xc,.agg C.xc] W fun e w'=>e=.returned (.bool true)/\Below W.heap.size W w'
 aw:∀W,Below C.W0.heap.size C.W0 W->Calls prog 11 #[] W fun e w'=>e=.returned (.bool true)/\Below W.heap.size W w'
section
variable {C:bYl}{t0:Array Value}{Q:Exit->Act->World->Prop}
theorem bYu(M:bZo C t0){a:Act}{w:World}(hdf:a.defers=[])(ht:a.tmps=t0)(hw:w.drewN 1=C.W0)
  (hQ:∀ γ W,Below C.W0.heap.size C.W0 W->Q .normal { tmps:=iZ (C.val γ) bYx t0,defers:=[] } W):(Code.region 3 bXu true).wp prog Q a w:=by
 have hsz:bXu.size=39:=by kernel_rfl
 refine eV (ds:=bYx) (val:=C.val) (G:=C.gg) (by kernel_rfl) (by kernel_rfl) (by decide) (fun p hp=>?_) (by kernel_rfl) ?_ (γ:=(undef,undef)) hdf ht (by rw[hw];exact⟨Br _ _,fun h=>absurd h (Gu _ _),fun h=>absurd h (Gu _ _)⟩) (fun γ _ W _ hg=>hQ γ W hg.1)
 ·rw[M.sz];have:∀p,p∈bYx->p.2<48:=by decide
  exact this p hp
 ·intro γ l a w i H hr;have hno:=bDz hr;have hi:i<39:=by
   obtain⟨_,o,ho,_⟩:=mem_ready.1 hr;have:=(Ai.1 ho).1;rw[hsz] at this;exact this
  have t2:=H.low (s:=2) (by decide) M.t2;have t3:=H.low (s:=3) (by decide) M.t3;have hb:Below C.W0.heap.size C.W0 w:=H.g.1;have kp:∀(j:Nat) (w':World),Below w.heap.size w w'->j≠16->j≠18->C.gg γ (l.setIfInBounds j true) w':=fun j w' hb' h1 h2=>⟨aA hb hb',fun h=>(H.g.2.1 (mQ h (Ne.symm h1))).below hb',fun h=>(H.g.2.2 (mQ h (Ne.symm h2))).below hb'⟩
  have LX:∀(x:Nat) (B:Nat) (cs:Array Value),aP C.W0 B cs 29->(prog.info? 29).map (·.size)=some cs.size->a.tmps[x]?=some (.pointer (some ⟨B,0,none⟩))->∀(i j s:Nat),a.tmps[s]?=some (.bool true)->(bXu[i]?).map (·.op)=some (.load 29 (.tmp x))->(bXu[i]?).map (·.guard)=some (some (j,true))->(bXu[j]?).bind (·.dst)=some s->.agg cs=C.val γ i->i≠16->i≠18->wpOp prog bXu Q i (pY bXu C.val C.gg γ l a i) a w :=
   fun x B cs k sz t i j s hon h1 h2 h3 h4 h5 h6=>bMv h1 (bR1 h2 h3 hon) (fun o h=>aW h (ev' t) (bFb (k.below hb)) underlying29 rfl sz) h4 (kp i w (Br _ _) h5 h6)
  match i,hi,hr with
  |0,_,hr =>
   exact aWj (.load 29 (.tmp 2)) (.agg C.xc) (fun o h=>by exact aW h (ev' t2) (bFb (M.k2.below hb)) underlying29 rfl M.sx) (kp 0 w (Br _ _) (by decide) (by decide))
  |1,_,hr =>
   have v0:a.tmps[10]?=some (.agg C.xc):=H.dep hr 0 10;refine gA (f:=12) (lb:=#[]) (c:=.func 12) (args:=#[.tmp 10]) (ts:=#[29]) (vs:=#[.agg C.xc]) (by kernel_rfl) rfl (aXb func12) (by simp[Act.eval,v0]) ((M.h1 w hb).mono ?_);rintro e w' ⟨rfl,hb'⟩;exact⟨_,γ,rfl,rfl,fun _ _=>rfl,kp 1 w' hb' (by decide) (by decide)⟩
  |2,_,hr =>
   exact aWj (.load 29 (.tmp 2)) (.agg C.xc) (fun o h=>by exact aW h (ev' t2) (bFb (M.k2.below hb)) underlying29 rfl M.sx) (kp 2 w (Br _ _) (by decide) (by decide))
  |3,_,hr =>
   have v2:a.tmps[12]?=some (.agg C.xc):=H.dep hr 2 12;refine gA (f:=13) (lb:=#[]) (c:=.func 13) (args:=#[.tmp 12]) (ts:=#[29]) (vs:=#[.agg C.xc]) (by kernel_rfl) rfl (aXb func13) (by simp[Act.eval,v2]) ((M.h2 w hb).mono ?_);rintro e w' ⟨rfl,hb'⟩;exact⟨_,γ,rfl,rfl,fun _ _=>rfl,kp 3 w' hb' (by decide) (by decide)⟩
  |4,_,hr =>
   have v1:a.tmps[11]?=some (.int .i64 C.cx):=H.dep hr 1 11;have v3:a.tmps[13]?=some (.int .i64 C.cx):=H.dep hr 3 13;exact aWj (.binOp .eql 32 (.tmp 11) (.tmp 13) 32) (.bool true) (fun o h=>by simp[execOp,h,v1,v3,go_sem]) (kp 4 w (Br _ _) (by decide) (by decide))
  |5,_,hr =>
   have v4:a.tmps[14]?=some (.bool true):=H.dep hr 4 14;exact aWj (.move (.tmp 14)) (.bool true) (fun o h=>by simp[execOp,h,v4,go_sem]) (kp 5 w (Br _ _) (by decide) (by decide))
  |6,_,hr =>
   have hon:a.tmps[15]?=some (.bool true):=H.dep hr 5 15;exact LX 2 _ _ M.k2 M.sx t2 6 5 15 hon (by kernel_rfl) (by kernel_rfl) (by kernel_rfl) rfl (by decide) (by decide)
  |7,_,hr =>
   have hon:a.tmps[15]?=some (.bool true):=H.dep hr 5 15;exact LX 3 _ _ M.k3 M.sy t3 7 5 15 hon (by kernel_rfl) (by kernel_rfl) (by kernel_rfl) rfl (by decide) (by decide)
  |8,_,hr =>
   have v6:a.tmps[16]?=some (.agg C.xc):=H.dep hr 6 16;have v7:a.tmps[17]?=some (.agg C.yc):=H.dep hr 7 17;have hon:a.tmps[15]?=some (.bool true):=H.dep hr 5 15;refine mX (f:=14) (lb:=#[]) (c:=.func 14) (args:=#[.tmp 16,.tmp 17]) (ts:=#[29,29]) (vs:=#[.agg C.xc,.agg C.yc]) (by kernel_rfl) (bR1 (i:=8) (j:=5) (s:=15) (by kernel_rfl) (by kernel_rfl) hon) rfl (aXb func14) (by simp[Act.eval,v6,v7]) ((M.h3 w hb).mono ?_);rintro e w' ⟨rfl,hb'⟩;exact⟨_,γ,rfl,rfl,fun _ _=>rfl,kp 8 w' hb' (by decide) (by decide)⟩
  |9,_,hr =>
   have hon:a.tmps[15]?=some (.bool true):=H.dep hr 5 15;exact LX 2 _ _ M.k2 M.sx t2 9 5 15 hon (by kernel_rfl) (by kernel_rfl) (by kernel_rfl) rfl (by decide) (by decide)
  |10,_,hr =>
   have hon:a.tmps[15]?=some (.bool true):=H.dep hr 5 15;exact LX 3 _ _ M.k3 M.sy t3 10 5 15 hon (by kernel_rfl) (by kernel_rfl) (by kernel_rfl) rfl (by decide) (by decide)
  |11,_,hr =>
   have v9:a.tmps[19]?=some (.agg C.xc):=H.dep hr 9 19;have v10:a.tmps[20]?=some (.agg C.yc):=H.dep hr 10 20;have hon:a.tmps[15]?=some (.bool true):=H.dep hr 5 15;refine mX (f:=15) (lb:=#[]) (c:=.func 15) (args:=#[.tmp 19,.tmp 20]) (ts:=#[29,29]) (vs:=#[.agg C.xc,.agg C.yc]) (by kernel_rfl) (bR1 (i:=11) (j:=5) (s:=15) (by kernel_rfl) (by kernel_rfl) hon) rfl (aXb func15) (by simp[Act.eval,v9,v10]) ((M.h4 w hb).mono ?_);rintro e w' ⟨rfl,hb'⟩;exact⟨_,γ,rfl,rfl,fun _ _=>rfl,kp 11 w' hb' (by decide) (by decide)⟩
  |12,_,hr =>
   have v8:a.tmps[18]?=some (.int .i64 C.cn):=H.dep hr 8 18;have v11:a.tmps[21]?=some (.int .i64 C.cn):=H.dep hr 11 21;have hon:a.tmps[15]?=some (.bool true):=H.dep hr 5 15;exact bMv (X:=.binOp .eql 3 (.tmp 18) (.tmp 21) 3) (v:=.bool true) (by kernel_rfl) (bR1 (i:=12) (j:=5) (s:=15) (by kernel_rfl) (by kernel_rfl) hon) (fun o h=>by simp[execOp,h,v8,v11,go_sem]) rfl (kp 12 w (Br _ _) (by decide) (by decide))
  |13,_,hr =>
   have v5:a.tmps[15]?=some (.bool true):=H.dep hr 5 15;have v12:a.tmps[22]?=some (.bool true):=H.dep hr 12 22;exact aWj (.pick (.tmp 15) (.tmp 22) (.const (.bool false))) (.bool true) (fun o h=>by simp[execOp,h,v5,v12,go_sem]) (kp 13 w (Br _ _) (by decide) (by decide))
  |14,_,hr =>
   have v13:a.tmps[23]?=some (.bool true):=H.dep hr 13 23;exact aWj (.move (.tmp 23)) (.bool true) (fun o h=>by simp[execOp,h,v13,go_sem]) (kp 14 w (Br _ _) (by decide) (by decide))
  |15,_,hr =>
   have hon:a.tmps[24]?=some (.bool true):=H.dep hr 14 24;exact LX 2 _ _ M.k2 M.sx t2 15 14 24 hon (by kernel_rfl) (by kernel_rfl) (by kernel_rfl) rfl (by decide) (by decide)
  |16,_,hr =>
   have v15:a.tmps[25]?=some (.agg C.xc):=H.dep hr 15 25;have hon:a.tmps[24]?=some (.bool true):=H.dep hr 14 24;refine mX (f:=17) (lb:=#[]) (c:=.func 17) (args:=#[.tmp 25]) (ts:=#[29]) (vs:=#[.agg C.xc]) (by kernel_rfl) (bR1 (i:=16) (j:=14) (s:=24) (by kernel_rfl) (by kernel_rfl) hon) rfl (aXb func17) (by simp[Act.eval,v15]) ((M.h5 w hb).mono ?_);rintro e w' ⟨⟨v,rfl,hv⟩,hb'⟩;exact⟨_,(v,γ.2),rfl,rfl,fun j hj=>bY5 C γ v (fun e=>hno (e ▸ hj)),aA hb hb',fun _=>hv,fun h=>(H.g.2.2 (mQ h (by decide))).below hb'⟩
  |17,_,hr =>
   have hon:a.tmps[24]?=some (.bool true):=H.dep hr 14 24;exact LX 2 _ _ M.k2 M.sx t2 17 14 24 hon (by kernel_rfl) (by kernel_rfl) (by kernel_rfl) rfl (by decide) (by decide)
  |18,_,hr =>
   have v17:a.tmps[27]?=some (.agg C.xc):=H.dep hr 17 27;have hon:a.tmps[24]?=some (.bool true):=H.dep hr 14 24;refine mX (f:=18) (lb:=#[]) (c:=.func 18) (args:=#[.tmp 27]) (ts:=#[29]) (vs:=#[.agg C.xc]) (by kernel_rfl) (bR1 (i:=18) (j:=14) (s:=24) (by kernel_rfl) (by kernel_rfl) hon) rfl (aXb func18) (by simp[Act.eval,v17]) ((M.h6 w hb).mono ?_);rintro e w' ⟨⟨v,rfl,hv⟩,hb'⟩;exact⟨_,(γ.1,v),rfl,rfl,fun j hj=>bY4 C γ v (fun e=>hno (e ▸ hj)),aA hb hb',fun h=>(H.g.2.1 (mQ h (by decide))).below hb',fun _=>hv⟩
  |19,_,hr =>
   have v16:a.tmps[26]?=some (γ.1):=H.dep hr 16 26;have v18:a.tmps[28]?=some (γ.2):=H.dep hr 18 28;have hon:a.tmps[24]?=some (.bool true):=H.dep hr 14 24;refine mX (f:=16) (lb:=#[]) (c:=.func 16) (args:=#[.tmp 26,.tmp 28]) (ts:=#[36,36]) (vs:=#[γ.1,γ.2]) (by kernel_rfl) (bR1 (i:=19) (j:=14) (s:=24) (by kernel_rfl) (by kernel_rfl) hon) rfl (aXb func16) (by simp[Act.eval,v16,v18]) ((M.h7 γ.1 γ.2 w hb (H.g.2.1 (aG hr (by kernel_rfl))) (H.g.2.2 (aG hr (by kernel_rfl)))).mono ?_);rintro e w' ⟨rfl,hb'⟩;exact⟨_,γ,rfl,rfl,fun _ _=>rfl,kp 19 w' hb' (by decide) (by decide)⟩
  |20,_,hr =>
   have v14:a.tmps[24]?=some (.bool true):=H.dep hr 14 24;have v19:a.tmps[29]?=some (.bool true):=H.dep hr 19 29;exact aWj (.pick (.tmp 24) (.tmp 29) (.const (.bool false))) (.bool true) (fun o h=>by simp[execOp,h,v14,v19,go_sem]) (kp 20 w (Br _ _) (by decide) (by decide))
  |21,_,hr =>
   have v20:a.tmps[30]?=some (.bool true):=H.dep hr 20 30;exact aWj (.move (.tmp 30)) (.bool true) (fun o h=>by simp[execOp,h,v20,go_sem]) (kp 21 w (Br _ _) (by decide) (by decide))
  |22,_,hr =>
   have hon:a.tmps[31]?=some (.bool true):=H.dep hr 21 31;exact LX 2 _ _ M.k2 M.sx t2 22 21 31 hon (by kernel_rfl) (by kernel_rfl) (by kernel_rfl) rfl (by decide) (by decide)
  |23,_,hr =>
   have hon:a.tmps[31]?=some (.bool true):=H.dep hr 21 31;exact LX 3 _ _ M.k3 M.sy t3 23 21 31 hon (by kernel_rfl) (by kernel_rfl) (by kernel_rfl) rfl (by decide) (by decide)
  |24,_,hr =>
   have v22:a.tmps[32]?=some (.agg C.xc):=H.dep hr 22 32;have v23:a.tmps[33]?=some (.agg C.yc):=H.dep hr 23 33;have hon:a.tmps[31]?=some (.bool true):=H.dep hr 21 31;refine mX (f:=19) (lb:=#[]) (c:=.func 19) (args:=#[.tmp 32,.tmp 33]) (ts:=#[29,29]) (vs:=#[.agg C.xc,.agg C.yc]) (by kernel_rfl) (bR1 (i:=24) (j:=21) (s:=31) (by kernel_rfl) (by kernel_rfl) hon) rfl (aXb func19) (by simp[Act.eval,v22,v23]) ((M.h8 w hb).mono ?_);rintro e w' ⟨rfl,hb'⟩;exact⟨_,γ,rfl,rfl,fun _ _=>rfl,kp 24 w' hb' (by decide) (by decide)⟩
  |25,_,hr =>
   have hon:a.tmps[31]?=some (.bool true):=H.dep hr 21 31;exact LX 2 _ _ M.k2 M.sx t2 25 21 31 hon (by kernel_rfl) (by kernel_rfl) (by kernel_rfl) rfl (by decide) (by decide)
  |26,_,hr =>
   have hon:a.tmps[31]?=some (.bool true):=H.dep hr 21 31;exact LX 3 _ _ M.k3 M.sy t3 26 21 31 hon (by kernel_rfl) (by kernel_rfl) (by kernel_rfl) rfl (by decide) (by decide)
  |27,_,hr =>
   have v25:a.tmps[35]?=some (.agg C.xc):=H.dep hr 25 35;have v26:a.tmps[36]?=some (.agg C.yc):=H.dep hr 26 36;have hon:a.tmps[31]?=some (.bool true):=H.dep hr 21 31;refine mX (f:=20) (lb:=#[]) (c:=.func 20) (args:=#[.tmp 35,.tmp 36]) (ts:=#[29,29]) (vs:=#[.agg C.xc,.agg C.yc]) (by kernel_rfl) (bR1 (i:=27) (j:=21) (s:=31) (by kernel_rfl) (by kernel_rfl) hon) rfl (aXb func20) (by simp[Act.eval,v25,v26]) ((M.h9 w hb).mono ?_);rintro e w' ⟨rfl,hb'⟩;exact⟨_,γ,rfl,rfl,fun _ _=>rfl,kp 27 w' hb' (by decide) (by decide)⟩
  |28,_,hr =>
   have v24:a.tmps[34]?=some (.bool C.s1):=H.dep hr 24 34;have v27:a.tmps[37]?=some (.bool C.s1):=H.dep hr 27 37;have hon:a.tmps[31]?=some (.bool true):=H.dep hr 21 31;exact bMv (X:=.binOp .eql 4 (.tmp 34) (.tmp 37) 4) (v:=.bool true) (by kernel_rfl) (bR1 (i:=28) (j:=21) (s:=31) (by kernel_rfl) (by kernel_rfl) hon) (fun o h=>by simp[execOp,h,v24,v27,go_sem]) rfl (kp 28 w (Br _ _) (by decide) (by decide))
  |29,_,hr =>
   have v21:a.tmps[31]?=some (.bool true):=H.dep hr 21 31;have v28:a.tmps[38]?=some (.bool true):=H.dep hr 28 38;exact aWj (.pick (.tmp 31) (.tmp 38) (.const (.bool false))) (.bool true) (fun o h=>by simp[execOp,h,v21,v28,go_sem]) (kp 29 w (Br _ _) (by decide) (by decide))
  |30,_,hr =>
   have v29:a.tmps[39]?=some (.bool true):=H.dep hr 29 39;exact aWj (.move (.tmp 39)) (.bool true) (fun o h=>by simp[execOp,h,v29,go_sem]) (kp 30 w (Br _ _) (by decide) (by decide))
  |31,_,hr =>
   have hon:a.tmps[40]?=some (.bool true):=H.dep hr 30 40;exact LX 2 _ _ M.k2 M.sx t2 31 30 40 hon (by kernel_rfl) (by kernel_rfl) (by kernel_rfl) rfl (by decide) (by decide)
  |32,_,hr =>
   have hon:a.tmps[40]?=some (.bool true):=H.dep hr 30 40;exact LX 2 _ _ M.k2 M.sx t2 32 30 40 hon (by kernel_rfl) (by kernel_rfl) (by kernel_rfl) rfl (by decide) (by decide)
  |33,_,hr =>
   have v31:a.tmps[41]?=some (.agg C.xc):=H.dep hr 31 41;have v32:a.tmps[42]?=some (.agg C.xc):=H.dep hr 32 42;have hon:a.tmps[40]?=some (.bool true):=H.dep hr 30 40;refine mX (f:=19) (lb:=#[]) (c:=.func 19) (args:=#[.tmp 41,.tmp 42]) (ts:=#[29,29]) (vs:=#[.agg C.xc,.agg C.xc]) (by kernel_rfl) (bR1 (i:=33) (j:=30) (s:=40) (by kernel_rfl) (by kernel_rfl) hon) rfl (aXb func19) (by simp[Act.eval,v31,v32]) ((M.h10 w hb).mono ?_);rintro e w' ⟨rfl,hb'⟩;exact⟨_,γ,rfl,rfl,fun _ _=>rfl,kp 33 w' hb' (by decide) (by decide)⟩
  |34,_,hr =>
   have v30:a.tmps[40]?=some (.bool true):=H.dep hr 30 40;have v33:a.tmps[43]?=some (.bool true):=H.dep hr 33 43;exact aWj (.pick (.tmp 40) (.tmp 43) (.const (.bool false))) (.bool true) (fun o h=>by simp[execOp,h,v30,v33,go_sem]) (kp 34 w (Br _ _) (by decide) (by decide))
  |35,_,hr =>
   have v34:a.tmps[44]?=some (.bool true):=H.dep hr 34 44;exact aWj (.move (.tmp 44)) (.bool true) (fun o h=>by simp[execOp,h,v34,go_sem]) (kp 35 w (Br _ _) (by decide) (by decide))
  |36,_,hr =>
   have hon:a.tmps[45]?=some (.bool true):=H.dep hr 35 45;refine mX (f:=11) (lb:=#[]) (c:=.func 11) (args:=#[]) (ts:=#[]) (vs:=#[]) (by kernel_rfl) (bR1 (i:=36) (j:=35) (s:=45) (by kernel_rfl) (by kernel_rfl) hon) rfl (aXb func11) (by simp) ((M.aw w hb).mono ?_);rintro e w' ⟨rfl,hb'⟩;exact⟨_,γ,rfl,rfl,fun _ _=>rfl,kp 36 w' hb' (by decide) (by decide)⟩
  |37,_,hr =>
   have v35:a.tmps[45]?=some (.bool true):=H.dep hr 35 45;have v36:a.tmps[46]?=some (.bool true):=H.dep hr 36 46;exact aWj (.pick (.tmp 45) (.tmp 46) (.const (.bool false))) (.bool true) (fun o h=>by simp[execOp,h,v35,v36,go_sem]) (kp 37 w (Br _ _) (by decide) (by decide))
  |38,_,hr =>
   have v37:a.tmps[47]?=some (.bool true):=H.dep hr 37 47;exact aWj (.assign (.tmp 47)) (.bool true) (fun o h=>by simp[execOp,h,v37,go_sem]) (kp 38 w (Br _ _) (by decide) (by decide))
  |n+39,h,_=>exact absurd h (by omega)
end
theorem bX0(x y:aF)(w:World)(hE:iE w)(hbx:x.f.Behind w x.pa x.oa)(hfx:x.fits)(hby:y.f.Behind w y.pa y.oa)(hfy:y.fits):
  Calls prog 3 #[.agg x.arr,.agg y.arr] w fun e w'=>e=.returned (.bool true)/\Below w.heap.size w w':=by
 obtain⟨wA,hwA⟩:∃wA,wA=w.alloc (.cells x.arr 29):=⟨_,rfl⟩
 obtain⟨wB,hwB⟩:∃wB,wB=wA.alloc (.cells y.arr 29):=⟨_,rfl⟩
 have sA:wA.heap.size=w.heap.size+1:=by rw[hwA,World.size_alloc]
 have bA:Below w.heap.size w wA:=by rw[hwA];exact aB _ _
 have bB:Below wA.heap.size wA wB:=by rw[hwB];exact aB _ _
 have k0:aP wA w.heap.size x.arr 29:=by rw[hwA];exact aP.new0 _ _ _
 have k1:aP wB (w.heap.size+1) y.arr 29:=by rw[hwB,<-sA];exact aP.new0 _ _ _
 have K0:=Hd (k0.below bB);have K1:=Hd k1;have bW:=bA.trans (bB.mono bA.size);have HB:=Hd bW;have HG:=Hd (bTk x y wB (hbx.below bW) (hby.below bW) hfx hfy);have HRUN:=Hd (bTs x y wB);have HAW:Hid (∀W,Below w.heap.size w W->Calls prog 11 #[] W fun e w'=>e=.returned (.bool true)/\Below W.heap.size W w'):=fun W hb=>bLi W (hE.below hb)
 have H1:Hid (x.f.tight->∀W,Below w.heap.size w W->Calls prog 12 #[.agg x.arr] W fun e w'=>e=.returned (.int .i64 (bY x.f))/\Below W.heap.size W w'):=fun ht W hb=>rT x.f x.pa x.oa x.pc x.oc W (hE.below hb) ht.small hfx.picks (hbx.below hb)
 have H2:Hid (x.f.tight->∀W,Below w.heap.size w W->Calls prog 13 #[.agg x.arr] W fun e w'=>e=.returned (.int .i64 (bY x.f))/\Below W.heap.size W w'):=fun ht W hb=>uI x.f x.pa x.oa x.pc x.oc W ht (hbx.below hb)
 have H3:Hid (∀W,Below w.heap.size w W->Calls prog 14 #[.agg x.arr,.agg y.arr] W fun e w'=>e=.returned (.int .i64 (iL x.f y.f))/\Below W.heap.size W w'):=fun W _=>El x.f y.f x.pa x.oa y.pa y.oa x.pc x.oc y.pc y.oc W
 have H4:Hid (∀W,Below w.heap.size w W->Calls prog 15 #[.agg x.arr,.agg y.arr] W fun e w'=>e=.returned (.int .i64 (iL x.f y.f))/\Below W.heap.size W w'):=fun W _=>Fm x.f y.f x.pa x.oa y.pa y.oa x.pc x.oc y.pc y.oc W
 have H5:Hid (x.f.tight->∀W,Below w.heap.size w W->Calls prog 17 #[.agg x.arr] W fun e w'=>(∃v,e=.returned v/\bWo (bPk x.f) v w')/\Below W.heap.size W w'):=fun ht W hb=>by
  refine(bOo x.f x.pa x.oa x.pc x.oc W (hbx.below hb) ht.small.options).mono ?_;rintro e w' ⟨v,rfl,ho,hb'⟩;obtain⟨a,c,e1,_,_,e2⟩:=bX5 ho rfl;exact⟨⟨v,rfl,a,c,e1,e2⟩,hb'⟩
 have H6:Hid (x.f.tight->∀W,Below w.heap.size w W->Calls prog 18 #[.agg x.arr] W fun e w'=>(∃v,e=.returned v/\bWo (bPk x.f) v w')/\Below W.heap.size W w'):=fun ht W hb=>by
  refine(bYz x.f x.pa x.oa x.pc x.oc W (hbx.below hb) ht.small.options).mono ?_;rintro e w' ⟨⟨a,c,rfl,_,hr⟩,hb'⟩;exact⟨⟨_,rfl,a,c,rfl,hr⟩,hb'⟩
 have H7:Hid (x.f.tight->∀v v' W,bWo (bPk x.f) v W->bWo (bPk x.f) v' W->Calls prog 16 #[v,v'] W fun e w'=>e=.returned (.bool true)/\Below W.heap.size W w'):=fun ht v v' W h h'=>by
  obtain⟨a,c,rfl,hr⟩:=h;obtain⟨a',c',rfl,hr'⟩:=h';have hl:(bPk x.f).length<=1002:=by have:=bYd x.f x.f.options.length;rw[bYq] at this;have:=ht.small.options;omega
  have h:=Ep (bPk x.f) (bPk x.f) a a' c c' W (by omega) (by omega) hr hr';simpa using h
 have H8:Hid (x.f.tight->y.f.tight->∀W,Below w.heap.size w W->Calls prog 19 #[.agg x.arr,.agg y.arr] W (fun e w'=>e=.returned (.bool (bI2 x.f y.f))/\Below W.heap.size W w')/\Calls prog 20 #[.agg x.arr,.agg y.arr] W (fun e w'=>e=.returned (.bool (bI2 x.f y.f))/\Below W.heap.size W w')/\Calls prog 19 #[.agg x.arr,.agg x.arr] W (fun e w'=>e=.returned (.bool true)/\Below W.heap.size W w')):=fun hx hy W hb=>by
  have p1:=Nat.le_trans hx.small.picks (show 1000<=1000000 by decide);have p2:=Nat.le_trans hx.small.options (show 1000<=1000000 by decide);refine⟨bLs x.f y.f x.pa x.oa y.pa y.oa x.pc x.oc y.pc y.oc W (hbx.below hb) (hby.below hb) p1 p2,bYk x.f y.f x.pa x.oa y.pa y.oa x.pc x.oc y.pc y.oc W (hbx.below hb) (hby.below hb) p1 p2,?_⟩;have h:=bLs x.f x.f x.pa x.oa x.pa x.oa x.pc x.oc x.pc x.oc W (hbx.below hb) (hbx.below hb) p1 p2;rw[bKd] at h;exact h
 have HSX:Hid ((prog.info? 29).map (·.size)=some x.arr.size):=aY x.f x.pa x.oa x.pc x.oc;have HSY:Hid ((prog.info? 29).map (·.size)=some y.arr.size):=aY y.f y.pa y.oa y.pc y.oc;clear hE hbx hfx hby hfy bA bB k0 k1 sA bW;generalize bPk x.f=ns at *;generalize bI2 x.f y.f=sx at *;generalize iL x.f y.f=cn at *;generalize x.arr=xc at *;generalize y.arr=yc at *;generalize bY x.f=cx at *;generalize x.f.tight=PX at *;generalize y.f.tight=PY at *;clear x y;go_enter func3,ntmps3;have A1:Hid (w.alloc (.cells xc 29)=wA):=hwA.symm;have A2:Hid (wA.alloc (.cells yc 29)=wB):=hwB.symm;clear hwA hwB;go_wp2_with (first
  |(rw[A1.out,A2.out];refine wpList_load_row rfl 29 _ rfl w.heap.size rfl 29 xc (0,0) _ K0.out.2 underlying29 rfl HSX.out ?_)
  |(refine wpList_load_row rfl 29 _ rfl (w.heap.size+1) rfl 29 yc (0,0) _ K1.out.2 underlying29 rfl HSY.out ?_)
  |(refine bN8 rfl 47 2 _ rfl #[(0,.agg xc),(1,.agg yc)] _ (by first|rfl|kernel_rfl) HRUN.out ?_))
 refine HG.out.mono ?_;rintro e w1 ⟨⟨g,rfl,hg⟩,hb⟩;have HB1:=Hd (HB.out.trans (hb.mono HB.out.size));have K0b:=Hd (K0.out.below hb);have K1b:=Hd (K1.out.below hb);clear hb K0 K1 HB HRUN HG A1 A2;cases g with
 |true =>
  clear H1 H2 H3 H4 H5 H6 H7 H8 hg;go_wp2_with fail;refine(HAW.out _ HB1.out).mono ?_;rintro e wa ⟨rfl,hb⟩;go_wp2;go_ret;exact⟨rfl,aA HB1.out hb⟩
 |false =>
  obtain⟨px,py⟩:=hg rfl;have G1:=Hd (H1.out px);have G2:=Hd (H2.out px);have G5:=Hd (H5.out px);have G6:=Hd (H6.out px);have G7:=Hd (H7.out px);have G8:=Hd (H8.out px py);clear hg H1 H2 H5 H6 H7 H8;go_wp2_with fail;have bd:Below w1.heap.size w1 (w1.drewN 1):=aD (Br _ _) 1;have bw:∀W,Below (w1.drewN 1).heap.size (w1.drewN 1) W->Below w.heap.size w W:=fun W hW=>(HB1.out.trans (bd.mono HB1.out.size)).trans (hW.mono (Nat.le_trans HB1.out.size bd.size))
  refine bYu (C:=⟨w1.drewN 1,w.heap.size,w.heap.size+1,xc,yc,cx,cn,sx,ns⟩) ⟨rfl,rfl,rfl,K0b.out.below bd,K1b.out.below bd,HSX.out,HSY.out,fun W hW=>G1.out W (bw W hW),fun W hW=>G2.out W (bw W hW),fun W hW=>H3.out W (bw W hW),fun W hW=>H4.out W (bw W hW),fun W hW=>G5.out W (bw W hW),fun W hW=>G6.out W (bw W hW),fun v v' W _ h h'=>G7.out v v' W h h',fun W hW=>(G8.out W (bw W hW)).1,fun W hW=>(G8.out W (bw W hW)).2.1,fun W hW=>(G8.out W (bw W hW)).2.2,fun W hW=>HAW.out W (bw W hW)⟩ rfl rfl rfl ?_;intro γ w9 hb9;have HB9:=Hd (bw w9 hb9);clear hb9 bd bw;simp only[iZ,bYx,List.foldl,bYl.val,List.setIfInBounds_toArray,List.set_cons_zero,List.set_cons_succ];go_wp2_with fail;go_ret;exact⟨rfl,HB9.out⟩
end Go.Proofs.YthjekgfoidmagaaGreatDoor
