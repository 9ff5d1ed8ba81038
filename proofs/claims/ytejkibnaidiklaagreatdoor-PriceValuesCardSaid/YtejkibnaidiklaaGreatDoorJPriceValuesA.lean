/- PValuesReg PValuesP PriceValuesLaw OpenFrac -/
import Derived.Test.YtejkibnaidiklaaGreatDoorJMem
import Derived.Test.YtejkibnaidiklaaGreatDoorJRValue
import Derived.Test.YtejkibnaidiklaaGreatDoorJPriceC
import Derived.Test.YtejkibnaidiklaaGreatDoorJOpen
set_option maxHeartbeats 16000000
set_option maxRecDepth 100000
namespace Go.Proofs.YtejkibnaidiklaaGreatDoor
section
open Go Go.RowKit Num
theorem bB{ops:Array Oper}{a:Act}{i j s:Nat}(hgd:(ops[i]?).map (·.guard)=some (some (j,false)))(hj:(ops[j]?).bind (·.dst)=some s)(hv:a.tmps[s]?=some (.bool false)):∀o,ops[i]?=some o→Region.wanted o (yielded ops a.tmps)=true:=fun o ho=>by
 rw[nL hgd rfl hj hv o ho];rfl
noncomputable def bBm:Array Oper:=(Tryz.f4.body.bind (jE 3)).getD #[]
def bBb:List (Nat×Nat):=[(0,25),(1,26),(2,27),(3,28),(4,29),(5,30),(6,31),(7,32),(8,33),(9,34),(10,35),(11,7),(12,8),(13,9)]
structure PaC where
 W0:World
 b:Nat
 p:bZ
 a:List UInt8
 c:List UInt8
 x:List UInt8
 y:List UInt8
 ac:List UInt8
 z:List UInt8
def PaC.val(C:PaC)(_:Unit):Nat→Value
 |0=>.agg (aPf C.p)
 |1=>.string ⟨C.a.toArray⟩
 |2=>.string ⟨C.x.toArray⟩
 |3=>.agg (aPf C.p)
 |4=>.string ⟨C.c.toArray⟩
 |5=>.string ⟨C.y.toArray⟩
 |6=>.agg (aPf C.p)
 |7=>.string ⟨C.a.toArray⟩
 |8=>.string ⟨C.c.toArray⟩
 |9=>.string ⟨C.ac.toArray⟩
 |10=>.string ⟨C.z.toArray⟩
 |11=>.string ⟨C.x.toArray⟩
 |12=>.string ⟨C.y.toArray⟩
 |_=>.string ⟨C.z.toArray⟩
def PaC.gg(C:PaC)(_:Unit)(_:Array Bool)(W:World):Prop:=Below C.W0.heap.size C.W0 W
structure PaM(C:PaC)(t0:Array Value):Prop where
 sz:t0.size=89
 t3:t0[3]?=some (.pointer (some ⟨C.b,0,none⟩))
 t1:t0[1]?=some (.string ⟨C.a.toArray⟩)
 t2:t0[2]?=some (.string ⟨C.c.toArray⟩)
 k3:aP C.W0 C.b (aPf C.p) 28
 h1:∀W,Below C.W0.heap.size C.W0 W→Calls Tryz.prog 18 #[.agg (aPf C.p),.string ⟨C.a.toArray⟩] W fun e w'=>e=.returned (.string ⟨C.x.toArray⟩)∧Below W.heap.size W w'
 h2:∀W,Below C.W0.heap.size C.W0 W→Calls Tryz.prog 18 #[.agg (aPf C.p),.string ⟨C.c.toArray⟩] W fun e w'=>e=.returned (.string ⟨C.y.toArray⟩)∧Below W.heap.size W w'
 h3:∀W,Below C.W0.heap.size C.W0 W→Calls Tryz.prog 19 #[.string ⟨C.a.toArray⟩,.string ⟨C.c.toArray⟩] W fun e w'=>e=.returned (.string ⟨C.ac.toArray⟩)∧Below W.heap.size W w'
 h4:∀W,Below C.W0.heap.size C.W0 W→Calls Tryz.prog 18 #[.agg (aPf C.p),.string ⟨C.ac.toArray⟩] W fun e w'=>e=.returned (.string ⟨C.z.toArray⟩)∧Below W.heap.size W w'
section
variable {C:PaC}{t0:Array Value}{Q:Exit→Act→World→Prop}
theorem bAm(M:PaM C t0){a:Act}{w:World}(hdf:a.defers=[])(ht:a.tmps=t0)(hw:w.drewN 1=C.W0)
  (hQ:∀W,Below C.W0.heap.size C.W0 W→Q .normal { tmps:=iZ (C.val ()) bBb t0,defers:=[] } W):(Code.region 3 bBm true).wp Tryz.prog Q a w:=by
 have hsz:bBm.size=14:=by kernel_rfl
 refine eV (ds:=bBb) (val:=C.val) (G:=C.gg) (by kernel_rfl) (by kernel_rfl) (by decide) (fun p hp=>?_) (by kernel_rfl) ?_ (γ:=()) hdf ht (by rw[hw];exact Br _ _) (fun _ _ W _ hg=>hQ W hg)
 ·rw[M.sz];have:∀p,p∈bBb→p.2<89:=by decide
  exact this p hp
 ·intro γ l a w i H hr;cases γ;have hi:i<14:=by
   obtain⟨_,o,ho,_⟩:=mem_ready.1 hr;have:=(Ai.1 ho).1;rw[hsz] at this;exact this
  have t3:=H.low (s:=3) (by decide) M.t3;have t1:=H.low (s:=1) (by decide) M.t1;have t2:=H.low (s:=2) (by decide) M.t2;have hb:Below C.W0.heap.size C.W0 w:=H.g
  match i,hi,hr with
  |0,_,hr =>
   exact aH (X:=.load 28 (.tmp 3)) (v:=.agg (aPf C.p)) (by kernel_rfl) (fun o h=>by exact aW h (oC t3) (gR (M.k3.below hb)) Tryz.underlying28 rfl aPp) rfl hb
  |1,_,hr =>
   exact aH (X:=.move (.tmp 1)) (v:=.string ⟨C.a.toArray⟩) (by kernel_rfl) (fun o h=>by simp[execOp,h,t1,go_sem]) rfl hb
  |2,_,hr =>
   have v0:a.tmps[25]?=some (.agg (aPf C.p)):=H.dep hr 0 25 (by kernel_rfl) ⟨rfl,by decide⟩;have v1:a.tmps[26]?=some (.string ⟨C.a.toArray⟩):=H.dep hr 1 26 (by kernel_rfl) ⟨rfl,by decide⟩;refine gA (f:=18) (lb:=#[]) (c:=.func 18) (args:=#[.tmp 25,.tmp 26]) (ts:=#[28,26]) (vs:=#[.agg (aPf C.p),.string ⟨C.a.toArray⟩]) (by kernel_rfl) rfl (enters_of Tryz.func18 (by kernel_rfl) rfl) (by simp[Act.eval,v0,v1]) ((M.h1 w hb).mono ?_);rintro e w' ⟨rfl,hb'⟩;exact⟨_,(),rfl,rfl,fun _ _=>rfl,aA hb hb'⟩
  |3,_,hr =>
   exact aH (X:=.load 28 (.tmp 3)) (v:=.agg (aPf C.p)) (by kernel_rfl) (fun o h=>by exact aW h (oC t3) (gR (M.k3.below hb)) Tryz.underlying28 rfl aPp) rfl hb
  |4,_,hr =>
   exact aH (X:=.move (.tmp 2)) (v:=.string ⟨C.c.toArray⟩) (by kernel_rfl) (fun o h=>by simp[execOp,h,t2,go_sem]) rfl hb
  |5,_,hr =>
   have v3:a.tmps[28]?=some (.agg (aPf C.p)):=H.dep hr 3 28 (by kernel_rfl) ⟨rfl,by decide⟩;have v4:a.tmps[29]?=some (.string ⟨C.c.toArray⟩):=H.dep hr 4 29 (by kernel_rfl) ⟨rfl,by decide⟩;refine gA (f:=18) (lb:=#[]) (c:=.func 18) (args:=#[.tmp 28,.tmp 29]) (ts:=#[28,26]) (vs:=#[.agg (aPf C.p),.string ⟨C.c.toArray⟩]) (by kernel_rfl) rfl (enters_of Tryz.func18 (by kernel_rfl) rfl) (by simp[Act.eval,v3,v4]) ((M.h2 w hb).mono ?_);rintro e w' ⟨rfl,hb'⟩;exact⟨_,(),rfl,rfl,fun _ _=>rfl,aA hb hb'⟩
  |6,_,hr =>
   exact aH (X:=.load 28 (.tmp 3)) (v:=.agg (aPf C.p)) (by kernel_rfl) (fun o h=>by exact aW h (oC t3) (gR (M.k3.below hb)) Tryz.underlying28 rfl aPp) rfl hb
  |7,_,hr =>
   exact aH (X:=.move (.tmp 1)) (v:=.string ⟨C.a.toArray⟩) (by kernel_rfl) (fun o h=>by simp[execOp,h,t1,go_sem]) rfl hb
  |8,_,hr =>
   exact aH (X:=.move (.tmp 2)) (v:=.string ⟨C.c.toArray⟩) (by kernel_rfl) (fun o h=>by simp[execOp,h,t2,go_sem]) rfl hb
  |9,_,hr =>
   have v7:a.tmps[32]?=some (.string ⟨C.a.toArray⟩):=H.dep hr 7 32 (by kernel_rfl) ⟨rfl,by decide⟩;have v8:a.tmps[33]?=some (.string ⟨C.c.toArray⟩):=H.dep hr 8 33 (by kernel_rfl) ⟨rfl,by decide⟩;refine gA (f:=19) (lb:=#[]) (c:=.func 19) (args:=#[.tmp 32,.tmp 33]) (ts:=#[26,26]) (vs:=#[.string ⟨C.a.toArray⟩,.string ⟨C.c.toArray⟩]) (by kernel_rfl) rfl (enters_of Tryz.func19 (by kernel_rfl) rfl) (by simp[Act.eval,v7,v8]) ((M.h3 w hb).mono ?_);rintro e w' ⟨rfl,hb'⟩;exact⟨_,(),rfl,rfl,fun _ _=>rfl,aA hb hb'⟩
  |10,_,hr =>
   have v6:a.tmps[31]?=some (.agg (aPf C.p)):=H.dep hr 6 31 (by kernel_rfl) ⟨rfl,by decide⟩;have v9:a.tmps[34]?=some (.string ⟨C.ac.toArray⟩):=H.dep hr 9 34 (by kernel_rfl) ⟨rfl,by decide⟩;refine gA (f:=18) (lb:=#[]) (c:=.func 18) (args:=#[.tmp 31,.tmp 34]) (ts:=#[28,26]) (vs:=#[.agg (aPf C.p),.string ⟨C.ac.toArray⟩]) (by kernel_rfl) rfl (enters_of Tryz.func18 (by kernel_rfl) rfl) (by simp[Act.eval,v6,v9]) ((M.h4 w hb).mono ?_);rintro e w' ⟨rfl,hb'⟩;exact⟨_,(),rfl,rfl,fun _ _=>rfl,aA hb hb'⟩
  |11,_,hr =>
   have v2:a.tmps[27]?=some (.string ⟨C.x.toArray⟩):=H.dep hr 2 27 (by kernel_rfl) ⟨rfl,by decide⟩;exact aH (X:=.assign (.tmp 27)) (v:=.string ⟨C.x.toArray⟩) (by kernel_rfl) (fun o h=>by simp[execOp,h,v2,go_sem]) rfl hb
  |12,_,hr =>
   have v5:a.tmps[30]?=some (.string ⟨C.y.toArray⟩):=H.dep hr 5 30 (by kernel_rfl) ⟨rfl,by decide⟩;exact aH (X:=.assign (.tmp 30)) (v:=.string ⟨C.y.toArray⟩) (by kernel_rfl) (fun o h=>by simp[execOp,h,v5,go_sem]) rfl hb
  |13,_,hr =>
   have v10:a.tmps[35]?=some (.string ⟨C.z.toArray⟩):=H.dep hr 10 35 (by kernel_rfl) ⟨rfl,by decide⟩;exact aH (X:=.assign (.tmp 35)) (v:=.string ⟨C.z.toArray⟩) (by kernel_rfl) (fun o h=>by simp[execOp,h,v10,go_sem]) rfl hb
  |n+14,h,_=>exact absurd h (by omega)
end
noncomputable def bBl:Array Oper:=(Tryz.f4.body.bind (jE 4)).getD #[]
def bBa:List (Nat×Nat):=[(0,36),(1,37),(2,38),(3,39),(4,40),(5,41),(6,42),(7,43),(8,44),(9,45),(10,46),(11,47),(12,48),(13,49)]
structure PbC where
 W0:World
 b:Nat
 p:bZ
 a:List UInt8
 x:List UInt8
 na:List UInt8
 nx:List UInt8
def PbC.val(C:PbC)(_:Unit):Nat→Value
 |0=>.string ⟨C.x.toArray⟩
 |1=>.agg (aPf C.p)
 |2=>.string ⟨C.a.toArray⟩
 |3=>.string ⟨C.x.toArray⟩
 |4=>.bool false
 |5=>.bool false
 |6=>.agg (aPf C.p)
 |7=>.string ⟨C.a.toArray⟩
 |8=>.string ⟨C.na.toArray⟩
 |9=>.string ⟨C.nx.toArray⟩
 |10=>.string ⟨C.x.toArray⟩
 |11=>.string ⟨C.nx.toArray⟩
 |12=>.bool false
 |_=>.bool false
def PbC.gg(C:PbC)(_:Unit)(_:Array Bool)(W:World):Prop:=Below C.W0.heap.size C.W0 W
structure PbM(C:PbC)(t0:Array Value):Prop where
 sz:t0.size=89
 t3:t0[3]?=some (.pointer (some ⟨C.b,0,none⟩))
 t1:t0[1]?=some (.string ⟨C.a.toArray⟩)
 t7:t0[7]?=some (.string ⟨C.x.toArray⟩)
 k3:aP C.W0 C.b (aPf C.p) 28
 h1:∀W,Below C.W0.heap.size C.W0 W→Calls Tryz.prog 20 #[.agg (aPf C.p),.string ⟨C.a.toArray⟩] W fun e w'=>e=.returned (.string ⟨C.x.toArray⟩)∧Below W.heap.size W w'
 h2:∀W,Below C.W0.heap.size C.W0 W→Calls Tryz.prog 21 #[.string ⟨C.a.toArray⟩] W fun e w'=>e=.returned (.string ⟨C.na.toArray⟩)∧Below W.heap.size W w'
 h3:∀W,Below C.W0.heap.size C.W0 W→Calls Tryz.prog 18 #[.agg (aPf C.p),.string ⟨C.na.toArray⟩] W fun e w'=>e=.returned (.string ⟨C.nx.toArray⟩)∧Below W.heap.size W w'
 h4:∀W,Below C.W0.heap.size C.W0 W→Calls Tryz.prog 21 #[.string ⟨C.x.toArray⟩] W fun e w'=>e=.returned (.string ⟨C.nx.toArray⟩)∧Below W.heap.size W w'
section
variable {C:PbC}{t0:Array Value}{Q:Exit→Act→World→Prop}
theorem bAl(M:PbM C t0){a:Act}{w:World}(hdf:a.defers=[])(ht:a.tmps=t0)(hw:w.drewN 1=C.W0)
  (hQ:∀W,Below C.W0.heap.size C.W0 W→Q .normal { tmps:=iZ (C.val ()) bBa t0,defers:=[] } W):(Code.region 4 bBl true).wp Tryz.prog Q a w:=by
 have hsz:bBl.size=14:=by kernel_rfl
 refine eV (ds:=bBa) (val:=C.val) (G:=C.gg) (by kernel_rfl) (by kernel_rfl) (by decide) (fun p hp=>?_) (by kernel_rfl) ?_ (γ:=()) hdf ht (by rw[hw];exact Br _ _) (fun _ _ W _ hg=>hQ W hg)
 ·rw[M.sz];have:∀p,p∈bBa→p.2<89:=by decide
  exact this p hp
 ·intro γ l a w i H hr;cases γ;have hi:i<14:=by
   obtain⟨_,o,ho,_⟩:=mem_ready.1 hr;have:=(Ai.1 ho).1;rw[hsz] at this;exact this
  have t3:=H.low (s:=3) (by decide) M.t3;have t1:=H.low (s:=1) (by decide) M.t1;have t7:=H.low (s:=7) (by decide) M.t7;have hb:Below C.W0.heap.size C.W0 w:=H.g
  match i,hi,hr with
  |0,_,hr =>
   exact aH (X:=.move (.tmp 7)) (v:=.string ⟨C.x.toArray⟩) (by kernel_rfl) (fun o h=>by simp[execOp,h,t7,go_sem]) rfl hb
  |1,_,hr =>
   exact aH (X:=.load 28 (.tmp 3)) (v:=.agg (aPf C.p)) (by kernel_rfl) (fun o h=>by exact aW h (oC t3) (gR (M.k3.below hb)) Tryz.underlying28 rfl aPp) rfl hb
  |2,_,hr =>
   exact aH (X:=.move (.tmp 1)) (v:=.string ⟨C.a.toArray⟩) (by kernel_rfl) (fun o h=>by simp[execOp,h,t1,go_sem]) rfl hb
  |3,_,hr =>
   have v1:a.tmps[37]?=some (.agg (aPf C.p)):=H.dep hr 1 37 (by kernel_rfl) ⟨rfl,by decide⟩;have v2:a.tmps[38]?=some (.string ⟨C.a.toArray⟩):=H.dep hr 2 38 (by kernel_rfl) ⟨rfl,by decide⟩;refine gA (f:=20) (lb:=#[]) (c:=.func 20) (args:=#[.tmp 37,.tmp 38]) (ts:=#[28,26]) (vs:=#[.agg (aPf C.p),.string ⟨C.a.toArray⟩]) (by kernel_rfl) rfl (enters_of Tryz.func20 (by kernel_rfl) rfl) (by simp[Act.eval,v1,v2]) ((M.h1 w hb).mono ?_);rintro e w' ⟨rfl,hb'⟩;exact⟨_,(),rfl,rfl,fun _ _=>rfl,aA hb hb'⟩
  |4,_,hr =>
   have v0:a.tmps[36]?=some (.string ⟨C.x.toArray⟩):=H.dep hr 0 36 (by kernel_rfl) ⟨rfl,by decide⟩;have v3:a.tmps[39]?=some (.string ⟨C.x.toArray⟩):=H.dep hr 3 39 (by kernel_rfl) ⟨rfl,by decide⟩;exact aH (X:=.binOp .neq 26 (.tmp 36) (.tmp 39) 26) (v:=.bool false) (by kernel_rfl) (fun o h=>by simp[execOp,h,v0,v3,go_sem]) rfl hb
  |5,_,hr =>
   have v4:a.tmps[40]?=some (.bool false):=H.dep hr 4 40 (by kernel_rfl) ⟨rfl,by decide⟩;exact aH (X:=.move (.tmp 40)) (v:=.bool false) (by kernel_rfl) (fun o h=>by simp[execOp,h,v4,go_sem]) rfl hb
  |6,_,hr =>
   have hon:a.tmps[41]?=some (.bool false):=H.dep hr 5 41 (by kernel_rfl) ⟨rfl,by decide⟩;exact bA (X:=.load 28 (.tmp 3)) (v:=.agg (aPf C.p)) (by kernel_rfl) (bB (i:=6) (j:=5) (s:=41) (by kernel_rfl) (by kernel_rfl) hon) (fun o h=>by exact aW h (oC t3) (gR (M.k3.below hb)) Tryz.underlying28 rfl aPp) rfl hb
  |7,_,hr =>
   have hon:a.tmps[41]?=some (.bool false):=H.dep hr 5 41 (by kernel_rfl) ⟨rfl,by decide⟩;exact bA (X:=.move (.tmp 1)) (v:=.string ⟨C.a.toArray⟩) (by kernel_rfl) (bB (i:=7) (j:=5) (s:=41) (by kernel_rfl) (by kernel_rfl) hon) (fun o h=>by simp[execOp,h,t1,go_sem]) rfl hb
  |8,_,hr =>
   have v7:a.tmps[43]?=some (.string ⟨C.a.toArray⟩):=H.dep hr 7 43 (by kernel_rfl) ⟨rfl,by decide⟩;have hon:a.tmps[41]?=some (.bool false):=H.dep hr 5 41 (by kernel_rfl) ⟨rfl,by decide⟩;refine mX (f:=21) (lb:=#[]) (c:=.func 21) (args:=#[.tmp 43]) (ts:=#[26]) (vs:=#[.string ⟨C.a.toArray⟩]) (by kernel_rfl) (bB (i:=8) (j:=5) (s:=41) (by kernel_rfl) (by kernel_rfl) hon) rfl (enters_of Tryz.func21 (by kernel_rfl) rfl) (by simp[Act.eval,v7]) ((M.h2 w hb).mono ?_);rintro e w' ⟨rfl,hb'⟩;exact⟨_,(),rfl,rfl,fun _ _=>rfl,aA hb hb'⟩
  |9,_,hr =>
   have v6:a.tmps[42]?=some (.agg (aPf C.p)):=H.dep hr 6 42 (by kernel_rfl) ⟨rfl,by decide⟩;have v8:a.tmps[44]?=some (.string ⟨C.na.toArray⟩):=H.dep hr 8 44 (by kernel_rfl) ⟨rfl,by decide⟩;have hon:a.tmps[41]?=some (.bool false):=H.dep hr 5 41 (by kernel_rfl) ⟨rfl,by decide⟩;refine mX (f:=18) (lb:=#[]) (c:=.func 18) (args:=#[.tmp 42,.tmp 44]) (ts:=#[28,26]) (vs:=#[.agg (aPf C.p),.string ⟨C.na.toArray⟩]) (by kernel_rfl) (bB (i:=9) (j:=5) (s:=41) (by kernel_rfl) (by kernel_rfl) hon) rfl (enters_of Tryz.func18 (by kernel_rfl) rfl) (by simp[Act.eval,v6,v8]) ((M.h3 w hb).mono ?_);rintro e w' ⟨rfl,hb'⟩;exact⟨_,(),rfl,rfl,fun _ _=>rfl,aA hb hb'⟩
  |10,_,hr =>
   have hon:a.tmps[41]?=some (.bool false):=H.dep hr 5 41 (by kernel_rfl) ⟨rfl,by decide⟩;exact bA (X:=.move (.tmp 7)) (v:=.string ⟨C.x.toArray⟩) (by kernel_rfl) (bB (i:=10) (j:=5) (s:=41) (by kernel_rfl) (by kernel_rfl) hon) (fun o h=>by simp[execOp,h,t7,go_sem]) rfl hb
  |11,_,hr =>
   have v10:a.tmps[46]?=some (.string ⟨C.x.toArray⟩):=H.dep hr 10 46 (by kernel_rfl) ⟨rfl,by decide⟩;have hon:a.tmps[41]?=some (.bool false):=H.dep hr 5 41 (by kernel_rfl) ⟨rfl,by decide⟩;refine mX (f:=21) (lb:=#[]) (c:=.func 21) (args:=#[.tmp 46]) (ts:=#[26]) (vs:=#[.string ⟨C.x.toArray⟩]) (by kernel_rfl) (bB (i:=11) (j:=5) (s:=41) (by kernel_rfl) (by kernel_rfl) hon) rfl (enters_of Tryz.func21 (by kernel_rfl) rfl) (by simp[Act.eval,v10]) ((M.h4 w hb).mono ?_);rintro e w' ⟨rfl,hb'⟩;exact⟨_,(),rfl,rfl,fun _ _=>rfl,aA hb hb'⟩
  |12,_,hr =>
   have v9:a.tmps[45]?=some (.string ⟨C.nx.toArray⟩):=H.dep hr 9 45 (by kernel_rfl) ⟨rfl,by decide⟩;have v11:a.tmps[47]?=some (.string ⟨C.nx.toArray⟩):=H.dep hr 11 47 (by kernel_rfl) ⟨rfl,by decide⟩;have hon:a.tmps[41]?=some (.bool false):=H.dep hr 5 41 (by kernel_rfl) ⟨rfl,by decide⟩;exact bA (X:=.binOp .neq 26 (.tmp 45) (.tmp 47) 26) (v:=.bool false) (by kernel_rfl) (bB (i:=12) (j:=5) (s:=41) (by kernel_rfl) (by kernel_rfl) hon) (fun o h=>by simp[execOp,h,v9,v11,go_sem]) rfl hb
  |13,_,hr =>
   have v5:a.tmps[41]?=some (.bool false):=H.dep hr 5 41 (by kernel_rfl) ⟨rfl,by decide⟩;have v12:a.tmps[48]?=some (.bool false):=H.dep hr 12 48 (by kernel_rfl) ⟨rfl,by decide⟩;exact aH (X:=.pick (.tmp 41) (.const (.bool true)) (.tmp 48)) (v:=.bool false) (by kernel_rfl) (fun o h=>by simp[execOp,h,v5,v12,go_sem]) rfl hb
  |n+14,h,_=>exact absurd h (by omega)
end
noncomputable def bBk:Array Oper:=(Tryz.f4.body.bind (jE 9)).getD #[]
def bA9:List (Nat×Nat):=[(0,65),(1,66),(2,67),(3,68),(4,69),(5,70),(6,71),(7,72),(8,73),(9,74),(10,75),(11,76),(12,77),(13,78),(14,79),(15,80),(16,81),(17,82),(18,83),(19,84),(20,85),(21,86),(22,87),(23,88),(24,6)]
structure PcC where
 W0:World
 b1:Nat
 b2:Nat
 d:List UInt8
 off:bZ
 one:bZ
 nof:bZ
 c1:Int
 c2:Int
 c3:Int
 c4:Int
def PcC.val(C:PcC)(_:Unit):Nat→Value
 |0=>.string ⟨C.d.toArray⟩
 |1=>.int .i64 C.c1
 |2=>.bool true
 |3=>.bool true
 |4=>.string ⟨C.d.toArray⟩
 |5=>.int .i64 C.c2
 |6=>.bool true
 |7=>.bool true
 |8=>.bool true
 |9=>.agg (aPf C.off)
 |10=>.agg (aPf C.one)
 |11=>.int .i64 C.c3
 |12=>.bool true
 |13=>.bool true
 |14=>.bool true
 |15=>.agg (aPf C.off)
 |16=>.agg (aPf C.nof)
 |17=>.agg (aPf C.one)
 |18=>.int .i64 C.c4
 |19=>.bool true
 |20=>.bool true
 |21=>.bool true
 |22=>.bool true
 |23=>.bool true
 |_=>.bool true
def PcC.gg(C:PcC)(_:Unit)(_:Array Bool)(W:World):Prop:=Below C.W0.heap.size C.W0 W
structure PcM(C:PcC)(t0:Array Value):Prop where
 sz:t0.size=89
 t10:t0[10]?=some (.string ⟨C.d.toArray⟩)
 t11:t0[11]?=some (.pointer (some ⟨C.b1,0,none⟩))
 t12:t0[12]?=some (.pointer (some ⟨C.b2,0,none⟩))
 k11:aP C.W0 C.b1 (aPf C.off) 28
 k12:aP C.W0 C.b2 (aPf C.one) 28
 q1:C.c1≤0
 q2:0≤C.c2
 q3:C.c3≤0
 q4:C.c4≤0
 h1:∀W,Below C.W0.heap.size C.W0 W→Calls Tryz.prog 24 #[.string ⟨C.d.toArray⟩,.string ⟨#[49]⟩] W fun e w'=>e=.returned (.int .i64 C.c1)∧Below W.heap.size W w'
 h2:∀W,Below C.W0.heap.size C.W0 W→Calls Tryz.prog 24 #[.string ⟨C.d.toArray⟩,.string ⟨#[45,49]⟩] W fun e w'=>e=.returned (.int .i64 C.c2)∧Below W.heap.size W w'
 h3:∀W,Below C.W0.heap.size C.W0 W→Calls Tryz.prog 25 #[.agg (aPf C.off),.agg (aPf C.one)] W fun e w'=>e=.returned (.int .i64 C.c3)∧Below W.heap.size W w'
 h4:∀W,Below C.W0.heap.size C.W0 W→Calls Tryz.prog 26 #[.agg (aPf C.off)] W fun e w'=>e=.returned (.agg (aPf C.nof))∧Below W.heap.size W w'
 h5:∀W,Below C.W0.heap.size C.W0 W→Calls Tryz.prog 25 #[.agg (aPf C.nof),.agg (aPf C.one)] W fun e w'=>e=.returned (.int .i64 C.c4)∧Below W.heap.size W w'
 h6:∀W,Below C.W0.heap.size C.W0 W→Calls Tryz.prog 12 #[] W fun e w'=>e=.returned (.bool true)∧Below W.heap.size W w'
section
variable {C:PcC}{t0:Array Value}{Q:Exit→Act→World→Prop}
theorem bAk(M:PcM C t0){a:Act}{w:World}(hdf:a.defers=[])(ht:a.tmps=t0)(hw:w.drewN 1=C.W0)
  (hQ:∀W,Below C.W0.heap.size C.W0 W→Q .normal { tmps:=iZ (C.val ()) bA9 t0,defers:=[] } W):(Code.region 9 bBk true).wp Tryz.prog Q a w:=by
 have hsz:bBk.size=25:=by kernel_rfl
 refine eV (ds:=bA9) (val:=C.val) (G:=C.gg) (by kernel_rfl) (by kernel_rfl) (by decide) (fun p hp=>?_) (by kernel_rfl) ?_ (γ:=()) hdf ht (by rw[hw];exact Br _ _) (fun _ _ W _ hg=>hQ W hg)
 ·rw[M.sz];have:∀p,p∈bA9→p.2<89:=by decide
  exact this p hp
 ·intro γ l a w i H hr;cases γ;have hi:i<25:=by
   obtain⟨_,o,ho,_⟩:=mem_ready.1 hr;have:=(Ai.1 ho).1;rw[hsz] at this;exact this
  have t10:=H.low (s:=10) (by decide) M.t10;have t11:=H.low (s:=11) (by decide) M.t11;have t12:=H.low (s:=12) (by decide) M.t12;have hb:Below C.W0.heap.size C.W0 w:=H.g
  match i,hi,hr with
  |0,_,hr =>
   exact aH (X:=.move (.tmp 10)) (v:=.string ⟨C.d.toArray⟩) (by kernel_rfl) (fun o h=>by simp[execOp,h,t10,go_sem]) rfl hb
  |1,_,hr =>
   have v0:a.tmps[65]?=some (.string ⟨C.d.toArray⟩):=H.dep hr 0 65 (by kernel_rfl) ⟨rfl,by decide⟩;refine gA (f:=24) (lb:=#[]) (c:=.func 24) (args:=#[.tmp 65,.const (.string ⟨#[49]⟩)]) (ts:=#[26,26]) (vs:=#[.string ⟨C.d.toArray⟩,.string ⟨#[49]⟩]) (by kernel_rfl) rfl (enters_of Tryz.func24 (by kernel_rfl) rfl) (by simp[Act.eval,v0]) ((M.h1 w hb).mono ?_);rintro e w' ⟨rfl,hb'⟩;exact⟨_,(),rfl,rfl,fun _ _=>rfl,aA hb hb'⟩
  |2,_,hr =>
   have v1:a.tmps[66]?=some (.int .i64 C.c1):=H.dep hr 1 66 (by kernel_rfl) ⟨rfl,by decide⟩;have q1:=M.q1;exact aH (X:=.binOp .leq 3 (.tmp 66) (.const (.int .i64 0)) 3) (v:=.bool true) (by kernel_rfl) (fun o h=>by simp[execOp,h,v1,go_sem,q1]) rfl hb
  |3,_,hr =>
   have v2:a.tmps[67]?=some (.bool true):=H.dep hr 2 67 (by kernel_rfl) ⟨rfl,by decide⟩;exact aH (X:=.move (.tmp 67)) (v:=.bool true) (by kernel_rfl) (fun o h=>by simp[execOp,h,v2,go_sem]) rfl hb
  |4,_,hr =>
   have hon:a.tmps[68]?=some (.bool true):=H.dep hr 3 68 (by kernel_rfl) ⟨rfl,by decide⟩;exact bA (X:=.move (.tmp 10)) (v:=.string ⟨C.d.toArray⟩) (by kernel_rfl) (bW (i:=4) (j:=3) (s:=68) (by kernel_rfl) (by kernel_rfl) hon) (fun o h=>by simp[execOp,h,t10,go_sem]) rfl hb
  |5,_,hr =>
   have v4:a.tmps[69]?=some (.string ⟨C.d.toArray⟩):=H.dep hr 4 69 (by kernel_rfl) ⟨rfl,by decide⟩;have hon:a.tmps[68]?=some (.bool true):=H.dep hr 3 68 (by kernel_rfl) ⟨rfl,by decide⟩;refine mX (f:=24) (lb:=#[]) (c:=.func 24) (args:=#[.tmp 69,.const (.string ⟨#[45,49]⟩)]) (ts:=#[26,26]) (vs:=#[.string ⟨C.d.toArray⟩,.string ⟨#[45,49]⟩]) (by kernel_rfl) (bW (i:=5) (j:=3) (s:=68) (by kernel_rfl) (by kernel_rfl) hon) rfl (enters_of Tryz.func24 (by kernel_rfl) rfl) (by simp[Act.eval,v4]) ((M.h2 w hb).mono ?_);rintro e w' ⟨rfl,hb'⟩;exact⟨_,(),rfl,rfl,fun _ _=>rfl,aA hb hb'⟩
  |6,_,hr =>
   have v5:a.tmps[70]?=some (.int .i64 C.c2):=H.dep hr 5 70 (by kernel_rfl) ⟨rfl,by decide⟩;have q2:=M.q2;have hon:a.tmps[68]?=some (.bool true):=H.dep hr 3 68 (by kernel_rfl) ⟨rfl,by decide⟩;exact bA (X:=.binOp .geq 3 (.tmp 70) (.const (.int .i64 0)) 3) (v:=.bool true) (by kernel_rfl) (bW (i:=6) (j:=3) (s:=68) (by kernel_rfl) (by kernel_rfl) hon) (fun o h=>by simp[execOp,h,v5,go_sem,q2]) rfl hb
  |7,_,hr =>
   have v3:a.tmps[68]?=some (.bool true):=H.dep hr 3 68 (by kernel_rfl) ⟨rfl,by decide⟩;have v6:a.tmps[71]?=some (.bool true):=H.dep hr 6 71 (by kernel_rfl) ⟨rfl,by decide⟩;exact aH (X:=.pick (.tmp 68) (.tmp 71) (.const (.bool false))) (v:=.bool true) (by kernel_rfl) (fun o h=>by simp[execOp,h,v3,v6,go_sem]) rfl hb
  |8,_,hr =>
   have v7:a.tmps[72]?=some (.bool true):=H.dep hr 7 72 (by kernel_rfl) ⟨rfl,by decide⟩;exact aH (X:=.move (.tmp 72)) (v:=.bool true) (by kernel_rfl) (fun o h=>by simp[execOp,h,v7,go_sem]) rfl hb
  |9,_,hr =>
   have hon:a.tmps[73]?=some (.bool true):=H.dep hr 8 73 (by kernel_rfl) ⟨rfl,by decide⟩;exact bA (X:=.load 28 (.tmp 11)) (v:=.agg (aPf C.off)) (by kernel_rfl) (bW (i:=9) (j:=8) (s:=73) (by kernel_rfl) (by kernel_rfl) hon) (fun o h=>by exact aW h (oC t11) (gR (M.k11.below hb)) Tryz.underlying28 rfl aPp) rfl hb
  |10,_,hr =>
   have hon:a.tmps[73]?=some (.bool true):=H.dep hr 8 73 (by kernel_rfl) ⟨rfl,by decide⟩;exact bA (X:=.load 28 (.tmp 12)) (v:=.agg (aPf C.one)) (by kernel_rfl) (bW (i:=10) (j:=8) (s:=73) (by kernel_rfl) (by kernel_rfl) hon) (fun o h=>by exact aW h (oC t12) (gR (M.k12.below hb)) Tryz.underlying28 rfl aPp) rfl hb
  |11,_,hr =>
   have v9:a.tmps[74]?=some (.agg (aPf C.off)):=H.dep hr 9 74 (by kernel_rfl) ⟨rfl,by decide⟩;have v10:a.tmps[75]?=some (.agg (aPf C.one)):=H.dep hr 10 75 (by kernel_rfl) ⟨rfl,by decide⟩;have hon:a.tmps[73]?=some (.bool true):=H.dep hr 8 73 (by kernel_rfl) ⟨rfl,by decide⟩;refine mX (f:=25) (lb:=#[]) (c:=.func 25) (args:=#[.tmp 74,.tmp 75]) (ts:=#[28,28]) (vs:=#[.agg (aPf C.off),.agg (aPf C.one)]) (by kernel_rfl) (bW (i:=11) (j:=8) (s:=73) (by kernel_rfl) (by kernel_rfl) hon) rfl (enters_of Tryz.func25 (by kernel_rfl) rfl) (by simp[Act.eval,v9,v10]) ((M.h3 w hb).mono ?_);rintro e w' ⟨rfl,hb'⟩;exact⟨_,(),rfl,rfl,fun _ _=>rfl,aA hb hb'⟩
  |12,_,hr =>
   have v11:a.tmps[76]?=some (.int .i64 C.c3):=H.dep hr 11 76 (by kernel_rfl) ⟨rfl,by decide⟩;have q3:=M.q3;have hon:a.tmps[73]?=some (.bool true):=H.dep hr 8 73 (by kernel_rfl) ⟨rfl,by decide⟩;exact bA (X:=.binOp .leq 3 (.tmp 76) (.const (.int .i64 0)) 3) (v:=.bool true) (by kernel_rfl) (bW (i:=12) (j:=8) (s:=73) (by kernel_rfl) (by kernel_rfl) hon) (fun o h=>by simp[execOp,h,v11,go_sem,q3]) rfl hb
  |13,_,hr =>
   have v8:a.tmps[73]?=some (.bool true):=H.dep hr 8 73 (by kernel_rfl) ⟨rfl,by decide⟩;have v12:a.tmps[77]?=some (.bool true):=H.dep hr 12 77 (by kernel_rfl) ⟨rfl,by decide⟩;exact aH (X:=.pick (.tmp 73) (.tmp 77) (.const (.bool false))) (v:=.bool true) (by kernel_rfl) (fun o h=>by simp[execOp,h,v8,v12,go_sem]) rfl hb
  |14,_,hr =>
   have v13:a.tmps[78]?=some (.bool true):=H.dep hr 13 78 (by kernel_rfl) ⟨rfl,by decide⟩;exact aH (X:=.move (.tmp 78)) (v:=.bool true) (by kernel_rfl) (fun o h=>by simp[execOp,h,v13,go_sem]) rfl hb
  |15,_,hr =>
   have hon:a.tmps[79]?=some (.bool true):=H.dep hr 14 79 (by kernel_rfl) ⟨rfl,by decide⟩;exact bA (X:=.load 28 (.tmp 11)) (v:=.agg (aPf C.off)) (by kernel_rfl) (bW (i:=15) (j:=14) (s:=79) (by kernel_rfl) (by kernel_rfl) hon) (fun o h=>by exact aW h (oC t11) (gR (M.k11.below hb)) Tryz.underlying28 rfl aPp) rfl hb
  |16,_,hr =>
   have v15:a.tmps[80]?=some (.agg (aPf C.off)):=H.dep hr 15 80 (by kernel_rfl) ⟨rfl,by decide⟩;have hon:a.tmps[79]?=some (.bool true):=H.dep hr 14 79 (by kernel_rfl) ⟨rfl,by decide⟩;refine mX (f:=26) (lb:=#[]) (c:=.func 26) (args:=#[.tmp 80]) (ts:=#[28]) (vs:=#[.agg (aPf C.off)]) (by kernel_rfl) (bW (i:=16) (j:=14) (s:=79) (by kernel_rfl) (by kernel_rfl) hon) rfl (enters_of Tryz.func26 (by kernel_rfl) rfl) (by simp[Act.eval,v15]) ((M.h4 w hb).mono ?_);rintro e w' ⟨rfl,hb'⟩;exact⟨_,(),rfl,rfl,fun _ _=>rfl,aA hb hb'⟩
  |17,_,hr =>
   have hon:a.tmps[79]?=some (.bool true):=H.dep hr 14 79 (by kernel_rfl) ⟨rfl,by decide⟩;exact bA (X:=.load 28 (.tmp 12)) (v:=.agg (aPf C.one)) (by kernel_rfl) (bW (i:=17) (j:=14) (s:=79) (by kernel_rfl) (by kernel_rfl) hon) (fun o h=>by exact aW h (oC t12) (gR (M.k12.below hb)) Tryz.underlying28 rfl aPp) rfl hb
  |18,_,hr =>
   have v16:a.tmps[81]?=some (.agg (aPf C.nof)):=H.dep hr 16 81 (by kernel_rfl) ⟨rfl,by decide⟩;have v17:a.tmps[82]?=some (.agg (aPf C.one)):=H.dep hr 17 82 (by kernel_rfl) ⟨rfl,by decide⟩;have hon:a.tmps[79]?=some (.bool true):=H.dep hr 14 79 (by kernel_rfl) ⟨rfl,by decide⟩;refine mX (f:=25) (lb:=#[]) (c:=.func 25) (args:=#[.tmp 81,.tmp 82]) (ts:=#[28,28]) (vs:=#[.agg (aPf C.nof),.agg (aPf C.one)]) (by kernel_rfl) (bW (i:=18) (j:=14) (s:=79) (by kernel_rfl) (by kernel_rfl) hon) rfl (enters_of Tryz.func25 (by kernel_rfl) rfl) (by simp[Act.eval,v16,v17]) ((M.h5 w hb).mono ?_);rintro e w' ⟨rfl,hb'⟩;exact⟨_,(),rfl,rfl,fun _ _=>rfl,aA hb hb'⟩
  |19,_,hr =>
   have v18:a.tmps[83]?=some (.int .i64 C.c4):=H.dep hr 18 83 (by kernel_rfl) ⟨rfl,by decide⟩;have q4:=M.q4;have hon:a.tmps[79]?=some (.bool true):=H.dep hr 14 79 (by kernel_rfl) ⟨rfl,by decide⟩;exact bA (X:=.binOp .leq 3 (.tmp 83) (.const (.int .i64 0)) 3) (v:=.bool true) (by kernel_rfl) (bW (i:=19) (j:=14) (s:=79) (by kernel_rfl) (by kernel_rfl) hon) (fun o h=>by simp[execOp,h,v18,go_sem,q4]) rfl hb
  |20,_,hr =>
   have v14:a.tmps[79]?=some (.bool true):=H.dep hr 14 79 (by kernel_rfl) ⟨rfl,by decide⟩;have v19:a.tmps[84]?=some (.bool true):=H.dep hr 19 84 (by kernel_rfl) ⟨rfl,by decide⟩;exact aH (X:=.pick (.tmp 79) (.tmp 84) (.const (.bool false))) (v:=.bool true) (by kernel_rfl) (fun o h=>by simp[execOp,h,v14,v19,go_sem]) rfl hb
  |21,_,hr =>
   have v20:a.tmps[85]?=some (.bool true):=H.dep hr 20 85 (by kernel_rfl) ⟨rfl,by decide⟩;exact aH (X:=.move (.tmp 85)) (v:=.bool true) (by kernel_rfl) (fun o h=>by simp[execOp,h,v20,go_sem]) rfl hb
  |22,_,hr =>
   have hon:a.tmps[86]?=some (.bool true):=H.dep hr 21 86 (by kernel_rfl) ⟨rfl,by decide⟩;refine mX (f:=12) (lb:=#[]) (c:=.func 12) (args:=#[]) (ts:=#[]) (vs:=#[]) (by kernel_rfl) (bW (i:=22) (j:=21) (s:=86) (by kernel_rfl) (by kernel_rfl) hon) rfl (enters_of Tryz.func12 (by kernel_rfl) rfl) (by simp) ((M.h6 w hb).mono ?_);rintro e w' ⟨rfl,hb'⟩;exact⟨_,(),rfl,rfl,fun _ _=>rfl,aA hb hb'⟩
  |23,_,hr =>
   have v21:a.tmps[86]?=some (.bool true):=H.dep hr 21 86 (by kernel_rfl) ⟨rfl,by decide⟩;have v22:a.tmps[87]?=some (.bool true):=H.dep hr 22 87 (by kernel_rfl) ⟨rfl,by decide⟩;exact aH (X:=.pick (.tmp 86) (.tmp 87) (.const (.bool false))) (v:=.bool true) (by kernel_rfl) (fun o h=>by simp[execOp,h,v21,v22,go_sem]) rfl hb
  |24,_,hr =>
   have v23:a.tmps[88]?=some (.bool true):=H.dep hr 23 88 (by kernel_rfl) ⟨rfl,by decide⟩;exact aH (X:=.assign (.tmp 88)) (v:=.bool true) (by kernel_rfl) (fun o h=>by simp[execOp,h,v23,go_sem]) rfl hb
  |n+25,h,_=>exact absurd h (by omega)
end
noncomputable def bBj:Array Oper:=(Tryz.f4.body.bind (jE 7)).getD #[]
def bA8:List (Nat×Nat):=[(0,55),(1,56),(2,57),(3,58),(4,59),(5,60),(6,61),(7,62),(8,63),(9,11)]
structure PdC where
 W0:World
 b:Nat
 p:bZ
 x:List UInt8
 a:List UInt8
 o1:bZ
 o2:bZ
 m:bZ
 s:bZ
 two:bZ
 off:bZ
def PdC.val(C:PdC)(γ:Nat):Nat→Value
 |0=>.string ⟨C.x.toArray⟩
 |1=>.agg (aPf C.o1)
 |2=>.agg (aPf C.p)
 |3=>.string ⟨C.a.toArray⟩
 |4=>.agg (aPf C.o2)
 |5=>.agg (aPf C.m)
 |6=>.agg (aPf C.s)
 |7=>.agg (aPf C.two)
 |8=>.agg (aPf C.off)
 |9=>.pointer (some ⟨γ,0,none⟩)
 |_=>undef
def PdC.G(C:PdC)(γ:Nat)(l:Array Bool)(W:World):Prop:=Below C.W0.heap.size C.W0 W∧(lP l 9→C.W0.heap.size≤γ∧∃u,u.size=2∧aP W γ u 28∧(lP l 10→u=aPf C.off))
structure PdM(C:PdC)(t0:Array Value):Prop where
 sz:t0.size=89
 t3:t0[3]?=some (.pointer (some ⟨C.b,0,none⟩))
 t1:t0[1]?=some (.string ⟨C.a.toArray⟩)
 t7:t0[7]?=some (.string ⟨C.x.toArray⟩)
 k3:aP C.W0 C.b (aPf C.p) 28
 h1:∀W,Below C.W0.heap.size C.W0 W→Calls Tryz.prog 15 #[.string ⟨C.x.toArray⟩] W fun e w'=>e=.returned (.agg (aPf C.o1))∧Below W.heap.size W w'
 h2:∀W,Below C.W0.heap.size C.W0 W→Calls Tryz.prog 15 #[.string ⟨C.a.toArray⟩] W fun e w'=>e=.returned (.agg (aPf C.o2))∧Below W.heap.size W w'
 h3:∀W,Below C.W0.heap.size C.W0 W→Calls Tryz.prog 14 #[.agg (aPf C.p),.agg (aPf C.o2)] W fun e w'=>e=.returned (.agg (aPf C.m))∧Below W.heap.size W w'
 h4:∀W,Below C.W0.heap.size C.W0 W→Calls Tryz.prog 23 #[.agg (aPf C.o1),.agg (aPf C.m)] W fun e w'=>e=.returned (.agg (aPf C.s))∧Below W.heap.size W w'
 h5:∀W,Below C.W0.heap.size C.W0 W→Calls Tryz.prog 15 #[.string ⟨#[50]⟩] W fun e w'=>e=.returned (.agg (aPf C.two))∧Below W.heap.size W w'
 h6:∀W,Below C.W0.heap.size C.W0 W→Calls Tryz.prog 14 #[.agg (aPf C.s),.agg (aPf C.two)] W fun e w'=>e=.returned (.agg (aPf C.off))∧Below W.heap.size W w'
section
variable {C:PdC}{t0:Array Value}{Q:Exit→Act→World→Prop}{l:Array Bool}{w:World}
theorem PdC.keep{γ i:Nat}{W:World}(h4:i≠9)(h5:i≠10)(h:C.G γ l w)(hb:Below w.heap.size w W):C.G γ (l.setIfInBounds i true) W:=by
 obtain⟨r,k2⟩:=h;exact⟨r.trans (hb.mono r.size),fun h'=>by obtain⟨c,u,a1,a2,a3⟩:=k2 (mQ h' (Ne.symm h4));exact⟨c,u,a1,a2.below hb,fun h''=>a3 (mQ h'' (Ne.symm h5))⟩⟩
theorem bAj(M:PdM C t0){a:Act}(hdf:a.defers=[])(ht:a.tmps=t0)(hw:w.drewN 1=C.W0)
  (hQ:∀ γ W,C.W0.heap.size≤γ→aP W γ (aPf C.off) 28→Below C.W0.heap.size C.W0 W→Q .normal { tmps:=iZ (C.val γ) bA8 t0,defers:=[] } W):(Code.region 7 bBj true).wp Tryz.prog Q a w:=by
 have hsz:bBj.size=11:=by kernel_rfl
 refine eV (ds:=bA8) (val:=C.val) (G:=C.G) (by kernel_rfl) (by kernel_rfl) (by decide) (fun p hp=>?_) (by kernel_rfl) ?_ (γ:=0) hdf ht (by rw[hw];exact⟨Br _ _,fun h=>absurd h (Gu _ _)⟩) ?_
 ·rw[M.sz];have:∀p,p∈bA8→p.2<89:=by decide
  exact this p hp
 ·intro γ l a w i H hr;have hi:i<11:=by
   obtain⟨_,o,ho,_⟩:=mem_ready.1 hr;have:=(Ai.1 ho).1;rw[hsz] at this;exact this
  have t3:=H.low (s:=3) (by decide) M.t3;have t1:=H.low (s:=1) (by decide) M.t1;have t7:=H.low (s:=7) (by decide) M.t7;have hno:=aYd hr;obtain⟨hB,k2⟩:=H.g
  match i,hi,hr with
  |0,_,hr =>
   exact aH (X:=.move (.tmp 7)) (v:=.string ⟨C.x.toArray⟩) (by kernel_rfl) (fun o h=>by simp[execOp,h,t7,go_sem]) rfl (PdC.keep (by decide) (by decide) H.g (Br _ _))
  |1,_,hr =>
   have v0:a.tmps[55]?=some (.string ⟨C.x.toArray⟩):=H.dep hr 0 55 (by kernel_rfl) ⟨rfl,by decide⟩;refine gA (f:=15) (lb:=#[]) (c:=.func 15) (args:=#[.tmp 55]) (ts:=#[26]) (vs:=#[.string ⟨C.x.toArray⟩]) (by kernel_rfl) rfl (enters_of Tryz.func15 (by kernel_rfl) rfl) (by simp[Act.eval,v0]) ((M.h1 w hB).mono ?_);rintro e w' ⟨rfl,hb'⟩;exact⟨_,γ,rfl,rfl,fun _ _=>rfl,PdC.keep (by decide) (by decide) H.g hb'⟩
  |2,_,hr =>
   exact aH (X:=.load 28 (.tmp 3)) (v:=.agg (aPf C.p)) (by kernel_rfl) (fun o h=>by exact aW h (oC t3) (gR (M.k3.below hB)) Tryz.underlying28 rfl aPp) rfl (PdC.keep (by decide) (by decide) H.g (Br _ _))
  |3,_,hr =>
   exact aH (X:=.move (.tmp 1)) (v:=.string ⟨C.a.toArray⟩) (by kernel_rfl) (fun o h=>by simp[execOp,h,t1,go_sem]) rfl (PdC.keep (by decide) (by decide) H.g (Br _ _))
  |4,_,hr =>
   have v3:a.tmps[58]?=some (.string ⟨C.a.toArray⟩):=H.dep hr 3 58 (by kernel_rfl) ⟨rfl,by decide⟩;refine gA (f:=15) (lb:=#[]) (c:=.func 15) (args:=#[.tmp 58]) (ts:=#[26]) (vs:=#[.string ⟨C.a.toArray⟩]) (by kernel_rfl) rfl (enters_of Tryz.func15 (by kernel_rfl) rfl) (by simp[Act.eval,v3]) ((M.h2 w hB).mono ?_);rintro e w' ⟨rfl,hb'⟩;exact⟨_,γ,rfl,rfl,fun _ _=>rfl,PdC.keep (by decide) (by decide) H.g hb'⟩
  |5,_,hr =>
   have v2:a.tmps[57]?=some (.agg (aPf C.p)):=H.dep hr 2 57 (by kernel_rfl) ⟨rfl,by decide⟩;have v4:a.tmps[59]?=some (.agg (aPf C.o2)):=H.dep hr 4 59 (by kernel_rfl) ⟨rfl,by decide⟩;refine gA (f:=14) (lb:=#[]) (c:=.func 14) (args:=#[.tmp 57,.tmp 59]) (ts:=#[28,28]) (vs:=#[.agg (aPf C.p),.agg (aPf C.o2)]) (by kernel_rfl) rfl (enters_of Tryz.func14 (by kernel_rfl) rfl) (by simp[Act.eval,v2,v4]) ((M.h3 w hB).mono ?_);rintro e w' ⟨rfl,hb'⟩;exact⟨_,γ,rfl,rfl,fun _ _=>rfl,PdC.keep (by decide) (by decide) H.g hb'⟩
  |6,_,hr =>
   have v1:a.tmps[56]?=some (.agg (aPf C.o1)):=H.dep hr 1 56 (by kernel_rfl) ⟨rfl,by decide⟩;have v5:a.tmps[60]?=some (.agg (aPf C.m)):=H.dep hr 5 60 (by kernel_rfl) ⟨rfl,by decide⟩;refine gA (f:=23) (lb:=#[]) (c:=.func 23) (args:=#[.tmp 56,.tmp 60]) (ts:=#[28,28]) (vs:=#[.agg (aPf C.o1),.agg (aPf C.m)]) (by kernel_rfl) rfl (enters_of Tryz.func23 (by kernel_rfl) rfl) (by simp[Act.eval,v1,v5]) ((M.h4 w hB).mono ?_);rintro e w' ⟨rfl,hb'⟩;exact⟨_,γ,rfl,rfl,fun _ _=>rfl,PdC.keep (by decide) (by decide) H.g hb'⟩
  |7,_,hr =>
   refine gA (f:=15) (lb:=#[]) (c:=.func 15) (args:=#[.const (.string ⟨#[50]⟩)]) (ts:=#[26]) (vs:=#[.string ⟨#[50]⟩]) (by kernel_rfl) rfl (enters_of Tryz.func15 (by kernel_rfl) rfl) (by simp[Act.eval]) ((M.h5 w hB).mono ?_);rintro e w' ⟨rfl,hb'⟩;exact⟨_,γ,rfl,rfl,fun _ _=>rfl,PdC.keep (by decide) (by decide) H.g hb'⟩
  |8,_,hr =>
   have v6:a.tmps[61]?=some (.agg (aPf C.s)):=H.dep hr 6 61 (by kernel_rfl) ⟨rfl,by decide⟩;have v7:a.tmps[62]?=some (.agg (aPf C.two)):=H.dep hr 7 62 (by kernel_rfl) ⟨rfl,by decide⟩;refine gA (f:=14) (lb:=#[]) (c:=.func 14) (args:=#[.tmp 61,.tmp 62]) (ts:=#[28,28]) (vs:=#[.agg (aPf C.s),.agg (aPf C.two)]) (by kernel_rfl) rfl (enters_of Tryz.func14 (by kernel_rfl) rfl) (by simp[Act.eval,v6,v7]) ((M.h6 w hB).mono ?_);rintro e w' ⟨rfl,hb'⟩;exact⟨_,γ,rfl,rfl,fun _ _=>rfl,PdC.keep (by decide) (by decide) H.g hb'⟩
  |9,_,hr =>
   have h5:¬ lP l 10:=fun h=>hno (H.back 10 9 (by kernel_rfl) h)
   refine aLg (X:=.alloc 28) (v:=.pointer (some ⟨w.heap.size,0,none⟩)) (w':=w.alloc (.cells Z2 28)) w.heap.size (fun j hj=>?_) (by kernel_rfl) (fun o h=>by simp[execOp,h,go_sem];rfl) rfl ⟨hB.trans ((aB w _).mono hB.size),fun _=>⟨hB.size,Z2,rfl,aP.new0 w _ _,fun h=>absurd (mQ h (by decide)) h5⟩⟩
   match j,hj with
   |9,hj=>exact absurd hj hno
   |0,_|1,_|2,_|3,_|4,_|5,_|6,_|7,_|8,_=>rfl
   |_+10,_=>rfl
  |10,_,hr =>
   have v8:a.tmps[63]?=some (.agg (aPf C.off)):=H.dep hr 8 63 (by kernel_rfl) ⟨rfl,by decide⟩;have v9:a.tmps[11]?=some (.pointer (some ⟨γ,0,none⟩)):=H.dep hr 9 11 (by kernel_rfl) ⟨rfl,by decide⟩;have o9:lP l 9:=aG hr (by kernel_rfl);obtain⟨c,u,a1,a2,a3⟩:=k2 o9;exact aH0 (X:=.store 28 (.tmp 11) (.tmp 63)) (by kernel_rfl) (fun o h=>Bi h (oC v9) (oC v8) a2 aPp a1 (aP0 _)) ⟨below_setRow hB c _,fun _=>⟨c,aPf C.off,rfl,Ip a2,fun _=>rfl⟩⟩
  |n+11,h,_=>exact absurd h (by omega)
 ·rintro γ l W hall ⟨hB,k2⟩;obtain⟨c,u,a1,a2,a3⟩:=k2 (hall 9 (by rw[hsz];decide));obtain rfl:=a3 (hall 10 (by rw[hsz];decide));exact hQ γ W c a2 hB
end
end
section
open Go Go.RowKit Num
theorem aZ2(n d:List UInt8)(w:World)(hE:iE w)(hn:n.length≤100)(hd:d.length≤100):
  Calls Tryz.prog 26 #[.agg #[.string ⟨n.toArray⟩,.string ⟨d.toArray⟩]] w fun e w'=>e=.returned (.agg (aPf (mkF (-(val n)) (lU d))))∧Below w.heap.size w w':=by
 have HR1:=Hd (fun W=>rD n d W (by omega));have HN:=Hd (fun W (hb:Below w.heap.size w W)=>Ox n W (hE.below hb) (by omega));have hnl:=yH (l:=n) (K:=100) (by decide) hn;have hdl:=qR (d:=d) (K:=100) (by decide) hd;have hrd:=fun W (hb:Below w.heap.size w W)=>zH (aJ (-(val n))) (jN d) W (hE.below hb) (by omega) (by omega) (by rw[iH];exact qQ d)
 rw[bE,iH] at hrd;obtain⟨fr,hfr⟩:∃fr:Array Value,fr=aPf (mkF (-(val n)) (lU d)):=⟨_,rfl⟩
 have HSF:Hid ((Tryz.prog.info? 28).map (·.size)=some fr.size):=by show _=_;rw[hfr];exact aPp
 have HONF:Hid (fr.all (·.oneCell')=true):=by show _=_;rw[hfr];exact aP0 _
 have HS2:Hid (Z2.size=fr.size):=by show _=_;rw[hfr];rfl
 have HD:Hid (∀W,Below w.heap.size w W→Calls Tryz.prog 54 #[.string ⟨(aJ (-(val n))).toArray⟩,.string ⟨(jN d).toArray⟩] W fun e w'=>e=.returned (.agg fr)∧Below W.heap.size W w'):=by rw[hfr];exact hrd
 rw[←hfr];clear hfr hrd hnl hdl hE hn hd;generalize aJ (-(val n))=p1 at *;generalize jN d=s1 at *;have KA:Hid (aP ((w.alloc (.cells #[.string ⟨n.toArray⟩,.string ⟨d.toArray⟩] 28)).alloc (.cells Z2 28)) w.heap.size #[.string ⟨n.toArray⟩,.string ⟨d.toArray⟩] 28):=(aP.new0 w _ _).below (aB _ _);have KC:Hid (aP ((w.alloc (.cells #[.string ⟨n.toArray⟩,.string ⟨d.toArray⟩] 28)).alloc (.cells Z2 28)) (w.heap.size+1) Z2 28):=by
  have h:=aP.new0 (w.alloc (.cells #[.string ⟨n.toArray⟩,.string ⟨d.toArray⟩] 28)) Z2 28;rw[World.size_alloc] at h;exact h
 have HB:Hid (Below w.heap.size w ((w.alloc (.cells #[.string ⟨n.toArray⟩,.string ⟨d.toArray⟩] 28)).alloc (.cells Z2 28))):=aA (aB _ _) (aB _ _);have HLE:Hid (w.heap.size≤w.heap.size+1):=by show _≤_;omega
 have q0:=KA.out.cell 0;have q1:=KA.out.cell 1;go_enter Tryz.func26,Tryz.ntmps26;go_wp2_with fail;refine(HR1.out _).mono ?_;rintro e w1 ⟨rfl,hb1⟩;have HB1:=Hd (aA HB.out hb1);have KC1:=Hd (KC.out.below hb1);clear hb1 KA KC HB HR1 q0 q1;go_wp2_with fail;refine(HN.out _ HB1.out).mono ?_;rintro e w2 ⟨rfl,hb⟩;have HB2:=Hd (aA HB1.out hb);have KC2:=Hd (KC1.out.below hb);clear hb HB1 HN KC1;go_wp2_with fail;refine(HD.out _ HB2.out).mono ?_;rintro e w3 ⟨rfl,hb⟩;have HB3:=Hd (aA HB2.out hb);have KC3:=Hd (KC2.out.below hb);clear hb HB2 HD KC2;go_wp2_with (refine aOw rfl 28 _ _ rfl (w.heap.size+1) rfl fr rfl KC3.out HSF.out HS2.out HONF.out ?_;intro w4 kx bx _ _;have HB4:=Hd (HB3.out.trans (bx _ HLE.out));have KX:=Hd kx;clear kx bx);refine bodyPost_ret (aW2 rfl _ _ _ _ _ (0,0) _ rfl KX.out.2 Tryz.underlying28 rfl HSF.out) rfl ⟨rfl,HB4.out⟩
theorem aZn{A B:Int}(hB:0<B)(c:Int):c*eT A B≤fT A B↔c*A≤B:=by
 have h1:=aKo (N:=A) (D:=B) (by omega);have h2:=aKp (N:=A) (D:=B) (by omega);rw[if_neg (by omega)] at h1 h2;have hg:=qJ (N:=A) (D:=B) (by omega);generalize eT A B=x at *;generalize fT A B=y at *;generalize gE A B=g at *;have hg':(0:Int)<g:=by omega
 subst h1 h2;rw[←Int.mul_assoc];exact⟨fun h=>Int.mul_le_mul_of_nonneg_right h (by omega),fun h=>Int.le_of_mul_le_mul_right h hg'⟩
def aYy(p:bZ)(a:List UInt8):bZ :=
 let m:=mkF (aQj p.n (aJ (val a))) (aQk p.d [])
 let s:=mkF (iY (aJ (aRq p.n p.d a)) [] m.n m.d) (iG [] m.d)
 mkF (aQj s.n [50]) (aQk s.d [])
theorem aWx:lU []=1:=rfl
theorem bAo(p:bZ)(a:List UInt8):val (aYy p a).n≤lU (aYy p a).d∧-(val (aYy p a).n)≤lU (aYy p a).d∧0<lU (aYy p a).d:=by
 have hD:=qQ p.d;have e1:aQj p.n (aJ (val a))=val p.n*val a:=by unfold aQj;rw[bE]
 have e2:aQk p.d []=lU p.d:=by unfold aQk;rw[aWx,Int.mul_one]
 have hw:aRq p.n p.d a=aQ3 (eT (val p.n*val a) (lU p.d)) (fT (val p.n*val a) (lU p.d)):=rfl;unfold aYy;simp only[e1,e2];have hQ:=aKn (N:=val p.n*val a) hD;obtain⟨n1,n2⟩:=aZi (N:=eT (val p.n*val a) (lU p.d)) hQ;rw[←hw] at n1 n2;have hs1:iY (aJ (aRq p.n p.d a)) [] (mkF (val p.n*val a) (lU p.d)).n (mkF (val p.n*val a) (lU p.d)).d=aRq p.n p.d a*fT (val p.n*val a) (lU p.d)-eT (val p.n*val a) (lU p.d):=by
  unfold iY;rw[bE,aLy hD,aLx,aWx,Int.mul_one]
 have hs2:iG [] (mkF (val p.n*val a) (lU p.d)).d=fT (val p.n*val a) (lU p.d):=by
  unfold iG;rw[aWx,aLy hD,Int.one_mul]
 rw[hs1,hs2];generalize aRq p.n p.d a=X at *;generalize eT (val p.n*val a) (lU p.d)=P at *;generalize fT (val p.n*val a) (lU p.d)=Q at *;have hQ0:Q≠0:=by omega
 have hs3:aQj (mkF (X*Q-P) Q).n [50]=2*eT (X*Q-P) Q:=by unfold aQj;rw[aLx,show val [50]=2 from by decide,Int.mul_comm]
 have hs4:aQk (mkF (X*Q-P) Q).d []=fT (X*Q-P) Q:=by unfold aQk;rw[aLy hQ0,aWx,Int.mul_one]
 rw[hs3,hs4];have hR:=aKn (N:=X*Q-P) hQ0;have hR0:fT (X*Q-P) Q≠0:=by omega
 rw[aLx,aLy hR0];have g1:=(aZn (A:=X*Q-P) hQ 2).2 (by omega);have g2:=(aZn (A:=X*Q-P) hQ (-2)).2 (by omega);have g3:=(aZn (A:=2*eT (X*Q-P) Q) hR 1).2 (by omega);have g4:=(aZn (A:=2*eT (X*Q-P) Q) hR (-1)).2 (by omega);exact⟨by omega,by omega,aKn hR0⟩
theorem bBc(p:bZ)(a:List UInt8):¬ 0<aJ3 (aYy p a) ⟨[49],[]⟩∧¬ 0<aJ3 (mkF (-(val (aYy p a).n)) (lU (aYy p a).d)) ⟨[49],[]⟩:=by
 obtain⟨h1,h2,h3⟩:=bAo p a;have h0:lU (aYy p a).d≠0:=by omega
 have hone:0<lU (⟨[49],[]⟩:bZ).d:=by decide
 constructor
 ·rw[(aJ2 h3 hone).2];show ¬ val [49]*_<_*lU [];rw[jB,aWx,Int.one_mul,Int.mul_one];omega
 ·have h4:=aKn (N:=-(val (aYy p a).n)) h0;rw[(aJ2 (p:=mkF (-(val (aYy p a).n)) (lU (aYy p a).d)) (by rw[aLy h0];exact h4) hone).2];show ¬ val [49]*_<_*lU [];rw[jB,aWx,Int.one_mul,Int.mul_one,aLx,aLy h0];have:=(aZn (A:=-(val (aYy p a).n)) h3 1).2 (by omega);omega
end
section
open Go Go.RowKit Num
theorem aZg(n d q:List UInt8):(aRq n d q).natAbs≤(val n*val q).natAbs+1:=by
 have hQ:=aKn (N:=val n*val q) (qQ d);have hr:=Sy (N:=val n*val q) (qQ d);have hf:((eT (val n*val q) (lU d)).fdiv (fT (val n*val q) (lU d))).natAbs≤(eT (val n*val q) (lU d)).natAbs:=by
  rw[Int.fdiv_eq_ediv_of_nonneg _ (by omega)];exact Int.natAbs_ediv_le_natAbs _ _
 unfold aRq;rcases aZd (N:=eT (val n*val q) (lU d)) (D:=fT (val n*val q) (lU d)) with⟨h,_⟩|⟨h,_⟩ <;> rw[h] <;> omega
theorem aZe{N D:Int}(hD:D≠0){K:Nat}(hK:1≤K)(h1:N.natAbs<10^K)(h2:D.natAbs<10^K):(mkF N D).n.length≤K+1∧(mkF N D).d.length≤K+1 :=
 ⟨gC hK (Nat.lt_of_le_of_lt (Sy hD) h1),Uz (gC hK (Nat.lt_of_le_of_lt (Tk hD) h2))⟩
theorem aZ0{a b:Int}{M N:Nat}(ha:a.natAbs<M)(hb:b.natAbs<N):(a*b).natAbs<M*N:=by
 rw[Int.natAbs_mul];exact Nat.mul_lt_mul'' ha hb
theorem aYu(n d a b:List UInt8)(w:World)(hE:iE w):
  Calls Tryz.prog 4 #[.agg #[.string ⟨n.toArray⟩,.string ⟨d.toArray⟩],.string ⟨a.toArray⟩,.string ⟨b.toArray⟩] w fun e w'=>e=.returned (.bool true)∧Below w.heap.size w w':=by
 have HE:=Hd hE;have HAW:Hid (∀W,Below w.heap.size w W→Calls Tryz.prog 12 #[] W fun e w'=>e=.returned (.bool true)∧Below W.heap.size W w'):=fun W hb=>aQe W (hE.below hb)
 have KP:=Hd (aP.new0 w #[.string ⟨n.toArray⟩,.string ⟨d.toArray⟩] 28);have HB0:=Hd (aB w (.cells #[.string ⟨n.toArray⟩,.string ⟨d.toArray⟩] 28));have KQ:=Hd (aP.new0 (w.alloc (.cells #[.string ⟨n.toArray⟩,.string ⟨d.toArray⟩] 28)) #[.string ⟨n.toArray⟩,.string ⟨d.toArray⟩] 28);have HBB:=Hd (aA HB0.out (aB (w.alloc (.cells #[.string ⟨n.toArray⟩,.string ⟨d.toArray⟩] 28)) (.cells #[.string ⟨n.toArray⟩,.string ⟨d.toArray⟩] 28)));have HL0:=Hd (Ky n d (w.alloc (.cells #[.string ⟨n.toArray⟩,.string ⟨d.toArray⟩] 28)).heap.size 1 _ (KQ.out.cell 0) (KQ.out.cell 1));rw[World.size_alloc] at HL0;have KP1:=Hd (KP.out.below (aB _ (.cells #[.string ⟨n.toArray⟩,.string ⟨d.toArray⟩] 28)));have k0:=KP.out.cell 0;have k1:=KP.out.cell 1;have HLA:=Hd (fun W=>bM a W);have HLB:=Hd (fun W=>bM b W);clear hE HB0 KQ KP;go_enter Tryz.func4,Tryz.ntmps4;go_wp2_with fail;refine HL0.out.mono ?_;rintro e w1 ⟨rfl,hb⟩;have HB1:=Hd (aA HBB.out hb);have KP2:=Hd (KP1.out.below hb);clear hb HBB KP1 HL0 k0 k1;cases hg0:(decide (13<n.length) || decide (13<d.length)) with
 |true =>
  go_wp2_with fail;refine(HAW.out _ HB1.out).mono ?_;rintro e wz ⟨rfl,hb⟩;go_wp2;go_ret;exact⟨rfl,aA HB1.out hb⟩
 |false =>
 go_wp2_with fail;refine(HLA.out _).mono ?_;rintro e wx ⟨rfl,rfl⟩;cases hg1:decide (13<a.length) with
 |true =>
  go_wp2_with fail;refine(HAW.out _ HB1.out).mono ?_;rintro e wz ⟨rfl,hb⟩;go_wp2;go_ret;exact⟨rfl,aA HB1.out hb⟩
 |false =>
 go_wp2_with fail;refine(HLB.out _).mono ?_;rintro e wx ⟨rfl,rfl⟩;cases hg2:decide (13<b.length) with
 |true =>
  go_wp2_with fail;refine(HAW.out _ HB1.out).mono ?_;rintro e wz ⟨rfl,hb⟩;go_wp2;go_ret;exact⟨rfl,aA HB1.out hb⟩
 |false =>
 have ln:n.length≤13∧d.length≤13:=by
  rw[Bool.or_eq_false_iff] at hg0;have h1:=of_decide_eq_false hg0.1;have h2:=of_decide_eq_false hg0.2;omega
 have la:a.length≤13:=by have:=of_decide_eq_false hg1;omega
 have lb:b.length≤13:=by have:=of_decide_eq_false hg2;omega
 have vn:(val n).natAbs<10000000000000:=Nat.lt_of_lt_of_le (lO ln.1) (by decide);have va:(val a).natAbs<10000000000000:=Nat.lt_of_lt_of_le (lO la) (by decide);have vb:(val b).natAbs<10000000000000:=Nat.lt_of_lt_of_le (lO lb) (by decide);have vd:(lU d).natAbs<10000000000000:=Ew (Nat.lt_of_lt_of_le (lO ln.2) (by decide)) (by decide);have vab:(val a+val b).natAbs<20000000000000:=by omega
 obtain⟨c,hc⟩:∃c,c=aJ (val a+val b):=⟨_,rfl⟩
 have hcv:val c=val a+val b:=by rw[hc,bE]
 have lc:c.length≤15:=by rw[hc];exact gC (K:=14) (by decide) (by omega)
 obtain⟨m,hm⟩:∃m,m=aJ (-val a):=⟨_,rfl⟩
 have hmv:val m = -val a:=by rw[hm,bE]
 have lm:m.length≤15:=by rw[hm];exact gC (K:=14) (by decide) (by omega)
 have xa:=aZg n d a;have xb:=aZg n d b;have xc:=aZg n d c;have pa:=aZ0 vn va;have pb:=aZ0 vn vb;have pc:=aZ0 (b:=val c) vn (by rw[hcv];exact vab);have hadd:=bAe n d a b c hcv;have hneg:=bAd n d a m hmv;have hos:=bBc ⟨n,d⟩ a;have HV1:Hid (∀W,Below w.heap.size w W→Calls Tryz.prog 18 #[.agg (aPf ⟨n,d⟩),.string ⟨a.toArray⟩] W fun e w'=>e=.returned (.string ⟨(aJ (aRq n d a)).toArray⟩)∧Below W.heap.size W w'):=fun W hb=>aYp n d a W (HE.out.below hb) (by omega) (by omega) (by omega)
 have HV2:Hid (∀W,Below w.heap.size w W→Calls Tryz.prog 18 #[.agg (aPf ⟨n,d⟩),.string ⟨b.toArray⟩] W fun e w'=>e=.returned (.string ⟨(aJ (aRq n d b)).toArray⟩)∧Below W.heap.size W w'):=fun W hb=>aYp n d b W (HE.out.below hb) (by omega) (by omega) (by omega)
 have HV3:Hid (∀W,Below w.heap.size w W→Calls Tryz.prog 19 #[.string ⟨a.toArray⟩,.string ⟨b.toArray⟩] W fun e w'=>e=.returned (.string ⟨c.toArray⟩)∧Below W.heap.size W w'):=fun W hb=>by rw[hc];exact aAg a b W (HE.out.below hb) (by omega) (by omega)
 have HV4:Hid (∀W,Below w.heap.size w W→Calls Tryz.prog 18 #[.agg (aPf ⟨n,d⟩),.string ⟨c.toArray⟩] W fun e w'=>e=.returned (.string ⟨(aJ (aRq n d c)).toArray⟩)∧Below W.heap.size W w'):=fun W hb=>aYp n d c W (HE.out.below hb) (by omega) (by omega) (by omega)
 have HW1:Hid (∀W,Below w.heap.size w W→Calls Tryz.prog 20 #[.agg (aPf ⟨n,d⟩),.string ⟨a.toArray⟩] W fun e w'=>e=.returned (.string ⟨(aJ (aRq n d a)).toArray⟩)∧Below W.heap.size W w'):=fun W _=>aZ7 ⟨n,d⟩ a W ln.1 ln.2 la
 have HW2:Hid (∀W,Below w.heap.size w W→Calls Tryz.prog 21 #[.string ⟨a.toArray⟩] W fun e w'=>e=.returned (.string ⟨m.toArray⟩)∧Below W.heap.size W w'):=fun W hb=>by rw[hm];exact Ox a W (HE.out.below hb) (by omega)
 have HW3:Hid (∀W,Below w.heap.size w W→Calls Tryz.prog 18 #[.agg (aPf ⟨n,d⟩),.string ⟨m.toArray⟩] W fun e w'=>e=.returned (.string ⟨(aJ (-aRq n d a)).toArray⟩)∧Below W.heap.size W w'):=fun W hb=>by
  have h:=aYp n d m W (HE.out.below hb) (by omega) (by omega) (by omega);rw[hneg] at h;exact h
 generalize hX:aRq n d a=X at *;generalize aRq n d b=Y at *;generalize aRq n d c=Z at *;have lX:(aJ X).length≤28:=gC (K:=27) (by decide) (by omega);have lY:(aJ Y).length≤28:=gC (K:=27) (by decide) (by omega);have lZ:(aJ Z).length≤28:=gC (K:=27) (by decide) (by omega);have lXY:(aJ (X+Y)).length≤29:=gC (K:=28) (by decide) (by omega);have lD:(aJ (Z-(X+Y))).length≤30:=gC (K:=29) (by decide) (by omega);have HW4:Hid (∀W,Below w.heap.size w W→Calls Tryz.prog 21 #[.string ⟨(aJ X).toArray⟩] W fun e w'=>e=.returned (.string ⟨(aJ (-X)).toArray⟩)∧Below W.heap.size W w'):=fun W hb=>by
  have h:=Ox (aJ X) W (HE.out.below hb) (by omega);rw[bE] at h;exact h
 have HA1:=Hd (fun W (hb:Below w.heap.size w W)=>aAg (aJ X) (aJ Y) W (HE.out.below hb) (by omega) (by omega));rw[bE,bE] at HA1;have HA2:=Hd (fun W (hb:Below w.heap.size w W)=>aAd (aJ Z) (aJ (X+Y)) W (HE.out.below hb) (by omega) (by omega));rw[bE,bE] at HA2;have hD:=qQ d;have e2:aQk d []=lU d:=by unfold aQk;rw[aWx,Int.mul_one]
 have e1:aQj n (aJ (val a))=val n*val a:=by unfold aQj;rw[bE]
 obtain⟨M,hM⟩:∃M,M=mkF (aQj n (aJ (val a))) (aQk d []):=⟨_,rfl⟩
 have lenM:M.n.length≤28∧M.d.length≤28:=by rw[hM,e1,e2];exact aZe hD (K:=27) (by decide) (by omega) (by omega)
 have hMd:lU M.d=fT (val n*val a) (lU d)∧val M.n=eT (val n*val a) (lU d):=by rw[hM,e1,e2];exact⟨aLy hD,aLx _ _⟩
 have hrd:=Tk (N:=val n*val a) hD;have hrn:=Sy (N:=val n*val a) hD;have hrp:=aKn (N:=val n*val a) hD;have hs2:iG [] M.d=fT (val n*val a) (lU d):=by unfold iG;rw[aWx,Int.one_mul,hMd.1]
 have hs1:(iY (aJ X) [] M.n M.d).natAbs<10^42:=by
  unfold iY;rw[bE,aWx,Int.mul_one,hMd.1,hMd.2];have h:=aZ0 (a:=X) (b:=fT (val n*val a) (lU d)) (M:=1000000000000000000000000000) (N:=10000000000000) (by omega) (by omega);generalize X*fT (val n*val a) (lU d)=u at *;omega
 obtain⟨S,hS⟩:∃S,S=mkF (iY (aJ X) [] M.n M.d) (iG [] M.d):=⟨_,rfl⟩
 have lenS:S.n.length≤43∧S.d.length≤43:=by rw[hS];exact aZe (by rw[hs2];omega) (K:=42) (by decide) hs1 (by rw[hs2];omega)
 obtain⟨O,hO⟩:∃O,O=mkF (aQj S.n [50]) (aQk S.d []):=⟨_,rfl⟩
 have hOV:aYy ⟨n,d⟩ a=O:=by rw[hO,hS,hM,←hX];rfl
 have hSd:aQk S.d []≠0:=by unfold aQk;rw[aWx,Int.mul_one];exact qQ _
 have lenO:O.n.length≤45∧O.d.length≤45:=by
  rw[hO];refine aZe hSd (K:=44) (by decide) ?_ ?_
  ·have h:=aZ0 (a:=val S.n) (b:=val [50]) (M:=10^43) (N:=3) (lO lenS.1) (by decide);unfold aQj;exact Nat.lt_of_lt_of_le h (by decide)
  ·unfold aQk;rw[aWx,Int.mul_one];exact Nat.lt_of_lt_of_le (Ew (lO lenS.2) (by decide)) (by decide)
 have hOd:=qQ O.d;obtain⟨NO,hNO⟩:∃NO,NO=mkF (-(val O.n)) (lU O.d):=⟨_,rfl⟩
 have lenNO:NO.n.length≤47∧NO.d.length≤47:=by
  rw[hNO];refine aZe hOd (K:=46) (by decide) ?_ ?_
  ·rw[Int.natAbs_neg];exact Nat.lt_of_lt_of_le (lO lenO.1) (by decide)
  ·exact Nat.lt_of_lt_of_le (Ew (lO lenO.2) (by decide)) (by decide)
 rw[hOV,←hNO] at hos;have laa:(aJ (val a)).length≤14:=gC (K:=13) (by decide) (by omega);have HO1:Hid (∀W,Below w.heap.size w W→Calls Tryz.prog 15 #[.string ⟨(aJ X).toArray⟩] W fun e w'=>e=.returned (.agg (aPf ⟨aJ X,[]⟩))∧Below W.heap.size W w'):=fun W hb=>by
  have h:=aQ8 (aJ X) W (HE.out.below hb) (by omega);rw[bE] at h;exact h
 have HO2:Hid (∀W,Below w.heap.size w W→Calls Tryz.prog 15 #[.string ⟨a.toArray⟩] W fun e w'=>e=.returned (.agg (aPf ⟨aJ (val a),[]⟩))∧Below W.heap.size W w'):=fun W hb=>aQ8 a W (HE.out.below hb) (by omega)
 have HO3:Hid (∀W,Below w.heap.size w W→Calls Tryz.prog 14 #[.agg (aPf ⟨n,d⟩),.agg (aPf ⟨aJ (val a),[]⟩)] W fun e w'=>e=.returned (.agg (aPf M))∧Below W.heap.size W w'):=fun W hb=>by rw[hM];exact aQy n d (aJ (val a)) [] W (HE.out.below hb) (by omega) (by omega) (by omega) (by decide)
 have HO4:Hid (∀W,Below w.heap.size w W→Calls Tryz.prog 23 #[.agg (aPf ⟨aJ X,[]⟩),.agg (aPf M)] W fun e w'=>e=.returned (.agg (aPf S))∧Below W.heap.size W w'):=fun W hb=>by rw[hS];exact Hx (aJ X) [] M.n M.d W (HE.out.below hb) (by omega) (by decide) (by omega) (by omega)
 have HO5:Hid (∀W,Below w.heap.size w W→Calls Tryz.prog 15 #[.string ⟨#[50]⟩] W fun e w'=>e=.returned (.agg (aPf ⟨[50],[]⟩))∧Below W.heap.size W w'):=fun W hb=>by
  have h:=aQ8 [50] W (HE.out.below hb) (by decide);rw[aZm,aZt] at h;exact h
 have HO6:Hid (∀W,Below w.heap.size w W→Calls Tryz.prog 14 #[.agg (aPf S),.agg (aPf ⟨[50],[]⟩)] W fun e w'=>e=.returned (.agg (aPf O))∧Below W.heap.size W w'):=fun W hb=>by rw[hO];exact aQy S.n S.d [50] [] W (HE.out.below hb) (by omega) (by omega) (by decide) (by decide)
 have HO7:Hid (∀W,Below w.heap.size w W→Calls Tryz.prog 15 #[.string ⟨#[49]⟩] W fun e w'=>e=.returned (.agg (aPf ⟨[49],[]⟩))∧Below W.heap.size W w'):=fun W hb=>by
  have h:=aQ8 [49] W (HE.out.below hb) (by decide);rw[jB,mK] at h;exact h
 have HC1:Hid (∀W,Below w.heap.size w W→Calls Tryz.prog 24 #[.string ⟨(aJ (Z-(X+Y))).toArray⟩,.string ⟨#[49]⟩] W fun e w'=>e=.returned (.int .i64 (bG (Z-(X+Y)) 1))∧Below W.heap.size W w'):=fun W hb=>by
  have h:=nV (aJ (Z-(X+Y))) [49] W (by omega) (by decide);rw[bE,jB] at h;exact h
 have HC2:Hid (∀W,Below w.heap.size w W→Calls Tryz.prog 24 #[.string ⟨(aJ (Z-(X+Y))).toArray⟩,.string ⟨#[45,49]⟩] W fun e w'=>e=.returned (.int .i64 (bG (Z-(X+Y)) (-1)))∧Below W.heap.size W w'):=fun W hb=>by
  have h:=nV (aJ (Z-(X+Y))) [45,49] W (by omega) (by decide);rw[bE,show val [45,49] = -1 from by decide] at h;exact h
 have HC3:Hid (∀W,Below w.heap.size w W→Calls Tryz.prog 25 #[.agg (aPf O),.agg (aPf ⟨[49],[]⟩)] W fun e w'=>e=.returned (.int .i64 (aJ3 O ⟨[49],[]⟩))∧Below W.heap.size W w'):=fun W hb=>fB O.n O.d [49] [] W (HE.out.below hb) (by omega) (by omega) (by decide) (by decide)
 have HC4:Hid (∀W,Below w.heap.size w W→Calls Tryz.prog 26 #[.agg (aPf O)] W fun e w'=>e=.returned (.agg (aPf NO))∧Below W.heap.size W w'):=fun W hb=>by rw[hNO];exact aZ2 O.n O.d W (HE.out.below hb) (by omega) (by omega)
 have HC5:Hid (∀W,Below w.heap.size w W→Calls Tryz.prog 25 #[.agg (aPf NO),.agg (aPf ⟨[49],[]⟩)] W fun e w'=>e=.returned (.int .i64 (aJ3 NO ⟨[49],[]⟩))∧Below W.heap.size W w'):=fun W hb=>fB NO.n NO.d [49] [] W (HE.out.below hb) (by omega) (by omega) (by decide) (by decide)
 have HQ:Hid (bG (Z-(X+Y)) 1≤0∧0≤bG (Z-(X+Y)) (-1)∧aJ3 O ⟨[49],[]⟩≤0∧aJ3 NO ⟨[49],[]⟩≤0):=by
  refine⟨?_,?_,by omega,by omega⟩
  ·unfold bG;split;decide;rw[if_neg (by omega)];decide
  ·unfold bG;rw[if_neg (by omega)];split <;> decide
 generalize bG (Z-(X+Y)) 1=z1 at *;generalize bG (Z-(X+Y)) (-1)=z2 at *;generalize aJ3 O ⟨[49],[]⟩=z3 at *;generalize aJ3 NO ⟨[49],[]⟩=z4 at *;generalize aJ (Z-(X+Y))=sD at *;generalize aJ (X+Y)=sXY at *;generalize(⟨aJ X,[]⟩:bZ)=f1 at *;generalize(⟨aJ (val a),[]⟩:bZ)=f2 at *;generalize(⟨[50],[]⟩:bZ)=f3 at *;generalize(⟨[49],[]⟩:bZ)=f4 at *;generalize aJ (-X)=sN at *;generalize aJ X=sX at *;generalize aJ Y=sY at *;generalize aJ Z=sZ at *;have HSF:Hid (∀f,(Tryz.prog.info? 28).map (·.size)=some (aPf f).size):=fun _=>aPp
 have HONF:Hid (∀f,(aPf f).all (·.oneCell')=true):=aP0;have HSZ:Hid (∀f,Z2.size=(aPf f).size):=fun _=>rfl
 clear ln la lb vn va vb vd vab hc hcv lc hm hmv lm xa xb xc pa pb pc hadd hneg hos hX lX lY lZ lXY lD hD e2 e1 hM lenM hMd hrd hrn hrp hs2 hs1 hS lenS hO hOV hSd lenO hOd hNO lenNO laa hg0 hg1 hg2 HE HLA HLB;go_wp2_with fail;refine bAm (C:=⟨w1.drewN 1,w.heap.size,⟨n,d⟩,a,b,sX,sY,c,sZ⟩) ?M3 rfl rfl rfl ?_
 case M3=>exact⟨rfl,rfl,rfl,rfl,⟨KP2.out.1,KP2.out.2⟩,fun W hb=>HV1.out W (aA (aD HB1.out 1) hb),fun W hb=>HV2.out W (aA (aD HB1.out 1) hb),fun W hb=>HV3.out W (aA (aD HB1.out 1) hb),fun W hb=>HV4.out W (aA (aD HB1.out 1) hb)⟩
 intro W3 hb3;have HB3:=Hd (aA (aD HB1.out 1) hb3);have KP3:=Hd (aP.below (w:=w1.drewN 1) ⟨KP2.out.1,KP2.out.2⟩ hb3);clear hb3 HV1 HV2 HV3 HV4;simp only[iZ,bBb,List.foldl,List.setIfInBounds_toArray,List.set_cons_zero,List.set_cons_succ,PaC.val];go_wp2_with fail;refine bAl (C:=⟨W3.drewN 1,w.heap.size,⟨n,d⟩,a,sX,m,sN⟩) ?M4 rfl rfl rfl ?_
 case M4=>exact⟨rfl,rfl,rfl,rfl,⟨KP3.out.1,KP3.out.2⟩,fun W hb=>HW1.out W (aA (aD HB3.out 1) hb),fun W hb=>HW2.out W (aA (aD HB3.out 1) hb),fun W hb=>HW3.out W (aA (aD HB3.out 1) hb),fun W hb=>HW4.out W (aA (aD HB3.out 1) hb)⟩
 intro W4 hb4;have HB4:=Hd (aA (aD HB3.out 1) hb4);have KP4:=Hd (aP.below (w:=W3.drewN 1) ⟨KP3.out.1,KP3.out.2⟩ hb4);clear hb4 HW1 HW2 HW3 HW4;simp only[iZ,bBa,List.foldl,List.setIfInBounds_toArray,List.set_cons_zero,List.set_cons_succ,PbC.val];go_wp2_with fail;refine(HA1.out _ HB4.out).mono ?_;rintro e w5 ⟨rfl,hb⟩;have HB5:=Hd (aA HB4.out hb);have KP5:=Hd (KP4.out.below hb);clear hb HA1;go_wp2_with fail;refine(HA2.out _ HB5.out).mono ?_;rintro e w6 ⟨rfl,hb⟩;have HB6:=Hd (aA HB5.out hb);have KP6:=Hd (KP5.out.below hb);clear hb HA2 HB1 KP2 HB3 KP3 HB4 KP4 HB5 KP5;go_wp2_with fail;refine bAj (C:=⟨w6.drewN 1,w.heap.size,⟨n,d⟩,sX,a,f1,f2,M,S,f3,O⟩) ?M7 rfl rfl rfl ?_
 case M7=>exact⟨rfl,rfl,rfl,rfl,⟨KP6.out.1,KP6.out.2⟩,fun W hb=>HO1.out W (aA (aD HB6.out 1) hb),fun W hb=>HO2.out W (aA (aD HB6.out 1) hb),fun W hb=>HO3.out W (aA (aD HB6.out 1) hb),fun W hb=>HO4.out W (aA (aD HB6.out 1) hb),fun W hb=>HO5.out W (aA (aD HB6.out 1) hb),fun W hb=>HO6.out W (aA (aD HB6.out 1) hb)⟩
 intro g W7 _ kg hb7;have HB7:=Hd (aA (aD HB6.out 1) hb7);have KG7:=Hd kg;clear hb7 kg HO1 HO2 HO3 HO4 HO5 HO6 KP6 HB6;simp only[iZ,bA8,List.foldl,List.setIfInBounds_toArray,List.set_cons_zero,List.set_cons_succ,PdC.val];go_wp2_with fail;refine(HO7.out _ HB7.out).mono ?_;rintro e w8 ⟨rfl,hb⟩;have HB8:=Hd (aA HB7.out hb);have KG8:=Hd (KG7.out.below hb);have HN8:=Hd (aB w8 (.cells Z2 28));have KN8:=Hd (aP.new0 w8 Z2 28);clear hb HO7 HB7 KG7;go_wp2_with (refine aOw rfl 28 _ _ rfl w8.heap.size rfl (aPf f4) rfl KN8.out (HSF.out _) (HSZ.out _) (HONF.out _) ?_;intro w9 kx bx _ _;have hb8:=HN8.out.trans (bx _ (Nl _));have HB9:=Hd (aA HB8.out hb8);have KG9:=Hd (KG8.out.below hb8);have KO9:=Hd kx;clear kx bx hb8);simp only[Act.put];refine bAk (C:=⟨w9.drewN 1,g,w8.heap.size,sD,O,f4,NO,z1,z2,z3,z4⟩) ?M9 rfl rfl rfl ?_
 case M9=>exact⟨rfl,rfl,rfl,rfl,⟨KG9.out.1,KG9.out.2⟩,⟨KO9.out.1,KO9.out.2⟩,HQ.out.1,HQ.out.2.1,HQ.out.2.2.1,HQ.out.2.2.2,fun W hb=>HC1.out W (aA (aD HB9.out 1) hb),fun W hb=>HC2.out W (aA (aD HB9.out 1) hb),fun W hb=>HC3.out W (aA (aD HB9.out 1) hb),fun W hb=>HC4.out W (aA (aD HB9.out 1) hb),fun W hb=>HC5.out W (aA (aD HB9.out 1) hb),fun W hb=>HAW.out W (aA (aD HB9.out 1) hb)⟩
 intro W10 hb10;have HB10:=Hd (aA (aD HB9.out 1) hb10);clear hb10;simp only[iZ,bA9,List.foldl,List.setIfInBounds_toArray,List.set_cons_zero,List.set_cons_succ,PcC.val];go_wp2;go_ret;exact⟨rfl,HB10.out⟩
end
section
open Go.RowKit Num Dt Go.ChangeShapes Go.WideShapes Go.ChangeAt
section
variable {H:Type}{enc:TypeId×Value→H}{w:World}{base:Nat}{held:Bool}
theorem bAn{v:Value}{d:DataW H}{ps:List MemPlace}(hv:Value.okWide Tryz.prog w .any base 28 v)(h:DataW.Trod enc Tryz.prog w 0 (fun _=>true) held 28 v d ps):
  ∃n m:List UInt8,v=.agg #[.string ⟨n.toArray⟩,.string ⟨m.toArray⟩]:=by
 obtain⟨cs,rfl,_⟩:=okWide_struct Tryz.underlying28 hv;obtain⟨n,hn⟩:=h;obtain⟨xs,k,_,_,hlen,hxl,hf⟩:=DataW.trod_struct Tryz.underlying28 hn;have hg:∀i,i<2→∃y,xs[i]?=some y:=fun i hi=>⟨_,Lg (by rw[hxl];exact hi)⟩
 obtain⟨y0,g0⟩:=hg 0 (by decide);obtain⟨y1,g1⟩:=hg 1 (by decide);obtain⟨s0,e0,_⟩:=iB Tryz.underlying26 (by kernel_rfl) ((hf 0 _ rfl).trans g0);obtain⟨s1,e1,_⟩:=iB Tryz.underlying26 (by kernel_rfl) ((hf 1 _ rfl).trans g1);have hl2:cs.toList.length=2:=hlen.trans (by kernel_rfl);refine⟨s0,s1,?_⟩;congr 1;refine Array.toList_inj.1 (List.ext_getElem? fun j=>?_)
 match j with
 |0=>exact e0
 |1=>exact e1
 |j+2=>rw[List.getElem?_eq_none (by omega),List.getElem?_eq_none (by simp)]
end
end
end Go.Proofs.YtejkibnaidiklaaGreatDoor
