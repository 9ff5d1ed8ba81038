/- AfterBs CloneF After AfterV -/
import Derived.Test.YtejkibnaidiklaaGreatDoorJMem
import Derived.Test.YtejkibnaidiklaaGreatDoorJAfterA
import Derived.Test.YtejkibnaidiklaaGreatDoorJClassA
import Derived.Test.YtejkibnaidiklaaGreatDoorJRowF
import Derived.Test.YtejkibnaidiklaaGreatDoorJWhereA
import Derived.Test.YtejkibnaidiklaaGreatDoorJElectionA
import Derived.Lib.SliceRun
import Derived.Deep.AppendLies
import Derived.Deep.Heap
set_option maxHeartbeats 16000000
set_option maxRecDepth 100000
namespace Go.Proofs.YtejkibnaidiklaaGreatDoor
section
open Go Go.RowKit Num
theorem aIo{Γ:Type}{P:Program}{ops:Array Oper}{val:Γ→Nat→Value}{G:Γ→Array Bool→World→Prop}{Q:Exit→Act→World→Prop}{γ:Γ}{l:Array Bool}{a:Act}{w:World}{i:Nat}{f:FuncId}{lb:Array Value}{c:Operand}{args:Array Operand}{ts:Array TypeId}{vs:Array Value}{j s:Nat}{gb:Bool}(hX:(ops[i]?).map (·.op)=some (.call { callee:=.value c,args:=args,argTypes:=ts }))(hgd:(ops[i]?).map (·.guard)=some (some (j,true)))(hj:(ops[j]?).bind (·.dst)=some s)(hv:a.tmps[s]?=some (.bool gb))
  (hc:gb=true→a.eval c=.func (.func f) #[] lb) (eg:∀args w,(callFunc f args).run P w=.ok (.enter f args) w) (h0:gb=false→val γ i=undef) (hg0:gb=false→G γ (l.setIfInBounds i true) w)
  (ha:gb=true→args.map a.eval++lb=vs) (h:gb=true→Calls P f vs w fun e w'=>∃v γ',e=.returned v∧v=val γ' i∧(∀j,lP l j→val γ' j=val γ j)∧G γ' (l.setIfInBounds i true) w'):wpOp P ops Q i (pY ops val G γ l a i) a w:=by
 have hw:=nL (i:=i) hgd rfl hj hv;cases gb with
 |true=>exact mX hX hw (hc rfl) eg (ha rfl) (h rfl)
 |false =>
  cases ho:ops[i]? with
  |none=>rw[ho] at hX;cases hX
  |some o=>exact Cv hw (Ai.1 ho).1 (h0 rfl).symm (hg0 rfl)
noncomputable def aJs:Array Oper:=(Tryz.f82.body.bind (jE 5)).getD #[]
def aJl:List (Nat×Nat):=[(0,24),(1,25),(2,26),(3,27),(4,28),(5,29),(6,30),(7,31)]
structure aJj where
 W0:World
 b:Nat
 off:Nat
 n:Nat
 c:Nat
 k:Nat
 g:Nat
 xc:Array Value
 fc:Array Value
 r:Int
def aJj.val(C:aJj)(_:Unit):Nat→Value
 |0=>.func (.func 83) #[] #[]
 |1=>.slice (some ⟨C.b,C.off,none⟩) C.n C.c
 |2=>.int .i64 (C.k:Int)
 |3=>.pointer (some ⟨C.b,C.off+C.k*21,none⟩)
 |4=>.agg C.xc
 |5=>.agg C.fc
 |6=>.int .i64 C.r
 |_=>.bool (decide (C.r<0))
def aJj.gg(C:aJj)(_:Unit)(_:Array Bool)(W:World):Prop:=Below C.W0.heap.size C.W0 W
structure aJx(C:aJj)(t0:Array Value):Prop where
 sz:t0.size=49
 t0':t0[0]?=some (.slice (some ⟨C.b,C.off,none⟩) C.n C.c)
 t2:t0[2]?=some (.func (.func 83) #[] #[])
 t4:t0[4]?=some (.pointer (some ⟨C.g,0,none⟩))
 t11:t0[11]?=some (.int .i64 (C.k:Int))
 lt:C.k<C.n
 xc:∀j v,C.xc.toList[j]?=some v→C.W0.cell? ⟨C.b,C.off+C.k*21+j,none⟩=some v
 small:C.n≤1000000
 hb:C.b<C.W0.heap.size
 xcs:(Tryz.prog.info? 59).map (·.size)=some C.xc.size
 fcs:(Tryz.prog.info? 59).map (·.size)=some C.fc.size
 k4:aP C.W0 C.g C.fc 59
 cmp:∀W,Calls Tryz.prog 83 #[.agg C.xc,.agg C.fc] W fun e w'=>e=.returned (.int .i64 C.r)∧Below W.heap.size W w'
section
variable {C:aJj}{t0:Array Value}{Q:Exit→Act→World→Prop}
theorem aJi(M:aJx C t0){a:Act}{w:World}(hdf:a.defers=[])(ht:a.tmps=t0)(hw:w.drewN 1=C.W0)
  (hQ:∀W,Below C.W0.heap.size C.W0 W→Q .normal { tmps:=iZ (C.val ()) aJl t0,defers:=[] } W):(Code.region 5 aJs true).wp Tryz.prog Q a w:=by
 have hsz:aJs.size=8:=by kernel_rfl
 refine eV (ds:=aJl) (val:=C.val) (G:=C.gg) (by kernel_rfl) (by kernel_rfl) (by decide) (fun p hp=>?_) (by kernel_rfl) ?_ (γ:=()) hdf ht (by rw[hw];exact Br _ _) (fun _ _ W _ hg=>hQ W hg)
 ·rw[M.sz];have:∀p,p∈aJl→p.2<49:=by decide
  exact this p hp
 ·intro γ l a w i H hr;cases γ;have hi:i<8:=by
   obtain⟨_,o,ho,_⟩:=mem_ready.1 hr;have:=(Ai.1 ho).1;rw[hsz] at this;exact this
  have t0':=H.low (s:=0) (by decide) M.t0';have t2:=H.low (s:=2) (by decide) M.t2;have t4:=H.low (s:=4) (by decide) M.t4;have t11:=H.low (s:=11) (by decide) M.t11;have hb:Below C.W0.heap.size C.W0 w:=H.g
  match i,hi,hr with
  |0,_,hr =>
   exact aH (X:=.move (.tmp 2)) (v:=.func (.func 83) #[] #[]) (by kernel_rfl) (fun o h=>by simp[execOp,h,t2,go_sem]) rfl hb
  |1,_,hr =>
   exact aH (X:=.move (.tmp 0)) (v:=.slice (some ⟨C.b,C.off,none⟩) C.n C.c) (by kernel_rfl) (fun o h=>by simp[execOp,h,t0',go_sem]) rfl hb
  |2,_,hr =>
   exact aH (X:=.move (.tmp 11)) (v:=.int .i64 (C.k:Int)) (by kernel_rfl) (fun o h=>by simp[execOp,h,t11,go_sem]) rfl hb
  |3,_,hr =>
   have v1:a.tmps[25]?=some (.slice (some ⟨C.b,C.off,none⟩) C.n C.c):=H.dep hr 1 25 (by kernel_rfl) ⟨rfl,by decide⟩;have v2:a.tmps[26]?=some (.int .i64 (C.k:Int)):=H.dep hr 2 26 (by kernel_rfl) ⟨rfl,by decide⟩;have hlt:=M.lt;have hsm:=M.small;exact aH (X:=.indexAddr 22 (.tmp 25) (.tmp 26)) (v:=.pointer (some ⟨C.b,C.off+C.k*21,none⟩)) (by kernel_rfl) (fun o h=>by simp[execOp,h,v1,v2,hlt,go_sem]) rfl hb
  |4,_,hr =>
   have v3:a.tmps[27]?=some (.pointer (some ⟨C.b,C.off+C.k*21,none⟩)):=H.dep hr 3 27 (by kernel_rfl) ⟨rfl,by decide⟩;exact aH (X:=.load 59 (.tmp 27)) (v:=.agg C.xc) (by kernel_rfl) (fun o h=>by exact aW h (oC v3) (fun j v hj=>(hb.cell (p:=⟨C.b,C.off+C.k*21+j,none⟩) M.hb).trans (M.xc j v hj)) Tryz.underlying59 rfl M.xcs) rfl hb
  |5,_,hr =>
   exact aH (X:=.load 59 (.tmp 4)) (v:=.agg C.fc) (by kernel_rfl) (fun o h=>by exact aW h (oC t4) (gR (M.k4.below hb)) Tryz.underlying59 rfl M.fcs) rfl hb
  |6,_,hr =>
   have v4:a.tmps[28]?=some (.agg C.xc):=H.dep hr 4 28 (by kernel_rfl) ⟨rfl,by decide⟩;have v5:a.tmps[29]?=some (.agg C.fc):=H.dep hr 5 29 (by kernel_rfl) ⟨rfl,by decide⟩;have vf:a.tmps[24]?=some (.func (.func 83) #[] #[]):=H.dep hr 0 24 (by kernel_rfl) ⟨rfl,by decide⟩;refine gA (f:=83) (lb:=#[]) (c:=.tmp 24) (args:=#[.tmp 28,.tmp 29]) (ts:=#[59,59]) (vs:=#[.agg C.xc,.agg C.fc]) (by kernel_rfl) (oC vf) (enters_of Tryz.func83 (by kernel_rfl) rfl) (by simp[Act.eval,v4,v5]) ((M.cmp w).mono ?_);rintro e w' ⟨rfl,hb'⟩;exact⟨_,(),rfl,rfl,fun _ _=>rfl,aA hb hb'⟩
  |7,_,hr =>
   have v6:a.tmps[30]?=some (.int .i64 C.r):=H.dep hr 6 30 (by kernel_rfl) ⟨rfl,by decide⟩;exact aH (X:=.binOp .lss 3 (.tmp 30) (.const (.int .i64 0)) 3) (v:=.bool (decide (C.r<0))) (by kernel_rfl) (fun o h=>by simp[execOp,h,v6,go_sem]) rfl hb
  |n+8,h,_=>exact absurd h (by omega)
end
noncomputable def aJr:Array Oper:=(Tryz.f82.body.bind (jE 8)).getD #[]
def aJk:List (Nat×Nat):=[(0,35),(1,36),(2,37),(3,38),(4,39),(5,40),(6,41),(7,42),(8,43),(9,44),(10,45),(11,46),(12,47),(13,48),(14,6),(15,7)]
structure aI5 where
 W0:World
 b:Nat
 off:Nat
 n:Nat
 c:Nat
 k:Nat
 g:Nat
 xc:Array Value
 fc:Array Value
 r:Int
 gb:Bool
 sl:Value
def aI5.val(C:aI5)(_:Unit):Nat→Value
 |0=>.int .i64 (C.k:Int)
 |1=>.int .i64 (C.k:Int)
 |2=>.int .i64 (C.n:Int)
 |3=>.bool C.gb
 |4=>.bool C.gb
 |5=>gv C.gb (.func (.func 83) #[] #[])
 |6=>gv C.gb (C.sl)
 |7=>gv C.gb (.int .i64 (C.k:Int))
 |8=>gv C.gb (.pointer (some ⟨C.b,C.off+C.k*21,none⟩))
 |9=>gv C.gb (.agg C.xc)
 |10=>gv C.gb (.agg C.fc)
 |11=>gv C.gb (.int .i64 C.r)
 |12=>gv C.gb (.bool (C.r==0))
 |13=>.bool (C.gb&&(C.r==0))
 |14=>.int .i64 (C.k:Int)
 |_=>.bool (C.gb&&(C.r==0))
def aI5.gg(C:aI5)(_:Unit)(_:Array Bool)(W:World):Prop:=Below C.W0.heap.size C.W0 W
structure aJw(C:aI5)(t0:Array Value):Prop where
 sz:t0.size=49
 t0':t0[0]?=some (C.sl)
 t2:t0[2]?=some (.func (.func 83) #[] #[])
 t4:t0[4]?=some (.pointer (some ⟨C.g,0,none⟩))
 t8:t0[8]?=some (.int .i64 (C.n:Int))
 t9:t0[9]?=some (.int .i64 (C.k:Int))
 gb:C.gb=decide (C.k<C.n)
 sl:C.gb=true→C.sl=.slice (some ⟨C.b,C.off,none⟩) C.n C.c
 hb:C.gb=true→C.b<C.W0.heap.size
 lt:C.gb=true→C.k<C.n
 xc:C.gb=true→∀j v,C.xc.toList[j]?=some v→C.W0.cell? ⟨C.b,C.off+C.k*21+j,none⟩=some v
 small:C.n≤1000000
 fcs:(Tryz.prog.info? 59).map (·.size)=some C.fc.size
 k4:aP C.W0 C.g C.fc 59
 cmp:∀W,Calls Tryz.prog 83 #[.agg C.xc,.agg C.fc] W fun e w'=>e=.returned (.int .i64 C.r)∧Below W.heap.size W w'
 xcs:C.gb=true→(Tryz.prog.info? 59).map (·.size)=some C.xc.size
section
variable {C:aI5}{t0:Array Value}{Q:Exit→Act→World→Prop}
theorem aJh(M:aJw C t0){a:Act}{w:World}(hdf:a.defers=[])(ht:a.tmps=t0)(hw:w.drewN 1=C.W0)
  (hQ:∀W,Below C.W0.heap.size C.W0 W→Q .normal { tmps:=iZ (C.val ()) aJk t0,defers:=[] } W):(Code.region 8 aJr true).wp Tryz.prog Q a w:=by
 have hsz:aJr.size=16:=by kernel_rfl
 refine eV (ds:=aJk) (val:=C.val) (G:=C.gg) (by kernel_rfl) (by kernel_rfl) (by decide) (fun p hp=>?_) (by kernel_rfl) ?_ (γ:=()) hdf ht (by rw[hw];exact Br _ _) (fun _ _ W _ hg=>hQ W hg)
 ·rw[M.sz];have:∀p,p∈aJk→p.2<49:=by decide
  exact this p hp
 ·intro γ l a w i H hr;cases γ;have hi:i<16:=by
   obtain⟨_,o,ho,_⟩:=mem_ready.1 hr;have:=(Ai.1 ho).1;rw[hsz] at this;exact this
  have t0':=H.low (s:=0) (by decide) M.t0';have t2:=H.low (s:=2) (by decide) M.t2;have t4:=H.low (s:=4) (by decide) M.t4;have t8:=H.low (s:=8) (by decide) M.t8;have t9:=H.low (s:=9) (by decide) M.t9;have hb:Below C.W0.heap.size C.W0 w:=H.g
  match i,hi,hr with
  |0,_,hr =>
   exact aH (X:=.move (.tmp 9)) (v:=.int .i64 (C.k:Int)) (by kernel_rfl) (fun o h=>by simp[execOp,h,t9,go_sem]) rfl hb
  |1,_,hr =>
   exact aH (X:=.move (.tmp 9)) (v:=.int .i64 (C.k:Int)) (by kernel_rfl) (fun o h=>by simp[execOp,h,t9,go_sem]) rfl hb
  |2,_,hr =>
   exact aH (X:=.move (.tmp 8)) (v:=.int .i64 (C.n:Int)) (by kernel_rfl) (fun o h=>by simp[execOp,h,t8,go_sem]) rfl hb
  |3,_,hr =>
   have v1:a.tmps[36]?=some (.int .i64 (C.k:Int)):=H.dep hr 1 36 (by kernel_rfl) ⟨rfl,by decide⟩;have v2:a.tmps[37]?=some (.int .i64 (C.n:Int)):=H.dep hr 2 37 (by kernel_rfl) ⟨rfl,by decide⟩;exact aH (X:=.binOp .lss 3 (.tmp 36) (.tmp 37) 3) (v:=.bool C.gb) (by kernel_rfl) (fun o h=>by rw[M.gb];simp[execOp,h,v1,v2,go_sem]) rfl hb
  |4,_,hr =>
   have v3:a.tmps[38]?=some (.bool C.gb):=H.dep hr 3 38 (by kernel_rfl) ⟨rfl,by decide⟩;exact aH (X:=.move (.tmp 38)) (v:=.bool C.gb) (by kernel_rfl) (fun o h=>by simp[execOp,h,v3,go_sem]) rfl hb
  |5,_,hr =>
   have hv:a.tmps[39]?=some (.bool C.gb):=H.dep hr 4 39 (by kernel_rfl) ⟨rfl,by decide⟩;exact dH (X:=.move (.tmp 2)) (v:=.func (.func 83) #[] #[]) (gb:=C.gb) (by kernel_rfl) (by kernel_rfl) (j:=4) (s:=39) (by kernel_rfl) hv rfl (fun hgb o h=>by simp[execOp,h,t2,go_sem]) hb
  |6,_,hr =>
   have hv:a.tmps[39]?=some (.bool C.gb):=H.dep hr 4 39 (by kernel_rfl) ⟨rfl,by decide⟩;exact dH (X:=.move (.tmp 0)) (v:=C.sl) (gb:=C.gb) (by kernel_rfl) (by kernel_rfl) (j:=4) (s:=39) (by kernel_rfl) hv rfl (fun hgb o h=>by simp[execOp,h,t0',go_sem]) hb
  |7,_,hr =>
   have hv:a.tmps[39]?=some (.bool C.gb):=H.dep hr 4 39 (by kernel_rfl) ⟨rfl,by decide⟩;exact dH (X:=.move (.tmp 9)) (v:=.int .i64 (C.k:Int)) (gb:=C.gb) (by kernel_rfl) (by kernel_rfl) (j:=4) (s:=39) (by kernel_rfl) hv rfl (fun hgb o h=>by simp[execOp,h,t9,go_sem]) hb
  |8,_,hr =>
   have hv:a.tmps[39]?=some (.bool C.gb):=H.dep hr 4 39 (by kernel_rfl) ⟨rfl,by decide⟩;have v6:a.tmps[41]?=some (gv C.gb (C.sl)):=H.dep hr 6 41 (by kernel_rfl) ⟨rfl,by decide⟩;have v7:a.tmps[42]?=some (gv C.gb (.int .i64 (C.k:Int))):=H.dep hr 7 42 (by kernel_rfl) ⟨rfl,by decide⟩;have hsm:=M.small;exact dH (X:=.indexAddr 22 (.tmp 41) (.tmp 42)) (v:=.pointer (some ⟨C.b,C.off+C.k*21,none⟩)) (gb:=C.gb) (by kernel_rfl) (by kernel_rfl) (j:=4) (s:=39) (by kernel_rfl) hv rfl (fun hgb o h=>by unfold gv at v6 v7;rw[hgb,if_pos rfl] at v6 v7;have hlt:=M.lt hgb;rw[M.sl hgb] at v6;simp[execOp,h,v6,v7,go_sem,hlt]) hb
  |9,_,hr =>
   have hv:a.tmps[39]?=some (.bool C.gb):=H.dep hr 4 39 (by kernel_rfl) ⟨rfl,by decide⟩;have v8:a.tmps[43]?=some (gv C.gb (.pointer (some ⟨C.b,C.off+C.k*21,none⟩))):=H.dep hr 8 43 (by kernel_rfl) ⟨rfl,by decide⟩;exact dH (X:=.load 59 (.tmp 43)) (v:=.agg C.xc) (gb:=C.gb) (by kernel_rfl) (by kernel_rfl) (j:=4) (s:=39) (by kernel_rfl) hv rfl (fun hgb o h=>by unfold gv at v8;rw[hgb,if_pos rfl] at v8;exact aW h (oC v8) (fun j v hj=>(hb.cell (p:=⟨C.b,C.off+C.k*21+j,none⟩) (M.hb hgb)).trans (M.xc hgb j v hj)) Tryz.underlying59 rfl (M.xcs hgb)) hb
  |10,_,hr =>
   have hv:a.tmps[39]?=some (.bool C.gb):=H.dep hr 4 39 (by kernel_rfl) ⟨rfl,by decide⟩;exact dH (X:=.load 59 (.tmp 4)) (v:=.agg C.fc) (gb:=C.gb) (by kernel_rfl) (by kernel_rfl) (j:=4) (s:=39) (by kernel_rfl) hv rfl (fun hgb o h=>by exact aW h (oC t4) (gR (M.k4.below hb)) Tryz.underlying59 rfl M.fcs) hb
  |11,_,hr =>
   have hv:a.tmps[39]?=some (.bool C.gb):=H.dep hr 4 39 (by kernel_rfl) ⟨rfl,by decide⟩;have v9:a.tmps[44]?=some (gv C.gb (.agg C.xc)):=H.dep hr 9 44 (by kernel_rfl) ⟨rfl,by decide⟩;have v10:a.tmps[45]?=some (gv C.gb (.agg C.fc)):=H.dep hr 10 45 (by kernel_rfl) ⟨rfl,by decide⟩;have vf:a.tmps[40]?=some (gv C.gb (.func (.func 83) #[] #[])):=H.dep hr 5 40 (by kernel_rfl) ⟨rfl,by decide⟩;refine aIo (f:=83) (lb:=#[]) (c:=.tmp 40) (args:=#[.tmp 44,.tmp 45]) (ts:=#[59,59]) (vs:=#[.agg C.xc,.agg C.fc]) (gb:=C.gb) (by kernel_rfl) (by kernel_rfl) (j:=4) (s:=39) (by kernel_rfl) hv (fun hgb=>oC (by rw[vf];unfold gv;rw[hgb,if_pos rfl])) (enters_of Tryz.func83 (by kernel_rfl) rfl) (fun h=>by simp[aI5.val,gv,h]) (fun _=>hb) (fun hgb=>by unfold gv at v9 v10;rw[hgb,if_pos rfl] at v9 v10;simp[Act.eval,v9,v10]) (fun hgb=>(M.cmp w).mono ?_);rintro e w' ⟨rfl,hb'⟩;exact⟨_,(),rfl,by simp[aI5.val,gv,hgb],fun _ _=>rfl,aA hb hb'⟩
  |12,_,hr =>
   have hv:a.tmps[39]?=some (.bool C.gb):=H.dep hr 4 39 (by kernel_rfl) ⟨rfl,by decide⟩;have v11:a.tmps[46]?=some (gv C.gb (.int .i64 C.r)):=H.dep hr 11 46 (by kernel_rfl) ⟨rfl,by decide⟩;exact dH (X:=.binOp .eql 3 (.tmp 46) (.const (.int .i64 0)) 3) (v:=.bool (C.r==0)) (gb:=C.gb) (by kernel_rfl) (by kernel_rfl) (j:=4) (s:=39) (by kernel_rfl) hv rfl (fun hgb o h=>by unfold gv at v11;rw[hgb,if_pos rfl] at v11;simp[execOp,h,v11,go_sem]) hb
  |13,_,hr =>
   have v4:a.tmps[39]?=some (.bool C.gb):=H.dep hr 4 39 (by kernel_rfl) ⟨rfl,by decide⟩;have v12:a.tmps[47]?=some (gv C.gb (.bool (C.r==0))):=H.dep hr 12 47 (by kernel_rfl) ⟨rfl,by decide⟩;exact aH (X:=.pick (.tmp 39) (.tmp 47) (.const (.bool false))) (v:=.bool (C.gb&&(C.r==0))) (by kernel_rfl) (fun o h=>by cases hgb:C.gb with|true=>(unfold gv at v12;rw[hgb,if_pos rfl] at v12;rw[hgb] at v4;simp[execOp,h,v4,v12,go_sem])|false=>(rw[hgb] at v4;simp[execOp,h,v4,go_sem])) rfl hb
  |14,_,hr =>
   have v0:a.tmps[35]?=some (.int .i64 (C.k:Int)):=H.dep hr 0 35 (by kernel_rfl) ⟨rfl,by decide⟩;exact aH (X:=.assign (.tmp 35)) (v:=.int .i64 (C.k:Int)) (by kernel_rfl) (fun o h=>by simp[execOp,h,v0,go_sem]) rfl hb
  |15,_,hr =>
   have v13:a.tmps[48]?=some (.bool (C.gb&&(C.r==0))):=H.dep hr 13 48 (by kernel_rfl) ⟨rfl,by decide⟩;exact aH (X:=.assign (.tmp 48)) (v:=.bool (C.gb&&(C.r==0))) (by kernel_rfl) (fun o h=>by simp[execOp,h,v13,go_sem]) rfl hb
  |n+16,h,_=>exact absurd h (by omega)
end
theorem aIz(xs:List aF)(a:Option Addr)(c:Nat)(y:aF)(w:World)(hn:xs.length≤1000000)(hr:gJ w a 21 (xs.map aF.cells))(hs:(xs.map aF.f).Pairwise fun a b=>iL a b<0):
  Calls Tryz.prog 82 #[.slice a xs.length c,.agg y.arr,.func (.func 83) #[] #[]] w fun e w'=>(∃(i:Nat) (u:Value),e=.returned (.tuple #[.int .i64 (i:Int),u])∧aIb (xs.map aF.f) y.f i)∧Below w.heap.size w w':=by
 obtain⟨w0,hw0⟩:∃w0,w0=w.alloc (.cells y.arr 59):=⟨_,rfl⟩
 have HA:Hid (Below w.heap.size w w0):=by show Below _ _ _;rw[hw0];exact aB _ _
 have HK:Hid (aP w0 w.heap.size y.arr 59):=by show aP _ _ _ _;rw[hw0];exact aP.new0 w y.arr _
 have HR:=Hd (hr.below HA.out);have HS:=Hd hs;have HCM:Hid (∀x W,Calls Tryz.prog 83 #[.agg (aF.arr x),.agg y.arr] W fun e w'=>e=.returned (.int .i64 (iL x.f y.f))∧Below W.heap.size W w'):=fun x W=>El x.f y.f x.pa x.oa y.pa y.oa x.pc x.oc y.pc y.oc W
 have HINF:Hid (∀x:aF,(Tryz.prog.info? 59).map (·.size)=some x.arr.size):=fun x=>aY x.f x.pa x.oa x.pc x.oc
 have HFS:=Hd (HINF.out y);clear hr hs;obtain⟨yf,hyf⟩:∃yf,yf=y.f:=⟨_,rfl⟩
 rw[←hyf] at HCM ⊢;clear hyf;generalize y.arr=yc at *;go_enter Tryz.func82,Tryz.ntmps82;go_wp2_with fail;rw[←hw0];clear hw0;go_loopw [9,10] (fun iv jv wr=>∃i j:Nat,i≤j∧j≤xs.length∧iv=.int .i64 i∧jv=.int .i64 j∧Hid (∀k g,k<i→(xs.map aF.f)[k]?=some g→iL g yf<0)∧Hid (∀k g,j≤k→(xs.map aF.f)[k]?=some g→0≤iL g yf)∧Hid (Below w0.heap.size w0 wr)) (fun iv jv _=>(intOf jv).toNat-(intOf iv).toNat)
 case atStart=>exact⟨0,xs.length,Nat.zero_le _,Nl _,rfl,rfl,fun k g h=>absurd h (Nat.not_lt_zero k),fun k g h hg=>absurd (Li.1 hg).1 (by rw[List.length_map];omega),Br _ _⟩
 case round =>
  obtain⟨i,j,hij,hj,rfl,rfl,HI,HJ,HB⟩:=hrel
  by_cases hlt:i<j
  ·go_wp2_with fail;have eh:((i:Int)+(j:Int))/2=(((i+j)/2:Nat):Int):=by omega
   rw[eh];have hm1:i≤(i+j)/2:=by omega
   have hm2:(i+j)/2<j:=by omega
   clear eh;generalize(i+j)/2=m at *;obtain⟨x,hx⟩:∃x,xs[m]?=some x:=⟨xs[m]'(by omega),Lg _⟩
   have hxm:(xs.map aF.f)[m]?=some x.f:=by rw[List.getElem?_map,hx];rfl
   have HIC:Hid (iL x.f yf<0→∀k g,k<m+1→(xs.map aF.f)[k]?=some g→iL g yf<0):=fun hc k g hk hg=>by
    rcases Nat.eq_or_lt_of_le (Nat.le_of_lt_succ hk) with e|e
    ·subst e;rw[hxm] at hg;injection hg with hg;subst hg;exact hc
    ·obtain⟨l1,e1⟩:=Li.1 hg;obtain⟨l2,e2⟩:=Li.1 hxm;have h3:=List.pairwise_iff_getElem.1 HS.out k m l1 l2 e;rw[e1,e2] at h3;exact Mb h3 hc
   have HJC:Hid (¬ iL x.f yf<0→∀k g,m≤k→(xs.map aF.f)[k]?=some g→0≤iL g yf):=fun hc k g hk hg=>by
    rcases Nat.eq_or_lt_of_le hk with e|e
    ·subst e;rw[hxm] at hg;injection hg with hg;subst hg;omega
    ·obtain⟨l1,e1⟩:=Li.1 hg;obtain⟨l2,e2⟩:=Li.1 hxm;have h3:=List.pairwise_iff_getElem.1 HS.out m k l2 l1 e;rw[e1,e2] at h3;rcases Int.lt_or_le (iL g yf) 0 with h|h
     ·exact absurd (Mb h3 h) hc
     ·exact h
   obtain⟨b,off,rfl,hb0,hc⟩:=HR.out.addr (k:=m) (cs:=x.cells) (by rw[List.getElem?_map,hx];rfl);have HXC:Hid (∀j v,x.arr.toList[j]?=some v→(wr.drewN 1).cell? ⟨b,off+m*21+j,none⟩=some v):=fun j v hv=>(HB.out.cell (p:=⟨b,off+m*21+j,none⟩) hb0).trans (hc j v hv)
   have HXS:=Hd (HINF.out x);have HCX:=Hd (HCM.out x);clear hxm hx hc;generalize x.arr=xc at *;generalize iL x.f yf=r at *;refine aJi (C:=⟨wr.drewN 1,b,off,xs.length,c,m,w.heap.size,xc,yc,r⟩) ⟨rfl,rfl,rfl,rfl,rfl,by show m<xs.length;omega,HXC.out,hn,Nat.lt_of_lt_of_le hb0 HB.out.size,HXS.out,HFS.out,HK.out.below (aD HB.out 1),HCX.out⟩ rfl rfl rfl ?_;intro w1 hb1;have hb1:=(aD (Br wr.heap.size wr) 1).trans hb1;have HB1:=Hd (aA HB.out hb1);clear hb1 HXC HXS HCX HS HR HINF HCM HFS HK HA;simp only[iZ,aJl,List.foldl,List.setIfInBounds_toArray,List.set_cons_zero,List.set_cons_succ,aJj.val]
   by_cases hc:r<0
   ·have hd:decide (r<0)=true:=by simpa using hc
    have HI2:=Hd (HIC.out hc);rw[hd];clear HI HIC HJC hd;go_wp2;go_roundw
    case rel=>exact⟨m+1,j,by omega,hj,by go_num,rfl,HI2,HJ,HB1⟩
    case measure=>simp[intOf];omega
   ·have hd:decide (r<0)=false:=by simpa using hc
    have HJ2:=Hd (HJC.out hc);rw[hd];clear HJ HIC HJC hd;go_wp2;go_roundw
    case rel=>exact⟨i,m,hm1,by omega,rfl,by go_num,HI,HJ2,HB1⟩
    case measure=>simp[intOf];omega
  ·obtain rfl:i=j:=by omega
   have HP:Hid (aIb (xs.map aF.f) yf i):=⟨by rw[List.length_map];exact hj,HI.out,HJ.out⟩
   have HX:Hid (∃b off xc r,(decide (i<xs.length)=true→a=some ⟨b,off,none⟩∧b<w0.heap.size∧(∀j v,xc.toList[j]?=some v→w0.cell? ⟨b,off+i*21+j,none⟩=some v)∧(Tryz.prog.info? 59).map (·.size)=some xc.size)∧∀W,Calls Tryz.prog 83 #[.agg xc,.agg yc] W fun e w'=>e=.returned (.int .i64 r)∧Below W.heap.size W w'):=by
    by_cases hl:i<xs.length
    ·obtain⟨x,hx⟩:∃x,xs[i]?=some x:=⟨xs[i],Lg hl⟩
     obtain⟨b,off,ha,hb0,hc⟩:=HR.out.addr (k:=i) (cs:=x.cells) (by rw[List.getElem?_map,hx];rfl);exact⟨b,off,x.arr,iL x.f yf,fun _=>⟨ha,hb0,hc,HINF.out x⟩,HCM.out x⟩
    ·exact⟨0,0,_,_,fun h=>absurd (of_decide_eq_true h) hl,HCM.out y⟩
   obtain⟨b,off,xc,r,hx1,hx2⟩:=HX.out;have HX1:=Hd hx1;have HX2:=Hd hx2;clear HX hx1 hx2 HI HJ HS HR HINF HCM;obtain⟨gb,hgb⟩:∃gb,gb=decide (i<xs.length):=⟨_,rfl⟩
   rw[←hgb] at HX1;go_wp2_with fail;refine aJh (C:=⟨wr.drewN 1,b,off,xs.length,c,i,w.heap.size,xc,yc,r,gb,.slice a xs.length c⟩) ⟨rfl,rfl,rfl,rfl,rfl,rfl,hgb,fun h=>by rw[(HX1.out h).1],fun h=>Nat.lt_of_lt_of_le (HX1.out h).2.1 HB.out.size,fun h=>of_decide_eq_true (hgb.symm.trans h),fun h j v hv=>(HB.out.cell (p:=⟨b,off+i*21+j,none⟩) (HX1.out h).2.1).trans ((HX1.out h).2.2.1 j v hv),hn,HFS.out,HK.out.below (aD HB.out 1),HX2.out,fun h=>(HX1.out h).2.2.2⟩ rfl rfl rfl ?_;intro w1 hb1;have hb1:=(aD (Br wr.heap.size wr) 1).trans hb1;have HB1:=Hd (aA HA.out (aA HB.out hb1));clear hb1 HX1 HX2 HK HFS hgb;simp only[iZ,aJk,List.foldl,List.setIfInBounds_toArray,List.set_cons_zero,List.set_cons_succ,aI5.val];generalize(gb&&(r==0))=u at *;go_wp2;go_ret2;exact⟨⟨i,⟨_,rfl⟩,HP.out⟩,HB1.out⟩
end
section
open Go Go.RowKit Num
theorem gJ.flatCellsF{w:World}{a:Option Addr}{xs:List aF}(h:gJ w a 21 (xs.map aF.cells))(hne:xs ≠ []):∃b off,a=some ⟨b,off,none⟩∧b<w.heap.size∧∀j u,(pX xs)[j]?=some u→w.cell? ⟨b,off+j,none⟩=some u :=
 h.flatCells Fa (by simpa using hne)
theorem aHu(xs:List aF)(a:Option Addr)(c:Nat)(w:World)(hn:xs.length≤1000)(hz:gJ w a 21 (xs.map aF.cells)):
  Calls Tryz.prog 80 #[.slice a xs.length c] w fun e w'=>∃v,e=.returned v∧w'.ownsRow w.heap.size 59 21 v xs.length (pX xs)∧Below w.heap.size w w':=by
 obtain⟨i0,hi,hz0,hz1,hz2⟩:=info_parts Ul;have q22:∀(w:World) (a:Option Addr) (n c n' c':Nat),(binOp .eql 22 (.slice a n c) (.slice none n' c')).run Tryz.prog w=.ok (.bool a.isNone) w:=fun w a n c n' c'=>Lib.run_eql_slice_nil w _ _ a n c n' c' Tryz.underlying22
 have HZ:=Hd hz;clear hz;cases a with
 |none =>
  have h0:xs=[]:=by
   rcases HZ.out with h|⟨b,off,h,_⟩
   ·simpa using h
   ·cases h
  subst h0;go_enter Tryz.func80,Tryz.ntmps80;go_wp2;go_ret;exact⟨_,rfl,World.ownsRow_nil _ _ _ _,Br _ _⟩
 |some ad =>
  by_cases hne:xs=[]
  ·subst hne;go_enter Tryz.func80,Tryz.ntmps80;go_wp2_with (at_builtin;refine aHf _ rfl _ _ 22 rfl 59 i0 Tryz.underlying22 hi w.heap.size 21 _ _ _ rfl (World.ownsRow_made w #[] 0 (Nl _) (Nat.zero_le _) rfl) (some ad) c rfl ?_);go_wp2;go_ret;exact⟨_,rfl,World.ownsRow_made w #[] 0 (Nl _) (Nat.zero_le _) rfl,aB _ _⟩
  ·obtain⟨bs,os,ha,hlt,hcc⟩:=HZ.out.flatCellsF hne;injection ha with ha
   subst ha;have HC:=Hd hcc;have HL:=Hd (aHa xs);clear hcc hne HZ;go_enter Tryz.func80,Tryz.ntmps80;go_wp2_with (at_builtin;refine wpList_append_own_at _ rfl _ _ 22 rfl w.heap.size 59 i0 aAh 21 312 Tryz.underlying22 hi hz0 hz1 hz2 rfl (by decide) _ _ _ rfl (World.ownsRow_made w #[] 0 (Nl _) (Nat.zero_le _) rfl) ⟨bs,os,none⟩ xs.length c (pX xs) rfl HL.out ?c1 (fun u hu=>aHc u hu) ?c3 ?c4 ?c5 ?_)
   case c1 =>
    intro j u hj;rw[Addr.add_lit];exact Lib.cell?_alloc_some _ (HC.out j u hj)
   case c3=>unfold maxLen;omega
   case c4=>omega
   case c5=>simp
   intro v' w3 hown' hgrow _ _;have HO:=Hd hown';have HB:Hid (Below w.heap.size w w3):=(((Br _ w).alloc (Nl _) _).grown hgrow (by simp) (by intro k hk;simp[Value.ownBlock] at hk;omega))
   clear hown' hgrow;go_wp2;go_ret;exact⟨v',rfl,by simpa using HO.out,HB.out⟩
end
section
open Go Go.RowKit Num
def aF.at0(y:aF):aF:={ y with f:=aIf y.f }
def aH9(xs:List aF)(y:aF):List aF:=xs.filter fun x=>!(x.f.key==y.f.key)
theorem aIg(xs:List aF)(y:aF):(aH9 xs y).map aF.f=aIi aE.key (xs.map aF.f) y.f.key:=by
 unfold aH9 aIi;rw[List.filter_map];rfl
theorem aIx(y:aF)(bk:Nat)(w:World)(hB:aP w bk y.arr 59):
  Calls Tryz.prog 79 #[.slice none 0 0,.func (.func 81) #[] #[.pointer (some ⟨bk,0,none⟩)]] w fun e w'=>e=.returned (.slice none 0 0)∧Below w.heap.size w w':=by
 have HI:Hid (Calls Tryz.prog 72 #[.slice none 0 0,.func (.func 81) #[] #[.pointer (some ⟨bk,0,none⟩)]] w fun e w'=>e=.returned (.int .i64 (-1))∧Below w.heap.size w w'):=aHm [] none 0 y bk w (Nat.zero_le _) (.inl rfl) hB;clear hB;go_enter Tryz.func79,Tryz.ntmps79;go_wp2_with fail;refine HI.out.mono ?_;rintro e w1 ⟨rfl,hb⟩;have HB1:=Hd hb;clear hb HI;go_wp2;go_ret;exact⟨rfl,HB1.out⟩
theorem aIw(xs:List aF)(v:Value)(y:aF)(bk base:Nat)(w:World)(hbk:bk<base)(hbase:base≤w.heap.size)(hn:xs.length≤1000000)(hown:w.ownsRow base 59 21 v xs.length (pX xs))(hB:aP w bk y.arr 59):
  Calls Tryz.prog 79 #[v,.func (.func 81) #[] #[.pointer (some ⟨bk,0,none⟩)]] w fun e w' =>
   (∃v',e=.returned v'∧w'.ownsRow base 59 21 v' (aH9 xs y).length (pX (aH9 xs y)))∧Below base w w':=by
 rcases aIa.of_owns hown with⟨rfl,rfl⟩|⟨g,cap,f,rfl,hg,hm,hr⟩
 ·refine(aIx y bk w hB).mono ?_;rintro e w' ⟨rfl,hb⟩;exact⟨⟨_,rfl,World.ownsRow_nil _ _ _ _⟩,hb.mono hbase⟩
 ·refine(aHt xs g 0 cap rfl f y bk base w hg hbk hn (by unfold maxLen at hm;omega) hr hB).mono ?_;rintro e w' ⟨⟨rfl,f',h⟩,hb⟩;exact⟨⟨_,rfl,h.owns hg hm⟩,hb⟩
theorem aIj{w:World}{base:Nat}{v:Value}{xs:List aF}(h:w.ownsRow base 59 21 v xs.length (pX xs)):∃a c,v=.slice a xs.length c∧gJ w a 21 (xs.map aF.cells):=by
 obtain⟨a,c,rfl,hr⟩:=gK h;exact⟨a,c,rfl,oY (by decide) Fa hr⟩
theorem aJt{w w':World}{base B n:Nat}{T:TypeId}{k:Nat}{v:Value}{l:List Value}(h:w.ownsRow base T k v n l)(hb:Below B w w')(hv:∀k,v.ownBlock=some k→k<B):w'.ownsRow base T k v n l:=by
 obtain⟨h1,h2|⟨g,cap,cur,e,hg,hh,r⟩⟩:=h
 ·exact⟨h1,.inl h2⟩
 ·exact⟨h1,.inr ⟨g,cap,cur,e,hg,(hb.block g (hv g (by rw[e];rfl))).trans hh,r⟩⟩
theorem aJo{w:World}{base B n:Nat}{T:TypeId}{k:Nat}{v:Value}{l:List Value}(h:w.ownsRow B T k v n l)(hb:base≤B):w.ownsRow base T k v n l:=by
 obtain⟨h1,h2|⟨g,cap,cur,e,hg,r⟩⟩:=h
 ·exact⟨h1,.inl h2⟩
 ·exact⟨h1,.inr ⟨g,cap,cur,e,Nat.le_trans hb hg,r⟩⟩
theorem aJp(xs:List aF)(a:Option Addr)(c:Nat)(y:aF)(w:World)(hE:iE w)(hv:gT w a c xs)(hvc:dF (xs.map aF.f)=0)(hl:xs.length<1000)(hy:y.ok)(hb:y.f.Behind w y.pa y.oa)(hfc:bY y.f=0)(hca:y.f.cancelled=false):
  Calls Tryz.prog 45 #[.slice a xs.length c,.agg y.arr] w fun e w'=>(∃i v,aIb ((aH9 xs y).map aF.f) y.f i∧e=.returned (.tuple #[v,.int .i64 0])∧w'.ownsRow w.heap.size 59 21 v (aH8 (aH9 xs y) i y.at0).length (pX (aH8 (aH9 xs y) i y.at0)))∧Below w.heap.size w w':=by
 obtain⟨w0,hw0⟩:∃w0,w0=w.alloc (.cells y.arr 59):=⟨_,rfl⟩
 have HA:Hid (Below w.heap.size w w0):=by show Below _ _ _;rw[hw0];exact aB _ _
 have HSA:Hid (w.heap.size<w0.heap.size):=by show _<_;rw[hw0,World.size_alloc];omega
 have HK:Hid (aP w0 w.heap.size y.arr 59):=by show aP _ _ _ _;rw[hw0];exact aP.new0 w y.arr _
 have HVC:Hid (Calls Tryz.prog 46 #[.slice a xs.length c] w0 fun e w'=>e=.returned (.int .i64 0)∧Below w0.heap.size w0 w'):=by
  have h:=lC xs a c w0 (hE.below HA.out) hv.len (hv.facts.below HA.out) hv.ok;rw[hvc] at h;exact h
 have HFC:Hid (∀W,Below w.heap.size w W→Calls Tryz.prog 78 #[.agg y.arr] W fun e w'=>e=.returned (.int .i64 0)∧Below W.heap.size W w'):=fun W hW=>by
  have h:=rT y.f y.pa y.oa y.pc y.oc W (hE.below hW) hy.small hy.cap (hb.below hW);rw[hfc] at h;exact h
 have HCL:Hid (∀W,Below w.heap.size w W→Calls Tryz.prog 80 #[.slice a xs.length c] W fun e w'=>∃v,e=.returned v∧w'.ownsRow W.heap.size 59 21 v xs.length (pX xs)∧Below W.heap.size W w'):=fun W hW=>aHu xs a c W (by omega) (hv.facts.below hW).1
 have HSZ:Hid ((Tryz.prog.info? 59).map (·.size)=some y.arr.size):=aY y.f y.pa y.oa y.pc y.oc;have HCA:Hid (y.arr[2]?=some (.bool false)):=by show _=_;rw[←hca];rfl
 have HS21:Hid (y.arr.size=21):=rfl;have HA0:Hid (y.at0.arr=y.arr.setIfInBounds 1 (.int .i64 0)):=rfl;have HSZ0:Hid ((Tryz.prog.info? 59).map (·.size)=some y.at0.arr.size):=aY y.at0.f y.pa y.oa y.pc y.oc;have hl2:(aH9 xs y).length≤xs.length:=List.length_filter_le _ _;have HSORT:Hid (((aH9 xs y).map aF.f).Pairwise fun a b=>iL a b<0):=by
  show List.Pairwise _ _;rw[aIg];exact(oW.1 hvc).2.2.2.sublist (aIm _ _ _)
 have HDEL:Hid (∀v W base,w.heap.size<base→base≤W.heap.size→W.ownsRow base 59 21 v xs.length (pX xs)→aP W w.heap.size y.arr 59→Calls Tryz.prog 79 #[v,.func (.func 81) #[] #[.pointer (some ⟨w.heap.size,0,none⟩)]] W fun e w' =>
   (∃v',e=.returned v'∧w'.ownsRow base 59 21 v' (aH9 xs y).length (pX (aH9 xs y)))∧Below base W w'):=fun v W base h1 h2 h3 h4=>aIw xs v y w.heap.size base W h1 h2 (by omega) h3 h4
 have HBS:Hid (∀a2 c2 W,gJ W a2 21 ((aH9 xs y).map aF.cells)→Calls Tryz.prog 82 #[.slice a2 (aH9 xs y).length c2,.agg y.at0.arr,.func (.func 83) #[] #[]] W fun e w'=>(∃(i:Nat) (u:Value),e=.returned (.tuple #[.int .i64 (i:Int),u])∧aIb ((aH9 xs y).map aF.f) y.at0.f i)∧Below W.heap.size W w'):=fun a2 c2 W h=>aIz (aH9 xs y) a2 c2 y.at0 W (by omega) h HSORT.out
 have HINS:Hid (∀v i vb base W,i≤(aH9 xs y).length→W.ownsRow base 59 21 v (aH9 xs y).length (pX (aH9 xs y))→base≤W.heap.size→aP W vb y.at0.arr 59→v.ownBlock≠some vb→Calls Tryz.prog 84 #[v,.int .i64 (i:Int),.slice (some ⟨vb,0,none⟩) 1 1] W fun e w'=>(∃v',e=.returned v'∧w'.ownsRow base 59 21 v' (aH8 (aH9 xs y) i y.at0).length (pX (aH8 (aH9 xs y) i y.at0)))∧Below base W w'):=fun v i vb base W h1 h2 h3 h4 h5=>aHs (aH9 xs y) v y.at0 i vb base W (by omega) h1 h2 h3 h4 h5
 have HRUN:Hid (∀W,(Instr.buildSlice 22 1 #[(0,.agg y.at0.arr)]).run Tryz.prog W=.ok (.slice (some ⟨W.heap.size,0,none⟩) 1 1) (W.alloc (.cells y.at0.arr 59))):=fun W=>tF y.at0.arr rfl W
 have HPL:Hid (∀i,aIb ((aH9 xs y).map aF.f) y.at0.f i→i≤(aH9 xs y).length∧aIb ((aH9 xs y).map aF.f) y.f i):=fun i h=>⟨by have:=h.le;rwa [List.length_map] at this,⟨h.le,h.lo,h.hi⟩⟩
 clear hE hv hvc hy hb hfc hca HSORT;generalize aH9 xs y=ys at *;generalize y.arr=yc at *;generalize y.at0.arr=y0 at *;generalize xs.length=n at *;go_enter Tryz.func45,Tryz.ntmps45;go_wp2_with fail;rw[←hw0];clear hw0;refine HVC.out.mono ?_;rintro e w1 ⟨rfl,hb⟩;have HK1:=Hd (HK.out.below hb);have HB1:=Hd (aA HA.out hb);have HS1:Hid (w.heap.size<w1.heap.size):=Nat.lt_of_lt_of_le HSA.out hb.size;clear hb HVC HK HA HSA;go_wp2_with (refine wpList_load_row rfl 59 _ rfl w.heap.size rfl 59 yc (0,0) _ HK1.out.2 Tryz.underlying59 rfl HSZ.out ?_);refine(HFC.out _ HB1.out).mono ?_;rintro e w2 ⟨rfl,hb⟩;have HK2:=Hd (HK1.out.below hb);have HB2:=Hd (aA HB1.out hb);have HS2:Hid (w.heap.size<w2.heap.size):=Nat.lt_of_lt_of_le HS1.out hb.size;clear hb HFC HK1 HB1 HS1;go_wp2_with fail;refine(HCL.out _ HB2.out).mono ?_;rintro e w3 ⟨v3,rfl,ho,hb⟩;have HK3:=Hd (HK2.out.below hb);have HB3:=Hd (aA HB2.out hb);have HO3:=Hd ho;have HS3:Hid (w2.heap.size≤w3.heap.size):=hb.size;clear hb ho HCL HK2 HB2;go_wp2_with fail;refine(HDEL.out v3 w3 w2.heap.size HS2.out HS3.out HO3.out HK3.out).mono ?_;rintro e w4 ⟨⟨v4,rfl,ho⟩,hb⟩;obtain⟨a4,c4,rfl,hr4⟩:=aIj ho;have HK4:=Hd (HK3.out.over hb HS2.out);have HB4:=Hd (HB3.out.trans (hb.mono (Nat.le_of_lt HS2.out)));have c1:w4.cell? ⟨w.heap.size,1,none⟩=some (yc[1]?.getD default):=by
  rw[HK4.out.cell 1,Array.getElem?_eq_getElem (by rw[HS21.out];decide)];rfl
 have c2:=(HK4.out.cell 2).trans HCA.out;have f1:w4.frozen? ⟨w.heap.size,1,none⟩=false:=aR HK4.out.2 1;have HK5:Hid (aP (w4.setCell ⟨w.heap.size,1,none⟩ (.int .i64 0)) w.heap.size y0 59):=by
  show aP _ _ _ _;rw[HA0.out];refine⟨by rw[World.size_setCell];exact HK4.out.1,?_⟩;simp[World.setCell,Array.getElem?_modify,HK4.out.2]
 have HB5:Hid (Below w.heap.size w (w4.setCell ⟨w.heap.size,1,none⟩ (.int .i64 0))):=HB4.out.setCell (Nl _) _;have hne:∀k,(Value.slice a4 ys.length c4).ownBlock=some k→w2.heap.size≤k∧k<w4.heap.size:=fun k hk=>ho.lt k hk
 have HO5:Hid ((w4.setCell ⟨w.heap.size,1,none⟩ (.int .i64 0)).ownsRow w2.heap.size 59 21 (.slice a4 ys.length c4) ys.length (pX ys)):=by
  show World.ownsRow _ _ _ _ _ _ _;obtain⟨h1,h2|⟨g,cap,cur,e,hg,hh,r⟩⟩:=ho
  ·exact⟨h1,.inl h2⟩
  ·exact⟨h1,.inr ⟨g,cap,cur,e,hg,by rw[Deep.blk_setCell_other _ _ _ _ (show g≠w.heap.size by have:=HS2.out;omega)];exact hh,r⟩⟩
 have HS5:Hid (w2.heap.size≤(w4.setCell ⟨w.heap.size,1,none⟩ (.int .i64 0)).heap.size):=by
  show _≤_;rw[World.size_setCell];exact Nat.le_trans HS3.out hb.size
 obtain⟨_,_,e5,hr5⟩:=aIj HO5.out;injection e5 with e5 _ e6
 subst e5;subst e6;have HR5:=Hd hr5;clear hb ho HDEL HK3 HB3 HO3 HS3 hr4 hr5 hne HK4 HB4 HA0 HCA HS21;go_wp2_with (refine wpList_load_row rfl 59 _ rfl w.heap.size rfl 59 y0 (0,0) _ HK5.out.2 Tryz.underlying59 rfl HSZ0.out ?_;simp only[pS]);refine(HBS.out a4 c4 _ HR5.out).mono ?_;rintro e w6 ⟨⟨i,u,rfl,hp⟩,hb⟩;obtain⟨hi,hpl⟩:=HPL.out i hp;have HK6:=Hd (HK5.out.below hb);have HB6:=Hd (aA HB5.out hb);have HO6:=Hd (aJt HO5.out hb (fun k hk=>(HO5.out.lt k hk).2));have HS6:Hid (w2.heap.size≤w6.heap.size):=Nat.le_trans HS5.out hb.size;have HPP:=Hd hpl;have HV:=Hd (fun k (hk:(Value.slice a4 ys.length c4).ownBlock=some k)=>(HO6.out.lt k hk).2);clear hb hp hpl HBS HR5 HK5 HB5 HO5 HS5 c1 c2 f1 HPL;have HK7:=Hd (aP.new0 w6 y0 59);have HA7:=Hd (aB w6 (.cells y0 59));have HO7:=Hd (aJt HO6.out HA7.out HV.out);have HS7:Hid (w2.heap.size≤(w6.alloc (.cells y0 59)).heap.size):=Nat.le_trans HS6.out HA7.out.size;have HNV:Hid ((Value.slice a4 ys.length c4).ownBlock≠some w6.heap.size):=fun h=>Nat.lt_irrefl _ (HV.out _ h)
 have HRUN6:=Hd (HRUN.out w6);clear HRUN HV HO6 HS6;go_wp2_with (first|(refine wpList_load_row rfl 59 _ rfl w.heap.size rfl 59 y0 (0,0) _ HK6.out.2 Tryz.underlying59 rfl HSZ0.out ?_;simp only[pS])|(refine lA rfl 22 1 _ rfl #[(0,.agg y0)] _ (by simp[Act.eval]) HRUN6.out ?_;simp only[pS]));refine(HINS.out _ i w6.heap.size w2.heap.size _ hi HO7.out HS7.out HK7.out HNV.out).mono ?_;rintro e w8 ⟨⟨v8,rfl,ho⟩,hb⟩;obtain⟨a8,c8,rfl,_⟩:=aIj ho;have hlen:=aId ys i y.at0;have HB8:Hid (Below w.heap.size w w8):=(aA HB6.out HA7.out).trans (hb.mono (Nat.le_of_lt HS2.out));have HO8:Hid (w8.ownsRow w.heap.size 59 21 (.slice a8 (aH8 ys i y.at0).length c8) (aH8 ys i y.at0).length (pX (aH8 ys i y.at0))):=aJo ho (Nat.le_of_lt HS2.out);clear hb ho HINS HK6 HK7 HB6 HA7 HO7 HS7 HNV HRUN6;have h1000:¬ (1000:Int)<((aH8 ys i y.at0).length:Int):=by omega
 clear hlen;go_wp2;go_ret2;exact⟨⟨i,.slice a8 (aH8 ys i y.at0).length c8,HPP.out,rfl,HO8.out⟩,HB8.out⟩
end
section
open Go Go.RowKit Num
theorem aJu{y:aF}(h:y.ok):y.at0.ok :=
 ⟨⟨h.small.key,h.small.ins,h.small.other,h.small.cur,h.small.target,h.small.q,h.small.amt,h.small.fee,h.small.price,h.small.ratio,h.small.share,h.small.picks,h.small.pick,h.small.options,h.small.option⟩,h.cap⟩
theorem aI8{xs:List aF}{y x:aF}(h:x∈aH9 xs y):x∈xs:=(List.mem_filter.1 h).1
theorem aI9{xs:List aF}{y:aF}{g:aE}(h:g∈(aH9 xs y).map aF.f):g.key≠y.f.key:=by
 rw[aIg] at h;exact aI7 h
theorem aI0{xs:List aF}{y:aF}(h:dF (xs.map aF.f)=0):dF ((aH9 xs y).map aF.f)=0:=by
 rw[aIg];exact Jp h (aIm _ _ _)
theorem aJn{xs:List aF}{y:aF}(h:lT (xs.map aF.f) y.f.key=none):(aH9 xs y).map aF.f=xs.map aF.f:=by
 rw[aIg];refine aI3 fun g hg=>?_
 unfold lT at h;rw[List.findIdx?_eq_none_iff] at h;have:=h g hg;simpa using this
theorem aIs(xs:List aF)(a:Option Addr)(c:Nat)(y:aF)(w:World)(hE:iE w)(hv:gT w a c xs)(hvc:dF (xs.map aF.f)=0)(hl:xs.length<1000)(hy:y.ok)(hb:y.f.Behind w y.pa y.oa)(hfc:bY y.f=0)(hca:y.f.cancelled=false):
  Calls Tryz.prog 45 #[.slice a xs.length c,.agg y.arr] w fun e w'=>(∃(i:Nat) (zs:List aF) (a':Option Addr) (c':Nat),aIb ((aH9 xs y).map aF.f) y.f i∧zs.map aF.f=aH8 ((aH9 xs y).map aF.f) i (aIf y.f)∧e=.returned (.tuple #[.slice a' zs.length c',.int .i64 0])∧gT w' a' c' zs∧dF (zs.map aF.f)=0)∧Below w.heap.size w w':=by
 refine(aJp xs a c y w hE hv hvc hl hy hb hfc hca).mono ?_;rintro e w' ⟨⟨i,v,hp,rfl,ho⟩,hw⟩;have hlen:(aH9 xs y).length≤xs.length:=List.length_filter_le _ _;obtain⟨a',c',rfl,hf,_⟩:=Ad ho (fun x hx=>by
  rcases aIk.1 hx with rfl|hx
  ·exact hb.below hw
  ·exact(hv.facts.2 x (aI8 hx)).below hw)
 refine⟨⟨i,aH8 (aH9 xs y) i y.at0,a',c',hp,aIl _ _ _ _,rfl,⟨hf,fun x hx=>?_,by rw[aId];omega⟩,?_⟩,hw⟩
 ·rcases aIk.1 hx with rfl|hx
  ·exact aJu hy
  ·exact hv.ok x (aI8 hx)
 ·rw[aIl];exact aJc (aI0 hvc) hfc hca (by rw[List.length_map];omega) (fun g hg=>aI9 hg) hp
end
end Go.Proofs.YtejkibnaidiklaaGreatDoor
