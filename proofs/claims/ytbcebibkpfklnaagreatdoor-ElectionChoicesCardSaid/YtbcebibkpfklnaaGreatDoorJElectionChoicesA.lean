/- SameEq ElectionChoicesReg ElectionChoicesLaw -/
import Derived.Test.YtbcebibkpfklnaaGreatDoorJMem
import Derived.Test.YtbcebibkpfklnaaGreatDoorJElectionResolvesA
import Derived.Test.YtbcebibkpfklnaaGreatDoorJSameG
import Derived.Test.YtbcebibkpfklnaaGreatDoorJRViewA
set_option maxHeartbeats 16000000
set_option maxRecDepth 100000
namespace Go.Proofs.YtbcebibkpfklnaaGreatDoor
section
open Go Go.RowKit Num
theorem Vb(o:bJ)(W:World)(x y:Operand):(eqGuard .neq 70 x y (.agg o.cells.toArray) (.agg o.cells.toArray)).run Tryz.prog W=.ok () W:=by
 unfold bJ.cells;simp[go_sem,eqGuard]
theorem Ua(o:bJ)(W:World):(binOp .neq 70 (.agg o.cells.toArray) (.agg o.cells.toArray)).run Tryz.prog W=.ok (.bool false) W:=by
 unfold bJ.cells;simp[go_sem]
theorem Ls(o:eJ)(W:World)(x y:Operand):(eqGuard .neq 42 x y (.agg o.cells.toArray) (.agg o.cells.toArray)).run Tryz.prog W=.ok () W:=by
 unfold eJ.cells;simp[go_sem,eqGuard]
theorem Tt(o:bJ):(Tryz.prog.info? 70).map (·.size)=some o.cells.toArray.size:=by
 have h:(Tryz.prog.info? 70).map (·.size)=some 2:=by kernel_rfl
 rw[h];rfl
noncomputable def Sq:Array Oper:=(Tryz.f42.body.bind (jE 6)).getD #[]
def Nt:List (Nat×Nat):=[(0,16),(1,17),(2,18),(3,19),(4,20),(5,21),(6,22),(7,23),(8,24)]
structure Mk where
 W0:World
 b:Nat
 off:Nat
 b2:Nat
 off2:Nat
 n:Nat
 c:Nat
 c2:Nat
 k:Nat
 opt:Array Value
def Mk.val(C:Mk)(_:Unit):Nat→Value
 |0=>.slice (some ⟨C.b,C.off,none⟩) C.n C.c
 |1=>.int .i64 (C.k:Int)
 |2=>.pointer (some ⟨C.b,C.off+C.k*2,none⟩)
 |3=>.agg C.opt
 |4=>.slice (some ⟨C.b2,C.off2,none⟩) C.n C.c2
 |5=>.int .i64 (C.k:Int)
 |6=>.pointer (some ⟨C.b2,C.off2+C.k*2,none⟩)
 |7=>.agg C.opt
 |_=>.bool false
def Mk.gg(C:Mk)(_:Unit)(_:Array Bool)(W:World):Prop:=Below C.W0.heap.size C.W0 W
structure aE5(C:Mk)(t0:Array Value):Prop where
 sz:t0.size=26
 t0':t0[0]?=some (.slice (some ⟨C.b,C.off,none⟩) C.n C.c)
 t1':t0[1]?=some (.slice (some ⟨C.b2,C.off2,none⟩) C.n C.c2)
 t5:t0[5]?=some (.int .i64 (C.k:Int))
 lt:C.k<C.n
 small:C.n≤1000000
 hb:C.b<C.W0.heap.size
 hb2:C.b2<C.W0.heap.size
 lo:∀j v,C.opt.toList[j]?=some v→C.W0.cell? ⟨C.b,C.off+C.k*2+j,none⟩=some v
 lo2:∀j v,C.opt.toList[j]?=some v→C.W0.cell? ⟨C.b2,C.off2+C.k*2+j,none⟩=some v
 osz:(Tryz.prog.info? 70).map (·.size)=some C.opt.size
 grd:∀W,(eqGuard .neq 70 (.tmp 19) (.tmp 23) (.agg C.opt) (.agg C.opt)).run Tryz.prog W=.ok () W
 neq:∀W,(binOp .neq 70 (.agg C.opt) (.agg C.opt)).run Tryz.prog W=.ok (.bool false) W
section
variable {C:Mk}{t0:Array Value}{Q:Exit→Act→World→Prop}
theorem Jw(M:aE5 C t0){a:Act}{w:World}(hdf:a.defers=[])(ht:a.tmps=t0)(hw:w.drewN 1=C.W0)
  (hQ:∀W,Below C.W0.heap.size C.W0 W→Q .normal { tmps:=iZ (C.val ()) Nt t0,defers:=[] } W):(Code.region 6 Sq true).wp Tryz.prog Q a w:=by
 have hsz:Sq.size=9:=by kernel_rfl
 refine eV (ds:=Nt) (val:=C.val) (G:=C.gg) (by kernel_rfl) (by kernel_rfl) (by decide) (fun p hp=>?_) (by kernel_rfl) ?_ (γ:=()) hdf ht (by rw[hw];exact Br _ _) (fun _ _ W _ hg=>hQ W hg)
 ·rw[M.sz];have:∀p,p∈Nt→p.2<26:=by decide
  exact this p hp
 ·intro γ l a w i H hr;cases γ;have hi:i<9:=by
   obtain⟨_,o,ho,_⟩:=mem_ready.1 hr;have:=(Ai.1 ho).1;rw[hsz] at this;exact this
  have t0':=H.low (s:=0) (by decide) M.t0';have t1':=H.low (s:=1) (by decide) M.t1';have t5:=H.low (s:=5) (by decide) M.t5;have hb:Below C.W0.heap.size C.W0 w:=H.g
  match i,hi,hr with
  |0,_,hr =>
   exact aH (X:=.move (.tmp 0)) (v:=.slice (some ⟨C.b,C.off,none⟩) C.n C.c) (by kernel_rfl) (fun o h=>by simp[execOp,h,t0',go_sem]) rfl hb
  |1,_,hr =>
   exact aH (X:=.move (.tmp 5)) (v:=.int .i64 (C.k:Int)) (by kernel_rfl) (fun o h=>by simp[execOp,h,t5,go_sem]) rfl hb
  |2,_,hr =>
   have v0:a.tmps[16]?=some (.slice (some ⟨C.b,C.off,none⟩) C.n C.c):=H.dep hr 0 16 (by kernel_rfl) ⟨rfl,by decide⟩;have v1:a.tmps[17]?=some (.int .i64 (C.k:Int)):=H.dep hr 1 17 (by kernel_rfl) ⟨rfl,by decide⟩;have hlt:=M.lt;have hsm:=M.small;exact aH (X:=.indexAddr 27 (.tmp 16) (.tmp 17)) (v:=.pointer (some ⟨C.b,C.off+C.k*2,none⟩)) (by kernel_rfl) (fun o h=>by simp[execOp,h,v0,v1,hlt,go_sem]) rfl hb
  |3,_,hr =>
   have v2:a.tmps[18]?=some (.pointer (some ⟨C.b,C.off+C.k*2,none⟩)):=H.dep hr 2 18 (by kernel_rfl) ⟨rfl,by decide⟩;exact aH (X:=.load 70 (.tmp 18)) (v:=.agg C.opt) (by kernel_rfl) (fun o h=>by exact aW h (oC v2) (fun j v hj=>(hb.cell (p:=⟨C.b,C.off+C.k*2+j,none⟩) M.hb).trans (M.lo j v hj)) Tryz.underlying70 rfl M.osz) rfl hb
  |4,_,hr =>
   exact aH (X:=.move (.tmp 1)) (v:=.slice (some ⟨C.b2,C.off2,none⟩) C.n C.c2) (by kernel_rfl) (fun o h=>by simp[execOp,h,t1',go_sem]) rfl hb
  |5,_,hr =>
   exact aH (X:=.move (.tmp 5)) (v:=.int .i64 (C.k:Int)) (by kernel_rfl) (fun o h=>by simp[execOp,h,t5,go_sem]) rfl hb
  |6,_,hr =>
   have v4:a.tmps[20]?=some (.slice (some ⟨C.b2,C.off2,none⟩) C.n C.c2):=H.dep hr 4 20 (by kernel_rfl) ⟨rfl,by decide⟩;have v5:a.tmps[21]?=some (.int .i64 (C.k:Int)):=H.dep hr 5 21 (by kernel_rfl) ⟨rfl,by decide⟩;have hlt:=M.lt;have hsm:=M.small;exact aH (X:=.indexAddr 27 (.tmp 20) (.tmp 21)) (v:=.pointer (some ⟨C.b2,C.off2+C.k*2,none⟩)) (by kernel_rfl) (fun o h=>by simp[execOp,h,v4,v5,hlt,go_sem]) rfl hb
  |7,_,hr =>
   have v6:a.tmps[22]?=some (.pointer (some ⟨C.b2,C.off2+C.k*2,none⟩)):=H.dep hr 6 22 (by kernel_rfl) ⟨rfl,by decide⟩;exact aH (X:=.load 70 (.tmp 22)) (v:=.agg C.opt) (by kernel_rfl) (fun o h=>by exact aW h (oC v6) (fun j v hj=>(hb.cell (p:=⟨C.b2,C.off2+C.k*2+j,none⟩) M.hb2).trans (M.lo2 j v hj)) Tryz.underlying70 rfl M.osz) rfl hb
  |8,_,hr =>
   have v3:a.tmps[19]?=some (.agg C.opt):=H.dep hr 3 19 (by kernel_rfl) ⟨rfl,by decide⟩;have v7:a.tmps[23]?=some (.agg C.opt):=H.dep hr 7 23 (by kernel_rfl) ⟨rfl,by decide⟩;exact aH (X:=.binOp .neq 70 (.tmp 19) (.tmp 23) 70) (v:=.bool false) (by kernel_rfl) (fun o h=>by exact Dl h (oC v3) (oC v7) (M.grd w) (M.neq w)) rfl hb
  |n+9,h,_=>exact absurd h (by omega)
end
theorem Wr(ps:List bJ)(a a2:Option Addr)(c c2:Nat)(w:World)(hn:ps.length≤1000000)(h1:gJ w a 2 (ps.map bJ.cells))(h2:gJ w a2 2 (ps.map bJ.cells)):
  Calls Tryz.prog 42 #[.slice a ps.length c,.slice a2 ps.length c2] w fun e w'=>e=.returned (.bool true)∧Below w.heap.size w w':=by
 have H1:=Hd h1;have H2:=Hd h2;clear h1 h2;go_enter Tryz.func42,Tryz.ntmps42;go_wp2_with fail;go_loopw [13] (fun iv wr=>∃k:Nat,k≤ps.length∧iv=.int .i64 k∧Hid (Below w.heap.size w wr)) (fun iv _=>ps.length-(intOf iv).toNat)
 case atStart=>exact⟨0,Nat.zero_le _,rfl,Br _ _⟩
 case round =>
  obtain⟨k,hk,rfl,HB⟩:=hrel
  by_cases hlt:k<ps.length
  ·obtain⟨p,hp⟩:∃p,ps[k]?=some p:=⟨ps[k],Lg hlt⟩
   obtain⟨b,off,rfl,hbl,hc⟩:=H1.out.addr (k:=k) (cs:=p.cells) (by rw[List.getElem?_map,hp];rfl);obtain⟨b2,off2,rfl,hbl2,hc2⟩:=H2.out.addr (k:=k) (cs:=p.cells) (by rw[List.getElem?_map,hp];rfl);have HC:=Hd hc;have HC2:=Hd hc2;clear hc hc2 hp;go_wp2_with fail;refine Jw (C:=⟨wr.drewN 1,b,off,b2,off2,ps.length,c,c2,k,p.cells.toArray⟩) ⟨rfl,rfl,rfl,rfl,hlt,hn,Nat.lt_of_lt_of_le hbl HB.out.size,Nat.lt_of_lt_of_le hbl2 HB.out.size,fun j v hj=>(HB.out.cell (p:=⟨b,off+k*2+j,none⟩) hbl).trans (HC.out j v hj),fun j v hj=>(HB.out.cell (p:=⟨b2,off2+k*2+j,none⟩) hbl2).trans (HC2.out j v hj),Tt p,fun W=>Vb p W _ _,Ua p⟩ rfl rfl rfl ?_;intro w3 hb3;have HB3:=Hd (aA HB.out ((aD (Br wr.heap.size wr) 1).trans hb3));clear hb3 HC HC2;simp only[iZ,Nt,List.foldl,List.setIfInBounds_toArray,List.set_cons_zero,List.set_cons_succ,Mk.val];go_wp2_with fail;go_roundw
   case rel=>exact⟨k+1,by omega,by go_num,HB3⟩
   case measure=>simp[intOf];omega
  ·obtain rfl:k=ps.length:=by omega
   go_wp2_with fail;go_ret;exact⟨rfl,HB.out⟩
noncomputable def Sr:Array Oper:=(Tryz.f43.body.bind (jE 6)).getD #[]
def Nu:List (Nat×Nat):=[(0,16),(1,17),(2,18),(3,19),(4,20),(5,21),(6,22),(7,23),(8,24)]
structure Ml where
 W0:World
 b:Nat
 off:Nat
 b2:Nat
 off2:Nat
 n:Nat
 c:Nat
 c2:Nat
 k:Nat
 opt:Array Value
def Ml.val(C:Ml)(_:Unit):Nat→Value
 |0=>.slice (some ⟨C.b,C.off,none⟩) C.n C.c
 |1=>.int .i64 (C.k:Int)
 |2=>.pointer (some ⟨C.b,C.off+C.k*7,none⟩)
 |3=>.agg C.opt
 |4=>.slice (some ⟨C.b2,C.off2,none⟩) C.n C.c2
 |5=>.int .i64 (C.k:Int)
 |6=>.pointer (some ⟨C.b2,C.off2+C.k*7,none⟩)
 |7=>.agg C.opt
 |_=>.bool false
def Ml.gg(C:Ml)(_:Unit)(_:Array Bool)(W:World):Prop:=Below C.W0.heap.size C.W0 W
structure aE6(C:Ml)(t0:Array Value):Prop where
 sz:t0.size=26
 t0':t0[0]?=some (.slice (some ⟨C.b,C.off,none⟩) C.n C.c)
 t1':t0[1]?=some (.slice (some ⟨C.b2,C.off2,none⟩) C.n C.c2)
 t5:t0[5]?=some (.int .i64 (C.k:Int))
 lt:C.k<C.n
 small:C.n≤1000000
 hb:C.b<C.W0.heap.size
 hb2:C.b2<C.W0.heap.size
 lo:∀j v,C.opt.toList[j]?=some v→C.W0.cell? ⟨C.b,C.off+C.k*7+j,none⟩=some v
 lo2:∀j v,C.opt.toList[j]?=some v→C.W0.cell? ⟨C.b2,C.off2+C.k*7+j,none⟩=some v
 osz:(Tryz.prog.info? 42).map (·.size)=some C.opt.size
 grd:∀W,(eqGuard .neq 42 (.tmp 19) (.tmp 23) (.agg C.opt) (.agg C.opt)).run Tryz.prog W=.ok () W
 neq:∀W,(binOp .neq 42 (.agg C.opt) (.agg C.opt)).run Tryz.prog W=.ok (.bool false) W
section
variable {C:Ml}{t0:Array Value}{Q:Exit→Act→World→Prop}
theorem Jy(M:aE6 C t0){a:Act}{w:World}(hdf:a.defers=[])(ht:a.tmps=t0)(hw:w.drewN 1=C.W0)
  (hQ:∀W,Below C.W0.heap.size C.W0 W→Q .normal { tmps:=iZ (C.val ()) Nu t0,defers:=[] } W):(Code.region 6 Sr true).wp Tryz.prog Q a w:=by
 have hsz:Sr.size=9:=by kernel_rfl
 refine eV (ds:=Nu) (val:=C.val) (G:=C.gg) (by kernel_rfl) (by kernel_rfl) (by decide) (fun p hp=>?_) (by kernel_rfl) ?_ (γ:=()) hdf ht (by rw[hw];exact Br _ _) (fun _ _ W _ hg=>hQ W hg)
 ·rw[M.sz];have:∀p,p∈Nu→p.2<26:=by decide
  exact this p hp
 ·intro γ l a w i H hr;cases γ;have hi:i<9:=by
   obtain⟨_,o,ho,_⟩:=mem_ready.1 hr;have:=(Ai.1 ho).1;rw[hsz] at this;exact this
  have t0':=H.low (s:=0) (by decide) M.t0';have t1':=H.low (s:=1) (by decide) M.t1';have t5:=H.low (s:=5) (by decide) M.t5;have hb:Below C.W0.heap.size C.W0 w:=H.g
  match i,hi,hr with
  |0,_,hr =>
   exact aH (X:=.move (.tmp 0)) (v:=.slice (some ⟨C.b,C.off,none⟩) C.n C.c) (by kernel_rfl) (fun o h=>by simp[execOp,h,t0',go_sem]) rfl hb
  |1,_,hr =>
   exact aH (X:=.move (.tmp 5)) (v:=.int .i64 (C.k:Int)) (by kernel_rfl) (fun o h=>by simp[execOp,h,t5,go_sem]) rfl hb
  |2,_,hr =>
   have v0:a.tmps[16]?=some (.slice (some ⟨C.b,C.off,none⟩) C.n C.c):=H.dep hr 0 16 (by kernel_rfl) ⟨rfl,by decide⟩;have v1:a.tmps[17]?=some (.int .i64 (C.k:Int)):=H.dep hr 1 17 (by kernel_rfl) ⟨rfl,by decide⟩;have hlt:=M.lt;have hsm:=M.small;exact aH (X:=.indexAddr 28 (.tmp 16) (.tmp 17)) (v:=.pointer (some ⟨C.b,C.off+C.k*7,none⟩)) (by kernel_rfl) (fun o h=>by simp[execOp,h,v0,v1,hlt,go_sem]) rfl hb
  |3,_,hr =>
   have v2:a.tmps[18]?=some (.pointer (some ⟨C.b,C.off+C.k*7,none⟩)):=H.dep hr 2 18 (by kernel_rfl) ⟨rfl,by decide⟩;exact aH (X:=.load 42 (.tmp 18)) (v:=.agg C.opt) (by kernel_rfl) (fun o h=>by exact aW h (oC v2) (fun j v hj=>(hb.cell (p:=⟨C.b,C.off+C.k*7+j,none⟩) M.hb).trans (M.lo j v hj)) Tryz.underlying42 rfl M.osz) rfl hb
  |4,_,hr =>
   exact aH (X:=.move (.tmp 1)) (v:=.slice (some ⟨C.b2,C.off2,none⟩) C.n C.c2) (by kernel_rfl) (fun o h=>by simp[execOp,h,t1',go_sem]) rfl hb
  |5,_,hr =>
   exact aH (X:=.move (.tmp 5)) (v:=.int .i64 (C.k:Int)) (by kernel_rfl) (fun o h=>by simp[execOp,h,t5,go_sem]) rfl hb
  |6,_,hr =>
   have v4:a.tmps[20]?=some (.slice (some ⟨C.b2,C.off2,none⟩) C.n C.c2):=H.dep hr 4 20 (by kernel_rfl) ⟨rfl,by decide⟩;have v5:a.tmps[21]?=some (.int .i64 (C.k:Int)):=H.dep hr 5 21 (by kernel_rfl) ⟨rfl,by decide⟩;have hlt:=M.lt;have hsm:=M.small;exact aH (X:=.indexAddr 28 (.tmp 20) (.tmp 21)) (v:=.pointer (some ⟨C.b2,C.off2+C.k*7,none⟩)) (by kernel_rfl) (fun o h=>by simp[execOp,h,v4,v5,hlt,go_sem]) rfl hb
  |7,_,hr =>
   have v6:a.tmps[22]?=some (.pointer (some ⟨C.b2,C.off2+C.k*7,none⟩)):=H.dep hr 6 22 (by kernel_rfl) ⟨rfl,by decide⟩;exact aH (X:=.load 42 (.tmp 22)) (v:=.agg C.opt) (by kernel_rfl) (fun o h=>by exact aW h (oC v6) (fun j v hj=>(hb.cell (p:=⟨C.b2,C.off2+C.k*7+j,none⟩) M.hb2).trans (M.lo2 j v hj)) Tryz.underlying42 rfl M.osz) rfl hb
  |8,_,hr =>
   have v3:a.tmps[19]?=some (.agg C.opt):=H.dep hr 3 19 (by kernel_rfl) ⟨rfl,by decide⟩;have v7:a.tmps[23]?=some (.agg C.opt):=H.dep hr 7 23 (by kernel_rfl) ⟨rfl,by decide⟩;exact aH (X:=.binOp .neq 42 (.tmp 19) (.tmp 23) 42) (v:=.bool false) (by kernel_rfl) (fun o h=>by exact Dl h (oC v3) (oC v7) (M.grd w) (M.neq w)) rfl hb
  |n+9,h,_=>exact absurd h (by omega)
end
theorem Ws(ps:List eJ)(a a2:Option Addr)(c c2:Nat)(w:World)(hn:ps.length≤1000000)(h1:gJ w a 7 (ps.map eJ.cells))(h2:gJ w a2 7 (ps.map eJ.cells)):
  Calls Tryz.prog 43 #[.slice a ps.length c,.slice a2 ps.length c2] w fun e w'=>e=.returned (.bool true)∧Below w.heap.size w w':=by
 have H1:=Hd h1;have H2:=Hd h2;clear h1 h2;go_enter Tryz.func43,Tryz.ntmps43;go_wp2_with fail;go_loopw [13] (fun iv wr=>∃k:Nat,k≤ps.length∧iv=.int .i64 k∧Hid (Below w.heap.size w wr)) (fun iv _=>ps.length-(intOf iv).toNat)
 case atStart=>exact⟨0,Nat.zero_le _,rfl,Br _ _⟩
 case round =>
  obtain⟨k,hk,rfl,HB⟩:=hrel
  by_cases hlt:k<ps.length
  ·obtain⟨p,hp⟩:∃p,ps[k]?=some p:=⟨ps[k],Lg hlt⟩
   obtain⟨b,off,rfl,hbl,hc⟩:=H1.out.addr (k:=k) (cs:=p.cells) (by rw[List.getElem?_map,hp];rfl);obtain⟨b2,off2,rfl,hbl2,hc2⟩:=H2.out.addr (k:=k) (cs:=p.cells) (by rw[List.getElem?_map,hp];rfl);have HC:=Hd hc;have HC2:=Hd hc2;clear hc hc2 hp;go_wp2_with fail;refine Jy (C:=⟨wr.drewN 1,b,off,b2,off2,ps.length,c,c2,k,p.cells.toArray⟩) ⟨rfl,rfl,rfl,rfl,hlt,hn,Nat.lt_of_lt_of_le hbl HB.out.size,Nat.lt_of_lt_of_le hbl2 HB.out.size,fun j v hj=>(HB.out.cell (p:=⟨b,off+k*7+j,none⟩) hbl).trans (HC.out j v hj),fun j v hj=>(HB.out.cell (p:=⟨b2,off2+k*7+j,none⟩) hbl2).trans (HC2.out j v hj),yE p,fun W=>Ls p W _ _,Oc p⟩ rfl rfl rfl ?_;intro w3 hb3;have HB3:=Hd (aA HB.out ((aD (Br wr.heap.size wr) 1).trans hb3));clear hb3 HC HC2;simp only[iZ,Nu,List.foldl,List.setIfInBounds_toArray,List.set_cons_zero,List.set_cons_succ,Ml.val];go_wp2_with fail;go_roundw
   case rel=>exact⟨k+1,by omega,by go_num,HB3⟩
   case measure=>simp[intOf];omega
  ·obtain rfl:k=ps.length:=by omega
   go_wp2_with fail;go_ret;exact⟨rfl,HB.out⟩
theorem yR(f:aE)(pa oa pb ob:Option Addr)(pc oc pd od:Nat)(w:World)(hb1:f.Behind w pa oa)(hb2:f.Behind w pb ob)(hp:f.picks.length≤1000000)(ho:f.options.length≤1000000):
  Calls Tryz.prog 18 #[.agg (f.cells pa pc oa oc),.agg (f.cells pb pd ob od)] w fun e w'=>e=.returned (.bool true)∧Below w.heap.size w w':=by
 have h:=Ci f f pa oa pb ob pc oc pd od true true w (fun W hb=>Wr f.picks pa pb pc pd W hp (hb1.1.below hb) (hb2.1.below hb)) (fun W hb=>Ws f.options oa ob oc od W ho (hb1.2.below hb) (hb2.2.below hb));rw[Ka] at h;exact h
end
section
open Go Go.RowKit Num
theorem bW{ops:Array Oper}{a:Act}{i j s:Nat}(hgd:(ops[i]?).map (·.guard)=some (some (j,true)))(hj:(ops[j]?).bind (·.dst)=some s)(hv:a.tmps[s]?=some (.bool true)):∀o,ops[i]?=some o→Region.wanted o (yielded ops a.tmps)=true:=fun o ho=>by
 rw[nL hgd rfl hj hv o ho];rfl
noncomputable def Vf:Array Oper:=(Tryz.f3.body.bind (jE 7)).getD #[]
def Ok:List (Nat×Nat):=[(0,42),(1,43),(2,44),(3,45),(4,46),(5,47),(6,48),(7,49),(8,50),(9,51),(10,52),(11,53),(12,54),(13,55),(14,56),(15,57),(16,58),(17,59),(18,60),(19,61),(20,62),(21,63),(22,64),(23,65),(24,66),(25,67),(26,68),(27,69),(28,70),(29,71),(30,72),(31,73),(32,74),(33,4)]
structure My where
 W0:World
 b3:Nat
 b9:Nat
 b11:Nat
 fc:Array Value
 xc:Array Value
 yc:Array Value
 xe:Int
 cv:Int
 er:Int
def My.val(C:My)(_:Unit):Nat→Value
 |0=>.agg C.fc
 |1=>.int .i64 C.xe
 |2=>.agg C.fc
 |3=>.int .i64 C.xe
 |4=>.bool true
 |5=>.bool true
 |6=>.int .i64 C.cv
 |7=>.int .i64 C.cv
 |8=>.bool true
 |9=>.bool true
 |10=>.bool true
 |11=>.int .i64 C.er
 |12=>.int .i64 C.er
 |13=>.bool true
 |14=>.bool true
 |15=>.bool true
 |16=>.agg C.xc
 |17=>.agg C.yc
 |18=>.bool true
 |19=>.bool true
 |20=>.bool true
 |21=>.agg C.xc
 |22=>.agg C.yc
 |23=>.bool true
 |24=>.bool true
 |25=>.bool true
 |26=>.int .i64 C.er
 |27=>.int .i64 C.er
 |28=>.bool true
 |29=>.bool true
 |30=>.bool true
 |31=>.bool true
 |32=>.bool true
 |_=>.bool true
def My.gg(C:My)(_:Unit)(_:Array Bool)(W:World):Prop:=Below C.W0.heap.size C.W0 W
structure aFc(C:My)(t0:Array Value):Prop where
 sz:t0.size=75
 t3:t0[3]?=some (.pointer (some ⟨C.b3,0,none⟩))
 t5:t0[5]?=some (.int .i64 C.cv)
 t6:t0[6]?=some (.int .i64 C.er)
 t7:t0[7]?=some (.int .i64 C.cv)
 t8:t0[8]?=some (.int .i64 C.er)
 t9:t0[9]?=some (.pointer (some ⟨C.b9,0,none⟩))
 t10:t0[10]?=some (.int .i64 C.er)
 t11:t0[11]?=some (.pointer (some ⟨C.b11,0,none⟩))
 t12:t0[12]?=some (.int .i64 C.er)
 k3:aP C.W0 C.b3 C.fc 30
 k9:aP C.W0 C.b9 C.xc 30
 k11:aP C.W0 C.b11 C.yc 30
 sk3:(Tryz.prog.info? 30).map (·.size)=some C.fc.size
 sk9:(Tryz.prog.info? 30).map (·.size)=some C.xc.size
 sk11:(Tryz.prog.info? 30).map (·.size)=some C.yc.size
 chk:∀W,Below C.W0.heap.size C.W0 W→Calls Tryz.prog 16 #[.agg C.fc] W fun e w'=>e=.returned (.int .i64 C.xe)∧Below W.heap.size W w'
 rchk:∀W,Below C.W0.heap.size C.W0 W→Calls Tryz.prog 17 #[.agg C.fc] W fun e w'=>e=.returned (.int .i64 C.xe)∧Below W.heap.size W w'
 same:∀W,Below C.W0.heap.size C.W0 W→Calls Tryz.prog 18 #[.agg C.xc,.agg C.yc] W fun e w'=>e=.returned (.bool true)∧Below W.heap.size W w'
 rsame:∀W,Below C.W0.heap.size C.W0 W→Calls Tryz.prog 19 #[.agg C.xc,.agg C.yc] W fun e w'=>e=.returned (.bool true)∧Below W.heap.size W w'
 aw:∀W,Below C.W0.heap.size C.W0 W→Calls Tryz.prog 11 #[] W fun e w'=>e=.returned (.bool true)∧Below W.heap.size W w'
section
variable {C:My}{t0:Array Value}{Q:Exit→Act→World→Prop}
theorem Lv(M:aFc C t0){a:Act}{w:World}(hdf:a.defers=[])(ht:a.tmps=t0)(hw:w.drewN 1=C.W0)
  (hQ:∀W,Below C.W0.heap.size C.W0 W→Q .normal { tmps:=iZ (C.val ()) Ok t0,defers:=[] } W):(Code.region 7 Vf true).wp Tryz.prog Q a w:=by
 have hsz:Vf.size=34:=by kernel_rfl
 refine eV (ds:=Ok) (val:=C.val) (G:=C.gg) (by kernel_rfl) (by kernel_rfl) (by decide) (fun p hp=>?_) (by kernel_rfl) ?_ (γ:=()) hdf ht (by rw[hw];exact Br _ _) (fun _ _ W _ hg=>hQ W hg)
 ·rw[M.sz];have:∀p,p∈Ok→p.2<75:=by decide
  exact this p hp
 ·intro γ l a w i H hr;cases γ;have hi:i<34:=by
   obtain⟨_,o,ho,_⟩:=mem_ready.1 hr;have:=(Ai.1 ho).1;rw[hsz] at this;exact this
  have t3:=H.low (s:=3) (by decide) M.t3;have t5:=H.low (s:=5) (by decide) M.t5;have t6:=H.low (s:=6) (by decide) M.t6;have t7:=H.low (s:=7) (by decide) M.t7;have t8:=H.low (s:=8) (by decide) M.t8;have t9:=H.low (s:=9) (by decide) M.t9;have t10:=H.low (s:=10) (by decide) M.t10;have t11:=H.low (s:=11) (by decide) M.t11;have t12:=H.low (s:=12) (by decide) M.t12;have hb:Below C.W0.heap.size C.W0 w:=H.g
  match i,hi,hr with
  |0,_,hr =>
   exact aH (X:=.load 30 (.tmp 3)) (v:=.agg C.fc) (by kernel_rfl) (fun o h=>by exact aW h (oC t3) (gR (M.k3.below hb)) Tryz.underlying30 rfl M.sk3) rfl hb
  |1,_,hr =>
   have v0:a.tmps[42]?=some (.agg C.fc):=H.dep hr 0 42 (by kernel_rfl) ⟨rfl,by decide⟩;refine gA (f:=16) (lb:=#[]) (c:=.func 16) (args:=#[.tmp 42]) (ts:=#[30]) (vs:=#[.agg C.fc]) (by kernel_rfl) rfl (enters_of Tryz.func16 (by kernel_rfl) rfl) (by simp[Act.eval,v0]) ((M.chk w hb).mono ?_);rintro e w' ⟨rfl,hb'⟩;exact⟨_,(),rfl,rfl,fun _ _=>rfl,aA hb hb'⟩
  |2,_,hr =>
   exact aH (X:=.load 30 (.tmp 3)) (v:=.agg C.fc) (by kernel_rfl) (fun o h=>by exact aW h (oC t3) (gR (M.k3.below hb)) Tryz.underlying30 rfl M.sk3) rfl hb
  |3,_,hr =>
   have v2:a.tmps[44]?=some (.agg C.fc):=H.dep hr 2 44 (by kernel_rfl) ⟨rfl,by decide⟩;refine gA (f:=17) (lb:=#[]) (c:=.func 17) (args:=#[.tmp 44]) (ts:=#[30]) (vs:=#[.agg C.fc]) (by kernel_rfl) rfl (enters_of Tryz.func17 (by kernel_rfl) rfl) (by simp[Act.eval,v2]) ((M.rchk w hb).mono ?_);rintro e w' ⟨rfl,hb'⟩;exact⟨_,(),rfl,rfl,fun _ _=>rfl,aA hb hb'⟩
  |4,_,hr =>
   have v1:a.tmps[43]?=some (.int .i64 C.xe):=H.dep hr 1 43 (by kernel_rfl) ⟨rfl,by decide⟩;have v3:a.tmps[45]?=some (.int .i64 C.xe):=H.dep hr 3 45 (by kernel_rfl) ⟨rfl,by decide⟩;exact aH (X:=.binOp .eql 33 (.tmp 43) (.tmp 45) 33) (v:=.bool true) (by kernel_rfl) (fun o h=>by simp[execOp,h,v1,v3,go_sem]) rfl hb
  |5,_,hr =>
   have v4:a.tmps[46]?=some (.bool true):=H.dep hr 4 46 (by kernel_rfl) ⟨rfl,by decide⟩;exact aH (X:=.move (.tmp 46)) (v:=.bool true) (by kernel_rfl) (fun o h=>by simp[execOp,h,v4,go_sem]) rfl hb
  |6,_,hr =>
   have hon:a.tmps[47]?=some (.bool true):=H.dep hr 5 47 (by kernel_rfl) ⟨rfl,by decide⟩;exact bA (X:=.move (.tmp 5)) (v:=.int .i64 C.cv) (by kernel_rfl) (bW (i:=6) (j:=5) (s:=47) (by kernel_rfl) (by kernel_rfl) hon) (fun o h=>by simp[execOp,h,t5,go_sem]) rfl hb
  |7,_,hr =>
   have hon:a.tmps[47]?=some (.bool true):=H.dep hr 5 47 (by kernel_rfl) ⟨rfl,by decide⟩;exact bA (X:=.move (.tmp 7)) (v:=.int .i64 C.cv) (by kernel_rfl) (bW (i:=7) (j:=5) (s:=47) (by kernel_rfl) (by kernel_rfl) hon) (fun o h=>by simp[execOp,h,t7,go_sem]) rfl hb
  |8,_,hr =>
   have v6:a.tmps[48]?=some (.int .i64 C.cv):=H.dep hr 6 48 (by kernel_rfl) ⟨rfl,by decide⟩;have v7:a.tmps[49]?=some (.int .i64 C.cv):=H.dep hr 7 49 (by kernel_rfl) ⟨rfl,by decide⟩;have hon:a.tmps[47]?=some (.bool true):=H.dep hr 5 47 (by kernel_rfl) ⟨rfl,by decide⟩;exact bA (X:=.binOp .eql 3 (.tmp 48) (.tmp 49) 3) (v:=.bool true) (by kernel_rfl) (bW (i:=8) (j:=5) (s:=47) (by kernel_rfl) (by kernel_rfl) hon) (fun o h=>by simp[execOp,h,v6,v7,go_sem]) rfl hb
  |9,_,hr =>
   have v5:a.tmps[47]?=some (.bool true):=H.dep hr 5 47 (by kernel_rfl) ⟨rfl,by decide⟩;have v8:a.tmps[50]?=some (.bool true):=H.dep hr 8 50 (by kernel_rfl) ⟨rfl,by decide⟩;exact aH (X:=.pick (.tmp 47) (.tmp 50) (.const (.bool false))) (v:=.bool true) (by kernel_rfl) (fun o h=>by simp[execOp,h,v5,v8,go_sem]) rfl hb
  |10,_,hr =>
   have v9:a.tmps[51]?=some (.bool true):=H.dep hr 9 51 (by kernel_rfl) ⟨rfl,by decide⟩;exact aH (X:=.move (.tmp 51)) (v:=.bool true) (by kernel_rfl) (fun o h=>by simp[execOp,h,v9,go_sem]) rfl hb
  |11,_,hr =>
   have hon:a.tmps[52]?=some (.bool true):=H.dep hr 10 52 (by kernel_rfl) ⟨rfl,by decide⟩;exact bA (X:=.move (.tmp 6)) (v:=.int .i64 C.er) (by kernel_rfl) (bW (i:=11) (j:=10) (s:=52) (by kernel_rfl) (by kernel_rfl) hon) (fun o h=>by simp[execOp,h,t6,go_sem]) rfl hb
  |12,_,hr =>
   have hon:a.tmps[52]?=some (.bool true):=H.dep hr 10 52 (by kernel_rfl) ⟨rfl,by decide⟩;exact bA (X:=.move (.tmp 8)) (v:=.int .i64 C.er) (by kernel_rfl) (bW (i:=12) (j:=10) (s:=52) (by kernel_rfl) (by kernel_rfl) hon) (fun o h=>by simp[execOp,h,t8,go_sem]) rfl hb
  |13,_,hr =>
   have v11:a.tmps[53]?=some (.int .i64 C.er):=H.dep hr 11 53 (by kernel_rfl) ⟨rfl,by decide⟩;have v12:a.tmps[54]?=some (.int .i64 C.er):=H.dep hr 12 54 (by kernel_rfl) ⟨rfl,by decide⟩;have hon:a.tmps[52]?=some (.bool true):=H.dep hr 10 52 (by kernel_rfl) ⟨rfl,by decide⟩;exact bA (X:=.binOp .eql 33 (.tmp 53) (.tmp 54) 33) (v:=.bool true) (by kernel_rfl) (bW (i:=13) (j:=10) (s:=52) (by kernel_rfl) (by kernel_rfl) hon) (fun o h=>by simp[execOp,h,v11,v12,go_sem]) rfl hb
  |14,_,hr =>
   have v10:a.tmps[52]?=some (.bool true):=H.dep hr 10 52 (by kernel_rfl) ⟨rfl,by decide⟩;have v13:a.tmps[55]?=some (.bool true):=H.dep hr 13 55 (by kernel_rfl) ⟨rfl,by decide⟩;exact aH (X:=.pick (.tmp 52) (.tmp 55) (.const (.bool false))) (v:=.bool true) (by kernel_rfl) (fun o h=>by simp[execOp,h,v10,v13,go_sem]) rfl hb
  |15,_,hr =>
   have v14:a.tmps[56]?=some (.bool true):=H.dep hr 14 56 (by kernel_rfl) ⟨rfl,by decide⟩;exact aH (X:=.move (.tmp 56)) (v:=.bool true) (by kernel_rfl) (fun o h=>by simp[execOp,h,v14,go_sem]) rfl hb
  |16,_,hr =>
   have hon:a.tmps[57]?=some (.bool true):=H.dep hr 15 57 (by kernel_rfl) ⟨rfl,by decide⟩;exact bA (X:=.load 30 (.tmp 9)) (v:=.agg C.xc) (by kernel_rfl) (bW (i:=16) (j:=15) (s:=57) (by kernel_rfl) (by kernel_rfl) hon) (fun o h=>by exact aW h (oC t9) (gR (M.k9.below hb)) Tryz.underlying30 rfl M.sk9) rfl hb
  |17,_,hr =>
   have hon:a.tmps[57]?=some (.bool true):=H.dep hr 15 57 (by kernel_rfl) ⟨rfl,by decide⟩;exact bA (X:=.load 30 (.tmp 11)) (v:=.agg C.yc) (by kernel_rfl) (bW (i:=17) (j:=15) (s:=57) (by kernel_rfl) (by kernel_rfl) hon) (fun o h=>by exact aW h (oC t11) (gR (M.k11.below hb)) Tryz.underlying30 rfl M.sk11) rfl hb
  |18,_,hr =>
   have v16:a.tmps[58]?=some (.agg C.xc):=H.dep hr 16 58 (by kernel_rfl) ⟨rfl,by decide⟩;have v17:a.tmps[59]?=some (.agg C.yc):=H.dep hr 17 59 (by kernel_rfl) ⟨rfl,by decide⟩;have hon:a.tmps[57]?=some (.bool true):=H.dep hr 15 57 (by kernel_rfl) ⟨rfl,by decide⟩;refine mX (f:=18) (lb:=#[]) (c:=.func 18) (args:=#[.tmp 58,.tmp 59]) (ts:=#[30,30]) (vs:=#[.agg C.xc,.agg C.yc]) (by kernel_rfl) (bW (i:=18) (j:=15) (s:=57) (by kernel_rfl) (by kernel_rfl) hon) rfl (enters_of Tryz.func18 (by kernel_rfl) rfl) (by simp[Act.eval,v16,v17]) ((M.same w hb).mono ?_);rintro e w' ⟨rfl,hb'⟩;exact⟨_,(),rfl,rfl,fun _ _=>rfl,aA hb hb'⟩
  |19,_,hr =>
   have v15:a.tmps[57]?=some (.bool true):=H.dep hr 15 57 (by kernel_rfl) ⟨rfl,by decide⟩;have v18:a.tmps[60]?=some (.bool true):=H.dep hr 18 60 (by kernel_rfl) ⟨rfl,by decide⟩;exact aH (X:=.pick (.tmp 57) (.tmp 60) (.const (.bool false))) (v:=.bool true) (by kernel_rfl) (fun o h=>by simp[execOp,h,v15,v18,go_sem]) rfl hb
  |20,_,hr =>
   have v19:a.tmps[61]?=some (.bool true):=H.dep hr 19 61 (by kernel_rfl) ⟨rfl,by decide⟩;exact aH (X:=.move (.tmp 61)) (v:=.bool true) (by kernel_rfl) (fun o h=>by simp[execOp,h,v19,go_sem]) rfl hb
  |21,_,hr =>
   have hon:a.tmps[62]?=some (.bool true):=H.dep hr 20 62 (by kernel_rfl) ⟨rfl,by decide⟩;exact bA (X:=.load 30 (.tmp 9)) (v:=.agg C.xc) (by kernel_rfl) (bW (i:=21) (j:=20) (s:=62) (by kernel_rfl) (by kernel_rfl) hon) (fun o h=>by exact aW h (oC t9) (gR (M.k9.below hb)) Tryz.underlying30 rfl M.sk9) rfl hb
  |22,_,hr =>
   have hon:a.tmps[62]?=some (.bool true):=H.dep hr 20 62 (by kernel_rfl) ⟨rfl,by decide⟩;exact bA (X:=.load 30 (.tmp 11)) (v:=.agg C.yc) (by kernel_rfl) (bW (i:=22) (j:=20) (s:=62) (by kernel_rfl) (by kernel_rfl) hon) (fun o h=>by exact aW h (oC t11) (gR (M.k11.below hb)) Tryz.underlying30 rfl M.sk11) rfl hb
  |23,_,hr =>
   have v21:a.tmps[63]?=some (.agg C.xc):=H.dep hr 21 63 (by kernel_rfl) ⟨rfl,by decide⟩;have v22:a.tmps[64]?=some (.agg C.yc):=H.dep hr 22 64 (by kernel_rfl) ⟨rfl,by decide⟩;have hon:a.tmps[62]?=some (.bool true):=H.dep hr 20 62 (by kernel_rfl) ⟨rfl,by decide⟩;refine mX (f:=19) (lb:=#[]) (c:=.func 19) (args:=#[.tmp 63,.tmp 64]) (ts:=#[30,30]) (vs:=#[.agg C.xc,.agg C.yc]) (by kernel_rfl) (bW (i:=23) (j:=20) (s:=62) (by kernel_rfl) (by kernel_rfl) hon) rfl (enters_of Tryz.func19 (by kernel_rfl) rfl) (by simp[Act.eval,v21,v22]) ((M.rsame w hb).mono ?_);rintro e w' ⟨rfl,hb'⟩;exact⟨_,(),rfl,rfl,fun _ _=>rfl,aA hb hb'⟩
  |24,_,hr =>
   have v20:a.tmps[62]?=some (.bool true):=H.dep hr 20 62 (by kernel_rfl) ⟨rfl,by decide⟩;have v23:a.tmps[65]?=some (.bool true):=H.dep hr 23 65 (by kernel_rfl) ⟨rfl,by decide⟩;exact aH (X:=.pick (.tmp 62) (.tmp 65) (.const (.bool false))) (v:=.bool true) (by kernel_rfl) (fun o h=>by simp[execOp,h,v20,v23,go_sem]) rfl hb
  |25,_,hr =>
   have v24:a.tmps[66]?=some (.bool true):=H.dep hr 24 66 (by kernel_rfl) ⟨rfl,by decide⟩;exact aH (X:=.move (.tmp 66)) (v:=.bool true) (by kernel_rfl) (fun o h=>by simp[execOp,h,v24,go_sem]) rfl hb
  |26,_,hr =>
   have hon:a.tmps[67]?=some (.bool true):=H.dep hr 25 67 (by kernel_rfl) ⟨rfl,by decide⟩;exact bA (X:=.move (.tmp 10)) (v:=.int .i64 C.er) (by kernel_rfl) (bW (i:=26) (j:=25) (s:=67) (by kernel_rfl) (by kernel_rfl) hon) (fun o h=>by simp[execOp,h,t10,go_sem]) rfl hb
  |27,_,hr =>
   have hon:a.tmps[67]?=some (.bool true):=H.dep hr 25 67 (by kernel_rfl) ⟨rfl,by decide⟩;exact bA (X:=.move (.tmp 12)) (v:=.int .i64 C.er) (by kernel_rfl) (bW (i:=27) (j:=25) (s:=67) (by kernel_rfl) (by kernel_rfl) hon) (fun o h=>by simp[execOp,h,t12,go_sem]) rfl hb
  |28,_,hr =>
   have v26:a.tmps[68]?=some (.int .i64 C.er):=H.dep hr 26 68 (by kernel_rfl) ⟨rfl,by decide⟩;have v27:a.tmps[69]?=some (.int .i64 C.er):=H.dep hr 27 69 (by kernel_rfl) ⟨rfl,by decide⟩;have hon:a.tmps[67]?=some (.bool true):=H.dep hr 25 67 (by kernel_rfl) ⟨rfl,by decide⟩;exact bA (X:=.binOp .eql 33 (.tmp 68) (.tmp 69) 33) (v:=.bool true) (by kernel_rfl) (bW (i:=28) (j:=25) (s:=67) (by kernel_rfl) (by kernel_rfl) hon) (fun o h=>by simp[execOp,h,v26,v27,go_sem]) rfl hb
  |29,_,hr =>
   have v25:a.tmps[67]?=some (.bool true):=H.dep hr 25 67 (by kernel_rfl) ⟨rfl,by decide⟩;have v28:a.tmps[70]?=some (.bool true):=H.dep hr 28 70 (by kernel_rfl) ⟨rfl,by decide⟩;exact aH (X:=.pick (.tmp 67) (.tmp 70) (.const (.bool false))) (v:=.bool true) (by kernel_rfl) (fun o h=>by simp[execOp,h,v25,v28,go_sem]) rfl hb
  |30,_,hr =>
   have v29:a.tmps[71]?=some (.bool true):=H.dep hr 29 71 (by kernel_rfl) ⟨rfl,by decide⟩;exact aH (X:=.move (.tmp 71)) (v:=.bool true) (by kernel_rfl) (fun o h=>by simp[execOp,h,v29,go_sem]) rfl hb
  |31,_,hr =>
   have hon:a.tmps[72]?=some (.bool true):=H.dep hr 30 72 (by kernel_rfl) ⟨rfl,by decide⟩;refine mX (f:=11) (lb:=#[]) (c:=.func 11) (args:=#[]) (ts:=#[]) (vs:=#[]) (by kernel_rfl) (bW (i:=31) (j:=30) (s:=72) (by kernel_rfl) (by kernel_rfl) hon) rfl (enters_of Tryz.func11 (by kernel_rfl) rfl) (by simp) ((M.aw w hb).mono ?_);rintro e w' ⟨rfl,hb'⟩;exact⟨_,(),rfl,rfl,fun _ _=>rfl,aA hb hb'⟩
  |32,_,hr =>
   have v30:a.tmps[72]?=some (.bool true):=H.dep hr 30 72 (by kernel_rfl) ⟨rfl,by decide⟩;have v31:a.tmps[73]?=some (.bool true):=H.dep hr 31 73 (by kernel_rfl) ⟨rfl,by decide⟩;exact aH (X:=.pick (.tmp 72) (.tmp 73) (.const (.bool false))) (v:=.bool true) (by kernel_rfl) (fun o h=>by simp[execOp,h,v30,v31,go_sem]) rfl hb
  |33,_,hr =>
   have v32:a.tmps[74]?=some (.bool true):=H.dep hr 32 74 (by kernel_rfl) ⟨rfl,by decide⟩;exact aH (X:=.assign (.tmp 74)) (v:=.bool true) (by kernel_rfl) (fun o h=>by simp[execOp,h,v32,go_sem]) rfl hb
  |n+34,h,_=>exact absurd h (by omega)
end
end
section
open Go Go.RowKit Num
def sX(x:aF)(cv er:Int)(w:World)(xc:Array Value):Prop:=(er≠0∧xc=eS)∨(er=0∧∃(k:Nat) (o:eJ) (g:Nat),cv=(k:Int)∧x.f.options[k]?=some o∧xc=(fU x o g).arr∧aP w g o.cells.toArray 42)
theorem sX.below{x:aF}{cv er:Int}{w w':World}{xc:Array Value}(h:sX x cv er w xc)(hb:Below w.heap.size w w'):sX x cv er w' xc:=by
 rcases h with h|⟨h,k,o,g,h1,h2,h3,h4⟩
 ·exact .inl h
 ·exact .inr ⟨h,k,o,g,h1,h2,h3,h4.below hb⟩
theorem sX.size{x:aF}{cv er:Int}{w:World}{xc:Array Value}(h:sX x cv er w xc):eS.size=xc.size∧xc.all (·.oneCell')=true:=by
 rcases h with⟨_,rfl⟩|⟨_,k,o,g,_,_,rfl,_⟩
 ·exact⟨rfl,gO []⟩
 ·exact⟨rfl,dV (fU x o g)⟩
theorem sX.info{x:aF}{cv er:Int}{w:World}{xc:Array Value}(h:sX x cv er w xc):(Tryz.prog.info? 30).map (·.size)=some xc.size:=by
 rw[←h.size.1];exact eA
theorem sX.same{x:aF}{cv er:Int}{w:World}{xc yc:Array Value}(hb:x.f.Behind w x.pa x.oa)(hp:x.f.picks.length≤1000000)(h:sX x cv er w xc)(h':sX x cv er w yc):
  (Calls Tryz.prog 18 #[.agg xc,.agg yc] w fun e w'=>e=.returned (.bool true)∧Below w.heap.size w w')∧(Calls Tryz.prog 19 #[.agg xc,.agg yc] w fun e w'=>e=.returned (.bool true)∧Below w.heap.size w w'):=by
 rcases h with⟨he,rfl⟩|⟨he,k,o,g,h1,h2,rfl,h4⟩
 ·rcases h' with⟨_,rfl⟩|⟨he',_⟩
  ·exact⟨yR Sc none none none none 0 0 0 0 w ⟨.inl rfl,.inl rfl⟩ ⟨.inl rfl,.inl rfl⟩ (by decide) (by decide),rK Sc none none none none 0 0 0 0 w ⟨.inl rfl,.inl rfl⟩ ⟨.inl rfl,.inl rfl⟩ (by decide) (by decide)⟩
  ·exact absurd he' he
 ·rcases h' with⟨he',_⟩|⟨_,k',o',g',h1',h2',rfl,h4'⟩
  ·exact absurd he he'
  ·have hk:k'=k:=by omega
   subst hk;obtain rfl:o'=o:=Option.some.inj (h2'.symm.trans h2);have b1:=nG hb h4;have b2:=nG hb h4';have ho:(iQ x.f o').options.length≤1000000:=show 1≤1000000 by decide
   exact⟨yR (iQ x.f o') _ _ _ _ x.pc 1 x.pc 1 w b1 b2 hp ho,rK (iQ x.f o') _ _ _ _ x.pc 1 x.pc 1 w b1 b2 hp ho⟩
theorem pE(xs:List aF)(x:aF)(a:Option Addr)(c:Nat)(w:World)(hE:iE w)(hn:xs.length≤9223372036854775807)(hcap:xs.length≤c)(hr:fS w a xs)(hf:∀x,x∈xs→x.fits)(hb:x.f.Behind w x.pa x.oa)(hfx:x.fits):
  Calls Tryz.prog 3 #[.slice a xs.length c,.agg x.arr] w fun e w'=>e=.returned (.bool true)∧Below w.heap.size w w':=by
 have KX:=Hd (aP.new0 w x.arr 30);have HB0:=Hd (aB w (.cells x.arr 30));have HRUN0:=tF x.arr rfl (w.alloc (.cells x.arr 30));rw[World.size_alloc] at HRUN0;have HRUN:=Hd HRUN0;have HBr:=aB (w.alloc (.cells x.arr 30)) (.cells x.arr 30);have KR:=aP.new0 (w.alloc (.cells x.arr 30)) x.arr 30;have HB1:=Hd (aA HB0.out HBr);have KX1:=Hd (KX.out.below HBr);rw[World.size_alloc] at KR;have HG0:=nJ xs [x] a (some ⟨w.heap.size+1,0,none⟩) c 1 ((w.alloc (.cells x.arr 30)).alloc (.cells x.arr 30)) hn (hr.below HB1.out) hf (by simp) (uV x KR (hb.below HB1.out)) (by intro y hy;rw[List.mem_singleton] at hy;subst hy;exact hfx);rw[show [x].length=1 from rfl] at HG0;have HG:=Hd HG0;have HAW:Hid (∀W,Below w.heap.size w W→Calls Tryz.prog 11 #[] W fun e w'=>e=.returned (.bool true)∧Below W.heap.size W w'):=fun W hb=>nR W (hE.below hb)
 have HE:=Hd hE;have HR:=Hd hr;have HF:=Hd hf;have HFX:=Hd hfx;have HBX:=Hd hb;have HSZ:Hid ((Tryz.prog.info? 30).map (·.size)=some x.arr.size):=aY x.f x.pa x.oa x.pc x.oc;have HONE:=Hd (dV x);have HX0:Hid (x.arr[0]?=some (.string ⟨x.f.key.toArray⟩)∧x.arr[19]?=some (.slice x.oa x.f.options.length x.oc)):=⟨rfl,rfl⟩
 obtain⟨fc,hfc⟩:∃fc,fc=x.arr:=⟨_,rfl⟩
 have HFC:=Hd hfc;rw[←hfc] at KX KX1 HB0 HB1 HG HSZ HRUN HX0 HONE ⊢;clear hE hr hf hb hfx hfc HBr KR HRUN0 HG0;go_enter Tryz.func3,Tryz.ntmps3;go_wp2_with (first|(refine wpList_load_row rfl 30 _ rfl w.heap.size rfl 30 fc (0,0) _ KX.out.2 Tryz.underlying30 rfl HSZ.out ?_;simp only[pS])|(refine lA rfl 22 1 _ rfl #[(0,.agg fc)] _ (by simp[Act.eval]) HRUN.out ?_;simp only[pS]));refine HG.out.mono ?_;rintro e w1 ⟨⟨g,rfl,hg⟩,hb⟩;have KX:=Hd (KX1.out.below hb);have HB1:=Hd (aA HB1.out hb);have HGS:=Hd hg;clear hb hg HG KX1 HRUN HB0;cases g with
 |true =>
  go_wp2_with fail;refine(HAW.out _ HB1.out).mono ?_;rintro e w2 ⟨rfl,hb⟩;go_wp2;go_ret;exact⟨rfl,aA HB1.out hb⟩
 |false =>
  have HSM:=Hd (HGS.out rfl);have HTX:Hid x.f.tight:=(HGS.out rfl).2 x (by simp);clear HGS;have hlen:xs.length≤1003:=by rcases HSM.out.1.2 with h|h <;> omega
  have HV:Hid (gT w a c xs):=⟨HR.out,fun y hy=>⟨(HSM.out.1.1 y hy).small,(HF.out y hy).picks⟩,by omega⟩
  have HXO:Hid x.ok:=⟨HTX.out.small,HFX.out.picks⟩
  have HRV:Hid (rJ w a c xs):=⟨HR.out,fun y hy=>HSM.out.1.1 y hy,by omega,hcap⟩
  obtain⟨fs,hfs⟩:∃fs,fs=xs.map aF.f:=⟨_,rfl⟩
  have HCH:Hid (∀W,Below w.heap.size w W→Calls Tryz.prog 12 #[.slice a xs.length c,.agg fc] W fun e w'=>e=.returned (.tuple #[.int .i64 (bC fs x.f),.int .i64 (aL fs x.f)])∧Below W.heap.size W w'):=fun W hb=>by
   rw[HFC.out,hfs];exact fE xs a c x W (HE.out.below hb) (HV.out.below hb) HXO.out (HBX.out.below hb)
  have HRC:Hid (∀W,Below w.heap.size w W→Calls Tryz.prog 13 #[.slice a xs.length c,.agg fc] W fun e w'=>e=.returned (.tuple #[.int .i64 (bC fs x.f),.int .i64 (aL fs x.f)])∧Below W.heap.size W w'):=fun W hb=>by
   rw[HFC.out,hfs];exact xR xs a c x W (HRV.out.below hb) HTX.out (HBX.out.below hb)
  have HRS:Hid (∀W,Below w.heap.size w W→Calls Tryz.prog 14 #[.slice a xs.length c,.agg fc] W fun e w'=>∃xc,e=.returned (.tuple #[.agg xc,.int .i64 (aL fs x.f)])∧sX x (bC fs x.f) (aL fs x.f) w' xc∧Below W.heap.size W w'):=fun W hb=>by
   rw[HFC.out,hfs];refine(vV xs a c x W (HE.out.below hb) (HV.out.below hb) HXO.out (HBX.out.below hb)).mono ?_;rintro e w' ⟨⟨h,rfl⟩|⟨h,k,o,g,h1,h2,rfl,h4⟩,hb'⟩
   ·exact⟨_,rfl,.inl ⟨h,rfl⟩,hb'⟩
   ·exact⟨_,by rw[h],.inr ⟨h,k,o,g,h1,h2,rfl,h4⟩,hb'⟩
  have HRR:Hid (∀W,Below w.heap.size w W→Calls Tryz.prog 15 #[.slice a xs.length c,.agg fc] W fun e w'=>∃xc,e=.returned (.tuple #[.agg xc,.int .i64 (aL fs x.f)])∧sX x (bC fs x.f) (aL fs x.f) w' xc∧Below W.heap.size W w'):=fun W hb=>by
   rw[HFC.out,hfs];refine(Fh xs a c x W (HRV.out.below hb) HTX.out (HBX.out.below hb)).mono ?_;rintro e w' ⟨⟨h,rfl⟩|⟨h,k,o,g,h1,h2,rfl,h4⟩,hb'⟩
   ·exact⟨_,rfl,.inl ⟨h,rfl⟩,hb'⟩
   ·exact⟨_,by rw[h],.inr ⟨h,k,o,g,h1,h2,rfl,h4⟩,hb'⟩
  have HXK:Hid (∀W,Below w.heap.size w W→Calls Tryz.prog 16 #[.agg fc] W fun e w'=>e=.returned (.int .i64 (dQ x.f))∧Below W.heap.size W w'):=fun W hb=>by
   rw[HFC.out];exact rZ x W (HE.out.below hb) HXO.out (HBX.out.below hb)
  have HRX:Hid (∀W,Below w.heap.size w W→Calls Tryz.prog 17 #[.agg fc] W fun e w'=>e=.returned (.int .i64 (dQ x.f))∧Below W.heap.size W w'):=fun W hb=>by
   rw[HFC.out];exact xP x W HTX.out (HBX.out.below hb)
  have HSA:Hid (∀cv er W xc yc,Below w.heap.size w W→sX x cv er W xc→sX x cv er W yc→(Calls Tryz.prog 18 #[.agg xc,.agg yc] W fun e w'=>e=.returned (.bool true)∧Below W.heap.size W w')∧(Calls Tryz.prog 19 #[.agg xc,.agg yc] W fun e w'=>e=.returned (.bool true)∧Below W.heap.size W w')):=fun cv er W xc yc hb h h'=>sX.same (HBX.out.below hb) HTX.out.sizes.1 h h'
  clear HR HF HFX HSM HV HRV HXO HTX HE hfs hlen HBX HFC HX0 HONE;generalize bC fs x.f=cv at *;generalize aL fs x.f=er at *;generalize dQ x.f=xe at *;go_wp2_with (refine wpList_load_row rfl 30 _ rfl w.heap.size rfl 30 fc (0,0) _ KX.out.2 Tryz.underlying30 rfl HSZ.out ?_);refine(HCH.out _ HB1.out).mono ?_;rintro e w2 ⟨rfl,hb⟩;have KX2:=Hd (KX.out.below hb);have HB2:=Hd (aA HB1.out hb);clear hb HCH KX HB1;go_wp2_with (refine wpList_load_row rfl 30 _ rfl w.heap.size rfl 30 fc (0,0) _ KX2.out.2 Tryz.underlying30 rfl HSZ.out ?_);refine(HRC.out _ HB2.out).mono ?_;rintro e w3 ⟨rfl,hb⟩;have KX3:=Hd (KX2.out.below hb);have HB3:=Hd (aA HB2.out hb);clear hb HRC KX2 HB2;go_wp2_with (refine wpList_load_row rfl 30 _ rfl w.heap.size rfl 30 fc (0,0) _ KX3.out.2 Tryz.underlying30 rfl HSZ.out ?_);refine(HRS.out _ HB3.out).mono ?_;rintro e w4 ⟨xc,rfl,hgo,hb⟩;have hb':=aB w4 (.cells eS 30);have HNEW:=Hd (heap_alloc_new w4 (.cells eS 30));have KX4:=Hd (KX3.out.below hb);have HB4:=Hd (aA HB3.out hb);have HG4:=Hd hgo;have HA4:=Hd hb';have HI4:=Hd hgo.info;have HS4:=Hd hgo.size.1;have HO4:=Hd hgo.size.2;clear hb hb' hgo HRS KX3 HB3;go_wp2_with (first|(refine dR rfl 30 _ _ rfl w4.heap.size rfl xc rfl HNEW.out HI4.out HS4.out HO4.out ?_;intro w5 k5 b5 o5 _;have hb5:=HA4.out.trans (b5 w4.heap.size (Nl _));have HK5:=Hd k5;have HB5:=Hd (aA HB4.out hb5);have KX5:=Hd (KX4.out.below hb5);have HG5:=Hd (HG4.out.below hb5);clear k5 b5 o5 hb5)|(refine wpList_load_row rfl 30 _ rfl w.heap.size rfl 30 fc (0,0) _ KX5.out.2 Tryz.underlying30 rfl HSZ.out ?_));refine(HRR.out _ HB5.out).mono ?_;rintro e w6 ⟨yc,rfl,hgo,hb⟩;have hb':=aB w6 (.cells eS 30);have HNEW6:=Hd (heap_alloc_new w6 (.cells eS 30));have KX6:=Hd (KX5.out.below hb);have HK6:=Hd (HK5.out.below hb);have HG6:=Hd (HG5.out.below hb);have HB6:=Hd (aA HB5.out hb);have HY6:=Hd hgo;have HA6:=Hd hb';have HI6:=Hd hgo.info;have HS6:=Hd hgo.size.1;have HO6:=Hd hgo.size.2;clear hb hb' hgo HRR KX5 HB5 HK5 HG5 HNEW HB4 HG4 HA4 HS4 HO4 KX4;go_wp2_with (refine dR rfl 30 _ _ rfl w6.heap.size rfl yc rfl HNEW6.out HI6.out HS6.out HO6.out ?_;intro w7 k7 b7 o7 _;have hb7:=HA6.out.trans (b7 w6.heap.size (Nl _));have HK7:=Hd k7;have HB7:=Hd (aA HB6.out hb7);have KX7:=Hd (KX6.out.below hb7);have HG7:=Hd (HG6.out.below hb7);have HY7:=Hd (HY6.out.below hb7);have HX7:=Hd (HK6.out.below hb7);clear k7 b7 o7 hb7);have hd:=aD (Br w7.heap.size w7) 1;refine Lv (C:=⟨w7.drewN 1,w.heap.size,w4.heap.size,w6.heap.size,fc,xc,yc,xe,cv,er⟩) ⟨rfl,rfl,rfl,rfl,rfl,rfl,rfl,rfl,rfl,rfl,KX7.out.below hd,HX7.out.below hd,HK7.out.below hd,HSZ.out,HI4.out,HI6.out,fun W hb=>HXK.out W (aA HB7.out (hd.trans hb)),fun W hb=>HRX.out W (aA HB7.out (hd.trans hb)),fun W hb=>(HSA.out cv er W xc yc (aA HB7.out (hd.trans hb)) (HG7.out.below (hd.trans hb)) (HY7.out.below (hd.trans hb))).1,fun W hb=>(HSA.out cv er W xc yc (aA HB7.out (hd.trans hb)) (HG7.out.below (hd.trans hb)) (HY7.out.below (hd.trans hb))).2,fun W hb=>HAW.out W (aA HB7.out (hd.trans hb))⟩ rfl rfl rfl ?_;intro w8 hb;have HB8:=Hd (aA HB7.out (hd.trans hb));simp only[iZ,Ok,List.foldl,List.setIfInBounds_toArray,List.set_cons_zero,List.set_cons_succ,My.val];clear hb hd;go_wp2;go_ret;exact⟨rfl,HB8.out⟩
end
end Go.Proofs.YtbcebibkpfklnaaGreatDoor
