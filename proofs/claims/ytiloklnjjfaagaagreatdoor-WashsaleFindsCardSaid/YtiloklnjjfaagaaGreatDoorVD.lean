/- WDefer -/
import Derived.Test.YtiloklnjjfaagaaGreatDoorVA
import Derived.Test.YtiloklnjjfaagaaGreatDoorVB
set_option maxHeartbeats 16000000
set_option maxRecDepth 100000
namespace Go.Proofs.YtiloklnjjfaagaaGreatDoor
open Go.Proofs.Tryz
open Go Go.RowKit Num
noncomputable def dHx:Array Oper:=(f67.body.bind (dDa 1)).getD #[]
def dHe:List (Nat×Nat):=[(0,9),(1,10),(2,11),(3,12),(4,13),(5,14),(6,15),(7,16),(8,17),(9,18),(10,19),(11,20),(12,21),(13,22),(14,23),(15,24),(16,25),(17,26),(18,27),(19,28),(20,29),(21,30),(22,31),(23,32),(24,33),(25,34),(26,35),(27,36),(28,37),(29,8)]
structure dE4 where
 W0:World
 bx:Nat
 x:aLe
 ins:List UInt8
 d:Int
 wash:Int
 o:List UInt8
 cz:Int
 b1:Bool
 b2:Bool
 b3:Bool
 b4:Bool
 b5:Bool
def dE4.val(C:dE4)(_:Unit):Nat->Value
 |0=>.int .i64 C.wash
 |1=>.bool C.b1
 |2=>.bool C.b1
 |3=>gv C.b1 (.pointer (some ⟨C.bx,2,none⟩))
 |4=>gv C.b1 (.string ⟨C.x.ins.toArray⟩)
 |5=>gv C.b1 (.string ⟨C.ins.toArray⟩)
 |6=>gv C.b1 (.bool C.b2)
 |7=>.bool (C.b1&&C.b2)
 |8=>.bool (C.b1&&C.b2)
 |9=>gv (C.b1&&C.b2) (.agg #[.string ⟨C.x.cause.toArray⟩,.string ⟨C.x.lot.toArray⟩,.string ⟨C.x.ins.toArray⟩,.int .i64 C.x.acq,.int .i64 C.x.cls,.string ⟨C.x.q.toArray⟩,.string ⟨C.x.p.toArray⟩,.string ⟨C.x.c.toArray⟩,.string ⟨C.x.df.toArray⟩,.string ⟨C.x.rp.toArray⟩])
 |10=>gv (C.b1&&C.b2) (.string ⟨C.o.toArray⟩)
 |11=>gv (C.b1&&C.b2) (.int .i64 C.cz)
 |12=>gv (C.b1&&C.b2) (.bool (C.b3))
 |13=>.bool ((C.b1&&C.b2)&&C.b3)
 |14=>.bool ((C.b1&&C.b2)&&C.b3)
 |15=>gv ((C.b1&&C.b2)&&C.b3) (.pointer (some ⟨C.bx,4,none⟩))
 |16=>gv ((C.b1&&C.b2)&&C.b3) (.int .i64 C.x.cls)
 |17=>gv ((C.b1&&C.b2)&&C.b3) (.int .i64 C.d)
 |18=>gv ((C.b1&&C.b2)&&C.b3) (.bool (C.b4))
 |19=>.bool (((C.b1&&C.b2)&&C.b3)&&C.b4)
 |20=>.bool (((C.b1&&C.b2)&&C.b3)&&C.b4)
 |21=>gv (((C.b1&&C.b2)&&C.b3)&&C.b4) (.int .i64 C.d)
 |22=>gv (((C.b1&&C.b2)&&C.b3)&&C.b4) (.pointer (some ⟨C.bx,4,none⟩))
 |23=>gv (((C.b1&&C.b2)&&C.b3)&&C.b4) (.int .i64 C.x.cls)
 |24=>gv (((C.b1&&C.b2)&&C.b3)&&C.b4) (.int .i64 C.wash)
 |25=>gv (((C.b1&&C.b2)&&C.b3)&&C.b4) (.int .i64 C.wash)
 |26=>gv (((C.b1&&C.b2)&&C.b3)&&C.b4) (.int .i64 (C.x.cls+C.wash))
 |27=>gv (((C.b1&&C.b2)&&C.b3)&&C.b4) (.bool (C.b5))
 |28=>.bool ((((C.b1&&C.b2)&&C.b3)&&C.b4)&&C.b5)
 |_=>.bool ((((C.b1&&C.b2)&&C.b3)&&C.b4)&&C.b5)
def dE4.gg(C:dE4)(_:Unit)(_:Array Bool)(W:World):Prop:=Below C.W0.heap.size C.W0 W
structure dJp(C:dE4)(t0:Array Value):Prop where
 sz:t0.size=38
 lo1:t0[1]?=some (.string ⟨C.ins.toArray⟩)
 lo2:t0[2]?=some (.int .i64 C.d)
 lo3:t0[3]?=some (.int .i64 C.wash)
 lo4:t0[4]?=some (.pointer (some ⟨C.bx,0,none⟩))
 kx:aP C.W0 C.bx #[.string ⟨C.x.cause.toArray⟩,.string ⟨C.x.lot.toArray⟩,.string ⟨C.x.ins.toArray⟩,.int .i64 C.x.acq,.int .i64 C.x.cls,.string ⟨C.x.q.toArray⟩,.string ⟨C.x.p.toArray⟩,.string ⟨C.x.c.toArray⟩,.string ⟨C.x.df.toArray⟩,.string ⟨C.x.rp.toArray⟩] 42
 ho:∀W,Below C.W0.heap.size C.W0 W->Calls prog 68 #[.agg #[.string ⟨C.x.cause.toArray⟩,.string ⟨C.x.lot.toArray⟩,.string ⟨C.x.ins.toArray⟩,.int .i64 C.x.acq,.int .i64 C.x.cls,.string ⟨C.x.q.toArray⟩,.string ⟨C.x.p.toArray⟩,.string ⟨C.x.c.toArray⟩,.string ⟨C.x.df.toArray⟩,.string ⟨C.x.rp.toArray⟩]] W fun e w'=>e=.returned (.string ⟨C.o.toArray⟩)/\Below W.heap.size W w'
 hc:∀W,Calls prog 16 #[.string ⟨C.o.toArray⟩,.string ⟨#[]⟩] W fun e w'=>e=.returned (.int .i64 C.cz)/\Below W.heap.size W w'
 hd:∀W,Calls prog 124 #[.int .i64 C.wash] W fun e w'=>e=.returned (.int .i64 C.wash)/\W=w'
 hw:IntKind.i64.wrap (C.x.cls+C.wash)=C.x.cls+C.wash
 h1:decide (0<C.wash)=C.b1
 h2:(C.x.ins==C.ins)=C.b2
 h3:decide (0<C.cz)=C.b3
 h4:decide (C.x.cls<=C.d)=C.b4
 h5:decide (C.d<=C.x.cls+C.wash)=C.b5
section
variable {C:dE4}{t0:Array Value}{Q:Exit->Act->World->Prop}
theorem dGg(M:dJp C t0){a:Act}{w:World}(hdf:a.defers=[])(ht:a.tmps=t0)(hw:w.drewN 1=C.W0)
  (hQ:∀W,Below C.W0.heap.size C.W0 W->Q .normal { tmps:=iZ (C.val ()) dHe t0,defers:=[] } W):(Code.region 1 dHx true).wp prog Q a w:=by
 have hsz:dHx.size=30:=by kernel_rfl
 refine dCy (ds:=dHe) (val:=C.val) (G:=C.gg) (by kernel_rfl) (by kernel_rfl) (by decide) (fun p hp=>?_) (by kernel_rfl) ?_ (γ:=()) hdf ht (by rw[hw];exact Br _ _) (fun _ _ W _ hg=>hQ W hg)
 ·rw[M.sz];have:∀p,p∈dHe->p.2<38:=by decide
  exact this p hp
 ·intro γ l a w i H hr;cases γ;have hi:i<30:=by
   obtain⟨_,o,ho,_⟩:=mem_ready.1 hr;have:=(Ai.1 ho).1;rw[hsz] at this;exact this
  have lo1:=H.low (s:=1) (by decide) M.lo1;have lo2:=H.low (s:=2) (by decide) M.lo2;have lo3:=H.low (s:=3) (by decide) M.lo3;have lo4:=H.low (s:=4) (by decide) M.lo4;have hb:=H.g
  match i,hi,hr with
  |0,_,hr =>
   exact aWj (.move (.tmp 3)) (.int .i64 C.wash) (fun o h=>by simp[execOp,h,lo3,go_sem]) hb
  |1,_,hr =>
   have v0:a.tmps[9]?=some (.int .i64 C.wash):=H.dep hr 0 9;exact aWj (.binOp .gtr 3 (.tmp 9) (.const (.int .i64 0)) 3) (.bool C.b1) (fun o h=>by simp[execOp,h,v0,M.h1,go_sem]) hb
  |2,_,hr =>
   have v1:a.tmps[10]?=some (.bool C.b1):=H.dep hr 1 10;exact aWj (.move (.tmp 10)) (.bool C.b1) (fun o h=>by simp[execOp,h,v1,go_sem]) hb
  |3,_,hr =>
   have hv:a.tmps[11]?=some (.bool C.b1):=H.dep hr 2 11;exact dH (X:=.fieldAddr 42 (.tmp 4) 2) (v:=.pointer (some ⟨C.bx,2,none⟩)) (gb:=C.b1) (by kernel_rfl) (by kernel_rfl) (j:=2) (s:=11) (by kernel_rfl) hv rfl (fun hgb o h=>by simp[execOp,h,lo4,go_sem]) hb
  |4,_,hr =>
   have hv:a.tmps[11]?=some (.bool C.b1):=H.dep hr 2 11;have v3:a.tmps[12]?=some (gv C.b1 (.pointer (some ⟨C.bx,2,none⟩))):=H.dep hr 3 12;have c2:w.cell? ⟨C.bx,2,none⟩=some (.string ⟨C.x.ins.toArray⟩):=(hb.cell (p:=⟨C.bx,2,none⟩) M.kx.1).trans ((M.kx.cell 2).trans rfl);exact dH (X:=.load 9 (.tmp 12)) (v:=.string ⟨C.x.ins.toArray⟩) (gb:=C.b1) (by kernel_rfl) (by kernel_rfl) (j:=2) (s:=11) (by kernel_rfl) hv rfl (fun hgb o h=>by unfold gv at v3;rw[hgb,if_pos rfl] at v3;simp[execOp,h,v3,c2,go_sem]) hb
  |5,_,hr =>
   have hv:a.tmps[11]?=some (.bool C.b1):=H.dep hr 2 11;exact dH (X:=.move (.tmp 1)) (v:=.string ⟨C.ins.toArray⟩) (gb:=C.b1) (by kernel_rfl) (by kernel_rfl) (j:=2) (s:=11) (by kernel_rfl) hv rfl (fun hgb o h=>by simp[execOp,h,lo1,go_sem]) hb
  |6,_,hr =>
   have hv:a.tmps[11]?=some (.bool C.b1):=H.dep hr 2 11;have v4:a.tmps[13]?=some (gv C.b1 (.string ⟨C.x.ins.toArray⟩)):=H.dep hr 4 13;have v5:a.tmps[14]?=some (gv C.b1 (.string ⟨C.ins.toArray⟩)):=H.dep hr 5 14;exact dH (X:=.binOp .eql 9 (.tmp 13) (.tmp 14) 9) (v:=.bool C.b2) (gb:=C.b1) (by kernel_rfl) (by kernel_rfl) (j:=2) (s:=11) (by kernel_rfl) hv rfl (fun hgb o h=>by unfold gv at v4 v5;rw[hgb,if_pos rfl] at v4 v5;simp[execOp,h,v4,v5,M.h2,go_sem]) hb
  |7,_,hr =>
   have v2:a.tmps[11]?=some (.bool C.b1):=H.dep hr 2 11;have v6:a.tmps[15]?=some (gv C.b1 (.bool C.b2)):=H.dep hr 6 15;exact aWj (.pick (.tmp 11) (.tmp 15) (.const (.bool false))) (.bool (C.b1&&C.b2)) (fun o h=>by cases hX:C.b1 <;> rw[hX] at v2 v6 <;> simp[execOp,h,v2,v6,gv,go_sem]) hb
  |8,_,hr =>
   have v7:a.tmps[16]?=some (.bool (C.b1&&C.b2)):=H.dep hr 7 16;exact aWj (.move (.tmp 16)) (.bool (C.b1&&C.b2)) (fun o h=>by simp[execOp,h,v7,go_sem]) hb
  |9,_,hr =>
   have hv:a.tmps[17]?=some (.bool (C.b1&&C.b2)):=H.dep hr 8 17;have c0:w.cell? ⟨C.bx,0,none⟩=some (.string ⟨C.x.cause.toArray⟩):=(hb.cell (p:=⟨C.bx,0,none⟩) M.kx.1).trans ((M.kx.cell 0).trans rfl);have c1:w.cell? ⟨C.bx,1,none⟩=some (.string ⟨C.x.lot.toArray⟩):=(hb.cell (p:=⟨C.bx,1,none⟩) M.kx.1).trans ((M.kx.cell 1).trans rfl);have c2:w.cell? ⟨C.bx,2,none⟩=some (.string ⟨C.x.ins.toArray⟩):=(hb.cell (p:=⟨C.bx,2,none⟩) M.kx.1).trans ((M.kx.cell 2).trans rfl);have c3:w.cell? ⟨C.bx,3,none⟩=some (.int .i64 C.x.acq):=(hb.cell (p:=⟨C.bx,3,none⟩) M.kx.1).trans ((M.kx.cell 3).trans rfl);have c4:w.cell? ⟨C.bx,4,none⟩=some (.int .i64 C.x.cls):=(hb.cell (p:=⟨C.bx,4,none⟩) M.kx.1).trans ((M.kx.cell 4).trans rfl);have c5:w.cell? ⟨C.bx,5,none⟩=some (.string ⟨C.x.q.toArray⟩):=(hb.cell (p:=⟨C.bx,5,none⟩) M.kx.1).trans ((M.kx.cell 5).trans rfl);have c6:w.cell? ⟨C.bx,6,none⟩=some (.string ⟨C.x.p.toArray⟩):=(hb.cell (p:=⟨C.bx,6,none⟩) M.kx.1).trans ((M.kx.cell 6).trans rfl);have c7:w.cell? ⟨C.bx,7,none⟩=some (.string ⟨C.x.c.toArray⟩):=(hb.cell (p:=⟨C.bx,7,none⟩) M.kx.1).trans ((M.kx.cell 7).trans rfl);have c8:w.cell? ⟨C.bx,8,none⟩=some (.string ⟨C.x.df.toArray⟩):=(hb.cell (p:=⟨C.bx,8,none⟩) M.kx.1).trans ((M.kx.cell 8).trans rfl);have c9:w.cell? ⟨C.bx,9,none⟩=some (.string ⟨C.x.rp.toArray⟩):=(hb.cell (p:=⟨C.bx,9,none⟩) M.kx.1).trans ((M.kx.cell 9).trans rfl);exact dH (X:=.load 42 (.tmp 4)) (v:=.agg #[.string ⟨C.x.cause.toArray⟩,.string ⟨C.x.lot.toArray⟩,.string ⟨C.x.ins.toArray⟩,.int .i64 C.x.acq,.int .i64 C.x.cls,.string ⟨C.x.q.toArray⟩,.string ⟨C.x.p.toArray⟩,.string ⟨C.x.c.toArray⟩,.string ⟨C.x.df.toArray⟩,.string ⟨C.x.rp.toArray⟩]) (gb:=(C.b1&&C.b2)) (by kernel_rfl) (by kernel_rfl) (j:=8) (s:=17) (by kernel_rfl) hv rfl (fun hgb o h=>by simp[execOp,h,lo4,c0,c1,c2,c3,c4,c5,c6,c7,c8,c9,go_sem]) hb
  |10,_,hr =>
   have hv:a.tmps[17]?=some (.bool (C.b1&&C.b2)):=H.dep hr 8 17;have v9:a.tmps[18]?=some (gv (C.b1&&C.b2) (.agg #[.string ⟨C.x.cause.toArray⟩,.string ⟨C.x.lot.toArray⟩,.string ⟨C.x.ins.toArray⟩,.int .i64 C.x.acq,.int .i64 C.x.cls,.string ⟨C.x.q.toArray⟩,.string ⟨C.x.p.toArray⟩,.string ⟨C.x.c.toArray⟩,.string ⟨C.x.df.toArray⟩,.string ⟨C.x.rp.toArray⟩])):=H.dep hr 9 18;refine qL (f:=68) (lb:=#[]) (c:=.func 68) (args:=#[(.tmp 18)]) (ts:=#[42]) (vs:=#[.agg #[.string ⟨C.x.cause.toArray⟩,.string ⟨C.x.lot.toArray⟩,.string ⟨C.x.ins.toArray⟩,.int .i64 C.x.acq,.int .i64 C.x.cls,.string ⟨C.x.q.toArray⟩,.string ⟨C.x.p.toArray⟩,.string ⟨C.x.c.toArray⟩,.string ⟨C.x.df.toArray⟩,.string ⟨C.x.rp.toArray⟩]]) (gb:=(C.b1&&C.b2)) (by kernel_rfl) (by kernel_rfl) (j:=8) (s:=17) (by kernel_rfl) hv rfl (aXb func68) (fun h=>by simp[dE4.val,gv,h]) (fun _=>hb) (fun hgb=>by unfold gv at v9;rw[hgb,if_pos rfl] at v9;simp[Act.eval,v9]) (fun hgb=>(M.ho _ hb).mono ?_);rintro e w' ⟨rfl,hb'⟩;exact⟨_,(),rfl,by simp[dE4.val,gv,hgb],fun _ _=>rfl,aA hb hb'⟩
  |11,_,hr =>
   have hv:a.tmps[17]?=some (.bool (C.b1&&C.b2)):=H.dep hr 8 17;have v10:a.tmps[19]?=some (gv (C.b1&&C.b2) (.string ⟨C.o.toArray⟩)):=H.dep hr 10 19;refine qL (f:=16) (lb:=#[]) (c:=.func 16) (args:=#[(.tmp 19),(.const (.string ⟨#[]⟩))]) (ts:=#[36,36]) (vs:=#[.string ⟨C.o.toArray⟩,.string ⟨#[]⟩]) (gb:=(C.b1&&C.b2)) (by kernel_rfl) (by kernel_rfl) (j:=8) (s:=17) (by kernel_rfl) hv rfl (aXb func16) (fun h=>by simp[dE4.val,gv,h]) (fun _=>hb) (fun hgb=>by unfold gv at v10;rw[hgb,if_pos rfl] at v10;simp[Act.eval,v10]) (fun hgb=>(M.hc _).mono ?_);rintro e w' ⟨rfl,hb'⟩;exact⟨_,(),rfl,by simp[dE4.val,gv,hgb],fun _ _=>rfl,aA hb hb'⟩
  |12,_,hr =>
   have hv:a.tmps[17]?=some (.bool (C.b1&&C.b2)):=H.dep hr 8 17;have v11:a.tmps[20]?=some (gv (C.b1&&C.b2) (.int .i64 C.cz)):=H.dep hr 11 20;exact dH (X:=.binOp .gtr 3 (.tmp 20) (.const (.int .i64 0)) 3) (v:=.bool (C.b3)) (gb:=(C.b1&&C.b2)) (by kernel_rfl) (by kernel_rfl) (j:=8) (s:=17) (by kernel_rfl) hv rfl (fun hgb o h=>by unfold gv at v11;rw[hgb,if_pos rfl] at v11;simp[execOp,h,v11,M.h3,go_sem]) hb
  |13,_,hr =>
   have v8:a.tmps[17]?=some (.bool (C.b1&&C.b2)):=H.dep hr 8 17;have v12:a.tmps[21]?=some (gv (C.b1&&C.b2) (.bool (C.b3))):=H.dep hr 12 21;exact aWj (.pick (.tmp 17) (.tmp 21) (.const (.bool false))) (.bool ((C.b1&&C.b2)&&C.b3)) (fun o h=>by cases hX:(C.b1&&C.b2) <;> rw[hX] at v8 v12 <;> simp[execOp,h,v8,v12,gv,go_sem]) hb
  |14,_,hr =>
   have v13:a.tmps[22]?=some (.bool ((C.b1&&C.b2)&&C.b3)):=H.dep hr 13 22;exact aWj (.move (.tmp 22)) (.bool ((C.b1&&C.b2)&&C.b3)) (fun o h=>by simp[execOp,h,v13,go_sem]) hb
  |15,_,hr =>
   have hv:a.tmps[23]?=some (.bool ((C.b1&&C.b2)&&C.b3)):=H.dep hr 14 23;exact dH (X:=.fieldAddr 42 (.tmp 4) 4) (v:=.pointer (some ⟨C.bx,4,none⟩)) (gb:=((C.b1&&C.b2)&&C.b3)) (by kernel_rfl) (by kernel_rfl) (j:=14) (s:=23) (by kernel_rfl) hv rfl (fun hgb o h=>by simp[execOp,h,lo4,go_sem]) hb
  |16,_,hr =>
   have hv:a.tmps[23]?=some (.bool ((C.b1&&C.b2)&&C.b3)):=H.dep hr 14 23;have v15:a.tmps[24]?=some (gv ((C.b1&&C.b2)&&C.b3) (.pointer (some ⟨C.bx,4,none⟩))):=H.dep hr 15 24;have c4:w.cell? ⟨C.bx,4,none⟩=some (.int .i64 C.x.cls):=(hb.cell (p:=⟨C.bx,4,none⟩) M.kx.1).trans ((M.kx.cell 4).trans rfl);exact dH (X:=.load 24 (.tmp 24)) (v:=.int .i64 C.x.cls) (gb:=((C.b1&&C.b2)&&C.b3)) (by kernel_rfl) (by kernel_rfl) (j:=14) (s:=23) (by kernel_rfl) hv rfl (fun hgb o h=>by unfold gv at v15;rw[hgb,if_pos rfl] at v15;simp[execOp,h,v15,c4,go_sem]) hb
  |17,_,hr =>
   have hv:a.tmps[23]?=some (.bool ((C.b1&&C.b2)&&C.b3)):=H.dep hr 14 23;exact dH (X:=.move (.tmp 2)) (v:=.int .i64 C.d) (gb:=((C.b1&&C.b2)&&C.b3)) (by kernel_rfl) (by kernel_rfl) (j:=14) (s:=23) (by kernel_rfl) hv rfl (fun hgb o h=>by simp[execOp,h,lo2,go_sem]) hb
  |18,_,hr =>
   have hv:a.tmps[23]?=some (.bool ((C.b1&&C.b2)&&C.b3)):=H.dep hr 14 23;have v16:a.tmps[25]?=some (gv ((C.b1&&C.b2)&&C.b3) (.int .i64 C.x.cls)):=H.dep hr 16 25;have v17:a.tmps[26]?=some (gv ((C.b1&&C.b2)&&C.b3) (.int .i64 C.d)):=H.dep hr 17 26;exact dH (X:=.binOp .leq 24 (.tmp 25) (.tmp 26) 24) (v:=.bool (C.b4)) (gb:=((C.b1&&C.b2)&&C.b3)) (by kernel_rfl) (by kernel_rfl) (j:=14) (s:=23) (by kernel_rfl) hv rfl (fun hgb o h=>by unfold gv at v16 v17;rw[hgb,if_pos rfl] at v16 v17;simp[execOp,h,v16,v17,M.h4,go_sem]) hb
  |19,_,hr =>
   have v14:a.tmps[23]?=some (.bool ((C.b1&&C.b2)&&C.b3)):=H.dep hr 14 23;have v18:a.tmps[27]?=some (gv ((C.b1&&C.b2)&&C.b3) (.bool (C.b4))):=H.dep hr 18 27;exact aWj (.pick (.tmp 23) (.tmp 27) (.const (.bool false))) (.bool (((C.b1&&C.b2)&&C.b3)&&C.b4)) (fun o h=>by cases hX:((C.b1&&C.b2)&&C.b3) <;> rw[hX] at v14 v18 <;> simp[execOp,h,v14,v18,gv,go_sem]) hb
  |20,_,hr =>
   have v19:a.tmps[28]?=some (.bool (((C.b1&&C.b2)&&C.b3)&&C.b4)):=H.dep hr 19 28;exact aWj (.move (.tmp 28)) (.bool (((C.b1&&C.b2)&&C.b3)&&C.b4)) (fun o h=>by simp[execOp,h,v19,go_sem]) hb
  |21,_,hr =>
   have hv:a.tmps[29]?=some (.bool (((C.b1&&C.b2)&&C.b3)&&C.b4)):=H.dep hr 20 29;exact dH (X:=.move (.tmp 2)) (v:=.int .i64 C.d) (gb:=(((C.b1&&C.b2)&&C.b3)&&C.b4)) (by kernel_rfl) (by kernel_rfl) (j:=20) (s:=29) (by kernel_rfl) hv rfl (fun hgb o h=>by simp[execOp,h,lo2,go_sem]) hb
  |22,_,hr =>
   have hv:a.tmps[29]?=some (.bool (((C.b1&&C.b2)&&C.b3)&&C.b4)):=H.dep hr 20 29;exact dH (X:=.fieldAddr 42 (.tmp 4) 4) (v:=.pointer (some ⟨C.bx,4,none⟩)) (gb:=(((C.b1&&C.b2)&&C.b3)&&C.b4)) (by kernel_rfl) (by kernel_rfl) (j:=20) (s:=29) (by kernel_rfl) hv rfl (fun hgb o h=>by simp[execOp,h,lo4,go_sem]) hb
  |23,_,hr =>
   have hv:a.tmps[29]?=some (.bool (((C.b1&&C.b2)&&C.b3)&&C.b4)):=H.dep hr 20 29;have v22:a.tmps[31]?=some (gv (((C.b1&&C.b2)&&C.b3)&&C.b4) (.pointer (some ⟨C.bx,4,none⟩))):=H.dep hr 22 31;have c4:w.cell? ⟨C.bx,4,none⟩=some (.int .i64 C.x.cls):=(hb.cell (p:=⟨C.bx,4,none⟩) M.kx.1).trans ((M.kx.cell 4).trans rfl);exact dH (X:=.load 24 (.tmp 31)) (v:=.int .i64 C.x.cls) (gb:=(((C.b1&&C.b2)&&C.b3)&&C.b4)) (by kernel_rfl) (by kernel_rfl) (j:=20) (s:=29) (by kernel_rfl) hv rfl (fun hgb o h=>by unfold gv at v22;rw[hgb,if_pos rfl] at v22;simp[execOp,h,v22,c4,go_sem]) hb
  |24,_,hr =>
   have hv:a.tmps[29]?=some (.bool (((C.b1&&C.b2)&&C.b3)&&C.b4)):=H.dep hr 20 29;exact dH (X:=.move (.tmp 3)) (v:=.int .i64 C.wash) (gb:=(((C.b1&&C.b2)&&C.b3)&&C.b4)) (by kernel_rfl) (by kernel_rfl) (j:=20) (s:=29) (by kernel_rfl) hv rfl (fun hgb o h=>by simp[execOp,h,lo3,go_sem]) hb
  |25,_,hr =>
   have hv:a.tmps[29]?=some (.bool (((C.b1&&C.b2)&&C.b3)&&C.b4)):=H.dep hr 20 29;have v24:a.tmps[33]?=some (gv (((C.b1&&C.b2)&&C.b3)&&C.b4) (.int .i64 C.wash)):=H.dep hr 24 33;refine qL (f:=124) (lb:=#[]) (c:=.func 124) (args:=#[(.tmp 33)]) (ts:=#[3]) (vs:=#[.int .i64 C.wash]) (gb:=(((C.b1&&C.b2)&&C.b3)&&C.b4)) (by kernel_rfl) (by kernel_rfl) (j:=20) (s:=29) (by kernel_rfl) hv rfl (aXb func124) (fun h=>by simp[dE4.val,gv,h]) (fun _=>hb) (fun hgb=>by unfold gv at v24;rw[hgb,if_pos rfl] at v24;simp[Act.eval,v24]) (fun hgb=>(M.hd _).mono ?_);rintro e w' ⟨rfl,rfl⟩;exact⟨_,(),rfl,by simp[dE4.val,gv,hgb],fun _ _=>rfl,hb⟩
  |26,_,hr =>
   have hv:a.tmps[29]?=some (.bool (((C.b1&&C.b2)&&C.b3)&&C.b4)):=H.dep hr 20 29;have v23:a.tmps[32]?=some (gv (((C.b1&&C.b2)&&C.b3)&&C.b4) (.int .i64 C.x.cls)):=H.dep hr 23 32;have v25:a.tmps[34]?=some (gv (((C.b1&&C.b2)&&C.b3)&&C.b4) (.int .i64 C.wash)):=H.dep hr 25 34;exact dH (X:=.binOp .add 24 (.tmp 32) (.tmp 34) 24) (v:=.int .i64 (C.x.cls+C.wash)) (gb:=(((C.b1&&C.b2)&&C.b3)&&C.b4)) (by kernel_rfl) (by kernel_rfl) (j:=20) (s:=29) (by kernel_rfl) hv rfl (fun hgb o h=>by unfold gv at v23 v25;rw[hgb,if_pos rfl] at v23 v25;simp[execOp,h,v23,v25,M.hw,go_sem]) hb
  |27,_,hr =>
   have hv:a.tmps[29]?=some (.bool (((C.b1&&C.b2)&&C.b3)&&C.b4)):=H.dep hr 20 29;have v21:a.tmps[30]?=some (gv (((C.b1&&C.b2)&&C.b3)&&C.b4) (.int .i64 C.d)):=H.dep hr 21 30;have v26:a.tmps[35]?=some (gv (((C.b1&&C.b2)&&C.b3)&&C.b4) (.int .i64 (C.x.cls+C.wash))):=H.dep hr 26 35;exact dH (X:=.binOp .leq 24 (.tmp 30) (.tmp 35) 24) (v:=.bool (C.b5)) (gb:=(((C.b1&&C.b2)&&C.b3)&&C.b4)) (by kernel_rfl) (by kernel_rfl) (j:=20) (s:=29) (by kernel_rfl) hv rfl (fun hgb o h=>by unfold gv at v21 v26;rw[hgb,if_pos rfl] at v21 v26;simp[execOp,h,v21,v26,M.h5,go_sem]) hb
  |28,_,hr =>
   have v20:a.tmps[29]?=some (.bool (((C.b1&&C.b2)&&C.b3)&&C.b4)):=H.dep hr 20 29;have v27:a.tmps[36]?=some (gv (((C.b1&&C.b2)&&C.b3)&&C.b4) (.bool (C.b5))):=H.dep hr 27 36;exact aWj (.pick (.tmp 29) (.tmp 36) (.const (.bool false))) (.bool ((((C.b1&&C.b2)&&C.b3)&&C.b4)&&C.b5)) (fun o h=>by cases hX:(((C.b1&&C.b2)&&C.b3)&&C.b4) <;> rw[hX] at v20 v27 <;> simp[execOp,h,v20,v27,gv,go_sem]) hb
  |29,_,hr =>
   have v28:a.tmps[37]?=some (.bool ((((C.b1&&C.b2)&&C.b3)&&C.b4)&&C.b5)):=H.dep hr 28 37;exact aWj (.assign (.tmp 37)) (.bool ((((C.b1&&C.b2)&&C.b3)&&C.b4)&&C.b5)) (fun o h=>by simp[execOp,h,v28,go_sem]) hb
  |n+30,h,_=>exact absurd h (by omega)
end
noncomputable def dHr:Array Oper:=(f69.body.bind (dDa 1)).getD #[]
def dG8:List (Nat×Nat):=[(0,9),(1,10),(2,11),(3,12),(4,13),(5,14),(6,15),(7,16),(8,17),(9,18),(10,19),(11,20),(12,21),(13,22),(14,23),(15,24),(16,25),(17,26),(18,27),(19,28),(20,29),(21,30),(22,31),(23,32),(24,33),(25,34),(26,35),(27,36),(28,37),(29,38),(30,39),(31,40),(32,41),(33,42),(34,43),(35,44),(36,45),(37,46),(38,47),(39,48),(40,8)]
structure dEn where
 W0:World
 bx:Nat
 by_:Nat
 x:aLe
 y:Bd
 d:Int
 wash:Int
 o:List UInt8
 cz:Int
 mn:Int
 b1:Bool
 b2:Bool
 b3:Bool
 b4:Bool
 b5:Bool
def dEn.val(C:dEn)(_:Unit):Nat->Value
 |0=>.pointer (some ⟨C.by_,1,none⟩)
 |1=>.string ⟨C.y.ins.toArray⟩
 |2=>.pointer (some ⟨C.bx,2,none⟩)
 |3=>.string ⟨C.x.ins.toArray⟩
 |4=>.bool C.b1
 |5=>.bool C.b1
 |6=>gv C.b1 (.agg #[.string ⟨C.y.id.toArray⟩,.string ⟨C.y.ins.toArray⟩,.int .i64 C.y.acq,.int .i64 C.y.opn,.string ⟨C.y.q.toArray⟩,.string ⟨C.y.c.toArray⟩,.string ⟨C.y.u.toArray⟩])
 |7=>gv C.b1 (.string ⟨C.o.toArray⟩)
 |8=>gv C.b1 (.int .i64 C.cz)
 |9=>gv C.b1 (.bool (C.b2))
 |10=>.bool (C.b1&&C.b2)
 |11=>.bool (C.b1&&C.b2)
 |12=>gv (C.b1&&C.b2) (.pointer (some ⟨C.by_,0,none⟩))
 |13=>gv (C.b1&&C.b2) (.string ⟨C.y.id.toArray⟩)
 |14=>gv (C.b1&&C.b2) (.pointer (some ⟨C.bx,1,none⟩))
 |15=>gv (C.b1&&C.b2) (.string ⟨C.x.lot.toArray⟩)
 |16=>gv (C.b1&&C.b2) (.bool C.b3)
 |17=>.bool ((C.b1&&C.b2)&&C.b3)
 |18=>.bool ((C.b1&&C.b2)&&C.b3)
 |19=>gv ((C.b1&&C.b2)&&C.b3) (.pointer (some ⟨C.bx,4,none⟩))
 |20=>gv ((C.b1&&C.b2)&&C.b3) (.int .i64 C.x.cls)
 |21=>gv ((C.b1&&C.b2)&&C.b3) (.int .i64 C.wash)
 |22=>gv ((C.b1&&C.b2)&&C.b3) (.int .i64 C.wash)
 |23=>gv ((C.b1&&C.b2)&&C.b3) (.int .i64 (C.x.cls-C.wash))
 |24=>gv ((C.b1&&C.b2)&&C.b3) (.pointer (some ⟨C.by_,3,none⟩))
 |25=>gv ((C.b1&&C.b2)&&C.b3) (.int .i64 C.y.opn)
 |26=>gv ((C.b1&&C.b2)&&C.b3) (.bool (C.b4))
 |27=>.bool (((C.b1&&C.b2)&&C.b3)&&C.b4)
 |28=>.bool (((C.b1&&C.b2)&&C.b3)&&C.b4)
 |29=>gv (((C.b1&&C.b2)&&C.b3)&&C.b4) (.pointer (some ⟨C.by_,3,none⟩))
 |30=>gv (((C.b1&&C.b2)&&C.b3)&&C.b4) (.int .i64 C.y.opn)
 |31=>gv (((C.b1&&C.b2)&&C.b3)&&C.b4) (.pointer (some ⟨C.bx,4,none⟩))
 |32=>gv (((C.b1&&C.b2)&&C.b3)&&C.b4) (.int .i64 C.x.cls)
 |33=>gv (((C.b1&&C.b2)&&C.b3)&&C.b4) (.int .i64 C.wash)
 |34=>gv (((C.b1&&C.b2)&&C.b3)&&C.b4) (.int .i64 C.wash)
 |35=>gv (((C.b1&&C.b2)&&C.b3)&&C.b4) (.int .i64 (C.x.cls+C.wash))
 |36=>gv (((C.b1&&C.b2)&&C.b3)&&C.b4) (.int .i64 C.d)
 |37=>gv (((C.b1&&C.b2)&&C.b3)&&C.b4) (.int .i64 C.mn)
 |38=>gv (((C.b1&&C.b2)&&C.b3)&&C.b4) (.bool (C.b5))
 |39=>.bool ((((C.b1&&C.b2)&&C.b3)&&C.b4)&&C.b5)
 |_=>.bool ((((C.b1&&C.b2)&&C.b3)&&C.b4)&&C.b5)
def dEn.gg(C:dEn)(_:Unit)(_:Array Bool)(W:World):Prop:=Below C.W0.heap.size C.W0 W
structure dJl(C:dEn)(t0:Array Value):Prop where
 sz:t0.size=49
 lo2:t0[2]?=some (.int .i64 C.d)
 lo3:t0[3]?=some (.int .i64 C.wash)
 lo4:t0[4]?=some (.pointer (some ⟨C.by_,0,none⟩))
 lo5:t0[5]?=some (.pointer (some ⟨C.bx,0,none⟩))
 kx:aP C.W0 C.bx #[.string ⟨C.x.cause.toArray⟩,.string ⟨C.x.lot.toArray⟩,.string ⟨C.x.ins.toArray⟩,.int .i64 C.x.acq,.int .i64 C.x.cls,.string ⟨C.x.q.toArray⟩,.string ⟨C.x.p.toArray⟩,.string ⟨C.x.c.toArray⟩,.string ⟨C.x.df.toArray⟩,.string ⟨C.x.rp.toArray⟩] 42
 ky:aP C.W0 C.by_ #[.string ⟨C.y.id.toArray⟩,.string ⟨C.y.ins.toArray⟩,.int .i64 C.y.acq,.int .i64 C.y.opn,.string ⟨C.y.q.toArray⟩,.string ⟨C.y.c.toArray⟩,.string ⟨C.y.u.toArray⟩] 49
 ho:∀W,Below C.W0.heap.size C.W0 W->Calls prog 75 #[.agg #[.string ⟨C.y.id.toArray⟩,.string ⟨C.y.ins.toArray⟩,.int .i64 C.y.acq,.int .i64 C.y.opn,.string ⟨C.y.q.toArray⟩,.string ⟨C.y.c.toArray⟩,.string ⟨C.y.u.toArray⟩]] W fun e w'=>e=.returned (.string ⟨C.o.toArray⟩)/\Below W.heap.size W w'
 hc:∀W,Calls prog 16 #[.string ⟨C.o.toArray⟩,.string ⟨#[]⟩] W fun e w'=>e=.returned (.int .i64 C.cz)/\Below W.heap.size W w'
 hd:∀W,Calls prog 124 #[.int .i64 C.wash] W fun e w'=>e=.returned (.int .i64 C.wash)/\W=w'
 hm:C.mn=min (C.x.cls+C.wash) C.d
 hw:IntKind.i64.wrap (C.x.cls+C.wash)=C.x.cls+C.wash
 hv:IntKind.i64.wrap (C.x.cls-C.wash)=C.x.cls-C.wash
 h1:(C.y.ins==C.x.ins)=C.b1
 h2:decide (0<C.cz)=C.b2
 h3:(C.y.id==C.x.lot) = !C.b3
 h4:decide (C.x.cls-C.wash<=C.y.opn)=C.b4
 h5:decide (C.y.opn<=C.mn)=C.b5
section
variable {C:dEn}{t0:Array Value}{Q:Exit->Act->World->Prop}
theorem dGa(M:dJl C t0){a:Act}{w:World}(hdf:a.defers=[])(ht:a.tmps=t0)(hw:w.drewN 1=C.W0)
  (hQ:∀W,Below C.W0.heap.size C.W0 W->Q .normal { tmps:=iZ (C.val ()) dG8 t0,defers:=[] } W):(Code.region 1 dHr true).wp prog Q a w:=by
 have hsz:dHr.size=41:=by kernel_rfl
 refine dCy (ds:=dG8) (val:=C.val) (G:=C.gg) (by kernel_rfl) (by kernel_rfl) (by decide) (fun p hp=>?_) (by kernel_rfl) ?_ (γ:=()) hdf ht (by rw[hw];exact Br _ _) (fun _ _ W _ hg=>hQ W hg)
 ·rw[M.sz];have:∀p,p∈dG8->p.2<49:=by decide
  exact this p hp
 ·intro γ l a w i H hr;cases γ;have hi:i<41:=by
   obtain⟨_,o,ho,_⟩:=mem_ready.1 hr;have:=(Ai.1 ho).1;rw[hsz] at this;exact this
  have lo2:=H.low (s:=2) (by decide) M.lo2;have lo3:=H.low (s:=3) (by decide) M.lo3;have lo4:=H.low (s:=4) (by decide) M.lo4;have lo5:=H.low (s:=5) (by decide) M.lo5;have hb:=H.g
  match i,hi,hr with
  |0,_,hr =>
   exact aWj (.fieldAddr 49 (.tmp 4) 1) (.pointer (some ⟨C.by_,1,none⟩)) (fun o h=>by simp[execOp,h,lo4,go_sem]) hb
  |1,_,hr =>
   have v0:a.tmps[9]?=some (.pointer (some ⟨C.by_,1,none⟩)):=H.dep hr 0 9;have e1:w.cell? ⟨C.by_,1,none⟩=some (.string ⟨C.y.ins.toArray⟩):=(hb.cell (p:=⟨C.by_,1,none⟩) M.ky.1).trans ((M.ky.cell 1).trans rfl);exact aWj (.load 9 (.tmp 9)) (.string ⟨C.y.ins.toArray⟩) (fun o h=>by simp[execOp,h,v0,e1,go_sem]) hb
  |2,_,hr =>
   exact aWj (.fieldAddr 42 (.tmp 5) 2) (.pointer (some ⟨C.bx,2,none⟩)) (fun o h=>by simp[execOp,h,lo5,go_sem]) hb
  |3,_,hr =>
   have v2:a.tmps[11]?=some (.pointer (some ⟨C.bx,2,none⟩)):=H.dep hr 2 11;have c2:w.cell? ⟨C.bx,2,none⟩=some (.string ⟨C.x.ins.toArray⟩):=(hb.cell (p:=⟨C.bx,2,none⟩) M.kx.1).trans ((M.kx.cell 2).trans rfl);exact aWj (.load 9 (.tmp 11)) (.string ⟨C.x.ins.toArray⟩) (fun o h=>by simp[execOp,h,v2,c2,go_sem]) hb
  |4,_,hr =>
   have v1:a.tmps[10]?=some (.string ⟨C.y.ins.toArray⟩):=H.dep hr 1 10;have v3:a.tmps[12]?=some (.string ⟨C.x.ins.toArray⟩):=H.dep hr 3 12;exact aWj (.binOp .eql 9 (.tmp 10) (.tmp 12) 9) (.bool C.b1) (fun o h=>by simp[execOp,h,v1,v3,M.h1,go_sem]) hb
  |5,_,hr =>
   have v4:a.tmps[13]?=some (.bool C.b1):=H.dep hr 4 13;exact aWj (.move (.tmp 13)) (.bool C.b1) (fun o h=>by simp[execOp,h,v4,go_sem]) hb
  |6,_,hr =>
   have hv:a.tmps[14]?=some (.bool C.b1):=H.dep hr 5 14;have e0:w.cell? ⟨C.by_,0,none⟩=some (.string ⟨C.y.id.toArray⟩):=(hb.cell (p:=⟨C.by_,0,none⟩) M.ky.1).trans ((M.ky.cell 0).trans rfl);have e1:w.cell? ⟨C.by_,1,none⟩=some (.string ⟨C.y.ins.toArray⟩):=(hb.cell (p:=⟨C.by_,1,none⟩) M.ky.1).trans ((M.ky.cell 1).trans rfl);have e2:w.cell? ⟨C.by_,2,none⟩=some (.int .i64 C.y.acq):=(hb.cell (p:=⟨C.by_,2,none⟩) M.ky.1).trans ((M.ky.cell 2).trans rfl);have e3:w.cell? ⟨C.by_,3,none⟩=some (.int .i64 C.y.opn):=(hb.cell (p:=⟨C.by_,3,none⟩) M.ky.1).trans ((M.ky.cell 3).trans rfl);have e4:w.cell? ⟨C.by_,4,none⟩=some (.string ⟨C.y.q.toArray⟩):=(hb.cell (p:=⟨C.by_,4,none⟩) M.ky.1).trans ((M.ky.cell 4).trans rfl);have e5:w.cell? ⟨C.by_,5,none⟩=some (.string ⟨C.y.c.toArray⟩):=(hb.cell (p:=⟨C.by_,5,none⟩) M.ky.1).trans ((M.ky.cell 5).trans rfl);have e6:w.cell? ⟨C.by_,6,none⟩=some (.string ⟨C.y.u.toArray⟩):=(hb.cell (p:=⟨C.by_,6,none⟩) M.ky.1).trans ((M.ky.cell 6).trans rfl);exact dH (X:=.load 49 (.tmp 4)) (v:=.agg #[.string ⟨C.y.id.toArray⟩,.string ⟨C.y.ins.toArray⟩,.int .i64 C.y.acq,.int .i64 C.y.opn,.string ⟨C.y.q.toArray⟩,.string ⟨C.y.c.toArray⟩,.string ⟨C.y.u.toArray⟩]) (gb:=C.b1) (by kernel_rfl) (by kernel_rfl) (j:=5) (s:=14) (by kernel_rfl) hv rfl (fun hgb o h=>by simp[execOp,h,lo4,e0,e1,e2,e3,e4,e5,e6,go_sem]) hb
  |7,_,hr =>
   have hv:a.tmps[14]?=some (.bool C.b1):=H.dep hr 5 14;have v6:a.tmps[15]?=some (gv C.b1 (.agg #[.string ⟨C.y.id.toArray⟩,.string ⟨C.y.ins.toArray⟩,.int .i64 C.y.acq,.int .i64 C.y.opn,.string ⟨C.y.q.toArray⟩,.string ⟨C.y.c.toArray⟩,.string ⟨C.y.u.toArray⟩])):=H.dep hr 6 15;refine qL (f:=75) (lb:=#[]) (c:=.func 75) (args:=#[(.tmp 15)]) (ts:=#[49]) (vs:=#[.agg #[.string ⟨C.y.id.toArray⟩,.string ⟨C.y.ins.toArray⟩,.int .i64 C.y.acq,.int .i64 C.y.opn,.string ⟨C.y.q.toArray⟩,.string ⟨C.y.c.toArray⟩,.string ⟨C.y.u.toArray⟩]]) (gb:=C.b1) (by kernel_rfl) (by kernel_rfl) (j:=5) (s:=14) (by kernel_rfl) hv rfl (aXb func75) (fun h=>by simp[dEn.val,gv,h]) (fun _=>hb) (fun hgb=>by unfold gv at v6;rw[hgb,if_pos rfl] at v6;simp[Act.eval,v6]) (fun hgb=>(M.ho _ hb).mono ?_);rintro e w' ⟨rfl,hb'⟩;exact⟨_,(),rfl,by simp[dEn.val,gv,hgb],fun _ _=>rfl,aA hb hb'⟩
  |8,_,hr =>
   have hv:a.tmps[14]?=some (.bool C.b1):=H.dep hr 5 14;have v7:a.tmps[16]?=some (gv C.b1 (.string ⟨C.o.toArray⟩)):=H.dep hr 7 16;refine qL (f:=16) (lb:=#[]) (c:=.func 16) (args:=#[(.tmp 16),(.const (.string ⟨#[]⟩))]) (ts:=#[36,36]) (vs:=#[.string ⟨C.o.toArray⟩,.string ⟨#[]⟩]) (gb:=C.b1) (by kernel_rfl) (by kernel_rfl) (j:=5) (s:=14) (by kernel_rfl) hv rfl (aXb func16) (fun h=>by simp[dEn.val,gv,h]) (fun _=>hb) (fun hgb=>by unfold gv at v7;rw[hgb,if_pos rfl] at v7;simp[Act.eval,v7]) (fun hgb=>(M.hc _).mono ?_);rintro e w' ⟨rfl,hb'⟩;exact⟨_,(),rfl,by simp[dEn.val,gv,hgb],fun _ _=>rfl,aA hb hb'⟩
  |9,_,hr =>
   have hv:a.tmps[14]?=some (.bool C.b1):=H.dep hr 5 14;have v8:a.tmps[17]?=some (gv C.b1 (.int .i64 C.cz)):=H.dep hr 8 17;exact dH (X:=.binOp .gtr 3 (.tmp 17) (.const (.int .i64 0)) 3) (v:=.bool (C.b2)) (gb:=C.b1) (by kernel_rfl) (by kernel_rfl) (j:=5) (s:=14) (by kernel_rfl) hv rfl (fun hgb o h=>by unfold gv at v8;rw[hgb,if_pos rfl] at v8;simp[execOp,h,v8,M.h2,go_sem]) hb
  |10,_,hr =>
   have v5:a.tmps[14]?=some (.bool C.b1):=H.dep hr 5 14;have v9:a.tmps[18]?=some (gv C.b1 (.bool (C.b2))):=H.dep hr 9 18;exact aWj (.pick (.tmp 14) (.tmp 18) (.const (.bool false))) (.bool (C.b1&&C.b2)) (fun o h=>by cases hX:C.b1 <;> rw[hX] at v5 v9 <;> simp[execOp,h,v5,v9,gv,go_sem]) hb
  |11,_,hr =>
   have v10:a.tmps[19]?=some (.bool (C.b1&&C.b2)):=H.dep hr 10 19;exact aWj (.move (.tmp 19)) (.bool (C.b1&&C.b2)) (fun o h=>by simp[execOp,h,v10,go_sem]) hb
  |12,_,hr =>
   have hv:a.tmps[20]?=some (.bool (C.b1&&C.b2)):=H.dep hr 11 20;exact dH (X:=.fieldAddr 49 (.tmp 4) 0) (v:=.pointer (some ⟨C.by_,0,none⟩)) (gb:=(C.b1&&C.b2)) (by kernel_rfl) (by kernel_rfl) (j:=11) (s:=20) (by kernel_rfl) hv rfl (fun hgb o h=>by simp[execOp,h,lo4,go_sem]) hb
  |13,_,hr =>
   have hv:a.tmps[20]?=some (.bool (C.b1&&C.b2)):=H.dep hr 11 20;have v12:a.tmps[21]?=some (gv (C.b1&&C.b2) (.pointer (some ⟨C.by_,0,none⟩))):=H.dep hr 12 21;have e0:w.cell? ⟨C.by_,0,none⟩=some (.string ⟨C.y.id.toArray⟩):=(hb.cell (p:=⟨C.by_,0,none⟩) M.ky.1).trans ((M.ky.cell 0).trans rfl);exact dH (X:=.load 9 (.tmp 21)) (v:=.string ⟨C.y.id.toArray⟩) (gb:=(C.b1&&C.b2)) (by kernel_rfl) (by kernel_rfl) (j:=11) (s:=20) (by kernel_rfl) hv rfl (fun hgb o h=>by unfold gv at v12;rw[hgb,if_pos rfl] at v12;simp[execOp,h,v12,e0,go_sem]) hb
  |14,_,hr =>
   have hv:a.tmps[20]?=some (.bool (C.b1&&C.b2)):=H.dep hr 11 20;exact dH (X:=.fieldAddr 42 (.tmp 5) 1) (v:=.pointer (some ⟨C.bx,1,none⟩)) (gb:=(C.b1&&C.b2)) (by kernel_rfl) (by kernel_rfl) (j:=11) (s:=20) (by kernel_rfl) hv rfl (fun hgb o h=>by simp[execOp,h,lo5,go_sem]) hb
  |15,_,hr =>
   have hv:a.tmps[20]?=some (.bool (C.b1&&C.b2)):=H.dep hr 11 20;have v14:a.tmps[23]?=some (gv (C.b1&&C.b2) (.pointer (some ⟨C.bx,1,none⟩))):=H.dep hr 14 23;have c1:w.cell? ⟨C.bx,1,none⟩=some (.string ⟨C.x.lot.toArray⟩):=(hb.cell (p:=⟨C.bx,1,none⟩) M.kx.1).trans ((M.kx.cell 1).trans rfl);exact dH (X:=.load 9 (.tmp 23)) (v:=.string ⟨C.x.lot.toArray⟩) (gb:=(C.b1&&C.b2)) (by kernel_rfl) (by kernel_rfl) (j:=11) (s:=20) (by kernel_rfl) hv rfl (fun hgb o h=>by unfold gv at v14;rw[hgb,if_pos rfl] at v14;simp[execOp,h,v14,c1,go_sem]) hb
  |16,_,hr =>
   have hv:a.tmps[20]?=some (.bool (C.b1&&C.b2)):=H.dep hr 11 20;have v13:a.tmps[22]?=some (gv (C.b1&&C.b2) (.string ⟨C.y.id.toArray⟩)):=H.dep hr 13 22;have v15:a.tmps[24]?=some (gv (C.b1&&C.b2) (.string ⟨C.x.lot.toArray⟩)):=H.dep hr 15 24;exact dH (X:=.binOp .neq 9 (.tmp 22) (.tmp 24) 9) (v:=.bool C.b3) (gb:=(C.b1&&C.b2)) (by kernel_rfl) (by kernel_rfl) (j:=11) (s:=20) (by kernel_rfl) hv rfl (fun hgb o h=>by unfold gv at v13 v15;rw[hgb,if_pos rfl] at v13 v15;simp[execOp,h,v13,v15,M.h3,go_sem]) hb
  |17,_,hr =>
   have v11:a.tmps[20]?=some (.bool (C.b1&&C.b2)):=H.dep hr 11 20;have v16:a.tmps[25]?=some (gv (C.b1&&C.b2) (.bool C.b3)):=H.dep hr 16 25;exact aWj (.pick (.tmp 20) (.tmp 25) (.const (.bool false))) (.bool ((C.b1&&C.b2)&&C.b3)) (fun o h=>by cases hX:(C.b1&&C.b2) <;> rw[hX] at v11 v16 <;> simp[execOp,h,v11,v16,gv,go_sem]) hb
  |18,_,hr =>
   have v17:a.tmps[26]?=some (.bool ((C.b1&&C.b2)&&C.b3)):=H.dep hr 17 26;exact aWj (.move (.tmp 26)) (.bool ((C.b1&&C.b2)&&C.b3)) (fun o h=>by simp[execOp,h,v17,go_sem]) hb
  |19,_,hr =>
   have hv:a.tmps[27]?=some (.bool ((C.b1&&C.b2)&&C.b3)):=H.dep hr 18 27;exact dH (X:=.fieldAddr 42 (.tmp 5) 4) (v:=.pointer (some ⟨C.bx,4,none⟩)) (gb:=((C.b1&&C.b2)&&C.b3)) (by kernel_rfl) (by kernel_rfl) (j:=18) (s:=27) (by kernel_rfl) hv rfl (fun hgb o h=>by simp[execOp,h,lo5,go_sem]) hb
  |20,_,hr =>
   have hv:a.tmps[27]?=some (.bool ((C.b1&&C.b2)&&C.b3)):=H.dep hr 18 27;have v19:a.tmps[28]?=some (gv ((C.b1&&C.b2)&&C.b3) (.pointer (some ⟨C.bx,4,none⟩))):=H.dep hr 19 28;have c4:w.cell? ⟨C.bx,4,none⟩=some (.int .i64 C.x.cls):=(hb.cell (p:=⟨C.bx,4,none⟩) M.kx.1).trans ((M.kx.cell 4).trans rfl);exact dH (X:=.load 24 (.tmp 28)) (v:=.int .i64 C.x.cls) (gb:=((C.b1&&C.b2)&&C.b3)) (by kernel_rfl) (by kernel_rfl) (j:=18) (s:=27) (by kernel_rfl) hv rfl (fun hgb o h=>by unfold gv at v19;rw[hgb,if_pos rfl] at v19;simp[execOp,h,v19,c4,go_sem]) hb
  |21,_,hr =>
   have hv:a.tmps[27]?=some (.bool ((C.b1&&C.b2)&&C.b3)):=H.dep hr 18 27;exact dH (X:=.move (.tmp 3)) (v:=.int .i64 C.wash) (gb:=((C.b1&&C.b2)&&C.b3)) (by kernel_rfl) (by kernel_rfl) (j:=18) (s:=27) (by kernel_rfl) hv rfl (fun hgb o h=>by simp[execOp,h,lo3,go_sem]) hb
  |22,_,hr =>
   have hv:a.tmps[27]?=some (.bool ((C.b1&&C.b2)&&C.b3)):=H.dep hr 18 27;have v21:a.tmps[30]?=some (gv ((C.b1&&C.b2)&&C.b3) (.int .i64 C.wash)):=H.dep hr 21 30;refine qL (f:=124) (lb:=#[]) (c:=.func 124) (args:=#[(.tmp 30)]) (ts:=#[3]) (vs:=#[.int .i64 C.wash]) (gb:=((C.b1&&C.b2)&&C.b3)) (by kernel_rfl) (by kernel_rfl) (j:=18) (s:=27) (by kernel_rfl) hv rfl (aXb func124) (fun h=>by simp[dEn.val,gv,h]) (fun _=>hb) (fun hgb=>by unfold gv at v21;rw[hgb,if_pos rfl] at v21;simp[Act.eval,v21]) (fun hgb=>(M.hd _).mono ?_);rintro e w' ⟨rfl,rfl⟩;exact⟨_,(),rfl,by simp[dEn.val,gv,hgb],fun _ _=>rfl,hb⟩
  |23,_,hr =>
   have hv:a.tmps[27]?=some (.bool ((C.b1&&C.b2)&&C.b3)):=H.dep hr 18 27;have v20:a.tmps[29]?=some (gv ((C.b1&&C.b2)&&C.b3) (.int .i64 C.x.cls)):=H.dep hr 20 29;have v22:a.tmps[31]?=some (gv ((C.b1&&C.b2)&&C.b3) (.int .i64 C.wash)):=H.dep hr 22 31;exact dH (X:=.binOp .sub 24 (.tmp 29) (.tmp 31) 24) (v:=.int .i64 (C.x.cls-C.wash)) (gb:=((C.b1&&C.b2)&&C.b3)) (by kernel_rfl) (by kernel_rfl) (j:=18) (s:=27) (by kernel_rfl) hv rfl (fun hgb o h=>by unfold gv at v20 v22;rw[hgb,if_pos rfl] at v20 v22;simp[execOp,h,v20,v22,M.hv,go_sem]) hb
  |24,_,hr =>
   have hv:a.tmps[27]?=some (.bool ((C.b1&&C.b2)&&C.b3)):=H.dep hr 18 27;exact dH (X:=.fieldAddr 49 (.tmp 4) 3) (v:=.pointer (some ⟨C.by_,3,none⟩)) (gb:=((C.b1&&C.b2)&&C.b3)) (by kernel_rfl) (by kernel_rfl) (j:=18) (s:=27) (by kernel_rfl) hv rfl (fun hgb o h=>by simp[execOp,h,lo4,go_sem]) hb
  |25,_,hr =>
   have hv:a.tmps[27]?=some (.bool ((C.b1&&C.b2)&&C.b3)):=H.dep hr 18 27;have v24:a.tmps[33]?=some (gv ((C.b1&&C.b2)&&C.b3) (.pointer (some ⟨C.by_,3,none⟩))):=H.dep hr 24 33;have e3:w.cell? ⟨C.by_,3,none⟩=some (.int .i64 C.y.opn):=(hb.cell (p:=⟨C.by_,3,none⟩) M.ky.1).trans ((M.ky.cell 3).trans rfl);exact dH (X:=.load 24 (.tmp 33)) (v:=.int .i64 C.y.opn) (gb:=((C.b1&&C.b2)&&C.b3)) (by kernel_rfl) (by kernel_rfl) (j:=18) (s:=27) (by kernel_rfl) hv rfl (fun hgb o h=>by unfold gv at v24;rw[hgb,if_pos rfl] at v24;simp[execOp,h,v24,e3,go_sem]) hb
  |26,_,hr =>
   have hv:a.tmps[27]?=some (.bool ((C.b1&&C.b2)&&C.b3)):=H.dep hr 18 27;have v23:a.tmps[32]?=some (gv ((C.b1&&C.b2)&&C.b3) (.int .i64 (C.x.cls-C.wash))):=H.dep hr 23 32;have v25:a.tmps[34]?=some (gv ((C.b1&&C.b2)&&C.b3) (.int .i64 C.y.opn)):=H.dep hr 25 34;exact dH (X:=.binOp .leq 24 (.tmp 32) (.tmp 34) 24) (v:=.bool (C.b4)) (gb:=((C.b1&&C.b2)&&C.b3)) (by kernel_rfl) (by kernel_rfl) (j:=18) (s:=27) (by kernel_rfl) hv rfl (fun hgb o h=>by unfold gv at v23 v25;rw[hgb,if_pos rfl] at v23 v25;simp[execOp,h,v23,v25,M.h4,go_sem]) hb
  |27,_,hr =>
   have v18:a.tmps[27]?=some (.bool ((C.b1&&C.b2)&&C.b3)):=H.dep hr 18 27;have v26:a.tmps[35]?=some (gv ((C.b1&&C.b2)&&C.b3) (.bool (C.b4))):=H.dep hr 26 35;exact aWj (.pick (.tmp 27) (.tmp 35) (.const (.bool false))) (.bool (((C.b1&&C.b2)&&C.b3)&&C.b4)) (fun o h=>by cases hX:((C.b1&&C.b2)&&C.b3) <;> rw[hX] at v18 v26 <;> simp[execOp,h,v18,v26,gv,go_sem]) hb
  |28,_,hr =>
   have v27:a.tmps[36]?=some (.bool (((C.b1&&C.b2)&&C.b3)&&C.b4)):=H.dep hr 27 36;exact aWj (.move (.tmp 36)) (.bool (((C.b1&&C.b2)&&C.b3)&&C.b4)) (fun o h=>by simp[execOp,h,v27,go_sem]) hb
  |29,_,hr =>
   have hv:a.tmps[37]?=some (.bool (((C.b1&&C.b2)&&C.b3)&&C.b4)):=H.dep hr 28 37;exact dH (X:=.fieldAddr 49 (.tmp 4) 3) (v:=.pointer (some ⟨C.by_,3,none⟩)) (gb:=(((C.b1&&C.b2)&&C.b3)&&C.b4)) (by kernel_rfl) (by kernel_rfl) (j:=28) (s:=37) (by kernel_rfl) hv rfl (fun hgb o h=>by simp[execOp,h,lo4,go_sem]) hb
  |30,_,hr =>
   have hv:a.tmps[37]?=some (.bool (((C.b1&&C.b2)&&C.b3)&&C.b4)):=H.dep hr 28 37;have v29:a.tmps[38]?=some (gv (((C.b1&&C.b2)&&C.b3)&&C.b4) (.pointer (some ⟨C.by_,3,none⟩))):=H.dep hr 29 38;have e3:w.cell? ⟨C.by_,3,none⟩=some (.int .i64 C.y.opn):=(hb.cell (p:=⟨C.by_,3,none⟩) M.ky.1).trans ((M.ky.cell 3).trans rfl);exact dH (X:=.load 24 (.tmp 38)) (v:=.int .i64 C.y.opn) (gb:=(((C.b1&&C.b2)&&C.b3)&&C.b4)) (by kernel_rfl) (by kernel_rfl) (j:=28) (s:=37) (by kernel_rfl) hv rfl (fun hgb o h=>by unfold gv at v29;rw[hgb,if_pos rfl] at v29;simp[execOp,h,v29,e3,go_sem]) hb
  |31,_,hr =>
   have hv:a.tmps[37]?=some (.bool (((C.b1&&C.b2)&&C.b3)&&C.b4)):=H.dep hr 28 37;exact dH (X:=.fieldAddr 42 (.tmp 5) 4) (v:=.pointer (some ⟨C.bx,4,none⟩)) (gb:=(((C.b1&&C.b2)&&C.b3)&&C.b4)) (by kernel_rfl) (by kernel_rfl) (j:=28) (s:=37) (by kernel_rfl) hv rfl (fun hgb o h=>by simp[execOp,h,lo5,go_sem]) hb
  |32,_,hr =>
   have hv:a.tmps[37]?=some (.bool (((C.b1&&C.b2)&&C.b3)&&C.b4)):=H.dep hr 28 37;have v31:a.tmps[40]?=some (gv (((C.b1&&C.b2)&&C.b3)&&C.b4) (.pointer (some ⟨C.bx,4,none⟩))):=H.dep hr 31 40;have c4:w.cell? ⟨C.bx,4,none⟩=some (.int .i64 C.x.cls):=(hb.cell (p:=⟨C.bx,4,none⟩) M.kx.1).trans ((M.kx.cell 4).trans rfl);exact dH (X:=.load 24 (.tmp 40)) (v:=.int .i64 C.x.cls) (gb:=(((C.b1&&C.b2)&&C.b3)&&C.b4)) (by kernel_rfl) (by kernel_rfl) (j:=28) (s:=37) (by kernel_rfl) hv rfl (fun hgb o h=>by unfold gv at v31;rw[hgb,if_pos rfl] at v31;simp[execOp,h,v31,c4,go_sem]) hb
  |33,_,hr =>
   have hv:a.tmps[37]?=some (.bool (((C.b1&&C.b2)&&C.b3)&&C.b4)):=H.dep hr 28 37;exact dH (X:=.move (.tmp 3)) (v:=.int .i64 C.wash) (gb:=(((C.b1&&C.b2)&&C.b3)&&C.b4)) (by kernel_rfl) (by kernel_rfl) (j:=28) (s:=37) (by kernel_rfl) hv rfl (fun hgb o h=>by simp[execOp,h,lo3,go_sem]) hb
  |34,_,hr =>
   have hv:a.tmps[37]?=some (.bool (((C.b1&&C.b2)&&C.b3)&&C.b4)):=H.dep hr 28 37;have v33:a.tmps[42]?=some (gv (((C.b1&&C.b2)&&C.b3)&&C.b4) (.int .i64 C.wash)):=H.dep hr 33 42;refine qL (f:=124) (lb:=#[]) (c:=.func 124) (args:=#[(.tmp 42)]) (ts:=#[3]) (vs:=#[.int .i64 C.wash]) (gb:=(((C.b1&&C.b2)&&C.b3)&&C.b4)) (by kernel_rfl) (by kernel_rfl) (j:=28) (s:=37) (by kernel_rfl) hv rfl (aXb func124) (fun h=>by simp[dEn.val,gv,h]) (fun _=>hb) (fun hgb=>by unfold gv at v33;rw[hgb,if_pos rfl] at v33;simp[Act.eval,v33]) (fun hgb=>(M.hd _).mono ?_);rintro e w' ⟨rfl,rfl⟩;exact⟨_,(),rfl,by simp[dEn.val,gv,hgb],fun _ _=>rfl,hb⟩
  |35,_,hr =>
   have hv:a.tmps[37]?=some (.bool (((C.b1&&C.b2)&&C.b3)&&C.b4)):=H.dep hr 28 37;have v32:a.tmps[41]?=some (gv (((C.b1&&C.b2)&&C.b3)&&C.b4) (.int .i64 C.x.cls)):=H.dep hr 32 41;have v34:a.tmps[43]?=some (gv (((C.b1&&C.b2)&&C.b3)&&C.b4) (.int .i64 C.wash)):=H.dep hr 34 43;exact dH (X:=.binOp .add 24 (.tmp 41) (.tmp 43) 24) (v:=.int .i64 (C.x.cls+C.wash)) (gb:=(((C.b1&&C.b2)&&C.b3)&&C.b4)) (by kernel_rfl) (by kernel_rfl) (j:=28) (s:=37) (by kernel_rfl) hv rfl (fun hgb o h=>by unfold gv at v32 v34;rw[hgb,if_pos rfl] at v32 v34;simp[execOp,h,v32,v34,M.hw,go_sem]) hb
  |36,_,hr =>
   have hv:a.tmps[37]?=some (.bool (((C.b1&&C.b2)&&C.b3)&&C.b4)):=H.dep hr 28 37;exact dH (X:=.move (.tmp 2)) (v:=.int .i64 C.d) (gb:=(((C.b1&&C.b2)&&C.b3)&&C.b4)) (by kernel_rfl) (by kernel_rfl) (j:=28) (s:=37) (by kernel_rfl) hv rfl (fun hgb o h=>by simp[execOp,h,lo2,go_sem]) hb
  |37,_,hr =>
   have hv:a.tmps[37]?=some (.bool (((C.b1&&C.b2)&&C.b3)&&C.b4)):=H.dep hr 28 37;have v35:a.tmps[44]?=some (gv (((C.b1&&C.b2)&&C.b3)&&C.b4) (.int .i64 (C.x.cls+C.wash))):=H.dep hr 35 44;have v36:a.tmps[45]?=some (gv (((C.b1&&C.b2)&&C.b3)&&C.b4) (.int .i64 C.d)):=H.dep hr 36 45;exact dH (X:=.call { callee:=.builtin .min,args:=#[(.tmp 44),(.tmp 45)],argTypes:=#[24,24] }) (v:=.int .i64 C.mn) (gb:=(((C.b1&&C.b2)&&C.b3)&&C.b4)) (by kernel_rfl) (by kernel_rfl) (j:=28) (s:=37) (by kernel_rfl) hv rfl (fun hgb o h=>by unfold gv at v35 v36;rw[hgb,if_pos rfl] at v35 v36;simp[execOp,h,v35,v36,go_sem,M.hm]) hb
  |38,_,hr =>
   have hv:a.tmps[37]?=some (.bool (((C.b1&&C.b2)&&C.b3)&&C.b4)):=H.dep hr 28 37;have v30:a.tmps[39]?=some (gv (((C.b1&&C.b2)&&C.b3)&&C.b4) (.int .i64 C.y.opn)):=H.dep hr 30 39;have v37:a.tmps[46]?=some (gv (((C.b1&&C.b2)&&C.b3)&&C.b4) (.int .i64 C.mn)):=H.dep hr 37 46;exact dH (X:=.binOp .leq 24 (.tmp 39) (.tmp 46) 24) (v:=.bool (C.b5)) (gb:=(((C.b1&&C.b2)&&C.b3)&&C.b4)) (by kernel_rfl) (by kernel_rfl) (j:=28) (s:=37) (by kernel_rfl) hv rfl (fun hgb o h=>by unfold gv at v30 v37;rw[hgb,if_pos rfl] at v30 v37;simp[execOp,h,v30,v37,M.h5,go_sem]) hb
  |39,_,hr =>
   have v28:a.tmps[37]?=some (.bool (((C.b1&&C.b2)&&C.b3)&&C.b4)):=H.dep hr 28 37;have v38:a.tmps[47]?=some (gv (((C.b1&&C.b2)&&C.b3)&&C.b4) (.bool (C.b5))):=H.dep hr 38 47;exact aWj (.pick (.tmp 37) (.tmp 47) (.const (.bool false))) (.bool ((((C.b1&&C.b2)&&C.b3)&&C.b4)&&C.b5)) (fun o h=>by cases hX:(((C.b1&&C.b2)&&C.b3)&&C.b4) <;> rw[hX] at v28 v38 <;> simp[execOp,h,v28,v38,gv,go_sem]) hb
  |40,_,hr =>
   have v39:a.tmps[48]?=some (.bool ((((C.b1&&C.b2)&&C.b3)&&C.b4)&&C.b5)):=H.dep hr 39 48;exact aWj (.assign (.tmp 48)) (.bool ((((C.b1&&C.b2)&&C.b3)&&C.b4)&&C.b5)) (fun o h=>by simp[execOp,h,v39,go_sem]) hb
  |n+41,h,_=>exact absurd h (by omega)
end
theorem dGh(x:aLe)(ins:List UInt8)(d wash:Int)(w:World)(hE:iE w)(h0:x.q.length<=1000)(h1:x.p.length<=1000)(h2:x.c.length<=1000)(h3:x.rp.length<=1000)(hc:-100000<=x.cls/\x.cls<=100000)(hw:-1000<=wash/\wash<=1000):
  Calls prog 67 #[x.v,.string ⟨ins.toArray⟩,.int .i64 d,.int .i64 wash] w fun e w'=>e=.returned (.bool (dAv x ins d wash))/\Below w.heap.size w w':=by
 have HB0:=Hd (aB w (.cells x.cs 42));have KX:=Hd (aP.new0 w x.cs 42);have hl:(aJ x.openV).length<=1002:=by
  unfold aLe.openV;split
  ·rw[nA];simp
  ·exact Np h0 h3
 have H1:=Hd (fun W hW=>dFp x W hW h0 h1 h2 h3);have H2:=Hd (fun W=>aPb (aJ x.openV) W (by omega));rw[bE] at H2;have H3:=Hd (show IntKind.i64.wrap (x.cls+wash)=x.cls+wash by rw[IntKind.wrap_i64];omega);have hr:Hid (dAv x ins d wash=((((decide (0<wash)&&(x.ins==ins))&&decide (0<bG x.openV 0))&&decide (x.cls<=d))&&decide (d<=x.cls+wash))):=by
  show _=_;unfold dAv;rw[show decide (0<bG x.openV 0)=decide (0<x.openV) from decide_eq_decide.2 (aMq _ _)]
 rw[hr.out];have HE:=Hd hE;clear hr hE h0 h1 h2 h3 hc hw hl;generalize aJ x.openV=o at *;generalize bG x.openV 0=cz at *;simp only[aLe.v,aLe.cs] at *;go_enter func67,ntmps67;go_upto_region 1 with fail
 refine dGg (C:=⟨(w.alloc (.cells x.cs 42)).drewN 1,w.heap.size,x,ins,d,wash,o,cz,decide (0<wash),x.ins==ins,decide (0<cz),decide (x.cls<=d),decide (d<=x.cls+wash)⟩) ?M rfl rfl rfl ?_
 case M=>exact⟨rfl,rfl,rfl,rfl,rfl,KX.out,fun W hb=>H1.out W (HE.out.below (aA (aD HB0.out 1) hb)),H2.out,dFr wash,H3.out,rfl,rfl,rfl,rfl,rfl⟩
 intro W hbW;have HBW:=Hd (aA (aD HB0.out 1) hbW);clear hbW H1 H2 H3 HB0 KX;simp only[iZ,dHe,List.foldl,List.setIfInBounds_toArray,List.set_cons_zero,List.set_cons_succ,dE4.val];go_wp2;go_ret;exact⟨rfl,HBW.out⟩
theorem dE5(y:Bd)(x:aLe)(d wash:Int)(w:World)(hE:iE w)(h0:y.q.length<=1000)(h1:y.u.length<=1000)(hc:-100000<=x.cls/\x.cls<=100000)(hw:-1000<=wash/\wash<=1000):
  Calls prog 69 #[y.v,x.v,.int .i64 d,.int .i64 wash] w fun e w'=>e=.returned (.bool (dAz y x d wash))/\Below w.heap.size w w':=by
 have HB0:=Hd (aA (aB w (.cells y.cs 49)) (aB (w.alloc (.cells y.cs 49)) (.cells x.cs 42)));have KY:=Hd ((aP.new0 w y.cs 49).below (aB _ (.cells x.cs 42)));have KX:=aP.new0 (w.alloc (.cells y.cs 49)) x.cs 42;rw[World.size_alloc] at KX;have KX:=Hd KX;have hl:(aJ y.roomV).length<=1002:=Np h0 h1;have H1:=Hd (fun W hW=>dFo y W hW h0 h1);have H2:=Hd (fun W=>aPb (aJ y.roomV) W (by omega));rw[bE] at H2;have H3:=Hd (show IntKind.i64.wrap (x.cls+wash)=x.cls+wash by rw[IntKind.wrap_i64];omega);have H4:=Hd (show IntKind.i64.wrap (x.cls-wash)=x.cls-wash by rw[IntKind.wrap_i64];omega);have hr:Hid (dAz y x d wash=((((((y.ins==x.ins))&&decide (0<bG y.roomV 0)) && !(y.id==x.lot))&&decide (x.cls-wash<=y.opn))&&decide (y.opn<=min (x.cls+wash) d))):=by
  show _=_;unfold dAz;rw[show decide (0<bG y.roomV 0)=decide (0<y.roomV) from decide_eq_decide.2 (aMq _ _)]
 rw[hr.out];have HE:=Hd hE;clear hr hE h0 h1 hc hw hl;generalize aJ y.roomV=o at *;generalize bG y.roomV 0=cz at *;simp only[aLe.v,aLe.cs,Bd.v] at *;go_enter func69,ntmps69;go_upto_region 1 with fail
 refine dGa (C:=⟨((w.alloc (.cells y.cs 49)).alloc (.cells x.cs 42)).drewN 1,w.heap.size+1,w.heap.size,x,y,d,wash,o,cz,min (x.cls+wash) d,y.ins==x.ins,decide (0<cz),!(y.id==x.lot),decide (x.cls-wash<=y.opn),decide (y.opn<=min (x.cls+wash) d)⟩) ?M rfl rfl rfl ?_
 case M=>exact⟨rfl,rfl,rfl,rfl,rfl,KX.out,KY.out,fun W hb=>H1.out W (HE.out.below (aA (aD HB0.out 1) hb)),H2.out,dFr wash,rfl,H3.out,H4.out,rfl,rfl,(Bool.not_not _).symm,rfl,rfl⟩
 intro W hbW;have HBW:=Hd (aA (aD HB0.out 1) hbW);clear hbW H1 H2 H3 H4 HB0 KX KY;simp only[iZ,dG8,List.foldl,List.setIfInBounds_toArray,List.set_cons_zero,List.set_cons_succ,dEn.val];go_wp2;go_ret;exact⟨rfl,HBW.out⟩
end Go.Proofs.YtiloklnjjfaagaaGreatDoor
