/- ReadReg13 FldAny13 ReadB13 -/
import Derived.Test.YthjekgfoidmagaaGreatDoorUFieldY
set_option maxHeartbeats 16000000
set_option maxRecDepth 100000
namespace Go.Proofs.YthjekgfoidmagaaGreatDoor
open Go.Proofs.Tryz
section
open Go Go.RowKit Num
noncomputable def bM2:Array Oper:=(f65.body.bind (bEw 5)).getD #[]
def bPf:List (Nat×Nat):=[(0,19),(1,20),(2,21),(3,22),(4,23),(5,24),(6,25),(7,26),(8,27),(10,28)]
structure R5C where
 W0:World
 br:Nat
 b2:Nat
 bf:Nat
 bw:Nat
 m:Nat
 bad:Bool
 nb:Bool
 cs:Array Value
 x0:List UInt8
 x1:List UInt8
def R5C.val(C:R5C)(γ:Int×World):Nat->Value
 |0=>.slice (some ⟨C.bw,0,none⟩) C.m C.m
 |1=>.pointer (some ⟨C.bw,0,none⟩)
 |2=>.string ⟨C.x0.toArray⟩
 |3=>.pointer (some ⟨C.br,0,none⟩)
 |4=>.slice (some ⟨C.bw,0,none⟩) C.m C.m
 |5=>.pointer (some ⟨C.bw,1,none⟩)
 |6=>.string ⟨C.x1.toArray⟩
 |7=>.int .i64 γ.1
 |8=>.pointer (some ⟨C.bf,0,none⟩)
 |10=>.pointer (some ⟨C.bf,1,none⟩)
 |_=>undef
def R5C.three(C:R5C)(γ:Int×World)(W:World):Prop:=aZf (· = C.br) C.W0 W/\aP W C.br #[.bool C.nb] 96/\∀v,bD7 C.x1=some v->γ.1=v
def R5C.G(C:R5C)(γ:Int×World)(l:Array Bool)(W:World):Prop :=
 (¬ lP l 9->aZf (· = C.br) C.W0 W/\(lP l 7->C.three γ W)/\(¬ lP l 7->aP W C.br #[.bool C.bad] 96)) /\
 (lP l 9->¬ lP l 11->C.three γ γ.2/\W = γ.2.setCell ⟨C.bf,0,none⟩ (.string ⟨C.x0.toArray⟩)) /\
 (lP l 11->C.three γ γ.2/\W=(γ.2.setCell ⟨C.bf,0,none⟩ (.string ⟨C.x0.toArray⟩)).setCell ⟨C.bf,1,none⟩ (.int .i64 γ.1))
structure R5M(C:R5C)(t0:Array Value):Prop where
 sz:t0.size=119
 t1:t0[1]?=some (.slice (some ⟨C.bw,0,none⟩) C.m C.m)
 t2:t0[2]?=some (.pointer (some ⟨C.b2,0,none⟩))
 t5:t0[5]?=some (.pointer (some ⟨C.bf,0,none⟩))
 hm:3<=C.m
 kr:aP C.W0 C.br #[.bool C.bad] 96
 k2:aP C.W0 C.b2 #[.pointer (some ⟨C.br,0,none⟩)] 147
 kf:aP C.W0 C.bf C.cs 29
 c0:C.cs[0]?=some (.string ⟨#[]⟩)
 c1:C.cs[1]?=some (.int .i64 0)
 w0:C.W0.cell? ⟨C.bw,0,none⟩=some (.string ⟨C.x0.toArray⟩)
 w1:C.W0.cell? ⟨C.bw,1,none⟩=some (.string ⟨C.x1.toArray⟩)
 lw:C.bw<C.W0.heap.size
 nw:C.bw≠C.br
 hc:∀W,aZf (· = C.br) C.W0 W->aP W C.br #[.bool C.bad] 96->Calls prog 127 #[.pointer (some ⟨C.br,0,none⟩),.string ⟨C.x1.toArray⟩] W fun e w'=>∃n:Int,e=.returned (.int .i64 n)/\aZf (· = C.br) W w'/\aP w' C.br #[.bool C.nb] 96/\∀v,bD7 C.x1=some v->n=v
theorem R5C.keep{C:R5C}{γ:Int×World}{l:Array Bool}{w:World}{i:Nat}(h:C.G γ l w)(h7:i≠7)(h9:i≠9)(h11:i≠11):C.G γ (l.setIfInBounds i true) w:=by
 obtain⟨k1,k2,k3⟩:=h;refine⟨fun h'=>?_,fun h' h''=>k2 (mQ h' (Ne.symm h9)) (fun g=>h'' (fH g)),fun h'=>k3 (mQ h' (Ne.symm h11))⟩;obtain⟨a1,a2,a3⟩:=k1 (fun g=>h' (fH g));exact⟨a1,fun g=>a2 (mQ g (Ne.symm h7)),fun g=>a3 (fun g'=>g (fH g'))⟩
theorem bNn{n:Nat}{ro:Option Nat}{C:R5C}{t0:Array Value}{Q:Exit->Act->World->Prop}{w:World}{d0:List Deferred}(M:R5M C t0){a:Act}(hdf:a.defers=d0)(ht:a.tmps=t0)(hw:w.drewN 1=C.W0)
  (hQ:∀ γ,C.three γ γ.2->Q .normal { tmps:=iZ (C.val γ) bPf t0,defers:=d0 } ((γ.2.setCell ⟨C.bf,0,none⟩ (.string ⟨C.x0.toArray⟩)).setCell ⟨C.bf,1,none⟩ (.int .i64 γ.1))):(Code.region 5 bM2 true).wpIn (bEe ro) n prog Q a w:=by
 have hsz:bM2.size=12:=by kernel_rfl
 have hbs:∀u,¬ lP (Array.replicate bM2.size false) u:=fun u=>Gu _ u
 refine bD9 (ds:=bPf) (val:=C.val) (G:=C.G) (by kernel_rfl) (by kernel_rfl) (by decide) (fun p hp=>?_) (by kernel_rfl) ?_ (γ:=(0,w)) hdf ht (by rw[hw];exact⟨fun _=>⟨aZf.refl _ _,fun h=>absurd h (hbs _),fun _=>M.kr⟩,fun h=>absurd h (hbs _),fun h=>absurd h (hbs _)⟩) ?_
 ·rw[M.sz];have:∀p,p∈bPf->p.2<119:=by decide
  exact this p hp
 ·intro γ l a w i H hr;have hi:i<12:=by
   obtain⟨_,o,ho,_⟩:=mem_ready.1 hr;have:=(Ai.1 ho).1;rw[hsz] at this;exact this
  have hno:=bDz hr;have t1:=H.low (s:=1) (by decide) M.t1;have t2:=H.low (s:=2) (by decide) M.t2;have t5:=H.low (s:=5) (by decide) M.t5;have hm0:0<C.m:=by have:=M.hm;omega
  have hm1:¬ ((C.m:Int)<=1):=by have:=M.hm;omega
  have hn2:¬ C.b2=C.br:=fun e=>bDt M.k2 M.kr (by decide) e
  have hnf:¬ C.bf=C.br:=fun e=>bDt M.kf M.kr (by decide) e
  match i,hi,hr with
  |0,_,hr=>exact bCb (X:=.move (.tmp 1)) (v:=.slice (some ⟨C.bw,0,none⟩) C.m C.m) γ (fun _ _=>rfl) (by kernel_rfl) (fun o h=>by simp[execOp,h,t1,go_sem]) rfl (R5C.keep H.g (by decide) (by decide) (by decide))
  |1,_,hr =>
   have v0:a.tmps[19]?=some (.slice (some ⟨C.bw,0,none⟩) C.m C.m):=H.dep hr 0 19;exact bCb (X:=.indexAddr 36 (.tmp 19) (.const (.int .i64 0))) (v:=.pointer (some ⟨C.bw,0,none⟩)) γ (fun _ _=>rfl) (by kernel_rfl) (fun o h=>by simp[execOp,h,v0,hm0,go_sem]) rfl (R5C.keep H.g (by decide) (by decide) (by decide))
  |2,_,hr =>
   have v1:a.tmps[20]?=some (.pointer (some ⟨C.bw,0,none⟩)):=H.dep hr 1 20;have h9:¬ lP l 9:=fun h=>hno (H.back13 9 2 (by kernel_rfl) h)
   have c0:=((H.g.1 h9).1.cell (p:=⟨C.bw,0,none⟩) M.lw M.nw).trans M.w0;exact bCb (X:=.load 9 (.tmp 20)) (v:=.string ⟨C.x0.toArray⟩) γ (fun _ _=>rfl) (by kernel_rfl) (fun o h=>by simp[execOp,h,v1,c0,go_sem]) rfl (R5C.keep H.g (by decide) (by decide) (by decide))
  |3,_,hr =>
   have h9:¬ lP l 9:=fun h=>hno (H.back13 7 3 (by kernel_rfl) (H.back13 9 7 (by kernel_rfl) h))
   have c0:=((H.g.1 h9).1.box M.k2 hn2).cell 0;exact bCb (X:=.load 147 (.tmp 2)) (v:=.pointer (some ⟨C.br,0,none⟩)) γ (fun _ _=>rfl) (by kernel_rfl) (fun o h=>by simp[execOp,h,t2,c0,go_sem]) rfl (R5C.keep H.g (by decide) (by decide) (by decide))
  |4,_,hr=>exact bCb (X:=.move (.tmp 1)) (v:=.slice (some ⟨C.bw,0,none⟩) C.m C.m) γ (fun _ _=>rfl) (by kernel_rfl) (fun o h=>by simp[execOp,h,t1,go_sem]) rfl (R5C.keep H.g (by decide) (by decide) (by decide))
  |5,_,hr =>
   have v4:a.tmps[23]?=some (.slice (some ⟨C.bw,0,none⟩) C.m C.m):=H.dep hr 4 23;exact bCb (X:=.indexAddr 36 (.tmp 23) (.const (.int .i64 1))) (v:=.pointer (some ⟨C.bw,1,none⟩)) γ (fun _ _=>rfl) (by kernel_rfl) (fun o h=>by simp[execOp,h,v4,hm1,go_sem]) rfl (R5C.keep H.g (by decide) (by decide) (by decide))
  |6,_,hr =>
   have v5:a.tmps[24]?=some (.pointer (some ⟨C.bw,1,none⟩)):=H.dep hr 5 24;have h9:¬ lP l 9:=fun h=>hno (H.back13 7 6 (by kernel_rfl) (H.back13 9 7 (by kernel_rfl) h))
   have c0:=((H.g.1 h9).1.cell (p:=⟨C.bw,1,none⟩) M.lw M.nw).trans M.w1;exact bCb (X:=.load 9 (.tmp 24)) (v:=.string ⟨C.x1.toArray⟩) γ (fun _ _=>rfl) (by kernel_rfl) (fun o h=>by simp[execOp,h,v5,c0,go_sem]) rfl (R5C.keep H.g (by decide) (by decide) (by decide))
  |7,_,hr =>
   have v3:a.tmps[22]?=some (.pointer (some ⟨C.br,0,none⟩)):=H.dep hr 3 22;have v6:a.tmps[25]?=some (.string ⟨C.x1.toArray⟩):=H.dep hr 6 25;have h9:¬ lP l 9:=fun h=>hno (H.back13 9 7 (by kernel_rfl) h)
   have h11:¬ lP l 11:=fun h=>h9 (H.back13 11 9 (by kernel_rfl) h)
   obtain⟨a1,a2,a3⟩:=H.g.1 h9;refine bFr (f:=127) (lb:=#[]) (c:=.func 127) (args:=#[.tmp 22,.tmp 25]) (ts:=#[147,9]) (vs:=#[.pointer (some ⟨C.br,0,none⟩),.string ⟨C.x1.toArray⟩]) (by kernel_rfl) rfl (aXb func127) (by simp[Act.eval,v3,v6]) ((M.hc w a1 (a3 hno)).mono ?_);rintro e w' ⟨nn,rfl,hw',hb',hn'⟩;refine⟨_,(nn,γ.2),rfl,rfl,fun j hj=>?_,fun _=>⟨a1.trans hw',fun _=>⟨a1.trans hw',hb',hn'⟩,fun h=>absurd (zE (by rw[H.sz,hsz];decide)) h⟩,fun h=>absurd (mQ h (by decide)) h9,fun h=>absurd (mQ h (by decide)) h11⟩
   match j,hj with
   |7,hj=>exact absurd hj hno
   |0,_|1,_|2,_|3,_|4,_|5,_|6,_|8,_|9,_|10,_=>rfl
   |_+11,_=>rfl
  |8,_,hr=>exact bCb (X:=.fieldAddr 29 (.tmp 5) 0) (v:=.pointer (some ⟨C.bf,0,none⟩)) γ (fun _ _=>rfl) (by kernel_rfl) (fun o h=>by simp[execOp,h,t5,go_sem]) rfl (R5C.keep H.g (by decide) (by decide) (by decide))
  |9,_,hr =>
   have v2:a.tmps[21]?=some (.string ⟨C.x0.toArray⟩):=H.dep hr 2 21;have v8:a.tmps[27]?=some (.pointer (some ⟨C.bf,0,none⟩)):=H.dep hr 8 27;have o7:lP l 7:=aG hr (by kernel_rfl);have h11:¬ lP l 11:=fun h=>hno (H.back13 11 9 (by kernel_rfl) h)
   obtain⟨a1,a2,a3⟩:=H.g.1 hno;have kf:=a1.box M.kf hnf;have c0:=(kf.cell 0).trans M.c0;have f0:=aR kf.2 0;refine bOq (fun o ho=>?_) (by rw[hsz];decide);have hX:(bM2[9]?).map (fun o=>(o.op,o.guard,o.dst))=some (.store 9 (.tmp 27) (.tmp 21),none,none):=by kernel_rfl
   rw[ho] at hX;simp only[Option.map_some,Option.some.injEq,Prod.mk.injEq] at hX;refine⟨by simp[Region.wanted,hX.2.1],bH3 (by rw[hX.1];intro c h;cases h) ?_⟩;have e1:(execOp a.eval o).run prog w=.ok .skip (w.setCell ⟨C.bf,0,none⟩ (.string ⟨C.x0.toArray⟩)):=by simp[execOp,hX.1,v2,v8,c0,f0,go_sem]
   rw[e1];refine⟨o,undef,(γ.1,w),ho,by rw[hX.2.2],rfl,fun j hj=>?_,fun h=>absurd (zE (by rw[H.sz,hsz];decide)) h,fun _ _=>⟨a2 o7,rfl⟩,fun h=>absurd (mQ h (by decide)) h11⟩
   match j with
   |0|1|2|3|4|5|6|7|8|9|10=>rfl
   |_+11=>rfl
  |10,_,hr=>exact bCb (X:=.fieldAddr 29 (.tmp 5) 1) (v:=.pointer (some ⟨C.bf,1,none⟩)) γ (fun _ _=>rfl) (by kernel_rfl) (fun o h=>by simp[execOp,h,t5,go_sem]) rfl (R5C.keep H.g (by decide) (by decide) (by decide))
  |11,_,hr =>
   have v7:a.tmps[26]?=some (.int .i64 γ.1):=H.dep hr 7 26;have v10:a.tmps[28]?=some (.pointer (some ⟨C.bf,1,none⟩)):=H.dep hr 10 28;have o9:lP l 9:=aG hr (by kernel_rfl);obtain⟨th,hW⟩:=H.g.2.1 o9 hno;subst hW;have kf:=bGb (i:=0) (v:=.string ⟨C.x0.toArray⟩) (th.1.box M.kf hnf);have c1:(γ.2.setCell ⟨C.bf,0,none⟩ (.string ⟨C.x0.toArray⟩)).cell? ⟨C.bf,1,none⟩=some (.int .i64 0):=by rw[kf.cell 1,Array.getElem?_setIfInBounds_ne (by decide)];exact M.c1
   have f1:=aR kf.2 1;exact bE9 (X:=.store 3 (.tmp 28) (.tmp 26)) (by kernel_rfl) (fun o h=>by simp[execOp,h,v7,v10,c1,f1,go_sem]) ⟨fun h=>absurd (fH o9) h,fun _ h=>absurd (zE (by rw[H.sz,hsz];decide)) h,fun _=>⟨th,rfl⟩⟩
  |n+12,h,_=>exact absurd h (by omega)
 ·rintro γ l W hall ⟨k1,k2,k3⟩;have hn:∀j,j<12->lP l j:=fun j hj=>hall j (by rw[hsz];exact hj)
  obtain⟨th,rfl⟩:=k3 (hn 11 (by decide));exact hQ γ th
noncomputable def bJ1:Array Oper:=(f65.body.bind (bEw 7)).getD #[]
def bPe:List (Nat×Nat):=[(0,33),(1,34),(2,35),(3,36),(4,37),(5,38),(6,39),(7,40),(8,41),(9,42),(10,43),(11,44)]
structure R7C where
 W0:World
 br:Nat
 b2:Nat
 bad:Bool
 a0:Option Addr
 m:Nat
 cap:Nat
def R7C.ln(C:R7C):Bool:=(C.m:Int) != 3
def R7C.val(C:R7C)(_:Unit):Nat->Value
 |0=>.pointer (some ⟨C.br,0,none⟩)
 |1=>.pointer (some ⟨C.br,0,none⟩)
 |2=>.pointer (some ⟨C.br,0,none⟩)
 |3=>.pointer (some ⟨C.br,0,none⟩)
 |4=>.bool C.bad
 |5=>.bool C.bad
 |6=>gv (!C.bad) (.slice C.a0 C.m C.cap)
 |7=>gv (!C.bad) (.int .i64 (C.m:Int))
 |8=>gv (!C.bad) (.bool C.ln)
 |9=>.bool (C.bad || C.ln)
 |10=>.pointer (some ⟨C.br,0,none⟩)
 |11=>.pointer (some ⟨C.br,0,none⟩)
 |_=>undef
def R7C.G(C:R7C)(_:Unit)(l:Array Bool)(W:World):Prop:=(¬ lP l 12->W=C.W0)/\(lP l 12->W=C.W0.setCell ⟨C.br,0,none⟩ (.bool (C.bad || C.ln)))
structure R7M(C:R7C)(t0:Array Value):Prop where
 sz:t0.size=119
 t2:t0[2]?=some (.pointer (some ⟨C.b2,0,none⟩))
 kr:aP C.W0 C.br #[.bool C.bad] 96
 k2:aP C.W0 C.b2 #[.pointer (some ⟨C.br,0,none⟩)] 147
 t1:t0[1]?=some (.slice C.a0 C.m C.cap)
theorem R7C.keep{C:R7C}{l:Array Bool}{w:World}{i:Nat}(h:C.G () l w)(h12:i≠12):C.G () (l.setIfInBounds i true) w:=⟨fun h'=>h.1 (fun g=>h' (fH g)),fun h'=>h.2 (mQ h' (Ne.symm h12))⟩
theorem bNm{n:Nat}{ro:Option Nat}{C:R7C}{t0:Array Value}{Q:Exit->Act->World->Prop}{w:World}{d0:List Deferred}(M:R7M C t0){a:Act}(hdf:a.defers=d0)(ht:a.tmps=t0)(hw:w.drewN 1=C.W0)
  (hQ:Q .normal { tmps:=iZ (C.val ()) bPe t0,defers:=d0 } (C.W0.setCell ⟨C.br,0,none⟩ (.bool (C.bad || C.ln)))):(Code.region 7 bJ1 true).wpIn (bEe ro) n prog Q a w:=by
 have hsz:bJ1.size=13:=by kernel_rfl
 have hbs:∀u,¬ lP (Array.replicate bJ1.size false) u:=fun u=>Gu _ u
 refine bD9 (ds:=bPe) (val:=C.val) (G:=C.G) (by kernel_rfl) (by kernel_rfl) (by decide) (fun p hp=>?_) (by kernel_rfl) ?_ (γ:=()) hdf ht (by rw[hw];exact⟨fun _=>rfl,fun h=>absurd h (hbs _)⟩) ?_
 ·rw[M.sz];have:∀p,p∈bPe->p.2<119:=by decide
  exact this p hp
 ·intro γ l a w i H hr;have hi:i<13:=by
   obtain⟨_,o,ho,_⟩:=mem_ready.1 hr;have:=(Ai.1 ho).1;rw[hsz] at this;exact this
  have hno:=bDz hr;cases γ;have h12:¬ lP l 12∨lP l 12:=(Classical.em _).symm;have t2:=H.low (s:=2) (by decide) M.t2;have hall12:lP l 12->∀j,j<12->lP l j:=fun h j hj=>by
   match j,hj with
   |0,_=>exact H.back13 10 0 (by kernel_rfl) (H.back13 11 10 (by kernel_rfl) (H.back13 12 11 (by kernel_rfl) h))
   |1,_=>exact H.back13 2 1 (by kernel_rfl) (H.back13 3 2 (by kernel_rfl) (H.back13 4 3 (by kernel_rfl) (H.back13 5 4 (by kernel_rfl) (H.back13 9 5 (by kernel_rfl) (H.back13 12 9 (by kernel_rfl) h)))))
   |2,_=>exact H.back13 3 2 (by kernel_rfl) (H.back13 4 3 (by kernel_rfl) (H.back13 5 4 (by kernel_rfl) (H.back13 9 5 (by kernel_rfl) (H.back13 12 9 (by kernel_rfl) h))))
   |3,_=>exact H.back13 4 3 (by kernel_rfl) (H.back13 5 4 (by kernel_rfl) (H.back13 9 5 (by kernel_rfl) (H.back13 12 9 (by kernel_rfl) h)))
   |4,_=>exact H.back13 5 4 (by kernel_rfl) (H.back13 9 5 (by kernel_rfl) (H.back13 12 9 (by kernel_rfl) h))
   |5,_=>exact H.back13 9 5 (by kernel_rfl) (H.back13 12 9 (by kernel_rfl) h)
   |6,_=>exact H.back13 7 6 (by kernel_rfl) (H.back13 8 7 (by kernel_rfl) (H.back13 9 8 (by kernel_rfl) (H.back13 12 9 (by kernel_rfl) h)))
   |7,_=>exact H.back13 8 7 (by kernel_rfl) (H.back13 9 8 (by kernel_rfl) (H.back13 12 9 (by kernel_rfl) h))
   |8,_=>exact H.back13 9 8 (by kernel_rfl) (H.back13 12 9 (by kernel_rfl) h)
   |9,_=>exact H.back13 12 9 (by kernel_rfl) h
   |10,_=>exact H.back13 11 10 (by kernel_rfl) (H.back13 12 11 (by kernel_rfl) h)
   |11,_=>exact H.back13 12 11 (by kernel_rfl) h
   |n+12,hj=>omega
  have h12:i<12->¬ lP l 12:=fun hi h=>hno (hall12 h i hi)
  have t1:=H.low (s:=1) (by decide) M.t1
  match i,hi,hr with
  |0,_,hr =>
   have hW:=H.g.1 (h12 (by decide));subst hW;have c0:=M.k2.cell 0;exact bCb (X:=.load 147 (.tmp 2)) (v:=.pointer (some ⟨C.br,0,none⟩)) () (fun _ _=>rfl) (by kernel_rfl) (fun o h=>by simp[execOp,h,t2,c0,go_sem]) rfl (R7C.keep H.g (by decide))
  |1,_,hr =>
   have hW:=H.g.1 (h12 (by decide));subst hW;have c0:=M.k2.cell 0;exact bCb (X:=.load 147 (.tmp 2)) (v:=.pointer (some ⟨C.br,0,none⟩)) () (fun _ _=>rfl) (by kernel_rfl) (fun o h=>by simp[execOp,h,t2,c0,go_sem]) rfl (R7C.keep H.g (by decide))
  |2,_,hr =>
   have v1:a.tmps[34]?=some (.pointer (some ⟨C.br,0,none⟩)):=H.dep hr 1 34;exact bCb (X:=.nilCheck (.tmp 34)) (v:=.pointer (some ⟨C.br,0,none⟩)) () (fun _ _=>rfl) (by kernel_rfl) (fun o h=>by simp[execOp,h,v1,go_sem]) rfl (R7C.keep H.g (by decide))
  |3,_,hr =>
   have v2:a.tmps[35]?=some (.pointer (some ⟨C.br,0,none⟩)):=H.dep hr 2 35;exact bCb (X:=.fieldAddr 96 (.tmp 35) 0) (v:=.pointer (some ⟨C.br,0,none⟩)) () (fun _ _=>rfl) (by kernel_rfl) (fun o h=>by simp[execOp,h,v2,go_sem]) rfl (R7C.keep H.g (by decide))
  |4,_,hr =>
   have hW:=H.g.1 (h12 (by decide));subst hW;have v3:a.tmps[36]?=some (.pointer (some ⟨C.br,0,none⟩)):=H.dep hr 3 36;have c0:=M.kr.cell 0;exact bCb (X:=.load 4 (.tmp 36)) (v:=.bool C.bad) () (fun _ _=>rfl) (by kernel_rfl) (fun o h=>by simp[execOp,h,v3,c0,go_sem]) rfl (R7C.keep H.g (by decide))
  |5,_,hr =>
   have v4:a.tmps[37]?=some (.bool C.bad):=H.dep hr 4 37;exact bCb (X:=.move (.tmp 37)) (v:=.bool C.bad) () (fun _ _=>rfl) (by kernel_rfl) (fun o h=>by simp[execOp,h,v4,go_sem]) rfl (R7C.keep H.g (by decide))
  |6,_,hr =>
   have hW:=H.g.1 (h12 (by decide));subst hW;have v5:a.tmps[38]?=some (.bool C.bad):=H.dep hr 5 38;have hw':=nL (ops:=bJ1) (i:=6) (j:=5) (s:=38) (b:=false) (g:=some (5,false)) (by kernel_rfl) rfl (by kernel_rfl) v5;cases hb:C.bad with
   |true=>exact bFa (fun o ho=>by rw[hw' o ho,hb];rfl) (by rw[hsz];decide) (by simp[R7C.val,hb,gv]) (R7C.keep H.g (by decide))
   |false=>exact bE8 (X:=.move (.tmp 1)) (v:=.slice C.a0 C.m C.cap) (by kernel_rfl) (fun o ho=>by rw[hw' o ho,hb];rfl) (fun o h=>by simp[execOp,h,t1,go_sem]) (by simp[R7C.val,hb,gv]) (R7C.keep H.g (by decide))
  |7,_,hr =>
   have hW:=H.g.1 (h12 (by decide));subst hW;have v5:a.tmps[38]?=some (.bool C.bad):=H.dep hr 5 38;have v6:a.tmps[39]?=some (gv (!C.bad) (.slice C.a0 C.m C.cap)):=H.dep hr 6 39;have hw':=nL (ops:=bJ1) (i:=7) (j:=5) (s:=38) (b:=false) (g:=some (5,false)) (by kernel_rfl) rfl (by kernel_rfl) v5;cases hb:C.bad with
   |true=>exact bFa (fun o ho=>by rw[hw' o ho,hb];rfl) (by rw[hsz];decide) (by simp[R7C.val,hb,gv]) (R7C.keep H.g (by decide))
   |false=>exact bE8 (X:=.call { callee:=.builtin .len,args:=#[.tmp 39],argTypes:=#[36] }) (v:=.int .i64 (C.m:Int)) (by kernel_rfl) (fun o ho=>by rw[hw' o ho,hb];rfl) (fun o h=>by rw[hb] at v6;simp[gv] at v6;simp[execOp,h,v6,resolve,invoke,builtin,Act.eval,Result.andThen,go_sem]) (by simp[R7C.val,hb,gv]) (R7C.keep H.g (by decide))
  |8,_,hr =>
   have hW:=H.g.1 (h12 (by decide));subst hW;have v5:a.tmps[38]?=some (.bool C.bad):=H.dep hr 5 38;have v7:a.tmps[40]?=some (gv (!C.bad) (.int .i64 (C.m:Int))):=H.dep hr 7 40;have hw':=nL (ops:=bJ1) (i:=8) (j:=5) (s:=38) (b:=false) (g:=some (5,false)) (by kernel_rfl) rfl (by kernel_rfl) v5;cases hb:C.bad with
   |true=>exact bFa (fun o ho=>by rw[hw' o ho,hb];rfl) (by rw[hsz];decide) (by simp[R7C.val,hb,gv]) (R7C.keep H.g (by decide))
   |false=>exact bE8 (X:=.binOp .neq 3 (.tmp 40) (.const (.int .i64 3)) 3) (v:=.bool C.ln) (by kernel_rfl) (fun o ho=>by rw[hw' o ho,hb];rfl) (fun o h=>by rw[hb] at v7;simp[gv] at v7;simp[execOp,h,v7,go_sem,R7C.ln]) (by simp[R7C.val,hb,gv]) (R7C.keep H.g (by decide))
  |9,_,hr =>
   have v5:a.tmps[38]?=some (.bool C.bad):=H.dep hr 5 38;have v8:a.tmps[41]?=some (gv (!C.bad) (.bool C.ln)):=H.dep hr 8 41;exact bCb (X:=.pick (.tmp 38) (.const (.bool true)) (.tmp 41)) (v:=.bool (C.bad || C.ln)) () (fun _ _=>rfl) (by kernel_rfl) (fun o h=>by cases hb:C.bad <;> rw[hb] at v5 v8 <;> simp[gv] at v8 <;> simp[execOp,h,v5,v8,go_sem]) rfl (R7C.keep H.g (by decide))
  |10,_,hr =>
   have v0:a.tmps[33]?=some (.pointer (some ⟨C.br,0,none⟩)):=H.dep hr 0 33;exact bCb (X:=.nilCheck (.tmp 33)) (v:=.pointer (some ⟨C.br,0,none⟩)) () (fun _ _=>rfl) (by kernel_rfl) (fun o h=>by simp[execOp,h,v0,go_sem]) rfl (R7C.keep H.g (by decide))
  |11,_,hr =>
   have v10:a.tmps[43]?=some (.pointer (some ⟨C.br,0,none⟩)):=H.dep hr 10 43;exact bCb (X:=.fieldAddr 96 (.tmp 43) 0) (v:=.pointer (some ⟨C.br,0,none⟩)) () (fun _ _=>rfl) (by kernel_rfl) (fun o h=>by simp[execOp,h,v10,go_sem]) rfl (R7C.keep H.g (by decide))
  |12,_,hr =>
   have hW:=H.g.1 hno;subst hW;have v9:a.tmps[42]?=some (.bool (C.bad || C.ln)):=H.dep hr 9 42;have v11:a.tmps[44]?=some (.pointer (some ⟨C.br,0,none⟩)):=H.dep hr 11 44;have c0:=M.kr.cell 0;have f0:=aR M.kr.2 0;exact bE9 (X:=.store 4 (.tmp 44) (.tmp 42)) (by kernel_rfl) (fun o h=>by simp[execOp,h,v9,v11,c0,f0,go_sem]) ⟨fun h=>absurd (zE (by rw[H.sz,hsz];decide)) h,fun _=>rfl⟩
  |n+13,h,_=>exact absurd h (by omega)
 ·rintro γ l W hall ⟨k1,k2⟩;obtain rfl:=k2 (hall 12 (by rw[hsz];decide));exact hQ
noncomputable def bH2:Array Oper:=(f65.body.bind (bEw 28)).getD #[]
def bM3:List (Nat×Nat):=[(0,102),(1,103),(2,104),(3,105),(4,106),(5,107),(6,108),(7,109),(8,110),(9,111),(10,112),(11,113)]
structure bEp where
 W0:World
 br:Nat
 b2:Nat
 bad:Bool
 a0:Option Addr
 m:Nat
 cap:Nat
def bEp.ln(C:bEp):Bool:=decide ((0:Int)<(C.m:Int))
def bEp.val(C:bEp)(_:Unit):Nat->Value
 |0=>.pointer (some ⟨C.br,0,none⟩)
 |1=>.pointer (some ⟨C.br,0,none⟩)
 |2=>.pointer (some ⟨C.br,0,none⟩)
 |3=>.pointer (some ⟨C.br,0,none⟩)
 |4=>.bool C.bad
 |5=>.bool C.bad
 |6=>gv (!C.bad) (.slice C.a0 C.m C.cap)
 |7=>gv (!C.bad) (.int .i64 (C.m:Int))
 |8=>gv (!C.bad) (.bool C.ln)
 |9=>.bool (C.bad || C.ln)
 |10=>.pointer (some ⟨C.br,0,none⟩)
 |11=>.pointer (some ⟨C.br,0,none⟩)
 |_=>undef
def bEp.G(C:bEp)(_:Unit)(l:Array Bool)(W:World):Prop:=(¬ lP l 12->W=C.W0)/\(lP l 12->W=C.W0.setCell ⟨C.br,0,none⟩ (.bool (C.bad || C.ln)))
structure bQl(C:bEp)(t0:Array Value):Prop where
 sz:t0.size=119
 t2:t0[2]?=some (.pointer (some ⟨C.b2,0,none⟩))
 kr:aP C.W0 C.br #[.bool C.bad] 96
 k2:aP C.W0 C.b2 #[.pointer (some ⟨C.br,0,none⟩)] 147
 t10:∃b10,t0[10]?=some (.pointer (some ⟨b10,0,none⟩))/\C.W0.cell? ⟨b10,0,none⟩=some (.slice C.a0 C.m C.cap)
theorem bEp.keep{C:bEp}{l:Array Bool}{w:World}{i:Nat}(h:C.G () l w)(h12:i≠12):C.G () (l.setIfInBounds i true) w:=⟨fun h'=>h.1 (fun g=>h' (fH g)),fun h'=>h.2 (mQ h' (Ne.symm h12))⟩
theorem bLy{n:Nat}{ro:Option Nat}{C:bEp}{t0:Array Value}{Q:Exit->Act->World->Prop}{w:World}{d0:List Deferred}(M:bQl C t0){a:Act}(hdf:a.defers=d0)(ht:a.tmps=t0)(hw:w.drewN 1=C.W0)
  (hQ:Q .normal { tmps:=iZ (C.val ()) bM3 t0,defers:=d0 } (C.W0.setCell ⟨C.br,0,none⟩ (.bool (C.bad || C.ln)))):(Code.region 28 bH2 true).wpIn (bEe ro) n prog Q a w:=by
 have hsz:bH2.size=13:=by kernel_rfl
 have hbs:∀u,¬ lP (Array.replicate bH2.size false) u:=fun u=>Gu _ u
 refine bD9 (ds:=bM3) (val:=C.val) (G:=C.G) (by kernel_rfl) (by kernel_rfl) (by decide) (fun p hp=>?_) (by kernel_rfl) ?_ (γ:=()) hdf ht (by rw[hw];exact⟨fun _=>rfl,fun h=>absurd h (hbs _)⟩) ?_
 ·rw[M.sz];have:∀p,p∈bM3->p.2<119:=by decide
  exact this p hp
 ·intro γ l a w i H hr;have hi:i<13:=by
   obtain⟨_,o,ho,_⟩:=mem_ready.1 hr;have:=(Ai.1 ho).1;rw[hsz] at this;exact this
  have hno:=bDz hr;cases γ;have h12:¬ lP l 12∨lP l 12:=(Classical.em _).symm;have t2:=H.low (s:=2) (by decide) M.t2;have hall12:lP l 12->∀j,j<12->lP l j:=fun h j hj=>by
   match j,hj with
   |0,_=>exact H.back13 10 0 (by kernel_rfl) (H.back13 11 10 (by kernel_rfl) (H.back13 12 11 (by kernel_rfl) h))
   |1,_=>exact H.back13 2 1 (by kernel_rfl) (H.back13 3 2 (by kernel_rfl) (H.back13 4 3 (by kernel_rfl) (H.back13 5 4 (by kernel_rfl) (H.back13 9 5 (by kernel_rfl) (H.back13 12 9 (by kernel_rfl) h)))))
   |2,_=>exact H.back13 3 2 (by kernel_rfl) (H.back13 4 3 (by kernel_rfl) (H.back13 5 4 (by kernel_rfl) (H.back13 9 5 (by kernel_rfl) (H.back13 12 9 (by kernel_rfl) h))))
   |3,_=>exact H.back13 4 3 (by kernel_rfl) (H.back13 5 4 (by kernel_rfl) (H.back13 9 5 (by kernel_rfl) (H.back13 12 9 (by kernel_rfl) h)))
   |4,_=>exact H.back13 5 4 (by kernel_rfl) (H.back13 9 5 (by kernel_rfl) (H.back13 12 9 (by kernel_rfl) h))
   |5,_=>exact H.back13 9 5 (by kernel_rfl) (H.back13 12 9 (by kernel_rfl) h)
   |6,_=>exact H.back13 7 6 (by kernel_rfl) (H.back13 8 7 (by kernel_rfl) (H.back13 9 8 (by kernel_rfl) (H.back13 12 9 (by kernel_rfl) h)))
   |7,_=>exact H.back13 8 7 (by kernel_rfl) (H.back13 9 8 (by kernel_rfl) (H.back13 12 9 (by kernel_rfl) h))
   |8,_=>exact H.back13 9 8 (by kernel_rfl) (H.back13 12 9 (by kernel_rfl) h)
   |9,_=>exact H.back13 12 9 (by kernel_rfl) h
   |10,_=>exact H.back13 11 10 (by kernel_rfl) (H.back13 12 11 (by kernel_rfl) h)
   |11,_=>exact H.back13 12 11 (by kernel_rfl) h
   |n+12,hj=>omega
  have h12:i<12->¬ lP l 12:=fun hi h=>hno (hall12 h i hi)
  obtain⟨b10,u10,c10⟩:=M.t10;have t10:=H.low (s:=10) (by decide) u10
  match i,hi,hr with
  |0,_,hr =>
   have hW:=H.g.1 (h12 (by decide));subst hW;have c0:=M.k2.cell 0;exact bCb (X:=.load 147 (.tmp 2)) (v:=.pointer (some ⟨C.br,0,none⟩)) () (fun _ _=>rfl) (by kernel_rfl) (fun o h=>by simp[execOp,h,t2,c0,go_sem]) rfl (bEp.keep H.g (by decide))
  |1,_,hr =>
   have hW:=H.g.1 (h12 (by decide));subst hW;have c0:=M.k2.cell 0;exact bCb (X:=.load 147 (.tmp 2)) (v:=.pointer (some ⟨C.br,0,none⟩)) () (fun _ _=>rfl) (by kernel_rfl) (fun o h=>by simp[execOp,h,t2,c0,go_sem]) rfl (bEp.keep H.g (by decide))
  |2,_,hr =>
   have v1:a.tmps[103]?=some (.pointer (some ⟨C.br,0,none⟩)):=H.dep hr 1 103;exact bCb (X:=.nilCheck (.tmp 103)) (v:=.pointer (some ⟨C.br,0,none⟩)) () (fun _ _=>rfl) (by kernel_rfl) (fun o h=>by simp[execOp,h,v1,go_sem]) rfl (bEp.keep H.g (by decide))
  |3,_,hr =>
   have v2:a.tmps[104]?=some (.pointer (some ⟨C.br,0,none⟩)):=H.dep hr 2 104;exact bCb (X:=.fieldAddr 96 (.tmp 104) 0) (v:=.pointer (some ⟨C.br,0,none⟩)) () (fun _ _=>rfl) (by kernel_rfl) (fun o h=>by simp[execOp,h,v2,go_sem]) rfl (bEp.keep H.g (by decide))
  |4,_,hr =>
   have hW:=H.g.1 (h12 (by decide));subst hW;have v3:a.tmps[105]?=some (.pointer (some ⟨C.br,0,none⟩)):=H.dep hr 3 105;have c0:=M.kr.cell 0;exact bCb (X:=.load 4 (.tmp 105)) (v:=.bool C.bad) () (fun _ _=>rfl) (by kernel_rfl) (fun o h=>by simp[execOp,h,v3,c0,go_sem]) rfl (bEp.keep H.g (by decide))
  |5,_,hr =>
   have v4:a.tmps[106]?=some (.bool C.bad):=H.dep hr 4 106;exact bCb (X:=.move (.tmp 106)) (v:=.bool C.bad) () (fun _ _=>rfl) (by kernel_rfl) (fun o h=>by simp[execOp,h,v4,go_sem]) rfl (bEp.keep H.g (by decide))
  |6,_,hr =>
   have hW:=H.g.1 (h12 (by decide));subst hW;have v5:a.tmps[107]?=some (.bool C.bad):=H.dep hr 5 107;have hw':=nL (ops:=bH2) (i:=6) (j:=5) (s:=107) (b:=false) (g:=some (5,false)) (by kernel_rfl) rfl (by kernel_rfl) v5;cases hb:C.bad with
   |true=>exact bFa (fun o ho=>by rw[hw' o ho,hb];rfl) (by rw[hsz];decide) (by simp[bEp.val,hb,gv]) (bEp.keep H.g (by decide))
   |false=>exact bE8 (X:=.load 36 (.tmp 10)) (v:=.slice C.a0 C.m C.cap) (by kernel_rfl) (fun o ho=>by rw[hw' o ho,hb];rfl) (fun o h=>by simp[execOp,h,t10,c10,go_sem]) (by simp[bEp.val,hb,gv]) (bEp.keep H.g (by decide))
  |7,_,hr =>
   have hW:=H.g.1 (h12 (by decide));subst hW;have v5:a.tmps[107]?=some (.bool C.bad):=H.dep hr 5 107;have v6:a.tmps[108]?=some (gv (!C.bad) (.slice C.a0 C.m C.cap)):=H.dep hr 6 108;have hw':=nL (ops:=bH2) (i:=7) (j:=5) (s:=107) (b:=false) (g:=some (5,false)) (by kernel_rfl) rfl (by kernel_rfl) v5;cases hb:C.bad with
   |true=>exact bFa (fun o ho=>by rw[hw' o ho,hb];rfl) (by rw[hsz];decide) (by simp[bEp.val,hb,gv]) (bEp.keep H.g (by decide))
   |false=>exact bE8 (X:=.call { callee:=.builtin .len,args:=#[.tmp 108],argTypes:=#[36] }) (v:=.int .i64 (C.m:Int)) (by kernel_rfl) (fun o ho=>by rw[hw' o ho,hb];rfl) (fun o h=>by rw[hb] at v6;simp[gv] at v6;simp[execOp,h,v6,resolve,invoke,builtin,Act.eval,Result.andThen,go_sem]) (by simp[bEp.val,hb,gv]) (bEp.keep H.g (by decide))
  |8,_,hr =>
   have hW:=H.g.1 (h12 (by decide));subst hW;have v5:a.tmps[107]?=some (.bool C.bad):=H.dep hr 5 107;have v7:a.tmps[109]?=some (gv (!C.bad) (.int .i64 (C.m:Int))):=H.dep hr 7 109;have hw':=nL (ops:=bH2) (i:=8) (j:=5) (s:=107) (b:=false) (g:=some (5,false)) (by kernel_rfl) rfl (by kernel_rfl) v5;cases hb:C.bad with
   |true=>exact bFa (fun o ho=>by rw[hw' o ho,hb];rfl) (by rw[hsz];decide) (by simp[bEp.val,hb,gv]) (bEp.keep H.g (by decide))
   |false=>exact bE8 (X:=.binOp .gtr 3 (.tmp 109) (.const (.int .i64 0)) 3) (v:=.bool C.ln) (by kernel_rfl) (fun o ho=>by rw[hw' o ho,hb];rfl) (fun o h=>by rw[hb] at v7;simp[gv] at v7;simp[execOp,h,v7,go_sem,bEp.ln]) (by simp[bEp.val,hb,gv]) (bEp.keep H.g (by decide))
  |9,_,hr =>
   have v5:a.tmps[107]?=some (.bool C.bad):=H.dep hr 5 107;have v8:a.tmps[110]?=some (gv (!C.bad) (.bool C.ln)):=H.dep hr 8 110;exact bCb (X:=.pick (.tmp 107) (.const (.bool true)) (.tmp 110)) (v:=.bool (C.bad || C.ln)) () (fun _ _=>rfl) (by kernel_rfl) (fun o h=>by cases hb:C.bad <;> rw[hb] at v5 v8 <;> simp[gv] at v8 <;> simp[execOp,h,v5,v8,go_sem]) rfl (bEp.keep H.g (by decide))
  |10,_,hr =>
   have v0:a.tmps[102]?=some (.pointer (some ⟨C.br,0,none⟩)):=H.dep hr 0 102;exact bCb (X:=.nilCheck (.tmp 102)) (v:=.pointer (some ⟨C.br,0,none⟩)) () (fun _ _=>rfl) (by kernel_rfl) (fun o h=>by simp[execOp,h,v0,go_sem]) rfl (bEp.keep H.g (by decide))
  |11,_,hr =>
   have v10:a.tmps[112]?=some (.pointer (some ⟨C.br,0,none⟩)):=H.dep hr 10 112;exact bCb (X:=.fieldAddr 96 (.tmp 112) 0) (v:=.pointer (some ⟨C.br,0,none⟩)) () (fun _ _=>rfl) (by kernel_rfl) (fun o h=>by simp[execOp,h,v10,go_sem]) rfl (bEp.keep H.g (by decide))
  |12,_,hr =>
   have hW:=H.g.1 hno;subst hW;have v9:a.tmps[111]?=some (.bool (C.bad || C.ln)):=H.dep hr 9 111;have v11:a.tmps[113]?=some (.pointer (some ⟨C.br,0,none⟩)):=H.dep hr 11 113;have c0:=M.kr.cell 0;have f0:=aR M.kr.2 0;exact bE9 (X:=.store 4 (.tmp 113) (.tmp 111)) (by kernel_rfl) (fun o h=>by simp[execOp,h,v9,v11,c0,f0,go_sem]) ⟨fun h=>absurd (zE (by rw[H.sz,hsz];decide)) h,fun _=>rfl⟩
  |n+13,h,_=>exact absurd h (by omega)
 ·rintro γ l W hall ⟨k1,k2⟩;obtain rfl:=k2 (hall 12 (by rw[hsz];decide));exact hQ
noncomputable def bL2:Array Oper:=(f65.body.bind (bEw 18)).getD #[]
def bM5:List (Nat×Nat):=[(0,74),(1,75),(2,76),(3,77),(4,78),(5,79)]
structure bMs where
 W0:World
 bk:Nat
 bw:Nat
 m:Nat
 kw:List UInt8
 x3:List UInt8
def bMs.val(C:bMs)(_:Unit):Nat->Value
 |0=>.pointer (some ⟨C.bk,0,none⟩)
 |1=>.string ⟨C.kw.toArray⟩
 |2=>.slice (some ⟨C.bw,0,none⟩) C.m C.m
 |3=>.pointer (some ⟨C.bw,3,none⟩)
 |4=>.string ⟨C.x3.toArray⟩
 |_=>.bool (!(C.kw==C.x3))
def bMs.G(C:bMs)(_:Unit)(_:Array Bool)(W:World):Prop:=W=C.W0
structure bQn(C:bMs)(t0:Array Value):Prop where
 sz:t0.size=119
 t1:t0[1]?=some (.slice (some ⟨C.bw,0,none⟩) C.m C.m)
 t9:t0[9]?=some (.pointer (some ⟨C.bk,0,none⟩))
 hm:4<=C.m
 k0:C.W0.cell? ⟨C.bk,0,none⟩=some (.string ⟨C.kw.toArray⟩)
 w3:C.W0.cell? ⟨C.bw,3,none⟩=some (.string ⟨C.x3.toArray⟩)
theorem bL1{n:Nat}{ro:Option Nat}{C:bMs}{t0:Array Value}{Q:Exit->Act->World->Prop}{w:World}{d0:List Deferred}(M:bQn C t0){a:Act}(hdf:a.defers=d0)(ht:a.tmps=t0)(hw:w.drewN 1=C.W0)
  (hQ:Q .normal { tmps:=iZ (C.val ()) bM5 t0,defers:=d0 } C.W0):(Code.region 18 bL2 true).wpIn (bEe ro) n prog Q a w:=by
 have hsz:bL2.size=6:=by kernel_rfl
 have hbs:∀u,¬ lP (Array.replicate bL2.size false) u:=fun u=>Gu _ u
 refine bD9 (ds:=bM5) (val:=C.val) (G:=C.G) (by kernel_rfl) (by kernel_rfl) (by decide) (fun p hp=>?_) (by kernel_rfl) ?_ (γ:=()) hdf ht (by rw[hw];exact rfl) ?_
 ·rw[M.sz];have:∀p,p∈bM5->p.2<119:=by decide
  exact this p hp
 ·intro γ l a w i H hr;have hi:i<6:=by
   obtain⟨_,o,ho,_⟩:=mem_ready.1 hr;have:=(Ai.1 ho).1;rw[hsz] at this;exact this
  have hno:=bDz hr;cases γ;have t1:=H.low (s:=1) (by decide) M.t1;have t9:=H.low (s:=9) (by decide) M.t9;have hm3:¬ ((C.m:Int)<=3):=by have:=M.hm;omega
  have hW:w=C.W0:=H.g;subst hW
  match i,hi,hr with
  |0,_,hr=>exact bCb (X:=.fieldAddr 62 (.tmp 9) 0) (v:=.pointer (some ⟨C.bk,0,none⟩)) () (fun _ _=>rfl) (by kernel_rfl) (fun o h=>by simp[execOp,h,t9,go_sem]) rfl rfl
  |1,_,hr =>
   have v0:a.tmps[74]?=some (.pointer (some ⟨C.bk,0,none⟩)):=H.dep hr 0 74;have c0:=M.k0;exact bCb (X:=.load 9 (.tmp 74)) (v:=.string ⟨C.kw.toArray⟩) () (fun _ _=>rfl) (by kernel_rfl) (fun o h=>by simp[execOp,h,v0,c0,go_sem]) rfl rfl
  |2,_,hr=>exact bCb (X:=.move (.tmp 1)) (v:=.slice (some ⟨C.bw,0,none⟩) C.m C.m) () (fun _ _=>rfl) (by kernel_rfl) (fun o h=>by simp[execOp,h,t1,go_sem]) rfl rfl
  |3,_,hr =>
   have v2:a.tmps[76]?=some (.slice (some ⟨C.bw,0,none⟩) C.m C.m):=H.dep hr 2 76;exact bCb (X:=.indexAddr 36 (.tmp 76) (.const (.int .i64 3))) (v:=.pointer (some ⟨C.bw,3,none⟩)) () (fun _ _=>rfl) (by kernel_rfl) (fun o h=>by simp[execOp,h,v2,hm3,go_sem]) rfl rfl
  |4,_,hr =>
   have v3:a.tmps[77]?=some (.pointer (some ⟨C.bw,3,none⟩)):=H.dep hr 3 77;have c0:=M.w3;exact bCb (X:=.load 9 (.tmp 77)) (v:=.string ⟨C.x3.toArray⟩) () (fun _ _=>rfl) (by kernel_rfl) (fun o h=>by simp[execOp,h,v3,c0,go_sem]) rfl rfl
  |5,_,hr =>
   have v1:a.tmps[75]?=some (.string ⟨C.kw.toArray⟩):=H.dep hr 1 75;have v4:a.tmps[78]?=some (.string ⟨C.x3.toArray⟩):=H.dep hr 4 78;exact bCb (X:=.binOp .neq 9 (.tmp 75) (.tmp 78) 9) (v:=.bool (!(C.kw==C.x3))) () (fun _ _=>rfl) (by kernel_rfl) (fun o h=>by by_cases hk:C.kw=C.x3 <;> simp[execOp,h,v1,v4,hk,go_sem]) rfl rfl
  |n+6,h,_=>exact absurd h (by omega)
 ·rintro γ l W hall hg;have hW:W=C.W0:=hg;subst hW;exact hQ
noncomputable def bL0:Array Oper:=(f65.body.bind (bEw 26)).getD #[]
def bM4:List (Nat×Nat):=[(0,94),(1,95),(2,96),(3,97),(4,98),(5,99)]
structure bHy where
 W0:World
 br:Nat
 b2:Nat
 bf:Nat
 b10:Nat
 br0:Nat
 of:Nat
 m:Nat
 cap:Nat
 i:Int
 x:List UInt8
 Pf:Value->World->Prop
def bHy.val(C:bHy)(γ:Value):Nat->Value
 |0=>.pointer (some ⟨C.br,0,none⟩)
 |1=>.int .i64 C.i
 |2=>.slice (some ⟨C.br0,C.of,none⟩) C.m C.cap
 |3=>.pointer (some ⟨C.br0,C.of,none⟩)
 |4=>.string ⟨C.x.toArray⟩
 |_=>γ
def bHy.G(C:bHy)(γ:Value)(l:Array Bool)(W:World):Prop:=(¬ lP l 5->W=C.W0)/\(lP l 5->C.Pf γ W)
structure bQm(C:bHy)(t0:Array Value):Prop where
 sz:t0.size=119
 t2:t0[2]?=some (.pointer (some ⟨C.b2,0,none⟩))
 t5:t0[5]?=some (.pointer (some ⟨C.bf,0,none⟩))
 t10:t0[10]?=some (.pointer (some ⟨C.b10,0,none⟩))
 t11:t0[11]?=some (.int .i64 C.i)
 hm:0<C.m
 k2:C.W0.cell? ⟨C.b2,0,none⟩=some (.pointer (some ⟨C.br,0,none⟩))
 k10:C.W0.cell? ⟨C.b10,0,none⟩=some (.slice (some ⟨C.br0,C.of,none⟩) C.m C.cap)
 kx:C.W0.cell? ⟨C.br0,C.of,none⟩=some (.string ⟨C.x.toArray⟩)
 hf:Calls prog 129 #[.pointer (some ⟨C.br,0,none⟩),.pointer (some ⟨C.bf,0,none⟩),.int .i64 C.i,.string ⟨C.x.toArray⟩] C.W0 fun e W'=>∃v,e=.returned v/\C.Pf v W'
theorem bHy.keep{C:bHy}{γ:Value}{l:Array Bool}{w:World}{i:Nat}(h:C.G γ l w)(h5:i≠5):C.G γ (l.setIfInBounds i true) w:=⟨fun h'=>h.1 (fun g=>h' (fH g)),fun h'=>h.2 (mQ h' (Ne.symm h5))⟩
theorem bLz{n:Nat}{ro:Option Nat}{C:bHy}{t0:Array Value}{Q:Exit->Act->World->Prop}{w:World}{d0:List Deferred}(M:bQm C t0){a:Act}(hdf:a.defers=d0)(ht:a.tmps=t0)(hw:w.drewN 1=C.W0)
  (hQ:∀v W,C.Pf v W->Q .normal { tmps:=iZ (C.val v) bM4 t0,defers:=d0 } W):(Code.region 26 bL0 true).wpIn (bEe ro) n prog Q a w:=by
 have hsz:bL0.size=6:=by kernel_rfl
 have hbs:∀u,¬ lP (Array.replicate bL0.size false) u:=fun u=>Gu _ u
 refine bD9 (ds:=bM4) (val:=C.val) (G:=C.G) (by kernel_rfl) (by kernel_rfl) (by decide) (fun p hp=>?_) (by kernel_rfl) ?_ (γ:=.bool false) hdf ht (by rw[hw];exact⟨fun _=>rfl,fun h=>absurd h (hbs _)⟩) ?_
 ·rw[M.sz];have:∀p,p∈bM4->p.2<119:=by decide
  exact this p hp
 ·intro γ l a w i H hr;have hi:i<6:=by
   obtain⟨_,o,ho,_⟩:=mem_ready.1 hr;have:=(Ai.1 ho).1;rw[hsz] at this;exact this
  have hno:=bDz hr;have t2:=H.low (s:=2) (by decide) M.t2;have t5:=H.low (s:=5) (by decide) M.t5;have t10:=H.low (s:=10) (by decide) M.t10;have t11:=H.low (s:=11) (by decide) M.t11;have hm0:=M.hm
  match i,hi,hr with
  |0,_,hr =>
   have hW:=H.g.1 (fun h=>hno (H.back13 5 0 (by kernel_rfl) h));subst hW;have c0:=M.k2;exact bCb (X:=.load 147 (.tmp 2)) (v:=.pointer (some ⟨C.br,0,none⟩)) γ (fun _ _=>rfl) (by kernel_rfl) (fun o h=>by simp[execOp,h,t2,c0,go_sem]) rfl (bHy.keep H.g (by decide))
  |1,_,hr=>exact bCb (X:=.move (.tmp 11)) (v:=.int .i64 C.i) γ (fun _ _=>rfl) (by kernel_rfl) (fun o h=>by simp[execOp,h,t11,go_sem]) rfl (bHy.keep H.g (by decide))
  |2,_,hr =>
   have hn5:¬ lP l 5:=fun h=>hno (H.back13 3 2 (by kernel_rfl) (H.back13 4 3 (by kernel_rfl) (H.back13 5 4 (by kernel_rfl) h)))
   have hW:=H.g.1 hn5;subst hW;have c0:=M.k10;exact bCb (X:=.load 36 (.tmp 10)) (v:=.slice (some ⟨C.br0,C.of,none⟩) C.m C.cap) γ (fun _ _=>rfl) (by kernel_rfl) (fun o h=>by simp[execOp,h,t10,c0,go_sem]) rfl (bHy.keep H.g (by decide))
  |3,_,hr =>
   have v2:a.tmps[96]?=some (.slice (some ⟨C.br0,C.of,none⟩) C.m C.cap):=H.dep hr 2 96;exact bCb (X:=.indexAddr 36 (.tmp 96) (.const (.int .i64 0))) (v:=.pointer (some ⟨C.br0,C.of,none⟩)) γ (fun _ _=>rfl) (by kernel_rfl) (fun o h=>by simp[execOp,h,v2,hm0,go_sem]) rfl (bHy.keep H.g (by decide))
  |4,_,hr =>
   have v3:a.tmps[97]?=some (.pointer (some ⟨C.br0,C.of,none⟩)):=H.dep hr 3 97;have hn5:¬ lP l 5:=fun h=>hno (H.back13 5 4 (by kernel_rfl) h)
   have hW:=H.g.1 hn5;subst hW;have c0:=M.kx;exact bCb (X:=.load 9 (.tmp 97)) (v:=.string ⟨C.x.toArray⟩) γ (fun _ _=>rfl) (by kernel_rfl) (fun o h=>by simp[execOp,h,v3,c0,go_sem]) rfl (bHy.keep H.g (by decide))
  |5,_,hr =>
   have hW:=H.g.1 hno;subst hW;have v0:a.tmps[94]?=some (.pointer (some ⟨C.br,0,none⟩)):=H.dep hr 0 94;have v1:a.tmps[95]?=some (.int .i64 C.i):=H.dep hr 1 95;have v4:a.tmps[98]?=some (.string ⟨C.x.toArray⟩):=H.dep hr 4 98;refine bFr (f:=129) (lb:=#[]) (c:=.func 129) (args:=#[.tmp 94,.tmp 5,.tmp 95,.tmp 98]) (ts:=#[147,102,3,9]) (vs:=#[.pointer (some ⟨C.br,0,none⟩),.pointer (some ⟨C.bf,0,none⟩),.int .i64 C.i,.string ⟨C.x.toArray⟩]) (by kernel_rfl) rfl (aXb func129) (by simp[Act.eval,v0,v1,v4,t5]) (M.hf.mono ?_);rintro e w' ⟨v,rfl,hp⟩;refine⟨_,v,rfl,rfl,fun j hj=>?_,fun h=>absurd (zE (by rw[H.sz,hsz];decide)) h,fun _=>hp⟩
   match j,hj with
   |5,hj=>exact absurd hj hno
   |0,_|1,_|2,_|3,_|4,_=>rfl
   |j+6,hj =>
    exfalso;have:lP l (j+6):=hj;unfold lP at this;rw[Array.getD_eq_getD_getElem?,Array.getElem?_eq_none (by rw[H.sz,hsz];omega)] at this;cases this
  |n+6,h,_=>exact absurd h (by omega)
 ·rintro γ l W hall ⟨k1,k2⟩;exact hQ γ W (k2 (hall 5 (by rw[hsz];decide)))
end
section
open Go Go.RowKit Num
theorem bPl(n1 br bf:Nat)(bad:Bool)(g:aE)(pv ov:Value)(i:Nat)(hi:i<13)(s:List UInt8)(hl:s.length<=65536)(hpl:g.picks.length<=1000000)(hol:g.options.length<=1000000)(W w0:World)(hE0:iE w0)(hw0:Below w0.heap.size w0 W)(hbr:w0.heap.size<=br)(hn1:n1<=W.heap.size)(hno:w0.heap.size<=n1)(hbf:w0.heap.size<=bf)(hF:FSt W n1 br bf bad g pv ov):
  Calls prog 129 #[.pointer (some ⟨br,0,none⟩),.pointer (some ⟨bf,0,none⟩),.int .i64 (i:Int),.string ⟨s.toArray⟩] W (Fld W n1 br bf bad g pv ov i s):=by
 have hE:=hE0.below hw0
 by_cases h1:i=0∨i=1∨i=2∨i=3
 ·exact bP1 n1 br bf bad g pv ov i h1 s W hF
 by_cases h2:i=4∨i=5∨i=6
 ·exact bP3 n1 br bf bad g pv ov i h2 s hl W hF
 by_cases h3:i=7∨i=8∨i=9
 ·exact bP2 n1 br bf bad g pv ov i h3 s hl W hE hF
 by_cases h4:i=10
 ·subst h4;exact bNv n1 br bf bad g pv ov s hl hpl W hE hn1 hF
 by_cases h5:i=11
 ·subst h5;exact bOr n1 br bf bad g pv ov s hl hol W w0 hE0 hw0 hbr hn1 hno hbf hF
 obtain rfl:i=12:=by omega
 exact bMe n1 br bf bad g pv ov s hl W hE hF
theorem bKp{w:World}{b r n cnt:Nat}{D:DataW Unit}{left:Lit->Bool}{kvs:List (Int×Value)}{x:Int}{c:Value}(hA:eL w b kvs)(hR:w.ranges prog 3 Ca b r n D left cnt)(hen:(Instr.entry (.pointer (some ⟨r,0,none⟩))).run prog w=.ok (.tuple #[.int .i64 x,c]) w):(x,c)∈kvs:=by
 obtain⟨es,clock,hb,he⟩:=hA;obtain⟨es',clock',since,seen,c0,hb',F,hs,rfl,hr,hold,rfl,hl1,hl2,hsc,hsk⟩:=hR;rw[hb] at hb';injection hb' with hb'
 injection hb' with e1 e2
 subst e1 e2;simp only[Instr.entry,getObj,Sem.run_bind,Sem.run,hr,Result.andThen] at hen;cases hbk:seen.back? with
 |none=>rw[hbk] at hen;cases hen
 |some st =>
  rw[hbk] at hen;dsimp only at hen;simp only[hb,Sem.run_bind,Sem.run,Result.andThen] at hen
  by_cases hc:(clock != c0)=true
  ·rw[if_pos hc] at hen;cases hen
  ·rw[if_neg hc] at hen;cases hf:es.find? (·.born==st) with
   |none=>rw[hf] at hen;cases hen
   |some e =>
    rw[hf] at hen;have hen:e.key=Value.int .i64 x/\e.val=c:=by
     simp at hen;exact hen
    have hm:e∈es.toList:=by
     have:=Array.mem_of_find?_eq_some hf;simpa using this
    have hmem:(e.key,e.val)∈kvs.map (fun p=>(Value.int .i64 p.1,p.2)):=by rw[<-he];exact List.mem_map.2 ⟨e,hm,rfl⟩
    rw[hen.1,hen.2] at hmem;obtain⟨q,hq,e3⟩:=List.mem_map.1 hmem;injection e3 with e3 e4
    injection e3 with _ e3
    rw[<-e3,<-e4];exact hq
theorem bGd:∀(is:List Nat) (ss:List (List UInt8)) (f:aE) (i:Nat) (s:List UInt8),is.length=ss.length->bDk f (is ++ [i]) (ss ++ [s])=(bDk f is ss).bind fun g=>bCi g i s
 | [],[],f,i,s,_=>by
  show (bCi f i s).bind (fun g=>bDk g [] [])=_;show (bCi f i s).bind (fun g=>some g)=bCi f i s;cases bCi f i s <;> rfl
 |j::is,t::ss,f,i,s,h=>by
  show (bCi f j t).bind (fun g=>bDk g (is ++ [i]) (ss ++ [s]))=((bCi f j t).bind fun g=>bDk g is ss).bind _;cases bCi f j t with
  |none=>rfl
  |some g=>exact bGd is ss g i s (by simpa using h)
 | [],_::_,_,_,_,h=>by simp at h
 |_::_,[],_,_,_,h=>by simp at h
def bJp(o:Option aE)(bad:Bool)(g:aE):Prop:=bad=o.isNone/\∀h,o=some h->g=h
theorem bJp.step{o:Option aE}{bad bad':Bool}{g g':aE}{i:Nat}{s:List UInt8}(h:bJp o bad g)(h1:bad'=(bad || (bCi g i s).isNone))(h2:∀h,bCi g i s=some h->g'=h):bJp (o.bind fun g=>bCi g i s) bad' g':=by
 obtain⟨rfl,hg⟩:=h;subst h1;cases o with
 |none=>exact⟨rfl,fun h e=>by cases e⟩
 |some g0 =>
  obtain rfl:=hg g0 rfl;exact⟨by simp,h2⟩
theorem bE5:∀(is:List Nat) (ss:List (List UInt8)) (f:aE),is.length≠ss.length->bDk f is ss=none
 | [],[],_,h=>absurd rfl h
 | [],_::_,_,_=>rfl
 |_::_,[],_,_=>rfl
 |j::is,t::ss,f,h=>by
  show (bCi f j t).bind (fun g=>bDk g is ss)=none;cases bCi f j t with
  |none=>rfl
  |some g=>exact bE5 is ss g (by simpa using h)
end
section
open Go Go.RowKit Num
def bBy:Value:=.slice none 0 0
structure bN6(W w0:World)(br rc:Nat)(bad:Bool)(g:aE)(pv ov:Value):Prop where
 kr:aP W br #[.bool bad] 96
 kc:aP W rc (g.cellsW pv ov) 29
 op:W.ownsRow w0.heap.size 83 2 pv g.picks.length (bEr g.picks)
 oo:W.ownsRow w0.heap.size 55 7 ov g.options.length (bEk g.options)
 be:Below w0.heap.size w0 W
structure RSt(W w0:World)(br bf b2 rc bw:Nat)(ws:List (List UInt8))(bad:Bool)(g:aE)(pv ov:Value):Prop where
 F:FSt W w0.heap.size br bf bad g pv ov
 k2:aP W b2 #[.pointer (some ⟨br,0,none⟩)] 147
 kc:aP W rc (bDh.cellsW bBy bBy) 29
 kw:aP W bw (bDf ws).toArray 9
 be:Below w0.heap.size w0 W
 lr:w0.heap.size<=br
 lf:w0.heap.size<=bf
 nc:rc≠bf
theorem bEg{W W':World}{b:Nat}{cs:Array Value}{T:TypeId}{S:Nat->Prop}(h:aP W b cs T)(hw:aZf S W W')(hS:∀k,S k->∀o,W.heap[k]?=some o->o.isCells=false):aP W' b cs T :=
 hw.box h fun hs=>by have:=hS b hs _ h.2;cases this
theorem bFi{W W':World}{n1:Nat}{e:TypeId}{s n:Nat}{v:Value}{xs:List Value}{S:Nat->Prop}(h:W.ownsRow n1 e s v n xs)(hw:aZf S W W')(hS:∀k,S k->∀o,W.heap[k]?=some o->o.isCells=false):W'.ownsRow n1 e s v n xs :=
 bDd h hw fun k hk hs=>by
  rcases h.2 with⟨rfl,_⟩|⟨g,cap,cur,rfl,h1,h2,_⟩
  ·cases hk
  ·obtain rfl:g=k:=by simpa[Value.ownBlock] using hk
   have:=hS g hs _ h2;cases this
section
variable {W W' w0:World}{br bf b2 rc bw:Nat}{ws:List (List UInt8)}{bad bad':Bool}{g g':aE}{pv ov pv' ov':Value}
theorem RSt.not_rc(h:RSt W w0 br bf b2 rc bw ws bad g pv ov):¬ Tch br bf pv ov rc:=by
 rintro(e|e|e|e)
 ·exact bDt h.kc h.F.kr (by decide) e
 ·exact h.nc e
 ·exact bC0 h.kc (by decide) h.F.op e
 ·exact bC0 h.kc (by decide) h.F.oo e
theorem RSt.low(h:RSt W w0 br bf b2 rc bw ws bad g pv ov)(k:Nat)(hk:Tch br bf pv ov k):w0.heap.size<=k:=by
 rcases hk with rfl|rfl|e|e
 ·exact h.lr
 ·exact h.lf
 ·exact(h.F.op.lt k e).1
 ·exact(h.F.oo.lt k e).1
theorem RSt.step(h:RSt W w0 br bf b2 rc bw ws bad g pv ov)(hF:FSt W' w0.heap.size br bf bad' g' pv' ov')(hw:aZf (Tch br bf pv ov) W W'):RSt W' w0 br bf b2 rc bw ws bad' g' pv' ov' :=
 ⟨hF,hw.box h.k2 (h.F.not_box h.k2 (by decide) (by decide) (by decide) (by decide)),hw.box h.kc h.not_rc,hw.box h.kw (h.F.not_box h.kw (by decide) (by decide) (by decide) (by decide)),
  h.be.trans (hw.below h.be.size fun k hk ht=>absurd (h.low k ht) (Nat.not_le.2 hk)),h.lr,h.lf,h.nc⟩
theorem RSt.other(h:RSt W w0 br bf b2 rc bw ws bad g pv ov){S:Nat->Prop}(hw:aZf S W W')(hS:∀k,S k->w0.heap.size<=k/\∀o,W.heap[k]?=some o->o.isCells=false):RSt W' w0 br bf b2 rc bw ws bad g pv ov :=
 have hS':=fun k hk=>(hS k hk).2
 ⟨⟨bEg h.F.kr hw hS',bEg h.F.kf hw hS',bFi h.F.op hw hS',bFi h.F.oo hw hS'⟩,bEg h.k2 hw hS',bEg h.kc hw hS',bEg h.kw hw hS',h.be.trans (hw.below h.be.size fun k hk hs=>absurd (hS k hs).1 (Nat.not_le.2 hk)),h.lr,h.lf,h.nc⟩
theorem RSt.below(h:RSt W w0 br bf b2 rc bw ws bad g pv ov)(hb:Below W.heap.size W W'):RSt W' w0 br bf b2 rc bw ws bad g pv ov :=
 h.other (S:=fun _=>False) (aZf.of_below hb) (fun _ h=>h.elim)
theorem RSt.wrote(h:RSt W w0 br bf b2 rc bw ws bad g pv ov){S:Nat->Prop}(hw:aZf S W W')(h1:∀k,Tch br bf pv ov k->¬ S k)(h2:¬ S b2)(h3:¬ S rc)(h4:¬ S bw)(h5:∀k,S k->w0.heap.size<=k):RSt W' w0 br bf b2 rc bw ws bad g pv ov :=
 ⟨h.F.wrote hw h1,hw.box h.k2 h2,hw.box h.kc h3,hw.box h.kw h4,h.be.trans (hw.below h.be.size fun k hk hs=>absurd (h5 k hs) (Nat.not_le.2 hk)),h.lr,h.lf,h.nc⟩
theorem RSt.fin(h:RSt W w0 br bf b2 rc bw ws bad g pv ov)(hb:aP W' rc (g.cellsW pv ov) 29)(hg:W.grownBy W' (some rc))(hl:w0.heap.size<=rc):bN6 W' w0 br rc bad g pv ov:=by
 have hw:aZf (· = rc) W W':=aZf.grown hg (fun k e=>by injection e with e;exact e.symm);have hF:=h.F.wrote hw (fun k hk e=>h.not_rc (e ▸ hk));exact⟨hF.kr,hb,hF.op,hF.oo,h.be.trans (hw.below h.be.size fun k hk e=>by subst e;exact absurd hl (Nat.not_le.2 hk))⟩
theorem RSt.marked(h:RSt W w0 br bf b2 rc bw ws bad g pv ov)(b:Bool):RSt (W.setCell ⟨br,0,none⟩ (.bool b)) w0 br bf b2 rc bw ws b g pv ov :=
 h.step (h.F.mark (aZf.set _ _ _ rfl) (bEq h.F.kr)) (aZf.set _ _ _ (.inl rfl))
theorem RSt.setF(h:RSt W w0 br bf b2 rc bw ws bad g pv ov)(j:Nat)(v:Value)(hc:(g.cellsW pv ov).setIfInBounds j v=g'.cellsW pv ov)(h1:g'.picks=g.picks)(h2:g'.options=g.options):RSt (W.setCell ⟨bf,j,none⟩ v) w0 br bf b2 rc bw ws bad g' pv ov :=
 h.step (h.F.set j v hc h1 h2) (aZf.set _ _ _ (.inr (.inl rfl)))
theorem bN6.other{S:Nat->Prop}(h:bN6 W w0 br rc bad g pv ov)(hw:aZf S W W')(hS:∀k,S k->w0.heap.size<=k/\∀o,W.heap[k]?=some o->o.isCells=false):bN6 W' w0 br rc bad g pv ov :=
 have hS':=fun k hk=>(hS k hk).2
 ⟨bEg h.kr hw hS',bEg h.kc hw hS',bFi h.op hw hS',bFi h.oo hw hS',h.be.trans (hw.below h.be.size fun k hk hs=>absurd (hS k hs).1 (Nat.not_le.2 hk))⟩
theorem FSt.keeps(h:FSt W w0.heap.size br bf bad g pv ov)(hw:aZf (Tch br bf pv ov) W W'):KeepsOthers W W':=by
 refine⟨hw.size,fun k o hk ho=>(hw.block k (Ai.1 hk).1 fun ht=>?_).trans hk⟩;have hrow:∀ {e:TypeId}{s n:Nat}{v:Value}{xs:List Value},W.ownsRow w0.heap.size e s v n xs->v.ownBlock=some k->False:=fun hr hv=>by
  rcases hr.2 with⟨rfl,_⟩|⟨g,cap,cur,rfl,h1,h2,_⟩
  ·cases hv
  ·obtain rfl:g=k:=by simpa[Value.ownBlock] using hv
   rw[h2] at hk;cases hk;cases ho
 rcases ht with rfl|rfl|e|e
 ·rw[h.kr.2] at hk;cases hk;cases ho
 ·rw[h.kf.2] at hk;cases hk;cases ho
 ·exact hrow h.op e
 ·exact hrow h.oo e
theorem bEm{n1:Nat}{e:TypeId}{s n:Nat}{v:Value}{xs:List Value}(h:W.ownsRow n1 e s v n xs):v.oneCell'=true:=by
 rcases h.2 with⟨rfl,_⟩|⟨g,cap,cur,rfl,_⟩ <;> rfl
theorem bD1(h1:pv.oneCell'=true)(h2:ov.oneCell'=true):(g.cellsW pv ov).all (·.oneCell')=true:=by
 unfold aE.cellsW;simp only[List.all_toArray,List.all_cons,List.all_nil,h1,h2];rfl
theorem bD0:(prog.info? 29).map (·.size)=some (g.cellsW pv ov).size:=by
 show _=some 21
 kernel_rfl
end
theorem bKv{A B:World}{row:Option Nat}{n base:Nat}(hg:A.grownBy B row)(hr:∀r,row=some r->base<=r/\∃o:Obj,A.heap[r]?=some o/\o.isCells=false)(hn:n<=base):aZf (fun k=>row=some k) A B/\∀k,row=some k->n<=k/\∀o,A.heap[k]?=some o->o.isCells=false :=
 ⟨aZf.grown hg (fun k e=>e),fun k e=>by
  obtain⟨h1,o,h2,h3⟩:=hr k e;exact⟨Nat.le_trans hn h1,fun o' h=>by rw[h2] at h;cases h;exact h3⟩⟩
def bFw(w0:World)(br bf b2 rc bw b10:Nat)(ws:List (List UInt8))(o0:Option aE)(more:List (List UInt8))(pre:List (Fin 13))(W:World):Prop :=
 ∃bad g pv ov off,RSt W w0 br bf b2 rc bw ws bad g pv ov/\aP W b10 #[.slice (some ⟨bw,off,none⟩) (more.length-pre.length) (more.length-pre.length)] 36/\(pre.length<more.length->off=4+pre.length)/\pre.length<=more.length/\bJp (o0.bind fun g=>bDk g (pre.map (·.val)) (more.take pre.length)) bad g/\g.picks.length<=pre.length*65537/\g.options.length<=pre.length*65537
def bHx(w0:World)(br rc:Nat)(more:List (List UInt8))(c:Code)(pre:List (Fin 13))(W:World):Prop :=
 c=.ret/\pre.length=more.length+1/\∃g pv ov,bN6 W w0 br rc true g pv ov
theorem bFw.own{w0:World}{br bf b2 rc bw b10 base:Nat}{ws:List (List UInt8)}{o0:Option aE}{more:List (List UInt8)}(hn:w0.heap.size<=base):OwnFrom base (bFw w0 br bf b2 rc bw b10 ws o0 more):=by
 rintro pre A B row ⟨bad,g,pv,ov,off,h1,h2,h3⟩ hg hr;obtain⟨hw,hS⟩:=bKv hg hr hn;exact⟨bad,g,pv,ov,off,h1.other hw hS,bEg h2 hw (fun k hk=>(hS k hk).2),h3⟩
theorem bHx.own{w0:World}{br rc base:Nat}{more:List (List UInt8)}(hn:w0.heap.size<=base)(c:Code):OwnFrom base (bHx w0 br rc more c):=by
 rintro pre A B row ⟨e,hp,g,pv,ov,h1⟩ hg hr;obtain⟨hw,hS⟩:=bKv hg hr hn;exact⟨e,hp,g,pv,ov,h1.other hw hS⟩
end
end Go.Proofs.YthjekgfoidmagaaGreatDoor
