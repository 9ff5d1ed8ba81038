/- RangeA WTotR WTotal -/
import Derived.Test.YtiloklnjjfaagaaGreatDoorWA
set_option maxHeartbeats 16000000
set_option maxRecDepth 100000
namespace Go.Proofs.YtiloklnjjfaagaaGreatDoor
open Go.Proofs.Tryz
section
open Go Go.RowKit Go.Shelf
theorem dJ6{P:Program}{n:Nat}{β:Type}{g:Operand}{ps:Array Tmp}{assign body:Code}{Q:Exit->Act->World->Prop}{a:Act}{w:World}
  {gf:Nat}{lb:Array Value}(hg:a.eval g=.func (.func gf) #[] lb) (eg:∀args w,(callFunc gf args).run P w=.ok (.enter gf args) w)
  (encs:β->Array Value) (hps:∀s,(encs s).size=ps.size) (I I':β->World->Prop) (hI:OwnFrom w.heap.size I) (hI':OwnFrom w.heap.size I') (s0:β) (h0:I' s0 w) (Fin:β->Prop) (Asg:β->Act->World->Prop) (hAsg:∀s a',OwnFrom w.heap.size (fun (_:Unit) W=>Asg s a' W))
  (hassign:∀(l:Nat) (s:β) (W:World) (K:Act->World->Prop),I s W->(∀a' W',KeepsOthers W W'->I s W'->Asg s a' W'->K a' W')->assign.wpIn (Fence.wide.inRound l) (n-1-1) P (Exit.then K (fun _ _ _=>False)) { tmps:=(ps.zip (encs s)).foldl (fun t (p,v)=>t.setIfInBounds p v) a.tmps,defers:=[] } W)
  (hbody:∀(l:Nat) (s:β) (a':Act) (W:World),I s W->Asg s a' W->body.wpIn (Fence.wide.inRound l) (n-1-1) P (fun e _ W'=>e=.normal/\KeepsOthers W W'/\I' s W') a' W)
  (hiter:∀(l:Nat) (R:World->Prop) (W1:World),(∀A B,R A->KeepsOthers A B->R B) ->
   (∀s W,I s W->R W->YieldAt Fence.wide (n-1-1) P l (encs s) W fun e W'=>e=.returned (.bool true)/\I' s W'/\R W') ->
   I' s0 W1->R W1->CallsIn Fence.wide (n-1) P gf (#[.func (.yield l) #[] #[]]++lb) W1 fun e W'=>(∃v,e=.returned v)/\∃s,Fin s/\I' s W'/\R W')
  (hdone:∀(D:Nat) (s:β) (W:World),w.heap.size<=D->Fin s->I' s W->W.heap[D]?=some (.deferred (some []))->Q .normal { a with defers:={ target:=.collected D,args:=#[] }::a.defers } W) :
  (Code.rangeFunc g ps assign body).wpIn Fence.wide n P Q a w:=by
 refine wpIn_rangeFunc fun fn hfn=>?_
 obtain⟨L,hL⟩:∃L:LoopState->Loop,L=fun st=>{ state:=st,pending:=none,fn,tmps:=a.tmps,params:=ps,assign,body,defers:=w.heap.size }:=⟨_,rfl⟩
 have hR:∀A B:World,(A.heap[w.heap.size+1]?=some (.loop (L .ready))/\A.heap[w.heap.size]?=some (.deferred (some [])))->KeepsOthers A B->(B.heap[w.heap.size+1]?=some (.loop (L .ready))/\B.heap[w.heap.size]?=some (.deferred (some []))) :=
  fun A B h k=>⟨k.same _ _ h.1 rfl,k.same _ _ h.2 rfl⟩
 have hR1:((w.alloc (.deferred (some []))).alloc (.loop (L .ready))).heap[w.heap.size+1]?=some (.loop (L .ready))/\((w.alloc (.deferred (some []))).alloc (.loop (L .ready))).heap[w.heap.size]?=some (.deferred (some [])):=by
  refine⟨?_,(Below.heap_alloc _ _ _ (by simp)).trans (World.alloc_heap_new w _)⟩;have:=World.alloc_heap_new (w.alloc (.deferred (some []))) (.loop (L .ready))
  rwa [World.size_alloc] at this
 have hI1:I' s0 ((w.alloc (.deferred (some []))).alloc (.loop (L .ready))):=hI'.alloc _ (hI'.alloc _ h0);refine⟨w.heap.size+1,[{ target:=.collected w.heap.size,args:=#[] }],(w.alloc (.deferred (some []))).alloc (.loop (L .ready)),{ target:=.fn (.func gf) lb,args:=#[.func (.yield (w.heap.size+1)) #[] #[]] },(w.alloc (.deferred (some []))).alloc (.loop (L .ready)),gf,
  #[.func (.yield (w.heap.size+1)) #[] #[]]++lb,(w.alloc (.deferred (some []))).alloc (.loop (L .ready)),?_,?_,fun _ _=>trivial,?_,fun h=>absurd h (by decide),?_⟩
 ·rw[hL];exact run_enterLoop_outer _ _ _ _ _
 ·simp only[resolve,hg];simp[go_sem]
 ·simp[invoke,go_sem,eg]
 ·refine(hiter (w.heap.size+1) _ _ hR ?_ hI1 hR1).mono ?_
  ·rintro s W hi ⟨hl,hk⟩;have hlt:w.heap.size+1<W.heap.size:=(Ai.1 hl).1;have hy:=run_yield (P:=P) (args:=encs s) hl (by rw[hL];exact hps s);rw[hL] at hy;refine⟨fn,_,assign,body,hy,roundIn_of_wpIn hfn (hassign _ s W _ hi fun a' W' hkw hi' has=>?_)⟩;have hl':=hkw.same _ _ hl rfl;have hk':=hkw.same _ _ hk rfl;have hlt':w.heap.size+1<W'.heap.size:=(Ai.1 hl').1;refine⟨_,run_beginRound hl' (by rw[hL]),?_⟩;have hl2:(W'.putObj (w.heap.size+1) (.loop { L .ready with state:=.busy })).heap[w.heap.size+1]?=some (.loop { L .ready with state:=.busy }):=World.putObj_heap_same hlt';have hk2:(W'.putObj (w.heap.size+1) (.loop { L .ready with state:=.busy })).heap[w.heap.size]?=some (.deferred (some [])):=(World.putObj_heap_other (by omega)).trans hk';refine wpIn_mono (hbody _ s _ _ (hI.putObj _ hi' (by omega) hl' rfl) ((hAsg s a').putObj (s:=()) _ has (by omega) hl' rfl)) ?_;rintro e a3 W3 ⟨rfl,hk3,hi3⟩;have hl3:=hk3.same _ _ hl2 rfl;have hr:=run_endRound (P:=P) none hl3;rw[hL] at hr;refine⟨_,_,hr,rfl,hI'.putObj _ hi3 (by omega) hl3 rfl,?_,(World.putObj_heap_other (by omega)).trans (hk3.same _ _ hk2 rfl)⟩;rw[World.putObj_heap_same (Ai.1 hl3).1,hL];rfl
  ·rintro e W2 ⟨⟨v,rfl⟩,s,hF,hi,hl,hk⟩;have he:=run_endLoop (P:=P) hl (by rw[hL];simp);rw[hL] at he;exact⟨none,_,he,hdone _ s _ (Nl _) hF (hI'.putObj _ hi (by omega) hl rfl) ((World.putObj_heap_other (by omega)).trans hk)⟩
end
section
open Go Go.RowKit Num
def dDw(id:Nat):Code->Option (Array Oper)
 | .region i ops _=>if i=id then some ops else none
 | .seq a b=>(dDw id a).or (dDw id b)
 | .cond _ a b=>(dDw id a).or (dDw id b)
 | .block _ b=>dDw id b
 | .loop b=>dDw id b
 | .rangeFunc _ _ a b=>(dDw id a).or (dDw id b)
 |_=>none
noncomputable def dKa:Array Oper:=(f26.body.bind (dDw 4)).getD #[]
def dKb:List (Nat×Nat):=[(0,13),(1,14),(2,15),(3,16),(4,17),(5,18),(6,19),(7,20)]
structure dC2 where
 W0:World
 B:Nat
 bq:Nat
 bc:Nat
 bx:Nat
 x:Bd
 q:List UInt8
 c:List UInt8
 qn:List UInt8
 cn:List UInt8
def dC2.val(C:dC2)(_:Unit):Nat->Value
 |0=>.string ⟨C.q.toArray⟩
 |1=>.pointer (some ⟨C.bx,4,none⟩)
 |2=>.string ⟨C.x.q.toArray⟩
 |3=>.string ⟨C.qn.toArray⟩
 |4=>.string ⟨C.c.toArray⟩
 |5=>.pointer (some ⟨C.bx,5,none⟩)
 |6=>.string ⟨C.x.c.toArray⟩
 |7=>.string ⟨C.cn.toArray⟩
 |8=>undef
 |_=>undef
def dC2.gg(C:dC2)(_:Unit)(l:Array Bool)(W:World):Prop:=Below C.B C.W0 W/\KeepsOthers C.W0 W/\(∀b cs T,b≠C.bq->b≠C.bc->aP C.W0 b cs T->aP W b cs T)/\aP W C.bq #[if bit l 8=true then .string ⟨C.qn.toArray⟩ else .string ⟨C.q.toArray⟩] 36/\aP W C.bc #[if bit l 9=true then .string ⟨C.cn.toArray⟩ else .string ⟨C.c.toArray⟩] 36
structure dKl(C:dC2)(t0:Array Value):Prop where
 sz:t0.size=23
 lo6:t0[6]?=some (.pointer (some ⟨C.bq,0,none⟩))
 lo7:t0[7]?=some (.pointer (some ⟨C.bc,0,none⟩))
 lo8:t0[8]?=some (.pointer (some ⟨C.bx,0,none⟩))
 kqm:aP C.W0 C.bq #[.string ⟨C.q.toArray⟩] 36
 kc:aP C.W0 C.bc #[.string ⟨C.c.toArray⟩] 36
 kx:aP C.W0 C.bx #[.string ⟨C.x.id.toArray⟩,.string ⟨C.x.ins.toArray⟩,.int .i64 C.x.acq,.int .i64 C.x.opn,.string ⟨C.x.q.toArray⟩,.string ⟨C.x.c.toArray⟩,.string ⟨C.x.u.toArray⟩] 49
 hxq:C.bx≠C.bq
 hxc:C.bx≠C.bc
 hne:C.bq≠C.bc
 bB:C.B<=C.W0.heap.size
 bq:C.B<=C.bq
 bc:C.B<=C.bc
 ha:∀W,Below C.B C.W0 W->Calls prog 18 #[.string ⟨C.q.toArray⟩,.string ⟨C.x.q.toArray⟩] W fun e w'=>e=.returned (.string ⟨C.qn.toArray⟩)/\Below W.heap.size W w'
 hs:∀W,Below C.B C.W0 W->Calls prog 18 #[.string ⟨C.c.toArray⟩,.string ⟨C.x.c.toArray⟩] W fun e w'=>e=.returned (.string ⟨C.cn.toArray⟩)/\Below W.heap.size W w'
theorem dC2.keep{C:dC2}{l:Array Bool}{w:World}{i:Nat}(h:C.gg () l w)(h1:i≠8)(h2:i≠9):C.gg () (l.setIfInBounds i true) w:=by
 unfold dC2.gg;rw[dCr h1,dCr h2];exact h
theorem dC2.call{C:dC2}{l:Array Bool}{w w':World}{i:Nat}(h:C.gg () l w)(hb:Below w.heap.size w w')(hB:C.B<=C.W0.heap.size)(h1:i≠8)(h2:i≠9):C.gg () (l.setIfInBounds i true) w':=by
 unfold dC2.gg;rw[dCr h1,dCr h2];exact⟨h.1.trans (hb.mono (Nat.le_trans hB h.1.size)),h.2.1.trans (KeepsOthers.of_below hb),fun b cs T n1 n2 k=>(h.2.2.1 b cs T n1 n2 k).below hb,h.2.2.2.1.below hb,h.2.2.2.2.below hb⟩
section
variable {C:dC2}{t0:Array Value}{Q:Exit->Act->World->Prop}
theorem dJy(M:dKl C t0){a:Act}{w:World}{n:Nat}{ro:Option Nat}{d0:List Deferred}(hdf:a.defers=d0)(ht:a.tmps=t0)(hw:w.drewN 1=C.W0)
  (hQ:∀W,Below C.B C.W0 W->KeepsOthers C.W0 W->(∀b cs T,b≠C.bq->b≠C.bc->aP C.W0 b cs T->aP W b cs T)->aP W C.bq #[.string ⟨C.qn.toArray⟩] 36->aP W C.bc #[.string ⟨C.cn.toArray⟩] 36->Q .normal { tmps:=iZ (C.val ()) dKb t0,defers:=d0 } W):(Code.region 4 dKa true).wpIn (bEe ro) n prog Q a w:=by
 have hsz:dKa.size=10:=by kernel_rfl
 refine bD9 (ds:=dKb) (val:=C.val) (G:=C.gg) (by kernel_rfl) (by kernel_rfl) (by decide) (fun p hp=>?_) (by kernel_rfl) ?_ (γ:=()) hdf ht (by rw[hw];exact⟨Br _ _,KeepsOthers.refl _,fun _ _ _ _ _ h=>h,by rw[dC0];exact M.kqm,by rw[dC0];exact M.kc⟩) (fun γ l W hall hg=>hQ W hg.1 hg.2.1 hg.2.2.1 (by have h:=hg.2.2.2.1;rw[show bit l 8=true from hall 8 (by rw[hsz];decide),if_pos rfl] at h;exact h) (by have h:=hg.2.2.2.2;rw[show bit l 9=true from hall 9 (by rw[hsz];decide),if_pos rfl] at h;exact h))
 ·rw[M.sz];have:∀p,p∈dKb->p.2<23:=by decide
  exact this p hp
 ·intro γ l a w i H hr;cases γ;have hi:i<10:=by
   obtain⟨_,o,ho,_⟩:=mem_ready.1 hr;have:=(Ai.1 ho).1;rw[hsz] at this;exact this
  have lo6:=H.low (s:=6) (by decide) M.lo6;have lo7:=H.low (s:=7) (by decide) M.lo7;have lo8:=H.low (s:=8) (by decide) M.lo8;have hb:=H.g
  match i,hi,hr with
  |0,_,hr =>
   have f0:=dCq hr;have f3:=H.off 0 3 f0;have f8:=H.off 3 8 f3;have hz:=hb.2.2.2.1;rw[f8,if_neg (by decide)] at hz;have c0:w.cell? ⟨C.bq,0,none⟩=some (.string ⟨C.q.toArray⟩):=(hz.cell 0).trans rfl;exact bCb () (fun _ _=>rfl) (X:=.load 36 (.tmp 6)) (v:=.string ⟨C.q.toArray⟩) (by kernel_rfl) (fun o h=>by simp[execOp,h,lo6,c0,go_sem]) rfl (dC2.keep H.g (by decide) (by decide))
  |1,_,hr =>
   exact bCb () (fun _ _=>rfl) (X:=.fieldAddr 49 (.tmp 8) 4) (v:=.pointer (some ⟨C.bx,4,none⟩)) (by kernel_rfl) (fun o h=>by simp[execOp,h,lo8,go_sem]) rfl (dC2.keep H.g (by decide) (by decide))
  |2,_,hr =>
   have v1:a.tmps[14]?=some (.pointer (some ⟨C.bx,4,none⟩)):=H.dep hr 1 14;have c4:w.cell? ⟨C.bx,4,none⟩=some (.string ⟨C.x.q.toArray⟩):=((hb.2.2.1 _ _ _ M.hxq M.hxc M.kx).cell 4).trans rfl;exact bCb () (fun _ _=>rfl) (X:=.load 36 (.tmp 14)) (v:=.string ⟨C.x.q.toArray⟩) (by kernel_rfl) (fun o h=>by simp[execOp,h,v1,c4,go_sem]) rfl (dC2.keep H.g (by decide) (by decide))
  |3,_,hr =>
   have v0:a.tmps[13]?=some (.string ⟨C.q.toArray⟩):=H.dep hr 0 13;have v2:a.tmps[15]?=some (.string ⟨C.x.q.toArray⟩):=H.dep hr 2 15;refine bFr (f:=18) (lb:=#[]) (c:=.func 18) (args:=#[(.tmp 13),(.tmp 15)]) (ts:=#[36,36]) (vs:=#[.string ⟨C.q.toArray⟩,.string ⟨C.x.q.toArray⟩]) (by kernel_rfl) rfl (aXb func18) (by simp[Act.eval,v0,v2]) ((M.ha _ hb.1).mono ?_);rintro e w' ⟨rfl,hb'⟩;exact⟨_,(),rfl,rfl,fun _ _=>rfl,dC2.call H.g hb' M.bB (by decide) (by decide)⟩
  |4,_,hr =>
   have f4:=dCq hr;have f7:=H.off 4 7 f4;have f9:=H.off 7 9 f7;have hz:=hb.2.2.2.2;rw[f9,if_neg (by decide)] at hz;have c0:w.cell? ⟨C.bc,0,none⟩=some (.string ⟨C.c.toArray⟩):=(hz.cell 0).trans rfl;exact bCb () (fun _ _=>rfl) (X:=.load 36 (.tmp 7)) (v:=.string ⟨C.c.toArray⟩) (by kernel_rfl) (fun o h=>by simp[execOp,h,lo7,c0,go_sem]) rfl (dC2.keep H.g (by decide) (by decide))
  |5,_,hr =>
   exact bCb () (fun _ _=>rfl) (X:=.fieldAddr 49 (.tmp 8) 5) (v:=.pointer (some ⟨C.bx,5,none⟩)) (by kernel_rfl) (fun o h=>by simp[execOp,h,lo8,go_sem]) rfl (dC2.keep H.g (by decide) (by decide))
  |6,_,hr =>
   have v5:a.tmps[18]?=some (.pointer (some ⟨C.bx,5,none⟩)):=H.dep hr 5 18;have c5:w.cell? ⟨C.bx,5,none⟩=some (.string ⟨C.x.c.toArray⟩):=((hb.2.2.1 _ _ _ M.hxq M.hxc M.kx).cell 5).trans rfl;exact bCb () (fun _ _=>rfl) (X:=.load 36 (.tmp 18)) (v:=.string ⟨C.x.c.toArray⟩) (by kernel_rfl) (fun o h=>by simp[execOp,h,v5,c5,go_sem]) rfl (dC2.keep H.g (by decide) (by decide))
  |7,_,hr =>
   have v4:a.tmps[17]?=some (.string ⟨C.c.toArray⟩):=H.dep hr 4 17;have v6:a.tmps[19]?=some (.string ⟨C.x.c.toArray⟩):=H.dep hr 6 19;refine bFr (f:=18) (lb:=#[]) (c:=.func 18) (args:=#[(.tmp 17),(.tmp 19)]) (ts:=#[36,36]) (vs:=#[.string ⟨C.c.toArray⟩,.string ⟨C.x.c.toArray⟩]) (by kernel_rfl) rfl (aXb func18) (by simp[Act.eval,v4,v6]) ((M.hs _ hb.1).mono ?_);rintro e w' ⟨rfl,hb'⟩;exact⟨_,(),rfl,rfl,fun _ _=>rfl,dC2.call H.g hb' M.bB (by decide) (by decide)⟩
  |8,_,hr =>
   have v3:a.tmps[16]?=some (.string ⟨C.qn.toArray⟩):=H.dep hr 3 16;have hz:=hb.2.2.2.1;have hc:∃u,w.cell? ⟨C.bq,0,none⟩=some u:=⟨_,(hz.cell 0).trans rfl⟩
   obtain⟨u,hc⟩:=hc;have hf:=aR hz.2 0;refine bE9 (X:=.store 36 (.tmp 6) (.tmp 16)) (w':=w.setCell ⟨C.bq,0,none⟩ (.string ⟨C.qn.toArray⟩)) (by kernel_rfl) (fun o h=>by simp[execOp,h,lo6,v3,hc,hf,go_sem]) ?_;have hq:=hz.setC (i:=0) (v:=.string ⟨C.qn.toArray⟩);simp only[List.setIfInBounds_toArray,List.set_cons_zero] at hq;unfold dC2.gg;rw[dCv (by rw[H.sz,hsz];decide),dCr (show (8:Nat)≠9 by decide),if_pos rfl];refine⟨hb.1.setCell (p:=⟨C.bq,0,none⟩) M.bq _,hb.2.1.trans (KeepsOthers.setCell _ _ _),fun b cs T n1 n2 h=>(hb.2.2.1 b cs T n1 n2 h).setO (p:=⟨C.bq,0,none⟩) n1,hq,hb.2.2.2.2.setO (p:=⟨C.bq,0,none⟩) (Ne.symm M.hne)⟩
  |9,_,hr =>
   have v7:a.tmps[20]?=some (.string ⟨C.cn.toArray⟩):=H.dep hr 7 20;have hz:=hb.2.2.2.2;have hc:∃u,w.cell? ⟨C.bc,0,none⟩=some u:=⟨_,(hz.cell 0).trans rfl⟩
   obtain⟨u,hc⟩:=hc;have hf:=aR hz.2 0;refine bE9 (X:=.store 36 (.tmp 7) (.tmp 20)) (w':=w.setCell ⟨C.bc,0,none⟩ (.string ⟨C.cn.toArray⟩)) (by kernel_rfl) (fun o h=>by simp[execOp,h,lo7,v7,hc,hf,go_sem]) ?_;have hq:=hz.setC (i:=0) (v:=.string ⟨C.cn.toArray⟩);simp only[List.setIfInBounds_toArray,List.set_cons_zero] at hq;unfold dC2.gg;rw[dCv (by rw[H.sz,hsz];decide),dCr (show (9:Nat)≠8 by decide),if_pos rfl];refine⟨hb.1.setCell (p:=⟨C.bc,0,none⟩) M.bc _,hb.2.1.trans (KeepsOthers.setCell _ _ _),fun b cs T n1 n2 h=>(hb.2.2.1 b cs T n1 n2 h).setO (p:=⟨C.bc,0,none⟩) n2,hb.2.2.2.1.setO (p:=⟨C.bc,0,none⟩) M.hne,hq⟩
  |n+10,h,_=>exact absurd h (by omega)
end
noncomputable def dJ9:Array Oper:=(f26.body.bind (dDa 5)).getD #[]
def dJ1:List (Nat×Nat):=[(0,21),(1,22),(2,4),(3,5)]
structure dJ0 where
 W0:World
 bq:Nat
 bc:Nat
 q:List UInt8
 c:List UInt8
def dJ0.val(C:dJ0)(_:Unit):Nat->Value
 |0=>.string ⟨C.q.toArray⟩
 |1=>.string ⟨C.c.toArray⟩
 |2=>.string ⟨C.q.toArray⟩
 |_=>.string ⟨C.c.toArray⟩
def dJ0.gg(C:dJ0)(_:Unit)(_:Array Bool)(W:World):Prop:=W=C.W0
structure dKk(C:dJ0)(t0:Array Value):Prop where
 sz:t0.size=23
 lo6:t0[6]?=some (.pointer (some ⟨C.bq,0,none⟩))
 lo7:t0[7]?=some (.pointer (some ⟨C.bc,0,none⟩))
 kqm:aP C.W0 C.bq #[.string ⟨C.q.toArray⟩] 36
 kc:aP C.W0 C.bc #[.string ⟨C.c.toArray⟩] 36
section
variable {C:dJ0}{t0:Array Value}{Q:Exit->Act->World->Prop}
theorem dJx(M:dKk C t0){a:Act}{w:World}{n:Nat}{ro:Option Nat}{d0:List Deferred}(hdf:a.defers=d0)(ht:a.tmps=t0)(hw:w.drewN 1=C.W0)
  (hQ:Q .normal { tmps:=iZ (C.val ()) dJ1 t0,defers:=d0 } C.W0):(Code.region 5 dJ9 true).wpIn (bEe ro) n prog Q a w:=by
 have hsz:dJ9.size=4:=by kernel_rfl
 refine bD9 (ds:=dJ1) (val:=C.val) (G:=C.gg) (by kernel_rfl) (by kernel_rfl) (by decide) (fun p hp=>?_) (by kernel_rfl) ?_ (γ:=()) hdf ht (by rw[hw];exact rfl) (fun γ l W _ hg=>by rw[show W=C.W0 from hg];exact hQ)
 ·rw[M.sz];have:∀p,p∈dJ1->p.2<23:=by decide
  exact this p hp
 ·intro γ l a w i H hr;cases γ;have hi:i<4:=by
   obtain⟨_,o,ho,_⟩:=mem_ready.1 hr;have:=(Ai.1 ho).1;rw[hsz] at this;exact this
  have lo6:=H.low (s:=6) (by decide) M.lo6;have lo7:=H.low (s:=7) (by decide) M.lo7;have hb:=H.g
  match i,hi,hr with
  |0,_,hr =>
   have c0:w.cell? ⟨C.bq,0,none⟩=some (.string ⟨C.q.toArray⟩):=by rw[show w=C.W0 from hb];exact(M.kqm.cell 0).trans rfl
   exact bCb () (fun _ _=>rfl) (X:=.load 36 (.tmp 6)) (v:=.string ⟨C.q.toArray⟩) (by kernel_rfl) (fun o h=>by simp[execOp,h,lo6,c0,go_sem]) rfl hb
  |1,_,hr =>
   have c0:w.cell? ⟨C.bc,0,none⟩=some (.string ⟨C.c.toArray⟩):=by rw[show w=C.W0 from hb];exact(M.kc.cell 0).trans rfl
   exact bCb () (fun _ _=>rfl) (X:=.load 36 (.tmp 7)) (v:=.string ⟨C.c.toArray⟩) (by kernel_rfl) (fun o h=>by simp[execOp,h,lo7,c0,go_sem]) rfl hb
  |2,_,hr =>
   have v0:a.tmps[21]?=some (.string ⟨C.q.toArray⟩):=H.dep hr 0 21;exact bCb () (fun _ _=>rfl) (X:=.assign (.tmp 21)) (v:=.string ⟨C.q.toArray⟩) (by kernel_rfl) (fun o h=>by simp[execOp,h,v0,go_sem]) rfl hb
  |3,_,hr =>
   have v1:a.tmps[22]?=some (.string ⟨C.c.toArray⟩):=H.dep hr 1 22;exact bCb () (fun _ _=>rfl) (X:=.assign (.tmp 22)) (v:=.string ⟨C.c.toArray⟩) (by kernel_rfl) (fun o h=>by simp[execOp,h,v1,go_sem]) rfl hb
  |n+4,h,_=>exact absurd h (by omega)
end
end
section
open Go Go.RowKit Go.Shelf Num
attribute [local go_sem] eW eN aV
theorem dJ7(ls:List Bd)(ins:List UInt8)(a:Option Addr)(c:Nat)(w:World):
  Calls prog 70 #[.slice a ls.length c,.string ⟨ins.toArray⟩] w fun e w'=>e=.returned (.func (.func 125) #[] #[.pointer (some ⟨w.heap.size,0,none⟩),.pointer (some ⟨w.heap.size+1,0,none⟩)]) /\
   aP w' w.heap.size #[.slice a ls.length c] 22/\aP w' (w.heap.size+1) #[.string ⟨ins.toArray⟩] 9/\Below w.heap.size w w':=by
 obtain⟨w1,h1⟩:∃w1,w1=w.alloc (.cells #[.slice a ls.length c] 22):=⟨_,rfl⟩
 obtain⟨w2,h2⟩:∃w2,w2=w1.alloc (.cells #[.string ⟨ins.toArray⟩] 9):=⟨_,rfl⟩
 have e1:w1.heap.size=w.heap.size+1:=by rw[h1,World.size_alloc]
 have b2:Below w1.heap.size w1 w2:=by rw[h2];exact aB _ _
 have k1:aP w2 w.heap.size #[.slice a ls.length c] 22:=(h1 ▸ aP.new0 w _ _:aP w1 w.heap.size _ _).below b2;have k2:aP w2 (w.heap.size+1) #[.string ⟨ins.toArray⟩] 9:=by rw[<-e1];exact h2 ▸ aP.new0 w1 _ _
 have hb:Below w.heap.size w w2:=aA (h1 ▸ aB _ _) b2;have HK:=Hd (And.intro k1 (And.intro k2 hb));have HW:Hid (w2=(w.alloc (.cells #[.slice a ls.length c] 22)).alloc (.cells #[.string ⟨ins.toArray⟩] 9)):=by show _=_;rw[h2,h1]
 clear k1 k2 hb b2 e1 h1 h2;go_enter func70,ntmps70;go_wp2;go_ret;rw[<-HW.out];exact⟨rfl,HK.out⟩
attribute [local go_sem] Oper.semAt_some
theorem dJ8(n l:Nat){bl bi:Nat}{ls:List Bd}{ins:List UInt8}{a:Option Addr}{c:Nat}(hn:ls.length<=1000000)(J:Nat->World->Prop)
  (hJ:∀k W,J k W->aP W bl #[.slice a ls.length c] 22/\aP W bi #[.string ⟨ins.toArray⟩] 9/\Jj W a ls) (hJB:∀k A B,J k A->Below A.heap.size A B->J k B)
  (hskip:∀k x W,J k W->ls[k]?=some x->x.ins≠ins->J (k+1) W)
  (hY:∀k x W,J k W->ls[k]?=some x->x.ins=ins->YieldAt Fence.wide (n-1) prog l #[x.v] W fun e W'=>e=.returned (.bool true)/\J (k+1) W') (W:World) (h0:J 0 W) :
  CallsIn Fence.wide n prog 125 #[.func (.yield l) #[] #[],.pointer (some ⟨bl,0,none⟩),.pointer (some ⟨bi,0,none⟩)] W fun e W'=>(∃v,e=.returned v)/\J ls.length W':=by
 have HJ:=Hd hJ;have HJB:=Hd hJB;have HSK:=Hd hskip;have HY:=Hd hY;have H0:=Hd h0;have k1:=(hJ _ _ h0).1.cell 0;clear hJ hJB hskip hY h0;refine callsIn_of_wp func125 rfl trivial ?_ rfl;simp only[ntmps125,List.size_toArray,List.length_cons,List.length_nil,Nat.reduceAdd,Nat.reduceSub,Array.replicate_succ,Array.replicate_zero,List.push_toArray,List.append_toArray,List.nil_append,List.cons_append];gi_wp2;gi_loopw [8] (fun iv wr=>∃k:Nat,k<=ls.length/\iv=.int .i64 (k:Int)/\Hid (J k wr)) (fun iv _=>ls.length-(intOf iv).toNat)
 case atStart=>exact⟨0,Nat.zero_le _,rfl,H0⟩
 case round =>
  obtain⟨k,hk,rfl,HJK⟩:=hrel;clear k1 H0
  by_cases hlt:k<ls.length
  ·obtain⟨x,hx⟩:∃x,ls[k]?=some x:=⟨ls[k],Lg hlt⟩
   obtain⟨hbl,hbi,hls⟩:=HJ.out _ _ HJK.out;obtain⟨b,off,ha,q0,q1,q2,q3,q4,q5,q6⟩:=hls.addr hx;have HBA:=Hd (aB wr (.cells #[.string ⟨x.id.toArray⟩,.string ⟨x.ins.toArray⟩,.int .i64 x.acq,.int .i64 x.opn,.string ⟨x.q.toArray⟩,.string ⟨x.c.toArray⟩,.string ⟨x.u.toArray⟩] 49));have HJA:=Hd (HJB.out _ _ _ HJK.out HBA.out);have i0:=hbi.cell 0;have hil:bi<wr.heap.size:=hbi.1;have HX:=Hd hx;clear hbl hbi hls hx;subst ha
   by_cases hq:x.ins=ins
   ·have HQ:=Hd hq;have hq':(x.ins==ins)=true:=by simpa using hq
    clear hq;obtain⟨fn,tmps,assign,body,hy,hRd⟩:=HY.out k x _ HJA.out HX.out HQ.out;simp only[Bd.v] at hy;gi_wp2_with fail;refine⟨fun h=>absurd h (by decide),hRd.mono ?_⟩;rintro e W4 ⟨rfl,hj4⟩;have HJ4:=Hd hj4;clear hj4 hy hRd HJA q0 q1 q2 q3 q4 q5 q6 i0 hil HJK HBA;gi_wp2;go_roundw
    case rel=>exact⟨k+1,by omega,by go_num,HJ4⟩
    case measure=>simp[intOf];omega
   ·have HJN:=Hd (HSK.out _ _ _ HJA.out HX.out hq);have hq':(x.ins==ins)=false:=by simpa using hq
    clear hq;gi_wp2;refine⟨fun f h=>(by cases h),?_⟩;gi_wp2;go_roundw
    case rel=>exact⟨k+1,by omega,by go_num,HJN⟩
    case measure=>simp[intOf];omega
  ·obtain rfl:k=ls.length:=by omega
   gi_wp2;go_end0;exact⟨⟨_,rfl⟩,HJK.out⟩
structure dJf(w0:World)(bq bc bl bi:Nat)(ls:List Bd)(ins:List UInt8)(a:Option Addr)(c:Nat)(k:Nat)(W:World):Prop where
 below:Below w0.heap.size w0 W
 kqm:aP W bq #[.string ⟨(aJ (bXk (dA6 ins) (ls.take k))).toArray⟩] 36
 kc:aP W bc #[.string ⟨(aJ (bXk (dBc ins) (ls.take k))).toArray⟩] 36
 kl:aP W bl #[.slice a ls.length c] 22
 ki:aP W bi #[.string ⟨ins.toArray⟩] 9
 lq:(aJ (bXk (dA6 ins) (ls.take k))).length<=1000+2*k
 lc:(aJ (bXk (dBc ins) (ls.take k))).length<=1000+2*k
section
variable {w0:World}{bq bc bl bi:Nat}{ls:List Bd}{ins:List UInt8}{a:Option Addr}{c k:Nat}{W W':World}
theorem dJf.step(h:dJf w0 bq bc bl bi ls ins a c k W)(hb:Below W.heap.size W W'):dJf w0 bq bc bl bi ls ins a c k W' :=
 ⟨h.below.trans (hb.mono h.below.size),h.kqm.below hb,h.kc.below hb,h.kl.below hb,h.ki.below hb,h.lq,h.lc⟩
theorem dJf.own{B:Nat}{row:Option Nat}(hB:w0.heap.size<=B)(h:dJf w0 bq bc bl bi ls ins a c k W)(hg:W.grownBy W' row)(hr:∀r,row=some r->B<=r/\∃o:Obj,W.heap[r]?=some o/\o.isCells=false):dJf w0 bq bc bl bi ls ins a c k W' :=
 ⟨ownFrom_below (β:=Unit) (Nl _) hB () W W' row h.below hg hr,(dDp hg (fun r e=>(hr r e).2) _).box h.kqm,(dDp hg (fun r e=>(hr r e).2) _).box h.kc,(dDp hg (fun r e=>(hr r e).2) _).box h.kl,(dDp hg (fun r e=>(hr r e).2) _).box h.ki,h.lq,h.lc⟩
theorem dJf.skip{x:Bd}(h:dJf w0 bq bc bl bi ls ins a c k W)(hx:ls[k]?=some x)(hi:x.ins≠ins):dJf w0 bq bc bl bi ls ins a c (k+1) W:=by
 have e1:bXk (dA6 ins) (ls.take (k+1))=bXk (dA6 ins) (ls.take k):=by rw[dIj _ hx];unfold dA6;rw[if_neg hi,Int.add_zero]
 have e2:bXk (dBc ins) (ls.take (k+1))=bXk (dBc ins) (ls.take k):=by rw[dIj _ hx];unfold dBc;rw[if_neg hi,Int.add_zero]
 exact⟨h.below,by rw[e1];exact h.kqm,by rw[e2];exact h.kc,h.kl,h.ki,by rw[e1];have:=h.lq;omega,by rw[e2];have:=h.lc;omega⟩
end
structure dKm where
 k:Nat
 k2:Nat
 x:Bd
theorem dIr(ls:List Bd)(ins:List UInt8)(a:Option Addr)(c:Nat)(w:World)(hE:iE w)(hn:ls.length<=1000000)(hw:Jj w a ls)(hs:∀y,y∈ls->y.q.length<=1000/\y.c.length<=1000):
  Calls prog 26 #[.slice a ls.length c,.string ⟨ins.toArray⟩] w fun e w'=>e=.returned (.tuple #[.string ⟨(aJ (bXk (dA6 ins) ls)).toArray⟩,.string ⟨(aJ (bXk (dBc ins) ls)).toArray⟩])/\Below w.heap.size w w':=by
 have HE:=Hd hE;have HW:=Hd hw;have HS:=Hd hs;have HN:=Hd hn;clear hE hw hs hn;obtain⟨w1,h1⟩:∃w1,w1=w.alloc (.cells #[.string ⟨#[]⟩] 36):=⟨_,rfl⟩
 obtain⟨w2,h2⟩:∃w2,w2=w1.alloc (.cells #[.string ⟨#[]⟩] 36):=⟨_,rfl⟩
 have e1:w1.heap.size=w.heap.size+1:=by rw[h1,World.size_alloc]
 have e2:w2.heap.size=w.heap.size+1+1:=by rw[h2,World.size_alloc,e1]
 have b2:Below w1.heap.size w1 w2:=by rw[h2];exact aB _ _
 have k1:aP w2 w.heap.size #[.string ⟨#[]⟩] 36:=(h1 ▸ aP.new0 w _ _:aP w1 w.heap.size _ _).below b2;have k2:aP w2 (w.heap.size+1) #[.string ⟨#[]⟩] 36:=by rw[<-e1];exact h2 ▸ aP.new0 w1 _ _
 have hb:Below w.heap.size w w2:=aA (h1 ▸ aB _ _) b2;have HOF:=Hd (dJ7 ls ins a c w2);have KQ:=Hd k1;have KC:=Hd k2;have HB:=Hd hb;have HW2:Hid (w2=(w.alloc (.cells #[.string ⟨#[]⟩] 36)).alloc (.cells #[.string ⟨#[]⟩] 36)):=by show _=_;rw[h2,h1]
 have HE2:=Hd e2;clear h1 h2 e1 e2 b2 k1 k2 hb;refine(callsIn_wide (n:=3)).1 ?_;refine callsIn_of_wp_marks func26 rfl trivial ?_ rfl;simp only[ntmps26,List.size_toArray,List.length_cons,List.length_nil,Nat.reduceAdd,Nat.reduceSub,Array.replicate_succ,Array.replicate_zero,List.push_toArray,List.append_toArray,List.nil_append,List.cons_append];gi_wp2;rw[<-HW2.out];refine⟨trivial,(callsIn_wide.2 HOF.out).mono ?_⟩;rintro e w3 ⟨rfl,kl,ki,hb⟩;have hs2:=hb.size;have he2:=HE2.out;have HT0:Hid (dJf w w.heap.size (w.heap.size+1) w2.heap.size (w2.heap.size+1) ls ins a c 0 w3) :=
  ⟨aA HB.out hb,by have h:=KQ.out.below hb;rw[List.take_zero];exact(show aJ (bXk (dA6 ins) [])=[] from nA) ▸ h,by have h:=KC.out.below hb;rw[List.take_zero];exact(show aJ (bXk (dBc ins) [])=[] from nA) ▸ h,kl,ki,
   by rw[List.take_zero,show aJ (bXk (dA6 ins) [])=[] from nA];simp,by rw[List.take_zero,show aJ (bXk (dBc ins) [])=[] from nA];simp⟩
 have HSZ:Hid (w.heap.size+1+1<=w3.heap.size):=by show _<=_;omega
 obtain⟨bl,hbl⟩:∃bl,bl=w2.heap.size:=⟨_,rfl⟩
 rw[<-hbl] at HT0;have HBL:Hid (bl=w.heap.size+1+1):=by show _=_;rw[hbl];exact he2
 clear hs2 he2 kl ki hb HOF KQ KC HW2 HE2;gi_wp2;rw[<-hbl];clear hbl HB w1 w2;refine dJ6 (P:=prog) (n:=3) (gf:=125) (lb:=#[.pointer (some ⟨bl,0,none⟩),.pointer (some ⟨bl+1,0,none⟩)]) rfl (aXb func125)
  (fun s:dKm=>#[s.x.v]) (fun _=>rfl) (fun s W=>dJf w w.heap.size (w.heap.size+1) bl (bl+1) ls ins a c s.k W/\ls[s.k]?=some s.x/\s.x.ins=ins/\s.k2=s.k+1) (fun s W=>dJf w w.heap.size (w.heap.size+1) bl (bl+1) ls ins a c s.k2 W)
  (fun s A B row h hg hr=>⟨h.1.own (by have:=HSZ.out;omega) hg hr,h.2⟩) (fun s A B row h hg hr=>h.own (by have:=HSZ.out;omega) hg hr) ⟨0,0,⟨[],[],0,0,[],[],[]⟩⟩ HT0.out (fun s=>s.k2=ls.length)
  (fun s a' W=>∃bx,bx≠w.heap.size/\bx≠w.heap.size+1/\aP W bx s.x.cs 49/\a' = { tmps:=#[.slice a ls.length c,.string ⟨ins.toArray⟩,undef,undef,.string ⟨#[]⟩,.string ⟨#[]⟩,.pointer (some ⟨w.heap.size,0,none⟩),.pointer (some ⟨w.heap.size+1,0,none⟩),.pointer (some ⟨bx,0,none⟩),.slice a ls.length c,.string ⟨ins.toArray⟩,.func (.func 125) #[] #[.pointer (some ⟨bl,0,none⟩),.pointer (some ⟨bl+1,0,none⟩)],s.x.v,undef,undef,undef,undef,undef,undef,undef,undef,undef,undef],defers:=[] })
  (fun s a' _ A B row h hg hr=>by obtain⟨bx,n1,n2,k,e⟩:=h;exact⟨bx,n1,n2,(dDp hg (fun r e=>(hr r e).2) _).box k,e⟩) ?assign ?body ?iter ?done
 case assign =>
  rintro l s W K ⟨hT,hx,hi,hk2⟩ hK;have l1:=hT.kqm.1;have l2:=hT.kc.1;have hK2:=hK _ (W.alloc (.cells s.x.cs 49)) (KeepsOthers.alloc W _) ⟨hT.step (aB _ _),hx,hi,hk2⟩ ⟨W.heap.size,by omega,by omega,aP.new0 _ _ _,rfl⟩;have HKK:=Hd hK2;clear hT hx hi hk2 hK l1 l2 hK2;simp only[Bd.v,Bd.cs] at HKK;simp only[Bd.v];gi_wp2;exact HKK.out
 case body =>
  rintro l s a' W ⟨hT,hx,hi,hk2⟩ ⟨bx,n1,n2,kx,rfl⟩;have hfx:=HS.out s.x (List.mem_of_getElem? hx);have hkl:=(Li.1 hx).1;have hn:=HN.out;have lq:=hT.lq;have lc:=hT.lc;have eq:aJ (val (aJ (bXk (dA6 ins) (ls.take s.k)))+val s.x.q)=aJ (bXk (dA6 ins) (ls.take (s.k+1))):=by
   rw[bE,dIj _ hx];congr 2;unfold dA6;rw[if_pos hi]
  have ec:aJ (val (aJ (bXk (dBc ins) (ls.take s.k)))+val s.x.c)=aJ (bXk (dBc ins) (ls.take (s.k+1))):=by
   rw[bE,dIj _ hx];congr 2;unfold dBc;rw[if_pos hi]
  have aq:=aPa (l:=aJ (bXk (dA6 ins) (ls.take s.k))) (m:=s.x.q) (K:=1000+2*s.k) lq (by omega);have ac:=aPa (l:=aJ (bXk (dBc ins) (ls.take s.k))) (m:=s.x.c) (K:=1000+2*s.k) lc (by omega);have HA1:=Hd (fun W1 hW1=>aAg (aJ (bXk (dA6 ins) (ls.take s.k))) s.x.q W1 hW1 (by omega) (by omega));have HA2:=Hd (fun W1 hW1=>aAg (aJ (bXk (dBc ins) (ls.take s.k))) s.x.c W1 hW1 (by omega) (by omega));rw[eq] at HA1 aq;rw[ec] at HA2 ac;have HT:=Hd hT;have HX:=Hd (And.intro kx (And.intro n1 n2));have HAQ:Hid ((aJ (bXk (dA6 ins) (ls.take (s.k+1)))).length<=1000+2*(s.k+1)/\(aJ (bXk (dBc ins) (ls.take (s.k+1)))).length<=1000+2*(s.k+1)):=by show _/\_;omega
  have HK2:=Hd hk2;clear hT hx hi hk2 kx n1 n2 hfx hkl hn lq lc eq ec aq ac;simp only[Bd.v];gi_wp2_with fail;refine dJy (ro:=some l) (C:=⟨W.drewN 1,w.heap.size,w.heap.size,w.heap.size+1,bx,s.x,aJ (bXk (dA6 ins) (ls.take s.k)),aJ (bXk (dBc ins) (ls.take s.k)),aJ (bXk (dA6 ins) (ls.take (s.k+1))),aJ (bXk (dBc ins) (ls.take (s.k+1)))⟩) ?M rfl rfl rfl ?_
  case M =>
   have hd:=aD (Br W.heap.size W) 1;exact⟨rfl,rfl,rfl,rfl,HT.out.kqm.below hd,HT.out.kc.below hd,HX.out.1.below hd,HX.out.2.1,HX.out.2.2,by show w.heap.size≠w.heap.size+1;omega,HT.out.below.size,Nl _,Nat.le_succ _,
    fun W1 hW1=>HA1.out W1 (HE.out.below (HT.out.below.trans ((hd.mono HT.out.below.size).trans hW1))),fun W1 hW1=>HA2.out W1 (HE.out.below (HT.out.below.trans ((hd.mono HT.out.below.size).trans hW1)))⟩
  intro V hbv hko hbx kqm kc;have hd:=aD (Br W.heap.size W) 1;have hbl:=HBL.out;refine⟨rfl,⟨hko.size,hko.same⟩,?_⟩;rw[HK2.out];exact⟨HT.out.below.trans ((hd.mono HT.out.below.size).trans hbv),kqm,kc,hbx _ _ _ (by show bl≠w.heap.size;omega) (by show bl≠w.heap.size+1;omega) (HT.out.kl.below hd),hbx _ _ _ (by show bl+1≠w.heap.size;omega) (by show bl+1≠w.heap.size+1;omega) (HT.out.ki.below hd),HAQ.out.1,HAQ.out.2⟩
 case iter =>
  intro l R W1 hR hY h0 hR0;refine(dJ8 2 l HN.out (fun k W=>dJf w w.heap.size (w.heap.size+1) bl (bl+1) ls ins a c k W/\R W) (fun k W h=>⟨h.1.kl,h.1.ki,HW.out.below h.1.below⟩) (fun k A B h hb=>⟨h.1.step hb,hR _ _ h.2 (KeepsOthers.of_below hb)⟩) (fun k x W h hx hi=>⟨h.1.skip hx hi,h.2⟩)
   (fun k x W h hx hi=>?_) W1 ⟨h0,hR0⟩).mono ?_
  ·obtain⟨fn,tmps,assign,body,hy,hRd⟩:=hY ⟨k,k+1,x⟩ W ⟨h.1,hx,hi,rfl⟩ h.2;exact⟨fn,tmps,assign,body,hy,hRd⟩
  ·rintro e W' ⟨h1,h2,h3⟩;exact⟨h1,⟨0,ls.length,⟨[],[],0,0,[],[],[]⟩⟩,rfl,h2,h3⟩
 case done =>
  intro D s W hD hF hI hK;have hI2:dJf w w.heap.size (w.heap.size+1) bl (bl+1) ls ins a c ls.length W:=hF ▸ hI;have kqm:=hI2.kqm;have kc:=hI2.kc;rw[List.take_length] at kqm kc;have HQC:=Hd (And.intro kqm kc);have HKD:=Hd hK;have HBF:=Hd hI2.below;have HDD:Hid (w.heap.size<=D):=by have:=HSZ.out;show _<=_;omega
  clear hI hI2 kqm kc hK hF hD;gi_wp2_with fail;refine dJx (ro:=none) (C:=⟨W.drewN 1,w.heap.size,w.heap.size+1,aJ (bXk (dA6 ins) ls),aJ (bXk (dBc ins) ls)⟩) ⟨rfl,rfl,rfl,HQC.out.1,HQC.out.2⟩ rfl rfl rfl ?_;have HBG:=Hd (aD HBF.out 1);have HKE:Hid ((W.drewN 1).heap[D]?=some (.deferred (some []))):=HKD.out;simp only[iZ,dJ1,List.foldl,List.setIfInBounds_toArray,List.set_cons_zero,List.set_cons_succ,dJ0.val];clear HBF HKD HQC;generalize W.drewN 1=W5 at *;gi_wp2;refine⟨by simp,.inl ⟨_,_,rfl,run_takeDeferred HKE.out,?_⟩⟩;refine⟨_,results_tmp2 rfl _ _ _,rfl,?_⟩;exact HBG.out.trans (belowK_b (w:=w) (Nl _) W5 D _ _ HDD.out HKE.out rfl rfl)
end
end Go.Proofs.YtiloklnjjfaagaaGreatDoor
