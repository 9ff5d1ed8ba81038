/- FlowR13 WPair -/
import Derived.Test.YtiloklnjjfaagaaGreatDoorVD
set_option maxHeartbeats 16000000
set_option maxRecDepth 100000
namespace Go.Proofs.YtiloklnjjfaagaaGreatDoor
open Go.Proofs.Tryz
section
open Go Go.RowKit
abbrev bEe(ro:Option Nat):Fence:={ Fence.wide with round:=ro }
theorem bQb{ro:Option Nat}{n:Nat}{P:Program}{f:FuncId}{args:Array Value}{w:World}{R:Ending->World->Prop}(h:Calls P f args w R):CallsIn (bEe ro) n P f args w R:=by
 cases ro with
 |none=>exact callsIn_wide.2 h
 |some l=>exact CallsIn.inRound l (callsIn_wide.2 h)
section
variable {Γ:Type}{P:Program}{ops:Array Oper}{md:Region.Mode}{ds:List (Nat×Nat)}{val:Γ->Nat->Value}{G:Γ->Array Bool->World->Prop}{t0:Array Value}{d0:List Deferred}{Q:Exit->Act->World->Prop}{n:Nat}{ro:Option Nat}
theorem bD9(hm:P.follows .mixedOrders=true)(hds:sR ops=ds)(hnd:(ds.map Prod.snd).Nodup)(hlt:∀p,p∈ds->p.2<t0.size)(hfw:Uq .any ops=true)
  (hstep:∀ γ l a w i,uL ops .any ds val G t0 d0 γ l a w->i∈Region.ready .any ops l->wpOpIn (bEe ro) n P ops Q i (pY ops val G γ l a i) a w)
  {id:Nat}{γ:Γ}{a:Act}{w:World}(hdf:a.defers=d0) (ht:a.tmps=t0) (hg:G γ (Array.replicate ops.size false) (w.drewN 1))
  (hQ:∀ γ l W,(∀i,i<ops.size->lP l i)->G γ l W->Q .normal { tmps:=iZ (val γ) ds t0,defers:=d0 } W):(Code.region id ops true).wpIn (bEe ro) n P Q a w:=by
 refine wpIn_region_any hm ?_;refine Ft (fun l a w=>∃ γ,uL ops .any ds val G t0 d0 γ l a w) (fun l a w hi hr=>?_) (fun l a w i hi hr=>?_) _ _ _ _ (vS _) ⟨γ,zY hdf ht hg⟩
 ·obtain⟨γ,H⟩:=hi;have hall:=Hz hfw H.sz hr;have:=H.done hds hnd hlt hall;subst this;exact hQ γ l w hall H.g
 ·obtain⟨γ,H⟩:=hi;exact wpOpIn_mono (fun a' w' h=>H.step hds hnd hlt hr h) (hstep γ l a w i H hr)
theorem bH3{o:Oper}{K:Act->World->Prop}{a:Act}{w:World}(hnd:∀c,o.op ≠ .defer c)(h:o.uponIn (bEe ro) n P a K Q ((execOp a.eval o).run P w)):o.wpIn (bEe ro) n P a w K Q:=by
 refine⟨fun _ _=>trivial,?_⟩;rw[Oper.semAt_eq _ _ _ hnd];exact h
section
variable {γ:Γ}{l:Array Bool}{a:Act}{w:World}{i:Nat}
theorem bCb{X:Op}{v:Value}{w':World}(γ':Γ)(hst:∀j,lP l j->val γ' j=val γ j)(hX:(ops[i]?).map (fun o=>(o.op,o.guard))=some (X,none))(hrun:∀o:Oper,o.op=X->(execOp a.eval o).run P w=.ok (.value v) w')(hv:v=val γ' i)(hg:G γ' (l.setIfInBounds i true) w')(hnd:∀c,X ≠ .defer c:=by intro c h;cases h):wpOpIn (bEe ro) n P ops Q i (pY ops val G γ l a i) a w:=by
 cases ho:ops[i]? with
 |none=>rw[ho] at hX;cases hX
 |some o =>
  rw[ho] at hX;simp only[Option.map_some,Option.some.injEq,Prod.mk.injEq] at hX;refine Ce ho (by simp[Region.wanted,hX.2]) (bH3 (by rw[hX.1];exact hnd) ?_);rw[hrun o hX.1];exact⟨o,v,γ',ho,rfl,hv,hst,hg⟩
theorem bE9{X:Op}{w':World}(hX:(ops[i]?).map (fun o=>(o.op,o.guard,o.dst))=some (X,none,none))(hrun:∀o:Oper,o.op=X->(execOp a.eval o).run P w=.ok .skip w')(hg:G γ (l.setIfInBounds i true) w')(hnd:∀c,X ≠ .defer c:=by intro c h;cases h):wpOpIn (bEe ro) n P ops Q i (pY ops val G γ l a i) a w:=by
 cases ho:ops[i]? with
 |none=>rw[ho] at hX;cases hX
 |some o =>
  rw[ho] at hX;simp only[Option.map_some,Option.some.injEq,Prod.mk.injEq] at hX;obtain⟨h1,h2,h3⟩:=hX;refine Ce ho (by simp[Region.wanted,h2]) (bH3 (by rw[h1];exact hnd) ?_);rw[hrun o h1];exact⟨o,val γ i,γ,ho,by rw[h3];rfl,rfl,fun _ _=>rfl,hg⟩
theorem bFr{f:FuncId}{lb:Array Value}{c:Operand}{args:Array Operand}{ts:Array TypeId}{vs:Array Value}(hX:(ops[i]?).map (fun o=>(o.op,o.guard))=some (.call { callee:=.value c,args:=args,argTypes:=ts },none))(hc:a.eval c=.func (.func f) #[] lb)(eg:∀args w,(callFunc f args).run P w=.ok (.enter f args) w)
  (ha:args.map a.eval++lb=vs) (h:Calls P f vs w fun e w'=>∃v γ',e=.returned v/\v=val γ' i/\(∀j,lP l j->val γ' j=val γ j)/\G γ' (l.setIfInBounds i true) w'):wpOpIn (bEe ro) n P ops Q i (pY ops val G γ l a i) a w:=by
 cases ho:ops[i]? with
 |none=>rw[ho] at hX;cases hX
 |some o =>
  rw[ho] at hX;simp only[Option.map_some,Option.some.injEq,Prod.mk.injEq] at hX;subst ha;refine Ce ho (by simp[Region.wanted,hX.2]) (bH3 (by rw[hX.1];intro c h;cases h) ?_);have h1:resolve a.eval { callee:=.value c,args:=args,argTypes:=ts } o.type=pure { target:=.fn (.func f) lb,args:=args.map a.eval }:=by
   simp only[resolve,hc,Deferred.ofValue];simp
  have h2:(execOp a.eval o).run P w=.ok (.enter f (args.map a.eval++lb)) w:=by
   unfold execOp;rw[hX.1];simp only[h1];simp[invoke,eg]
  rw[h2];refine⟨fun h=>(by cases h),(bQb h).mono ?_⟩;rintro e w' ⟨v,γ',rfl,hv,hst,hg⟩;exact⟨o,v,γ',ho,rfl,hv,hst,hg⟩
end
end
end
section
open Go Go.RowKit Num
noncomputable def dIv:Array Oper:=(Tryz.f85.body.bind (dDa 1)).getD #[]
def dIb:List (Nat×Nat):=[(0,7),(1,8),(2,9),(3,10),(4,11),(5,12),(6,13),(7,14),(8,15),(9,16),(10,17),(11,6)]
structure dH4 where
 W0:World
 bs:Nat
 bi:Nat
 bd:Nat
 bw:Nat
 sb:Nat
 lv:Value
 tv:Value
 sv:Value
 g:Nat
 ng:Nat
 gc:Nat
 i:Nat
 x:aLe
 d:Int
 wash:Int
 by_:Nat
 y:Bd
 r:Bool
def dH4.val(C:dH4)(_:Unit):Nat->Value
 |0=>.agg C.y.cs
 |1=>.pointer (some ⟨C.sb,0,none⟩)
 |2=>.pointer (some ⟨C.sb,0,none⟩)
 |3=>.pointer (some ⟨C.sb,1,none⟩)
 |4=>.slice (some ⟨C.g,0,none⟩) C.ng C.gc
 |5=>.int .i64 (C.i:Int)
 |6=>.pointer (some ⟨C.g,C.i*10,none⟩)
 |7=>.agg C.x.cs
 |8=>.int .i64 C.d
 |9=>.int .i64 C.wash
 |10=>.bool C.r
 |_=>.bool C.r
def dH4.gg(C:dH4)(_:Unit)(_:Array Bool)(W:World):Prop:=Below C.W0.heap.size C.W0 W
structure dJv(C:dH4)(t0:Array Value):Prop where
 sz:t0.size=18
 lo1:t0[1]?=some (.pointer (some ⟨C.bs,0,none⟩))
 lo2:t0[2]?=some (.pointer (some ⟨C.bi,0,none⟩))
 lo3:t0[3]?=some (.pointer (some ⟨C.bd,0,none⟩))
 lo4:t0[4]?=some (.pointer (some ⟨C.bw,0,none⟩))
 lo5:t0[5]?=some (.pointer (some ⟨C.by_,0,none⟩))
 ks:aP C.W0 C.bs #[.pointer (some ⟨C.sb,0,none⟩)] 76
 ki:aP C.W0 C.bi #[.int .i64 (C.i:Int)] 3
 kd:aP C.W0 C.bd #[.int .i64 C.d] 24
 kw:aP C.W0 C.bw #[.int .i64 C.wash] 3
 kb:aP C.W0 C.sb #[C.lv,.slice (some ⟨C.g,0,none⟩) C.ng C.gc,C.tv,C.sv] 80
 kg:C.g<C.W0.heap.size
 kx:∀j u,C.x.cs[j]?=some u->C.W0.cell? ⟨C.g,C.i*10+j,none⟩=some u
 hi:C.i<C.ng
 hn:C.ng<=1000000
 ky:aP C.W0 C.by_ C.y.cs 49
 hr:∀W,Below C.W0.heap.size C.W0 W->Calls prog 69 #[.agg C.y.cs,.agg C.x.cs,.int .i64 C.d,.int .i64 C.wash] W fun e w'=>e=.returned (.bool C.r)/\Below W.heap.size W w'
section
variable {C:dH4}{t0:Array Value}{Q:Exit->Act->World->Prop}
theorem dHv(M:dJv C t0){a:Act}{w:World}(hdf:a.defers=[])(ht:a.tmps=t0)(hw:w.drewN 1=C.W0)
  (hQ:∀W,Below C.W0.heap.size C.W0 W->Q .normal { tmps:=iZ (C.val ()) dIb t0,defers:=[] } W):(Code.region 1 dIv true).wp prog Q a w:=by
 have hsz:dIv.size=12:=by kernel_rfl
 refine dCy (ds:=dIb) (val:=C.val) (G:=C.gg) (by kernel_rfl) (by kernel_rfl) (by decide) (fun p hp=>?_) (by kernel_rfl) ?_ (γ:=()) hdf ht (by rw[hw];exact Br _ _) (fun _ _ W _ hg=>hQ W hg)
 ·rw[M.sz];have:∀p,p∈dIb->p.2<18:=by decide
  exact this p hp
 ·intro γ l a w i H hr;cases γ;have hi:i<12:=by
   obtain⟨_,o,ho,_⟩:=mem_ready.1 hr;have:=(Ai.1 ho).1;rw[hsz] at this;exact this
  have lo1:=H.low (s:=1) (by decide) M.lo1;have lo2:=H.low (s:=2) (by decide) M.lo2;have lo3:=H.low (s:=3) (by decide) M.lo3;have lo4:=H.low (s:=4) (by decide) M.lo4;have lo5:=H.low (s:=5) (by decide) M.lo5;have hb:=H.g
  match i,hi,hr with
  |0,_,hr =>
   have hk:=(M.ky.overW hb M.ky.1).at0;exact aWj (.load 49 (.tmp 5)) (.agg C.y.cs) (fun o h=>by exact dC4 h (by simp[Act.eval,lo5]) hk underlying49 rfl (dF7 _)) hb
  |1,_,hr =>
   have ks:w.cell? ⟨C.bs,0,none⟩=some (.pointer (some ⟨C.sb,0,none⟩)):=(hb.cell (p:=⟨C.bs,0,none⟩) M.ks.1).trans ((M.ks.cell 0).trans rfl);exact aWj (.load 76 (.tmp 1)) (.pointer (some ⟨C.sb,0,none⟩)) (fun o h=>by simp[execOp,h,lo1,ks,go_sem]) hb
  |2,_,hr =>
   have v1:a.tmps[8]?=some (.pointer (some ⟨C.sb,0,none⟩)):=H.dep hr 1 8;exact aWj (.nilCheck (.tmp 8)) (.pointer (some ⟨C.sb,0,none⟩)) (fun o h=>by simp[execOp,h,v1,go_sem]) hb
  |3,_,hr =>
   have v2:a.tmps[9]?=some (.pointer (some ⟨C.sb,0,none⟩)):=H.dep hr 2 9;exact aWj (.fieldAddr 80 (.tmp 9) 1) (.pointer (some ⟨C.sb,1,none⟩)) (fun o h=>by simp[execOp,h,v2,go_sem]) hb
  |4,_,hr =>
   have v3:a.tmps[10]?=some (.pointer (some ⟨C.sb,1,none⟩)):=H.dep hr 3 10;have kb:w.cell? ⟨C.sb,1,none⟩=some (.slice (some ⟨C.g,0,none⟩) C.ng C.gc):=(hb.cell (p:=⟨C.sb,1,none⟩) M.kb.1).trans ((M.kb.cell 1).trans rfl);exact aWj (.load 23 (.tmp 10)) (.slice (some ⟨C.g,0,none⟩) C.ng C.gc) (fun o h=>by simp[execOp,h,v3,kb,go_sem]) hb
  |5,_,hr =>
   have ki:w.cell? ⟨C.bi,0,none⟩=some (.int .i64 (C.i:Int)):=(hb.cell (p:=⟨C.bi,0,none⟩) M.ki.1).trans ((M.ki.cell 0).trans rfl);exact aWj (.load 3 (.tmp 2)) (.int .i64 (C.i:Int)) (fun o h=>by simp[execOp,h,lo2,ki,go_sem]) hb
  |6,_,hr =>
   have v4:a.tmps[11]?=some (.slice (some ⟨C.g,0,none⟩) C.ng C.gc):=H.dep hr 4 11;have v5:a.tmps[12]?=some (.int .i64 (C.i:Int)):=H.dep hr 5 12;have hi1:=M.hi;have hn1:=M.hn;have hi2:(C.i:Int)<C.ng:=by omega
   exact aWj (.indexAddr 23 (.tmp 11) (.tmp 12)) (.pointer (some ⟨C.g,C.i*10,none⟩)) (fun o h=>by simp[execOp,h,v4,v5,hi2,go_sem]) hb
  |7,_,hr =>
   have v6:a.tmps[13]?=some (.pointer (some ⟨C.g,C.i*10,none⟩)):=H.dep hr 6 13;have hx:∀j u,C.x.cs[j]?=some u->w.cell? ⟨C.g,C.i*10+j,none⟩=some u:=fun j u hu=>(hb.cell (p:=⟨C.g,C.i*10+j,none⟩) M.kg).trans (M.kx j u hu)
   exact aWj (.load 42 (.tmp 13)) (.agg C.x.cs) (fun o h=>by exact dC4 h (by simp[Act.eval,v6]) hx underlying42 rfl (dEz _)) hb
  |8,_,hr =>
   have kd:w.cell? ⟨C.bd,0,none⟩=some (.int .i64 C.d):=(hb.cell (p:=⟨C.bd,0,none⟩) M.kd.1).trans ((M.kd.cell 0).trans rfl);exact aWj (.load 24 (.tmp 3)) (.int .i64 C.d) (fun o h=>by simp[execOp,h,lo3,kd,go_sem]) hb
  |9,_,hr =>
   have kw:w.cell? ⟨C.bw,0,none⟩=some (.int .i64 C.wash):=(hb.cell (p:=⟨C.bw,0,none⟩) M.kw.1).trans ((M.kw.cell 0).trans rfl);exact aWj (.load 3 (.tmp 4)) (.int .i64 C.wash) (fun o h=>by simp[execOp,h,lo4,kw,go_sem]) hb
  |10,_,hr =>
   have v0:a.tmps[7]?=some (.agg C.y.cs):=H.dep hr 0 7;have v7:a.tmps[14]?=some (.agg C.x.cs):=H.dep hr 7 14;have v8:a.tmps[15]?=some (.int .i64 C.d):=H.dep hr 8 15;have v9:a.tmps[16]?=some (.int .i64 C.wash):=H.dep hr 9 16;refine gA (f:=69) (lb:=#[]) (c:=.func 69) (args:=#[(.tmp 7),(.tmp 14),(.tmp 15),(.tmp 16)]) (ts:=#[49,42,24,3]) (vs:=#[.agg C.y.cs,.agg C.x.cs,.int .i64 C.d,.int .i64 C.wash]) (by kernel_rfl) rfl (aXb func69) (by simp[Act.eval,v0,v7,v8,v9]) ((M.hr _ hb).mono ?_);rintro e w' ⟨rfl,hb'⟩;exact⟨_,(),rfl,rfl,fun _ _=>rfl,aA hb hb'⟩
  |11,_,hr =>
   have v10:a.tmps[17]?=some (.bool C.r):=H.dep hr 10 17;exact aWj (.assign (.tmp 17)) (.bool C.r) (fun o h=>by simp[execOp,h,v10,go_sem]) hb
  |n+12,h,_=>exact absurd h (by omega)
end
noncomputable def dIu:Array Oper:=(Tryz.f84.body.bind (dDa 3)).getD #[]
def dH9:List (Nat×Nat):=[(0,16),(1,17),(2,18),(3,19),(4,20),(5,21),(6,22),(7,23),(8,24),(9,25),(10,26)]
structure dH3 where
 W0:World
 bs:Nat
 bi:Nat
 bd:Nat
 bw:Nat
 sb:Nat
 lv:Value
 tv:Value
 sv:Value
 g:Nat
 ng:Nat
 gc:Nat
 i:Nat
 x:aLe
 d:Int
 wash:Int
 bn:Nat
 ins:List UInt8
 r:Bool
def dH3.val(C:dH3)(_:Unit):Nat->Value
 |0=>.pointer (some ⟨C.sb,0,none⟩)
 |1=>.pointer (some ⟨C.sb,0,none⟩)
 |2=>.pointer (some ⟨C.sb,1,none⟩)
 |3=>.slice (some ⟨C.g,0,none⟩) C.ng C.gc
 |4=>.int .i64 (C.i:Int)
 |5=>.pointer (some ⟨C.g,C.i*10,none⟩)
 |6=>.agg C.x.cs
 |7=>.string ⟨C.ins.toArray⟩
 |8=>.int .i64 C.d
 |9=>.int .i64 C.wash
 |_=>.bool C.r
def dH3.gg(C:dH3)(_:Unit)(_:Array Bool)(W:World):Prop:=Below C.W0.heap.size C.W0 W
structure dJu(C:dH3)(t0:Array Value):Prop where
 sz:t0.size=41
 lo1:t0[1]?=some (.pointer (some ⟨C.bs,0,none⟩))
 lo2:t0[2]?=some (.pointer (some ⟨C.bn,0,none⟩))
 lo3:t0[3]?=some (.pointer (some ⟨C.bd,0,none⟩))
 lo4:t0[4]?=some (.pointer (some ⟨C.bw,0,none⟩))
 lo6:t0[6]?=some (.pointer (some ⟨C.bi,0,none⟩))
 ks:aP C.W0 C.bs #[.pointer (some ⟨C.sb,0,none⟩)] 76
 ki:aP C.W0 C.bi #[.int .i64 (C.i:Int)] 3
 kd:aP C.W0 C.bd #[.int .i64 C.d] 24
 kw:aP C.W0 C.bw #[.int .i64 C.wash] 3
 kb:aP C.W0 C.sb #[C.lv,.slice (some ⟨C.g,0,none⟩) C.ng C.gc,C.tv,C.sv] 80
 kg:C.g<C.W0.heap.size
 kx:∀j u,C.x.cs[j]?=some u->C.W0.cell? ⟨C.g,C.i*10+j,none⟩=some u
 hi:C.i<C.ng
 hn:C.ng<=1000000
 kn:aP C.W0 C.bn #[.string ⟨C.ins.toArray⟩] 9
 hr:∀W,Below C.W0.heap.size C.W0 W->Calls prog 67 #[.agg C.x.cs,.string ⟨C.ins.toArray⟩,.int .i64 C.d,.int .i64 C.wash] W fun e w'=>e=.returned (.bool C.r)/\Below W.heap.size W w'
section
variable {C:dH3}{t0:Array Value}{Q:Exit->Act->World->Prop}
theorem dHu(M:dJu C t0){a:Act}{w:World}{n:Nat}{ro:Option Nat}{d0:List Deferred}(hdf:a.defers=d0)(ht:a.tmps=t0)(hw:w.drewN 1=C.W0)
  (hQ:∀W,Below C.W0.heap.size C.W0 W->Q .normal { tmps:=iZ (C.val ()) dH9 t0,defers:=d0 } W):(Code.region 3 dIu true).wpIn (bEe ro) n prog Q a w:=by
 have hsz:dIu.size=11:=by kernel_rfl
 refine bD9 (ds:=dH9) (val:=C.val) (G:=C.gg) (by kernel_rfl) (by kernel_rfl) (by decide) (fun p hp=>?_) (by kernel_rfl) ?_ (γ:=()) hdf ht (by rw[hw];exact Br _ _) (fun _ _ W _ hg=>hQ W hg)
 ·rw[M.sz];have:∀p,p∈dH9->p.2<41:=by decide
  exact this p hp
 ·intro γ l a w i H hr;cases γ;have hi:i<11:=by
   obtain⟨_,o,ho,_⟩:=mem_ready.1 hr;have:=(Ai.1 ho).1;rw[hsz] at this;exact this
  have lo1:=H.low (s:=1) (by decide) M.lo1;have lo2:=H.low (s:=2) (by decide) M.lo2;have lo3:=H.low (s:=3) (by decide) M.lo3;have lo4:=H.low (s:=4) (by decide) M.lo4;have lo6:=H.low (s:=6) (by decide) M.lo6;have hb:=H.g
  match i,hi,hr with
  |0,_,hr =>
   have ks:w.cell? ⟨C.bs,0,none⟩=some (.pointer (some ⟨C.sb,0,none⟩)):=(hb.cell (p:=⟨C.bs,0,none⟩) M.ks.1).trans ((M.ks.cell 0).trans rfl);exact bCb () (fun _ _=>rfl) (X:=.load 76 (.tmp 1)) (v:=.pointer (some ⟨C.sb,0,none⟩)) (by kernel_rfl) (fun o h=>by simp[execOp,h,lo1,ks,go_sem]) rfl hb
  |1,_,hr =>
   have v0:a.tmps[16]?=some (.pointer (some ⟨C.sb,0,none⟩)):=H.dep hr 0 16;exact bCb () (fun _ _=>rfl) (X:=.nilCheck (.tmp 16)) (v:=.pointer (some ⟨C.sb,0,none⟩)) (by kernel_rfl) (fun o h=>by simp[execOp,h,v0,go_sem]) rfl hb
  |2,_,hr =>
   have v1:a.tmps[17]?=some (.pointer (some ⟨C.sb,0,none⟩)):=H.dep hr 1 17;exact bCb () (fun _ _=>rfl) (X:=.fieldAddr 80 (.tmp 17) 1) (v:=.pointer (some ⟨C.sb,1,none⟩)) (by kernel_rfl) (fun o h=>by simp[execOp,h,v1,go_sem]) rfl hb
  |3,_,hr =>
   have v2:a.tmps[18]?=some (.pointer (some ⟨C.sb,1,none⟩)):=H.dep hr 2 18;have kb:w.cell? ⟨C.sb,1,none⟩=some (.slice (some ⟨C.g,0,none⟩) C.ng C.gc):=(hb.cell (p:=⟨C.sb,1,none⟩) M.kb.1).trans ((M.kb.cell 1).trans rfl);exact bCb () (fun _ _=>rfl) (X:=.load 23 (.tmp 18)) (v:=.slice (some ⟨C.g,0,none⟩) C.ng C.gc) (by kernel_rfl) (fun o h=>by simp[execOp,h,v2,kb,go_sem]) rfl hb
  |4,_,hr =>
   have ki:w.cell? ⟨C.bi,0,none⟩=some (.int .i64 (C.i:Int)):=(hb.cell (p:=⟨C.bi,0,none⟩) M.ki.1).trans ((M.ki.cell 0).trans rfl);exact bCb () (fun _ _=>rfl) (X:=.load 3 (.tmp 6)) (v:=.int .i64 (C.i:Int)) (by kernel_rfl) (fun o h=>by simp[execOp,h,lo6,ki,go_sem]) rfl hb
  |5,_,hr =>
   have v3:a.tmps[19]?=some (.slice (some ⟨C.g,0,none⟩) C.ng C.gc):=H.dep hr 3 19;have v4:a.tmps[20]?=some (.int .i64 (C.i:Int)):=H.dep hr 4 20;have hi1:=M.hi;have hn1:=M.hn;have hi2:(C.i:Int)<C.ng:=by omega
   exact bCb () (fun _ _=>rfl) (X:=.indexAddr 23 (.tmp 19) (.tmp 20)) (v:=.pointer (some ⟨C.g,C.i*10,none⟩)) (by kernel_rfl) (fun o h=>by simp[execOp,h,v3,v4,hi2,go_sem]) rfl hb
  |6,_,hr =>
   have v5:a.tmps[21]?=some (.pointer (some ⟨C.g,C.i*10,none⟩)):=H.dep hr 5 21;have hx:∀j u,C.x.cs[j]?=some u->w.cell? ⟨C.g,C.i*10+j,none⟩=some u:=fun j u hu=>(hb.cell (p:=⟨C.g,C.i*10+j,none⟩) M.kg).trans (M.kx j u hu)
   exact bCb () (fun _ _=>rfl) (X:=.load 42 (.tmp 21)) (v:=.agg C.x.cs) (by kernel_rfl) (fun o h=>by exact dC4 h (by simp[Act.eval,v5]) hx underlying42 rfl (dEz _)) rfl hb
  |7,_,hr =>
   have kn:w.cell? ⟨C.bn,0,none⟩=some (.string ⟨C.ins.toArray⟩):=(hb.cell (p:=⟨C.bn,0,none⟩) M.kn.1).trans ((M.kn.cell 0).trans rfl);exact bCb () (fun _ _=>rfl) (X:=.load 9 (.tmp 2)) (v:=.string ⟨C.ins.toArray⟩) (by kernel_rfl) (fun o h=>by simp[execOp,h,lo2,kn,go_sem]) rfl hb
  |8,_,hr =>
   have kd:w.cell? ⟨C.bd,0,none⟩=some (.int .i64 C.d):=(hb.cell (p:=⟨C.bd,0,none⟩) M.kd.1).trans ((M.kd.cell 0).trans rfl);exact bCb () (fun _ _=>rfl) (X:=.load 24 (.tmp 3)) (v:=.int .i64 C.d) (by kernel_rfl) (fun o h=>by simp[execOp,h,lo3,kd,go_sem]) rfl hb
  |9,_,hr =>
   have kw:w.cell? ⟨C.bw,0,none⟩=some (.int .i64 C.wash):=(hb.cell (p:=⟨C.bw,0,none⟩) M.kw.1).trans ((M.kw.cell 0).trans rfl);exact bCb () (fun _ _=>rfl) (X:=.load 3 (.tmp 4)) (v:=.int .i64 C.wash) (by kernel_rfl) (fun o h=>by simp[execOp,h,lo4,kw,go_sem]) rfl hb
  |10,_,hr =>
   have v6:a.tmps[22]?=some (.agg C.x.cs):=H.dep hr 6 22;have v7:a.tmps[23]?=some (.string ⟨C.ins.toArray⟩):=H.dep hr 7 23;have v8:a.tmps[24]?=some (.int .i64 C.d):=H.dep hr 8 24;have v9:a.tmps[25]?=some (.int .i64 C.wash):=H.dep hr 9 25;refine bFr (f:=67) (lb:=#[]) (c:=.func 67) (args:=#[(.tmp 22),(.tmp 23),(.tmp 24),(.tmp 25)]) (ts:=#[42,9,24,3]) (vs:=#[.agg C.x.cs,.string ⟨C.ins.toArray⟩,.int .i64 C.d,.int .i64 C.wash]) (by kernel_rfl) rfl (aXb func67) (by simp[Act.eval,v6,v7,v8,v9]) ((M.hr _ hb).mono ?_);rintro e w' ⟨rfl,hb'⟩;exact⟨_,(),rfl,rfl,fun _ _=>rfl,aA hb hb'⟩
  |n+11,h,_=>exact absurd h (by omega)
end
end
end Go.Proofs.YtiloklnjjfaagaaGreatDoor
