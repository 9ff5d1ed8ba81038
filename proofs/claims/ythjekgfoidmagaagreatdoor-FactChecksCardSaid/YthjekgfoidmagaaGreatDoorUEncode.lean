/- Encode13 FlowR13 EncReg13 Encode13c -/
import Derived.Test.YthjekgfoidmagaaGreatDoorUWordA
import Derived.Test.YthjekgfoidmagaaGreatDoorUBelong
set_option maxHeartbeats 16000000
set_option maxRecDepth 100000
namespace Go.Proofs.YthjekgfoidmagaaGreatDoor
open Go.Proofs.Tryz
section
open Go Go.RowKit
abbrev bEe(ro:Option Nat):Fence:={ Fence.wide with round:=ro }
theorem bQb{ro:Option Nat}{n:Nat}{P:Program}{f:FuncId}{args:Array Value}{w:World}{R:Ending->World->Prop}(h:Calls P f args w R):CallsIn (bEe ro) n P f args w R:=by
 cases ro with
 |none=>exact callsIn_wide.2 h
 |some l=>exact CallsIn.inRound l (callsIn_wide.2 h)
section
variable {Γ:Type}{P:Program}{ops:Array Oper}{md:Region.Mode}{ds:List (Nat×Nat)}{val:Γ->Nat->Value}{G:Γ->Array Bool->World->Prop}{t0:Array Value}{d0:List Deferred}{Q:Exit->Act->World->Prop}{n:Nat}{ro:Option Nat}
theorem uL.back13{γ:Γ}{l:Array Bool}{a:Act}{w:World}(H:uL ops md ds val G t0 d0 γ l a w)(j d:Nat)(hd:((ops[j]?).map fun o=>o.after.any fun e=>e.on==d&&Region.binds md e)=some true)(h:lP l j):lP l d:=by
 cases ho:ops[j]? with
 |none=>rw[ho] at hd;cases hd
 |some o =>
  rw[ho] at hd;simp only[Option.map_some,Option.some.injEq] at hd;obtain⟨k,hk,he⟩:=Array.any_eq_true.1 hd;simp only[Bool.and_eq_true,beq_iff_eq] at he;have:=H.cl j o ho h _ (Array.getElem_mem hk) he.2;rw[he.1] at this;exact this
theorem bDz{l:Array Bool}{i:Nat}(hr:i∈Region.ready md ops l):¬ lP l i:=by
 have h:=(mem_ready.1 hr).1;unfold lP;rw[Array.getD_eq_getD_getElem?] at h ⊢;cases he:l[i]? with
 |none=>rw[he] at h;cases h
 |some b=>rw[he] at h;simp only[Option.getD_some] at h ⊢;rw[h];decide
theorem bD9(hm:P.follows .mixedOrders=true)(hds:sR ops=ds)(hnd:(ds.map Prod.snd).Nodup)(hlt:∀p,p∈ds->p.2<t0.size)(hfw:Uq .any ops=true)
  (hstep:∀ γ l a w i,uL ops .any ds val G t0 d0 γ l a w->i∈Region.ready .any ops l->wpOpIn (bEe ro) n P ops Q i (pY ops val G γ l a i) a w)
  {id:Nat}{γ:Γ}{a:Act}{w:World}(hdf:a.defers=d0) (ht:a.tmps=t0) (hg:G γ (Array.replicate ops.size false) (w.drewN 1))
  (hQ:∀ γ l W,(∀i,i<ops.size->lP l i)->G γ l W->Q .normal { tmps:=iZ (val γ) ds t0,defers:=d0 } W):(Code.region id ops true).wpIn (bEe ro) n P Q a w:=by
 refine wpIn_region_any hm ?_;refine Ft (fun l a w=>∃ γ,uL ops .any ds val G t0 d0 γ l a w) (fun l a w hi hr=>?_) (fun l a w i hi hr=>?_) _ _ _ _ (vS _) ⟨γ,zY hdf ht hg⟩
 ·obtain⟨γ,H⟩:=hi;have hall:=Hz hfw H.sz hr;have:=H.done hds hnd hlt hall;subst this;exact hQ γ l w hall H.g
 ·obtain⟨γ,H⟩:=hi;exact wpOpIn_mono (fun a' w' h=>H.step hds hnd hlt hr h) (hstep γ l a w i H hr)
theorem bH3{o:Oper}{K:Act->World->Prop}{a:Act}{w:World}(hnd:∀c,o.op ≠ .defer c)(h:o.uponIn (bEe ro) n P a K Q ((execOp a.eval o).run P w)):o.wpIn (bEe ro) n P a w K Q:=by
 refine⟨fun _ _=>trivial,?_⟩;rw[Oper.semAt_eq _ _ _ hnd];exact h
section
variable {γ:Γ}{l:Array Bool}{a:Act}{w:World}{i:Nat}
theorem bOq{K:Act->World->Prop}(h:∀o,ops[i]?=some o->Region.wanted o (yielded ops a.tmps)=true/\o.wpIn (bEe ro) n P a w K Q)(hi:i<ops.size):wpOpIn (bEe ro) n P ops Q i K a w:=by
 have ho:ops[i]?=some ops[i]:=Array.getElem?_eq_getElem hi;obtain⟨h1,h2⟩:=h _ ho;exact Ce ho h1 h2
theorem bCb{X:Op}{v:Value}{w':World}(γ':Γ)(hst:∀j,lP l j->val γ' j=val γ j)(hX:(ops[i]?).map (fun o=>(o.op,o.guard))=some (X,none))(hrun:∀o:Oper,o.op=X->(execOp a.eval o).run P w=.ok (.value v) w')(hv:v=val γ' i)(hg:G γ' (l.setIfInBounds i true) w')(hnd:∀c,X ≠ .defer c:=by intro c h;cases h):wpOpIn (bEe ro) n P ops Q i (pY ops val G γ l a i) a w:=by
 cases ho:ops[i]? with
 |none=>rw[ho] at hX;cases hX
 |some o =>
  rw[ho] at hX;simp only[Option.map_some,Option.some.injEq,Prod.mk.injEq] at hX;refine Ce ho (by simp[Region.wanted,hX.2]) (bH3 (by rw[hX.1];exact hnd) ?_);rw[hrun o hX.1];exact⟨o,v,γ',ho,rfl,hv,hst,hg⟩
theorem bE9{X:Op}{w':World}(hX:(ops[i]?).map (fun o=>(o.op,o.guard,o.dst))=some (X,none,none))(hrun:∀o:Oper,o.op=X->(execOp a.eval o).run P w=.ok .skip w')(hg:G γ (l.setIfInBounds i true) w')(hnd:∀c,X ≠ .defer c:=by intro c h;cases h):wpOpIn (bEe ro) n P ops Q i (pY ops val G γ l a i) a w:=by
 cases ho:ops[i]? with
 |none=>rw[ho] at hX;cases hX
 |some o =>
  rw[ho] at hX;simp only[Option.map_some,Option.some.injEq,Prod.mk.injEq] at hX;obtain⟨h1,h2,h3⟩:=hX;refine Ce ho (by simp[Region.wanted,h2]) (bH3 (by rw[h1];exact hnd) ?_);rw[hrun o h1];exact⟨o,val γ i,γ,ho,by rw[h3];rfl,rfl,fun _ _=>rfl,hg⟩
theorem bFr{f:FuncId}{lb:Array Value}{c:Operand}{args:Array Operand}{ts:Array TypeId}{vs:Array Value}(hX:(ops[i]?).map (fun o=>(o.op,o.guard))=some (.call { callee:=.value c,args:=args,argTypes:=ts },none))(hc:a.eval c=.func (.func f) #[] lb)(eg:∀args w,(callFunc f args).run P w=.ok (.enter f args) w)
  (ha:args.map a.eval++lb=vs) (h:Calls P f vs w fun e w'=>∃v γ',e=.returned v/\v=val γ' i/\(∀j,lP l j->val γ' j=val γ j)/\G γ' (l.setIfInBounds i true) w'):wpOpIn (bEe ro) n P ops Q i (pY ops val G γ l a i) a w:=by
 cases ho:ops[i]? with
 |none=>rw[ho] at hX;cases hX
 |some o =>
  rw[ho] at hX;simp only[Option.map_some,Option.some.injEq,Prod.mk.injEq] at hX;subst ha;refine Ce ho (by simp[Region.wanted,hX.2]) (bH3 (by rw[hX.1];intro c h;cases h) ?_);have h1:resolve a.eval { callee:=.value c,args:=args,argTypes:=ts } o.type=pure { target:=.fn (.func f) lb,args:=args.map a.eval }:=by
   simp only[resolve,hc,Deferred.ofValue];simp
  have h2:(execOp a.eval o).run P w=.ok (.enter f (args.map a.eval++lb)) w:=by
   unfold execOp;rw[hX.1];simp only[h1];simp[invoke,eg]
  rw[h2];refine⟨fun h=>(by cases h),(bQb h).mono ?_⟩;rintro e w' ⟨v,γ',rfl,hv,hst,hg⟩;exact⟨o,v,γ',ho,rfl,hv,hst,hg⟩
theorem bFa(hw:∀o,ops[i]?=some o->Region.wanted o (yielded ops a.tmps)=false)(hi:i<ops.size)(hv:undef=val γ i)(hg:G γ (l.setIfInBounds i true) w):wpOpIn (bEe ro) n P ops Q i (pY ops val G γ l a i) a w:=by
 have ho:ops[i]?=some ops[i]:=Array.getElem?_eq_getElem hi;unfold wpOpIn;rw[ho];simp only[hw _ ho];exact⟨fun _ _=>trivial,_,_,γ,ho,rfl,hv,fun _ _=>rfl,hg⟩
theorem bE8{X:Op}{v:Value}{w':World}(hX:(ops[i]?).map (·.op)=some X)(hw:∀o,ops[i]?=some o->Region.wanted o (yielded ops a.tmps)=true)(hrun:∀o:Oper,o.op=X->(execOp a.eval o).run P w=.ok (.value v) w')(hv:v=val γ i)(hg:G γ (l.setIfInBounds i true) w')(hnd:∀c,X ≠ .defer c:=by intro c h;cases h):wpOpIn (bEe ro) n P ops Q i (pY ops val G γ l a i) a w:=by
 cases ho:ops[i]? with
 |none=>rw[ho] at hX;cases hX
 |some o =>
  rw[ho] at hX;simp only[Option.map_some,Option.some.injEq] at hX;refine Ce ho (hw o ho) (bH3 (by rw[hX];exact hnd) ?_);rw[hrun o hX];exact⟨o,v,γ,ho,rfl,hv,fun _ _=>rfl,hg⟩
end
end
end
section
open Go Go.RowKit Num
theorem bGb{W:World}{b i:Nat}{cs:Array Value}{v:Value}{t:TypeId}(h:aP W b cs t):aP (W.setCell ⟨b,i,none⟩ v) b (cs.setIfInBounds i v) t:=by
 rw[setCell_eq_setRow W b i cs t (0,0) v h.2];exact Ip h
theorem bI4{W:World}{b:Nat}{p:Addr}{cs:Array Value}{v:Value}{t:TypeId}(h:aP W b cs t)(hne:b≠p.block):aP (W.setCell p v) b cs t :=
 ⟨by rw[show (W.setCell p v).heap.size=W.heap.size by simp[World.setCell]];exact h.1,(Below.heap_setCell _ _ _ b hne).trans h.2⟩
theorem bIt{o:Oper}{a:Act}{w:World}{x y:Nat}(ho:o.op=.store 36 (.tmp x) (.tmp y)){b off:Nat}(hx:a.tmps[x]?=some (.pointer (some ⟨b,off,none⟩))){s:Option Addr}{n c:Nat}(hy:a.tmps[y]?=some (.slice s n c)){cs:Array Value}{T:TypeId}(hb:aP w b cs T)(hlt:off<cs.size):
  (execOp a.eval o).run prog w=.ok .skip (w.setCell ⟨b,off,none⟩ (.slice s n c)):=by
 have h1:w.cell? ⟨b,off,none⟩=some cs[off]:=(hb.cell off).trans (Array.getElem?_eq_getElem hlt);have h2:=aR hb.2 off;simp[execOp,ho,hx,hy,h1,h2,go_sem]
noncomputable def bPx:Array Oper:=(f21.body.bind (jE 4)).getD #[]
def bPo:List (Nat×Nat):=[(0,15),(1,16),(2,17),(3,18),(4,19),(5,20),(6,5)]
structure E4C where
 W0:World
 bf:Nat
 cs:Array Value
 key:ByteArray
 st:Int
 it:ByteArray
def E4C.val(C:E4C)(γ:Nat×Nat):Nat->Value
 |0=>.pointer (some ⟨C.bf,0,none⟩)
 |1=>.string C.key
 |2=>.pointer (some ⟨C.bf,1,none⟩)
 |3=>.int .i64 C.st
 |4=>.string C.it
 |5=>.slice (some ⟨γ.2,0,none⟩) 2 2
 |6=>.pointer (some ⟨γ.1,0,none⟩)
 |_=>undef
def E4C.G(C:E4C)(γ:Nat×Nat)(l:Array Bool)(W:World):Prop :=
 Below C.W0.heap.size C.W0 W/\(lP l 5->C.W0.heap.size<=γ.2/\aP W γ.2 #[.string C.key,.string C.it] 9)/\(lP l 6->C.W0.heap.size<=γ.1/\∃u,u.size=1/\aP W γ.1 u 36/\(lP l 7->u=#[.slice (some ⟨γ.2,0,none⟩) 2 2]))/\(lP l 5->lP l 6->γ.1 ≠ γ.2)
structure E4M(C:E4C)(t0:Array Value):Prop where
 sz:t0.size=54
 t1:t0[1]?=some (.pointer (some ⟨C.bf,0,none⟩))
 kf:aP C.W0 C.bf C.cs 29
 c0:C.cs[0]?=some (.string C.key)
 c1:C.cs[1]?=some (.int .i64 C.st)
 hI:∀W,Below C.W0.heap.size C.W0 W->Calls prog 55 #[.int .i64 C.st] W fun e w'=>e=.returned (.string C.it)/\Below W.heap.size W w'
section
variable {n:Nat}{ro:Option Nat}{C:E4C}{t0:Array Value}{Q:Exit->Act->World->Prop}{l:Array Bool}{w:World}
theorem E4C.keep{γ:Nat×Nat}{i:Nat}(h:C.G γ l w)(h5:i≠5)(h6:i≠6)(h7:i≠7){w':World}(hb:Below w.heap.size w w'):C.G γ (l.setIfInBounds i true) w':=by
 obtain⟨k,k1,k2,k3⟩:=h;exact⟨aA k hb,fun h'=>by obtain⟨c,b⟩:=k1 (mQ h' (Ne.symm h5));exact⟨c,b.below hb⟩,fun h'=>by obtain⟨c,u,a1,a2,a3⟩:=k2 (mQ h' (Ne.symm h6));exact⟨c,u,a1,a2.below hb,fun h''=>a3 (mQ h'' (Ne.symm h7))⟩,fun h' h''=>k3 (mQ h' (Ne.symm h5)) (mQ h'' (Ne.symm h6))⟩
theorem bN1(M:E4M C t0){a:Act}(hdf:a.defers=[])(ht:a.tmps=t0)(hw:w.drewN 1=C.W0)
  (hQ:∀g1 g2 W,C.W0.heap.size<=g1->C.W0.heap.size<=g2->g1≠g2->aP W g1 #[.slice (some ⟨g2,0,none⟩) 2 2] 36->aP W g2 #[.string C.key,.string C.it] 9->Below C.W0.heap.size C.W0 W->Q .normal { tmps:=iZ (C.val (g1,g2)) bPo t0,defers:=[] } W):(Code.region 4 bPx true).wpIn (bEe ro) n prog Q a w:=by
 have hsz:bPx.size=8:=by kernel_rfl
 refine bD9 (ds:=bPo) (val:=C.val) (G:=C.G) (by kernel_rfl) (by kernel_rfl) (by decide) (fun p hp=>?_) (by kernel_rfl) ?_ (γ:=(0,0)) hdf ht (by rw[hw];exact⟨Br _ _,fun h=>absurd h (Gu _ _),fun h=>absurd h (Gu _ _),fun h=>absurd h (Gu _ _)⟩) ?_
 ·rw[M.sz];have:∀p,p∈bPo->p.2<54:=by decide
  exact this p hp
 ·intro γ l a w i H hr;have hi:i<8:=by
   obtain⟨_,o,ho,_⟩:=mem_ready.1 hr;have:=(Ai.1 ho).1;rw[hsz] at this;exact this
  have t1:=H.low (s:=1) (by decide) M.t1;have hno:=bDz hr;obtain⟨hB,k1,k2,k3⟩:=H.g;have KF:=M.kf.below hB;have hrf:=Br w.heap.size w
  match i,hi,hr with
  |0,_,hr=>exact bCb (X:=.fieldAddr 29 (.tmp 1) 0) (v:=.pointer (some ⟨C.bf,0,none⟩)) γ (fun _ _=>rfl) (by kernel_rfl) (fun o h=>by simp[execOp,h,t1,go_sem]) rfl (E4C.keep H.g (by decide) (by decide) (by decide) hrf)
  |1,_,hr =>
   have v0:a.tmps[15]?=some (.pointer (some ⟨C.bf,0,none⟩)):=H.dep hr 0 15;have c0:=(KF.cell 0).trans M.c0;exact bCb (X:=.load 9 (.tmp 15)) (v:=.string C.key) γ (fun _ _=>rfl) (by kernel_rfl) (fun o h=>by simp[execOp,h,v0,c0,go_sem]) rfl (E4C.keep H.g (by decide) (by decide) (by decide) hrf)
  |2,_,hr=>exact bCb (X:=.fieldAddr 29 (.tmp 1) 1) (v:=.pointer (some ⟨C.bf,1,none⟩)) γ (fun _ _=>rfl) (by kernel_rfl) (fun o h=>by simp[execOp,h,t1,go_sem]) rfl (E4C.keep H.g (by decide) (by decide) (by decide) hrf)
  |3,_,hr =>
   have v2:a.tmps[17]?=some (.pointer (some ⟨C.bf,1,none⟩)):=H.dep hr 2 17;have c1:=(KF.cell 1).trans M.c1;exact bCb (X:=.load 3 (.tmp 17)) (v:=.int .i64 C.st) γ (fun _ _=>rfl) (by kernel_rfl) (fun o h=>by simp[execOp,h,v2,c1,go_sem]) rfl (E4C.keep H.g (by decide) (by decide) (by decide) hrf)
  |4,_,hr =>
   have v3:a.tmps[18]?=some (.int .i64 C.st):=H.dep hr 3 18;refine bFr (f:=55) (lb:=#[]) (c:=.func 55) (args:=#[.tmp 18]) (ts:=#[3]) (vs:=#[.int .i64 C.st]) (by kernel_rfl) rfl (aXb func55) (by simp[Act.eval,v3]) ((M.hI w hB).mono ?_);rintro e w' ⟨rfl,hb'⟩;exact⟨_,γ,rfl,rfl,fun _ _=>rfl,E4C.keep H.g (by decide) (by decide) (by decide) hb'⟩
  |5,_,hr =>
   have v1:a.tmps[16]?=some (.string C.key):=H.dep hr 1 16;have v4:a.tmps[19]?=some (.string C.it):=H.dep hr 4 19;have h7:¬ lP l 7:=fun h=>hno (H.back13 7 5 (by kernel_rfl) h)
   refine bCb (X:=.buildSlice 36 2 #[(0,.tmp 16),(1,.tmp 19)]) (v:=.slice (some ⟨w.heap.size,0,none⟩) 2 2) (w':=w.alloc (.cells #[.string C.key,.string C.it] 9)) (γ.1,w.heap.size) (fun j hj=>?_) (by kernel_rfl) (fun o h=>by simp[execOp,h,v1,v4,go_sem]) rfl ⟨hB.trans ((aB w _).mono hB.size),fun _=>⟨hB.size,aP.new0 w _ _⟩,fun h=>by obtain⟨c,u,a1,a2,a3⟩:=k2 (mQ h (by decide));exact⟨c,u,a1,a2.below (aB _ _),fun h''=>absurd (mQ h'' (by decide)) h7⟩,fun _ h=>by obtain⟨c,u,a1,a2,a3⟩:=k2 (mQ h (by decide));have:=a2.1;show γ.1≠w.heap.size;omega⟩
   match j,hj with
   |5,hj=>exact absurd hj hno
   |0,_|1,_|2,_|3,_|4,_|6,_=>rfl
   |_+7,_=>rfl
  |6,_,hr =>
   have h7:¬ lP l 7:=fun h=>hno (H.back13 7 6 (by kernel_rfl) h)
   refine bCb (X:=.alloc 36) (v:=.pointer (some ⟨w.heap.size,0,none⟩)) (w':=w.alloc (.cells #[.slice none 0 0] 36)) (w.heap.size,γ.2) (fun j hj=>?_) (by kernel_rfl) (fun o h=>by simp[execOp,h,go_sem]) rfl ⟨hB.trans ((aB w _).mono hB.size),fun h=>by obtain⟨c,b⟩:=k1 (mQ h (by decide));exact⟨c,b.below (aB _ _)⟩,fun _=>⟨hB.size,_,rfl,aP.new0 w _ _,fun h=>absurd (mQ h (by decide)) h7⟩,fun h _=>by obtain⟨c,b⟩:=k1 (mQ h (by decide));have:=b.1;show w.heap.size ≠ γ.2;omega⟩
   match j,hj with
   |6,hj=>exact absurd hj hno
   |0,_|1,_|2,_|3,_|4,_|5,_=>rfl
   |_+7,_=>rfl
  |7,_,hr =>
   have v5:a.tmps[20]?=some (.slice (some ⟨γ.2,0,none⟩) 2 2):=H.dep hr 5 20;have v6:a.tmps[5]?=some (.pointer (some ⟨γ.1,0,none⟩)):=H.dep hr 6 5;have o5:lP l 5:=aG hr (by kernel_rfl);have o6:lP l 6:=aG hr (by kernel_rfl);obtain⟨c,b⟩:=k1 o5;obtain⟨c6,u,a1,a2,a3⟩:=k2 o6;have hne:=k3 o5 o6;have hu:u.setIfInBounds 0 (.slice (some ⟨γ.2,0,none⟩) 2 2)=#[.slice (some ⟨γ.2,0,none⟩) 2 2]:=by
    apply Array.ext
    ·simp[a1]
    ·intro k h1 h2;have:k=0:=by simp at h2;omega
     subst this;simp
   have a4:=bGb (i:=0) (v:=.slice (some ⟨γ.2,0,none⟩) 2 2) a2;rw[hu] at a4;exact bE9 (X:=.store 36 (.tmp 5) (.tmp 20)) (by kernel_rfl) (fun o h=>bIt h v6 v5 a2 (by omega)) ⟨hB.setCell (p:=⟨γ.1,0,none⟩) c6 _,fun _=>⟨c,bI4 b (Ne.symm hne)⟩,fun _=>⟨c6,_,rfl,a4,fun _=>rfl⟩,fun _ _=>hne⟩
  |n+8,h,_=>exact absurd h (by omega)
 ·rintro γ l W hall ⟨hB,k1,k2,k3⟩;have hn:∀j,j<8->lP l j:=fun j hj=>hall j (by rw[hsz];exact hj)
  obtain⟨c,b⟩:=k1 (hn 5 (by decide));obtain⟨c',u,b1,b2,b3⟩:=k2 (hn 6 (by decide));obtain rfl:=b3 (hn 7 (by decide));exact hQ γ.1 γ.2 W c' c (k3 (hn 5 (by decide)) (hn 6 (by decide))) b2 b hB
end
theorem bL7{w:World}{bm:Nat}(h:pQ w bm)(kd:Int){q:Int×bH}(hf:(aX.find? fun p=>p.1==kd)=some q):∃mv:Option Nat,(Instr.lookup 64 (.map (some bm)) (.int .i64 kd) false).run prog w=.ok (.agg (aK q.2.word q.2.cls q.2.has (.map mv) q.2.code)) w:=by
 obtain⟨kvs,h1,h2,h3⟩:=h;have hq:=List.mem_of_find?_eq_some hf;have hqk:q.1=kd:=by have:=List.find?_some hf;simpa using this
 obtain⟨p0,hp0,e0⟩:=h3 q hq;cases hp:kvs.find? fun p=>p.1==kd with
 |none =>
  have:=List.find?_eq_none.1 hp p0 hp0;simp[e0,hqk] at this
 |some p =>
  have hpm:=List.mem_of_find?_eq_some hp;have hpk:p.1=kd:=by have:=List.find?_some hp;simpa using this
  obtain⟨q',hq',e1,hk⟩:=h2 p hpm;obtain rfl:=Cm zM hq' hq (by rw[<-e1,hpk,hqk]);obtain⟨mv,e,_⟩:=hk;refine⟨mv,?_⟩;have:=pV (ok:=false) underlying64 underlying3 h1.1 kd p hp;rw[e] at this;simpa using this
noncomputable def bPw:Array Oper:=(f21.body.bind (jE 7)).getD #[]
def bPn:List (Nat×Nat):=[(0,27),(1,28),(2,29),(3,30),(4,6)]
structure E7C where
 W0:World
 bf:Nat
 cs:Array Value
 kd:Int
 q:Int×bH
def E7C.kc(C:E7C)(mv:Option Nat):Array Value:=aK C.q.2.word C.q.2.cls C.q.2.has (.map mv) C.q.2.code
def E7C.val(C:E7C)(γ:Nat×Option Nat×Nat):Nat->Value
 |0=>.map (some γ.1)
 |1=>.pointer (some ⟨C.bf,4,none⟩)
 |2=>.int .i64 C.kd
 |3=>.agg (C.kc γ.2.1)
 |4=>.pointer (some ⟨γ.2.2,0,none⟩)
 |_=>undef
def E7C.G(C:E7C)(γ:Nat×Option Nat×Nat)(l:Array Bool)(W:World):Prop :=
 Below C.W0.heap.size C.W0 W/\(lP l 0->¬ lP l 3->pQ W γ.1)/\(lP l 4->C.W0.heap.size<=γ.2.2/\∃u,u.size=17/\aP W γ.2.2 u 62/\(lP l 5->u=C.kc γ.2.1))
structure E7M(C:E7C)(t0:Array Value):Prop where
 sz:t0.size=54
 t1:t0[1]?=some (.pointer (some ⟨C.bf,0,none⟩))
 kf:aP C.W0 C.bf C.cs 29
 c4:C.cs[4]?=some (.int .i64 C.kd)
 hf:(aX.find? fun p=>p.1==C.kd)=some C.q
section
variable {n:Nat}{ro:Option Nat}{C:E7C}{t0:Array Value}{Q:Exit->Act->World->Prop}{l:Array Bool}{w:World}
theorem E7C.keep{γ:Nat×Option Nat×Nat}{i:Nat}(h:C.G γ l w)(h0:i≠0)(_:i≠3)(h4:i≠4)(h5:i≠5):C.G γ (l.setIfInBounds i true) w:=by
 obtain⟨k,k1,k2⟩:=h;exact⟨k,fun h' h''=>k1 (mQ h' (Ne.symm h0)) (fun g=>h'' (fH g)),fun h'=>by obtain⟨c,u,a1,a2,a3⟩:=k2 (mQ h' (Ne.symm h4));exact⟨c,u,a1,a2,fun h''=>a3 (mQ h'' (Ne.symm h5))⟩⟩
theorem bN0(M:E7M C t0){a:Act}(hdf:a.defers=[])(ht:a.tmps=t0)(hw:w.drewN 1=C.W0)
  (hQ:∀bm mv bk W,C.W0.heap.size<=bk->aP W bk (C.kc mv) 62->Below C.W0.heap.size C.W0 W->Q .normal { tmps:=iZ (C.val (bm,mv,bk)) bPn t0,defers:=[] } W):(Code.region 7 bPw true).wpIn (bEe ro) n prog Q a w:=by
 have hsz:bPw.size=6:=by kernel_rfl
 refine bD9 (ds:=bPn) (val:=C.val) (G:=C.G) (by kernel_rfl) (by kernel_rfl) (by decide) (fun p hp=>?_) (by kernel_rfl) ?_ (γ:=(0,none,0)) hdf ht (by rw[hw];exact⟨Br _ _,fun h=>absurd h (Gu _ _),fun h=>absurd h (Gu _ _)⟩) ?_
 ·rw[M.sz];have:∀p,p∈bPn->p.2<54:=by decide
  exact this p hp
 ·intro γ l a w i H hr;have hi:i<6:=by
   obtain⟨_,o,ho,_⟩:=mem_ready.1 hr;have:=(Ai.1 ho).1;rw[hsz] at this;exact this
  have t1:=H.low (s:=1) (by decide) M.t1;have hno:=bDz hr;obtain⟨hB,k1,k2⟩:=H.g;have KF:=M.kf.below hB
  match i,hi,hr with
  |0,_,hr =>
   have h3:¬ lP l 3:=fun h=>hno (H.back13 3 0 (by kernel_rfl) h)
   refine bFr (f:=34) (lb:=#[]) (c:=.func 34) (args:=#[]) (ts:=#[]) (vs:=#[]) (by kernel_rfl) rfl (aXb func34) (by simp) ((Cq w).mono ?_);rintro e w' ⟨bm,rfl,hm,hb'⟩;refine⟨_,(bm,γ.2.1,γ.2.2),rfl,rfl,fun j hj=>?_,aA hB hb',fun _ _=>hm,fun h=>by obtain⟨c,u,a1,a2,a3⟩:=k2 (mQ h (by decide));exact⟨c,u,a1,a2.below hb',fun h''=>a3 (mQ h'' (by decide))⟩⟩
   match j,hj with
   |0,hj=>exact absurd hj hno
   |1,_|2,_|3,_|4,_=>rfl
   |_+5,_=>rfl
  |1,_,hr=>exact bCb (X:=.fieldAddr 29 (.tmp 1) 4) (v:=.pointer (some ⟨C.bf,4,none⟩)) γ (fun _ _=>rfl) (by kernel_rfl) (fun o h=>by simp[execOp,h,t1,go_sem]) rfl (E7C.keep H.g (by decide) (by decide) (by decide) (by decide))
  |2,_,hr =>
   have v1:a.tmps[28]?=some (.pointer (some ⟨C.bf,4,none⟩)):=H.dep hr 1 28;have c4:=(KF.cell 4).trans M.c4;exact bCb (X:=.load 3 (.tmp 28)) (v:=.int .i64 C.kd) γ (fun _ _=>rfl) (by kernel_rfl) (fun o h=>by simp[execOp,h,v1,c4,go_sem]) rfl (E7C.keep H.g (by decide) (by decide) (by decide) (by decide))
  |3,_,hr =>
   have v0:a.tmps[27]?=some (.map (some γ.1)):=H.dep hr 0 27;have v2:a.tmps[29]?=some (.int .i64 C.kd):=H.dep hr 2 29;have o0:lP l 0:=aG hr (by kernel_rfl);have h5:¬ lP l 5:=fun h=>hno (H.back13 5 3 (by kernel_rfl) h)
   obtain⟨mv,hrun⟩:=bL7 (k1 o0 hno) C.kd M.hf;refine bCb (X:=.lookup 64 (.tmp 27) (.tmp 29) false) (v:=.agg (C.kc mv)) (γ.1,mv,γ.2.2) (fun j hj=>?_) (by kernel_rfl) (fun o h=>by simp[execOp,h,v0,v2,Act.eval,hrun,Result.andThen,E7C.kc]) rfl ⟨hB,fun _ h=>absurd (zE (by rw[H.sz,hsz];decide)) h,fun h=>by obtain⟨c,u,a1,a2,a3⟩:=k2 (mQ h (by decide));exact⟨c,u,a1,a2,fun h''=>absurd (mQ h'' (by decide)) h5⟩⟩
   match j,hj with
   |3,hj=>exact absurd hj hno
   |0,_|1,_|2,_|4,_=>rfl
   |_+5,_=>rfl
  |4,_,hr =>
   have h5:¬ lP l 5:=fun h=>hno (H.back13 5 4 (by kernel_rfl) h)
   refine bCb (X:=.alloc 62) (v:=.pointer (some ⟨w.heap.size,0,none⟩)) (w':=w.alloc (.cells ZK 62)) (γ.1,γ.2.1,w.heap.size) (fun j hj=>?_) (by kernel_rfl) (fun o h=>by simp[execOp,h,go_sem,ZK]) rfl ⟨hB.trans ((aB w _).mono hB.size),fun h h'=>(k1 (mQ h (by decide)) (fun g=>h' (fH g))).below (aB _ _),fun _=>⟨hB.size,_,rfl,aP.new0 w _ _,fun h=>absurd (mQ h (by decide)) h5⟩⟩
   match j,hj with
   |4,hj=>exact absurd hj hno
   |0,_|1,_|2,_|3,_=>rfl
   |_+5,_=>rfl
  |5,_,hr =>
   have v3:a.tmps[30]?=some (.agg (C.kc γ.2.1)):=H.dep hr 3 30;have v4:a.tmps[6]?=some (.pointer (some ⟨γ.2.2,0,none⟩)):=H.dep hr 4 6;have o3:lP l 3:=aG hr (by kernel_rfl);have o4:lP l 4:=aG hr (by kernel_rfl);obtain⟨c,u,a1,a2,a3⟩:=k2 o4;have hks:(C.kc γ.2.1).size=17:=Cr;exact bE9 (X:=.store 62 (.tmp 6) (.tmp 30)) (by kernel_rfl) (fun o h=>Bi h (ev' v4) (ev' v3) a2 (by rw[hks];exact oJ) (by rw[hks];exact a1) mU) ⟨below_setRow hB c _,fun _ h=>absurd (fH o3) h,fun _=>⟨c,_,hks,Ip a2,fun _=>rfl⟩⟩
  |n+6,h,_=>exact absurd h (by omega)
 ·rintro γ l W hall ⟨hB,k1,k2⟩;have hn:∀j,j<6->lP l j:=fun j hj=>hall j (by rw[hsz];exact hj)
  obtain⟨c',u,b1,b2,b3⟩:=k2 (hn 4 (by decide));obtain rfl:=b3 (hn 5 (by decide));exact hQ γ.1 γ.2.1 γ.2.2 W c' b2 hB
end
def bEw(id:Nat):Code->Option (Array Oper)
 | .region i ops _=>if i=id then some ops else none
 | .seq a b=>(bEw id a).or (bEw id b)
 | .cond _ a b=>(bEw id a).or (bEw id b)
 | .block _ b=>bEw id b
 | .loop b=>bEw id b
 | .rangeFunc _ _ a b=>(bEw id a).or (bEw id b)
 |_=>none
noncomputable def bKs:Array Oper:=(f21.body.bind (bEw 12)).getD #[]
def bOy:List (Nat×Nat):=[(0,46),(1,47),(2,48),(3,49),(4,50),(5,51)]
structure bGn where
 W0:World
 o:Nat
 v:Value
 n:Nat
 xs:List Value
 base:Nat
 bf:Nat
 cs:Array Value
 i:Int
 wd:ByteArray
structure bO8 where
 v':Value
 W3:World
 w5:World
def bGn.tmp(C:bGn):Obj:=.cells #[.string C.wd] 9
structure bGn.app(C:bGn)(γ:bO8):Prop where
 be:Below C.W0.heap.size C.W0 γ.W3
 own:γ.w5.ownsRow C.base 9 1 γ.v' (C.n+1) (C.xs ++ [.string C.wd])
 gr:(γ.W3.alloc C.tmp).grownBy γ.w5 C.v.ownBlock
 ob:γ.v'.ownBlock=C.v.ownBlock∨γ.v'.ownBlock=some (γ.W3.alloc C.tmp).heap.size
def bGn.val(C:bGn)(γ:bO8):Nat->Value
 |0=>C.v
 |1=>.agg C.cs
 |2=>.int .i64 C.i
 |3=>.string C.wd
 |4=>.slice (some ⟨γ.W3.heap.size,0,none⟩) 1 1
 |5=>γ.v'
 |_=>undef
def bGn.G(C:bGn)(γ:bO8)(l:Array Bool)(W:World):Prop :=
 (¬ lP l 4->Below C.W0.heap.size C.W0 W)/\(lP l 4->¬ lP l 5->Below C.W0.heap.size C.W0 γ.W3/\W = γ.W3.alloc C.tmp)/\(lP l 5->C.app γ/\(¬ lP l 6->W = γ.w5)/\(lP l 6->W = γ.w5.setCell ⟨C.o,0,none⟩ γ.v'))
structure bQs(C:bGn)(t0:Array Value):Prop where
 sz:t0.size=54
 t1:t0[1]?=some (.pointer (some ⟨C.bf,0,none⟩))
 t5:t0[5]?=some (.pointer (some ⟨C.o,0,none⟩))
 t9:t0[9]?=some (.int .i64 C.i)
 kf:aP C.W0 C.bf C.cs 29
 fs:(prog.info? 29).map (·.size)=some C.cs.size
 ko:Boxed C.W0 C.o 36 C.v
 own:C.W0.ownsRow C.base 9 1 C.v C.n C.xs
 hb:C.base<=C.W0.heap.size
 hn:C.n<=1000
 hw:∀W,Below C.W0.heap.size C.W0 W->Calls prog 59 #[.agg C.cs,.int .i64 C.i] W fun e w'=>e=.returned (.string C.wd)/\Below W.heap.size W w'
theorem bIw{o:Oper}{a:Act}{w:World}{x y:Nat}(ho:o.op=.store 36 (.tmp x) (.tmp y)){b:Nat}(hx:a.tmps[x]?=some (.pointer (some ⟨b,0,none⟩))){v u:Value}(hy:a.tmps[y]?=some v){base e s m:Nat}{xs:List Value}{wr:World}(hv:wr.ownsRow base e s v m xs){T:TypeId}(hb:Boxed w b T u):
  (execOp a.eval o).run prog w=.ok .skip (w.setCell ⟨b,0,none⟩ v):=by
 have h1:=hb.cell;have h2:=hb.frozen;rcases hv.2 with⟨rfl,_⟩|⟨g,cap,cur,rfl,_⟩
 ·simp[execOp,ho,hx,hy,h1,h2,go_sem]
 ·simp[execOp,ho,hx,hy,h1,h2,go_sem]
section
variable {n:Nat}{ro:Option Nat}{C:bGn}{t0:Array Value}{Q:Exit->Act->World->Prop}{l:Array Bool}{w:World}
theorem bGn.keep{γ:bO8}{i:Nat}(h:C.G γ l w)(h4:i≠4)(h5:i≠5)(h6:i≠6):C.G γ (l.setIfInBounds i true) w:=by
 obtain⟨k1,k2,k3⟩:=h;refine⟨fun h'=>k1 (fun g=>h' (fH g)),fun h' h''=>k2 (mQ h' (Ne.symm h4)) (fun g=>h'' (fH g)),fun h'=>?_⟩;obtain⟨a1,a2,a3⟩:=k3 (mQ h' (Ne.symm h5));exact⟨a1,fun h''=>a2 (fun g=>h'' (fH g)),fun h''=>a3 (mQ h'' (Ne.symm h6))⟩
theorem bGn.below{γ:bO8}(h:C.G γ l w)(h5:¬ lP l 5):Below C.W0.heap.size C.W0 w:=by
 by_cases h4:lP l 4
 ·obtain⟨b,rfl⟩:=h.2.1 h4 h5;exact aA b (aB _ _)
 ·exact h.1 h4
theorem bMk(M:bQs C t0){a:Act}(hdf:a.defers=[])(ht:a.tmps=t0)(hw:w.drewN 1=C.W0)
  (hQ:∀ γ,C.app γ->Q .normal { tmps:=iZ (C.val γ) bOy t0,defers:=[] } (γ.w5.setCell ⟨C.o,0,none⟩ γ.v')):(Code.region 12 bKs true).wpIn (bEe ro) n prog Q a w:=by
 obtain⟨i0,hi0,hz0,hz1,hz2⟩:=info_parts bGr;have hsz:bKs.size=7:=by kernel_rfl
 refine bD9 (ds:=bOy) (val:=C.val) (G:=C.G) (by kernel_rfl) (by kernel_rfl) (by decide) (fun p hp=>?_) (by kernel_rfl) ?_ (γ:=⟨.bool false,w,w⟩) hdf ht (by rw[hw];exact⟨fun _=>Br _ _,fun h=>absurd h (Gu _ _),fun h=>absurd h (Gu _ _)⟩) ?_
 ·rw[M.sz];have:∀p,p∈bOy->p.2<54:=by decide
  exact this p hp
 ·intro γ l a w i H hr;have hi:i<7:=by
   obtain⟨_,o,ho,_⟩:=mem_ready.1 hr;have:=(Ai.1 ho).1;rw[hsz] at this;exact this
  have t1:=H.low (s:=1) (by decide) M.t1;have t5:=H.low (s:=5) (by decide) M.t5;have t9:=H.low (s:=9) (by decide) M.t9;have hno:=bDz hr
  match i,hi,hr with
  |0,_,hr =>
   have h5:¬ lP l 5:=fun h=>hno (H.back13 5 0 (by kernel_rfl) h)
   have hB:=bGn.below H.g h5;have c0:=(M.ko.kept (gZ hB) (by simp)).cell;exact bCb (X:=.load 36 (.tmp 5)) (v:=C.v) γ (fun _ _=>rfl) (by kernel_rfl) (fun o h=>by simp[execOp,h,t5,c0,go_sem]) rfl (bGn.keep H.g (by decide) (by decide) (by decide))
  |1,_,hr =>
   have h4:¬ lP l 4:=fun h=>hno (H.back13 3 1 (by kernel_rfl) (H.back13 4 3 (by kernel_rfl) h))
   exact bCb (X:=.load 29 (.tmp 1)) (v:=.agg C.cs) γ (fun _ _=>rfl) (by kernel_rfl) (fun o h=>aW h (ev' t1) (gR (M.kf.below (H.g.1 h4))) underlying29 rfl M.fs) rfl (bGn.keep H.g (by decide) (by decide) (by decide))
  |2,_,hr=>exact bCb (X:=.move (.tmp 9)) (v:=.int .i64 C.i) γ (fun _ _=>rfl) (by kernel_rfl) (fun o h=>by simp[execOp,h,t9,go_sem]) rfl (bGn.keep H.g (by decide) (by decide) (by decide))
  |3,_,hr =>
   have h4:¬ lP l 4:=fun h=>hno (H.back13 4 3 (by kernel_rfl) h)
   have h5:¬ lP l 5:=fun h=>h4 (H.back13 5 4 (by kernel_rfl) h)
   have v1:a.tmps[47]?=some (.agg C.cs):=H.dep hr 1 47;have v2:a.tmps[48]?=some (.int .i64 C.i):=H.dep hr 2 48;refine bFr (f:=59) (lb:=#[]) (c:=.func 59) (args:=#[.tmp 47,.tmp 48]) (ts:=#[29,3]) (vs:=#[.agg C.cs,.int .i64 C.i]) (by kernel_rfl) rfl (aXb func59) (by simp[Act.eval,v1,v2]) ((M.hw w (H.g.1 h4)).mono ?_);rintro e w' ⟨rfl,hb'⟩;exact⟨_,γ,rfl,rfl,fun _ _=>rfl,fun _=>aA (H.g.1 h4) hb',fun h=>absurd (mQ h (by decide)) h4,fun h=>absurd (mQ h (by decide)) h5⟩
  |4,_,hr =>
   have v3:a.tmps[49]?=some (.string C.wd):=H.dep hr 3 49;have h5:¬ lP l 5:=fun h=>hno (H.back13 5 4 (by kernel_rfl) h)
   refine bCb (X:=.buildSlice 36 1 #[(0,.tmp 49)]) (v:=.slice (some ⟨w.heap.size,0,none⟩) 1 1) (w':=w.alloc C.tmp) ⟨γ.v',w,γ.w5⟩ (fun j hj=>?_) (by kernel_rfl) (fun o h=>by simp[execOp,h,v3,go_sem,bGn.tmp]) rfl ⟨fun h=>absurd (zE (by rw[H.sz,hsz];decide)) h,fun _ _=>⟨H.g.1 hno,rfl⟩,fun h=>absurd (mQ h (by decide)) h5⟩
   match j,hj with
   |4,hj=>exact absurd hj hno
   |0,_|1,_|2,_|3,_|5,_=>rfl
   |_+6,_=>rfl
  |5,_,hr =>
   have v0:a.tmps[46]?=some C.v:=H.dep hr 0 46;have v4:a.tmps[50]?=some (.slice (some ⟨γ.W3.heap.size,0,none⟩) 1 1):=H.dep hr 4 50;have o4:lP l 4:=aG hr (by kernel_rfl);have h6:¬ lP l 6:=fun h=>hno (H.back13 6 5 (by kernel_rfl) h)
   obtain⟨hB,hW⟩:=H.g.2.1 o4 hno;subst hW;have hown:=(M.own.kept (gZ hB) (Classical.em _)).alloc C.tmp;have hX:(bKs[5]?).map (fun o=>(o.op,o.guard))=some (.call { callee:=.builtin .append,args:=#[.tmp 46,.tmp 50],argTypes:=#[36,36] },none):=by kernel_rfl
   cases ho:bKs[5]? with
   |none=>rw[ho] at hX;cases hX
   |some o =>
    rw[ho] at hX;simp only[Option.map_some,Option.some.injEq,Prod.mk.injEq] at hX;obtain⟨v',w',hrun,h2,h3,_,h5⟩:=run_append_own_at (P:=prog) (γ.W3.alloc C.tmp) C.base 36 o.type 9 i0 (.string ⟨#[]⟩) 1 16 underlying36 hi0 hz0 hz1 hz2 rfl (by decide) C.v C.n C.xs hown ⟨γ.W3.heap.size,0,none⟩ 1 1 [.string C.wd] rfl (fun j u hj=>aUb γ.W3 #[.string C.wd] _ j u hj) (by simp[Value.oneCell']) (by have:=M.hn;unfold maxLen;omega) (by have:=M.hn;omega) (by rw[World.size_alloc];have:=M.hb;have:=hB.size;omega);refine Ce ho (by simp[Region.wanted,hX.2]) (bH3 (by rw[hX.1];intro c h;cases h) ?_);have e1:(execOp a.eval o).run prog (γ.W3.alloc C.tmp)=.ok (.value v') w':=by
     simp[execOp,hX.1,resolve,invoke,builtin,Act.eval,v0,v4,hrun,Result.andThen]
    rw[e1];refine⟨o,v',⟨v',γ.W3,w'⟩,ho,rfl,rfl,fun j hj=>?_,fun h=>absurd (fH o4) h,fun _ h=>absurd (zE (by rw[H.sz,hsz];decide)) h,fun _=>⟨⟨hB,h2,h3,h5⟩,fun _=>rfl,fun h=>absurd (mQ h (by decide)) h6⟩⟩
    match j,hj with
    |5,hj=>exact absurd hj hno
    |0,_|1,_|2,_|3,_|4,_=>rfl
    |_+6,_=>rfl
  |6,_,hr =>
   have v5:a.tmps[51]?=some γ.v':=H.dep hr 5 51;have o5:lP l 5:=aG hr (by kernel_rfl);obtain⟨ap,hW,_⟩:=H.g.2.2 o5;have hW:=hW hno;subst hW;have hbx:Boxed γ.w5 C.o 36 C.v:=by
    have h1:=M.ko.kept (gZ ap.be) (by simp);have h2:=M.own.kept (gZ ap.be) (Classical.em _);exact(h1.alloc C.tmp).kept ap.gr (h1.not_row (by decide) h2)
   exact bE9 (X:=.store 36 (.tmp 5) (.tmp 51)) (by kernel_rfl) (fun o h=>bIw h t5 v5 ap.own hbx) ⟨fun h=>absurd (fH (H.back13 5 4 (by kernel_rfl) o5)) h,fun _ h=>absurd (fH o5) h,fun _=>⟨ap,fun h=>absurd (zE (by rw[H.sz,hsz];decide)) h,fun _=>rfl⟩⟩
  |n+7,h,_=>exact absurd h (by omega)
 ·rintro γ l W hall ⟨k1,k2,k3⟩;have hn:∀j,j<7->lP l j:=fun j hj=>hall j (by rw[hsz];exact hj)
  obtain⟨ap,_,hW⟩:=k3 (hn 5 (by decide));obtain rfl:=hW (hn 6 (by decide));exact hQ γ ap
end
end
section
open Go Go.RowKit Go.Shelf Num
theorem bC0{W:World}{b:Nat}{cs:Array Value}{T e:TypeId}{base s n:Nat}{v:Value}{xs:List Value}(h:aP W b cs T)(hte:T≠e)(hr:W.ownsRow base e s v n xs):v.ownBlock≠some b:=by
 rcases hr.2 with⟨rfl,_⟩|⟨g,cap,cur,rfl,_,hg,_⟩
 ·simp[Value.ownBlock]
 ·intro e1;obtain rfl:g=b:=by simpa[Value.ownBlock] using e1
  rw[h.2] at hg;injection hg with hg
  injection hg with _ h2 _
  exact hte h2
theorem bJu{W:World}{b o:Nat}{cs:Array Value}{T t:TypeId}{v:Value}(h:aP W b cs T)(ho:Boxed W o t v)(hte:T≠t):b≠o:=by
 rintro rfl;have e:W.heap[b]?=_:=ho;rw[h.2] at e;injection e with e
 injection e with _ h2 _
 exact hte h2
theorem bGl{W w5 w0:World}{base o n m:Nat}{v v':Value}{xs ys:List Value}{tmp:Obj}(hv:Boxed W o 36 v)(hrow:W.ownsRow base 9 1 v n xs)(hB:Below base w0 W)(hb:base<=W.heap.size)(ho:base<=o)(hown:w5.ownsRow base 9 1 v' m ys)(hgr:(W.alloc tmp).grownBy w5 v.ownBlock):
  Boxed w5 o 36 v/\Boxed (w5.setCell ⟨o,0,none⟩ v') o 36 v'/\(w5.setCell ⟨o,0,none⟩ v').ownsRow base 9 1 v' m ys/\KeepsOthers W (w5.setCell ⟨o,0,none⟩ v')/\Below base w0 (w5.setCell ⟨o,0,none⟩ v')/\W.heap.size<=(w5.setCell ⟨o,0,none⟩ v').heap.size/\∀b cs T,T≠9->T≠36->aP W b cs T->aP (w5.setCell ⟨o,0,none⟩ v') b cs T:=by
 obtain⟨h1,h2,h3,h4,_⟩:=Dc (P:=fun _=>False) hv (by decide) hrow hb (fun _ h=>h.elim) hown hgr;have hs:(w5.setCell ⟨o,0,none⟩ v').heap.size=w5.heap.size:=by simp[World.setCell]
 have hg1:W.heap.size+1<=w5.heap.size:=by have:=hgr.size;rwa [World.size_alloc] at this
 refine⟨h1,h2,h3,h4,?_,by omega,fun b cs T ht1 ht2 hbx=>?_⟩
 ·refine((hB.trans ((aB W tmp).mono hb)).grown hgr (by rw[World.size_alloc];omega) (fun k hk=>(hrow.lt k hk).1)).setCell ho _
 ·have hne:=bC0 hbx ht1 hrow;have hbo:=bJu hbx hv ht2;have hb1:=hbx.below (aB W tmp);exact bI4 ⟨Nat.lt_of_lt_of_le hb1.1 hgr.size,(hgr.block b hb1.1 (fun e=>hne e.symm)).trans hb1.2⟩ hbo
theorem bFe(k:bH):bDs k.has 13=k.fields:=rfl
attribute [local go_sem] Oper.semAt_some
theorem bNz(f:aE)(hf:f.lean13)(pa oa:Option Addr)(pc oc:Nat)(w:World)(hE:iE w)(hB:f.Behind w pa oa)(he:bY f=0)(hlen:(enc f).length<=100000000)(HCK:∀W,Below w.heap.size w W->Calls prog 12 #[.agg (f.cells pa pc oa oc)] W fun e w'=>e=.returned (.int .i64 (bY f))/\Below W.heap.size W w'):
  Calls prog 21 #[.agg (f.cells pa pc oa oc)] w fun e w'=>e=.returned (.tuple #[.string ⟨(enc f).toArray⟩,.int .i64 0])/\Below w.heap.size w w':=by
 obtain⟨i0,hi,hz0,hz1,hz2⟩:=info_parts bGr;have HINF:=Hd (And.intro hi (And.intro hz0 (And.intro hz1 hz2)));have HC:=Hd HCK;rw[he] at HC;have HE:=Hd hE;have HI:=Hd (fun W hE=>Uj f.stamp hf.s0 hf.s1 W hE);have KF0:=Hd (aP.new0 w (f.cells pa pc oa oc) 29);have HFSZ:Hid ((prog.info? 29).map (·.size)=some (f.cells pa pc oa oc).size):=aY f pa oa pc oc;have HX:Hid ((f.cells pa pc oa oc)[0]?=some (.string ⟨f.key.toArray⟩)/\(f.cells pa pc oa oc)[1]?=some (.int .i64 f.stamp)/\(f.cells pa pc oa oc)[2]?=some (.bool f.cancelled)/\(f.cells pa pc oa oc)[3]?=some (.int .i64 f.day)/\(f.cells pa pc oa oc)[4]?=some (.int .i64 f.kind)):=⟨rfl,rfl,rfl,rfl,rfl⟩
 have HW:Hid (∀(i:Nat),i<13->∀W,Below w.heap.size w W->Calls prog 59 #[.agg (f.cells pa pc oa oc),.int .i64 (i:Int)] W fun e w'=>e=.returned (.string ⟨(bD8 f i).toArray⟩)/\Below W.heap.size W w'):=fun i hi W hW=>bOc f hf i hi pa oa pc oc W (hE.below hW) (hB.below hW)
 have HLEN:=Hd hlen;have HENC:Hid (enc f=bDo 32 (bEa f)):=rfl;rw[HENC.out] at HLEN ⊢;generalize hcs:f.cells pa pc oa oc=cs at *;clear hcs HCK hE hB hi hz0 hz1 hz2 hlen HENC;have HWS:Hid (bEa f=if f.cancelled=true then[f.key,Lib.itoa f.stamp,bFg] else match aX.find? (fun p=>p.1==f.kind) with
  |some p=>[f.key,Lib.itoa f.stamp,bDl f.day,p.2.word]++p.2.fields.map (bD8 f)
  |none=>[]):=rfl
 generalize bEa f=ews at *;generalize Lib.itoa f.stamp=it at *;refine(callsIn_wide (n:=6)).1 ?_;refine callsIn_of_wp_marks func21 rfl trivial ?_ rfl;simp only[ntmps21,List.size_toArray,List.length_cons,List.length_nil,Nat.reduceAdd,Nat.reduceSub,Array.replicate_succ,Array.replicate_zero,List.push_toArray,List.append_toArray,List.nil_append,List.cons_append];gi_wp2_with (refine eP (by rfl) 29 _ rfl w.heap.size rfl cs _ KF0.out underlying29 rfl HFSZ.out ?_);refine⟨trivial,(callsIn_wide.2 (HC.out _ (aB w _))).mono ?_⟩;rintro e w1 ⟨rfl,hb1⟩;have HB1:=Hd (aA (aB w (.cells cs 29)) hb1);have K1:=Hd (KF0.out.below hb1);clear hb1 HC;gi_wp2_with fail;refine bN1 (ro:=none) (C:=⟨w1.drewN 1,w.heap.size,cs,⟨f.key.toArray⟩,f.stamp,⟨it.toArray⟩⟩) ⟨rfl,rfl,K1.out,HX.out.1,HX.out.2.1,fun W hW=>HI.out W (HE.out.below (aA HB1.out ((aD (Br _ w1) 1).trans hW)))⟩ rfl rfl rfl ?_;intro g1 g2 W l1 l2 hne KL KR hbW;have HBW:Hid (Below w1.heap.size w1 W):=(aD (Br w1.heap.size w1) 1).trans hbW;have HG:Hid (w1.heap.size<=g1/\w1.heap.size<=g2/\g1≠g2):=⟨l1,l2,hne⟩
 have HKL:=Hd KL;have HKR:=Hd KR;have KF:=K1.out.below HBW.out;have c2:=(KF.cell 2).trans HX.out.2.2.1;have c3:=(KF.cell 3).trans HX.out.2.2.2.1;have l0:=KL.cell 0;have HKF:=Hd KF;have HB2:=Hd (aA HB1.out HBW.out);have HO2:Hid (W.ownsRow w.heap.size 9 1 (.slice (some ⟨g2,0,none⟩) 2 2) 2 (bDf [f.key,it])):=by
  refine⟨rfl,.inr ⟨g2,2,#[.string ⟨f.key.toArray⟩,.string ⟨it.toArray⟩],rfl,?_,KR.2,Nl _,by unfold maxLen;omega,rfl,rfl⟩⟩;have:=HB1.out.size;have:=HG.out.2.1;clear l1 l2 hne;omega
 clear l1 l2 hne KL KR hbW KF K1 HI;simp only[iZ,bPo,List.foldl,List.setIfInBounds_toArray,List.set_cons_zero,List.set_cons_succ,E4C.val];cases hcn:f.cancelled with
 |true =>
  have HEW:Hid (ews=[f.key,it,bFg]):=by show _=_;rw[HWS.out,if_pos hcn]
  rw[hcn] at c2;clear HWS hcn HW c3;gi_wp2_with (gi_at_builtin;refine wpListIn_append_own_at _ rfl _ _ 36 rfl w.heap.size 9 i0 (.string ⟨#[]⟩) 1 16 underlying36 HINF.out.1 HINF.out.2.1 HINF.out.2.2.1 HINF.out.2.2.2 rfl (by decide) _ _ _ rfl (HO2.out.alloc _) ⟨W.heap.size,0,none⟩ 1 1 [.string ⟨#[118,111,105,100]⟩] rfl rfl (fun j u hj=>aUb W #[.string ⟨#[118,111,105,100]⟩] _ j u hj) (by simp[Value.oneCell']) (by unfold maxLen;omega) (by omega) (by rw[World.size_alloc];have:=HB2.out.size;omega) ?_;intro v' w5 hown' hgrow _ hob;have HOW:=Hd hown';have HGR:=Hd hgrow;clear hown' hgrow hob);have how:=HOW.out;have hgr:=HGR.out;rw[show bDf [f.key,it] ++ [Value.string ⟨#[118,111,105,100]⟩]=bDf [f.key,it,bFg] from rfl] at how;obtain⟨a,cap,rfl,hcap,hcell⟩:=bF9 how;have hb5:Below w.heap.size w w5:=(aA HB2.out (aB W (.cells #[.string ⟨#[118,111,105,100]⟩] 9))).grown hgr (by rw[World.size_alloc];have:=HB2.out.size;omega) (fun k hk=>by
   have:some g2=some k:=hk;injection this with this
   have:=HB1.out.size;have:=HG.out.2.1;omega)
  have hj:=HLEN.out;rw[HEW.out] at hj;have HJ:=Hd (bF5 [f.key,it,bFg] a cap 32 w5 hcap hj hcell);have HB5:=Hd hb5;clear how hgr hcell hb5 hj HOW HGR;refine⟨trivial,(callsIn_wide.2 HJ.out).mono ?_⟩;rintro e w6 ⟨rfl,hb6⟩;have HB6:=Hd (aA HB5.out hb6);clear hb6;gi_wp2;refine⟨_,results_tmp2 rfl _ _ _,?_⟩;exact⟨by rw[HEW.out];rfl,HB6.out⟩
 |false =>
  obtain⟨q,hq⟩:∃q,aX.find? (fun p=>p.1==f.kind)=some q:=by
   obtain⟨_,_,_,_,q,_,_,h,_⟩:=bFx he hcn;exact⟨q,h⟩
  have hdd:=(bFx he hcn).2.2;have hd0:=hdd.1;have hd1:=hdd.2.1;have HEW:Hid (ews=[f.key,it,bDl f.day,q.2.word]++q.2.fields.map (bD8 f)):=by show _=_;rw[HWS.out,if_neg (by rw[hcn];decide),hq]
  have HP:=Hd (fun W hW=>bJt f.day hd0 hd1 W hW);rw[hcn] at c2;clear HWS hcn hdd hd0 hd1 he;gi_wp2_with fail;refine bN0 (ro:=none) (C:=⟨W.drewN 1,w.heap.size,cs,f.kind,q⟩) ⟨rfl,rfl,HKF.out,HX.out.2.2.2.2,hq⟩ rfl rfl rfl ?_;intro bm mv bk W2 lk KK hbW;have HBW2:Hid (Below W.heap.size W W2):=(aD (Br W.heap.size W) 1).trans hbW;have HKK:Hid (aP W2 bk (aK q.2.word q.2.cls q.2.has (.map mv) q.2.code) 62):=KK;have HSK:Hid ((prog.info? 62).map (·.size)=some (aK q.2.word q.2.cls q.2.has (.map mv) q.2.code).size):=by show _=_;rw[Cr];exact oJ
  have HKF2:=Hd (HKF.out.below HBW2.out);have HKL2:=Hd (HKL.out.below HBW2.out);have HB3:=Hd (aA HB2.out HBW2.out);have HO3:=Hd (bDu HO2.out HBW2.out);have c3:=(HKF2.out.cell 3).trans HX.out.2.2.2.1;have l0:=HKL2.out.cell 0;have k0:W2.cell? ⟨bk,0,none⟩=some (.string ⟨q.2.word.toArray⟩):=by rw[KK.cell 0];simp[E7C.kc,aK]
  clear lk KK hbW HKF HKL HO2 HKR;simp only[iZ,bPn,List.foldl,List.setIfInBounds_toArray,List.set_cons_zero,List.set_cons_succ,E7C.val,E7C.kc];gi_wp2_with fail;refine⟨trivial,(callsIn_wide.2 (HP.out _ (HE.out.below HB3.out))).mono ?_⟩;rintro e w4 ⟨rfl,hb4⟩;have HB4:=Hd (aA HB3.out hb4);have HKF4:=Hd (HKF2.out.below hb4);have HKL4:=Hd (HKL2.out.below hb4);have HKK4:=Hd (HKK.out.below hb4);have HO4:=Hd (bDu HO3.out hb4);have HS4:Hid (w.heap.size<w4.heap.size/\g1<w4.heap.size/\bk<w4.heap.size):=⟨(HKF2.out.below hb4).1,(HKL2.out.below hb4).1,(HKK.out.below hb4).1⟩
  have k0:=(hb4.cell (p:=⟨bk,0,none⟩) HKK.out.1).trans k0;have l0:=HKL4.out.cell 0;have lf0:=aR HKL4.out.2 0;clear hb4 c3 HKF2 HKL2 HKK HO3 HBW2;have HBX4:Hid (Boxed w4 g1 36 (.slice (some ⟨g2,0,none⟩) 2 2)):=aP.boxed HKL4.out;gi_wp2_with (first|(refine eP (by rfl) 62 _ rfl bk rfl _ _ (N7.out bk _ _ (by decide) (by decide) HKK4.out) underlying62 rfl HSK.out ?_)|(gi_at_builtin;refine wpListIn_append_own_at _ rfl _ _ 36 rfl w.heap.size 9 i0 (.string ⟨#[]⟩) 1 16 underlying36 HINF.out.1 HINF.out.2.1 HINF.out.2.2.1 HINF.out.2.2.2 rfl (by decide) _ _ _ rfl (HO4.out.alloc _) ⟨w4.heap.size,0,none⟩ 2 2 [.string ⟨(bDl f.day).toArray⟩,.string ⟨q.2.word.toArray⟩] rfl rfl (fun j u hj=>aUb w4 #[.string ⟨(bDl f.day).toArray⟩,.string ⟨q.2.word.toArray⟩] _ j u hj) (by simp[Value.oneCell']) (by unfold maxLen;omega) (by omega) (by rw[World.size_alloc];have:=HB4.out.size;omega) ?_;intro v' w5 hown' hgrow _ hob;obtain⟨g',cap',rfl⟩:=ownsRow_succ hown';obtain⟨n1,n2,n3,n4,n5,n6,n7⟩:=bGl (o:=g1) HBX4.out HO4.out HB4.out (by have:=HB4.out.size;omega) (by have:=HG.out.1;have:=HB1.out.size;omega) hown' hgrow;have hc1:=n1.cell;have hf1:=n1.frozen;have N2:=Hd n2;have N3:=Hd n3;have N5:=Hd n5;have N6:=Hd n6;have N7:=Hd n7;have HOB:Hid ((Value.slice (some ⟨g',0,none⟩) 4 cap').ownBlock=some g2∨(Value.slice (some ⟨g',0,none⟩) 4 cap').ownBlock=some (w4.alloc (.cells #[.string ⟨(bDl f.day).toArray⟩,.string ⟨q.2.word.toArray⟩] 9)).heap.size):=hob;clear hown' hgrow hob n1 n2 n3 n4 n5 n6 n7));refine⟨trivial,(callsIn_wide.2 (bG4 _ _)).mono ?_⟩;rintro e w7 ⟨rfl,rfl⟩;obtain⟨w7,hw7⟩:∃w7,w7=(w5.setCell ⟨g1,0,none⟩ (.slice (some ⟨g',0,none⟩) 4 cap')).alloc (.cells (aK q.2.word q.2.cls q.2.has (.map mv) q.2.code) 62):=⟨_,rfl⟩
  obtain⟨vv,hvv⟩:∃vv,vv=Value.slice (some ⟨g',0,none⟩) 4 cap':=⟨_,rfl⟩
  have hs5:(w5.setCell ⟨g1,0,none⟩ (.slice (some ⟨g',0,none⟩) 4 cap')).heap.size=w5.heap.size:=by simp[World.setCell]
  have hb7:Below (w5.setCell ⟨g1,0,none⟩ (.slice (some ⟨g',0,none⟩) 4 cap')).heap.size (w5.setCell ⟨g1,0,none⟩ (.slice (some ⟨g',0,none⟩) 4 cap')) w7:=by rw[hw7];exact aB _ _
  have HS7:Hid (w7.heap.size=w5.heap.size+1):=by show _=_;rw[hw7,World.size_alloc,hs5]
  have HB7:Hid (Below w.heap.size w w7):=N5.out.trans (hb7.mono (by have h6:w4.heap.size<=_:=N6.out;have:=HB4.out.size;rw[show (w5.setCell ⟨g1,0,none⟩ (.slice (some ⟨g',0,none⟩) 4 cap')).heap.size=(w5.setCell ⟨g1,0,none⟩ (.slice (some ⟨g',0,none⟩) (2+1+1) cap')).heap.size from rfl];omega));have HV7:Hid (Boxed w7 g1 36 vv):=by show Boxed _ _ _ _;rw[hvv];exact N2.out.kept (gZ hb7) (by simp)
  have HO7:Hid (w7.ownsRow w.heap.size 9 1 vv (4+([]:List Nat).length) (bDf ([f.key,it,bDl f.day,q.2.word]++([]:List Nat).map (bD8 f)))):=by show World.ownsRow _ _ _ _ _ _ _;rw[hvv];exact bDu N3.out hb7
  have HKF7:Hid (aP w7 w.heap.size cs 29):=(N7.out _ _ _ (by decide) (by decide) HKF4.out).below hb7;have HKB7:Hid (aP w7 w5.heap.size (aK q.2.word q.2.cls q.2.has (.map mv) q.2.code) 62):=by
   have h:=aP.new0 (w5.setCell ⟨g1,0,none⟩ (.slice (some ⟨g',0,none⟩) 4 cap')) (aK q.2.word q.2.cls q.2.has (.map mv) q.2.code) 62;rw[hs5,<-hw7] at h;exact h
  have HNE:Hid (vv.ownBlock≠some (w7.heap.size+2)):=fun e=>by have:=(HO7.out.lt _ e).2;omega
  have HG7:Hid (w.heap.size<=g1):=by have:=HG.out.1;have:=HB1.out.size;show _<=_;omega
  have HQ:Hid (q∈aX):=List.mem_of_find?_eq_some hq;have HX13:Hid (q.2.has.length=13):=nI _;have HFN:Hid (q.2.fields.length<=13):=by
   show _<=_;unfold bH.fields;exact Nat.le_trans (List.length_filter_le _ _) (by simp)
  rw[<-hw7,<-hvv];clear hw7 hs5 hb7 hvv N2 N3 N5 N6 N7 HOB HKF4 HKL4 HKK4 HO4 HBX4 hc1 hf1 hq HS4 HB4 HB3 HB2 HB1 HG HBW HSK k0 l0 lf0 c2 HP KF0;gi_wp2_with fail;refine aUe (n:=6) (gf:=118) (lb:=#[.pointer (some ⟨w5.heap.size,0,none⟩)]) rfl (aXb func118) (encs:=bKr) (Kp:=fun _ _=>True) (S:=fun ys=>ys=bDs q.2.has 13) (N:=14) (fun _ _=>trivial) (fun _ _ _ _ _ _ _=>trivial) (fun _=>rfl) (G:=fun i=>i<13/\q.2.has.getD i false=true) (fun W1 hb1 _=>bI0 5 q.2.word q.2.cls q.2.has HX13.out (.map mv) q.2.code w5.heap.size (fun _ _=>True) W1 (HKB7.out.below hb1))
   (fun pre W=>(∃v,Boxed W g1 36 v/\W.ownsRow w.heap.size 9 1 v (4+pre.length) (bDf ([f.key,it,bDl f.day,q.2.word]++pre.map (bD8 f)))/\v.ownBlock≠some (w7.heap.size+2))/\(Below w.heap.size w W/\w7.heap.size<=W.heap.size)/\aP W w.heap.size cs 29)
   (OwnFrom.and (Own.from (holdsRow_own w.heap.size g1 36 9 1 (fun pre:List Nat=>4+pre.length) (fun pre=>bDf ([f.key,it,bDl f.day,q.2.word]++pre.map (bD8 f))) (fun _ v=>v.ownBlock≠some (w7.heap.size+2))) _) (OwnFrom.and (OwnFrom.and (ownFrom_below (Nl _) HB7.out.size) (fun _ A B row hs hg _=>Nat.le_trans hs hg.size)) (Own.from (nP w.heap.size 29 (fun (_:List Nat)=>cs)) _)))
   (fun pre A B h hm=>by
    obtain⟨⟨v,hvb,hvr,hne⟩,⟨hB,hsz⟩,hk⟩:=h;have h1:=HV7.out.lt;have h2:=HKF7.out.1;have h3:=HB7.out.size;refine⟨⟨v,?_,?_,hne⟩,⟨aRz hB (by omega) hm (by omega),Nat.le_trans hsz (aSa hm)⟩,aQf hk hm (by omega)⟩
    ·rcases hm with hm|hm
     ·exact hvb.kept hm (by simp)
     ·exact hvb.kept hm (fun e=>by injection e with e;omega)
    ·rcases hm with hm|hm
     ·exact hvr.kept hm (Classical.em _)
     ·exact hvr.kept hm (.inr fun e=>hne e))
   ⟨⟨vv,HV7.out,HO7.out,HNE.out⟩,⟨HB7.out,Nl _⟩,HKF7.out⟩
   (fun x a' W=>∃t,a' = { tmps:=t,defers:=[] }/\t.size=54/\t[1]?=some (.pointer (some ⟨w.heap.size,0,none⟩))/\t[5]?=some (.pointer (some ⟨g1,0,none⟩))/\t[9]?=some (.int .i64 (x:Int)))
   (fun x a' _ A B row hs hg hr=>hs)
   ?assign ?body ?done
  case assign =>
   rintro l pre x W K hI hs2 hK;have HKK2:=Hd hK;have HI2:=Hd hI;unfold bKr;clear hK hI;gi_wp2;exact HKK2.out _ _ ((zN (Br _ _)).from _) trivial HI2.out ⟨_,rfl,rfl,rfl,rfl,rfl⟩
  case body =>
   rintro l pre x a' W ⟨⟨v,hvb,hvr,hne⟩,⟨hB,hsz⟩,hk⟩ hs2 ⟨t,rfl,ht,ht1,ht5,ht9⟩ hlt ⟨hx,_⟩;have HI2:Hid (Boxed W g1 36 v/\W.ownsRow w.heap.size 9 1 v (4+pre.length) (bDf ([f.key,it,bDl f.day,q.2.word]++pre.map (bD8 f)))/\v.ownBlock≠some (w7.heap.size+2)):=⟨hvb,hvr,hne⟩
   have HBS:Hid (Below w.heap.size w W/\w7.heap.size<=W.heap.size/\w7.heap.size+2<=W.heap.size):=⟨hB,hsz,hs2⟩
   have HBK:=Hd hk;have HWX:=Hd (HW.out x hx);have HNX:Hid (bDf ([f.key,it,bDl f.day,q.2.word]++(pre ++ [x]).map (bD8 f))=bDf ([f.key,it,bDl f.day,q.2.word]++pre.map (bD8 f)) ++ [.string ⟨(bD8 f x).toArray⟩]):=by show _=_;simp[bDf]
   clear hvb hvr hne hB hsz hk hs2;gi_wp2_with fail;refine bMk (ro:=some l) (C:=⟨W.drewN 1,g1,v,4+pre.length,bDf ([f.key,it,bDl f.day,q.2.word]++pre.map (bD8 f)),w.heap.size,w.heap.size,cs,(x:Int),⟨(bD8 f x).toArray⟩⟩) ⟨ht,ht1,ht5,ht9,HBK.out,HFSZ.out,HI2.out.1,HI2.out.2.1,HBS.out.1.size,by show 4+pre.length<=1000;omega,fun W' hW'=>HWX.out W' (HBS.out.1.trans (((aD (Br W.heap.size W) 1).trans hW').mono HBS.out.1.size))⟩ rfl rfl rfl ?_;intro γ ap;have hb3:Below W.heap.size W γ.W3:=(aD (Br W.heap.size W) 1).trans ap.be;have hr3:=bDu HI2.out.2.1 hb3;have hb0:Below w.heap.size w γ.W3:=HBS.out.1.trans (hb3.mono HBS.out.1.size);obtain⟨_,n2,n3,n4,n5,n6,n7⟩:=bGl (o:=g1) (HI2.out.1.kept (gZ hb3) (by simp)) hr3 hb0 hb0.size HG7.out ap.own ap.gr;refine⟨rfl,((zN hb3).trans n4).from _,trivial,⟨γ.v',n2,?_,?_⟩,⟨n5,?_⟩,n7 _ _ _ (by decide) (by decide) (HBK.out.below hb3)⟩
   ·rw[HNX.out,List.length_append];exact n3
   ·intro e;rcases ap.ob with h|h
    ·exact HI2.out.2.2 (h.symm.trans e)
    ·rw[h] at e;injection e with e
     rw[World.size_alloc] at e;have:=HBS.out.2.2;have:=hb3.size;omega
   ·exact Nat.le_trans HBS.out.2.1 (Nat.le_trans hb3.size n6)
  case done =>
   rintro D ys W hD rfl ⟨⟨v,hvb,hvr,_⟩,⟨hB,hsz⟩,hk⟩ hKD;have hls:[f.key,it,bDl f.day,q.2.word]++(bDs q.2.has 13).map (bD8 f)=ews:=by rw[HEW.out,bFe]
   rw[hls] at hvr;have c0:=hvb.cell;obtain⟨a,cap,rfl,hcap,hcell⟩:=bF9 hvr;have HJ:=Hd (bF5 ews a cap 32 W hcap HLEN.out hcell);have HBB:=Hd hB;have HK:=Hd hKD;have HHD:=Hd hD;clear hvb hvr hls hB hsz hk hKD hD hcell hcap;gi_wp2_with fail;refine⟨trivial,(callsIn_wide.2 HJ.out).mono ?_⟩;rintro e W6 ⟨rfl,hb6⟩;have hD6:=(hb6.block D (Ai.1 HK.out).1).trans HK.out;have HK6:=Hd hD6;have HB6:=Hd (HBB.out.trans (hb6.mono HBB.out.size));clear hb6 hD6;gi_wp2;refine⟨by simp,.inl ⟨_,_,rfl,run_takeDeferred HK6.out,?_⟩⟩;refine⟨_,results_tmp2 rfl _ _ _,rfl,HB6.out.trans (belowK_b (w:=w) (Nl _) W6 D _ _ (by have:=HB7.out.size;have:=HHD.out;omega) HK6.out rfl rfl)⟩
end
end Go.Proofs.YthjekgfoidmagaaGreatDoor
