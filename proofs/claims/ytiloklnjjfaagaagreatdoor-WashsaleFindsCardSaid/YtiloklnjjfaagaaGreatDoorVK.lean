/- WApp0 WAppR -/
import Derived.Test.YtiloklnjjfaagaaGreatDoorVJ
set_option maxHeartbeats 16000000
set_option maxRecDepth 100000
namespace Go.Proofs.YtiloklnjjfaagaaGreatDoor
open Go.Proofs.Tryz
section
open Go Go.RowKit Go.Shelf Num
def a1W(a:Act)(ps:Array Tmp)(vs:Array Value)(asg:List (Nat×Nat)):Act:={ tmps:=asg.foldl (fun t (x:Nat×Nat)=>t.setIfInBounds x.1 (vs.getD x.2 undef)) ((ps.zip vs).foldl (fun t (p,v)=>t.setIfInBounds p v) a.tmps),defers:=[] }
theorem dGr{P:Program}{n:Nat}{β:Type}{g:Operand}{ps:Array Tmp}{assign body:Code}{Q:Exit->Act->World->Prop}{a:Act}{w:World}
  {gf:Nat}{lb:Array Value}(hg:a.eval g=.func (.func gf) #[] lb) (eg:∀args w,(callFunc gf args).run P w=.ok (.enter gf args) w)
  (encs:β->Array Value) (hps:∀s,(encs s).size=ps.size) (I I' Ix:β->World->Prop) (hI:OwnFrom w.heap.size I) (hI':OwnFrom w.heap.size I') (hIx:OwnFrom w.heap.size Ix) (s0:β) (h0:I' s0 w) (Fin:β->Prop) (asg:List (Nat×Nat))
  (hassign:∀(l:Nat) (s:β) (W:World) (K:Act->World->Prop),K (a1W a ps (encs s) asg) W->assign.wpIn (Fence.wide.inRound l) (n-1-1) P (Exit.then K (fun _ _ _=>False)) { tmps:=(ps.zip (encs s)).foldl (fun t (p,v)=>t.setIfInBounds p v) a.tmps,defers:=[] } W)
  (hbody:∀(l:Nat) (s:β) (W:World),I s W->body.wpIn (Fence.wide.inRound l) (n-1-1) P (fun e _ W'=>KeepsOthers W W'/\((e=.normal/\I' s W')∨(e=.ret/\Ix s W'))) (a1W a ps (encs s) asg) W)
  (hiter:∀(l:Nat) (R Rx:World->Prop) (W1:World),(∀A B,R A->KeepsOthers A B->R B)->(∀A B,Rx A->KeepsOthers A B->Rx B) ->
   (∀s W,I s W->R W->YieldAt Fence.wide (n-1-1) P l (encs s) W fun e W'=>(e=.returned (.bool true)/\I' s W'/\R W')∨(e=.returned (.bool false)/\Ix s W'/\Rx W')) ->
   I' s0 W1->R W1->CallsIn Fence.wide (n-1) P gf (#[.func (.yield l) #[] #[]]++lb) W1 fun e W'=>(∃v,e=.returned v)/\((∃s,Fin s/\I' s W'/\R W')∨(∃s,Ix s W'/\Rx W')))
  (hdone:∀(D:Nat) (s:β) (W:World),w.heap.size<=D->Fin s->I' s W->W.heap[D]?=some (.deferred (some []))->Q .normal { a with defers:={ target:=.collected D,args:=#[] }::a.defers } W)
  (hstop:∀(D:Nat) (s:β) (W:World),w.heap.size<=D->Ix s W->W.heap[D]?=some (.deferred (some []))->Code.ret.wpIn Fence.wide n P Q { a with defers:={ target:=.collected D,args:=#[] }::a.defers } W) :
  (Code.rangeFunc g ps assign body).wpIn Fence.wide n P Q a w :=
 dCi hg eg encs hps I I' Ix hI hI' hIx s0 h0 Fin (fun s=>a1W a ps (encs s) asg) hassign hbody hiter hdone hstop
theorem dDp{W W':World}{row:Option Nat}(hg:W.grownBy W' row)(hr:∀r,row=some r->∃o:Obj,W.heap[r]?=some o/\o.isCells=false)(T:TypeId):dCk T W W':=fun b cs hb =>
 (hg.block b (Ai.1 hb).1 fun e=>by
  obtain⟨o,ho,hc⟩:=hr b e.symm;rw[hb] at ho;cases ho;cases hc).trans hb
theorem dC1.kept{W W':World}{B0 sb:Nat}{lv gv tv:Value}{s:bWs}(h:dC1 W B0 sb lv gv tv s)(k:∀T,dCk T W W'):dC1 W' B0 sb lv gv tv s :=
 ⟨(k _).box h.box,h.le,(k _).owns h.lots,(k _).owns h.gains,(k _).owns h.steps⟩
structure ApC where
 w0:World
 sb:Nat
 b8:Nat
 b12:Nat
 b13:Nat
 b15:Nat
 bs:Nat
 bn:Nat
 bd:Nat
 bw:Nat
 cause:List UInt8
 ins:List UInt8
 d:Int
 wash:Int
 N:Nat
 s0:bWs
def dDz:Array Value:=#[.slice none 0 0,.slice none 0 0,.slice none 0 0,.slice none 0 0]
structure ApC.Mem(C:ApC)(W:World):Prop where
 below:Below C.w0.heap.size C.w0 W
 k8:aP W C.b8 #[.string ⟨C.cause.toArray⟩] 9
 k12:aP W C.b12 dDz 30
 k13:aP W C.b13 #[.int .i64 0] 31
 k15:aP W C.b15 #[.pointer (some ⟨C.sb,0,none⟩)] 76
 ks:aP W C.bs #[.pointer (some ⟨C.sb,0,none⟩)] 76
 kn:aP W C.bn #[.string ⟨C.ins.toArray⟩] 9
 kd:aP W C.bd #[.int .i64 C.d] 24
 kw:aP W C.bw #[.int .i64 C.wash] 3
theorem ApC.Mem.step{C:ApC}{W W':World}(h:C.Mem W)(k:KpW C.w0.heap.size W W'):C.Mem W' :=
 ⟨h.below.trans k.below,(k.types _ (by decide) (by decide) (by decide) (by decide)).box h.k8,(k.types _ (by decide) (by decide) (by decide) (by decide)).box h.k12,(k.types _ (by decide) (by decide) (by decide) (by decide)).box h.k13,(k.types _ (by decide) (by decide) (by decide) (by decide)).box h.k15,
  (k.types _ (by decide) (by decide) (by decide) (by decide)).box h.ks,(k.types _ (by decide) (by decide) (by decide) (by decide)).box h.kn,(k.types _ (by decide) (by decide) (by decide) (by decide)).box h.kd,(k.types _ (by decide) (by decide) (by decide) (by decide)).box h.kw⟩
theorem ApC.Mem.of_kept{C:ApC}{W W':World}(h:C.Mem W)(b:Below C.w0.heap.size C.w0 W')(k:∀T,dCk T W W'):C.Mem W' :=
 ⟨b,(k _).box h.k8,(k _).box h.k12,(k _).box h.k13,(k _).box h.k15,(k _).box h.ks,(k _).box h.kn,(k _).box h.kd,(k _).box h.kw⟩
structure ApC.At(C:ApC)(s:bWs)(i:Nat)(W:World):Prop where
 mem:C.Mem W
 st:StW W C.w0.heap.size C.sb s
 fits:dD8 s
 len:s.gains.length=C.N
 reach:∀r,bZm C.ins C.d C.wash C.cause s i r->bZm C.ins C.d C.wash C.cause C.s0 0 r
theorem ApC.At.of_kept{C:ApC}{s:bWs}{i:Nat}{W W':World}(h:C.At s i W)(b:Below C.w0.heap.size C.w0 W')(k:∀T,dCk T W W'):C.At s i W':=by
 obtain⟨lv,gv,tv,hst⟩:=h.st;exact⟨h.mem.of_kept b k,⟨lv,gv,tv,hst.kept k⟩,h.fits,h.len,h.reach⟩
theorem ApC.At.below{C:ApC}{s:bWs}{i:Nat}{W W':World}(h:C.At s i W)(b:Below W.heap.size W W'):C.At s i W' :=
 h.of_kept (h.mem.below.trans (b.mono h.mem.below.size)) fun T=>dCk.of_below T b
theorem ApC.At.own{C:ApC}{s:bWs}{i B:Nat}{W W':World}{row:Option Nat}(hB:C.w0.heap.size<=B)(h:C.At s i W)(hg:W.grownBy W' row)(hr:∀r,row=some r->B<=r/\∃o:Obj,W.heap[r]?=some o/\o.isCells=false):C.At s i W' :=
 h.of_kept (ownFrom_below (β:=Unit) (Nl _) hB () W W' row h.mem.below hg hr) (dDp hg fun r e=>(hr r e).2)
structure WIt where
 s:bWs
 t:Option bWs
 i:Nat
 k:Nat
 x:aLe
 y:Bd
 bi:Nat
 fst:Bool
def WIt.enc(b:WIt):Array Value:=#[.int .i64 (b.i:Int),.int .i64 (b.k:Int)]
structure ApC.I(C:ApC)(b:WIt)(W:World):Prop where
 at_:C.At b.s b.i W
 next:bY0 C.ins C.d C.wash b.s b.i=some (b.k,b.x,b.y)
 made:b.t=bXx b.s b.i b.k b.x b.y C.cause
 box:aP W b.bi #[.int .i64 (b.i:Int)] 3
 fst:b.fst=false
structure ApC.I'(C:ApC)(b:WIt)(W:World):Prop where
 at_:∃s',b.t=some s'/\C.At s' b.i W
 box:b.fst=false->aP W b.bi #[.int .i64 (b.i:Int)] 3
structure ApC.Ix(C:ApC)(_:WIt)(W:World):Prop where
 below:Below C.w0.heap.size C.w0 W
 k12:aP W C.b12 dDz 30
 k13:aP W C.b13 #[.int .i64 4] 31
 ends:bZm C.ins C.d C.wash C.cause C.s0 0 none
theorem ApC.ownI(C:ApC)(B:Nat)(hB:C.w0.heap.size<=B):OwnFrom B C.I:=fun _ _ _ _ h hg hr=>⟨h.at_.own hB hg hr,h.next,h.made,(dDp hg (fun r e=>(hr r e).2) _).box h.box,h.fst⟩
theorem ApC.ownI'(C:ApC)(B:Nat)(hB:C.w0.heap.size<=B):OwnFrom B C.I':=fun _ _ _ _ h hg hr=>by
 obtain⟨⟨s',e,h1⟩,h2⟩:=h;exact⟨⟨s',e,h1.own hB hg hr⟩,fun e=>(dDp hg (fun r e=>(hr r e).2) _).box (h2 e)⟩
theorem ApC.ownIx(C:ApC)(B:Nat)(hB:C.w0.heap.size<=B):OwnFrom B C.Ix:=fun _ W W' row h hg hr =>
 ⟨ownFrom_below (β:=Unit) (Nl _) hB () W W' row h.below hg hr,(dDp hg (fun r e=>(hr r e).2) _).box h.k12,(dDp hg (fun r e=>(hr r e).2) _).box h.k13,h.ends⟩
def dJc(W:World)(B0:Nat)(d:Int)(cause ins:List UInt8)(t:bWs)(v:Value):Prop :=
 ∃lv gv tv ev,v=.agg #[lv,gv,tv,ev]/\W.ownsRow B0 49 7 lv t.lots.length (dAf Bd.cs t.lots)/\W.ownsRow B0 42 10 gv t.gains.length (dAf aLe.cs t.gains)/\W.ownsRow B0 45 6 tv t.steps.length (dAf bZ9.cs t.steps) /\
  ((t.sum=0/\ev=.slice none 0 0)∨(t.sum≠0/\∃be bt,ev=.slice (some ⟨be,0,none⟩) 1 1/\B0<=be/\B0<=bt/\aP W bt #[.string ⟨#[97,109,111,117,110,116]⟩,.string ⟨(aJ t.sum).toArray⟩] 65 /\
   aP W be #[.int .i64 5,.int .i64 d,.string ⟨cause.toArray⟩,.string ⟨ins.toArray⟩,.string ⟨#[]⟩,.string ⟨#[]⟩,.slice (some ⟨bt,0,none⟩) 1 1] 62))
def ApR(W:World)(B0:Nat)(d:Int)(cause ins:List UInt8)(r:Option bWs)(e:Ending):Prop:=match r with
 |none=>e=.returned (.tuple #[.agg dDz,.int .i64 4])
 |some t=>∃v,e=.returned (.tuple #[v,.int .i64 0])/\dJc W B0 d cause ins t v
theorem ApC.At.cap{C:ApC}{s:bWs}{i:Nat}{W:World}(h:C.At s i W)(hE:iE C.w0):dG7 W C.bs C.bn C.bd C.bw C.sb C.w0.heap.size C.ins C.d C.wash s:=⟨hE.below h.mem.below,h.mem.ks,h.mem.kn,h.mem.kd,h.mem.kw,h.st⟩
theorem ApC.iter(C:ApC)(hE:iE C.w0)(hw:-1000<=C.wash/\C.wash<=1000)(n l:Nat)(R Rx:World->Prop)(W1:World)(hR:∀A B,R A->KeepsOthers A B->R B)
  (hY:∀b W,C.I b W->R W->YieldAt Fence.wide (n-1) prog l b.enc W fun e W'=>(e=.returned (.bool true)/\C.I' b W'/\R W')∨(e=.returned (.bool false)/\C.Ix b W'/\Rx W'))
  (b0:WIt) (hb0:b0.i=0) (h0:C.I' b0 W1) (hR0:R W1) :
  CallsIn Fence.wide n prog 84 #[.func (.yield l) #[] #[],.pointer (some ⟨C.bs,0,none⟩),.pointer (some ⟨C.bn,0,none⟩),.pointer (some ⟨C.bd,0,none⟩),.pointer (some ⟨C.bw,0,none⟩)] W1 fun e W'=>(∃v,e=.returned v)/\((∃b:WIt,b.i=C.N/\C.I' b W'/\R W')∨(∃b,C.Ix b W'/\Rx W')):=by
 obtain⟨⟨s',_,hs⟩,_⟩:=h0;rw[hb0] at hs;refine(dGe (cause:=C.cause) n l hw C.N (fun s i W=>C.At s i W/\R W) (fun W=>∃b,C.Ix b W/\Rx W) (fun s i W h=>⟨h.1.cap hE,h.1.fits.stOk,h.1.len⟩) (fun s i A B h hb=>⟨h.1.below hb,hR _ _ h.2 (KeepsOthers.of_below hb)⟩)
  (fun s i W h hi hn=>⟨⟨h.1.mem,h.1.st,h.1.fits,h.1.len,fun r hr=>h.1.reach r (.skip (by rw[h.1.len];exact hi) hn hr)⟩,h.2⟩) (fun s i bi k x y W h hbx hn=>?_) s' W1 ⟨hs,hR0⟩).mono ?_
 ·obtain⟨fn,tmps,assign,body,hy,hRd⟩:=hY ⟨s,bXx s i k x y C.cause,i,k,x,y,bi,false⟩ W ⟨h.1,hn,rfl,hbx,rfl⟩ h.2;refine⟨fn,tmps,assign,body,hy,hRd.mono ?_⟩;rintro e W' (⟨rfl,⟨⟨s2,e2,h1⟩,h2⟩,h3⟩|⟨rfl,h1,h2⟩)
  ·exact .inl ⟨rfl,h2 rfl,s2,e2,h1,h3⟩
  ·exact .inr ⟨rfl,_,h1,h2⟩
 ·rintro e W' ⟨h,⟨s,h1,h2⟩|h1⟩
  ·exact⟨h,.inl ⟨⟨s,some s,C.N,0,⟨[],[],[],0,0,[],[],[],[],[]⟩,⟨[],[],0,0,[],[],[]⟩,0,true⟩,rfl,⟨⟨s,rfl,h1⟩,fun e=>by cases e⟩,h2⟩⟩
  ·exact⟨h,.inr h1⟩
theorem ApC.repl(C:ApC)(hE:iE C.w0)(hc:dC C.cause=true){b:WIt}{W:World}(h:C.I b W):
  Calls prog 44 #[.pointer (some ⟨C.sb,0,none⟩),.int .i64 (b.i:Int),.int .i64 (b.k:Int),.string ⟨C.cause.toArray⟩] W fun e W'=>((∃s',b.t=some s'/\e=.returned (.int .i64 0)/\C.I' b W')∨(b.t=none/\e=.returned (.int .i64 4)/\C.Mem W'/\bZm C.ins C.d C.wash C.cause C.s0 0 none))/\KpW C.w0.heap.size W W':=by
 obtain⟨hx,hd,hy,hr⟩:=bYm h.next;have F:=h.at_.fits;have S:=F.stOk;have ho:=(bY6 hd).2.2.1;have hro:=(bYt.1 hr).2.1;have hcl:C.cause.length<=800:=by
  unfold dC at hc;simp only[Bool.and_eq_true,decide_eq_true_eq] at hc;omega
 obtain⟨lv,gv,tv,hst⟩:=h.at_.st;refine(dGx C.w0 hE b.s b.i b.k b.x b.y C.cause W C.sb lv gv tv h.at_.mem.below hst hx hy (F.ok.gains _ (List.mem_of_getElem? hx)) F.ok.lots ho hro hc hcl (S.gm _ (List.mem_of_getElem? hx)) S.lm S.gl S.st S.sum).mono ?_;rintro e W' ⟨hres,hk⟩;refine⟨?_,hk⟩;rw[<-h.made] at hres;cases ht:b.t with
 |none =>
  rw[ht] at hres;exact .inr ⟨rfl,hres,h.at_.mem.step hk,h.at_.reach _ (.limit h.next (by rw[<-h.made];exact ht))⟩
 |some s' =>
  rw[ht] at hres;obtain⟨h1,h2⟩:=hres;have hrep:bXx b.s b.i b.k b.x b.y C.cause=some s':=by rw[<-h.made];exact ht
  refine .inl ⟨s',rfl,h1,⟨⟨s',ht,h.at_.mem.step hk,h2,F.step hc hx hy ho hro hrep,?_,fun r hr=>h.at_.reach r (.step h.next hrep hr)⟩,fun _=>(hk.types _ (by decide) (by decide) (by decide) (by decide)).box h.box⟩⟩;rw[(bY9 F.ok.gains (F.ok.gains _ (List.mem_of_getElem? hx)) ho hro hrep).1,List.length_set];exact h.at_.len
end
section
open Go Go.RowKit Num
theorem dJj{W:World}{b:Nat}{T:TypeId}{v0 v1 v2 v3:Value}(u0 u1 u2 u3:Value)(h:aP W b #[v0,v1,v2,v3] T):aP (W.setCells b 0 [u0,u1,u2,u3]) b #[u0,u1,u2,u3] T:=by
 have h0:=h.setC (i:=0) (v:=u0);simp only[List.setIfInBounds_toArray,List.set_cons_zero] at h0;have h1:=h0.setC (i:=1) (v:=u1);simp only[List.setIfInBounds_toArray,List.set_cons_zero,List.set_cons_succ] at h1;have h2:=h1.setC (i:=2) (v:=u2);simp only[List.setIfInBounds_toArray,List.set_cons_zero,List.set_cons_succ] at h2;have h3:=h2.setC (i:=3) (v:=u3);simp only[List.setIfInBounds_toArray,List.set_cons_zero,List.set_cons_succ] at h3;exact h3
noncomputable def dIe:Array Oper:=(Tryz.f11.body.bind (dDa 11)).getD #[]
def dG1:List (Nat×Nat):=[(0,54),(1,55),(2,56),(3,57),(4,58),(5,59),(6,60),(7,61),(8,62),(9,63),(10,64),(11,65),(12,66),(13,19)]
structure dDc where
 W0:World
 b15:Nat
 sb:Nat
 la:Option Addr
 ln:Nat
 lc:Nat
 ga:Option Addr
 gn:Nat
 gc:Nat
 ta:Option Addr
 tn:Nat
 tc:Nat
 sv:Value
def dDc.val(C:dDc)(_:Unit):Nat->Value
 |0=>.pointer (some ⟨C.sb,0,none⟩)
 |1=>.pointer (some ⟨C.sb,0,none⟩)
 |2=>.pointer (some ⟨C.sb,0,none⟩)
 |3=>.slice C.la C.ln C.lc
 |4=>.pointer (some ⟨C.sb,0,none⟩)
 |5=>.pointer (some ⟨C.sb,0,none⟩)
 |6=>.pointer (some ⟨C.sb,1,none⟩)
 |7=>.slice C.ga C.gn C.gc
 |8=>.pointer (some ⟨C.sb,0,none⟩)
 |9=>.pointer (some ⟨C.sb,0,none⟩)
 |10=>.pointer (some ⟨C.sb,2,none⟩)
 |11=>.slice C.ta C.tn C.tc
 |12=>.agg #[.slice C.la C.ln C.lc,.slice C.ga C.gn C.gc,.slice C.ta C.tn C.tc,.slice none 0 0]
 |13=>.pointer (some ⟨C.W0.heap.size,0,none⟩)
 |_=>undef
def dDc.gg(C:dDc)(_:Unit)(l:Array Bool)(W:World):Prop:=Below C.W0.heap.size C.W0 W/\(bit l 13=false->W=C.W0)/\(bit l 13=true->aP W C.W0.heap.size (if bit l 14=true then #[.slice C.la C.ln C.lc,.slice C.ga C.gn C.gc,.slice C.ta C.tn C.tc,.slice none 0 0] else dDz) 30)
structure dJr(C:dDc)(t0:Array Value):Prop where
 sz:t0.size=85
 lo15:t0[15]?=some (.pointer (some ⟨C.b15,0,none⟩))
 k15:aP C.W0 C.b15 #[.pointer (some ⟨C.sb,0,none⟩)] 76
 kb:aP C.W0 C.sb #[.slice C.la C.ln C.lc,.slice C.ga C.gn C.gc,.slice C.ta C.tn C.tc,C.sv] 80
theorem dDc.keep{C:dDc}{l:Array Bool}{w:World}{i:Nat}(h:C.gg () l w)(h1:i≠13)(h2:i≠14):C.gg () (l.setIfInBounds i true) w:=by
 unfold dDc.gg;rw[dCr h1,dCr h2];exact h
section
variable {C:dDc}{t0:Array Value}{Q:Exit->Act->World->Prop}
theorem dHg(M:dJr C t0){a:Act}{w:World}{n:Nat}{ro:Option Nat}{d0:List Deferred}(hdf:a.defers=d0)(ht:a.tmps=t0)(hw:w.drewN 1=C.W0)
  (hQ:∀W,Below C.W0.heap.size C.W0 W->aP W C.W0.heap.size #[.slice C.la C.ln C.lc,.slice C.ga C.gn C.gc,.slice C.ta C.tn C.tc,.slice none 0 0] 30->Q .normal { tmps:=iZ (C.val ()) dG1 t0,defers:=d0 } W):(Code.region 11 dIe true).wpIn (bEe ro) n prog Q a w:=by
 have hsz:dIe.size=15:=by kernel_rfl
 refine bD9 (ds:=dG1) (val:=C.val) (G:=C.gg) (by kernel_rfl) (by kernel_rfl) (by decide) (fun p hp=>?_) (by kernel_rfl) ?_ (γ:=()) hdf ht (by rw[hw];exact⟨Br _ _,fun _=>rfl,fun h=>(by rw[dC0] at h;cases h)⟩) (fun γ l W hall hg=>hQ W hg.1 (by have h:=hg.2.2 (hall 13 (by rw[hsz];decide));rw[show bit l 14=true from hall 14 (by rw[hsz];decide)] at h;exact h))
 ·rw[M.sz];have:∀p,p∈dG1->p.2<85:=by decide
  exact this p hp
 ·intro γ l a w i H hr;cases γ;have hi:i<15:=by
   obtain⟨_,o,ho,_⟩:=mem_ready.1 hr;have:=(Ai.1 ho).1;rw[hsz] at this;exact this
  have lo15:=H.low (s:=15) (by decide) M.lo15;have hb:=H.g
  match i,hi,hr with
  |0,_,hr =>
   have hc:w.cell? ⟨C.b15,0,none⟩=some (.pointer (some ⟨C.sb,0,none⟩)):=((M.k15.overW hb.1 M.k15.1).cell 0).trans rfl;exact bCb () (fun _ _=>rfl) (X:=.load 76 (.tmp 15)) (v:=.pointer (some ⟨C.sb,0,none⟩)) (by kernel_rfl) (fun o h=>by simp[execOp,h,lo15,hc,go_sem]) rfl (dDc.keep H.g (by decide) (by decide))
  |1,_,hr =>
   have v0:a.tmps[54]?=some (.pointer (some ⟨C.sb,0,none⟩)):=H.dep hr 0 54;exact bCb () (fun _ _=>rfl) (X:=.nilCheck (.tmp 54)) (v:=.pointer (some ⟨C.sb,0,none⟩)) (by kernel_rfl) (fun o h=>by simp[execOp,h,v0,go_sem]) rfl (dDc.keep H.g (by decide) (by decide))
  |2,_,hr =>
   have v1:a.tmps[55]?=some (.pointer (some ⟨C.sb,0,none⟩)):=H.dep hr 1 55;exact bCb () (fun _ _=>rfl) (X:=.fieldAddr 80 (.tmp 55) 0) (v:=.pointer (some ⟨C.sb,0,none⟩)) (by kernel_rfl) (fun o h=>by simp[execOp,h,v1,go_sem]) rfl (dDc.keep H.g (by decide) (by decide))
  |3,_,hr =>
   have v2:a.tmps[56]?=some (.pointer (some ⟨C.sb,0,none⟩)):=H.dep hr 2 56;have hc:w.cell? ⟨C.sb,0,none⟩=some (.slice C.la C.ln C.lc):=((M.kb.overW hb.1 M.kb.1).cell 0).trans rfl;exact bCb () (fun _ _=>rfl) (X:=.load 22 (.tmp 56)) (v:=.slice C.la C.ln C.lc) (by kernel_rfl) (fun o h=>by simp[execOp,h,v2,hc,go_sem]) rfl (dDc.keep H.g (by decide) (by decide))
  |4,_,hr =>
   have hc:w.cell? ⟨C.b15,0,none⟩=some (.pointer (some ⟨C.sb,0,none⟩)):=((M.k15.overW hb.1 M.k15.1).cell 0).trans rfl;exact bCb () (fun _ _=>rfl) (X:=.load 76 (.tmp 15)) (v:=.pointer (some ⟨C.sb,0,none⟩)) (by kernel_rfl) (fun o h=>by simp[execOp,h,lo15,hc,go_sem]) rfl (dDc.keep H.g (by decide) (by decide))
  |5,_,hr =>
   have v4:a.tmps[58]?=some (.pointer (some ⟨C.sb,0,none⟩)):=H.dep hr 4 58;exact bCb () (fun _ _=>rfl) (X:=.nilCheck (.tmp 58)) (v:=.pointer (some ⟨C.sb,0,none⟩)) (by kernel_rfl) (fun o h=>by simp[execOp,h,v4,go_sem]) rfl (dDc.keep H.g (by decide) (by decide))
  |6,_,hr =>
   have v5:a.tmps[59]?=some (.pointer (some ⟨C.sb,0,none⟩)):=H.dep hr 5 59;exact bCb () (fun _ _=>rfl) (X:=.fieldAddr 80 (.tmp 59) 1) (v:=.pointer (some ⟨C.sb,1,none⟩)) (by kernel_rfl) (fun o h=>by simp[execOp,h,v5,go_sem]) rfl (dDc.keep H.g (by decide) (by decide))
  |7,_,hr =>
   have v6:a.tmps[60]?=some (.pointer (some ⟨C.sb,1,none⟩)):=H.dep hr 6 60;have hc:w.cell? ⟨C.sb,1,none⟩=some (.slice C.ga C.gn C.gc):=((M.kb.overW hb.1 M.kb.1).cell 1).trans rfl;exact bCb () (fun _ _=>rfl) (X:=.load 23 (.tmp 60)) (v:=.slice C.ga C.gn C.gc) (by kernel_rfl) (fun o h=>by simp[execOp,h,v6,hc,go_sem]) rfl (dDc.keep H.g (by decide) (by decide))
  |8,_,hr =>
   have hc:w.cell? ⟨C.b15,0,none⟩=some (.pointer (some ⟨C.sb,0,none⟩)):=((M.k15.overW hb.1 M.k15.1).cell 0).trans rfl;exact bCb () (fun _ _=>rfl) (X:=.load 76 (.tmp 15)) (v:=.pointer (some ⟨C.sb,0,none⟩)) (by kernel_rfl) (fun o h=>by simp[execOp,h,lo15,hc,go_sem]) rfl (dDc.keep H.g (by decide) (by decide))
  |9,_,hr =>
   have v8:a.tmps[62]?=some (.pointer (some ⟨C.sb,0,none⟩)):=H.dep hr 8 62;exact bCb () (fun _ _=>rfl) (X:=.nilCheck (.tmp 62)) (v:=.pointer (some ⟨C.sb,0,none⟩)) (by kernel_rfl) (fun o h=>by simp[execOp,h,v8,go_sem]) rfl (dDc.keep H.g (by decide) (by decide))
  |10,_,hr =>
   have v9:a.tmps[63]?=some (.pointer (some ⟨C.sb,0,none⟩)):=H.dep hr 9 63;exact bCb () (fun _ _=>rfl) (X:=.fieldAddr 80 (.tmp 63) 2) (v:=.pointer (some ⟨C.sb,2,none⟩)) (by kernel_rfl) (fun o h=>by simp[execOp,h,v9,go_sem]) rfl (dDc.keep H.g (by decide) (by decide))
  |11,_,hr =>
   have v10:a.tmps[64]?=some (.pointer (some ⟨C.sb,2,none⟩)):=H.dep hr 10 64;have hc:w.cell? ⟨C.sb,2,none⟩=some (.slice C.ta C.tn C.tc):=((M.kb.overW hb.1 M.kb.1).cell 2).trans rfl;exact bCb () (fun _ _=>rfl) (X:=.load 27 (.tmp 64)) (v:=.slice C.ta C.tn C.tc) (by kernel_rfl) (fun o h=>by simp[execOp,h,v10,hc,go_sem]) rfl (dDc.keep H.g (by decide) (by decide))
  |12,_,hr =>
   have v3:a.tmps[57]?=some (.slice C.la C.ln C.lc):=H.dep hr 3 57;have v7:a.tmps[61]?=some (.slice C.ga C.gn C.gc):=H.dep hr 7 61;have v11:a.tmps[65]?=some (.slice C.ta C.tn C.tc):=H.dep hr 11 65;exact bCb () (fun _ _=>rfl) (X:=.build 30 #[(0,(.tmp 57)),(1,(.tmp 61)),(2,(.tmp 65))]) (v:=.agg #[.slice C.la C.ln C.lc,.slice C.ga C.gn C.gc,.slice C.ta C.tn C.tc,.slice none 0 0]) (by kernel_rfl) (fun o h=>by simp[execOp,h,v3,v7,v11,go_sem]) rfl (dDc.keep H.g (by decide) (by decide))
  |13,_,hr =>
   have f13:=dCq hr;have f14:=H.off 13 14 f13;have hw:=hb.2.1 f13;refine bCb (w':=(C.W0.alloc (.cells dDz 30))) () (fun _ _=>rfl) (X:=.alloc 30) (v:=.pointer (some ⟨C.W0.heap.size,0,none⟩)) (by kernel_rfl) (fun o h=>?_) rfl ?_
   ·rw[hw];simp[execOp,h,dDz,go_sem]
   ·unfold dDc.gg;rw[dCv (by rw[H.sz,hsz];decide),dCr (show (13:Nat)≠14 by decide),f14];exact⟨aB _ _,fun h=>(by cases h),fun _=>aP.new0 _ _ _⟩
  |14,_,hr =>
   have v12:a.tmps[66]?=some (.agg #[.slice C.la C.ln C.lc,.slice C.ga C.gn C.gc,.slice C.ta C.tn C.tc,.slice none 0 0]):=H.dep hr 12 66;have v13:a.tmps[19]?=some (.pointer (some ⟨C.W0.heap.size,0,none⟩)):=H.dep hr 13 19;have f14:=dCq hr;have o13:bit l 13=true:=aG hr (by kernel_rfl);have hbx:=hb.2.2 o13;rw[f14] at hbx;refine bE9 (X:=.store 30 (.tmp 19) (.tmp 66)) (w':=w.setCells C.W0.heap.size 0 [.slice C.la C.ln C.lc,.slice C.ga C.gn C.gc,.slice C.ta C.tn C.tc,.slice none 0 0]) (by kernel_rfl) (fun o h=>?_) ?_
   ·exact dEr h (by simp[Act.eval,v13]) (cs:=#[.slice C.la C.ln C.lc,.slice C.ga C.gn C.gc,.slice C.ta C.tn C.tc,.slice none 0 0]) (by simp[Act.eval,v12]) hbx.there (by kernel_rfl) (by simp[Value.oneCell'])
   ·unfold dDc.gg;rw[dCv (by rw[H.sz,hsz];decide),dCr (show (14:Nat)≠13 by decide),o13];exact⟨dDi hb.1 (Nl _),fun h=>(by cases h),fun _=>dJj _ _ _ _ hbx⟩
  |n+15,h,_=>exact absurd h (by omega)
end
noncomputable def dId:Array Oper:=(Tryz.f11.body.bind (dDa 13)).getD #[]
def dG0:List (Nat×Nat):=[(0,72),(1,73),(2,74),(3,75),(4,76),(5,77),(6,78),(7,79),(8,80),(9,81),(10,82),(11,83)]
structure dC6 where
 W0:World
 b8:Nat
 b15:Nat
 sb:Nat
 rb:Nat
 lv:Value
 gv:Value
 tv:Value
 rl:Value
 rg:Value
 rt:Value
 sum:List UInt8
 cause:List UInt8
 ins:List UInt8
 d:Int
def dC6.val(C:dC6)(_:Unit):Nat->Value
 |0=>.int .i64 C.d
 |1=>.string ⟨C.cause.toArray⟩
 |2=>.string ⟨C.ins.toArray⟩
 |3=>.pointer (some ⟨C.sb,0,none⟩)
 |4=>.pointer (some ⟨C.sb,0,none⟩)
 |5=>.pointer (some ⟨C.sb,3,none⟩)
 |6=>.string ⟨C.sum.toArray⟩
 |7=>.agg #[.string ⟨#[97,109,111,117,110,116]⟩,.string ⟨C.sum.toArray⟩]
 |8=>.slice (some ⟨C.W0.heap.size,0,none⟩) 1 1
 |9=>.agg #[.int .i64 5,.int .i64 C.d,.string ⟨C.cause.toArray⟩,.string ⟨C.ins.toArray⟩,.string ⟨#[]⟩,.string ⟨#[]⟩,.slice (some ⟨C.W0.heap.size,0,none⟩) 1 1]
 |10=>.slice (some ⟨C.W0.heap.size+1,0,none⟩) 1 1
 |11=>.pointer (some ⟨C.rb,3,none⟩)
 |_=>undef
def dC6.gg(C:dC6)(_:Unit)(l:Array Bool)(W:World):Prop:=(bit l 8=false->W=C.W0)/\(bit l 8=true->bit l 10=false->W=(C.W0.alloc (.cells #[.string ⟨#[97,109,111,117,110,116]⟩,.string ⟨C.sum.toArray⟩] 65)))/\(bit l 10=true->bit l 12=false->W=((C.W0.alloc (.cells #[.string ⟨#[97,109,111,117,110,116]⟩,.string ⟨C.sum.toArray⟩] 65)).alloc (.cells #[.int .i64 5,.int .i64 C.d,.string ⟨C.cause.toArray⟩,.string ⟨C.ins.toArray⟩,.string ⟨#[]⟩,.string ⟨#[]⟩,.slice (some ⟨C.W0.heap.size,0,none⟩) 1 1] 62)))/\(bit l 12=true->W=((C.W0.alloc (.cells #[.string ⟨#[97,109,111,117,110,116]⟩,.string ⟨C.sum.toArray⟩] 65)).alloc (.cells #[.int .i64 5,.int .i64 C.d,.string ⟨C.cause.toArray⟩,.string ⟨C.ins.toArray⟩,.string ⟨#[]⟩,.string ⟨#[]⟩,.slice (some ⟨C.W0.heap.size,0,none⟩) 1 1] 62)).setCell ⟨C.rb,3,none⟩ (.slice (some ⟨C.W0.heap.size+1,0,none⟩) 1 1))/\(bit l 12=true->bit l 10=true)/\(bit l 10=true->bit l 8=true)
structure dJq(C:dC6)(t0:Array Value):Prop where
 sz:t0.size=85
 lo3:t0[3]?=some (.int .i64 C.d)
 lo4:t0[4]?=some (.string ⟨C.ins.toArray⟩)
 lo8:t0[8]?=some (.pointer (some ⟨C.b8,0,none⟩))
 lo15:t0[15]?=some (.pointer (some ⟨C.b15,0,none⟩))
 lo19:t0[19]?=some (.pointer (some ⟨C.rb,0,none⟩))
 k8:aP C.W0 C.b8 #[.string ⟨C.cause.toArray⟩] 9
 k15:aP C.W0 C.b15 #[.pointer (some ⟨C.sb,0,none⟩)] 76
 kb:aP C.W0 C.sb #[C.lv,C.gv,C.tv,.string ⟨C.sum.toArray⟩] 80
 kr:aP C.W0 C.rb #[C.rl,C.rg,C.rt,.slice none 0 0] 30
theorem dC6.keep{C:dC6}{l:Array Bool}{w:World}{i:Nat}(h:C.gg () l w)(h1:i≠8)(h2:i≠10)(h3:i≠12):C.gg () (l.setIfInBounds i true) w:=by
 unfold dC6.gg;rw[dCr h1,dCr h2,dCr h3];exact h
theorem dC6.low{C:dC6}{l:Array Bool}{w:World}(h:C.gg () l w)(h3:bit l 12=false):Below C.W0.heap.size C.W0 w:=by
 cases h1:bit l 8 with
 |false=>rw[h.1 h1];exact Br _ _
 |true =>
  cases h2:bit l 10 with
  |false=>rw[h.2.1 h1 h2];exact aB _ _
  |true=>rw[h.2.2.1 h2 h3];exact aA (aB _ _) (aB _ _)
section
variable {C:dC6}{t0:Array Value}{Q:Exit->Act->World->Prop}
theorem dHf(M:dJq C t0){a:Act}{w:World}{n:Nat}{ro:Option Nat}{d0:List Deferred}(hdf:a.defers=d0)(ht:a.tmps=t0)(hw:w.drewN 1=C.W0)
  (hQ:Q .normal { tmps:=iZ (C.val ()) dG0 t0,defers:=d0 } (((C.W0.alloc (.cells #[.string ⟨#[97,109,111,117,110,116]⟩,.string ⟨C.sum.toArray⟩] 65)).alloc (.cells #[.int .i64 5,.int .i64 C.d,.string ⟨C.cause.toArray⟩,.string ⟨C.ins.toArray⟩,.string ⟨#[]⟩,.string ⟨#[]⟩,.slice (some ⟨C.W0.heap.size,0,none⟩) 1 1] 62)).setCell ⟨C.rb,3,none⟩ (.slice (some ⟨C.W0.heap.size+1,0,none⟩) 1 1))):(Code.region 13 dId true).wpIn (bEe ro) n prog Q a w:=by
 have hsz:dId.size=13:=by kernel_rfl
 refine bD9 (ds:=dG0) (val:=C.val) (G:=C.gg) (by kernel_rfl) (by kernel_rfl) (by decide) (fun p hp=>?_) (by kernel_rfl) ?_ (γ:=()) hdf ht (by rw[hw];exact⟨fun _=>rfl,fun h=>(by rw[dC0] at h;cases h),fun h=>(by rw[dC0] at h;cases h),fun h=>(by rw[dC0] at h;cases h),fun h=>(by rw[dC0] at h;cases h),fun h=>(by rw[dC0] at h;cases h)⟩) (fun γ l W hall hg=>by rw[hg.2.2.2.1 (hall 12 (by rw[hsz];decide))];exact hQ)
 ·rw[M.sz];have:∀p,p∈dG0->p.2<85:=by decide
  exact this p hp
 ·intro γ l a w i H hr;cases γ;have hi:i<13:=by
   obtain⟨_,o,ho,_⟩:=mem_ready.1 hr;have:=(Ai.1 ho).1;rw[hsz] at this;exact this
  have lo3:=H.low (s:=3) (by decide) M.lo3;have lo4:=H.low (s:=4) (by decide) M.lo4;have lo8:=H.low (s:=8) (by decide) M.lo8;have lo15:=H.low (s:=15) (by decide) M.lo15;have lo19:=H.low (s:=19) (by decide) M.lo19;have hb:=H.g
  match i,hi,hr with
  |0,_,hr =>
   exact bCb () (fun _ _=>rfl) (X:=.move (.tmp 3)) (v:=.int .i64 C.d) (by kernel_rfl) (fun o h=>by simp[execOp,h,lo3,go_sem]) rfl (dC6.keep H.g (by decide) (by decide) (by decide))
  |1,_,hr =>
   have f1:=dCq hr;have f9:=H.off 1 9 f1;have f10:=H.off 9 10 f9;have f12:=H.off 10 12 f10;have hc:w.cell? ⟨C.b8,0,none⟩=some (.string ⟨C.cause.toArray⟩):=((M.k8.overW (dC6.low hb f12) M.k8.1).cell 0).trans rfl;exact bCb () (fun _ _=>rfl) (X:=.load 9 (.tmp 8)) (v:=.string ⟨C.cause.toArray⟩) (by kernel_rfl) (fun o h=>by simp[execOp,h,lo8,hc,go_sem]) rfl (dC6.keep H.g (by decide) (by decide) (by decide))
  |2,_,hr =>
   exact bCb () (fun _ _=>rfl) (X:=.move (.tmp 4)) (v:=.string ⟨C.ins.toArray⟩) (by kernel_rfl) (fun o h=>by simp[execOp,h,lo4,go_sem]) rfl (dC6.keep H.g (by decide) (by decide) (by decide))
  |3,_,hr =>
   have f3:=dCq hr;have f4:=H.off 3 4 f3;have f5:=H.off 4 5 f4;have f6:=H.off 5 6 f5;have f7:=H.off 6 7 f6;have f8:=H.off 7 8 f7;have f9:=H.off 8 9 f8;have f10:=H.off 9 10 f9;have f12:=H.off 10 12 f10;have hc:w.cell? ⟨C.b15,0,none⟩=some (.pointer (some ⟨C.sb,0,none⟩)):=((M.k15.overW (dC6.low hb f12) M.k15.1).cell 0).trans rfl;exact bCb () (fun _ _=>rfl) (X:=.load 76 (.tmp 15)) (v:=.pointer (some ⟨C.sb,0,none⟩)) (by kernel_rfl) (fun o h=>by simp[execOp,h,lo15,hc,go_sem]) rfl (dC6.keep H.g (by decide) (by decide) (by decide))
  |4,_,hr =>
   have v3:a.tmps[75]?=some (.pointer (some ⟨C.sb,0,none⟩)):=H.dep hr 3 75;exact bCb () (fun _ _=>rfl) (X:=.nilCheck (.tmp 75)) (v:=.pointer (some ⟨C.sb,0,none⟩)) (by kernel_rfl) (fun o h=>by simp[execOp,h,v3,go_sem]) rfl (dC6.keep H.g (by decide) (by decide) (by decide))
  |5,_,hr =>
   have v4:a.tmps[76]?=some (.pointer (some ⟨C.sb,0,none⟩)):=H.dep hr 4 76;exact bCb () (fun _ _=>rfl) (X:=.fieldAddr 80 (.tmp 76) 3) (v:=.pointer (some ⟨C.sb,3,none⟩)) (by kernel_rfl) (fun o h=>by simp[execOp,h,v4,go_sem]) rfl (dC6.keep H.g (by decide) (by decide) (by decide))
  |6,_,hr =>
   have v5:a.tmps[77]?=some (.pointer (some ⟨C.sb,3,none⟩)):=H.dep hr 5 77;have f6:=dCq hr;have f7:=H.off 6 7 f6;have f8:=H.off 7 8 f7;have f9:=H.off 8 9 f8;have f10:=H.off 9 10 f9;have f12:=H.off 10 12 f10;have hc:w.cell? ⟨C.sb,3,none⟩=some (.string ⟨C.sum.toArray⟩):=((M.kb.overW (dC6.low hb f12) M.kb.1).cell 3).trans rfl;exact bCb () (fun _ _=>rfl) (X:=.load 36 (.tmp 77)) (v:=.string ⟨C.sum.toArray⟩) (by kernel_rfl) (fun o h=>by simp[execOp,h,v5,hc,go_sem]) rfl (dC6.keep H.g (by decide) (by decide) (by decide))
  |7,_,hr =>
   have v6:a.tmps[78]?=some (.string ⟨C.sum.toArray⟩):=H.dep hr 6 78;exact bCb () (fun _ _=>rfl) (X:=.build 65 #[(0,(.const (.string ⟨#[97,109,111,117,110,116]⟩))),(1,(.tmp 78))]) (v:=.agg #[.string ⟨#[97,109,111,117,110,116]⟩,.string ⟨C.sum.toArray⟩]) (by kernel_rfl) (fun o h=>by simp[execOp,h,v6,go_sem]) rfl (dC6.keep H.g (by decide) (by decide) (by decide))
  |8,_,hr =>
   have v7:a.tmps[79]?=some (.agg #[.string ⟨#[97,109,111,117,110,116]⟩,.string ⟨C.sum.toArray⟩]):=H.dep hr 7 79;have f8:=dCq hr;have f9:=H.off 8 9 f8;have f10:=H.off 9 10 f9;have f12:=H.off 10 12 f10;have hw:=hb.1 f8;refine bCb (w':=(C.W0.alloc (.cells #[.string ⟨#[97,109,111,117,110,116]⟩,.string ⟨C.sum.toArray⟩] 65))) () (fun _ _=>rfl) (X:=.buildSlice 60 1 #[(0,.tmp 79)]) (v:=.slice (some ⟨C.W0.heap.size,0,none⟩) 1 1) (by kernel_rfl) (fun o h=>?_) rfl ?_
   ·rw[hw];simp[execOp,h,v7,go_sem]
   ·unfold dC6.gg;rw[dCv (by rw[H.sz,hsz];decide),dCr (show (8:Nat)≠10 by decide),dCr (show (8:Nat)≠12 by decide),f10,f12];exact⟨fun h=>(by cases h),fun _ _=>rfl,fun h=>(by cases h),fun h=>(by cases h),fun h=>(by cases h),fun h=>(by cases h)⟩
  |9,_,hr =>
   have v0:a.tmps[72]?=some (.int .i64 C.d):=H.dep hr 0 72;have v1:a.tmps[73]?=some (.string ⟨C.cause.toArray⟩):=H.dep hr 1 73;have v2:a.tmps[74]?=some (.string ⟨C.ins.toArray⟩):=H.dep hr 2 74;have v8:a.tmps[80]?=some (.slice (some ⟨C.W0.heap.size,0,none⟩) 1 1):=H.dep hr 8 80;exact bCb () (fun _ _=>rfl) (X:=.build 62 #[(0,(.const (.int .i64 5))),(1,(.tmp 72)),(2,(.tmp 73)),(3,(.tmp 74)),(6,(.tmp 80))]) (v:=.agg #[.int .i64 5,.int .i64 C.d,.string ⟨C.cause.toArray⟩,.string ⟨C.ins.toArray⟩,.string ⟨#[]⟩,.string ⟨#[]⟩,.slice (some ⟨C.W0.heap.size,0,none⟩) 1 1]) (by kernel_rfl) (fun o h=>by simp[execOp,h,v0,v1,v2,v8,go_sem]) rfl (dC6.keep H.g (by decide) (by decide) (by decide))
  |10,_,hr =>
   have v9:a.tmps[81]?=some (.agg #[.int .i64 5,.int .i64 C.d,.string ⟨C.cause.toArray⟩,.string ⟨C.ins.toArray⟩,.string ⟨#[]⟩,.string ⟨#[]⟩,.slice (some ⟨C.W0.heap.size,0,none⟩) 1 1]):=H.dep hr 9 81;have f10:=dCq hr;have f12:=H.off 10 12 f10;have o9:bit l 9=true:=aG hr (by kernel_rfl);have o8:bit l 8=true:=by
    cases h8:bit l 8 with
    |true=>rfl
    |false=>rw[H.off 8 9 h8] at o9;cases o9
   have hw:=hb.2.1 o8 f10;refine bCb (w':=((C.W0.alloc (.cells #[.string ⟨#[97,109,111,117,110,116]⟩,.string ⟨C.sum.toArray⟩] 65)).alloc (.cells #[.int .i64 5,.int .i64 C.d,.string ⟨C.cause.toArray⟩,.string ⟨C.ins.toArray⟩,.string ⟨#[]⟩,.string ⟨#[]⟩,.slice (some ⟨C.W0.heap.size,0,none⟩) 1 1] 62))) () (fun _ _=>rfl) (X:=.buildSlice 28 1 #[(0,.tmp 81)]) (v:=.slice (some ⟨C.W0.heap.size+1,0,none⟩) 1 1) (by kernel_rfl) (fun o h=>?_) rfl ?_
   ·rw[hw];simp[execOp,h,v9,go_sem]
   ·unfold dC6.gg;rw[dCv (by rw[H.sz,hsz];decide),dCr (show (10:Nat)≠8 by decide),dCr (show (10:Nat)≠12 by decide),o8,f12];exact⟨fun h=>(by cases h),fun _ h=>(by cases h),fun _ _=>rfl,fun h=>(by cases h),fun h=>(by cases h),fun _=>rfl⟩
  |11,_,hr =>
   exact bCb () (fun _ _=>rfl) (X:=.fieldAddr 30 (.tmp 19) 3) (v:=.pointer (some ⟨C.rb,3,none⟩)) (by kernel_rfl) (fun o h=>by simp[execOp,h,lo19,go_sem]) rfl (dC6.keep H.g (by decide) (by decide) (by decide))
  |12,_,hr =>
   have v10:a.tmps[82]?=some (.slice (some ⟨C.W0.heap.size+1,0,none⟩) 1 1):=H.dep hr 10 82;have v11:a.tmps[83]?=some (.pointer (some ⟨C.rb,3,none⟩)):=H.dep hr 11 83;have f12:=dCq hr;have o10:bit l 10=true:=aG hr (by kernel_rfl);have o8:=hb.2.2.2.2.2 o10;have hw:=hb.2.2.1 o10 f12;have hbx:=(M.kr.below (aB C.W0 (.cells #[.string ⟨#[97,109,111,117,110,116]⟩,.string ⟨C.sum.toArray⟩] 65))).below (aB (C.W0.alloc (.cells #[.string ⟨#[97,109,111,117,110,116]⟩,.string ⟨C.sum.toArray⟩] 65)) (.cells #[.int .i64 5,.int .i64 C.d,.string ⟨C.cause.toArray⟩,.string ⟨C.ins.toArray⟩,.string ⟨#[]⟩,.string ⟨#[]⟩,.slice (some ⟨C.W0.heap.size,0,none⟩) 1 1] 62));have hc:w.cell? ⟨C.rb,3,none⟩=some (.slice none 0 0):=by rw[hw];exact(hbx.cell 3).trans rfl
   have hf:w.frozen? ⟨C.rb,3,none⟩=false:=by rw[hw];exact aR hbx.2 3
   refine bE9 (X:=.store 28 (.tmp 83) (.tmp 82)) (w':=w.setCell ⟨C.rb,3,none⟩ (.slice (some ⟨C.W0.heap.size+1,0,none⟩) 1 1)) (by kernel_rfl) (fun o h=>by simp[execOp,h,v11,v10,hc,hf,go_sem]) ?_;unfold dC6.gg;rw[dCv (by rw[H.sz,hsz];decide),dCr (show (12:Nat)≠8 by decide),dCr (show (12:Nat)≠10 by decide),o8,o10];exact⟨fun h=>(by cases h),fun _ h=>(by cases h),fun _ h=>(by cases h),fun _=>(by rw[hw]),fun _=>rfl,fun _=>rfl⟩
  |n+13,h,_=>exact absurd h (by omega)
end
end
end Go.Proofs.YtiloklnjjfaagaaGreatDoor
