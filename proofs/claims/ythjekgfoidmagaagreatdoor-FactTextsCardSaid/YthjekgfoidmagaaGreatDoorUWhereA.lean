/- Where Last Last2 Choice Late -/
import Derived.Test.YthjekgfoidmagaaGreatDoorUClassA
import Derived.Test.YthjekgfoidmagaaGreatDoorUGreat2
set_option maxHeartbeats 16000000
set_option maxRecDepth 100000
namespace Go.Proofs.YthjekgfoidmagaaGreatDoor
section
open Go Go.RowKit Go.Shelf Num
theorem gZ{w w':World}(h:Below w.heap.size w w'):w.grownBy w' none:=⟨h.os,h.tape,h.output,h.size,fun k hk _=>h.block k hk⟩
section
variable {F:Fence}{n:Nat}{P:Program}{ops:Array Oper}{Q:Exit->Act->World->Prop}{a:Act}{w:World}{rest:List Oper}{o:Oper}
theorem eP(hgd:Region.wanted o (yielded ops a.tmps)=true)(ty:TypeId)(x:Operand)(ho:o.op=.load ty x)(g:Nat)(hx:a.eval x=.pointer (some ⟨g,0,none⟩))(cs:Array Value)(d:TypeDesc){T:TypeId}(hg:aP w g cs T)
  (hu:P.underlying ty=some d) (hd:(match d with | .struct _ | .array _ _=>true|_=>false)=true) (hi:(P.info? ty).map (·.size)=some cs.size) (h:wpListIn F n P ops Q rest (a.put o.dst (.agg cs)) w):wpListIn F n P ops Q (o::rest) a w:=by
 refine wpListIn_step fun K hK=>?_
 rw[if_pos hgd];refine⟨fun f hf=>(by unfold Oper.about at hf;rw[ho] at hf;cases hf),?_⟩;rw[Oper.semAt_plain F _ _ (by rw[ho];intro c hc;cases hc)];unfold execOp;simp only[ho,hx,Instr.loadAt,Instr.sureAddr,Sem.run_bind,Sem.run_pure,Result.andThen_ok,jD w g 0 ty cs d (fun j v hv=>by rw[Nat.zero_add,hg.cell j,<-Array.getElem?_toList];exact hv) hu hd hi];exact hK _ _ h
theorem uP(hgd:Region.wanted o (yielded ops a.tmps)=true)(ty:TypeId)(x:Operand)(ho:o.op=.load ty x)(g off:Nat)(hx:a.eval x=.pointer (some ⟨g,off,none⟩))(cs:Array Value)(d:TypeDesc)(hc:∀j v,cs.toList[j]?=some v->w.cell? ⟨g,off+j,none⟩=some v)
  (hu:P.underlying ty=some d) (hd:(match d with | .struct _ | .array _ _=>true|_=>false)=true) (hi:(P.info? ty).map (·.size)=some cs.size) (h:wpListIn F n P ops Q rest (a.put o.dst (.agg cs)) w):wpListIn F n P ops Q (o::rest) a w:=by
 refine wpListIn_step fun K hK=>?_
 rw[if_pos hgd];refine⟨fun f hf=>(by unfold Oper.about at hf;rw[ho] at hf;cases hf),?_⟩;rw[Oper.semAt_plain F _ _ (by rw[ho];intro c hc;cases hc)];unfold execOp;simp only[ho,hx,Instr.loadAt,Instr.sureAddr,Sem.run_bind,Sem.run_pure,Result.andThen_ok,jD w g off ty cs d hc hu hd hi];exact hK _ _ h
theorem bG6(hgd:Region.wanted o (yielded ops a.tmps)=true)(ty:TypeId)(x y:Operand)(ho:o.op=.store ty x y)(g:Nat)(hx:a.eval x=.pointer (some ⟨g,0,none⟩))(cells:Array Value)(hy:a.eval y=.agg cells)
  {t:TypeId}{old:Array Value}(hg:w.heap[g]?=some (.cells old t (0,0))) (hi:(P.info? ty).map (·.size)=some cells.size) (hold:old.size=cells.size) (h1:cells.all (·.oneCell')=true)
  (h:wpListIn F n P ops Q rest (a.put o.dst undef) (w.setRow g cells)):wpListIn F n P ops Q (o::rest) a w:=by
 refine wpListIn_step fun K hK=>?_
 rw[if_pos hgd];refine⟨fun f hf=>(by unfold Oper.about at hf;rw[ho] at hf;cases hf),?_⟩;rw[Oper.semAt_plain F _ _ (by rw[ho];intro c hc;cases hc)];unfold execOp;simp only[ho,hx,hy,Instr.storeAt,Instr.sureAddr,Sem.run_bind,Sem.run_pure,Result.andThen_ok,run_storeVar_row w g t ty old cells hg hi hold h1];exact hK _ _ h
end
theorem bQ{F:Fence}{n:Nat}{P:Program}{ops:Array Oper}{Q:Exit->Act->World->Prop}{a:Act}{w:World}{rest:List Oper}{o:Oper}(hgd:Region.wanted o (yielded ops a.tmps)=true)(ty:TypeId)(x y:Operand)(ho:o.op=.store ty x y)(g:Nat)(hx:a.eval x=.pointer (some ⟨g,0,none⟩))(cells:Array Value)(hy:a.eval y=.agg cells)
  {t:TypeId}{old:Array Value}(hg:w.heap[g]?=some (.cells old t (0,0))) (hi:(P.info? ty).map (·.size)=some cells.size) (hold:old.size=cells.size) (h1:cells.all (·.oneCell')=true)
  (h:∀w',aP w' g cells t->(∀B,B<=g->Below B w w')->KeepsOthers w w'->(∀b cs T,b≠g->aP w b cs T->aP w' b cs T)->w.grownBy w' (some g)->wpListIn F n P ops Q rest (a.put o.dst undef) w'):wpListIn F n P ops Q (o::rest) a w:=by
 refine bG6 hgd ty x y ho g hx cells hy hg hi hold h1 (h _ ⟨by simp[World.setRow];exact(Ai.1 hg).1,setRow_heap _ _ _ _ _ _ hg⟩ (fun B hB=>below_setRow (Br _ _) hB _) ⟨by simp[World.setRow],fun k o hk ho=>?_⟩ (fun b cs T hne hb=>⟨by simp[World.setRow];exact hb.1,(setRow_other w g b cells hne).trans hb.2⟩) ⟨rfl,rfl,rfl,by simp[World.setRow],fun k _ hk=>setRow_other w g k cells (fun e=>hk (by rw[e]))⟩);refine(setRow_other w g k cells fun e=>?_).trans hk;subst e;rw[hg] at hk;cases hk;cases ho
attribute [local go_sem] Oper.semAt_some
end
section
open Go Go.RowKit Go.Shelf Num
theorem nP{β:Type}(B:Nat)(t:TypeId)(f:β->Array Value):Own (fun s W=>aP W B (f s) t):=fun s X Y row hs hg hrow=>by
 refine⟨Nat.lt_of_lt_of_le hs.1 hg.size,(hg.block B hs.1 fun e=>?_).trans hs.2⟩;obtain⟨o,ho,hc⟩:=hrow B e.symm;rw[hs.2] at ho;cases ho;cases hc
theorem pM{W:World}{b b':Nat}{cs cs':Array Value}{t:TypeId}(h:aP W b cs t)(hne:b≠b'):aP (W.setRow b' cs') b cs t :=
 ⟨by simp[World.setRow];exact h.1,(setRow_other W b' b cs' hne).trans h.2⟩
theorem Ip{W:World}{b:Nat}{cs cs':Array Value}{t:TypeId}(h:aP W b cs t):aP (W.setRow b cs') b cs' t :=
 ⟨by simp[World.setRow];exact h.1,setRow_heap _ _ _ _ _ _ h.2⟩
theorem Boxed.box{W:World}{b:Nat}{t:TypeId}{v:Value}(h:Boxed W b t v):aP W b #[v] t:=⟨h.lt,h⟩
theorem aP.boxed{W:World}{b:Nat}{t:TypeId}{v:Value}(h:aP W b #[v] t):Boxed W b t v:=h.2
structure eK(P:Nat->Prop)(A B:World):Prop where
 os:B.os=A.os
 tape:B.tape=A.tape
 output:B.output=A.output
 size:A.heap.size<=B.heap.size
 block:∀k,P k->B.heap[k]?=A.heap[k]?
theorem eK.trans{P:Nat->Prop}{A B C:World}(h:eK P A B)(g:eK P B C):eK P A C:=⟨g.os.trans h.os,g.tape.trans h.tape,g.output.trans h.output,Nat.le_trans h.size g.size,fun k hk=>(g.block k hk).trans (h.block k hk)⟩
theorem eK.of_below{P:Nat->Prop}{n:Nat}{A B:World}(h:Below n A B)(hp:∀k,P k->k<n):eK P A B:=⟨h.os,h.tape,h.output,h.size,fun k hk=>h.block k (hp k hk)⟩
theorem eK.below{P:Nat->Prop}{n:Nat}{A B:World}(h:eK P A B)(hp:∀k,k<n->P k):Below n A B:=⟨h.os,h.tape,h.output,h.size,fun k hk=>h.block k (hp k hk)⟩
theorem eK.box{P:Nat->Prop}{A B:World}(h:eK P A B){b:Nat}{cs:Array Value}{T:TypeId}(hp:P b)(hb:aP A b cs T):aP B b cs T:=⟨Nat.lt_of_lt_of_le hb.1 h.size,(h.block b hp).trans hb.2⟩
theorem eK.refl(P:Nat->Prop)(A:World):eK P A A:=⟨rfl,rfl,rfl,Nl _,fun _ _=>rfl⟩
theorem eK.putObj{P:Nat->Prop}(W:World)(l:Nat)(o':Obj)(hp:¬ P l):eK P W (W.putObj l o'):=by
 have g:=grownBy_putObj' W l o';exact⟨g.os,g.tape,g.output,g.size,fun k hk=>by
  rcases Nat.lt_or_ge k W.heap.size with h|h
  ·exact g.block k h (fun e=>hp (by cases e;exact hk))
  ·have:(W.putObj l o').heap.size=W.heap.size:=by simp[World.putObj]
   rw[Array.getElem?_eq_none h,Array.getElem?_eq_none (by omega)]⟩
theorem eK.setRow{P:Nat->Prop}{A W:World}(h:eK P A W){b:Nat}(hp:¬ P b)(cs:Array Value):eK P A (W.setRow b cs) :=
 ⟨h.os,h.tape,h.output,by simp[World.setRow];exact h.size,fun k hk=>(setRow_other W b k cs (fun e=>hp (e ▸ hk))).trans (h.block k hk)⟩
theorem eK.setCell{P:Nat->Prop}{A W:World}(h:eK P A W){b:Nat}(hp:¬ P b)(v:Value):eK P A (W.setCell ⟨b,0,none⟩ v) :=
 have g:=grownBy_setCell' W b v
 ⟨g.os.trans h.os,g.tape.trans h.tape,g.output.trans h.output,Nat.le_trans h.size g.size,fun k hk=>by
  rcases Nat.lt_or_ge k W.heap.size with hl|hl
  ·exact(g.block k hl (fun e=>hp (by cases e;exact hk))).trans (h.block k hk)
  ·have hs:(W.setCell ⟨b,0,none⟩ v).heap.size=W.heap.size:=by simp[World.setCell]
   have:=h.block k hk;rw[Array.getElem?_eq_none (by omega)] at this ⊢;exact this⟩
theorem Bi{P:Program}{o:Oper}{a:Act}{w:World}{ty:TypeId}{x y:Operand}(ho:o.op=.store ty x y){g:Nat}(hx:a.eval x=.pointer (some ⟨g,0,none⟩)){cells:Array Value}(hy:a.eval y=.agg cells)
  {t:TypeId}{old:Array Value}(hg:aP w g old t) (hi:(P.info? ty).map (·.size)=some cells.size) (hold:old.size=cells.size) (h1:cells.all (·.oneCell')=true):(execOp a.eval o).run P w=.ok .skip (w.setRow g cells):=by
 unfold execOp;simp only[ho,hx,hy,Instr.storeAt,Instr.sureAddr,Sem.run_bind,Sem.run_pure,Result.andThen_ok,run_storeVar_row w g t ty old cells hg.2 hi hold h1]
structure Rx where
 W0:World
 b4:Nat
 b6:Nat
 b7:Nat
 arr:Array Value
 bb:Bool
def Rx.val(C:Rx)(_:Unit):Nat->Value
 |0=>.agg C.arr
 |_=>.bool C.bb
def Rx.g(C:Rx)(_:Unit)(l:Array Bool)(W:World):Prop:=(¬ lP l 2/\W=C.W0)∨(lP l 2/\W=C.W0.setRow C.b4 C.arr)
section
variable {C:Rx}{t0:Array Value}{d0:List Deferred}{Q:Exit->Act->World->Prop}{l:Array Bool}{w:World}{n:Nat}
theorem Rx.keep{i:Nat}(hi:i≠2)(h:C.g () l w):C.g () (l.setIfInBounds i true) w:=by
 rcases h with⟨h,e⟩|⟨h,e⟩
 ·exact .inl ⟨fun h'=>h (mQ h' (Ne.symm hi)),e⟩
 ·exact .inr ⟨fH h,e⟩
end
end
section
open Go Go.RowKit Num
structure gT(w:World)(a:Option Addr)(c:Nat)(xs:List aF):Prop where
 facts:fS w a xs
 ok:∀x,x∈xs->x.ok
 len:xs.length<=1000000
theorem gT.below{w w':World}{a:Option Addr}{c:Nat}{xs:List aF}(h:gT w a c xs)(hb:Below w.heap.size w w'):gT w' a c xs:=⟨h.facts.below hb,h.ok,h.len⟩
end
section
open Go Go.RowKit Go.Shelf Num
theorem Dc{P:Nat->Prop}{W w1:World}{n₀ B:Nat}{t e:TypeId}{size:Nat}{v v':Value}{k m:Nat}{xs ys:List Value}{tmp:Obj}(hv:Boxed W B t v)(hte:t≠e)(hrow:W.ownsRow n₀ e size v k xs)(hn₀:n₀<=W.heap.size)(hP:∀j,P j->j<n₀/\j≠B)
  (hown':w1.ownsRow n₀ e size v' m ys) (hgrow:(W.alloc tmp).grownBy w1 v.ownBlock) :
  Boxed w1 B t v/\Boxed (w1.setCell ⟨B,0,none⟩ v') B t v'/\(w1.setCell ⟨B,0,none⟩ v').ownsRow n₀ e size v' m ys/\KeepsOthers W (w1.setCell ⟨B,0,none⟩ v')/\eK P W (w1.setCell ⟨B,0,none⟩ v'):=by
 have hv1:Boxed w1 B t v:=(hv.alloc tmp).kept hgrow (hv.not_row hte hrow);refine⟨hv1,hv1.set v',hown'.kept (grownBy_setCell' w1 B v') (.inr (hv1.not_row hte hown').symm),?_,?_⟩
 ·refine((KeepsOthers.alloc W tmp).trans (KeepsOthers.of_grownBy hgrow fun j o ej hj=>?_)).trans (KeepsOthers.setCell _ _ _);rcases(hrow.alloc tmp).2 with⟨rfl,_⟩|⟨g,cap,cur,rfl,_,hgb,_⟩
  ·simp[Value.ownBlock] at ej
  ·obtain rfl:g=j:=by simpa[Value.ownBlock] using ej
   rw[hgb] at hj;cases hj;rfl
 ·have h0:eK P W (W.alloc tmp):=eK.of_below (aB W tmp) fun j hj=>Nat.lt_of_lt_of_le (hP j hj).1 hn₀
  have h1:eK P (W.alloc tmp) w1:=⟨hgrow.os,hgrow.tape,hgrow.output,hgrow.size,fun j hj=>hgrow.block j (by rw[World.size_alloc];have:=(hP j hj).1;omega) fun ej=>by
   have:=hrow.lt j ej.symm;have:=(hP j hj).1;omega⟩
  exact(h0.trans h1).setCell (fun h=>(hP B h).2 rfl) v'
theorem Ck{w:World}{b b' e size n:Nat}{v:Value}{xs:List Value}(h:w.ownsRow b e size v n xs)(hb:b'<=b):w.ownsRow b' e size v n xs :=
 ⟨h.1,h.2.imp id fun⟨g,cap,cur,h1,h2,r⟩=>⟨g,cap,cur,h1,Nat.le_trans hb h2,r⟩⟩
attribute [local go_sem] Oper.semAt_some
end
end Go.Proofs.YthjekgfoidmagaaGreatDoor
