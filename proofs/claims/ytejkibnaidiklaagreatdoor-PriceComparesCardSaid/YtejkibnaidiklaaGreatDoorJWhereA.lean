/- Where Last Last2 Choice Late -/
import Derived.Test.YtejkibnaidiklaaGreatDoorJClassA
import Derived.Test.YtejkibnaidiklaaGreatDoorJGreat2
set_option maxHeartbeats 16000000
set_option maxRecDepth 100000
namespace Go.Proofs.YtejkibnaidiklaaGreatDoor
open Go.Proofs.Tryz
section
open Go Go.RowKit Go.Shelf Num
theorem gZ{w w':World}(h:Below w.heap.size w w'):w.grownBy w' none:=⟨h.os,h.tape,h.output,h.size,fun k hk _=>h.block k hk⟩
section
variable {F:Fence}{n:Nat}{P:Program}{ops:Array Oper}{Q:Exit->Act->World->Prop}{a:Act}{w:World}{rest:List Oper}{o:Oper}
theorem eP(hgd:Region.wanted o (yielded ops a.tmps)=true)(ty:TypeId)(x:Operand)(ho:o.op=.load ty x)(g:Nat)(hx:a.eval x=.pointer (some ⟨g,0,none⟩))(cs:Array Value)(d:TypeDesc){T:TypeId}(hg:aP w g cs T)
  (hu:P.underlying ty=some d) (hd:(match d with | .struct _ | .array _ _=>true|_=>false)=true) (hi:(P.info? ty).map (·.size)=some cs.size) (h:wpListIn F n P ops Q rest (a.put o.dst (.agg cs)) w):wpListIn F n P ops Q (o::rest) a w:=by
 refine wpListIn_step fun K hK=>?_
 rw[if_pos hgd];refine⟨fun f hf=>(by unfold Oper.about at hf;rw[ho] at hf;cases hf),?_⟩;rw[Oper.semAt_plain F _ _ (by rw[ho];intro c hc;cases hc)];unfold execOp;simp only[ho,hx,Instr.loadAt,Instr.sureAddr,Sem.run_bind,Sem.run_pure,Result.andThen_ok,jD w g 0 ty cs d (fun j v hv=>by rw[Nat.zero_add,hg.cell j,<-Array.getElem?_toList];exact hv) hu hd hi];exact hK _ _ h
theorem uP(hgd:Region.wanted o (yielded ops a.tmps)=true)(ty:TypeId)(x:Operand)(ho:o.op=.load ty x)(g off:Nat)(hx:a.eval x=.pointer (some ⟨g,off,none⟩))(cs:Array Value)(d:TypeDesc)(hc:∀j v,cs.toList[j]?=some v->w.cell? ⟨g,off+j,none⟩=some v)
  (hu:P.underlying ty=some d) (hd:(match d with | .struct _ | .array _ _=>true|_=>false)=true) (hi:(P.info? ty).map (·.size)=some cs.size) (h:wpListIn F n P ops Q rest (a.put o.dst (.agg cs)) w):wpListIn F n P ops Q (o::rest) a w:=by
 refine wpListIn_step fun K hK=>?_
 rw[if_pos hgd];refine⟨fun f hf=>(by unfold Oper.about at hf;rw[ho] at hf;cases hf),?_⟩;rw[Oper.semAt_plain F _ _ (by rw[ho];intro c hc;cases hc)];unfold execOp;simp only[ho,hx,Instr.loadAt,Instr.sureAddr,Sem.run_bind,Sem.run_pure,Result.andThen_ok,jD w g off ty cs d hc hu hd hi];exact hK _ _ h
theorem sC(hgd:Region.wanted o (yielded ops a.tmps)=true)(ty:TypeId)(x y:Operand)(ho:o.op=.store ty x y)(g:Nat)(hx:a.eval x=.pointer (some ⟨g,0,none⟩))(cells:Array Value)(hy:a.eval y=.agg cells)
  {t:TypeId}{old:Array Value}(hg:w.heap[g]?=some (.cells old t (0,0))) (hi:(P.info? ty).map (·.size)=some cells.size) (hold:old.size=cells.size) (h1:cells.all (·.oneCell')=true)
  (h:wpListIn F n P ops Q rest (a.put o.dst undef) (w.setRow g cells)):wpListIn F n P ops Q (o::rest) a w:=by
 refine wpListIn_step fun K hK=>?_
 rw[if_pos hgd];refine⟨fun f hf=>(by unfold Oper.about at hf;rw[ho] at hf;cases hf),?_⟩;rw[Oper.semAt_plain F _ _ (by rw[ho];intro c hc;cases hc)];unfold execOp;simp only[ho,hx,hy,Instr.storeAt,Instr.sureAddr,Sem.run_bind,Sem.run_pure,Result.andThen_ok,run_storeVar_row w g t ty old cells hg hi hold h1];exact hK _ _ h
end
theorem bQ{F:Fence}{n:Nat}{P:Program}{ops:Array Oper}{Q:Exit->Act->World->Prop}{a:Act}{w:World}{rest:List Oper}{o:Oper}(hgd:Region.wanted o (yielded ops a.tmps)=true)(ty:TypeId)(x y:Operand)(ho:o.op=.store ty x y)(g:Nat)(hx:a.eval x=.pointer (some ⟨g,0,none⟩))(cells:Array Value)(hy:a.eval y=.agg cells)
  {t:TypeId}{old:Array Value}(hg:w.heap[g]?=some (.cells old t (0,0))) (hi:(P.info? ty).map (·.size)=some cells.size) (hold:old.size=cells.size) (h1:cells.all (·.oneCell')=true)
  (h:∀w',aP w' g cells t->(∀B,B<=g->Below B w w')->KeepsOthers w w'->(∀b cs T,b≠g->aP w b cs T->aP w' b cs T)->w.grownBy w' (some g)->wpListIn F n P ops Q rest (a.put o.dst undef) w'):wpListIn F n P ops Q (o::rest) a w:=by
 refine sC hgd ty x y ho g hx cells hy hg hi hold h1 (h _ ⟨by simp[World.setRow];exact(Ai.1 hg).1,setRow_heap _ _ _ _ _ _ hg⟩ (fun B hB=>below_setRow (Br _ _) hB _) ⟨by simp[World.setRow],fun k o hk ho=>?_⟩ (fun b cs T hne hb=>⟨by simp[World.setRow];exact hb.1,(setRow_other w g b cells hne).trans hb.2⟩) ⟨rfl,rfl,rfl,by simp[World.setRow],fun k _ hk=>setRow_other w g k cells (fun e=>hk (by rw[e]))⟩);refine(setRow_other w g k cells fun e=>?_).trans hk;subst e;rw[hg] at hk;cases hk;cases ho
attribute [local go_sem] Oper.semAt_some
end
section
open Go Go.RowKit Go.Shelf Num
theorem fX{P:Program}{fn:Func}{p u:Tmp}{ty:TypeId}(h:fn.results=#[.cell p ty,.tmp u])(tmps:Array Value)(w:World)(g:Nat)(t:TypeId)(cs:Array Value)(fr:Nat×Nat)(d:TypeDesc)
  (hp:tmps.getD p undef=.pointer (some ⟨g,0,none⟩)) (hg:w.heap[g]?=some (.cells cs t fr))
  (hu:P.underlying ty=some d) (hd:(match d with | .struct _ | .array _ _=>true|_=>false)=true) (hi:(P.info? ty).map (·.size)=some cs.size) :
  (results fn tmps).run P w=.ok (.tuple #[.agg cs,tmps.getD u undef]) w:=by
 have hp':tmps[p]?.getD undef=.pointer (some ⟨g,0,none⟩):=by simpa using hp
 simp[results,h,hp',asAddr,run_loadVar_row w g t ty cs fr d hg hu hd hi]
theorem nP{β:Type}(B:Nat)(t:TypeId)(f:β->Array Value):Own (fun s W=>aP W B (f s) t):=fun s X Y row hs hg hrow=>by
 refine⟨Nat.lt_of_lt_of_le hs.1 hg.size,(hg.block B hs.1 fun e=>?_).trans hs.2⟩;obtain⟨o,ho,hc⟩:=hrow B e.symm;rw[hs.2] at ho;cases ho;cases hc
theorem pM{W:World}{b b':Nat}{cs cs':Array Value}{t:TypeId}(h:aP W b cs t)(hne:b≠b'):aP (W.setRow b' cs') b cs t :=
 ⟨by simp[World.setRow];exact h.1,(setRow_other W b' b cs' hne).trans h.2⟩
theorem Ip{W:World}{b:Nat}{cs cs':Array Value}{t:TypeId}(h:aP W b cs t):aP (W.setRow b cs') b cs' t :=
 ⟨by simp[World.setRow];exact h.1,setRow_heap _ _ _ _ _ _ h.2⟩
theorem Boxed.box{W:World}{b:Nat}{t:TypeId}{v:Value}(h:Boxed W b t v):aP W b #[v] t:=⟨h.lt,h⟩
theorem aP.boxed{W:World}{b:Nat}{t:TypeId}{v:Value}(h:aP W b #[v] t):Boxed W b t v:=h.2
theorem xK{W:World}{b b':Nat}{cs:Array Value}{v:Value}{t:TypeId}(h:aP W b cs t)(hne:b≠b'):aP (W.setCell ⟨b',0,none⟩ v) b cs t :=
 ⟨Nat.lt_of_lt_of_le h.1 (grownBy_setCell' W b' v).size,((grownBy_setCell' W b' v).block b h.1 (fun e=>hne (by cases e;rfl))).trans h.2⟩
structure eK(P:Nat->Prop)(A B:World):Prop where
 os:B.os=A.os
 tape:B.tape=A.tape
 output:B.output=A.output
 size:A.heap.size<=B.heap.size
 block:∀k,P k->B.heap[k]?=A.heap[k]?
theorem eK.trans{P:Nat->Prop}{A B C:World}(h:eK P A B)(g:eK P B C):eK P A C:=⟨g.os.trans h.os,g.tape.trans h.tape,g.output.trans h.output,Nat.le_trans h.size g.size,fun k hk=>(g.block k hk).trans (h.block k hk)⟩
theorem eK.of_below{P:Nat->Prop}{n:Nat}{A B:World}(h:Below n A B)(hp:∀k,P k->k<n):eK P A B:=⟨h.os,h.tape,h.output,h.size,fun k hk=>h.block k (hp k hk)⟩
theorem eK.below{P:Nat->Prop}{n:Nat}{A B:World}(h:eK P A B)(hp:∀k,k<n->P k):Below n A B:=⟨h.os,h.tape,h.output,h.size,fun k hk=>h.block k (hp k hk)⟩
theorem eK.box{P:Nat->Prop}{A B:World}(h:eK P A B){b:Nat}{cs:Array Value}{T:TypeId}(hp:P b)(hb:aP A b cs T):aP B b cs T:=⟨Nat.lt_of_lt_of_le hb.1 h.size,(h.block b hp).trans hb.2⟩
theorem eK.refl(P:Nat->Prop)(A:World):eK P A A:=⟨rfl,rfl,rfl,Nl _,fun _ _=>rfl⟩
theorem eK.putObj{P:Nat->Prop}(W:World)(l:Nat)(o':Obj)(hp:¬ P l):eK P W (W.putObj l o'):=by
 have g:=grownBy_putObj' W l o';exact⟨g.os,g.tape,g.output,g.size,fun k hk=>by
  rcases Nat.lt_or_ge k W.heap.size with h|h
  ·exact g.block k h (fun e=>hp (by cases e;exact hk))
  ·have:(W.putObj l o').heap.size=W.heap.size:=by simp[World.putObj]
   rw[Array.getElem?_eq_none h,Array.getElem?_eq_none (by omega)]⟩
theorem eK.setRow{P:Nat->Prop}{A W:World}(h:eK P A W){b:Nat}(hp:¬ P b)(cs:Array Value):eK P A (W.setRow b cs) :=
 ⟨h.os,h.tape,h.output,by simp[World.setRow];exact h.size,fun k hk=>(setRow_other W b k cs (fun e=>hp (e ▸ hk))).trans (h.block k hk)⟩
theorem eK.setCell{P:Nat->Prop}{A W:World}(h:eK P A W){b:Nat}(hp:¬ P b)(v:Value):eK P A (W.setCell ⟨b,0,none⟩ v) :=
 have g:=grownBy_setCell' W b v
 ⟨g.os.trans h.os,g.tape.trans h.tape,g.output.trans h.output,Nat.le_trans h.size g.size,fun k hk=>by
  rcases Nat.lt_or_ge k W.heap.size with hl|hl
  ·exact(g.block k hl (fun e=>hp (by cases e;exact hk))).trans (h.block k hk)
  ·have hs:(W.setCell ⟨b,0,none⟩ v).heap.size=W.heap.size:=by simp[World.setCell]
   have:=h.block k hk;rw[Array.getElem?_eq_none (by omega)] at this ⊢;exact this⟩
theorem eK.of_grown{P:Nat->Prop}{A B:World}{b:Nat}(g:A.grownBy B (some b))(hb:¬ P b)(hP:∀k,P k->k<A.heap.size):eK P A B:=⟨g.os,g.tape,g.output,g.size,fun k hk=>g.block k (hP k hk) (fun e=>hb (by cases e;exact hk))⟩
theorem Bi{P:Program}{o:Oper}{a:Act}{w:World}{ty:TypeId}{x y:Operand}(ho:o.op=.store ty x y){g:Nat}(hx:a.eval x=.pointer (some ⟨g,0,none⟩)){cells:Array Value}(hy:a.eval y=.agg cells)
  {t:TypeId}{old:Array Value}(hg:aP w g old t) (hi:(P.info? ty).map (·.size)=some cells.size) (hold:old.size=cells.size) (h1:cells.all (·.oneCell')=true):(execOp a.eval o).run P w=.ok .skip (w.setRow g cells):=by
 unfold execOp;simp only[ho,hx,hy,Instr.storeAt,Instr.sureAddr,Sem.run_bind,Sem.run_pure,Result.andThen_ok,run_storeVar_row w g t ty old cells hg.2 hi hold h1]
structure Rx where
 W0:World
 b4:Nat
 b6:Nat
 b7:Nat
 arr:Array Value
 bb:Bool
def Rx.val(C:Rx)(_:Unit):Nat->Value
 |0=>.agg C.arr
 |_=>.bool C.bb
def Rx.g(C:Rx)(_:Unit)(l:Array Bool)(W:World):Prop:=(¬ lP l 2/\W=C.W0)∨(lP l 2/\W=C.W0.setRow C.b4 C.arr)
structure LaM(C:Rx)(t0:Array Value):Prop where
 sz:t0.size=17
 t4:t0[4]?=some (.pointer (some ⟨C.b4,0,none⟩))
 t6:t0[6]?=some (.pointer (some ⟨C.b6,0,none⟩))
 t7:t0[7]?=some (.pointer (some ⟨C.b7,0,none⟩))
 k4:aP C.W0 C.b4 eS 59
 k6:aP C.W0 C.b6 C.arr 59
 k7:aP C.W0 C.b7 #[.bool C.bb] 4
 n6:C.b6≠C.b4
 n7:C.b7≠C.b4
 asz:C.arr.size=21
 one:C.arr.all (·.oneCell')=true
section
variable {C:Rx}{t0:Array Value}{d0:List Deferred}{Q:Exit->Act->World->Prop}{l:Array Bool}{w:World}{n:Nat}
theorem Rx.keep{i:Nat}(hi:i≠2)(h:C.g () l w):C.g () (l.setIfInBounds i true) w:=by
 rcases h with⟨h,e⟩|⟨h,e⟩
 ·exact .inl ⟨fun h'=>h (mQ h' (Ne.symm hi)),e⟩
 ·exact .inr ⟨fH h,e⟩
theorem Rx.boxes(M:LaM C t0)(h:C.g () l w):aP w C.b6 C.arr 59/\aP w C.b7 #[.bool C.bb] 4:=by
 rcases h with⟨_,rfl⟩|⟨_,rfl⟩
 ·exact⟨M.k6,M.k7⟩
 ·exact⟨pM M.k6 M.n6,pM M.k7 M.n7⟩
end
end
section
open Go Go.RowKit Num
structure gT(w:World)(a:Option Addr)(c:Nat)(xs:List aF):Prop where
 facts:fS w a xs
 ok:∀x,x∈xs->x.ok
 len:xs.length<=1000000
theorem gT.below{w w':World}{a:Option Addr}{c:Nat}{xs:List aF}(h:gT w a c xs)(hb:Below w.heap.size w w'):gT w' a c xs:=⟨h.facts.below hb,h.ok,h.len⟩
end
section
open Go Go.RowKit Go.Shelf Num
theorem Ys:(prog.info? 9).map (fun i=>(i.zero,i.size,i.bytes))=some (some (.string ⟨#[]⟩),1,16):=by kernel_rfl
attribute [local go_sem] Oper.semAt_some
end
end Go.Proofs.YtejkibnaidiklaaGreatDoor
