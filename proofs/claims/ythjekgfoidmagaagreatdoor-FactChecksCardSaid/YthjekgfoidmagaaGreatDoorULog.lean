/- Log0 Log1 Log2 OrderIn With With2 With3 First Collect Reads -/
import Derived.Test.YthjekgfoidmagaaGreatDoorUCheck3
import Derived.Test.YthjekgfoidmagaaGreatDoorUOpen
set_option maxHeartbeats 16000000
set_option maxRecDepth 100000
namespace Go.Proofs.YthjekgfoidmagaaGreatDoor
section
open Go Go.RowKit Num
theorem aM{P:Program}{ops:Array Oper}{rest:List Oper}{o:Oper}{a:Act}{w:World}{Q:Exit->Act->World->Prop}(hgd:o.guard=none)(ty:TypeId)(x:Operand)(ho:o.op=.load ty x)
  (b off:Nat) (hx:a.eval x=.pointer (some ⟨b,off,none⟩)) (cs:Array Value) (d:TypeDesc) (hc:∀j v,cs.toList[j]?=some v->w.cell? ⟨b,off+j,none⟩=some v)
  (hu:P.underlying ty=some d) (hd:(match d with | .struct _ | .array _ _=>true|_=>false)=true) (hi:(P.info? ty).map (·.size)=some cs.size)
  (h:wpList P ops Q rest (a.put o.dst (.agg cs)) w):wpList P ops Q (o::rest) a w:=by
 refine wpList_plain hgd fun K hK=>?_
 unfold Oper.wp execOp;simp only[ho,hx,Instr.loadAt,Instr.sureAddr,Sem.run_bind,Sem.run_pure,Result.andThen_ok,jD w b off ty cs d hc hu hd hi];exact hK _ _ h
structure aF.ok(x:aF):Prop where
 small:x.f.small
 cap:x.f.picks.length<=x.pc
end
section
open Go Go.RowKit Num
structure bCg(w:World)(a:Option Addr)(c:Nat)(xs:List aF):Prop where
 facts:fS w a xs
 ok:∀x,x∈xs->x.ok
 len:xs.length<=1000000
 cap:xs.length<=c
theorem bCg.below{w w':World}{a:Option Addr}{c:Nat}{xs:List aF}(h:bCg w a c xs)(hb:Below w.heap.size w w'):bCg w' a c xs:=⟨h.facts.below hb,h.ok,h.len,h.cap⟩
theorem fS.cell{w:World}{a:Option Addr}{xs:List aF}(h:fS w a xs){k:Nat}{x:aF}(hx:xs[k]?=some x):
  ∃b off,a=some ⟨b,off,none⟩/\b<w.heap.size/\w.cell? ⟨b,off+k*21,none⟩=some (.string ⟨x.f.key.toArray⟩)/\w.cell? ⟨b,off+k*21+1,none⟩=some (.int .i64 x.f.stamp):=by
 obtain⟨b,off,ea,hl,hc⟩:=h.1.addr (k:=k) (cs:=x.cells) (by rw[List.getElem?_map,hx];rfl);exact⟨b,off,ea,hl,hc 0 _ rfl,hc 1 _ rfl⟩
end
section
open Go
section
variable {n:Nat}{P:Program}{ops:Array Oper}{Q:Exit->Act->World->Prop}{md:Region.Mode}
theorem Ft{F:Fence}(I:Array Bool->Act->World->Prop)(hdone:∀l a w,I l a w->Region.ready md ops l=[]->Q .normal a w)
  (hstep:∀l a w i,I l a w->i∈Region.ready md ops l->wpOpIn F n P ops Q i (I (l.setIfInBounds i true)) a w) :
  ∀fuel l a w,jC ops l<=fuel->I l a w->wpAnyIn F n P md ops Q fuel l a w:=by
 intro fuel
 induction fuel with
 |zero =>
  intro l a w hc hi;have hr:Region.ready md ops l=[]:=by
   cases h:Region.ready md ops l with
   |nil=>rfl
   |cons i r =>
    have:=lW (md:=md) (ops:=ops) (l:=l) (i:=i) (by rw[h];simp);omega
  exact⟨hr,hdone l a w hi hr⟩
 |succ n ih =>
  intro l a w hc hi;refine⟨hdone l a w hi,fun i hr=>wpOpIn_mono (fun a' w' h'=>ih _ a' w' ?_ h') (hstep l a w i hi hr)⟩;have:=lW hr;omega
theorem Ce{F:Fence}{i:Nat}{o:Oper}{K:Act->World->Prop}{a:Act}{w:World}(ho:ops[i]?=some o)(hg:Region.wanted o (yielded ops a.tmps)=true)(h:o.wpIn F n P a w K Q):wpOpIn F n P ops Q i K a w:=by
 unfold wpOpIn;rw[ho];simp only[hg,if_true];exact h
end
section
variable {n:Nat}{P:Program}{Q:Exit->Act->World->Prop}{o:Oper}{K:Act->World->Prop}{a:Act}{w w':World}
end
end
section
open Go Go.RowKit Go.Shelf Num
attribute [local go_sem] Oper.semAt_some
def bDn(vl yv:Value)(k:Nat)(pt:Value)(xk key:List UInt8)(kb r:Bool):Nat->Value
 |0=>vl
 |1=>.int .i64 (k:Int)
 |2=>pt
 |3=>pt
 |4=>.string ⟨xk.toArray⟩
 |5=>.string ⟨key.toArray⟩
 |6=>.bool kb
 |7=>.bool kb
 |8=>if kb=true then yv else undef
 |9=>if kb=true then .int .i64 (k:Int) else undef
 |10=>if kb=true then .bool r else undef
 |11=>if kb=true then .bool (!r) else undef
 |_=>.bool (kb && !r)
structure WC where
 l:Nat
 n₀:Nat
 W:World
 b:Nat
 off:Nat
 n:Nat
 c:Nat
 bl:Nat
 bk:Nat
 k:Nat
 xk:List UInt8
 key:List UInt8
 pre:List Nat
 t0:Array Value
def WC.val(C:WC)(kb r:Bool):Nat->Value:=bDn (.slice (some ⟨C.b,C.off,none⟩) C.n C.c) (.func (.yield C.l) #[] #[]) C.k (.pointer (some ⟨C.b,C.off+C.k*21,none⟩)) C.xk C.key kb r
structure WI(C:WC)(J Jx:List Nat->World->Prop)(kb r:Bool)(l:Array Bool)(a:Act)(w:World):Prop where
 sz:l.size=13
 ts:a.tmps.size=35
 df:a.defers=[]
 lo:∀x,x<22->a.tmps[x]?=C.t0[x]?
 vs:∀i,i<13->lP l i->a.tmps[22+i]?=some (C.val kb r i)
 c2:lP l 2->lP l 0
 c3:lP l 3->lP l 2
 c4:lP l 4->lP l 3
 c6:lP l 6->lP l 4/\lP l 5
 c7:lP l 7->lP l 6
 c10:lP l 10->lP l 7
 c11:lP l 11->lP l 10
 c12:lP l 12->lP l 11
 w1:¬ (kb=true/\lP l 10)->J C.pre w/\Below C.n₀ C.W w
 w2:kb=true->lP l 10->(r=true/\J (C.pre ++ [C.k]) w/\Below C.n₀ C.W w)∨(r=false/\Jx (C.pre ++ [C.k]) w)
section
variable {C:WC}{J Jx:List Nat->World->Prop}{kb r:Bool}{l:Array Bool}{a:Act}{w:World}{n:Nat}{Q:Exit->Act->World->Prop}
theorem WI.put{i:Nat}{v:Value}(H:WI C J Jx kb r l a w)(hi:i<13)(hu:l.getD i true=false)(h10:i≠10)(hv:v=C.val kb r i)
  (c2:i=2->lP l 0) (c3:i=3->lP l 2) (c4:i=4->lP l 3) (c6:i=6->lP l 4/\lP l 5) (c7:i=7->lP l 6) (c11:i=11->lP l 10) (c12:i=12->lP l 11):WI C J Jx kb r (l.setIfInBounds i true) (a.put (some (22+i)) v) w:=by
 subst hv;have h10':lP (l.setIfInBounds i true) 10->lP l 10:=fun h=>mQ h (Ne.symm h10)
 refine⟨by simpa using H.sz,by simpa[Act.put] using H.ts,by simpa[Act.put] using H.df,fun x hx=>(dY (by omega)).trans (H.lo x hx),fun j hj hon=>?_,fun h=>?_,fun h=>?_,fun h=>?_,fun h=>?_,fun h=>?_,fun h=>fH (H.c10 (h10' h)),fun h=>?_,fun h=>?_,fun h=>H.w1 fun h'=>h ⟨h'.1,fH h'.2⟩,fun h1 h2=>H.w2 h1 (h10' h2)⟩
 ·by_cases e:j=i
  ·subst e;exact dE (by rw[H.ts];omega)
  ·exact(dY (by omega)).trans (H.vs j hj (mQ hon e))
 ·by_cases e:i=2
  ·exact fH (c2 e)
  ·exact fH (H.c2 (mQ h (Ne.symm e)))
 ·by_cases e:i=3
  ·exact fH (c3 e)
  ·exact fH (H.c3 (mQ h (Ne.symm e)))
 ·by_cases e:i=4
  ·exact fH (c4 e)
  ·exact fH (H.c4 (mQ h (Ne.symm e)))
 ·by_cases e:i=6
  ·exact⟨fH (c6 e).1,fH (c6 e).2⟩
  ·have:=H.c6 (mQ h (Ne.symm e));exact⟨fH this.1,fH this.2⟩
 ·by_cases e:i=7
  ·exact fH (c7 e)
  ·exact fH (H.c7 (mQ h (Ne.symm e)))
 ·by_cases e:i=11
  ·exact fH (c11 e)
  ·exact fH (H.c11 (mQ h (Ne.symm e)))
 ·by_cases e:i=12
  ·exact fH (c12 e)
  ·exact fH (H.c12 (mQ h (Ne.symm e)))
theorem WI.below(H:WI C J Jx kb r l a w)(h:¬ lP l 10):Below C.n₀ C.W w:=(H.w1 fun h'=>h h'.2).2
set_option maxRecDepth 100000
end
end
section
open Go Go.RowKit Go.Shelf Num
theorem bCg.take{w:World}{a:Option Addr}{c:Nat}{xs:List aF}(h:bCg w a c xs)(k:Nat):bCg w a c (xs.take k):=by
 refine⟨⟨?_,fun x hx=>h.facts.2 x (List.mem_of_mem_take hx)⟩,fun x hx=>h.ok x (List.mem_of_mem_take hx),by have:=h.len;simp;omega,by have:=h.cap;simp;omega⟩;have:=h.facts.1.take k
 rwa [<-List.map_take] at this
end
end Go.Proofs.YthjekgfoidmagaaGreatDoor
