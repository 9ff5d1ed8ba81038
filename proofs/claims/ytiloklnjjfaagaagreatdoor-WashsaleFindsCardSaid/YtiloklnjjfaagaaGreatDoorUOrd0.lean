/- Order -/
import Derived.Test.YtiloklnjjfaagaaGreatDoorUMem
set_option maxHeartbeats 16000000
set_option maxRecDepth 100000
namespace Go.Proofs.YtiloklnjjfaagaaGreatDoor
open Go
def Kf(id:Nat):Code->Option (Array Oper)
 | .region i ops _=>if i=id then some ops else none
 | .seq a b=>(Kf id a).or (Kf id b)
 |_=>none
section
variable {P:Program}{ops:Array Oper}{Q:Exit->Act->World->Prop}{md:Region.Mode}
def jC(ops:Array Oper)(l:Array Bool):Nat:=(List.range ops.size).countP fun i=>!l.getD i true
theorem Vk{p q:Nat->Bool}{n i:Nat}(hi:i<n)(hp:p i=true)(hq:q i=false)(h:∀j,q j=true->p j=true):(List.range n).countP q<(List.range n).countP p:=by
 induction n with
 |zero=>omega
 |succ n ih =>
  rw[List.range_succ,List.countP_append,List.countP_append];have hm:(List.range n).countP q<=(List.range n).countP p:=List.countP_mono_left fun j _ hj=>h j hj
  by_cases e:i=n
  ·subst e;simp[hp,hq];omega
  ·have:=ih (by omega);have h1:[n].countP q<=[n].countP p:=List.countP_mono_left fun j _ hj=>h j hj
   omega
theorem lW{l:Array Bool}{i:Nat}(h:i∈Region.ready md ops l):jC ops (l.setIfInBounds i true)<jC ops l:=by
 obtain⟨h1,o,ho,_⟩:=mem_ready.1 h;have hi:i<ops.size:=(Ai.1 ho).1;have hl:i<l.size:=by
  rcases Nat.lt_or_ge i l.size with h|h
  ·exact h
  ·rw[Array.getD_eq_getD_getElem?,Array.getElem?_eq_none h] at h1;simp at h1
 unfold jC;refine Vk hi (by simp[h1]) (by simp[Array.getD_eq_getD_getElem?,hl]) fun j hj=>?_
 by_cases e:i=j
 ·subst e;simp[h1]
 ·rw[getD_set_ne _ e] at hj;exact hj
theorem uQ(I:Array Bool->Act->World->Prop)(hdone:∀l a w,I l a w->Region.ready md ops l=[]->Q .normal a w)
  (hstep:∀l a w i,I l a w->i∈Region.ready md ops l->wpOp P ops Q i (I (l.setIfInBounds i true)) a w) :
  ∀fuel l a w,jC ops l<=fuel->I l a w->wpAny P md ops Q fuel l a w:=by
 intro fuel
 induction fuel with
 |zero =>
  intro l a w hc hi;have hr:Region.ready md ops l=[]:=by
   cases h:Region.ready md ops l with
   |nil=>rfl
   |cons i r =>
    have:=lW (md:=md) (ops:=ops) (l:=l) (i:=i) (by rw[h];simp);omega
  exact⟨hr,hdone l a w hi hr⟩
 |succ n ih =>
  intro l a w hc hi;refine⟨hdone l a w hi,fun i hr=>wpOp_mono (fun a' w' h'=>ih _ a' w' ?_ h') (hstep l a w i hi hr)⟩;have:=lW hr;omega
theorem aG{l:Array Bool}{i d:Nat}(h:i∈Region.ready md ops l)(hd:((ops[i]?).map fun o=>o.after.any fun e=>e.on==d&&Region.binds md e)=some true):l.getD d false=true:=by
 obtain⟨_,o,ho,hall⟩:=mem_ready.1 h;rw[ho] at hd;simp only[Option.map_some,Option.some.injEq] at hd;obtain⟨k,hk,hb⟩:=Array.any_eq_true.1 hd;simp only[Bool.and_eq_true,beq_iff_eq] at hb;rw[<-hb.1];exact hall _ (Array.getElem_mem hk) hb.2
theorem Mj{l:Array Bool}(hsz:l.size=ops.size)(hfw:∀(i:Nat) (o:Oper),ops[i]?=some o->∀e∈o.after,e.on<i)(h:Region.ready md ops l=[]):∀i,i<ops.size->l.getD i true=true:=by
 intro i
 induction i using Nat.strongRecOn with
 |ind i ih =>
  intro hi;cases hl:l.getD i true with
  |true=>rfl
  |false =>
   exfalso;have:i∈Region.ready md ops l:=by
    refine mem_ready.2 ⟨hl,ops[i],Array.getElem?_eq_getElem hi,fun e he _=>?_⟩;have hlt:=hfw i ops[i] (Array.getElem?_eq_getElem hi) e he;have:=ih e.on hlt (by omega);rw[Array.getD_eq_getD_getElem?,Array.getElem?_eq_getElem (by omega)] at this ⊢;exact this
   rw[h] at this;simp at this
theorem bU{i:Nat}{o:Oper}{K:Act->World->Prop}{a:Act}{w:World}(ho:ops[i]?=some o)(hg:o.guard=none)(h:o.wp P a w K Q):wpOp P ops Q i K a w:=by
 unfold wpOp;rw[ho];simp only[Region.wanted,hg,if_true];exact .inl h
end
section
variable {P:Program}{Q:Exit->Act->World->Prop}{o:Oper}{K:Act->World->Prop}{a:Act}{w:World}
theorem sI{x:Operand}(hop:o.op=.move x)(h:K (a.put o.dst (a.eval x)) w):o.wp P a w K Q:=by
 unfold Oper.wp;simp[execOp,hop];exact h
theorem Gt{x:Operand}(hop:o.op=.assign x)(h:K (a.put o.dst (a.eval x)) w):o.wp P a w K Q:=by
 unfold Oper.wp;simp[execOp,hop];exact h
theorem fZ{t:TypeId}(hop:o.op=.makeMap t none)(h:K (a.put o.dst (.map (some w.heap.size))) (w.alloc (.map #[] 0))):o.wp P a w K Q:=by
 unfold Oper.wp;simp[execOp,hop,RowKit.run_makeMap,Result.andThen];exact h
theorem Gs{t:TypeId}{m x v:Operand}{w':World}(hop:o.op=.insert t m x v)(hrun:(Instr.mapUpdate t (a.eval m) (a.eval x) (a.eval v)).run P w=.ok () w')(h:K (a.put o.dst undef) w'):o.wp P a w K Q:=by
 unfold Oper.wp;simp[execOp,hop,hrun,Result.andThen];exact h
theorem Kr{t:TypeId}{x:Operand}{v:Value}(hop:o.op=.load t x)(hrun:(Instr.loadAt t (a.eval x)).run P w=.ok v w)(h:K (a.put o.dst v) w):o.wp P a w K Q:=by
 unfold Oper.wp;simp[execOp,hop,hrun,Result.andThen];exact h
theorem Dp{t:TypeId}{n:Nat}{ps:Array (Nat×Operand)}{v:Value}{w':World}(hop:o.op=.buildSlice t n ps)(hrun:(Instr.buildSlice t n (ps.map fun (i,x)=>(i,a.eval x))).run P w=.ok v w')(h:K (a.put o.dst v) w'):o.wp P a w K Q:=by
 unfold Oper.wp;simp[execOp,hop,hrun,Result.andThen];exact h
theorem nY{f:FuncId}{lb:Array Value}{c:Operand}{args:Array Operand}{ts:Array TypeId}(hop:o.op=.call { callee:=.value c,args:=args,argTypes:=ts })(hc:a.eval c=.func (.func f) #[] lb)(eg:∀args w,(callFunc f args).run P w=.ok (.enter f args) w)
  (h:Calls P f (args.map a.eval++lb) w fun e w'=>∃v,e=.returned v/\K (a.put o.dst v) w'):o.wp P a w K Q:=by
 have h1:resolve a.eval { callee:=.value c,args:=args,argTypes:=ts } o.type=pure { target:=.fn (.func f) lb,args:=args.map a.eval }:=by
  simp only[resolve,hc,Deferred.ofValue];simp
 have h2:(execOp a.eval o).run P w=.ok (.enter f (args.map a.eval++lb)) w:=by
  unfold execOp;rw[hop];simp only[h1];simp[invoke,eg]
 unfold Oper.wp;rw[h2];refine h.mono ?_;rintro e w' ⟨v,rfl,hk⟩;exact hk
end
end Go.Proofs.YtiloklnjjfaagaaGreatDoor
