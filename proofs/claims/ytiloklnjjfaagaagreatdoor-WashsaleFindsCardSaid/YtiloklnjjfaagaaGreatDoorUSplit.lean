/- Aging Split Sums Terms -/
import Derived.Test.YtiloklnjjfaagaaGreatDoorUOpen
import Derived.Test.YtiloklnjjfaagaaGreatDoorUGainA
set_option maxHeartbeats 16000000
set_option maxRecDepth 100000
namespace Go.Proofs.YtiloklnjjfaagaaGreatDoor
open Go.Proofs.Tryz
section
open Go.RowKit Num Dt
attribute [local go_sem] eW eN aV nW
theorem aP.set{w:World}{b:Nat}{cs:Array Value}{T:TypeId}{p:Addr}(h:aP w b cs T)(hne:b≠p.block)(v:Value):aP (w.setCell p v) b cs T :=
 ⟨by simpa[World.setCell] using h.1,(Below.heap_setCell w p v b hne).trans h.2⟩
end
section
open Go.RowKit Num Dt
attribute [local go_sem] eW eN aV nW
def aMk(gs:List aLe):List Value:=gs.flatMap (fun x=>x.cs.toList)
theorem aN8(a b:List aLe):aMk (a++b)=aMk a++aMk b:=by simp[aMk]
theorem aO3(x:aLe):aMk [x]=x.cs.toList:=by simp[aMk]
theorem aNi(x:aLe)(r:List aLe):aMk (x::r)=x.cs.toList++aMk r:=by simp[aMk]
theorem aMf:∀gs:List aLe,(aMk gs).length=gs.length*10
 | []=>rfl
 |x::r=>by
  rw[aNi,List.length_append,aMf r,show x.cs.toList.length=10 from rfl,List.length_cons];omega
theorem aM2:∀(gs:List aLe) (k:Nat) (x:aLe) (j:Nat),gs[k]?=some x->j<10->(aMk gs)[k*10+j]?=x.cs[j]?
 | [],k,x,j,h,_=>by simp at h
 |y::r,0,x,j,h,hj=>by
  simp at h;subst h;simp only[aMk,List.flatMap_cons];rw[List.getElem?_append_left (by simp[aLe.cs];omega)];simp
 |y::r,k+1,x,j,h,hj=>by
  have ih:=aM2 r k x j (by simpa using h) hj;simp only[aMk,List.flatMap_cons] at *;have hl:y.cs.toList.length=10:=rfl;rw[List.getElem?_append_right (by omega),hl,show (k+1)*10+j-10=k*10+j by omega];exact ih
theorem aNp{w:World}{a:Option Addr}{gs:List aLe}(h:dT w a (aMk gs)):aL3 w a gs:=by
 by_cases h0:gs=[]
 ·exact .inl h0
 ·obtain⟨b,off,ha,hlt,hc⟩:=h.addr (by
   intro e;have h1:=aMf gs;rw[e] at h1;have h2:gs.length≠0:=by simpa using h0
   have h3:gs.length*10=0:=h1.symm;omega)
  refine .inr ⟨b,off,ha,hlt,fun k x hx=>?_⟩;have key:∀j v,j<10->x.cs[j]?=some v->w.cell? ⟨b,off+k*10+j,none⟩=some v:=fun j v hj hv=>by
   rw[Nat.add_assoc];exact hc _ v (by rw[aM2 gs k x j hx hj];exact hv)
  exact⟨key 0 _ (by decide) rfl,key 1 _ (by decide) rfl,key 2 _ (by decide) rfl,key 3 _ (by decide) rfl,key 4 _ (by decide) rfl,key 5 _ (by decide) rfl,key 6 _ (by decide) rfl,key 7 _ (by decide) rfl,key 8 _ (by decide) rfl,key 9 _ (by decide) rfl⟩
theorem aO2(x:aLe):∀u,u∈x.cs.toList->u.oneCell'=true:=by
 intro u hu;simp only[aLe.cs,List.mem_cons,List.mem_nil_iff,or_false] at hu;rcases hu with rfl|rfl|rfl|rfl|rfl|rfl|rfl|rfl|rfl|rfl <;> rfl
def aPc:Value:=.agg #[.string ⟨#[]⟩,.string ⟨#[]⟩,.string ⟨#[]⟩,.int .i64 0,.int .i64 0,.string ⟨#[]⟩,.string ⟨#[]⟩,.string ⟨#[]⟩,.string ⟨#[]⟩,.string ⟨#[]⟩]
theorem aO1:(prog.info? 42).map (fun i=>(i.zero,i.size,i.bytes))=some (some aPc,10,144):=by kernel_rfl
theorem aNo{p:aLe->Bool}{gs:List aLe}{k:Nat}{x:aLe}(hx:gs[k]?=some x):(gs.take (k+1)).filter p=(gs.take k).filter p++(if p x=true then[x] else[]):=by
 rw[List.take_add_one,hx,List.filter_append];cases h:p x <;> simp[h]
noncomputable def aLe.long(m:Int)(x:aLe):Bool:=aPe x.acq x.cls m
def aNv(gs:List aLe)(m:Int):Int:=if gs.any aLe.bad=true then 1 else if bad m=true then 2 else 0
noncomputable def aOz(gs:List aLe)(m:Int):List aLe×List aLe:=if aNv gs m=0 then(gs.filter (aLe.long m),gs.filter fun x=>!x.long m) else([],[])
end
section
open Go.RowKit Num Dt
attribute [local go_sem] eW eN aV nW
def aLe.real(x:aLe):Int:=val x.p-val x.c+val x.df
def aLe.realT(x:aLe):List UInt8:=if x.err=0 then aJ x.real else[]
def bZh(f:aLe->List UInt8)(gs:List aLe):Int:=(gs.map (fun x=>val (f x))).sum
theorem dCb{f:aLe->List UInt8}{gs:List aLe}{k:Nat}{x:aLe}(hx:gs[k]?=some x):bZh f (gs.take (k+1))=bZh f (gs.take k)+val (f x):=by
 unfold bZh;rw[List.take_add_one,hx];simp
theorem dCh{x:aLe}(hs:x.small):x.realT.length<=2000:=by
 unfold aLe.realT aLe.real;split
 ·have h1:=Np (l:=x.p) (m:=x.c) (K:=13) hs.2.2.2.2.1 hs.2.2.2.2.2.1;have h2:=aPa (l:=aJ (val x.p-val x.c)) (m:=x.df) (K:=15) h1 (by have:=hs.2.2.2.2.2.2.1;omega);rw[bE] at h2;omega
 ·simp
noncomputable def dCo(gs:List aLe)(m:Int):List UInt8×List UInt8:=if aNv gs m=0 then(aJ (bZh aLe.realT (aOz gs m).1),aJ (bZh aLe.realT (aOz gs m).2)) else([],[])
theorem dAx(gs:List aLe)(m:Int):(∀x,x∈(aOz gs m).1->x∈gs)/\(∀x,x∈(aOz gs m).2->x∈gs)/\(aOz gs m).1.length<=gs.length/\(aOz gs m).2.length<=gs.length:=by
 unfold aOz;split
 ·exact⟨fun x hx=>(List.mem_filter.1 hx).1,fun x hx=>(List.mem_filter.1 hx).1,List.length_filter_le _ _,List.length_filter_le _ _⟩
 ·simp
end
section
open Go.RowKit Num Dt
attribute [local go_sem] eW eN aV nW
noncomputable def dBr(gs:List aLe)(m:Int):List Value:=if aNv gs m=0 then[(.string ⟨#[112,114,111,99,101,101,100,115]⟩),Pm (aJ (bZh aLe.p gs)),(.string ⟨#[99,111,115,116]⟩),Pm (aJ (bZh aLe.c gs)),(.string ⟨#[108,111,110,103,112,114,111,99,101,101,100,115]⟩),Pm (aJ (bZh aLe.p (aOz gs m).1)),(.string ⟨#[108,111,110,103,99,111,115,116]⟩),Pm (aJ (bZh aLe.c (aOz gs m).1))] else[]
def dCe(gs:List aLe)(m:Int):Nat:=if aNv gs m=0 then 4 else 0
end
end Go.Proofs.YtiloklnjjfaagaaGreatDoor
