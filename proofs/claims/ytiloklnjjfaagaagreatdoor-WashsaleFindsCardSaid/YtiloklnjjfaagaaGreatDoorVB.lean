/- WashM WashMem WashMem2 WNext WashClone -/
import Derived.Test.YtiloklnjjfaagaaGreatDoorUSplit
import Derived.Test.YtiloklnjjfaagaaGreatDoorUWashP
import Derived.Deep.AppendLies
import Derived.Lib.AppendZeros
import Derived.Lib.JoinLaws
set_option maxHeartbeats 16000000
set_option maxRecDepth 100000
namespace Go.Proofs.YtiloklnjjfaagaaGreatDoor
open Go.Proofs.Tryz
section
open Go Go.RowKit Num
def Bd.cs(x:Bd):Array Value:=#[.string ⟨x.id.toArray⟩,.string ⟨x.ins.toArray⟩,.int .i64 x.acq,.int .i64 x.opn,.string ⟨x.q.toArray⟩,.string ⟨x.c.toArray⟩,.string ⟨x.u.toArray⟩]
def dAf{α:Type}(e:α->Array Value)(l:List α):List Value:=l.flatMap (fun x=>(e x).toList)
section
variable {α:Type}{e:α->Array Value}
theorem dDd(a b:List α):dAf e (a++b)=dAf e a++dAf e b:=by simp[dAf]
theorem dFg(x:α):dAf e [x]=(e x).toList:=by simp[dAf]
theorem dDv(x:α)(r:List α):dAf e (x::r)=(e x).toList++dAf e r:=by simp[dAf]
theorem dCx{m:Nat}(he:∀x,(e x).size=m):∀l:List α,(dAf e l).length=l.length*m
 | []=>by simp[dAf]
 |x::r=>by
  rw[dDv,List.length_append,dCx he r,Array.length_toList,he,List.length_cons,Nat.succ_mul,Nat.add_comm]
theorem dDl{m:Nat}(he:∀x,(e x).size=m):∀(l:List α) (k:Nat) (x:α) (j:Nat),l[k]?=some x->j<m->(dAf e l)[k*m+j]?=(e x)[j]?
 | [],k,x,j,h,_=>by simp at h
 |y::r,0,x,j,h,hj=>by
  simp at h;subst h;rw[dDv,List.getElem?_append_left (by rw[Array.length_toList,he];omega)];simp
 |y::r,k+1,x,j,h,hj=>by
  have ih:=dDl he r k x j (by simpa using h) hj;have hl:(e y).toList.length=m:=by rw[Array.length_toList,he]
  rw[dDv,List.getElem?_append_right (by rw[hl,Nat.succ_mul];omega),hl,show (k+1)*m+j-m=k*m+j by rw[Nat.succ_mul];omega];exact ih
theorem dE0{m:Nat}(he:∀x,(e x).size=m)(xs:List α)(k:Nat):(dAf e xs).take (k*m)=dAf e (xs.take k):=by
 rcases Nat.le_total k xs.length with h|h
 ·have e':dAf e xs=dAf e (xs.take k)++dAf e (xs.drop k):=by rw[<-dDd,List.take_append_drop]
  rw[e',List.take_left' (by rw[dCx he,List.length_take];congr 1;omega)]
 ·rw[List.take_of_length_le (by rw[dCx he];exact Nat.mul_le_mul_right m h),List.take_of_length_le h]
theorem dE1{m:Nat}(he:∀x,(e x).size=m)(xs:List α)(k:Nat):(dAf e xs).drop (k*m)=dAf e (xs.drop k):=by
 rcases Nat.le_total k xs.length with h|h
 ·have e':dAf e xs=dAf e (xs.take k)++dAf e (xs.drop k):=by rw[<-dDd,List.take_append_drop]
  rw[e',List.drop_left' (by rw[dCx he,List.length_take];congr 1;omega)]
 ·rw[List.drop_eq_nil_of_le (by rw[dCx he];exact Nat.mul_le_mul_right m h),List.drop_eq_nil_of_le h];rfl
theorem dFf{m:Nat}(he:∀x,(e x).size=m){l:List α}{k:Nat}{x y:α}(h:l[k]?=some x)(j:Nat):(dAf e (l.set k y))[j]?=if k*m<=j/\j<k*m+m then(e y)[j-k*m]? else(dAf e l)[j]? := by
 have hk:=(Li.1 h).1;have e1:l.set k y=l.take k++y::l.drop (k+1):=by rw[List.set_eq_take_append_cons_drop,if_pos hk]
 have hlt:(dAf e (l.take k)).length=k*m:=by rw[dCx he,List.length_take];congr 1;omega
 rw[e1,dDd,dDv]
 by_cases h1:j<k*m
 ·rw[if_neg (by omega),List.getElem?_append_left (by omega),<-dE0 he,List.getElem?_take,if_pos h1]
 ·rw[List.getElem?_append_right (by omega),hlt]
  by_cases h2:j<k*m+m
  ·rw[if_pos (by omega),List.getElem?_append_left (by rw[Array.length_toList,he];omega),Array.getElem?_toList]
  ·rw[if_neg (by omega),List.getElem?_append_right (by rw[Array.length_toList,he];omega),Array.length_toList,he,<-dE1 he,List.getElem?_drop];congr 1;rw[Nat.succ_mul];omega
end
theorem dDe(x:Bd):x.cs.size=7:=rfl
theorem dC3(x:aLe):x.cs.size=10:=rfl
theorem dF6(x:Bd):x.cs.all (·.oneCell')=true:=by simp[Bd.cs,Value.oneCell']
theorem dGw(x:aLe):x.cs.all (·.oneCell')=true:=by simp[aLe.cs,Value.oneCell']
theorem dI6(gs:List aLe):aMk gs=dAf aLe.cs gs:=rfl
def dFa:Value:=.agg #[.string ⟨#[]⟩,.string ⟨#[]⟩,.int .i64 0,.int .i64 0,.string ⟨#[]⟩,.string ⟨#[]⟩,.string ⟨#[]⟩]
theorem dF8:(prog.info? 49).map (fun i=>(i.zero,i.size,i.bytes))=some (some dFa,7,96):=by kernel_rfl
theorem dDk{W:World}{B0:Nat}{T:TypeId}{m n:Nat}{v:Value}{xs:List Value}(h:W.ownsRow B0 T m v n xs)(hn:0<n):
  ∃g cap f,v=.slice (some ⟨g,0,none⟩) n cap/\B0<=g/\n<=cap/\cap<=maxLen/\W.rowIs g T (cap*m) f/\∀j u,xs[j]?=some u->f j=u:=by
 obtain⟨_,⟨_,h2⟩|⟨g,cap,cur,h1,h2,h3,h4,h5,h6,h7⟩⟩:=h
 ·omega
 ·refine⟨g,cap,fun j=>cur.getD j default,h1,h2,h4,h5,⟨cur,h3,h6,fun i hi=>?_⟩,fun j u hu=>?_⟩
  ·show cur[i]?=some (cur.getD i default);rw[Array.getD_eq_getD_getElem?,Array.getElem?_eq_getElem (by omega)];rfl
  ·rw[<-h7,List.getElem?_take] at hu;split at hu
   ·rw[Array.getElem?_toList] at hu;show cur.getD j default=u;rw[Array.getD_eq_getD_getElem?,hu];rfl
   ·cases hu
theorem dE3{W:World}{B0:Nat}{T:TypeId}{m n g cap:Nat}{f:Nat->Value}{xs:List Value}(hb:B0<=g)(hnc:n<=cap)(hc:cap<=maxLen)(hr:W.rowIs g T (cap*m) f)(hl:xs.length=n*m)(hf:∀j u,xs[j]?=some u->f j=u):
  W.ownsRow B0 T m (.slice (some ⟨g,0,none⟩) n cap) n xs:=by
 obtain⟨cur,h1,h2,h3⟩:=hr;refine⟨hl,.inr ⟨g,cap,cur,rfl,hb,h1,hnc,hc,h2,?_⟩⟩;have hlm:n*m<=cap*m:=Nat.mul_le_mul_right m hnc;refine List.ext_getElem? fun j=>?_
 rw[List.getElem?_take];split
 ·rename_i hj;rw[Array.getElem?_toList,h3 j (by omega),Lg (by omega)];exact congrArg some (hf j _ (Lg (by omega)))
 ·rename_i hj;rw[List.getElem?_eq_none (by omega)]
theorem dDo{α:Type}{e:α->Array Value}{m:Nat}(he:∀x,(e x).size=m){W:World}{B0:Nat}{T:TypeId}{v:Value}{l:List α}(h:W.ownsRow B0 T m v l.length (dAf e l)){k:Nat}{x:α}(hx:l[k]?=some x):
  ∃g cap,v=.slice (some ⟨g,0,none⟩) l.length cap/\B0<=g/\(∃cur,W.heap[g]?=some (Obj.cells cur T (0,0)))/\l.length<=cap/\(∀j u,(e x)[j]?=some u->W.cell? ⟨g,k*m+j,none⟩=some u)/\W.there g (k*m) m /\
   ∀y,(W.setCells g (k*m) (e y).toList).ownsRow B0 T m v l.length (dAf e (l.set k y)):=by
 have hk:=(Li.1 hx).1;obtain⟨g,cap,f,rfl,hb,hnc,hc,hr,hf⟩:=dDk h (by omega);have hkm:k*m+m<=cap*m:=by
  have:=Nat.mul_le_mul_right m (show k+1<=cap by omega)
  rwa [Nat.succ_mul] at this
 refine⟨g,cap,rfl,hb,?_,hnc,fun j u hu=>?_,fun j hj=>⟨by rw[hr.cell (by omega)];rfl,hr.frozen _⟩,fun y=>?_⟩
 ·obtain⟨cur,h1,_⟩:=hr;exact⟨cur,h1⟩
 ·have hj:j<m:=by have:=(Ai.1 hu).1;rwa [he] at this
  rw[hr.cell (by omega)];exact congrArg some (hf _ _ ((dDl he l k x j hx hj).trans hu))
 ·refine dE3 hb hnc hc (rowIs_setCells (e y).toList (k*m) W f hr) (by rw[dCx he,List.length_set]) fun j u hu=>?_
  rw[dFf he hx] at hu;rw[Array.length_toList,he];split at hu
  ·rename_i hj;rw[if_pos hj,Array.getElem?_toList,hu];rfl
  ·rename_i hj;rw[if_neg hj];exact hf j u hu
theorem dEu{α:Type}{e:α->Array Value}{m n:Nat}{W:World}{B0:Nat}{T:TypeId}{v:Value}{l:List α}{i:Nat}{y:α}(h:W.ownsRow B0 T m v n (dAf e (l.set i y)))(hn:n=l.length):W.ownsRow B0 T m v (l.set i y).length (dAf e (l.set i y)):=by
 rw[List.length_set,<-hn];exact h
theorem dFu{α:Type}{e:α->Array Value}{m:Nat}(he:∀x,(e x).size=m){W:World}{B0:Nat}{T:TypeId}{n g cap:Nat}{l:List α}(h:W.ownsRow B0 T m (.slice (some ⟨g,0,none⟩) n cap) l.length (dAf e l)){k j:Nat}{x y:α}{u:Value}(hx:l[k]?=some x)(hj:j<m)(hy:e y=(e x).setIfInBounds j u):
  (W.setCell ⟨g,k*m+j,none⟩ u).ownsRow B0 T m (.slice (some ⟨g,0,none⟩) n cap) l.length (dAf e (l.set k y)):=by
 have hk:=(Li.1 hx).1;obtain⟨g',cap',f,ev,hb,hnc,hc,hr,hf⟩:=dDk h (by omega);injection ev with e1 e2 e3
 injection e1 with e1
 injection e1 with e1
 subst e1 e2 e3;refine dE3 hb hnc hc (hr.set (k*m+j) u) (by rw[dCx he,List.length_set]) fun i v hv=>?_
 rw[dFf he hx] at hv;show (if i=k*m+j then u else f i)=v
 by_cases h1:k*m<=i/\i<k*m+m
 ·rw[if_pos h1,hy,Array.getElem?_setIfInBounds] at hv
  by_cases h2:j=i-k*m
  ·rw[if_pos h2,he,if_pos hj] at hv;rw[if_pos (by omega)];exact Option.some.inj hv
  ·rw[if_neg h2] at hv;rw[if_neg (by omega)];refine hf i v ?_;rw[show i=k*m+(i-k*m) by omega,dDl he l k x _ hx (by omega)];exact hv
 ·rw[if_neg h1] at hv;rw[if_neg (by omega)];exact hf i v hv
def dCk(T:TypeId)(W W':World):Prop:=∀(b:Nat) (cs:Array Value),W.heap[b]?=some (Obj.cells cs T (0,0))->W'.heap[b]?=some (Obj.cells cs T (0,0))
theorem dCk.owns{T:TypeId}{W W':World}{B0 m n:Nat}{v:Value}{xs:List Value}(h:dCk T W W')(ho:W.ownsRow B0 T m v n xs):W'.ownsRow B0 T m v n xs:=by
 obtain⟨h0,h1|⟨g,cap,cur,h1,h2,h3,h4⟩⟩:=ho
 ·exact⟨h0,.inl h1⟩
 ·exact⟨h0,.inr ⟨g,cap,cur,h1,h2,h _ _ h3,h4⟩⟩
theorem dCk.box{T:TypeId}{W W':World}{b:Nat}{cs:Array Value}(h:dCk T W W')(hb:aP W b cs T):aP W' b cs T:=⟨(Ai.1 (h _ _ hb.2)).1,h _ _ hb.2⟩
theorem dCk.of_below{W W':World}(T:TypeId)(h:Below W.heap.size W W'):dCk T W W':=fun b _ hb=>(h.block b (Ai.1 hb).1).trans hb
theorem dCk.trans{T:TypeId}{A B C:World}(h:dCk T A B)(g:dCk T B C):dCk T A C:=fun b cs hb=>g b cs (h b cs hb)
theorem dC7{g:Nat}:∀(vs:List Value) (o:Nat) (W:World) (b:Nat),b≠g->(W.setCells g o vs).heap[b]?=W.heap[b]?
 | [],_,_,_,_=>rfl
 |v::r,o,W,b,h=>by
  rw[World.setCells,dC7 r (o+1) _ b h];exact Deep.blk_setCell_other _ _ _ _ h
theorem dCk.setCells{T T':TypeId}{W:World}{g o:Nat}{vs:List Value}(ht:T'≠T)(hg:∃cur,W.heap[g]?=some (Obj.cells cur T' (0,0))):dCk T W (W.setCells g o vs):=fun b cs hb=>by
 rw[dC7 vs o W b (fun e=>by
  obtain⟨cur,hg⟩:=hg;subst e;rw[hg] at hb;injection hb with hb
  injection hb with _ hb
  exact ht hb)]
 exact hb
theorem dCk.grown{T T':TypeId}{W W':World}{v:Value}{B0 m n:Nat}{xs:List Value}(ht:T'≠T)(ho:W.ownsRow B0 T' m v n xs)(hg:W.grownBy W' v.ownBlock):dCk T W W':=fun b cs hb=>by
 refine(hg.block b (Ai.1 hb).1 fun e=>?_).trans hb;obtain⟨_,⟨rfl,_⟩|⟨g,cap,cur,rfl,_,h3,_⟩⟩:=ho
 ·cases e
 ·injection e with e
  subst e;rw[hb] at h3;injection h3 with h3
  injection h3 with _ h3
  exact ht h3.symm
theorem dDi{B0:Nat}{W W':World}{g o:Nat}{vs:List Value}(h:Below B0 W W')(hg:B0<=g):Below B0 W (W'.setCells g o vs):=below_setCells hg _ _ _ h
theorem KeepsOthers.setCells(g:Nat):∀(vs:List Value) (o:Nat) (W:World),KeepsOthers W (W.setCells g o vs)
 | [],_,W=>KeepsOthers.refl W
 |v::r,o,W=>(KeepsOthers.setCell W ⟨g,o,none⟩ v).trans (KeepsOthers.setCells g r (o+1) _)
theorem KeepsOthers.of_below{W W':World}(h:Below W.heap.size W W'):KeepsOthers W W':=⟨h.size,fun k _ ho _=>(h.block k (Ai.1 ho).1).trans ho⟩
theorem KeepsOthers.owned{T:TypeId}{W W':World}{v:Value}{B0 m n:Nat}{xs:List Value}(ho:W.ownsRow B0 T m v n xs)(hg:W.grownBy W' v.ownBlock):KeepsOthers W W' :=
 KeepsOthers.of_grownBy hg fun j o e hj=>by
  obtain⟨_,⟨rfl,_⟩|⟨g,cap,cur,rfl,_,h3,_⟩⟩:=ho
  ·cases e
  ·injection e with e
   subst e;rw[h3] at hj;injection hj with hj
   subst hj;rfl
theorem dDb{W:World}{B0:Nat}{v:Value}{ls:List Bd}(h:W.ownsRow B0 49 7 v ls.length (dAf Bd.cs ls)):∃a c,v=.slice a ls.length c/\ls.length<=c/\Jj W a ls:=by
 by_cases h0:ls=[]
 ·subst h0;obtain⟨_,⟨h1,_⟩|⟨g,cap,cur,h1,_⟩⟩:=h
  ·exact⟨none,0,h1,Nl _,.inl rfl⟩
  ·exact⟨some ⟨g,0,none⟩,cap,h1,Nat.zero_le _,.inl rfl⟩
 ·have hn:0<ls.length:=List.length_pos_iff.2 h0;obtain⟨g,cap,f,h1,hb,hnc,hc,hr,hf⟩:=dDk h hn;refine⟨some ⟨g,0,none⟩,cap,h1,hnc,.inr ⟨g,0,rfl,hr.lt,fun k x hx=>?_⟩⟩;have hk:=(Li.1 hx).1;have key:∀j v,j<7->x.cs[j]?=some v->W.cell? ⟨g,0+k*7+j,none⟩=some v:=fun j v hj hv=>by
   rw[Nat.zero_add,hr.cell (by omega)];exact congrArg some (hf _ _ ((dDl dDe ls k x j hx hj).trans hv))
  exact⟨key 0 _ (by decide) rfl,key 1 _ (by decide) rfl,key 2 _ (by decide) rfl,key 3 _ (by decide) rfl,key 4 _ (by decide) rfl,key 5 _ (by decide) rfl,key 6 _ (by decide) rfl⟩
theorem dDu{W:World}{B0:Nat}{v:Value}{gs:List aLe}(h:W.ownsRow B0 42 10 v gs.length (dAf aLe.cs gs)):∃a c,v=.slice a gs.length c/\gs.length<=c/\aL3 W a gs:=by
 by_cases h0:gs=[]
 ·subst h0;obtain⟨_,⟨h1,_⟩|⟨g,cap,cur,h1,_⟩⟩:=h
  ·exact⟨none,0,h1,Nl _,.inl rfl⟩
  ·exact⟨some ⟨g,0,none⟩,cap,h1,Nat.zero_le _,.inl rfl⟩
 ·have hn:0<gs.length:=List.length_pos_iff.2 h0;obtain⟨g,cap,f,h1,hb,hnc,hc,hr,hf⟩:=dDk h hn;refine⟨some ⟨g,0,none⟩,cap,h1,hnc,.inr ⟨g,0,rfl,hr.lt,fun k x hx=>?_⟩⟩;have hk:=(Li.1 hx).1;have key:∀j v,j<10->x.cs[j]?=some v->W.cell? ⟨g,0+k*10+j,none⟩=some v:=fun j v hj hv=>by
   rw[Nat.zero_add,hr.cell (by omega)];exact congrArg some (hf _ _ ((dDl dC3 gs k x j hx hj).trans hv))
  exact⟨key 0 _ (by decide) rfl,key 1 _ (by decide) rfl,key 2 _ (by decide) rfl,key 3 _ (by decide) rfl,key 4 _ (by decide) rfl,key 5 _ (by decide) rfl,key 6 _ (by decide) rfl,key 7 _ (by decide) rfl,key 8 _ (by decide) rfl,key 9 _ (by decide) rfl⟩
theorem aP.overW{w w':World}{b B:Nat}{cs:Array Value}{T:TypeId}(h:aP w b cs T)(hb:Below B w w')(hlt:b<B):aP w' b cs T:=⟨Nat.lt_of_lt_of_le h.1 hb.size,(hb.block b hlt).trans h.2⟩
theorem dC4{P:Program}{o:Oper}{a:Act}{ty:TypeId}{x:Operand}{b off:Nat}{cs:Array Value}{d:TypeDesc}{w:World}(ho:o.op=.load ty x)(hx:a.eval x=.pointer (some ⟨b,off,none⟩))(hc:∀j u,cs[j]?=some u->w.cell? ⟨b,off+j,none⟩=some u)
  (hu:P.underlying ty=some d) (hd:d.isRow=true) (hi:(P.info? ty).map (·.size)=some cs.size):(execOp a.eval o).run P w=.ok (.value (.agg cs)) w:=by
 have h:=run_loadAt_mid (P:=P) w b off ty cs.toList d (fun j u hu=>hc j u (by rwa [Array.getElem?_toList] at hu)) hu hd (by rw[Array.length_toList];exact hi);rw[Array.toArray_toList] at h;unfold execOp;simp only[ho,hx,Sem.run_bind,Result.andThen_ok,h];rfl
theorem dEr{P:Program}{o:Oper}{a:Act}{w:World}{ty:TypeId}{x y:Operand}(ho:o.op=.store ty x y){b off:Nat}(hx:a.eval x=.pointer (some ⟨b,off,none⟩)){cs:Array Value}(hy:a.eval y=.agg cs)
  (ht:w.there b off cs.size) (hi:(P.info? ty).map (·.size)=some cs.size) (h1:cs.all (·.oneCell')=true):(execOp a.eval o).run P w=.ok .skip (w.setCells b off cs.toList):=by
 have h:=run_storeAt_mid (P:=P) w b off ty cs ht hi h1;unfold execOp;simp only[ho,hx,hy,Sem.run_bind,Result.andThen_ok,h];rfl
theorem aP.at0{w:World}{b:Nat}{cs:Array Value}{T:TypeId}(h:aP w b cs T):∀j u,cs[j]?=some u->w.cell? ⟨b,0+j,none⟩=some u:=fun j u hu=>by
 rw[Nat.zero_add,h.cell j];exact hu
theorem aP.there{w:World}{b:Nat}{cs:Array Value}{T:TypeId}(h:aP w b cs T):w.there b 0 cs.size:=fun j hj=>by
 rw[Nat.zero_add];exact⟨by rw[h.cell j,Array.getElem?_eq_getElem hj];rfl,aR h.2 j⟩
theorem aP.setC{W:World}{b i:Nat}{cs:Array Value}{v:Value}{T:TypeId}(h:aP W b cs T):aP (W.setCell ⟨b,i,none⟩ v) b (cs.setIfInBounds i v) T:=by
 refine⟨by rw[show (W.setCell ⟨b,i,none⟩ v).heap.size=W.heap.size by simp[World.setCell]];exact h.1,?_⟩;simp[World.setCell,Array.getElem?_modify,h.2]
theorem aP.setO{W:World}{b:Nat}{p:Addr}{cs:Array Value}{v:Value}{T:TypeId}(h:aP W b cs T)(hne:b≠p.block):aP (W.setCell p v) b cs T :=
 ⟨by rw[show (W.setCell p v).heap.size=W.heap.size by simp[World.setCell]];exact h.1,(Deep.blk_setCell_other _ _ _ _ hne).trans h.2⟩
theorem aP.lot{W:World}{b:Nat}{x:Bd}{T:TypeId}(h:aP W b x.cs T):W.cell? ⟨b,0,none⟩=some (Pm x.id)/\W.cell? ⟨b,1,none⟩=some (Pm x.ins)/\W.cell? ⟨b,2,none⟩=some (.int .i64 x.acq)/\W.cell? ⟨b,3,none⟩=some (.int .i64 x.opn)/\W.cell? ⟨b,4,none⟩=some (Pm x.q)/\W.cell? ⟨b,5,none⟩=some (Pm x.c)/\W.cell? ⟨b,6,none⟩=some (Pm x.u) :=
 ⟨h.cell 0,h.cell 1,h.cell 2,h.cell 3,h.cell 4,h.cell 5,h.cell 6⟩
theorem aP.set7{W:World}{b:Nat}{T:TypeId}{v0 v1 v2 v3 v4 v5 v6:Value}(u0 u1 u2 u3 u4 u5 u6:Value)(h:aP W b #[v0,v1,v2,v3,v4,v5,v6] T):aP (W.setCells b 0 [u0,u1,u2,u3,u4,u5,u6]) b #[u0,u1,u2,u3,u4,u5,u6] T:=by
 have h0:=h.setC (i:=0) (v:=u0);simp only[List.setIfInBounds_toArray,List.set_cons_zero] at h0;have h1:=h0.setC (i:=1) (v:=u1);simp only[List.setIfInBounds_toArray,List.set_cons_zero,List.set_cons_succ] at h1;have h2:=h1.setC (i:=2) (v:=u2);simp only[List.setIfInBounds_toArray,List.set_cons_zero,List.set_cons_succ] at h2;have h3:=h2.setC (i:=3) (v:=u3);simp only[List.setIfInBounds_toArray,List.set_cons_zero,List.set_cons_succ] at h3;have h4:=h3.setC (i:=4) (v:=u4);simp only[List.setIfInBounds_toArray,List.set_cons_zero,List.set_cons_succ] at h4;have h5:=h4.setC (i:=5) (v:=u5);simp only[List.setIfInBounds_toArray,List.set_cons_zero,List.set_cons_succ] at h5;have h6:=h5.setC (i:=6) (v:=u6);simp only[List.setIfInBounds_toArray,List.set_cons_zero,List.set_cons_succ] at h6;simp only[World.setCells];exact h6
theorem dEa(g:Nat):∀(vs:List Value) (o:Nat) (W:World),(W.setCells g o vs).heap.size=W.heap.size
 | [],_,_=>rfl
 |v::r,o,W=>by
  rw[World.setCells,dEa g r];simp[World.setCell]
theorem aP.setCO{W:World}{b g o:Nat}{cs:Array Value}{T:TypeId}(h:aP W b cs T)(hne:b≠g)(vs:List Value):aP (W.setCells g o vs) b cs T :=
 ⟨by rw[dEa];exact h.1,(dC7 vs o W b hne).trans h.2⟩
theorem dF7(x:Bd):(prog.info? 49).map (·.size)=some x.cs.size:=by kernel_rfl
theorem dEz(x:aLe):(prog.info? 42).map (·.size)=some x.cs.size:=by kernel_rfl
end
section
open Go Go.RowKit Num
def bZ9.cs(x:bZ9):Array Value:=#[.string ⟨x.cause.toArray⟩,.string ⟨x.src.toArray⟩,.string ⟨x.dst.toArray⟩,.string ⟨x.q.toArray⟩,.string ⟨x.made.toArray⟩,.string ⟨x.c.toArray⟩]
theorem dIk(x:bZ9):x.cs.size=6:=rfl
theorem dHh(x:bZ9):x.cs.all (·.oneCell')=true:=by simp[bZ9.cs,Value.oneCell']
structure dC1(W:World)(B0 sb:Nat)(lv gv tv:Value)(s:bWs):Prop where
 box:aP W sb #[lv,gv,tv,.string ⟨(aJ s.sum).toArray⟩] 80
 le:B0<=sb
 lots:W.ownsRow B0 49 7 lv s.lots.length (dAf Bd.cs s.lots)
 gains:W.ownsRow B0 42 10 gv s.gains.length (dAf aLe.cs s.gains)
 steps:W.ownsRow B0 45 6 tv s.steps.length (dAf bZ9.cs s.steps)
def StW(W:World)(B0 sb:Nat)(s:bWs):Prop:=∃lv gv tv,dC1 W B0 sb lv gv tv s
theorem dC1.below{W W':World}{B0 sb:Nat}{lv gv tv:Value}{s:bWs}(h:dC1 W B0 sb lv gv tv s)(hb:Below W.heap.size W W'):dC1 W' B0 sb lv gv tv s :=
 ⟨h.box.below hb,h.le,(dCk.of_below _ hb).owns h.lots,(dCk.of_below _ hb).owns h.gains,(dCk.of_below _ hb).owns h.steps⟩
theorem StW.below{W W':World}{B0 sb:Nat}{s:bWs}(h:StW W B0 sb s)(hb:Below W.heap.size W W'):StW W' B0 sb s:=by
 obtain⟨lv,gv,tv,h⟩:=h;exact⟨lv,gv,tv,h.below hb⟩
structure KpW(B0:Nat)(W W':World):Prop where
 below:Below B0 W W'
 others:KeepsOthers W W'
 types:∀T,T≠49->T≠42->T≠45->T≠80->dCk T W W'
theorem KpW.refl(B0:Nat)(W:World):KpW B0 W W:=⟨Br _ _,KeepsOthers.refl _,fun _ _ _ _ _ _ _ h=>h⟩
theorem KpW.trans{B0:Nat}{A B C:World}(h:KpW B0 A B)(g:KpW B0 B C):KpW B0 A C:=⟨h.below.trans g.below,h.others.trans g.others,fun T a b c d=>(h.types T a b c d).trans (g.types T a b c d)⟩
theorem KpW.of_below{B0:Nat}{W W':World}(hB:B0<=W.heap.size)(h:Below W.heap.size W W'):KpW B0 W W':=⟨h.mono hB,KeepsOthers.of_below h,fun T _ _ _ _=>dCk.of_below T h⟩
theorem KpW.of_grown{B0 g:Nat}{W W':World}{T':TypeId}(hB:B0<=W.heap.size)(hg:B0<=g)(hT:T'=49∨T'=42∨T'=45∨T'=80)(hc:∃cur,W.heap[g]?=some (Obj.cells cur T' (0,0)))(h:W.grownBy W' (some g)):KpW B0 W W':=by
 obtain⟨cur,hc⟩:=hc;refine⟨(Br _ W).grown h hB (fun k e=>by injection e with e;omega),KeepsOthers.of_grownBy h fun j o e hj=>?_,fun T a b c d k cs hk=>?_⟩
 ·injection e with e
  subst e;rw[hc] at hj;injection hj with hj
  subst hj;rfl
 ·refine(h.block k (Ai.1 hk).1 fun e=>?_).trans hk;injection e with e
  subst e;rw[hc] at hk;injection hk with hk
  injection hk with _ hk
  subst hk;rcases hT with e|e|e|e
  ·exact a e
  ·exact b e
  ·exact c e
  ·exact d e
theorem KpW.grown{B0 m n:Nat}{W W':World}{T':TypeId}{v:Value}{xs:List Value}(hB:B0<=W.heap.size)(hT:T'=49∨T'=42∨T'=45∨T'=80)(ho:W.ownsRow B0 T' m v n xs)(h:W.grownBy W' v.ownBlock):KpW B0 W W':=by
 obtain⟨_,⟨rfl,_⟩|⟨g,cap,cur,rfl,hb,hc,_⟩⟩:=ho
 ·exact KpW.of_below hB ⟨h.os,h.tape,h.output,h.size,fun k hk=>h.block k hk (by intro e;cases e)⟩
 ·exact KpW.of_grown hB hb hT ⟨cur,hc⟩ h
theorem dCt(W:World)(g o:Nat)(v:Value):W.grownBy (W.setCell ⟨g,o,none⟩ v) (some g) :=
 ⟨rfl,rfl,rfl,by simp[World.setCell],fun k _ h=>Deep.blk_setCell_other _ _ _ _ (fun e=>h (by rw[e]))⟩
theorem dC8(g:Nat):∀(vs:List Value) (o:Nat) (W:World),W.grownBy (W.setCells g o vs) (some g)
 | [],_,W=>World.grownBy.refl W _
 |v::r,o,W=>(dCt W g o v).trans (dC8 g r (o+1) _)
theorem dDq{W W':World}(r:Option Nat)(h:Below W.heap.size W W'):W.grownBy W' r:=⟨h.os,h.tape,h.output,h.size,fun k hk _=>h.block k hk⟩
end
section
open Go Go.RowKit Num
theorem dDf{w V:World}{n:Nat}{r:Option Nat}(h:(w.drewN n).grownBy V r):w.grownBy V r:=⟨h.os,h.tape,h.output,h.size,h.block⟩
theorem KpW.drew{B0:Nat}{W V:World}(h:KpW B0 W V):KpW B0 W V.drew:=⟨aD h.below 1,⟨h.others.size,h.others.same⟩,h.types⟩
theorem dC1.drew{W:World}{B0 sb:Nat}{lv gv tv:Value}{s:bWs}(h:dC1 W B0 sb lv gv tv s):dC1 W.drew B0 sb lv gv tv s:=⟨h.box,h.le,h.lots,h.gains,h.steps⟩
theorem aP.drew{W:World}{b:Nat}{cs:Array Value}{T:TypeId}(h:aP W b cs T):aP W.drew b cs T:=h
theorem dCk.of_grown{T T':TypeId}{W W':World}{b:Nat}(ht:T'≠T)(hc:∃cur,W.heap[b]?=some (Obj.cells cur T' (0,0)))(hg:W.grownBy W' (some b)):dCk T W W':=fun j cs hj=>by
 refine(hg.block j (Ai.1 hj).1 fun e=>?_).trans hj;injection e with e
 subst e;obtain⟨cur,hc⟩:=hc;rw[hj] at hc;injection hc with hc
 injection hc with _ hc
 exact ht hc.symm
theorem dCk.box'{T:TypeId}{W W':World}{b:Nat}{cs:Array Value}(h:dCk T W W')(hb:aP W b cs T):aP W' b cs T:=h.box hb
section
variable {W W':World}{B0 sb:Nat}{lv gv tv:Value}{s:bWs}
theorem dC1.gset{g c i:Nat}{x:aLe}(h:dC1 W B0 sb lv (.slice (some ⟨g,0,none⟩) s.gains.length c) tv s)(hg:W.grownBy W' (some g))(ho:W'.ownsRow B0 42 10 (.slice (some ⟨g,0,none⟩) s.gains.length c) s.gains.length (dAf aLe.cs (s.gains.set i x))):
  dC1 W' B0 sb lv (.slice (some ⟨g,0,none⟩) s.gains.length c) tv { s with gains:=s.gains.set i x }:=by
 have hk:∀T,42≠T->dCk T W W':=fun T hT=>dCk.grown hT h.gains hg
 exact⟨(hk _ (by decide)).box h.box,h.le,(hk _ (by decide)).owns h.lots,by rw[show ({ s with gains:=s.gains.set i x }:bWs).gains.length=s.gains.length from List.length_set];exact ho,(hk _ (by decide)).owns h.steps⟩
theorem dC1.other{b:Nat}(h:dC1 W B0 sb lv gv tv s)(hc:∃cur,W.heap[b]?=some (Obj.cells cur 49 (0,0)))(hne:lv.ownBlock≠some b)(hg:W.grownBy W' (some b)):dC1 W' B0 sb lv gv tv s:=by
 have hk:∀T,49≠T->dCk T W W':=fun T hT=>dCk.of_grown hT hc hg
 exact⟨(hk _ (by decide)).box h.box,h.le,h.lots.kept hg (.inr hne),(hk _ (by decide)).owns h.gains,(hk _ (by decide)).owns h.steps⟩
theorem dC1.lset{l c k:Nat}{y z:Bd}(h:dC1 W B0 sb (.slice (some ⟨l,0,none⟩) s.lots.length c) gv tv s)(hy:s.lots[k]?=some y):dC1 (W.setCells l (k*7) z.cs.toList) B0 sb (.slice (some ⟨l,0,none⟩) s.lots.length c) gv tv { s with lots:=s.lots.set k z }:=by
 obtain⟨hcur,hz⟩:(∃cur,W.heap[l]?=some (Obj.cells cur 49 (0,0)))/\(W.setCells l (k*7) z.cs.toList).ownsRow B0 49 7 (.slice (some ⟨l,0,none⟩) s.lots.length c) s.lots.length (dAf Bd.cs (s.lots.set k z)):=by
  have hl:=h.lots;generalize hn:s.lots.length=n at *;obtain⟨g',cap',e,hb,hcur,_,_,_,hset⟩:=dDo dDe (by rw[hn];exact hl) hy;injection e with e1 e2 e3
  injection e1 with e1
  injection e1 with e1
  rw[e1];refine⟨hcur,?_⟩;have h4:=hset z;rw[<-e2,e1] at h4;exact h4
 have hk1:dCk 80 W (W.setCells l (k*7) z.cs.toList):=dCk.setCells (by decide) hcur;have hk2:dCk 42 W (W.setCells l (k*7) z.cs.toList):=dCk.setCells (by decide) hcur;have hk3:dCk 45 W (W.setCells l (k*7) z.cs.toList):=dCk.setCells (by decide) hcur;generalize W.setCells l (k*7) z.cs.toList=W' at *;exact⟨hk1.box h.box,h.le,by rw[show ({ s with lots:=s.lots.set k z }:bWs).lots.length=s.lots.length from List.length_set];exact hz,hk2.owns h.gains,hk3.owns h.steps⟩
theorem dC1.stepped{st:bZ9}{v:Value}{w5:World}(h:dC1 W B0 sb lv gv tv s)(hB:B0<=W.heap.size)(ho:w5.ownsRow B0 45 6 v (s.steps.length+1) (dAf bZ9.cs s.steps++st.cs.toList))(hg:(W.alloc (.cells st.cs 45)).grownBy w5 tv.ownBlock):
  dC1 (w5.setCell ⟨sb,2,none⟩ v) B0 sb lv gv v { s with steps:=s.steps ++ [st] }/\KpW B0 W (w5.setCell ⟨sb,2,none⟩ v)/\dCk 49 W (w5.setCell ⟨sb,2,none⟩ v):=by
 have hb:=aB W (.cells st.cs 45);have h1:=h.below hb;have hk:∀T,45≠T->dCk T W w5:=fun T hT=>(dCk.of_below T hb).trans (dCk.grown hT h1.steps hg)
 have hbx:=(hk _ (by decide)).box h.box;have hcs:∃cur,w5.heap[sb]?=some (Obj.cells cur 80 (0,0)):=⟨_,hbx.2⟩
 have hk2:∀T,80≠T->dCk T w5 (w5.setCell ⟨sb,2,none⟩ v):=fun T hT=>dCk.of_grown hT hcs (dCt _ _ _ _)
 have hbs:=hbx.setC (i:=2) (v:=v);simp only[List.setIfInBounds_toArray,List.set_cons_zero,List.set_cons_succ] at hbs;refine⟨⟨hbs,h.le,(hk2 _ (by decide)).owns ((hk _ (by decide)).owns h.lots),(hk2 _ (by decide)).owns ((hk _ (by decide)).owns h.gains),(hk2 _ (by decide)).owns ?_⟩,?_,(hk _ (by decide)).trans (hk2 _ (by decide))⟩
 ·rw[show dAf bZ9.cs (s.steps ++ [st])=dAf bZ9.cs s.steps++st.cs.toList by rw[dDd,dFg],List.length_append];exact ho
 ·have hle:=hb.size;have hk3:KpW B0 W w5:=(KpW.of_below hB hb).trans (KpW.grown (by omega) (.inr (.inr (.inl rfl))) h1.steps hg);exact hk3.trans (KpW.of_grown (Nat.le_trans hB (by have:=hk3.below.size;omega)) h.le (.inr (.inr (.inr rfl))) hcs (dCt _ _ _ _))
theorem dC1.summed{z:Int}(h:dC1 W B0 sb lv gv tv s)(hB:B0<=W.heap.size):dC1 (W.setCell ⟨sb,3,none⟩ (.string ⟨(aJ z).toArray⟩)) B0 sb lv gv tv { s with sum:=z }/\KpW B0 W (W.setCell ⟨sb,3,none⟩ (.string ⟨(aJ z).toArray⟩))/\dCk 49 W (W.setCell ⟨sb,3,none⟩ (.string ⟨(aJ z).toArray⟩)):=by
 have hcs:∃cur,W.heap[sb]?=some (Obj.cells cur 80 (0,0)):=⟨_,h.box.2⟩
 have hk2:∀T,80≠T->dCk T W (W.setCell ⟨sb,3,none⟩ (.string ⟨(aJ z).toArray⟩)):=fun T hT=>dCk.of_grown hT hcs (dCt _ _ _ _)
 have hbs:=h.box.setC (i:=3) (v:=.string ⟨(aJ z).toArray⟩);simp only[List.setIfInBounds_toArray,List.set_cons_zero,List.set_cons_succ] at hbs;exact⟨⟨hbs,h.le,(hk2 _ (by decide)).owns h.lots,(hk2 _ (by decide)).owns h.gains,(hk2 _ (by decide)).owns h.steps⟩,KpW.of_grown hB h.le (.inr (.inr (.inr rfl))) hcs (dCt _ _ _ _),hk2 _ (by decide)⟩
theorem dC1.lotted{ls:List Bd}{v:Value}(h:dC1 W B0 sb lv gv tv s)(hB:B0<=W.heap.size)(ho:W.ownsRow B0 49 7 v ls.length (dAf Bd.cs ls)):dC1 (W.setCell ⟨sb,0,none⟩ v) B0 sb v gv tv { s with lots:=ls }/\KpW B0 W (W.setCell ⟨sb,0,none⟩ v):=by
 have hcs:∃cur,W.heap[sb]?=some (Obj.cells cur 80 (0,0)):=⟨_,h.box.2⟩
 have hk2:∀T,80≠T->dCk T W (W.setCell ⟨sb,0,none⟩ v):=fun T hT=>dCk.of_grown hT hcs (dCt _ _ _ _)
 have hbs:=h.box.setC (i:=0) (v:=v);simp only[List.setIfInBounds_toArray,List.set_cons_zero] at hbs;exact⟨⟨hbs,h.le,(hk2 _ (by decide)).owns ho,(hk2 _ (by decide)).owns h.gains,(hk2 _ (by decide)).owns h.steps⟩,KpW.of_grown hB h.le (.inr (.inr (.inr rfl))) hcs (dCt _ _ _ _)⟩
end
end
section
open Go Go.RowKit Num
attribute [local go_sem] eW eN aV
theorem dG5{l:List UInt8}(h:sP l=true):∃v:Int,Lib.atoiAll (Lib.cut l [47]).2.1=.ok v/\1<=v/\v<=9999:=by
 unfold sP at h;rw[Bool.and_eq_true] at h;obtain⟨m,e1,h1,h2,_⟩:=(Cs _).1 h.1;exact⟨m,e1,h1,h2⟩
theorem dG2{cause:List UInt8}{y:Bd}{v:Int}(h:Lib.atoiAll (Lib.cut y.id [47]).2.1=.ok v):dB6 cause y=if(Lib.cut y.id [47]).1=cause then v else 0:=by
 unfold dB6;rw[h]
def dF5(cause:List UInt8)(ls:List Bd):Int:=ls.foldl (fun n y=>max n (dB6 cause y)) 0
theorem dGt{cause:List UInt8}{ls:List Bd}{k:Nat}{y:Bd}(h:ls[k]?=some y):dF5 cause (ls.take (k+1))=max (dF5 cause (ls.take k)) (dB6 cause y):=by
 unfold dF5;rw[List.take_add_one,h,List.foldl_append];rfl
theorem dFc{cause:List UInt8}{ls:List Bd}(h:∀y,y∈ls->sP y.id=true):0<=dF5 cause ls/\dF5 cause ls<=9999:=by
 refine⟨(bZ8 cause ls 0).1,?_⟩;have key:∀(l:List Bd) (m:Int),m<=9999->(∀y,y∈l->sP y.id=true)->l.foldl (fun n y=>max n (dB6 cause y)) m<=9999:=by
  intro l
  induction l with
  |nil=>exact fun m hm _=>hm
  |cons z r ih =>
   intro m hm hz;rw[List.foldl_cons];refine ih _ ?_ fun y hy=>hz y (List.mem_cons_of_mem _ hy)
   obtain⟨v,e,h1,h2⟩:=dG5 (hz z List.mem_cons_self);rw[dG2 e];split <;> omega
 exact key ls 0 (by omega) h
theorem dGp(ls:List Bd)(cause:List UInt8)(a:Option Addr)(c sb:Nat)(gv tv sv:Value)(w:World)(hE:iE w)(hB:aP w sb #[.slice a ls.length c,gv,tv,sv] 80)(hL:Jj w a ls)(hid:∀y,y∈ls->sP y.id=true)(hn:ls.length<=1000000)(hl:∀y,y∈ls->y.id.length<=1000):
  Calls prog 89 #[.pointer (some ⟨sb,0,none⟩),.string ⟨cause.toArray⟩] w fun e w'=>e=.returned (.int .i64 (bZw ls cause))/\Below w.heap.size w w':=by
 have k0:=hB.cell 0;have HL:=Hd hL;have HE:=Hd hE;have HI:=Hd hid;have HS:=Hd hl;have HMX:=Hd (fun k=>dFc (cause:=cause) (ls:=ls.take k) fun y hy=>hid y (List.mem_of_mem_take hy));have HR:Hid (bZw ls cause=dF5 cause ls+1):=rfl;clear hB hL hE hid hl;generalize bZw ls cause=r at *;go_enter func89,ntmps89;go_wp2;go_loopw [5,18] (fun m i W=>Hid (Below w.heap.size w W)/\∃k:Nat,k<=ls.length/\i=.int .i64 (k:Int)/\∃z:Int,m=.int .i64 z/\Hid (z=dF5 cause (ls.take k))) (fun _ i _=>ls.length-(intOf i).toNat)
 case atStart=>exact⟨Br _ _,0,Nat.zero_le _,rfl,0,rfl,rfl⟩
 case round =>
  obtain⟨hB,k,hk,rfl,z,rfl,hz⟩:=hrel
  by_cases hlt:k<ls.length
  ·obtain⟨x,hx⟩:∃x,ls[k]?=some x:=⟨ls[k],Lg hlt⟩
   obtain⟨b,off,ha,k0',k1,k2,k3,k4,k5,k6⟩:=(HL.out.below hB.out).addr hx;subst ha;have hm:=List.mem_of_getElem? hx;obtain⟨v,e1,v1,v2⟩:=dG5 (HI.out x hm);have hxl:=HS.out x hm;have HN:Hid (dF5 cause (ls.take (k+1))=max (dF5 cause (ls.take k)) (if(Lib.cut x.id [47]).1=cause then v else 0)):=by show _=_;rw[dGt hx,dG2 e1]
   have hcl:=Zt x.id;have HC:=Hd (fun W hW=>Vi x.id W hW (by omega));have HA:=Hd (fun W=>Vw _ v e1 W (by omega));have HZ0:=Hd (HMX.out k);clear hm e1 hxl hcl hx;generalize(Lib.cut x.id [47]).1=cx at *;generalize(Lib.cut x.id [47]).2.1=cy at *;generalize(Lib.cut x.id [47]).2.2=cz at *;go_wp2_with fail;have hB:=Hd (aA hB.out (aB wr (.cells #[.string ⟨x.id.toArray⟩,.string ⟨x.ins.toArray⟩,.int .i64 x.acq,.int .i64 x.opn,.string ⟨x.q.toArray⟩,.string ⟨x.c.toArray⟩,.string ⟨x.u.toArray⟩] 49)));refine(HC.out _ (HE.out.below hB.out)).mono ?_;rintro e w1 ⟨rfl,hb⟩;have hB:=Hd (aA hB.out hb);clear hb k0' k1 k2 k3 k4 k5 k6
   by_cases g:cx=cause
   ·subst g;go_wp2_with fail;refine(HA.out _).mono ?_;rintro e w2 ⟨rfl,hb⟩;have hB:=Hd (aA hB.out hb);clear hb;go_wp2;go_round
    case rel=>exact⟨hB,k+1,by omega,by go_num,max z v,rfl,by show _=_;rw[HN.out,hz.out];simp⟩
    case measure=>simp[intOf];omega
   ·have HG:=Hd g;have g':(cx==cause)=false:=by simpa using g
    go_wp2;go_round
    case rel=>exact⟨hB,k+1,by omega,by go_num,z,rfl,by show _=_;rw[HN.out,if_neg HG.out,<-hz.out];have:=HZ0.out.1;rw[<-hz.out] at this;omega⟩
    case measure=>simp[intOf];omega
  ·obtain rfl:k=ls.length:=by omega
   have hzz:Hid (z=dF5 cause ls):=by have:=hz.out;rw[List.take_length] at this;exact this
   have hb2:=HMX.out ls.length;rw[List.take_length,<-hzz.out] at hb2;obtain⟨z1,z2⟩:=hb2;go_wp2;go_ret;exact⟨gG (by rw[HR.out,<-hzz.out]),hB.out⟩
end
section
open Go Go.RowKit Num
theorem dDs{P:Program}(w:World)(t ty e:TypeId)(i:TypeInfo)(ht:P.underlying t=some (.slice e))(hi:P.info? e=some i)(sa:Option Addr)(n cap:Nat)(hle:n<=cap)(a:Option Addr)(c:Nat):
  (Builtin.append_ #[t,t] ty #[.slice sa n cap,.slice a 0 c]).run P w=.ok (.slice sa n cap) w:=by
 cases sa <;> cases a <;> simp[Builtin.append_,run_underlying ht,sizeOf,typeInfo,hi,Builtin.lenOf,Builtin.firstCells,loadCells,loadCellsFrom,storeCells,hle]
theorem dDg{P:Program}(w:World){ops:Array Oper}{rest:List Oper}{o:Oper}{a:Act}{Q:Exit->Act->World->Prop}(hgd:o.guard=none)(s x:Operand)(t:TypeId)
  (ho:o.op=.call { callee:=.builtin .append,args:=#[s,x],argTypes:=#[t,t] }) (e:TypeId) (i:TypeInfo) (ht:P.underlying t=some (.slice e)) (hi:P.info? e=some i)
  (base size:Nat) (v:Value) (n:Nat) (xs:List Value) (hs:a.eval s=v) (hown:w.ownsRow base e size v n xs) (sa:Option Addr) (c:Nat) (hx:a.eval x=.slice sa 0 c)
  (h:wpList P ops Q rest (a.put o.dst v) w):wpList P ops Q (o::rest) a w:=by
 have hr:(Builtin.append_ #[t,t] o.type #[v,.slice sa 0 c]).run P w=.ok v w:=by
  obtain⟨_,hv|⟨g,cap,cur,hv,_,_,hle,_⟩⟩:=hown
  ·rw[hv.1];exact dDs w t o.type e i ht hi none 0 0 (Nl _) sa c
  ·rw[hv];exact dDs w t o.type e i ht hi _ n cap hle sa c
 exact Lib.wpList_append_run w hgd s x t t ho v (.slice sa 0 c) hs hx v w hr h
theorem dFw{α:Type}{e:α->Array Value}{m:Nat}(he:∀x,(e x).size=m){l:List α}{j:Nat}{u:Value}(hu:(dAf e l)[j]?=some u):∃k x,l[k]?=some x/\k*m+j%m=j/\(e x)[j%m]?=some u:=by
 have hj:j<l.length*m:=by rw[<-dCx he];exact(Li.1 hu).1
 have hN:0<m:=by
  rcases Nat.eq_zero_or_pos m with h|h
  ·rw[h] at hj;omega
  ·exact h
 have hk:j/m<l.length:=Nat.div_lt_of_lt_mul (by rw[Nat.mul_comm];exact hj);have hx:l[j/m]?=some l[j/m]:=Lg hk;have hdm:j/m*m+j%m=j:=by rw[Nat.mul_comm];exact Nat.div_add_mod j m
 have hg:=dDl he l (j/m) _ (j%m) hx (Nat.mod_lt _ hN);rw[hdm,hu] at hg;exact⟨_,_,hx,hdm,hg.symm⟩
theorem Jj.flatCells{w:World}{a:Option Addr}{xs:List Bd}(h:Jj w a xs)(hne:xs ≠ []):∃b off,a=some ⟨b,off,none⟩/\b<w.heap.size/\∀j u,(dAf Bd.cs xs)[j]?=some u->w.cell? ⟨b,off+j,none⟩=some u:=by
 rcases h with h|⟨b,off,ha,hlt,hc⟩
 ·exact absurd h hne
 ·refine⟨b,off,ha,hlt,fun j u hu=>?_⟩;obtain⟨k,x,hx,e,hu⟩:=dFw dDe hu;obtain⟨k0,k1,k2,k3,k4,k5,k6⟩:=hc k x hx;rw[<-e,<-Nat.add_assoc];have hm:j%7<7:=Nat.mod_lt _ (by decide);generalize j%7=r at *
  match r,hm with
  |0,_=>exact k0.trans hu
  |1,_=>exact k1.trans hu
  |2,_=>exact k2.trans hu
  |3,_=>exact k3.trans hu
  |4,_=>exact k4.trans hu
  |5,_=>exact k5.trans hu
  |6,_=>exact k6.trans hu
theorem aL3.flatCells{w:World}{a:Option Addr}{xs:List aLe}(h:aL3 w a xs)(hne:xs ≠ []):∃b off,a=some ⟨b,off,none⟩/\b<w.heap.size/\∀j u,(dAf aLe.cs xs)[j]?=some u->w.cell? ⟨b,off+j,none⟩=some u:=by
 rcases h with h|⟨b,off,ha,hlt,hc⟩
 ·exact absurd h hne
 ·refine⟨b,off,ha,hlt,fun j u hu=>?_⟩;obtain⟨k,x,hx,e,hu⟩:=dFw dC3 hu;obtain⟨k0,k1,k2,k3,k4,k5,k6,k7,k8,k9⟩:=hc k x hx;rw[<-e,<-Nat.add_assoc];have hm:j%10<10:=Nat.mod_lt _ (by decide);generalize j%10=r at *
  match r,hm with
  |0,_=>exact k0.trans hu
  |1,_=>exact k1.trans hu
  |2,_=>exact k2.trans hu
  |3,_=>exact k3.trans hu
  |4,_=>exact k4.trans hu
  |5,_=>exact k5.trans hu
  |6,_=>exact k6.trans hu
  |7,_=>exact k7.trans hu
  |8,_=>exact k8.trans hu
  |9,_=>exact k9.trans hu
theorem dD5{α:Type}{e:α->Array Value}(he:∀x,(e x).all (·.oneCell')=true){l:List α}{u:Value}(h:u∈dAf e l):u.oneCell'=true:=by
 unfold dAf at h;obtain⟨x,_,hx⟩:=List.mem_flatMap.1 h;have:=he x;rw[<-Array.all_toList,List.all_eq_true] at this;exact this u hx
theorem dDx(xs:List Bd)(a:Option Addr)(c:Nat)(w:World)(hn:xs.length<=1000000)(hz:Jj w a xs):
  Calls prog 41 #[.slice a xs.length c] w fun e w'=>∃v,e=.returned v/\w'.ownsRow w.heap.size 49 7 v xs.length (dAf Bd.cs xs)/\Below w.heap.size w w':=by
 obtain⟨i0,hi,hz0,hz1,hz2⟩:=info_parts dF8;have q22:∀(w:World) (a:Option Addr) (n c n' c':Nat),(binOp .eql 22 (.slice a n c) (.slice none n' c')).run prog w=.ok (.bool a.isNone) w:=fun w a n c n' c'=>Lib.run_eql_slice_nil w _ _ a n c n' c' underlying22
 have HZ:=Hd hz;clear hz;cases a with
 |none =>
  have h0:xs=[]:=by
   rcases HZ.out with h|⟨b,off,h,_⟩
   ·simpa using h
   ·cases h
  subst h0;go_enter func41,ntmps41;go_wp2;go_ret;exact⟨_,rfl,World.ownsRow_nil _ _ _ _,Br _ _⟩
 |some ad =>
  by_cases hne:xs=[]
  ·subst hne;go_enter func41,ntmps41;go_wp2_with (at_builtin;refine dDg _ rfl _ _ 22 rfl 49 i0 underlying22 hi w.heap.size 7 _ _ _ rfl (World.ownsRow_made w #[] 0 (Nl _) (Nat.zero_le _) rfl) (some ad) c rfl ?_);go_wp2;go_ret;exact⟨_,rfl,World.ownsRow_made w #[] 0 (Nl _) (Nat.zero_le _) rfl,aB _ _⟩
  ·obtain⟨bs,os,ha,hlt,hcc⟩:=HZ.out.flatCells hne;injection ha with ha
   subst ha;have HC:=Hd hcc;have HL:=Hd (dCx dDe xs);clear hcc hne HZ;go_enter func41,ntmps41;go_wp2_with (at_builtin;refine wpList_append_own_at _ rfl _ _ 22 rfl w.heap.size 49 i0 dFa 7 96 underlying22 hi hz0 hz1 hz2 rfl (by decide) _ _ _ rfl (World.ownsRow_made w #[] 0 (Nl _) (Nat.zero_le _) rfl) ⟨bs,os,none⟩ xs.length c (dAf Bd.cs xs) rfl HL.out ?c1 (fun u hu=>dD5 dF6 hu) ?c3 ?c4 ?c5 ?_)
   case c1 =>
    intro j u hj;rw[lM];exact Lib.cell?_alloc_some _ (HC.out j u hj)
   case c3=>unfold maxLen;omega
   case c4=>omega
   case c5=>simp
   intro v' w3 hown' hgrow _ _;have HO:=Hd hown';have HB:Hid (Below w.heap.size w w3):=(((Br _ w).alloc (Nl _) _).grown hgrow (by simp) (by intro k hk;simp[Value.ownBlock] at hk;omega))
   clear hown' hgrow;go_wp2;go_ret;exact⟨v',rfl,by simpa using HO.out,HB.out⟩
theorem dE9(xs:List aLe)(a:Option Addr)(c:Nat)(w:World)(hn:xs.length<=1000000)(hz:aL3 w a xs):
  Calls prog 42 #[.slice a xs.length c] w fun e w'=>∃v,e=.returned v/\w'.ownsRow w.heap.size 42 10 v xs.length (dAf aLe.cs xs)/\Below w.heap.size w w':=by
 obtain⟨i0,hi,hz0,hz1,hz2⟩:=info_parts aO1;have q22:∀(w:World) (a:Option Addr) (n c n' c':Nat),(binOp .eql 23 (.slice a n c) (.slice none n' c')).run prog w=.ok (.bool a.isNone) w:=fun w a n c n' c'=>Lib.run_eql_slice_nil w _ _ a n c n' c' underlying23
 have HZ:=Hd hz;clear hz;cases a with
 |none =>
  have h0:xs=[]:=by
   rcases HZ.out with h|⟨b,off,h,_⟩
   ·simpa using h
   ·cases h
  subst h0;go_enter func42,ntmps42;go_wp2;go_ret;exact⟨_,rfl,World.ownsRow_nil _ _ _ _,Br _ _⟩
 |some ad =>
  by_cases hne:xs=[]
  ·subst hne;go_enter func42,ntmps42;go_wp2_with (at_builtin;refine dDg _ rfl _ _ 23 rfl 42 i0 underlying23 hi w.heap.size 10 _ _ _ rfl (World.ownsRow_made w #[] 0 (Nl _) (Nat.zero_le _) rfl) (some ad) c rfl ?_);go_wp2;go_ret;exact⟨_,rfl,World.ownsRow_made w #[] 0 (Nl _) (Nat.zero_le _) rfl,aB _ _⟩
  ·obtain⟨bs,os,ha,hlt,hcc⟩:=HZ.out.flatCells hne;injection ha with ha
   subst ha;have HC:=Hd hcc;have HL:=Hd (dCx dC3 xs);clear hcc hne HZ;go_enter func42,ntmps42;go_wp2_with (at_builtin;refine wpList_append_own_at _ rfl _ _ 23 rfl w.heap.size 42 i0 aPc 10 144 underlying23 hi hz0 hz1 hz2 rfl (by decide) _ _ _ rfl (World.ownsRow_made w #[] 0 (Nl _) (Nat.zero_le _) rfl) ⟨bs,os,none⟩ xs.length c (dAf aLe.cs xs) rfl HL.out ?c1 (fun u hu=>dD5 dGw hu) ?c3 ?c4 ?c5 ?_)
   case c1 =>
    intro j u hj;rw[lM];exact Lib.cell?_alloc_some _ (HC.out j u hj)
   case c3=>unfold maxLen;omega
   case c4=>omega
   case c5=>simp
   intro v' w3 hown' hgrow _ _;have HO:=Hd hown';have HB:Hid (Below w.heap.size w w3):=(((Br _ w).alloc (Nl _) _).grown hgrow (by simp) (by intro k hk;simp[Value.ownBlock] at hk;omega))
   clear hown' hgrow;go_wp2;go_ret;exact⟨v',rfl,by simpa using HO.out,HB.out⟩
end
end Go.Proofs.YtiloklnjjfaagaaGreatDoor
