/- RowF RSame -/
import Derived.Test.YtejkibnaidiklaaGreatDoorJMem
import Derived.Test.YtejkibnaidiklaaGreatDoorJLog
import Derived.Test.YtejkibnaidiklaaGreatDoorJOpen
import Derived.Lib.AppendZeros
import Derived.StillTailTactics
set_option maxHeartbeats 16000000
set_option maxRecDepth 100000
namespace Go.Proofs.YtejkibnaidiklaaGreatDoor
section
open Go Go.RowKit Num
theorem Ib{N:Nat}{css:List (List Value)}(h:∀cs,cs∈css→cs.length=N):css.flatten.length=css.length*N:=by
 induction css with
 |nil=>simp
 |cons c r ih =>
  have h1:=ih (fun cs hcs=>h cs (List.mem_cons_of_mem _ hcs));have h2:=h c (List.mem_cons_self ..);rw[List.flatten_cons,List.length_append,h1,h2,List.length_cons,Nat.succ_mul];omega
theorem xE{N:Nat}:∀ {css:List (List Value)},(∀cs,cs∈css→cs.length=N)→∀(k:Nat) (cs:List Value) (j:Nat),css[k]?=some cs→j<N→css.flatten[k*N+j]?=cs[j]?
 | [],_,k,cs,j,h,_=>by simp at h
 |y::r,hh,0,cs,j,h,hj=>by
  simp at h;subst h;have h2:=hh y (List.mem_cons_self ..);rw[List.flatten_cons,Nat.zero_mul,Nat.zero_add,List.getElem?_append_left (by omega)]
 |y::r,hh,k+1,cs,j,h,hj=>by
  have ih:=xE (fun cs hcs=>hh cs (List.mem_cons_of_mem _ hcs)) k cs j (by simpa using h) hj;have h2:=hh y (List.mem_cons_self ..);have e:(k+1)*N+j=N+(k*N+j):=by rw[Nat.succ_mul];omega
  rw[List.flatten_cons,List.getElem?_append_right (by omega),h2,e,Nat.add_sub_cancel_left];exact ih
theorem oY{N:Nat}(hN:0<N){w:World}{a:Option Addr}{css:List (List Value)}(hh:∀cs,cs∈css→cs.length=N)(h:dT w a css.flatten):gJ w a N css:=by
 by_cases h0:css=[]
 ·exact .inl h0
 ·obtain⟨b,off,ha,hlt,hc⟩:=h.addr (by
   intro e;have h1:=Ib hh;rw[e] at h1;have h2:css.length≠0:=by simpa using h0
   have h3:css.length*N=0:=h1.symm;rcases Nat.mul_eq_zero.1 h3 with h|h <;> omega)
  refine .inr ⟨b,off,ha,hlt,fun k cs hk j v hv=>?_⟩;have hl:=hh cs (List.mem_of_getElem? hk);have hj:j<N:=by have:=(Li.1 hv).1;omega
  rw[Nat.add_assoc];exact hc _ v (by rw[xE hh k cs j hk hj];exact hv)
theorem gJ.flatCells{N:Nat}{w:World}{a:Option Addr}{css:List (List Value)}(h:gJ w a N css)(hh:∀cs,cs∈css→cs.length=N)(hne:css ≠ []):∃b off,a=some ⟨b,off,none⟩∧b<w.heap.size∧∀j u,css.flatten[j]?=some u→w.cell? ⟨b,off+j,none⟩=some u:=by
 rcases h with h|⟨b,off,ha,hlt,hc⟩
 ·exact absurd h hne
 ·refine⟨b,off,ha,hlt,fun j u hu=>?_⟩;have hj:j<css.length*N:=by rw[←Ib hh];exact(Li.1 hu).1
  have hN:0<N:=by
   rcases Nat.eq_zero_or_pos N with h|h
   ·rw[h] at hj;omega
   ·exact h
  have hk:j/N<css.length:=Nat.div_lt_of_lt_mul (by rw[Nat.mul_comm];exact hj);have hx:css[j/N]?=some css[j/N]:=Lg hk;have hdm:j/N*N+j%N=j:=by rw[Nat.mul_comm];exact Nat.div_add_mod j N
  have hg:=xE hh (j/N) _ (j%N) hx (Nat.mod_lt _ hN);rw[hdm,hu] at hg;have:=hc (j/N) _ hx (j%N) u hg.symm;rw[show off+j=off+j/N*N+j%N by omega];exact this
def pX(xs:List aF):List Value:=(xs.map aF.cells).flatten
theorem Fa{xs:List aF}:∀cs,cs∈xs.map aF.cells→cs.length=21:=by
 intro cs h;obtain⟨x,_,rfl⟩:=List.mem_map.1 h;rfl
theorem aHa(xs:List aF):(pX xs).length=xs.length*21:=by unfold pX;rw[Ib Fa,List.length_map]
theorem Ei(xs ys:List aF):pX (xs++ys)=pX xs++pX ys:=by simp[pX]
theorem Qy(x:aF):pX [x]=x.arr.toList:=by simp[pX,aF.cells]
theorem aHc{xs:List aF}:∀u,u∈pX xs→u.oneCell'=true:=by
 intro u hu;unfold pX at hu;rw[List.mem_flatten] at hu;obtain⟨cs,hcs,hu⟩:=hu;obtain⟨x,_,rfl⟩:=List.mem_map.1 hcs;have:=dV x;unfold aF.cells at hu;generalize x.arr=fc at *;rw[←Array.all_toList,List.all_eq_true] at this;exact this u hu
theorem Ad{w:World}{base:Nat}{v:Value}{xs:List aF}(h:w.ownsRow base 59 21 v xs.length (pX xs))(hb:∀x,x∈xs→x.f.Behind w x.pa x.oa):∃a c,v=.slice a xs.length c∧fS w a xs∧xs.length≤c:=by
 obtain⟨a,c,rfl,hr⟩:=gK h;refine⟨a,c,rfl,⟨oY (by decide) Fa hr,hb⟩,?_⟩;obtain⟨_,⟨h1,h2⟩|⟨g,cap,cur,h1,_,_,h2,_⟩⟩:=h
 ·omega
 ·injection h1 with _ _ h3
  omega
def aAh:Value:=.agg #[.string ⟨#[]⟩,.int .i64 0,.bool false,.int .i64 0,.int .i64 0,.string ⟨#[]⟩,.string ⟨#[]⟩,.string ⟨#[]⟩,.string ⟨#[]⟩,.string ⟨#[]⟩,.string ⟨#[]⟩,.string ⟨#[]⟩,.string ⟨#[]⟩,.string ⟨#[]⟩,.string ⟨#[]⟩,.string ⟨#[]⟩,.string ⟨#[]⟩,.string ⟨#[]⟩,.slice none 0 0,.slice none 0 0,.int .i64 0]
theorem Ul:(Tryz.prog.info? 59).map (fun i=>(i.zero,i.size,i.bytes))=some (some aAh,21,312):=by kernel_rfl
theorem aHd{P:Program}(w:World)(t ty e:TypeId)(i:TypeInfo)(ht:P.underlying t=some (.slice e))(hi:P.info? e=some i)(sa:Option Addr)(n cap:Nat)(hle:n≤cap)(a:Option Addr)(c:Nat):
  (Builtin.append_ #[t,t] ty #[.slice sa n cap,.slice a 0 c]).run P w=.ok (.slice sa n cap) w:=by
 cases sa <;> cases a <;> simp[Builtin.append_,run_underlying ht,sizeOf,typeInfo,hi,Builtin.lenOf,Builtin.firstCells,loadCells,loadCellsFrom,storeCells,hle]
theorem aHf{P:Program}(w:World){ops:Array Oper}{rest:List Oper}{o:Oper}{a:Act}{Q:Exit→Act→World→Prop}(hgd:o.guard=none)(s x:Operand)(t:TypeId)
  (ho:o.op=.call { callee:=.builtin .append,args:=#[s,x],argTypes:=#[t,t] }) (e:TypeId) (i:TypeInfo) (ht:P.underlying t=some (.slice e)) (hi:P.info? e=some i)
  (base size:Nat) (v:Value) (n:Nat) (xs:List Value) (hs:a.eval s=v) (hown:w.ownsRow base e size v n xs) (sa:Option Addr) (c:Nat) (hx:a.eval x=.slice sa 0 c)
  (h:wpList P ops Q rest (a.put o.dst v) w):wpList P ops Q (o::rest) a w:=by
 have hr:(Builtin.append_ #[t,t] o.type #[v,.slice sa 0 c]).run P w=.ok v w:=by
  obtain⟨_,hv|⟨g,cap,cur,hv,_,_,hle,_⟩⟩:=hown
  ·rw[hv.1];exact aHd w t o.type e i ht hi none 0 0 (Nl _) sa c
  ·rw[hv];exact aHd w t o.type e i ht hi _ n cap hle sa c
 exact Lib.wpList_append_run w hgd s x t t ho v (.slice sa 0 c) hs hx v w hr h
end
section
open Go Go.RowKit Num
theorem aMu{P:Program}{ops:Array Oper}{rest:List Oper}{o:Oper}{a:Act}{w:World}{Q:Act→Prop}(hgd:o.guard=none)(ty:TypeId)(x:Operand)(ho:o.op=.load ty x)
  (b off:Nat) (hx:a.eval x=.pointer (some ⟨b,off,none⟩)) (cs:Array Value) (d:TypeDesc) (hc:∀j v,cs.toList[j]?=some v→w.cell? ⟨b,off+j,none⟩=some v)
  (hu:P.underlying ty=some d) (hd:(match d with | .struct _ | .array _ _=>true|_=>false)=true) (hi:(P.info? ty).map (·.size)=some cs.size)
  (h:wpStill P ops w Q rest (a.put o.dst (.agg cs))):wpStill P ops w Q (o::rest) a:=by
 refine wpStill_step (fun K hK=>?_);simp only[Region.wanted,hgd,if_true];unfold Oper.still execOp;simp only[ho,hx,Instr.loadAt,Instr.sureAddr,Sem.run_bind,Sem.run_pure,Result.andThen_ok,jD w b off ty cs d hc hu hd hi];exact⟨rfl,hK _ h⟩
end
end Go.Proofs.YtejkibnaidiklaaGreatDoor
