/- RowF -/
import Derived.Test.YtejkibnaidiklaaGreatDoorJLog
import Derived.Lib.AppendZeros
set_option maxHeartbeats 16000000
set_option maxRecDepth 100000
namespace Go.Proofs.YtejkibnaidiklaaGreatDoor
open Go Go.RowKit Num
theorem Ib{N:Nat}{css:List (List Value)}(h:∀cs,cs∈css->cs.length=N):css.flatten.length=css.length*N:=by
 induction css with
 |nil=>simp
 |cons c r ih =>
  have h1:=ih (fun cs hcs=>h cs (List.mem_cons_of_mem _ hcs));have h2:=h c (List.mem_cons_self ..);rw[List.flatten_cons,List.length_append,h1,h2,List.length_cons,Nat.succ_mul];omega
theorem xE{N:Nat}:∀ {css:List (List Value)},(∀cs,cs∈css->cs.length=N)->∀(k:Nat) (cs:List Value) (j:Nat),css[k]?=some cs->j<N->css.flatten[k*N+j]?=cs[j]?
 | [],_,k,cs,j,h,_=>by simp at h
 |y::r,hh,0,cs,j,h,hj=>by
  simp at h;subst h;have h2:=hh y (List.mem_cons_self ..);rw[List.flatten_cons,Nat.zero_mul,Nat.zero_add,List.getElem?_append_left (by omega)]
 |y::r,hh,k+1,cs,j,h,hj=>by
  have ih:=xE (fun cs hcs=>hh cs (List.mem_cons_of_mem _ hcs)) k cs j (by simpa using h) hj;have h2:=hh y (List.mem_cons_self ..);have e:(k+1)*N+j=N+(k*N+j):=by rw[Nat.succ_mul];omega
  rw[List.flatten_cons,List.getElem?_append_right (by omega),h2,e,Nat.add_sub_cancel_left];exact ih
theorem oY{N:Nat}(hN:0<N){w:World}{a:Option Addr}{css:List (List Value)}(hh:∀cs,cs∈css->cs.length=N)(h:dT w a css.flatten):gJ w a N css:=by
 by_cases h0:css=[]
 ·exact .inl h0
 ·obtain⟨b,off,ha,hlt,hc⟩:=h.addr (by
   intro e;have h1:=Ib hh;rw[e] at h1;have h2:css.length≠0:=by simpa using h0
   have h3:css.length*N=0:=h1.symm;rcases Nat.mul_eq_zero.1 h3 with h|h <;> omega)
  refine .inr ⟨b,off,ha,hlt,fun k cs hk j v hv=>?_⟩;have hl:=hh cs (List.mem_of_getElem? hk);have hj:j<N:=by have:=(Li.1 hv).1;omega
  rw[Nat.add_assoc];exact hc _ v (by rw[xE hh k cs j hk hj];exact hv)
theorem Fa{xs:List aF}:∀cs,cs∈xs.map aF.cells->cs.length=21:=by
 intro cs h;obtain⟨x,_,rfl⟩:=List.mem_map.1 h;rfl
end Go.Proofs.YtejkibnaidiklaaGreatDoor
