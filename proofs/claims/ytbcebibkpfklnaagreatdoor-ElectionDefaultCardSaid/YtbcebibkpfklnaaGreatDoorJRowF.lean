/- RowF -/
import Derived.Test.YtbcebibkpfklnaaGreatDoorJLog
import Derived.Test.YtbcebibkpfklnaaGreatDoorJOpen
import Derived.Lib.AppendZeros
set_option maxHeartbeats 16000000
set_option maxRecDepth 100000
namespace Go.Proofs.YtbcebibkpfklnaaGreatDoor
open Go Go.RowKit Num
theorem flatten_len {N:Nat} {css:List (List Value)} (h:∀ cs,cs∈css→cs.length=N):css.flatten.length=css.length * N:=by
 induction css with
 | nil=>simp
 | cons c r ih =>
  have h1:=ih (fun cs hcs=>h cs (List.mem_cons_of_mem _ hcs))
  have h2:=h c (List.mem_cons_self ..)
  rw [List.flatten_cons,List.length_append,h1,h2,List.length_cons,Nat.succ_mul]
  omega
theorem flatten_get {N:Nat}:∀ {css:List (List Value)},(∀ cs,cs∈css→cs.length=N)→∀ (k:Nat) (cs:List Value) (j:Nat),css[k]? = some cs→j < N→css.flatten[k * N+j]? = cs[j]?
 | [],_,k,cs,j,h,_=>by simp at h
 | y :: r,hh,0,cs,j,h,hj=>by
  simp at h
  subst h
  have h2:=hh y (List.mem_cons_self ..)
  rw [List.flatten_cons,Nat.zero_mul,Nat.zero_add,List.getElem?_append_left (by omega)]
 | y :: r,hh,k+1,cs,j,h,hj=>by
  have ih:=flatten_get (fun cs hcs=>hh cs (List.mem_cons_of_mem _ hcs)) k cs j (by simpa using h) hj
  have h2:=hh y (List.mem_cons_self ..)
  have e:(k+1) * N+j=N+(k * N+j):=by rw [Nat.succ_mul];omega
  rw [List.flatten_cons,List.getElem?_append_right (by omega),h2,e,Nat.add_sub_cancel_left]
  exact ih
theorem srows_of_row {N:Nat} (hN:0 < N) {w:World} {a:Option Addr} {css:List (List Value)} (hh:∀ cs,cs∈css→cs.length=N) (h:Row w a css.flatten):SRows w a N css:=by
 by_cases h0:css=[]
 ·exact .inl h0
 ·obtain ⟨b,off,ha,hlt,hc⟩:=h.addr (by
   intro e
   have h1:=flatten_len hh
   rw [e] at h1
   have h2:css.length ≠ 0:=by simpa using h0
   have h3:css.length * N=0:=h1.symm
   rcases Nat.mul_eq_zero.1 h3 with h | h <;> omega)
  refine .inr ⟨b,off,ha,hlt,fun k cs hk j v hv => ?_⟩
  have hl:=hh cs (List.mem_of_getElem? hk)
  have hj:j < N:=by have:=(List.getElem?_eq_some_iff.1 hv).1;omega
  rw [Nat.add_assoc]
  exact hc _ v (by rw [flatten_get hh k cs j hk hj];exact hv)
def flatF (xs:List FactV):List Value:=(xs.map FactV.cells).flatten
theorem cells21 {xs:List FactV}:∀ cs,cs∈xs.map FactV.cells→cs.length=21:=by
 intro cs h
 obtain ⟨x,_,rfl⟩:=List.mem_map.1 h
 rfl
theorem flatF_append (xs ys:List FactV):flatF (xs ++ ys)=flatF xs ++ flatF ys:=by simp [flatF]
theorem flatF_one (x:FactV):flatF [x]=x.arr.toList:=by simp [flatF,FactV.cells]
theorem facts_of_owned {w:World} {base:Nat} {v:Value} {xs:List FactV} (h:w.ownsRow base 30 21 v xs.length (flatF xs)) (hb:∀ x,x∈xs→x.f.Behind w x.pa x.oa):∃ a c,v = .slice a xs.length c∧Facts w a xs∧xs.length≤c:=by
 obtain ⟨a,c,rfl,hr⟩:=row_of_owns h
 refine ⟨a,c,rfl,⟨srows_of_row (by decide) cells21 hr,hb⟩,?_⟩
 obtain ⟨_,⟨h1,h2⟩ | ⟨g,cap,cur,h1,_,_,h2,_⟩⟩:=h
 ·omega
 ·injection h1 with _ _ h3
  omega
def zFact:Value:=.agg #[.string ⟨#[]⟩,.int .i64 0,.bool false,.int .i64 0,.int .i64 0,.string ⟨#[]⟩,.string ⟨#[]⟩,.string ⟨#[]⟩,.string ⟨#[]⟩,.string ⟨#[]⟩,.string ⟨#[]⟩,.string ⟨#[]⟩,.string ⟨#[]⟩,.string ⟨#[]⟩,.string ⟨#[]⟩,.string ⟨#[]⟩,.string ⟨#[]⟩,.string ⟨#[]⟩,.slice none 0 0,.slice none 0 0,.int .i64 0]
theorem infoFact:(Tryz.prog.info? 30).map (fun i=>(i.zero,i.size,i.bytes))=some (some zFact,21,312):=by kernel_rfl
end Go.Proofs.YtbcebibkpfklnaaGreatDoor
