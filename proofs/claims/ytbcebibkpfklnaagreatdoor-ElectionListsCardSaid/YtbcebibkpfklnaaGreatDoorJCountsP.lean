/- Owned FindP2 CountsP -/
import Derived.Test.YtbcebibkpfklnaaGreatDoorJMem
import Derived.Test.YtbcebibkpfklnaaGreatDoorJViewA
import Derived.Test.YtbcebibkpfklnaaGreatDoorJMoreL
import Derived.Test.YtbcebibkpfklnaaGreatDoorJWhereA
set_option maxHeartbeats 16000000
set_option maxRecDepth 100000
namespace Go.Proofs.YtbcebibkpfklnaaGreatDoor
section
open Go Go.RowKit Num
theorem aD9{w w':World}{base:Nat}{e:TypeId}{size:Nat}{x:Value}{n:Nat}{xs:List Value}(h:w.ownsRow base e size x n xs)(hb:Below w.heap.size w w'):w'.ownsRow base e size x n xs :=
 h.kept (row:=none) ⟨hb.os,hb.tape,hb.output,hb.size,fun k hk _=>hb.block k hk⟩ (Classical.em _)
theorem aEp{w:World}{base:Nat}{e:TypeId}{v:Value}{n:Nat}{xs:List Value}(h:w.ownsRow base e 1 v n xs):∃a c,v=.slice a n c∧dT w a xs∧n≤c∧c≤maxLen:=by
 obtain⟨hl,⟨rfl,h0⟩|⟨g,cap,cur,rfl,hg,hh,hn,hm,hs,ht⟩⟩:=h
 ·exact⟨_,_,by rw[h0],.inl (List.length_eq_zero_iff.1 (by rw[hl,h0])),by rw[h0];exact Nl _,by unfold maxLen;omega⟩
 ·refine⟨_,_,rfl,.inr ⟨g,0,rfl,(Ai.1 hh).1,fun k u hu=>?_⟩,hn,hm⟩;have hk:k<n:=by have:=(Li.1 hu).1;omega
  rw[←ht,List.getElem?_take_of_lt (by omega)] at hu;unfold World.cell?;rw[hh,Nat.zero_add];simpa using hu
end
section
open Go Go.RowKit Num
theorem aFj{fs:List aE}{key:List UInt8}{k:Nat}(h:lT fs key=some k):∃f,fs[k]?=some f∧f.key=key:=by
 unfold lT at h;rw[List.findIdx?_eq_some_iff_getElem] at h;obtain⟨hl,he,_⟩:=h;exact⟨fs[k],Lg hl,by simpa using he⟩
theorem aDr{fs:List aE}(hn:(fs.map (·.key)).Nodup){k:Nat}{f:aE}(hf:fs[k]?=some f):lT fs f.key=some k:=by
 refine Ab (fun j g hj hg=>?_) hf (by simp);have h1:(fs.map (·.key))[j]?=some g.key:=by rw[List.getElem?_map,hg];rfl
 have h2:(fs.map (·.key))[k]?=some f.key:=by rw[List.getElem?_map,hf];rfl
 cases h:(g.key==f.key) with
 |false=>rfl
 |true =>
  have e:g.key=f.key:=by simpa using h
  rw[e] at h1;obtain⟨l1,g1⟩:=Li.1 h1;obtain⟨l2,g2⟩:=Li.1 h2;have:=(List.nodup_iff_pairwise_ne.1 hn)
  have hp:=List.pairwise_iff_getElem.1 this j k l1 l2 hj;exact absurd (g1.trans g2.symm) hp
end
section
open Go Go.RowKit Num
theorem aGi{fs:List aE}(hv:dF fs=0){i j:Nat}{x y:aE}(hx:fs[i]?=some x)(hy:fs[j]?=some y)(e:x.key=y.key):i=j:=by
 have hn:=(oW.1 hv).2.2.1;have h1:=aDr hn hx;have h2:=aDr hn hy;rw[e,h2] at h1;injection h1 with h1
 exact h1.symm
theorem aFi{fs:List aE}(hv:dF fs=0){x y:aE}(hx:x∈fs)(hy:y∈fs)(e:x.key=y.key):x=y:=by
 obtain⟨i,hi⟩:=List.getElem?_of_mem hx;obtain⟨j,hj⟩:=List.getElem?_of_mem hy;obtain rfl:=aGi hv hi hj e;rw[hi] at hj;injection hj
theorem aDy{fs:List aE}(hv:dF fs=0){x:aE}(hx:x∈fs)(hc:pJ fs x=true):∃f,f∈fs∧f.kind=10∧bL fs f=some x:=by
 unfold pJ at hc;obtain⟨f,hf,h⟩:=List.any_eq_true.1 hc;simp only[Bool.and_eq_true,decide_eq_true_eq] at h;refine⟨f,hf,h.1,?_⟩;cases hl:bL fs f with
 |none=>rw[hl] at h;simp at h
 |some y =>
  rw[hl] at h;have e:y.key=x.key:=by simpa using h.2
  rw[aFi hv (Bm hl).1 hx e]
theorem Qp{x f:aE}(h:bN x f=true):x.kind=11∧x.target=f.key:=by
 unfold bN at h;simp only[Bool.and_eq_true,decide_eq_true_eq] at h;exact⟨h.1.1.1.1,by simpa using h.1.1.1.2⟩
end
end Go.Proofs.YtbcebibkpfklnaaGreatDoor
