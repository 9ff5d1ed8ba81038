/- Owned FindP2 CountsP -/
import Derived.Test.YtbcebibkpfklnaaGreatDoorJMem
import Derived.Test.YtbcebibkpfklnaaGreatDoorJViewA
import Derived.Test.YtbcebibkpfklnaaGreatDoorJMoreC
import Derived.Test.YtbcebibkpfklnaaGreatDoorJWhereA
set_option maxHeartbeats 16000000
set_option maxRecDepth 100000
namespace Go.Proofs.YtbcebibkpfklnaaGreatDoor
section
open Go Go.RowKit Num
theorem aEp{w:World}{base:Nat}{e:TypeId}{v:Value}{n:Nat}{xs:List Value}(h:w.ownsRow base e 1 v n xs):∃a c,v=.slice a n c∧dT w a xs∧n≤c∧c≤maxLen:=by
 obtain⟨hl,⟨rfl,h0⟩|⟨g,cap,cur,rfl,hg,hh,hn,hm,hs,ht⟩⟩:=h
 ·exact⟨_,_,by rw[h0],.inl (List.length_eq_zero_iff.1 (by rw[hl,h0])),by rw[h0];exact Nl _,by unfold maxLen;omega⟩
 ·refine⟨_,_,rfl,.inr ⟨g,0,rfl,(Ai.1 hh).1,fun k u hu=>?_⟩,hn,hm⟩;have hk:k<n:=by have:=(Li.1 hu).1;omega
  rw[←ht,List.getElem?_take_of_lt (by omega)] at hu;unfold World.cell?;rw[hh,Nat.zero_add];simpa using hu
end
section
open Go Go.RowKit Num
theorem aFj{fs:List aE}{key:List UInt8}{k:Nat}(h:lT fs key=some k):∃f,fs[k]?=some f∧f.key=key:=by
 unfold lT at h;rw[List.findIdx?_eq_some_iff_getElem] at h;obtain⟨hl,he,_⟩:=h;exact⟨fs[k],Lg hl,by simpa using he⟩
theorem aDr{fs:List aE}(hn:(fs.map (·.key)).Nodup){k:Nat}{f:aE}(hf:fs[k]?=some f):lT fs f.key=some k:=by
 refine Ab (fun j g hj hg=>?_) hf (by simp);have h1:(fs.map (·.key))[j]?=some g.key:=by rw[List.getElem?_map,hg];rfl
 have h2:(fs.map (·.key))[k]?=some f.key:=by rw[List.getElem?_map,hf];rfl
 cases h:(g.key==f.key) with
 |false=>rfl
 |true =>
  have e:g.key=f.key:=by simpa using h
  rw[e] at h1;obtain⟨l1,g1⟩:=Li.1 h1;obtain⟨l2,g2⟩:=Li.1 h2;have:=(List.nodup_iff_pairwise_ne.1 hn)
  have hp:=List.pairwise_iff_getElem.1 this j k l1 l2 hj;exact absurd (g1.trans g2.symm) hp
def aG5(o:Option Nat):Int:=match o with
 |some i=>(i:Int)
 |none=>-1
end
section
open Go Go.RowKit Num
theorem aGi{fs:List aE}(hv:dF fs=0){i j:Nat}{x y:aE}(hx:fs[i]?=some x)(hy:fs[j]?=some y)(e:x.key=y.key):i=j:=by
 have hn:=(oW.1 hv).2.2.1;have h1:=aDr hn hx;have h2:=aDr hn hy;rw[e,h2] at h1;injection h1 with h1
 exact h1.symm
theorem aFi{fs:List aE}(hv:dF fs=0){x y:aE}(hx:x∈fs)(hy:y∈fs)(e:x.key=y.key):x=y:=by
 obtain⟨i,hi⟩:=List.getElem?_of_mem hx;obtain⟨j,hj⟩:=List.getElem?_of_mem hy;obtain rfl:=aGi hv hi hj e;rw[hi] at hj;injection hj
theorem aGq{fs:List aE}(hv:dF fs=0){key:List UInt8}(hk:key∈dZ fs):∃k x,lT fs key=some k∧fs[k]?=some x∧x.kind=11:=by
 unfold dZ Ha at hk;obtain⟨x,hx,rfl⟩:=List.mem_map.1 hk;obtain⟨hm,hp⟩:=List.mem_filter.1 hx;obtain⟨k,hkk⟩:=List.getElem?_of_mem hm;simp only[Bool.and_eq_true,decide_eq_true_eq] at hp;exact⟨k,x,aDr (oW.1 hv).2.2.1 hkk,hkk,hp.1⟩
theorem aGf{fs:List aE}(hv:dF fs=0):(dZ fs).Nodup:=by
 unfold dZ Ha;exact(oW.1 hv).2.2.1.sublist (List.filter_sublist.map _)
theorem aG1{fs:List aE}(hv:dF fs=0){i:Nat}{key:List UInt8}(hk:(dZ fs)[i]?=some key):((dZ fs).take i).contains key=false:=by
 cases h:((dZ fs).take i).contains key with
 |false=>rfl
 |true =>
  have hm:key∈(dZ fs).take i:=by simpa using h
  obtain⟨j,hj⟩:=List.getElem?_of_mem hm;have hji:j<i:=by have:=(Li.1 hj).1;rw[List.length_take] at this;omega
  rw[List.getElem?_take_of_lt hji] at hj;obtain⟨l1,g1⟩:=Li.1 hj;obtain⟨l2,g2⟩:=Li.1 hk;exact absurd (g1.trans g2.symm) (List.pairwise_iff_getElem.1 (List.nodup_iff_pairwise_ne.1 (aGf hv)) j i l1 l2 hji)
theorem aFt{fs:List aE}(hv:dF fs=0){x:aE}(hx:x∈fs)(hk:x.kind=11):(dZ fs).contains x.key = !pJ fs x:=by
 have h:(dZ fs).contains x.key=true↔pJ fs x=false:=by
  rw[List.contains_iff_mem];unfold dZ Ha;rw[List.mem_map];constructor
  ·rintro⟨y,hy,e⟩;obtain⟨hm,hp⟩:=List.mem_filter.1 hy;obtain rfl:=aFi hv hm hx e;simp only[Bool.and_eq_true,Bool.not_eq_true'] at hp;exact hp.2
  ·intro h;exact⟨x,List.mem_filter.2 ⟨hx,by simp[hk,h]⟩,rfl⟩
 cases h1:(dZ fs).contains x.key <;> cases h2:pJ fs x <;> simp_all
def zZ(fs:List aE)(k:Nat):List (List UInt8):=((fs.take k).filter fun x=>decide (x.kind=11)&&pJ fs x).map (·.target)
theorem aFl(fs:List aE):zZ fs 0=[]:=rfl
theorem aFm{fs:List aE}{k:Nat}{x:aE}(hx:fs[k]?=some x):zZ fs (k+1)=if(decide (x.kind=11)&&pJ fs x)=true then zZ fs k ++ [x.target] else zZ fs k:=by
 unfold zZ;rw[List.take_add_one,hx,List.filter_append,List.map_append]
 by_cases h:(decide (x.kind=11)&&pJ fs x)=true
 ·rw[if_pos h];simp only[Option.toList_some,List.filter_cons,h,if_true,List.filter_nil,List.map_cons,List.map_nil]
 ·rw[if_neg h];simp only[Option.toList_some,List.filter_cons,h,if_false,List.filter_nil,List.map_nil,List.append_nil,Bool.false_eq_true]
theorem aDy{fs:List aE}(hv:dF fs=0){x:aE}(hx:x∈fs)(hc:pJ fs x=true):∃f,f∈fs∧f.kind=10∧bL fs f=some x:=by
 unfold pJ at hc;obtain⟨f,hf,h⟩:=List.any_eq_true.1 hc;simp only[Bool.and_eq_true,decide_eq_true_eq] at h;refine⟨f,hf,h.1,?_⟩;cases hl:bL fs f with
 |none=>rw[hl] at h;simp at h
 |some y =>
  rw[hl] at h;have e:y.key=x.key:=by simpa using h.2
  rw[aFi hv (Bm hl).1 hx e]
theorem Qp{x f:aE}(h:bN x f=true):x.kind=11∧x.target=f.key:=by
 unfold bN at h;simp only[Bool.and_eq_true,decide_eq_true_eq] at h;exact⟨h.1.1.1.1,by simpa using h.1.1.1.2⟩
theorem aGn{fs:List aE}(hv:dF fs=0){f:aE}(hf:f∈fs)(hk:f.kind=10):aL fs f=0:=by
 have h1:=((oW.1 hv).2.1 f hf).1;have h2:dQ f=0:=by unfold dQ;rw[if_neg (by simpa using h1),if_neg (by simpa using hk)]
 unfold aL;rw[if_neg (by simp[hv,h2])]
theorem aFn{fs:List aE}{f:aE}(h:aL fs f=0):bC fs f=eZ fs f:=by unfold bC;rw[if_neg (by simpa using h)]
theorem aGu{fs:List aE}(hv:dF fs=0){j:Nat}{x:aE}(hx:fs[j]?=some x)(hc:pJ fs x=true):
  ∃k f,lT fs x.target=some k∧fs[k]?=some f∧f.kind=10∧(zZ fs j).contains x.target=false∧aL fs f=0∧bC fs f=x.choice:=by
 have hxm:=List.mem_of_getElem? hx;obtain⟨f,hf,hk,hl⟩:=aDy hv hxm hc;obtain⟨_,ht⟩:=Qp (Bm hl).2;obtain⟨k,hkk⟩:=List.getElem?_of_mem hf;have he:=aGn hv hf hk;refine⟨k,f,by rw[ht];exact aDr (oW.1 hv).2.2.1 hkk,hkk,hk,?_,he,?_⟩
 ·cases h:(zZ fs j).contains x.target with
  |false=>rfl
  |true =>
   have hm:x.target∈zZ fs j:=by simpa using h
   unfold zZ at hm;obtain⟨y,hy,e⟩:=List.mem_map.1 hm;obtain⟨hy1,hy2⟩:=List.mem_filter.1 hy;simp only[Bool.and_eq_true,decide_eq_true_eq] at hy2;have hym:=List.mem_of_mem_take hy1;obtain⟨g,hg,gk,gl⟩:=aDy hv hym hy2.2;obtain⟨_,gt⟩:=Qp (Bm gl).2;obtain rfl:=aFi hv hg hf (by rw[←gt,e,ht]);rw[gl] at hl;injection hl with hl
   subst hl;obtain⟨i,hi⟩:=List.getElem?_of_mem hy1;have hij:i<j:=by have:=(Li.1 hi).1;rw[List.length_take] at this;omega
   rw[List.getElem?_take_of_lt hij] at hi;have:=aGi hv hi hx rfl;omega
 ·rw[aFn he];unfold eZ;rw[hl]
theorem aGk{fs:List aE}(hv:dF fs=0){x:aE}(hx:x∈fs)(hk:x.kind=10)(hc:(zZ fs fs.length).contains x.key=false):aL fs x=0∧bC fs x=0:=by
 have he:=aGn hv hx hk;refine⟨he,?_⟩;rw[aFn he];unfold eZ;cases hl:bL fs x with
 |none=>rfl
 |some y =>
  exfalso;obtain⟨hy,hel⟩:=Bm hl;obtain⟨h1,h2⟩:=Qp hel;have hcn:pJ fs y=true:=List.any_eq_true.2 ⟨x,hx,by rw[hl];simp[hk]⟩;have hm:x.key∈zZ fs fs.length:=by
   unfold zZ;rw[List.take_length];exact List.mem_map.2 ⟨y,List.mem_filter.2 ⟨hy,by simp[h1,hcn]⟩,h2⟩
  have:(zZ fs fs.length).contains x.key=true:=by simpa using hm
  rw[this] at hc;cases hc
end
end Go.Proofs.YtbcebibkpfklnaaGreatDoor
