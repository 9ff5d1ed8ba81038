/- AfterP AfterM AfterDel AfterIns AfterInsG AfterInsE -/
import Derived.Test.YtejkibnaidiklaaGreatDoorJMem
import Derived.Test.YtejkibnaidiklaaGreatDoorJViewA
import Derived.Test.YtejkibnaidiklaaGreatDoorJRowF
import Derived.Test.YtejkibnaidiklaaGreatDoorJFindA
import Derived.Test.YtejkibnaidiklaaGreatDoorJLog
import Derived.Test.YtejkibnaidiklaaGreatDoorJClassA
import Derived.Lib.Overlaps
import Derived.Lib.LazyBuf
import Derived.Lib.AppendZerosOnto
import Derived.Deep.MidRow
import Derived.WalkKit
import Derived.Lib.Walk
import Derived.Lib.SliceRun
import Derived.Lib.JoinLaws
import Derived.Lib.AppendZeros
import Derived.Laws.Externs
import Derived.Shelf.RegionOpenPlain
set_option maxHeartbeats 16000000
set_option maxRecDepth 100000
namespace Go.Proofs.YtejkibnaidiklaaGreatDoor
section
open Go.RowKit Num
def aH8{α:Type}(l:List α)(i:Nat)(x:α):List α:=l.take i++x::l.drop i
theorem aIl{α β:Type}(g:α→β)(l:List α)(i:Nat)(x:α):(aH8 l i x).map g=aH8 (l.map g) i (g x):=by
 unfold aH8;rw[List.map_append,List.map_cons,List.map_take,List.map_drop]
theorem aId{α:Type}(l:List α)(i:Nat)(x:α):(aH8 l i x).length=l.length+1:=by
 unfold aH8;rw[List.length_append,List.length_cons,List.length_take,List.length_drop];omega
theorem aIk{α:Type}{l:List α}{i:Nat}{x y:α}:y∈aH8 l i x↔y=x∨y∈l:=by
 unfold aH8;rw[List.mem_append,List.mem_cons];constructor
 ·rintro(h|h|h)
  ·exact .inr (List.mem_of_mem_take h)
  ·exact .inl h
  ·exact .inr (List.mem_of_mem_drop h)
 ·rintro(h|h)
  ·exact .inr (.inl h)
  ·rw[←List.take_append_drop i l,List.mem_append] at h;rcases h with h|h
   ·exact .inl h
   ·exact .inr (.inr h)
def aIf(f:aE):aE:={ f with stamp:=0 }
structure aIb(fs:List aE)(f:aE)(i:Nat):Prop where
 le:i≤fs.length
 lo:∀k g,k<i→fs[k]?=some g→iL g f<0
 hi:∀k g,i≤k→fs[k]?=some g→0≤iL g f
theorem aK2(g f:aE):iL g (aIf f)=iL g f:=rfl
theorem aI1{a b:aE}(h:0≤iL a b)(hk:a.key≠b.key):iL b a<0:=by
 have h1:¬ iL a b<0:=by omega
 rw[Zv] at h1 ⊢;rcases Int.lt_trichotomy a.day b.day with hd|hd|hd
 ·exact absurd (.inl hd) h1
 ·rcases Int.lt_trichotomy (eY a.kind) (eY b.kind) with hc|hc|hc
  ·exact absurd (.inr ⟨hd,.inl hc⟩) h1
  ·refine .inr ⟨hd.symm,.inr ⟨hc.symm,?_⟩⟩;have hn:¬ a.key<b.key:=fun e=>h1 (.inr ⟨hd,.inr ⟨hc,e⟩⟩)
   have hz:sS a.key b.key≠0:=fun e=>hk (Rj.1 e)
   unfold sS at hz;rw[if_neg hn] at hz
   by_cases hb:b.key<a.key
   ·exact hb
   ·rw[if_neg hb] at hz;exact absurd rfl hz
  ·exact .inr ⟨hd.symm,.inl hc⟩
 ·exact .inl hd
theorem aIv{f:aE}(h:bY f=0)(hc:f.cancelled=false):bY (aIf f)=0:=by
 obtain⟨a1,_,a3,q,hq,hf⟩:=(mY hc).1 h;refine(mY (f:=aIf f) hc).2 ⟨a1,Int.le_refl _,a3,q,hq,fun i hi=>?_⟩;have e:∀i,i<13→bX (aIf f) q.2 i=bX f q.2 i:=fun i hi=>by
  match i,hi with
  |0,_=>rfl
  |1,_=>rfl
  |2,_=>rfl
  |3,_=>rfl
  |4,_=>rfl
  |5,_=>rfl
  |6,_=>rfl
  |7,_=>rfl
  |8,_=>rfl
  |9,_=>rfl
  |10,_=>rfl
  |11,_=>rfl
  |12,_=>rfl
  |n+13,h=>omega
 rw[e i hi];exact hf i hi
def aIi{α:Type}(key:α→List UInt8)(l:List α)(k:List UInt8):List α:=l.filter fun x=>!(key x==k)
theorem aIm{α:Type}(key:α→List UInt8)(l:List α)(k:List UInt8):(aIi key l k).Sublist l:=List.filter_sublist
theorem aI7{fs:List aE}{k:List UInt8}{g:aE}(h:g∈aIi aE.key fs k):g.key≠k:=by
 have:=(List.mem_filter.1 h).2;simpa using this
theorem aI3{fs:List aE}{k:List UInt8}(h:∀g,g∈fs→g.key≠k):aIi aE.key fs k=fs :=
 List.filter_eq_self.2 fun g hg=>by simpa using h g hg
theorem aJc{fs:List aE}{f:aE}{i:Nat}(hv:dF fs=0)(hf:bY f=0)(hc:f.cancelled=false)(hl:fs.length<1000)(hk:∀g,g∈fs→g.key≠f.key)(hp:aIb fs f i):dF (aH8 fs i (aIf f))=0:=by
 obtain⟨_,h2,h3,h4⟩:=oW.1 hv;refine oW.2 ⟨by rw[aId];omega,fun g hg=>?_,?_,?_⟩
 ·rcases aIk.1 hg with rfl|hg
  ·exact⟨aIv hf hc,hc,rfl⟩
  ·exact h2 g hg
 ·rw[aIl];unfold aH8;rw[List.perm_middle.nodup_iff,List.take_append_drop,List.nodup_cons];refine⟨fun h=>?_,h3⟩;obtain⟨g,hg,e⟩:=List.mem_map.1 h;exact hk g hg e
 ·have hlo:∀g,g∈fs.take i→iL g (aIf f)<0:=fun g hg=>by
   obtain⟨k,hk⟩:=List.getElem?_of_mem hg;rw[List.getElem?_take] at hk;split at hk
   ·rename_i h;exact hp.lo k g h hk
   ·cases hk
  have hhi:∀g,g∈fs.drop i→iL (aIf f) g<0:=fun g hg=>by
   obtain⟨k,hk'⟩:=List.getElem?_of_mem hg;rw[List.getElem?_drop] at hk';exact aI1 (b:=aIf f) (hp.hi (i+k) g (by omega) hk') (hk g (List.mem_of_mem_drop hg))
  rw[←List.take_append_drop i fs,List.pairwise_append] at h4;unfold aH8;rw[List.pairwise_append,List.pairwise_cons];refine⟨h4.1,⟨hhi,h4.2.1⟩,fun a ha b hb=>?_⟩;rcases List.mem_cons.1 hb with rfl|hb
  ·exact hlo a ha
  ·exact h4.2.2 a ha b hb
theorem aIn{fs:List aE}{f x:aE}(i:Nat)(h:bN x f=false):bL (aH8 fs i x) f=bL fs f:=by
 unfold bL aH8;rw[List.filter_append,List.filter_cons,if_neg (by simp[h]),←List.filter_append,List.take_append_drop]
theorem aIu{fs:List aE}{f x:aE}(i:Nat)(h:bN x f=true)(hz:∀g,g∈fs.drop i→bN g f=false):bL (aH8 fs i x) f=some x:=by
 unfold bL aH8;have e:(fs.drop i).filter (fun x=>bN x f)=[]:=List.filter_eq_nil_iff.2 fun g hg=>by simp[hz g hg]
 rw[List.filter_append,List.filter_cons,if_pos h,e];simp
def zzz:List UInt8:=List.replicate 16 122
theorem aJq:dC zzz=true:=by decide
theorem aJe:∀(n:Nat) (l:List UInt8),l.length≤n→l.all iI=true→¬ List.replicate n (122:UInt8)<l:=by
 intro n
 induction n with
 |zero =>
  intro l hl _ h;rw[List.length_eq_zero_iff.1 (by omega:l.length=0)] at h;exact List.lt_irrefl _ h
 |succ n ih =>
  intro l hl ha h;cases l with
  |nil=>exact absurd h (List.not_lt_nil _)
  |cons c r =>
   rw[List.all_cons,Bool.and_eq_true] at ha;rw[List.replicate_succ,List.cons_lt_cons_iff] at h;have hc:c.toNat≤122:=by
    have:=ha.1;unfold iI at this;simp only[Bool.or_eq_true,Bool.and_eq_true,decide_eq_true_eq] at this;omega
   rcases h with h|⟨_,h⟩
   ·have:=UInt8.lt_iff_toNat_lt.1 h;have e:(122:UInt8).toNat=122:=rfl;omega
   ·exact ih r (by simpa using hl) ha.2 h
theorem aJf:((aX.find? (fun p=>p.1==(11:Int))).map fun q=>(List.range 13).all fun i=>q.2.has.getD i false==(i==0 || i==3 || i==12))=some true:=by decide +kernel
theorem aK7:eY 11=4:=by decide +kernel
def aIc(f:aE)(n:Int):aE:={ key:=zzz,stamp:=0,cancelled:=false,day:=f.day,kind:=11,ins:=f.ins,other:=[],cur:=[],target:=f.key,q:=[],amt:=[],fee:=[],price:=⟨[],[]⟩,ratio:=⟨[],[]⟩,share:=⟨[],[]⟩,picks:=[],options:=[],choice:=n }
theorem aI2{f:aE}{n:Int}(h:dQ f=0)(hn:0≤n):bY (aIc f n)=0:=by
 obtain⟨h1,h2⟩:=iR h;have hc:=nM h1 (by rw[h2];decide);obtain⟨a1,a2,a3,q,hq,hf⟩:=(mY hc).1 h1;have k10:=Uh;rw[←h2,hq] at k10;simp only[Option.map_some,Option.some.injEq,Prod.mk.injEq] at k10;have hins:fA f.ins=0:=by
  have:=hf 0 (by decide);unfold bX at this;rw[if_pos k10.2] at this;exact this
 have k:=aJf;cases hq2:aX.find? (fun p=>p.1==(11:Int)) with
 |none=>rw[hq2] at k;cases k
 |some q2 =>
  rw[hq2] at k;simp only[Option.map_some,Option.some.injEq,List.all_eq_true,List.mem_range,beq_iff_eq] at k;refine(mY (f:=aIc f n) rfl).2 ⟨aJq,Int.le_refl _,a3,q2,hq2,fun i hi=>?_⟩;unfold bX;rw[k i hi]
  match i,hi with
  |0,_=>exact hins
  |1,_=>rfl
  |2,_=>rfl
  |3,_=>show fA f.key=0;unfold fA;rw[if_pos a1]
  |4,_=>rfl
  |5,_=>rfl
  |6,_=>rfl
  |7,_=>rfl
  |8,_=>rfl
  |9,_=>rfl
  |10,_=>rfl
  |11,_=>rfl
  |12,_=>show (if n<0 then(2:Int) else 0)=0;rw[if_neg (by omega)]
  |n+13,h=>omega
theorem aIt{f:aE}{n:Int}(hn:n<f.options.length):bN (aIc f n) f=true:=by
 unfold bN aIc;simp[hn]
theorem aI6{fs:List aE}{f g:aE}{n:Int}{i:Nat}(hv:dF fs=0)(hp:aIb fs (aIc f n) i)(hk:∀g,g∈fs→g.key≠zzz)(hg:g∈fs.drop i):bN g f=false:=by
 have hm:=List.mem_of_mem_drop hg;obtain⟨k,hk'⟩:=List.getElem?_of_mem hg;rw[List.getElem?_drop] at hk';have hlt:=aI1 (hp.hi (i+k) g (by omega) hk') (hk g hm);cases he:bN g f with
 |false=>rfl
 |true =>
  exfalso;unfold bN at he;simp only[Bool.and_eq_true,decide_eq_true_eq] at he;have hday:=he.1.2;have hkind:=he.1.1.1.1;have hc:=((oW.1 hv).2.1 g hm).1;have hname:=((mY ((oW.1 hv).2.1 g hm).2.1).1 hc).1;unfold dC at hname;simp only[Bool.and_eq_true,decide_eq_true_eq] at hname;rw[Zv] at hlt;have e1:(aIc f n).day=f.day:=rfl;have e2:(aIc f n).kind=11:=rfl;rw[e1,e2,hkind] at hlt;rcases hlt with h|⟨_,h|⟨_,h⟩⟩
  ·omega
  ·omega
  ·exact aJe 16 g.key hname.1.2 hname.2 h
theorem aIy{fs:List aE}{f:aE}{n:Int}{i:Nat}(hv:dF fs=0)(hn:n<f.options.length)(hp:aIb fs (aIc f n) i)(hk:∀g,g∈fs→g.key≠zzz):eZ (aH8 fs i (aIc f n)) f=n:=by
 unfold eZ;rw[aIu i (aIt hn) fun g hg=>aI6 hv hp hk hg];rfl
end
section
open Go Go.RowKit Num
theorem aIr{xs:List aF}{k:Nat}{x:aF}(h:xs[k]?=some x){j:Nat}(hj:j<21):(pX xs)[k*21+j]?=x.arr.toList[j]? :=
 xE Fa k x.cells j (by rw[List.getElem?_map,h];rfl) hj
theorem aJg(xs:List aF)(k:Nat):(pX xs).drop (k*21)=pX (xs.drop k):=by
 rcases Nat.le_total k xs.length with h|h
 ·have e:pX xs=pX (xs.take k)++pX (xs.drop k):=by rw[←Ei,List.take_append_drop]
  rw[e,List.drop_left' (by rw[aHa,List.length_take];congr 1;omega)]
 ·rw[List.drop_eq_nil_of_le (by rw[aHa];exact Nat.mul_le_mul_right 21 h),List.drop_eq_nil_of_le h];rfl
theorem aIq(xs:List aF)(k:Nat):(pX xs).take (k*21)=pX (xs.take k):=by
 rcases Nat.le_total k xs.length with h|h
 ·have e:pX xs=pX (xs.take k)++pX (xs.drop k):=by rw[←Ei,List.take_append_drop]
  rw[e,List.take_left' (by rw[aHa,List.length_take];congr 1;omega)]
 ·rw[List.take_of_length_le (by rw[aHa];exact Nat.mul_le_mul_right 21 h),List.take_of_length_le h]
def aIa(w:World)(g cap:Nat)(f:Nat→Value)(xs:List aF):Prop :=
 w.rowIs g 59 (cap*21) f∧xs.length≤cap∧∀j u,(pX xs)[j]?=some u→f j=u
theorem aIa.cell{w:World}{g cap:Nat}{f:Nat→Value}{xs:List aF}(h:aIa w g cap f xs){j:Nat}{u:Value}(hu:(pX xs)[j]?=some u):w.cell? ⟨g,j,none⟩=some u:=by
 have hj:=(Li.1 hu).1;rw[aHa] at hj;rw[h.1.cell (Nat.lt_of_lt_of_le hj (Nat.mul_le_mul_right 21 h.2.1)),h.2.2 j u hu]
theorem aIa.there{w:World}{g cap:Nat}{f:Nat→Value}{xs:List aF}(h:aIa w g cap f xs){o n:Nat}(hn:o+n≤cap*21):w.there g o n:=fun j hj =>
 ⟨by rw[h.1.cell (by omega)];rfl,h.1.frozen _⟩
theorem aIa.below{w w':World}{g cap B:Nat}{f:Nat→Value}{xs:List aF}(h:aIa w g cap f xs)(hb:Below B w w')(hg:g<B):aIa w' g cap f xs :=
 ⟨h.1.of_block (hb.block g hg),h.2⟩
theorem aIa.of_owns{w:World}{base:Nat}{v:Value}{xs:List aF}(h:w.ownsRow base 59 21 v xs.length (pX xs)):
  (v=.slice none 0 0∧xs=[])∨∃g cap f,v=.slice (some ⟨g,0,none⟩) xs.length cap∧base≤g∧cap≤maxLen∧aIa w g cap f xs:=by
 obtain⟨_,⟨h1,h2⟩|⟨g,cap,cur,h1,h2,h3,h4,h5,h6,h7⟩⟩:=h
 ·exact .inl ⟨h1,List.length_eq_zero_iff.1 h2⟩
 ·refine .inr ⟨g,cap,fun j=>cur.getD j default,h1,h2,h5,⟨cur,h3,h6,fun i hi=>?_⟩,h4,fun j u hu=>?_⟩
  ·show cur[i]?=some (cur.getD i default);rw[Array.getD_eq_getD_getElem?,Array.getElem?_eq_getElem (by omega)];rfl
  ·rw[←h7,List.getElem?_take] at hu;split at hu
   ·rw[Array.getElem?_toList] at hu;show cur.getD j default=u;rw[Array.getD_eq_getD_getElem?,hu];rfl
   ·cases hu
theorem aIa.owns{w:World}{g cap base:Nat}{f:Nat→Value}{xs:List aF}(h:aIa w g cap f xs)(hb:base≤g)(hc:cap≤maxLen):
  w.ownsRow base 59 21 (.slice (some ⟨g,0,none⟩) xs.length cap) xs.length (pX xs):=by
 obtain⟨⟨cur,h1,h2,h3⟩,h4,h5⟩:=h;refine⟨aHa xs,.inr ⟨g,cap,cur,rfl,hb,h1,h4,hc,h2,?_⟩⟩;have hl:xs.length*21≤cap*21:=Nat.mul_le_mul_right 21 h4;refine List.ext_getElem? fun j=>?_
 rw[List.getElem?_take];split
 ·rename_i hj;rw[Array.getElem?_toList,h3 j (by omega),Lg (by rw[aHa];exact hj)];exact congrArg some (h5 j _ (Lg (by rw[aHa];exact hj)))
 ·rename_i hj;rw[List.getElem?_eq_none (by rw[aHa];omega)]
theorem aIa.facts{w:World}{g cap:Nat}{f:Nat→Value}{xs:List aF}(h:aIa w g cap f xs)(hb:∀x,x∈xs→x.f.Behind w x.pa x.oa):fS w (some ⟨g,0,none⟩) xs:=by
 refine⟨.inr ⟨g,0,rfl,h.1.lt,fun k cs hk j v hv=>?_⟩,hb⟩;rw[List.getElem?_map] at hk;obtain⟨x,hx,rfl⟩:=Option.map_eq_some_iff.1 hk;have hj:j<21:=(Li.1 hv).1;rw[Nat.zero_add];exact h.cell ((aIr hx hj).trans hv)
theorem aIa.load{w:World}{g cap:Nat}{f:Nat→Value}{xs:List aF}(h:aIa w g cap f xs){k:Nat}{x:aF}(hx:xs[k]?=some x):∀j v,x.arr.toList[j]?=some v→w.cell? ⟨g,0+k*21+j,none⟩=some v:=fun j v hv=>by
 rw[Nat.zero_add];exact h.cell ((aIr hx (Li.1 hv).1).trans hv)
theorem aIp{P:Program}(w:World)(t e ty:TypeId)(z:Value)(ht:P.underlying t=some (.slice e))(hv:∀w,(zeroValue e).run P w=.ok z w)(hz:0<z.cells.size)(h1:z.cells.all (·.oneCell')=true)(b o n c:Nat)(hn:0<n)(hw:w.there b o (n*z.cells.size)):
  (Builtin.clear_ #[t] ty #[.slice (some ⟨b,o,none⟩) n c]).run P w=.ok (.tuple #[]) (w.setCells b o (Builtin.zeroCells z.cells n).toList):=by
 have hl:(Builtin.zeroCells z.cells n).toList.length=n*z.cells.size:=by simp[Builtin.zeroCells]
 have hst:=run_storeCells_cells (P:=P) b o (Builtin.zeroCells z.cells n).toList 0 w (fun j hj=>by simpa using(hw j (by rwa [hl] at hj)).1) (fun j hj=>by simpa using(hw j (by rwa [hl] at hj)).2) (fun v hv=>by
  unfold Builtin.zeroCells at hv;rw[Array.toList_map,List.mem_map] at hv;obtain⟨i,_,rfl⟩:=hv;have hi:i%z.cells.size<z.cells.size:=Nat.mod_lt _ hz;rw[getElem!_pos z.cells _ hi];exact(Array.all_eq_true_iff_forall_mem.1 h1) _ (Array.getElem_mem hi))
 simp only[Nat.add_zero] at hst;obtain⟨m,rfl⟩:∃m,n=m+1:=⟨n-1,by omega⟩
 simp[Builtin.clear_,run_underlying ht,hv,hst]
theorem aIe{P:Program}(w:World)(tyD tyS ty elem:TypeId)(size:Nat)(b o dLen dCap:Nat)(a:Addr)(sLen sCap:Nat)(cs:List Value)
  (hu:P.underlying tyD=some (.slice elem)) (hs:(P.info? elem).map (·.size)=some size) (hn:cs.length=Nat.min sLen dLen*size)
  (hsrc:∀j v,cs[j]?=some v→w.cell? (a.add j)=some v) (ht:w.there b o cs.length) (h1:∀v∈cs,v.oneCell'=true) :
  (Builtin.copy_ #[tyD,tyS] ty #[.slice (some ⟨b,o,none⟩) dLen dCap,.slice (some a) sLen sCap]).run P w=.ok (goInt (Nat.min sLen dLen)) (w.setCells b o cs):=by
 have hl:=run_loadCells_list (P:=P) w a cs hsrc;have hst:=run_storeCells_cells (P:=P) b o cs 0 w (fun j hj=>by simpa using(ht j hj).1) (fun j hj=>by simpa using(ht j hj).2) h1;cases hq:P.info? elem with
 |none=>simp[hq] at hs
 |some i =>
  have hi:i.size=size:=by simpa[hq] using hs
  simp[Builtin.copy_,run_underlying hu,Builtin.lenOf,Builtin.firstCells,sizeOf,typeInfo,hq,hi,←hn,hl,hst]
theorem aIa.put{w:World}{g cap:Nat}{f:Nat→Value}{n:Nat}(h:w.rowIs g 59 (cap*21) f)(vs:List Value):(w.setCells g n vs).rowIs g 59 (cap*21) (fun j=>if n≤j∧j<n+vs.length then vs[j-n]?.getD default else f j) :=
 rowIs_setCells vs n w f h
end
section
open Go Go.RowKit Num
theorem aHi(x y:aF)(bk:Nat)(w:World)(hb:aP w bk y.arr 59):
  Calls Tryz.prog 81 #[.agg x.arr,.pointer (some ⟨bk,0,none⟩)] w fun e w'=>e=.returned (.bool (x.f.key==y.f.key))∧Below w.heap.size w w':=by
 have KX:=aP.new0 w x.arr 59;have x0:=(KX.cell 0).trans (show _=some (.string ⟨x.f.key.toArray⟩) from rfl);have ck:=((hb.below (aB w (.cells x.arr 59))).cell 0).trans (show _=some (.string ⟨y.f.key.toArray⟩) from rfl);have HB0:=Hd (aB w (.cells x.arr 59));clear KX hb;generalize x.arr=xc at *;generalize x.f.key=kk at *;generalize y.f.key=key at *;cases h:(kk==key) with
 |true =>
  go_enter Tryz.func81,Tryz.ntmps81;go_wp2;go_ret;exact⟨rfl,HB0.out⟩
 |false =>
  go_enter Tryz.func81,Tryz.ntmps81;go_wp2;go_ret;exact⟨rfl,HB0.out⟩
theorem aHm(xs:List aF)(a:Option Addr)(c:Nat)(y:aF)(bk:Nat)(w:World)(hn:xs.length≤1000000)(hr:gJ w a 21 (xs.map aF.cells))(hb:aP w bk y.arr 59):
  Calls Tryz.prog 72 #[.slice a xs.length c,.func (.func 81) #[] #[.pointer (some ⟨bk,0,none⟩)]] w fun e w'=>e=.returned (.int .i64 (aG5 (lT (xs.map aF.f) y.f.key)))∧Below w.heap.size w w':=by
 obtain⟨res,hres⟩:∃res,res=aG5 (lT (xs.map aF.f) y.f.key):=⟨_,rfl⟩
 rw[←hres];have HRES:=Hd hres;have HR:=Hd hr;have HK:=Hd hb;clear hres hr hb;go_enter Tryz.func72,Tryz.ntmps72;go_wp2_with fail;go_loopw [8] (fun iv wr=>∃k:Nat,k≤xs.length∧iv=.int .i64 k∧Hid (∀j g,j<k→(xs.map aF.f)[j]?=some g→(g.key==y.f.key)=false)∧Hid (Below w.heap.size w wr)) (fun iv _=>xs.length-(intOf iv).toNat)
 case atStart=>exact⟨0,Nat.zero_le _,rfl,fun j g h=>absurd h (Nat.not_lt_zero j),Br _ _⟩
 case round =>
  obtain⟨k,hk,rfl,HS,HB⟩:=hrel
  by_cases hlt:k<xs.length
  ·obtain⟨x,hx⟩:∃x,xs[k]?=some x:=⟨xs[k],Lg hlt⟩
   have hfk:(xs.map aF.f)[k]?=some x.f:=by rw[List.getElem?_map,hx];rfl
   obtain⟨b,off,rfl,hbl,hc⟩:=HR.out.addr (k:=k) (cs:=x.cells) (by rw[List.getElem?_map,hx];rfl);have HC:Hid (∀j v,x.arr.toList[j]?=some v→wr.cell? ⟨b,off+k*21+j,none⟩=some v):=fun j v hv=>(HB.out.cell (p:=⟨b,off+k*21+j,none⟩) hbl).trans (hc j v hv)
   have HSZ:Hid ((Tryz.prog.info? 59).map (·.size)=some x.arr.size):=aY x.f x.pa x.oa x.pc x.oc;have HG:=Hd (aHi x y bk wr (HK.out.below HB.out));have HHIT:Hid ((x.f.key==y.f.key)=true→res=(k:Int)):=fun he=>by rw[HRES.out,Ab HS.out hfk he];rfl
   have HS2:Hid ((x.f.key==y.f.key)=false→∀j g,j<k+1→(xs.map aF.f)[j]?=some g→(g.key==y.f.key)=false):=fun he j g hj hg=>by
    by_cases e:j=k
    ·subst e;rw[hfk] at hg;injection hg with hg;subst hg;exact he
    ·exact HS.out j g (by omega) hg
   clear HS hfk hx hc;generalize(x.f.key==y.f.key)=hit at *;generalize x.arr=fc at *;go_wp2_with (refine aM rfl 59 _ rfl b (off+k*21) rfl fc _ HC.out Tryz.underlying59 rfl HSZ.out ?_);refine HG.out.mono ?_;rintro e w1 ⟨rfl,hb⟩;have HB1:=Hd (aA HB.out hb);clear hb;cases hit with
   |true =>
    have HV:=Hd (HHIT.out rfl);clear HHIT HS2;go_wp2;go_ret;exact⟨by rw[HV.out];rfl,HB1.out⟩
   |false =>
    have HS3:=Hd (HS2.out rfl);clear HHIT HS2;go_wp2;go_roundw
    case rel=>exact⟨k+1,by omega,by go_num,HS3,HB1⟩
    case measure=>simp[intOf];omega
  ·obtain rfl:k=xs.length:=by omega
   have HV:Hid (res = -1):=by show _=_;rw[HRES.out,Aa (fun j g hj=>HS.out j g (by simpa using hj))];rfl
   clear HS;go_wp2;go_ret;exact⟨by rw[HV.out];rfl,HB.out⟩
def aG7(xs:List aF)(key:List UInt8)(k:Nat):List aF:=(xs.take k).filter fun x=>!(x.f.key==key)
theorem aHb{xs:List aF}{key:List UInt8}{k:Nat}{x:aF}(hx:xs[k]?=some x):aG7 xs key (k+1)=if(x.f.key==key)=true then aG7 xs key k else aG7 xs key k ++ [x]:=by
 unfold aG7;rw[List.take_add_one,hx,List.filter_append];cases h:(x.f.key==key) <;> simp[h]
theorem aHh(xs:List aF)(key:List UInt8)(k:Nat):(aG7 xs key k).length≤k:=Nat.le_trans (List.length_filter_le _ _) (by rw[List.length_take];exact Nat.min_le_left _ _)
theorem aHq(xs:List aF)(key:List UInt8):aG7 xs key xs.length=xs.filter fun x=>!(x.f.key==key):=by unfold aG7;rw[List.take_length]
theorem aHo{xs:List aF}{key:List UInt8}{k:Nat}(h:∀j g,j<k→(xs.map aF.f)[j]?=some g→(g.key==key)=false):aG7 xs key k=xs.take k:=by
 unfold aG7;refine List.filter_eq_self.2 fun x hx=>?_
 obtain⟨j,hj⟩:=List.getElem?_of_mem hx;rw[List.getElem?_take] at hj;split at hj
 ·rename_i hjk;rw[h j x.f hjk (by rw[List.getElem?_map,hj];rfl)];rfl
 ·cases hj
theorem aHn{fs:List aE}{key:List UInt8}{k:Nat}(h:lT fs key=some k):∀j g,j<k→fs[j]?=some g→(g.key==key)=false:=by
 unfold lT at h;rw[List.findIdx?_eq_some_iff_getElem] at h;obtain⟨hl,_,hb⟩:=h;intro j g hj hg;have h1:=hb j hj;obtain⟨hl2,e⟩:=Li.1 hg;rw[e] at h1;simpa using h1
theorem aHr{fs:List aE}{key:List UInt8}{k:Nat}(h:lT fs key=some k):k<fs.length:=by
 obtain⟨f,hf,_⟩:=aFj h;exact(Li.1 hf).1
def aG8(w:World)(g cap:Nat)(xs:List aF)(key:List UInt8)(k:Nat):Prop :=
 ∃f,w.rowIs g 59 (cap*21) f∧(∀t u,(pX (aG7 xs key k))[t]?=some u→f t=u)∧∀t u,k*21≤t→(pX xs)[t]?=some u→f t=u
theorem aG8.below{w w':World}{g cap B:Nat}{xs:List aF}{key:List UInt8}{k:Nat}(h:aG8 w g cap xs key k)(hb:Below B w w')(hg:g<B):aG8 w' g cap xs key k:=by
 obtain⟨f,h1,h2⟩:=h;exact⟨f,h1.of_block (hb.block g hg),h2⟩
theorem aG8.there{w:World}{g cap:Nat}{xs:List aF}{key:List UInt8}{k:Nat}(h:aG8 w g cap xs key k){o n:Nat}(hn:o+n≤cap*21):w.there g o n:=by
 obtain⟨f,h1,_⟩:=h;exact fun j hj=>⟨by rw[h1.cell (by omega)];rfl,h1.frozen _⟩
theorem aG8.load{w:World}{g cap:Nat}{xs:List aF}{key:List UInt8}{k:Nat}(h:aG8 w g cap xs key k)(hc:xs.length≤cap){x:aF}(hx:xs[k]?=some x):∀j v,x.arr.toList[j]?=some v→w.cell? ⟨g,0+k*21+j,none⟩=some v:=fun j v hv=>by
 obtain⟨f,h1,_,h3⟩:=h;have hj:j<21:=(Li.1 hv).1;have hk:=(Li.1 hx).1;rw[Nat.zero_add,h1.cell (by omega)];exact congrArg some (h3 _ v (by omega) ((aIr hx hj).trans hv))
theorem aG8.skip{w:World}{g cap:Nat}{xs:List aF}{key:List UInt8}{k:Nat}{x:aF}(h:aG8 w g cap xs key k)(hx:xs[k]?=some x)(he:(x.f.key==key)=true):aG8 w g cap xs key (k+1):=by
 obtain⟨f,h1,h2,h3⟩:=h;exact⟨f,h1,by rw[aHb hx,if_pos he];exact h2,fun t u ht hu=>h3 t u (by omega) hu⟩
theorem aG8.keep{w:World}{g cap:Nat}{xs:List aF}{key:List UInt8}{k:Nat}{x:aF}(h:aG8 w g cap xs key k)(hx:xs[k]?=some x)(he:(x.f.key==key)=false):aG8 (w.setCells g ((aG7 xs key k).length*21) x.arr.toList) g cap xs key (k+1):=by
 obtain⟨f,h1,h2,h3⟩:=h;refine⟨_,aIa.put h1 _,fun t u hu=>?_,fun t u ht hu=>?_⟩
 ·rw[aHb hx,if_neg (by rw[he];decide),Ei,Qy] at hu;have hl:=aHa (aG7 xs key k)
  by_cases ht:t<(aG7 xs key k).length*21
  ·rw[List.getElem?_append_left (by omega)] at hu;show (if _ then _ else f t)=u;rw[if_neg (by omega)];exact h2 t u hu
  ·rw[List.getElem?_append_right (by omega),hl] at hu;have:=(Li.1 hu).1;show (if _ then _ else f t)=u;rw[if_pos (by omega),hu];rfl
 ·have hl:=aHh xs key k;have e:x.arr.toList.length=21:=rfl;show (if _ then _ else f t)=u;rw[if_neg (by omega)];exact h3 t u (by omega) hu
theorem aP.over{w w':World}{b B:Nat}{cs:Array Value}{T:TypeId}(h:aP w b cs T)(hb:Below B w w')(hlt:b<B):aP w' b cs T:=⟨Nat.lt_of_lt_of_le h.1 hb.size,(hb.block b hlt).trans h.2⟩
theorem aHt(xs:List aF)(g off cap:Nat)(h0:off=0)(f:Nat→Value)(y:aF)(bk base:Nat)(w:World)(hbase:base≤g)(hbk:bk<base)(hn:xs.length≤1000000)(hc:cap≤9223372036854775807)(hr:aIa w g cap f xs)(hB:aP w bk y.arr 59):
  Calls Tryz.prog 79 #[.slice (some ⟨g,off,none⟩) xs.length cap,.func (.func 81) #[] #[.pointer (some ⟨bk,0,none⟩)]] w fun e w' =>
   (e=.returned (.slice (some ⟨g,off,none⟩) (xs.filter fun x=>!(x.f.key==y.f.key)).length cap)∧∃f',aIa w' g cap f' (xs.filter fun x=>!(x.f.key==y.f.key)))∧Below base w w':=by
 obtain⟨ys,hys⟩:∃ys,ys=xs.filter fun x=>!(x.f.key==y.f.key):=⟨_,rfl⟩
 rw[←hys];have HYS:=Hd hys;have HI:=Hd (aHm xs (some ⟨g,off,none⟩) cap y bk w hn (.inr ⟨g,off,rfl,hr.1.lt,fun k cs hk j v hv=>by
  rw[h0];rw[List.getElem?_map] at hk;obtain⟨x,hx,rfl⟩:=Option.map_eq_some_iff.1 hk;exact hr.load hx j v hv⟩) hB)
 have hgw:=hr.1.lt;have hlc:=hr.2.1;have HR:=Hd hr;have HK:=Hd hB;have H0:=Hd h0;clear hr hB hys h0;cases hfk:lT (xs.map aF.f) y.f.key with
 |none =>
  rw[hfk] at HI;have HI:Hid (Calls Tryz.prog 72 #[.slice (some ⟨g,off,none⟩) xs.length cap,.func (.func 81) #[] #[.pointer (some ⟨bk,0,none⟩)]] w fun e w'=>e=.returned (.int .i64 (-1))∧Below w.heap.size w w'):=HI;have he:xs=ys:=by
   rw[HYS.out];refine(List.filter_eq_self.2 fun x hx=>?_).symm;unfold lT at hfk;rw[List.findIdx?_eq_none_iff] at hfk;have:=hfk x.f (List.mem_map.2 ⟨x,hx,rfl⟩);simpa using this
  subst he;clear hfk HYS;go_enter Tryz.func79,Tryz.ntmps79;go_wp2_with fail;refine HI.out.mono ?_;rintro e w1 ⟨rfl,hb⟩;have HB1:=Hd hb;clear hb HI;go_wp2;go_ret;exact⟨⟨rfl,f,HR.out.below HB1.out hgw⟩,HB1.out.mono (by omega)⟩
 |some p =>
  have hpn:=aHr hfk;rw[List.length_map] at hpn;rw[hfk] at HI;have HI:Hid (Calls Tryz.prog 72 #[.slice (some ⟨g,off,none⟩) xs.length cap,.func (.func 81) #[] #[.pointer (some ⟨bk,0,none⟩)]] w fun e w'=>e=.returned (.int .i64 (p:Int))∧Below w.heap.size w w'):=HI;have hKP:=aHo (aHn hfk);obtain⟨x0,hx0,hk0⟩:∃x0,xs[p]?=some x0∧(x0.f.key==y.f.key)=true:=by
   obtain⟨fp,h1,h2⟩:=aFj hfk;rw[List.getElem?_map] at h1;obtain⟨x0,hx0,rfl⟩:=Option.map_eq_some_iff.1 h1;exact⟨x0,hx0,by simpa using h2⟩
  have hkl:(aG7 xs y.f.key p).length=p:=by rw[hKP,List.length_take];omega
  have HD0:Hid (aG8 w g cap xs y.f.key p):=by
   show aG8 w g cap xs y.f.key p;refine⟨f,HR.out.1,fun t u hu=>HR.out.2.2 t u ?_,fun t u _ hu=>HR.out.2.2 t u hu⟩;rw[hKP,←aIq,List.getElem?_take] at hu;split at hu
   ·exact hu
   ·cases hu
  have HS0:Hid ((aG7 xs y.f.key (p+1)).length=p):=by show _=_;rw[aHb hx0,if_pos hk0,hkl]
  have HD1:Hid (∀W,Below w.heap.size w W→aG8 W g cap xs y.f.key (p+1)):=fun W hW=>(HD0.out.below hW hgw).skip hx0 hk0
  have HF:Hid (∀(x:aF) W,Below base w W→Calls Tryz.prog 81 #[.agg x.arr,.pointer (some ⟨bk,0,none⟩)] W fun e w'=>e=.returned (.bool (x.f.key==y.f.key))∧Below W.heap.size W w'):=fun x W hb=>aHi x y bk W (HK.out.over hb hbk)
  have HALL:Hid (ys=aG7 xs y.f.key xs.length):=by show _=_;rw[HYS.out,aHq]
  have hp1:((p:Int) == -1)=false:=by simp
  have HINF:Hid (∀x:aF,(Tryz.prog.info? 59).map (·.size)=some x.arr.size):=fun x=>aY x.f x.pa x.oa x.pc x.oc
  clear hfk hKP hkl HD0 hx0 hk0 HR HYS HK;generalize y.f.key=key at *;go_enter Tryz.func79,Tryz.ntmps79;go_wp2_with fail;refine HI.out.mono ?_;rintro e w1 ⟨rfl,hb⟩;have HB1:=Hd (hb.mono (by omega):Below base w w1);have HD:=Hd (HD1.out _ hb);clear hb HI HD1;go_wp2_with fail;go_loopw [5,6] (fun iv jv wr=>∃k:Nat,p<k∧k≤xs.length∧iv=.int .i64 ((aG7 xs key k).length:Nat)∧jv=.int .i64 k∧Hid ((aG7 xs key k).length<k)∧Hid (aG8 wr g cap xs key k)∧Hid (Below base w wr)) (fun _ jv _=>xs.length-(intOf jv).toNat)
  case atStart=>exact⟨p+1,by omega,by omega,by rw[HS0.out],by go_num,by show _<_;rw[HS0.out];omega,HD,HB1⟩
  case round =>
   obtain⟨k,hpk,hk,rfl,rfl,HL,HD,HB⟩:=hrel;have hlk:=aHh xs key k
   by_cases hlt:k<xs.length
   ·obtain⟨x,hx⟩:∃x,xs[k]?=some x:=⟨xs[k],Lg hlt⟩
    have HC:Hid (∀j v,x.arr.toList[j]?=some v→wr.cell? ⟨g,off+k*21+j,none⟩=some v):=fun j v hv=>by rw[H0.out];exact HD.out.load hlc hx j v hv
    have HSZ:=Hd (HINF.out x);have HONE:=Hd (dV x);have HG:Hid (∀W,Below base w W→Calls Tryz.prog 81 #[.agg x.arr,.pointer (some ⟨bk,0,none⟩)] W fun e w'=>e=.returned (.bool (x.f.key==key))∧Below W.heap.size W w'):=fun W hW=>HF.out x W hW
    have hgr:g<wr.heap.size:=by obtain⟨f,h1,_⟩:=HD.out;exact h1.lt
    have hbr:base≤wr.heap.size:=by omega
    have HSK:Hid ((x.f.key==key)=true→∀W,Below wr.heap.size wr W→(aG7 xs key (k+1)).length=(aG7 xs key k).length∧aG8 W g cap xs key (k+1)):=fun he W hW =>
     ⟨by rw[aHb hx,if_pos he],(HD.out.below hW hgr).skip hx he⟩
    have HKE:Hid ((x.f.key==key)=false→∀W,Below wr.heap.size wr W→(aG7 xs key (k+1)).length=(aG7 xs key k).length+1∧W.there g (off+(aG7 xs key k).length*21) x.arr.size∧aG8 (W.setCells g (off+(aG7 xs key k).length*21) x.arr.toList) g cap xs key (k+1)):=fun he W hW=>by
     have hd:=HD.out.below hW hgr;have e21:x.arr.size=21:=rfl;refine⟨by rw[aHb hx,if_neg (by rw[he];decide),List.length_append];rfl,?_,?_⟩
     ·rw[e21];exact hd.there (by have:=H0.out;omega)
     ·rw[H0.out,Nat.zero_add];exact hd.keep hx he
    have hL:=HL.out;have HBA:=Hd (aB wr (.cells eS 59));have HN1:=Hd (heap_alloc_new wr (.cells eS 59));have HS21:Hid (eS.size=x.arr.size):=rfl;clear HD HL hx;generalize(x.f.key==key)=hit at *;generalize x.arr=xc at *;generalize(aG7 xs key k).length=L at *;go_wp2_with (first|(refine aM rfl 59 _ rfl g (off+k*21) rfl xc _ HC.out Tryz.underlying59 rfl HSZ.out ?_;simp only[pS])|(refine fI rfl 59 _ _ rfl wr.heap.size rfl xc rfl HN1.out HSZ.out HS21.out HONE.out ?_;intro w2 k2 b2' s2;have HB2:=Hd (HBA.out.trans (b2' _ (Nl _)));have HK2:=Hd k2;clear k2 b2' s2;simp only[Act.put])|(refine wpList_load_row rfl 59 _ rfl wr.heap.size rfl 59 xc (0,0) _ HK2.out.2 Tryz.underlying59 rfl HSZ.out ?_;simp only[pS]));refine(HG.out w2 (HB.out.trans (HB2.out.mono hbr))).mono ?_;rintro e w3 ⟨rfl,hb⟩;have HK3:=Hd (HK2.out.below hb);have hb:=aA HB2.out hb;have HB3:=Hd (HB.out.trans (hb.mono hbr));clear HK2 HB2 HN1 HBA HS21 HG HC;cases hit with
    |true =>
     obtain⟨e1,hd⟩:=HSK.out rfl w3 hb;have HD2:=Hd hd;clear hb hd HSK HKE;go_wp2;go_roundw
     case rel=>exact⟨k+1,by omega,by omega,by rw[e1],by go_num,by show _<_;rw[e1];omega,HD2,HB3⟩
     case measure=>simp[intOf];omega
    |false =>
     obtain⟨e1,hth,hd⟩:=HKE.out rfl w3 hb;have HTH:=Hd hth;have HD2:=Hd hd;have HB4:=Hd (below_setCells hbase xc.toList (off+L*21) _ HB3.out);clear hb hd hth HSK HKE;go_wp2_with (first|(refine wpList_load_row rfl 59 _ rfl wr.heap.size rfl 59 xc (0,0) _ HK3.out.2 Tryz.underlying59 rfl HSZ.out ?_;simp only[pS])|(refine wpList_store_mid rfl 59 _ _ rfl g (off+L*21) xc rfl rfl HTH.out HSZ.out HONE.out ?_;simp only[Act.put]));go_roundw
     case rel=>exact⟨k+1,by omega,by omega,by rw[e1];go_num,by go_num,by show _<_;rw[e1];omega,HD2,HB4⟩
     case measure=>simp[intOf];omega
   ·obtain rfl:k=xs.length:=by omega
    have hL:=HL.out;have hyl:ys.length=(aG7 xs key xs.length).length:=by rw[HALL.out]
    have HCL:Hid (∀ty,(Builtin.clear_ #[22] ty #[.slice (some ⟨g,off+(aG7 xs key xs.length).length*21,none⟩) (xs.length-(aG7 xs key xs.length).length) (cap-(aG7 xs key xs.length).length)]).run Tryz.prog wr=.ok (.tuple #[]) (wr.setCells g (off+(aG7 xs key xs.length).length*21) (Builtin.zeroCells aAh.cells (xs.length-(aG7 xs key xs.length).length)).toList)):=fun ty =>
     aIp wr 22 59 ty aAh Tryz.underlying22 (fun _=>by kernel_rfl) (by decide) (by kernel_rfl) g _ _ _ (by omega) (by
      have e21:aAh.cells.size=21:=rfl;rw[e21];exact HD.out.there (by have:=H0.out;omega))
    have HE:Hid ((∃f',aIa (wr.setCells g (off+(aG7 xs key xs.length).length*21) (Builtin.zeroCells aAh.cells (xs.length-(aG7 xs key xs.length).length)).toList) g cap f' ys)∧Below base w (wr.setCells g (off+(aG7 xs key xs.length).length*21) (Builtin.zeroCells aAh.cells (xs.length-(aG7 xs key xs.length).length)).toList)):=by
     obtain⟨fr,h1,h2,_⟩:=HD.out;refine⟨⟨_,aIa.put h1 _,by omega,fun t u hu=>?_⟩,below_setCells hbase _ _ _ HB.out⟩;have ht:=(Li.1 hu).1;rw[aHa,hyl] at ht;show (if _ then _ else fr t)=u;rw[if_neg (by have:=H0.out;omega)];exact h2 t u (by rw[←HALL.out];exact hu)
    clear HD HL HALL;generalize(aG7 xs key xs.length).length=L at *;generalize(Builtin.zeroCells aAh.cells (xs.length-L)).toList=zs at *;have hcl:=HCL.out;clear HCL;have hpc:L≤cap:=by omega
    have hcp:¬ cap=L:=by omega
    have hnl:L≤xs.length:=by omega
    go_wp2;go_ret;exact⟨⟨by rw[hyl];rfl,HE.out.1⟩,HE.out.2⟩
end
section
open Go Go.RowKit Go.Lib Num
theorem aG9{P:Program}(w:World){ops:Array Oper}{rest:List Oper}{o:Oper}{a:Act}{Q:Exit→Act→World→Prop}(hgd:o.guard=none)(d s:Operand)(t t':TypeId)
  (ho:o.op=.call { callee:=.builtin .copy,args:=#[d,s],argTypes:=#[t,t'] }) (v u:Value) (hd:a.eval d=v) (hs:a.eval s=u) {v':Value}{w':World}
  (hr:(Builtin.copy_ #[t,t'] o.type #[v,u]).run P w=.ok v' w') (h:wpList P ops Q rest (a.put o.dst v') w'):wpList P ops Q (o::rest) a w :=
 wpList_plain hgd fun _ hK=>by
  unfold Oper.wp execOp;simp only[ho,resolve,invoke,builtin,Sem.run_bind,Sem.run_pure,Result.andThen_ok,List.map_toArray,List.map_cons,List.map_nil,hd,hs,hr];exact hK _ _ h
theorem aHe{P:Program}{ops:Array Oper}{o:Oper}{a:Act}{w:World}{K:Act→World→Prop}{Q:Exit→Act→World→Prop}{E:Prop}
  (hg:o.guard=none) (d x:Operand) (tyD tyS:TypeId) (hop:o.op=Op.call { callee:=Callee.builtin Builtin.copy,args:=#[d,x],argTypes:=#[tyD,tyS] })
  (v u:Value) (hd:a.eval d=v) (hx:a.eval x=u) {v':Value}{w':World}(hr:(Builtin.copy_ #[tyD,tyS] o.type #[v,u]).run P w=.ok v' w') (hK:K (a.put o.dst v') w') :
  if Region.wanted o (yielded ops a.tmps)=true then Oper.wp P o a w K Q else E:=by
 have hw:Region.wanted o (yielded ops a.tmps)=true:=by simp[Region.wanted,hg]
 rw[if_pos hw];unfold Oper.wp;simp[execOp,hop,resolve,invoke,builtin,hd,hx,hr,Result.andThen];exact hK
theorem aHj(b off n c i vb:Nat)(f:Nat→Value)(cs vs:List Value)(w:World)(hi:i<n)(hroom:n+1≤c)(hc63:c≤9223372036854775807)(hvb:vb≠b)(h0:off=0)
  (hcl:cs.length=n*21) (hvl:vs.length=21) (hrow:w.rowIs b 59 (c*21) f) (hcs:∀j v,cs[j]?=some v→f j=v)
  (hvs:w.heap[vb]?=some (.cells vs.toArray 59 (0,0))) (h1c:∀v∈cs,v.oneCell'=true) (h1v:∀v∈vs,v.oneCell'=true) :
  Calls Tryz.prog 84 #[.slice (some ⟨b,off,none⟩) n c,.int .i64 i,.slice (some ⟨vb,0,none⟩) 1 1] w fun e w' =>
   e=.returned (.slice (some ⟨b,off,none⟩) (n+1) c)∧w'=(w.drew.setCells b (off+(i+1)*21) (cs.drop (i*21))).setCells b (off+i*21) vs:=by
 have hcell:∀j v,cs[j]?=some v→w.cell? ⟨b,off+j,none⟩=some v:=fun j v hv=>by
  have hj:=(Li.1 hv).1;rw[h0,Nat.zero_add,hrow.cell (by omega),hcs j v hv]
 have hth:∀o m,o+m≤c*21→w.there b o m:=fun o m hm j hj=>⟨by rw[hrow.cell (by omega)];rfl,hrow.frozen _⟩
 have hvc:∀j v,vs[j]?=some v→w.cell? ⟨vb,0+j,none⟩=some v:=fun j v hv=>by
  rw[Nat.zero_add,aS hvs j,←hv,←Array.getElem?_toList]
 have hsb:w.shape? b=some (59,c*21):=by
  obtain⟨cur,h1,h2,_⟩:=hrow;unfold World.shape?;rw[h1];simp[h2]
 have hsa:w.shape? vb=some (59,21):=by
  unfold World.shape?;rw[hvs];simp[hvl]
 have hov:∀lb cb,(callFunc 133 #[.slice (some ⟨vb,0,none⟩) 1 1,.slice (some ⟨b,off+(i+1)*21,none⟩) lb cb]).run Tryz.prog w=.ok (.value (.bool false)) w:=fun lb cb=>by
  rw[run_callFunc_extern Tryz.func133 (by kernel_rfl) (by kernel_rfl) (by kernel_rfl) (e:=Extern.SlicesOverlaps.overlaps #[22,22] #[4]) (by kernel_rfl),
   Lib.run_overlaps_apart w 22 4 59 Tryz.underlying22 21 (fun _=>by kernel_rfl) ⟨vb,0,none⟩ ⟨b,off+(i+1)*21,none⟩ 1 1 lb cb hvb 59 59 21 (c*21) hsa hsb (by omega) (aR hvs 0) (aR hvs 21)]
  rfl
 have hz2:¬ ((i:Int)=(n:Int)):=by omega
 have hz3:¬ ((c:Int)<(n:Int)+1):=by omega
 have hdl:(cs.drop (i*21)).length=(n-i)*21:=by rw[List.length_drop,hcl,Nat.sub_mul]
 have hsz:(Tryz.prog.info? 59).map (·.size)=some 21:=by kernel_rfl
 have hw1:IntKind.i64.wrap ((i:Int)+1)=(i:Int)+1:=by rw[IntKind.wrap_i64];omega
 have hb1:(0:Int)≤(i:Int)+1:=by omega
 have hin:i≤n:=by omega
 have htn:((i:Int)+1).toNat=i+1:=by omega
 have hb2:¬ (c=i+1):=by omega
 have hb3:(i:Int)≤(n:Int)+1:=by omega
 have hb4:¬ (c=i):=by omega
 have hcp1:∀ty dc sc,(Builtin.copy_ #[22,22] ty #[.slice (some ⟨b,off+(i+1)*21,none⟩) (n-i) dc,.slice (some ⟨b,off+i*21,none⟩) (n+1-i) sc]).run Tryz.prog w.drew=.ok (goInt (Nat.min (n+1-i) (n-i))) (w.drew.setCells b (off+(i+1)*21) (cs.drop (i*21))):=fun ty dc sc =>
  aIe w.drew _ _ ty 59 21 b (off+(i+1)*21) (n-i) dc ⟨b,off+i*21,none⟩ (n+1-i) sc (cs.drop (i*21)) Tryz.underlying22 hsz (by rw[hdl];congr 1;simp only[Nat.min_def];split <;> omega)
   (fun j v hj=>by rw[Addr.add_lit,Nat.add_assoc];exact hcell (i*21+j) v (by rwa [List.getElem?_drop] at hj))
   (hth _ _ (by rw[hdl,h0];omega)) (fun v hv=>h1c v (List.mem_of_mem_drop hv))
 obtain⟨W1,hW1⟩:∃W1,W1=w.drew.setCells b (off+(i+1)*21) (cs.drop (i*21)):=⟨_,rfl⟩
 have hcp2:∀(W:World),(∀x,W.cell? x=W1.cell? x)→(∀x,W.frozen? x=W1.frozen? x)→∀ty dc,(Builtin.copy_ #[22,22] ty #[.slice (some ⟨b,off+i*21,none⟩) (n+1-i) dc,.slice (some ⟨vb,0,none⟩) 1 1]).run Tryz.prog W=.ok (goInt (Nat.min 1 (n+1-i))) (W.setCells b (off+i*21) vs):=fun W hWc hWf ty dc =>
  aIe W _ _ ty 59 21 b (off+i*21) (n+1-i) dc ⟨vb,0,none⟩ 1 1 vs Tryz.underlying22 hsz (by rw[hvl];simp only[Nat.min_def];split <;> omega)
   (fun j v hj=>by
    rw[Addr.add_lit,hWc,hW1,World.cell?_setCells_out b _ _ _ _ (fun h _=>absurd h hvb)];exact hvc j v hj)
   (fun j hj=>by
    have h:=World.there_setCells (w:=w.drew) (hth (off+i*21) 21 (by rw[h0];omega)) b (off+(i+1)*21) (cs.drop (i*21)) j (by omega);rw[hWc,hWf,hW1];exact h) h1v
 rw[←hW1] at hcp1;clear hcell hth hvc hsb hsa hrow hcs hvs h1c h1v hcl hvl hdl;have mixed:Tryz.prog.follows .mixedOrders=true:=by kernel_rfl
 clear h0;go_enter Tryz.func84,Tryz.ntmps84;go_wp2_with (simp only[hov]);go_region_law_o (refine aHe rfl _ _ 22 22 rfl _ _ (by simp[Act.eval,Act.put]) (by simp[Act.eval,Act.put]) (hcp1 _ _ _) ?_);go_wp2_with (at_builtin;refine aG9 _ rfl _ _ 22 22 rfl _ _ rfl rfl (hcp2 _ (fun _=>rfl) (fun _=>rfl) _ _) ?_);go_ret
 first|exact⟨rfl,rfl⟩|exact⟨rfl,by rw[hW1]⟩
end
section
open Go Go.RowKit Go.Lib Num
theorem aHl(b off n c i vb:Nat)(f:Nat→Value)(cs vs:List Value)(w:World)(hi:i<n)(hnc:n≤c)(hroom:c<n+1)(hn1000:n≤1000)(hvb:vb<w.heap.size)(h0:off=0)
  (hcl:cs.length=n*21) (hvl:vs.length=21) (hrow:w.rowIs b 59 (c*21) f) (hcs:∀j v,cs[j]?=some v→f j=v)
  (hvs:w.heap[vb]?=some (.cells vs.toArray 59 (0,0))) (h1c:∀v∈cs,v.oneCell'=true) (h1v:∀v∈vs,v.oneCell'=true) :
  Calls Tryz.prog 84 #[.slice (some ⟨b,off,none⟩) n c,.int .i64 i,.slice (some ⟨vb,0,none⟩) 1 1] w fun e w'=>∃G,n+1≤G∧G≤9223372036854775807 ∧
   e=.returned (.slice (some ⟨w.heap.size,0,none⟩) (n+1) G) ∧
   w'=(((w.alloc (.cells ((cs.take (i*21)).toArray++Builtin.zeroCells aAh.cells (n+1-i)++Builtin.zeroCells aAh.cells (G-(n+1))) 59)).drew.setCells w.heap.size (i*21) vs).drew).setCells w.heap.size ((i+1)*21) (cs.drop (i*21)):=by
 obtain⟨i0,hi0,hz0,hzs,hzb⟩:=info_parts Ul;have hcell:∀j v,cs[j]?=some v→w.cell? ⟨b,off+j,none⟩=some v:=fun j v hv=>by
  have hj:=(Li.1 hv).1;rw[h0,Nat.zero_add,hrow.cell (by omega),hcs j v hv]
 have hbw:=hrow.lt;have hvc:∀j v,vs[j]?=some v→w.cell? ⟨vb,0+j,none⟩=some v:=fun j v hv=>by
  rw[Nat.zero_add,aS hvs j,←hv,←Array.getElem?_toList]
 have hsz:(Tryz.prog.info? 59).map (·.size)=some 21:=by kernel_rfl
 have hz2:¬ ((i:Int)=(n:Int)):=by omega
 have hz3:(c:Int)<(n:Int)+1:=by omega
 have hkk:(n:Int)+1-(i:Int)=((n+1-i:Nat):Int):=by omega
 have hik:i+(n+1-i)=n+1:=by omega
 have hold:(Builtin.firstCells i0.size i (.slice (some ⟨b,off,none⟩) i c)).run Tryz.prog w.drew=.ok (cs.take (i*21)).toArray w.drew:=by
  rw[hzs];exact run_firstCells_some w.drew 21 i ⟨b,off,none⟩ i c (cs.take (i*21)) (by rw[List.length_take,hcl];exact Nat.min_eq_left (Nat.mul_le_mul_right 21 (by omega))) (fun j v hj=>by
   rw[Addr.add_lit];rw[List.getElem?_take] at hj;split at hj
   ·exact hcell j v hj
   ·cases hj)
 have hrz:∀ty,(Builtin.append_ #[22,3] ty #[.slice (some ⟨b,off,none⟩) i c,.int .i64 ((n:Int)+1-(i:Int))]).run Tryz.prog w =
   .ok (.slice (some ⟨w.heap.size,0,none⟩) (n+1) (grownCap w (n+1) c 59)) (w.drew.alloc (.cells ((cs.take (i*21)).toArray++Builtin.zeroCells aAh.cells (n+1-i)++Builtin.zeroCells aAh.cells (grownCap w (n+1) c 59-(n+1))) 59)):=fun ty=>by
  have h:=Lib.run_append_grow_zeros w 22 3 ty 59 i0 _ .i64 .i64 Tryz.underlying22 Tryz.underlying3 hi0 hz0 (some ⟨b,off,none⟩) i c (cs.take (i*21)) hold (n+1-i) (by omega) (by omega) (by omega) (by omega) (by rw[hzb];omega) (by rw[hzb,hik];exact growslice_fits (by omega) (by omega));rw[hik] at h;rw[hkk];exact h
 obtain⟨G,hG⟩:∃G,G=grownCap w (n+1) c 59:=⟨_,rfl⟩
 obtain⟨ROW,hROW⟩:∃ROW:Array Value,ROW=(cs.take (i*21)).toArray++Builtin.zeroCells aAh.cells (n+1-i)++Builtin.zeroCells aAh.cells (G-(n+1)):=⟨_,rfl⟩
 have hGn:n+1≤G:=by rw[hG];exact grownCap_ge w _ _ _
 have hG63:G≤9223372036854775807:=by
  have:=grownCap_le_maxLen w (n+1) c 59 (by unfold maxLen;omega);rw[←hG] at this;unfold maxLen at this;omega
 rw[←hG] at hrz;rw[←hROW] at hrz;have hRl:(n+1)*21≤ROW.size:=by
  have e21:aAh.cells.size=21:=rfl;rw[hROW];simp only[Builtin.zeroCells,Array.size_append,Array.size_map,Array.size_range,e21,List.size_toArray,List.length_take,hcl];have:min (i*21) (n*21)=i*21:=Nat.min_eq_left (Nat.mul_le_mul_right 21 (by omega));rw[this,Nat.sub_mul];omega
 obtain⟨W1,hW1⟩:∃W1,W1=w.drew.alloc (.cells ROW 59):=⟨_,rfl⟩
 rw[←hW1] at hrz;have hN:∀o m,o+m≤(n+1)*21→W1.there w.heap.size o m:=fun o m hm j hj=>⟨by
  rw[hW1,World.cell?_alloc_at (w:=w.drew) ROW _ w.heap.size (o+j) rfl,Array.getElem?_eq_getElem (by omega)];rfl,by
  rw[hW1];exact World.frozen?_alloc_at (w:=w.drew) ROW _ w.heap.size (o+j) rfl⟩
 have hOb:∀j v,w.cell? ⟨b,j,none⟩=some v→W1.cell? ⟨b,j,none⟩=some v:=fun j v h=>by rw[hW1,World.cell?_alloc_past (w:=w.drew) _ b j hbw];exact h
 have hOv:∀j v,w.cell? ⟨vb,j,none⟩=some v→W1.cell? ⟨vb,j,none⟩=some v:=fun j v h=>by rw[hW1,World.cell?_alloc_past (w:=w.drew) _ vb j hvb];exact h
 have hcpA:∀(W:World),(∀x,W.cell? x=W1.cell? x)→(∀x,W.frozen? x=W1.frozen? x)→∀ty dc,(Builtin.copy_ #[22,22] ty #[.slice (some ⟨w.heap.size,i*21,none⟩) (n+1-i) dc,.slice (some ⟨vb,0,none⟩) 1 1]).run Tryz.prog W=.ok (goInt (Nat.min 1 (n+1-i))) (W.setCells w.heap.size (i*21) vs):=fun W hWc hWf ty dc =>
  aIe W _ _ ty 59 21 w.heap.size (i*21) (n+1-i) dc ⟨vb,0,none⟩ 1 1 vs Tryz.underlying22 hsz (by rw[hvl];simp only[Nat.min_def];split <;> omega)
   (fun j v hj=>by rw[Addr.add_lit,hWc];exact hOv _ v (hvc j v hj))
   (fun j hj=>by rw[hWc,hWf];exact hN (i*21) 21 (by omega) j (by omega)) h1v
 have hGi:¬ (G=i):=by omega
 have hGim:¬ (G=i+1):=by omega
 have hci:¬ (c=i):=by omega
 have hbN:b≠w.heap.size:=by omega
 have hdl:(cs.drop (i*21)).length=(n-i)*21:=by rw[List.length_drop,hcl,Nat.sub_mul]
 have hcpB:∀(W:World),(∀x,W.cell? x=(W1.setCells w.heap.size (i*21) vs).cell? x)→(∀x,W.frozen? x=(W1.setCells w.heap.size (i*21) vs).frozen? x)→∀ty dc sc,(Builtin.copy_ #[22,22] ty #[.slice (some ⟨w.heap.size,(i+1)*21,none⟩) (n-i) dc,.slice (some ⟨b,off+i*21,none⟩) (n-i) sc]).run Tryz.prog W=.ok (goInt (Nat.min (n-i) (n-i))) (W.setCells w.heap.size ((i+1)*21) (cs.drop (i*21))):=fun W hWc hWf ty dc sc =>
  aIe W _ _ ty 59 21 w.heap.size ((i+1)*21) (n-i) dc ⟨b,off+i*21,none⟩ (n-i) sc (cs.drop (i*21)) Tryz.underlying22 hsz (by rw[hdl];congr 1;simp only[Nat.min_def];split <;> omega)
   (fun j v hj=>by
    rw[Addr.add_lit,hWc,World.cell?_setCells_out _ _ _ _ _ (fun h _=>absurd h hbN),Nat.add_assoc];exact hOb _ v (hcell (i*21+j) v (by rwa [List.getElem?_drop] at hj)))
   (fun j hj=>by
    rw[hWc,hWf];exact World.there_setCells (hN ((i+1)*21) ((n-i)*21) (by omega)) w.heap.size (i*21) vs j (by omega)) (fun v hv=>h1c v (List.mem_of_mem_drop hv))
 subst hW1;have hE1:∀x,((w.alloc (.cells ROW 59)).drew).cell? x=(w.drew.alloc (.cells ROW 59)).cell? x:=fun x=>rfl
 have hE2:∀x,((w.alloc (.cells ROW 59)).drew).frozen? x=(w.drew.alloc (.cells ROW 59)).frozen? x:=fun x=>rfl
 have hF1:∀x,(((w.alloc (.cells ROW 59)).drew.setCells w.heap.size (i*21) vs).drew).cell? x=((w.drew.alloc (.cells ROW 59)).setCells w.heap.size (i*21) vs).cell? x:=fun x=>rfl
 have hF2:∀x,(((w.alloc (.cells ROW 59)).drew.setCells w.heap.size (i*21) vs).drew).frozen? x=((w.drew.alloc (.cells ROW 59)).setCells w.heap.size (i*21) vs).frozen? x:=fun x=>rfl
 have hw1:IntKind.i64.wrap ((i:Int)+1)=(i:Int)+1:=by rw[IntKind.wrap_i64];omega
 have hb1:(0:Int)≤(i:Int)+1:=by omega
 have hin:i≤n:=by omega
 have htn:((i:Int)+1).toNat=i+1:=by omega
 have hb3:(i:Int)≤(n:Int):=by omega
 have HROW:=Hd hROW;clear hROW hkk hik hold hG hRl hcell hvc hN hOb hOv hrow hcs hvs h1c h1v hcl hvl hdl hbN;have mixed:Tryz.prog.follows .mixedOrders=true:=by kernel_rfl
 clear h0;go_enter Tryz.func84,Tryz.ntmps84;go_wp2_with (first|(at_builtin;refine Lib.wpList_append_run _ rfl _ _ _ _ rfl _ _ rfl rfl _ _ (hrz _) ?_)|(at_builtin;refine aG9 _ rfl _ _ 22 22 rfl _ _ rfl rfl (hcpA _ hE1 hE2 _ _) ?_)|(at_builtin;refine aG9 _ rfl _ _ 22 22 rfl _ _ rfl rfl (hcpB _ (fun _=>rfl) (fun _=>rfl) _ _ _) ?_));go_region_law_o (refine aHe rfl _ _ 22 22 rfl (.slice (some ⟨w.heap.size,(i+1)*21,none⟩) (n-i) (G-(i+1))) (.slice (some ⟨b,off+i*21,none⟩) (n-i) (c-i)) (by simp[Act.eval,Act.put]) (by simp[Act.eval,Act.put]) (hcpB _ hF1 hF2 3 (G-(i+1)) (c-i)) ?_);go_wp2;go_ret;exact⟨G,hGn,hG63,rfl,by rw[HROW.out]⟩
end
section
open Go Go.RowKit Go.Lib Num
theorem aHg(xs:List aF)(i:Nat)(x:aF):pX (aH8 xs i x)=pX (xs.take i)++(x.arr.toList++pX (xs.drop i)):=by
 unfold aH8;rw[Ei,show x::xs.drop i=[x]++xs.drop i from rfl,Ei,Qy]
theorem aHk{xs:List aF}{i:Nat}{x:aF}{f:Nat→Value}(hi:i≤xs.length)(hf:∀j u,j<i*21→(pX xs)[j]?=some u→f j=u){k:Nat}{u:Value}(hu:(pX (aH8 xs i x))[k]?=some u):
  (if i*21≤k∧k<i*21+x.arr.toList.length then x.arr.toList[k-i*21]?.getD default else if(i+1)*21≤k∧k<(i+1)*21+((pX xs).drop (i*21)).length then((pX xs).drop (i*21))[k-(i+1)*21]?.getD default else f k)=u:=by
 have e21:x.arr.toList.length=21:=rfl;have hlt:=aHa (xs.take i);rw[List.length_take,Nat.min_eq_left hi] at hlt;rw[aHg] at hu
 by_cases h1:k<i*21
 ·rw[if_neg (by omega),if_neg (by omega)];rw[List.getElem?_append_left (by omega),←aIq,List.getElem?_take,if_pos h1] at hu;exact hf k u h1 hu
 ·rw[List.getElem?_append_right (by omega),hlt] at hu
  by_cases h2:k<i*21+21
  ·rw[if_pos (by omega)];rw[List.getElem?_append_left (by omega)] at hu;rw[hu];rfl
  ·rw[List.getElem?_append_right (by omega),e21,←aJg,show k-i*21-21=k-(i+1)*21 by omega] at hu;have:=(Li.1 hu).1;rw[if_neg (by omega),if_pos (by omega),hu];rfl
theorem aHp(v:Value)(n vb base:Nat)(cs vs:List Value)(w:World)(hn:n≤1000)(hown:w.ownsRow base 59 21 v n cs)(hbase:base≤w.heap.size)(hvl:vs.length=21)
  (hvs:w.heap[vb]?=some (.cells vs.toArray 59 (0,0))) (h1v:∀v∈vs,v.oneCell'=true) :
  Calls Tryz.prog 84 #[v,.int .i64 n,.slice (some ⟨vb,0,none⟩) 1 1] w fun e w'=>(∃v',e=.returned v'∧w'.ownsRow base 59 21 v' (n+1) (cs++vs))∧Below base w w':=by
 obtain⟨i0,hi,hz0,hz1,hz2⟩:=info_parts Ul;have HW:=Hd hown;have HL:=Hd hvl;have HV:Hid (∀j u,vs[j]?=some u→w.cell? ((⟨vb,0,none⟩:Addr).add j)=some u):=fun j u hu=>by
  rw[Addr.add_lit,Nat.zero_add,aS hvs j,←hu,←Array.getElem?_toList]
 have H1:=Hd h1v;have HLT:=Hd hown.lt;have hv:v=.slice none 0 0∧n=0∨∃g cap,v=.slice (some ⟨g,0,none⟩) n cap∧n≤cap:=by
  obtain⟨_,h|⟨g,cap,cur,h1,_,_,h4,_⟩⟩:=hown
  ·exact .inl h
  ·exact .inr ⟨g,cap,h1,h4⟩
 clear hown hvl hvs h1v;rcases hv with⟨rfl,rfl⟩|⟨g,cap,rfl,hnc⟩
 ·go_enter Tryz.func84,Tryz.ntmps84;go_wp2_with (at_builtin;refine wpList_append_own_at _ rfl _ _ 22 rfl base 59 i0 aAh 21 312 Tryz.underlying22 hi hz0 hz1 hz2 rfl (by decide) _ _ _ rfl HW.out ⟨vb,0,none⟩ 1 1 vs rfl HL.out HV.out H1.out (by unfold maxLen;omega) (by omega) hbase ?_);intro v' w3 hown' hgrow _ _;have HO:=Hd hown';have HB:=Hd ((Br _ w).grown hgrow hbase (fun k hk=>(HLT.out k hk).1));clear hown' hgrow;go_wp2;go_ret;exact⟨⟨_,rfl,HO.out⟩,HB.out⟩
 ·go_enter Tryz.func84,Tryz.ntmps84;go_wp2_with (at_builtin;refine wpList_append_own_at _ rfl _ _ 22 rfl base 59 i0 aAh 21 312 Tryz.underlying22 hi hz0 hz1 hz2 rfl (by decide) _ _ _ rfl HW.out ⟨vb,0,none⟩ 1 1 vs rfl HL.out HV.out H1.out (by unfold maxLen;omega) (by omega) hbase ?_)
  all_goals
   intro v' w3 hown' hgrow _ _;have HO:=Hd hown';have HB:=Hd ((Br _ w).grown hgrow hbase (fun k hk=>(HLT.out k hk).1));clear hown' hgrow;go_wp2;go_ret;exact⟨⟨_,rfl,HO.out⟩,HB.out⟩
theorem aHs(xs:List aF)(v:Value)(x:aF)(i vb base:Nat)(w:World)(hn:xs.length≤1000)(hi:i≤xs.length)(hown:w.ownsRow base 59 21 v xs.length (pX xs))(hbase:base≤w.heap.size)(hvs:aP w vb x.arr 59)(hvo:v.ownBlock≠some vb):
  Calls Tryz.prog 84 #[v,.int .i64 i,.slice (some ⟨vb,0,none⟩) 1 1] w fun e w'=>(∃v',e=.returned v'∧w'.ownsRow base 59 21 v' (aH8 xs i x).length (pX (aH8 xs i x)))∧Below base w w':=by
 have h1v:∀u,u∈x.arr.toList→u.oneCell'=true:=fun u hu=>by
  have:=dV x;rw[←Array.all_toList,List.all_eq_true] at this;exact this u hu
 have hva:x.arr.toList.toArray=x.arr:=rfl;rw[aId]
 by_cases he:i=xs.length
 ·subst he;have e:pX (aH8 xs xs.length x)=pX xs++x.arr.toList:=by rw[aHg,List.take_length,List.drop_length];simp[pX]
  rw[e];exact aHp v xs.length vb base _ _ w hn hown hbase rfl hvs.2 h1v
 ·rcases aIa.of_owns hown with⟨_,h⟩|⟨g,cap,f,rfl,hg,hm,hr⟩
  ·rw[h] at hi he;simp at hi he;omega
  ·have hgv:vb≠g:=fun e=>hvo (by rw[e];rfl)
   have hm':cap≤9223372036854775807:=by unfold maxLen at hm;omega
   have hgw:=hr.1.lt
   by_cases hroom:xs.length+1≤cap
   ·refine(aHj g 0 xs.length cap i vb f (pX xs) x.arr.toList w (by omega) hroom hm' hgv rfl (aHa xs) rfl hr.1 hr.2.2 hvs.2 (fun u hu=>aHc u hu) h1v).mono ?_;rintro e w' ⟨rfl,rfl⟩;rw[Nat.zero_add,Nat.zero_add];have h1:=aIa.put (aIa.put (w:=w.drew) hr.1 (n:=(i+1)*21) ((pX xs).drop (i*21))) (n:=i*21) x.arr.toList;refine⟨⟨_,rfl,?_⟩,below_setCells hg _ _ _ (below_setCells hg _ _ _ (aD (Br _ w) 1))⟩;have h2:aIa _ g cap _ (aH8 xs i x):=⟨h1,by rw[aId];exact hroom,fun k u hu=>aHk (by omega) (fun j u _ hu=>hr.2.2 j u hu) hu⟩
    have h3:=h2.owns hg hm;rw[aId] at h3;exact h3
   ·refine(aHl g 0 xs.length cap i vb f (pX xs) x.arr.toList w (by omega) hr.2.1 (by omega) hn hvs.1 rfl (aHa xs) rfl hr.1 hr.2.2 hvs.2 (fun u hu=>aHc u hu) h1v).mono ?_;rintro e w' ⟨G,hG1,hG2,rfl,rfl⟩;obtain⟨ROW,hROW⟩:∃ROW:Array Value,ROW=((pX xs).take (i*21)).toArray++Builtin.zeroCells aAh.cells (xs.length+1-i)++Builtin.zeroCells aAh.cells (G-(xs.length+1)):=⟨_,rfl⟩
    rw[←hROW];have e21:aAh.cells.size=21:=rfl;have hlt:((pX xs).take (i*21)).length=i*21:=by rw[List.length_take,aHa];exact Nat.min_eq_left (Nat.mul_le_mul_right 21 hi)
    have hsz:ROW.size=G*21:=by
     rw[hROW];simp only[Builtin.zeroCells,Array.size_append,Array.size_map,Array.size_range,e21,List.size_toArray,hlt,Nat.sub_mul];omega
    have h0:=World.rowIs_alloc w ROW 59 (fun j=>ROW.getD j default) (fun j hj=>by rw[Array.getD_eq_getD_getElem?,Array.getElem?_eq_getElem hj];rfl);rw[hsz] at h0;have h1:=aIa.put (aIa.put (w:=(w.alloc (.cells ROW 59)).drew) h0 (n:=i*21) x.arr.toList).drew (n:=(i+1)*21) ((pX xs).drop (i*21));have hbN:Below base w (w.alloc (.cells ROW 59)).drew:=aD ((Br _ w).alloc hbase _) 1;refine⟨⟨_,rfl,?_⟩,below_setCells hbase _ _ _ (aD (below_setCells hbase _ _ _ hbN) 1)⟩;have h2:aIa _ w.heap.size G _ (aH8 xs i x):=⟨h1.congr (g:=fun k=>if i*21≤k∧k<i*21+x.arr.toList.length then x.arr.toList[k-i*21]?.getD default else if(i+1)*21≤k∧k<(i+1)*21+((pX xs).drop (i*21)).length then((pX xs).drop (i*21))[k-(i+1)*21]?.getD default else ROW.getD k default) (fun k _=>by
     have e:x.arr.toList.length=21:=rfl;show (if _ then _ else if _ then _ else _)=_
     by_cases h1:i*21≤k∧k<i*21+x.arr.toList.length
     ·rw[if_neg (by omega),if_pos h1,if_pos h1]
     ·rw[if_neg h1,if_neg h1]),by rw[aId];exact hG1,fun k u hu=>aHk hi (fun j u hj hu=>by
      show ROW.getD j default=u;rw[Array.getD_eq_getD_getElem?,hROW,Array.getElem?_append_left (by simp only[Array.size_append,List.size_toArray,hlt];omega),Array.getElem?_append_left (by simp only[List.size_toArray,hlt];omega),List.getElem?_toArray,List.getElem?_take,if_pos hj,hu];rfl) hu⟩
    have h3:=h2.owns hbase (show G≤maxLen by unfold maxLen;omega);rw[aId] at h3;exact h3
end
end Go.Proofs.YtejkibnaidiklaaGreatDoor
