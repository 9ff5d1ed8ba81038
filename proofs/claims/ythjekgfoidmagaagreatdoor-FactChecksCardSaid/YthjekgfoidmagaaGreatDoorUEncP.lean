/- EncP DecP Example13 Ins13P Order13P Texts13P Texts13Q Texts13R -/
import Derived.Test.YthjekgfoidmagaaGreatDoorUPrintA
import Derived.Test.YthjekgfoidmagaaGreatDoorUViewA
set_option maxHeartbeats 16000000
set_option maxRecDepth 100000
namespace Go.Proofs.YthjekgfoidmagaaGreatDoor
section
open Go Go.RowKit Num
def bDj(f:bZ):List UInt8:=bEb (eT (val f.n) (lU f.d)) (fT (val f.n) (lU f.d))
def bFd(l:List UInt8):List UInt8:=if l=[] then[45] else l
def bDg(p:bJ):List UInt8:=p.lot++58::bDr (val p.q)
def bDy(o:eJ):List UInt8:=bDo 58 [bFd o.other,bDj o.ratio,bDj o.price,bDj o.value]
def bD8(f:aE)(i:Nat):List UInt8 :=
 if i=0 then f.ins else if i=1 then f.other else if i=2 then f.cur else if i=3 then f.target else if i=12 then Lib.itoa f.choice
 else if i=10 then bFd (bDo 44 (f.picks.map bDg)) else if i=11 then bDo 44 (f.options.map bDy) else bDj (f.num i)
def bH.fields(k:bH):List Nat:=(List.range 13).filter fun i=>k.has.getD i false
def bFg:List UInt8:=[118,111,105,100]
noncomputable def bEa(f:aE):List (List UInt8) :=
 if f.cancelled=true then[f.key,Lib.itoa f.stamp,bFg] else
 match aX.find? (fun p=>p.1==f.kind) with
 |some p=>[f.key,Lib.itoa f.stamp,bDl f.day,p.2.word]++p.2.fields.map (bD8 f)
 |none=>[]
noncomputable def enc(f:aE):List UInt8:=bDo 32 (bEa f)
def bDb(c:UInt8):List UInt8->List (List UInt8)
 | []=>[[]]
 |x::r=>if x=c then[]::bDb c r else match bDb c r with
  | []=>[[x]]
  |h::t=>(x::h)::t
theorem bKt(c:UInt8):∀l,bDb c l ≠ []
 | []=>by simp[bDb]
 |x::r=>by
  unfold bDb;split
  ·simp
  ·split <;> simp
theorem bGs(c b:UInt8)(l:List UInt8):Lib.index (b::l) [c]=if b=c then 0 else if Lib.index l [c] = -1 then -1 else Lib.index l [c]+1:=by
 rw[show Lib.index (b::l) [c]=(if[c].isPrefixOf (b::l) then 0 else if Lib.index l [c] == -1 then -1 else Lib.index l [c]+1) from rfl]
 by_cases h:b=c
 ·subst h;simp
 ·have:(c==b)=false:=by simp;exact fun e=>h e.symm
  simp[List.isPrefixOf,this,h]
theorem bGt(c:UInt8):∀l:List UInt8,(Lib.index l [c] = -1/\bDb c l=[l])∨∃i:Nat,Lib.index l [c]=i/\bDb c l=l.take i::bDb c (l.drop (i+1))/\i<l.length
 | []=>.inl ⟨rfl,rfl⟩
 |b::l=>by
  rw[bGs]
  by_cases h:b=c
  ·refine .inr ⟨0,by rw[if_pos h];rfl,?_,by simp⟩;simp[bDb,h]
  ·rw[if_neg h];have e:bDb c (b::l)=(match bDb c l with | []=>[[b]]|h::t=>(b::h)::t):=by
    conv=>lhs;unfold bDb
    rw[if_neg h]
   rcases bGt c l with⟨h1,h2⟩|⟨i,h1,h2,h3⟩
   ·exact .inl ⟨by rw[if_pos h1],by rw[e,h2]⟩
   ·refine .inr ⟨i+1,by rw[if_neg (by omega),h1];omega,by rw[e,h2];rfl,by simp;omega⟩
theorem bLo(c:UInt8):∀(n:Nat) (l:List UInt8),l.length<=n->Lib.splitK [c] 0 (Lib.count l [c]) l=bDb c l:=by
 intro n
 induction n with
 |zero =>
  intro l h;have:l=[]:=by simpa using h
  subst this;rfl
 |succ n ih =>
  intro l h;rcases bGt c l with⟨h1,h2⟩|⟨i,h1,h2,h3⟩
  ·rw[Lib.count_miss h1,h2];rfl
  ·rw[Lib.count_hit (by simp) h1,Nat.add_comm 1,h2];unfold Lib.splitK;have e:(Lib.index l [c] == -1)=false:=by rw[h1];exact beq_eq_false_iff_ne.2 (by omega)
   rw[if_neg (by rw[e];simp),h1];have e2:((i:Int).toNat+[c].length)=i+1:=by simp
   rw[e2];rw[show [c].length=1 from rfl,ih (l.drop (i+1)) (by simp;omega)];simp
end
section
open Go Go.RowKit Num
def bF0(s:List UInt8):List UInt8:=if(Lib.cut s [47]).2.2=true then(Lib.cut s [47]).2.1 else[49]
def bDm(s:List UInt8):Option bZ :=
 (bDv (Lib.cut s [47]).1).bind fun n=>(bDv (bF0 s)).bind fun d =>
  if val d<=0 then none else if bEb (eT (val n) (val d)) (fT (val n) (val d))=s then some ⟨aJ (eT (val n) (val d)),nD (fT (val n) (val d))⟩ else none
def bD7(s:List UInt8):Option Int:=match Lib.atoiAll s with
 | .ok v=>if 0<=v/\Lib.itoa v=s then some v else none
 |_=>none
def bPq(s:List UInt8):Int:=bK (s.take 4)
def bPr(s:List UInt8):Int:=bK ((s.drop 5).take 2)
def bP8(s:List UInt8):Int:=bK ((s.drop 8).take 2)
def bEc(s:List UInt8):Option Int :=
 if s.length=10/\s[4]?=some 45/\s[7]?=some 45/\(s.take 4++(s.drop 5).take 2++(s.drop 8).take 2).all bF=true/\1900<=bPq s/\bPq s<=2199/\1<=bPr s/\bPr s<=12/\1<=bP8 s/\bP8 s<=Cal.dim (bPq s) (bPr s)
 then some (Cal.num (bPq s) (bPr s) (bP8 s)-25567) else none
def bEx(l:List (List UInt8)):Option bJ:=match l with
 | [a,b]=>if a=[] then none else(bDv b).map fun q=>⟨a,q⟩
 |_=>none
def bFh(l:List (List UInt8)):Option eJ:=match l with
 | [a,b,c,d]=>if a=[] then none else(bDm b).bind fun x=>(bDm c).bind fun y=>(bDm d).map fun z=>⟨if a=[45] then[] else a,x,y,z⟩
 |_=>none
def bGm{α β:Type}(f:α->Option β):List α->Option (List β)
 | []=>some []
 |x::r=>(f x).bind fun y=>(bGm f r).map fun t=>y::t
def bE4(s:List UInt8):Option (List bJ):=if s=[45] then some [] else bGm bEx ((bDb 44 s).map (bDb 58))
def bHi(s:List UInt8):Option (List eJ):=bGm bFh ((bDb 44 s).map (bDb 58))
def bCi(f:aE)(i:Nat)(s:List UInt8):Option aE :=
 if i=0 then some { f with ins:=s } else if i=1 then some { f with other:=s } else if i=2 then some { f with cur:=s } else if i=3 then some { f with target:=s }
 else if i=4 then(bDv s).map fun x=>{ f with q:=x } else if i=5 then(bDv s).map fun x=>{ f with amt:=x } else if i=6 then(bDv s).map fun x=>{ f with fee:=x }
 else if i=7 then(bDm s).map fun x=>{ f with price:=x } else if i=8 then(bDm s).map fun x=>{ f with ratio:=x } else if i=9 then(bDm s).map fun x=>{ f with share:=x }
 else if i=10 then(bE4 s).map fun x=>{ f with picks:=f.picks++x } else if i=11 then(bHi s).map fun x=>{ f with options:=f.options++x } else(bD7 s).map fun x=>{ f with choice:=x }
def bDk(f:aE):List Nat->List (List UInt8)->Option aE
 | [],[]=>some f
 |i::r,s::t=>(bCi f i s).bind fun g=>bDk g r t
 |_,_=>none
def bD4:bZ:=⟨[],[]⟩
def bDh:aE:=⟨[],0,false,0,0,[],[],[],[],[],[],[],bD4,bD4,bD4,[],[],0⟩
def bEi(ws:List (List UInt8)):Option aE:=match ws with
 |k::st::third::rest=>(bD7 st).bind fun n =>
   if third=bFg then(if rest=[] then some { bDh with key:=k,stamp:=n,cancelled:=true } else none)
   else(bEc third).bind fun d=>match rest with
    |w::more=>match aX.find? (fun p=>p.2.word==w) with
     |some p=>bDk { bDh with key:=k,stamp:=n,day:=d,kind:=p.1 } p.2.fields more
     |none=>none
    | []=>none
 |_=>none
def dec(s:List UInt8):aE×Int :=
 if 65536<s.length then(bDh,4) else match bEi (bDb 32 s) with
 |some f=>if bY f=0 then(f,0) else(bDh,bY f)
 |none=>(bDh,3)
end
section
open Go Go.RowKit Num Cal
def exD:Int:=Cal.num 2024 1 31-25567
def exA:aE:={ bDh with key:=[98,49],stamp:=7,day:=exD,kind:=3,ins:=[97,98,99],q:=[49,48],amt:=[49,48,48,48],fee:=[53] }
def exB:aE:={ bDh with key:=[98,49],stamp:=9,cancelled:=true }
def bQf:eJ:=⟨[100,101,102],⟨[51],[50]⟩,⟨[53],[]⟩,⟨[52,48],[]⟩⟩
def bQe:eJ:=⟨[],bD4,⟨[55,48],[]⟩,bD4⟩
def exC:aE:={ bDh with key:=[120,49],stamp:=8,day:=exD,kind:=10,ins:=[97,98,99],options:=[bQf,bQe] }
theorem bPm:Cal.civ (exD+25567)=(2024,1,31):=civ_of (by unfold Valid;decide) (by decide)
theorem bLe:bDl exD=[50,48,50,52,45,48,49,45,51,49]:=by
 unfold bDl;rw[bPm];simp[two,Lib.itoa,Lib.decDigits]
theorem bMg:bY exB=0:=by decide
theorem bM9:enc exB=[98,49,32,57,32,118,111,105,100]:=by
 unfold enc bEa;rw[if_pos (by rfl)];simp[exB,bDo,Lib.join,Lib.itoa,Lib.decDigits,bFg,List.intercalate,List.intersperse]
theorem bMf:(aX.find? (fun p=>p.1==exA.kind)).map (fun p=>(p.2.word,p.2.fields))=some ([98,117,121],[0,4,5,6]):=by decide
theorem bLb:(aX.find? (fun p=>p.1==exC.kind)).map (fun p=>(p.2.word,p.2.fields))=some ([101,120,99,104,97,110,103,101],[0,11]):=by decide
theorem bMh:bY exA=0:=by decide +kernel
theorem bHe:bY exC=0:=by decide +kernel
theorem bIq{f:aE}(hc:f.cancelled=false){w:List UInt8}{l:List Nat}(h:(aX.find? (fun p=>p.1==f.kind)).map (fun p=>(p.2.word,p.2.fields))=some (w,l)):bEa f=[f.key,Lib.itoa f.stamp,bDl f.day,w]++l.map (bD8 f):=by
 unfold bEa;rw[if_neg (by rw[hc];simp)];cases e:aX.find? (fun p=>p.1==f.kind) with
 |none=>rw[e] at h;cases h
 |some p =>
  rw[e] at h;simp only[Option.map_some,Option.some.injEq,Prod.mk.injEq] at h;rw[<-h.1,<-h.2]
theorem bNa:enc exA=[98,49,32,55,32,50,48,50,52,45,48,49,45,51,49,32,98,117,121,32,97,98,99,32,49,48,32,49,48,48,48,32,53]:=by
 unfold enc;rw[bIq rfl bMf,show exA.day=exD from rfl,bLe]
 kernel_rfl
def exZ:List UInt8:=[120,49,32,56,32,50,48,50,52,45,48,49,45,51,49,32,101,120,99,104,97,110,103,101,32,97,98,99,32,100,101,102,58,51,47,50,58,53,58,52,48,44,45,58,48,58,55,48,58,48]
theorem bKq:enc exC=exZ:=by
 unfold enc;rw[bIq rfl bLb,show exC.day=exD from rfl,bLe]
 kernel_rfl
theorem bPp:dec exZ=(exC,0):=by kernel_rfl
end
section
open Go
def bDp(f:aE):List (List UInt8):=[f.ins]++(if f.kind=9∨f.kind=12 then[f.other] else[])++f.options.map (·.other)
def bPi(f:aE):List (List UInt8):=(bDp f).filter fun s=>!s.isEmpty
def bPk(f:aE):List (List UInt8):=Go.Lib.compact ((bPi f).mergeSort fun x y=>decide (x<=y))
theorem bSn{f:aE}{s:List UInt8}:s∈bPk f↔s∈bDp f/\s ≠ []:=by
 unfold bPk;rw[bB9 (bBq _),List.mem_mergeSort];unfold bPi;rw[List.mem_filter];simp
theorem bTy{f:aE}{s:List UInt8}:s∈bDp f↔s=f.ins∨((f.kind=9∨f.kind=12)/\s=f.other)∨∃o,o∈f.options/\o.other=s:=by
 unfold bDp;rw[List.mem_append,List.mem_append,List.mem_map,List.mem_singleton]
 by_cases h:f.kind=9∨f.kind=12
 ·rw[if_pos h,List.mem_singleton];simp[h,or_assoc]
 ·rw[if_neg h];simp[h]
end
section
open Go Num
structure Tri{α:Type}(c:α->α->Int):Prop where
 anti:∀a b,c a b = -c b a
 low:∀a b,-1<=c a b/\c a b<=1
 same:∀a b d,c a b=c b d->c a d=c a b
 left:∀a b d,c a b=0->c a d=c b d
 right:∀a b d,c b d=0->c a d=c a b
theorem Tri.refl{α:Type}{c:α->α->Int}(h:Tri c)(a:α):c a a=0:=by have:=h.anti a a;omega
end
section
open Go Go.RowKit Num Cal
def bD2(x:UInt8):Bool:=decide (x.toNat≠10)&&decide (x.toNat≠32)&&decide (x.toNat≠44)&&decide (x.toNat≠58)
theorem bI8{a b c d e f g h:UInt8}(hd:[a,b,c,d,e,f,g,h].all bF=true)(hv:Cal.Valid (bK [a,b,c,d]) (bK [e,f]) (bK [g,h])):
  bEc [a,b,c,d,45,e,f,45,g,h]=some (Cal.num (bK [a,b,c,d]) (bK [e,f]) (bK [g,h])-25567):=by
 unfold bEc;rw[if_pos ⟨rfl,rfl,rfl,hd,hv.1,hv.2.1,hv.2.2.1,hv.2.2.2.1,hv.2.2.2.2.1,hv.2.2.2.2.2⟩];rfl
end
section
open Go Go.RowKit Num
def setF(g f:aE)(i:Nat):aE :=
 if i=0 then { g with ins:=f.ins } else if i=1 then { g with other:=f.other } else if i=2 then { g with cur:=f.cur } else if i=3 then { g with target:=f.target }
 else if i=4 then { g with q:=f.q } else if i=5 then { g with amt:=f.amt } else if i=6 then { g with fee:=f.fee }
 else if i=7 then { g with price:=f.price } else if i=8 then { g with ratio:=f.ratio } else if i=9 then { g with share:=f.share }
 else if i=10 then { g with picks:=g.picks++f.picks } else if i=11 then { g with options:=g.options++f.options } else { g with choice:=f.choice }
theorem bJg:∀q,q∈aX->(q.2.word.all bD2=true/\(aX.find? (fun p=>p.2.word==q.2.word)).map (·.1)=some q.1)/\(aX.find? (fun p=>p.1==q.1)).map (·.1)=some q.1:=by decide
theorem bJ6:∀q,q∈aX->∀p,p∈aX->p.1=q.1->p=q:=by
 have h:aX.Pairwise (fun a b=>a.1≠b.1):=by decide
 have:∀(l:List (Int×bH)),l.Pairwise (fun a b=>a.1≠b.1)->∀q,q∈l->∀p,p∈l->p.1=q.1->p=q:=by
  intro l
  induction l with
  |nil=>intro _ q hq;cases hq
  |cons x r ih =>
   intro h q hq p hp e;rw[List.pairwise_cons] at h;rcases List.mem_cons.1 hq with h1|h1 <;> rcases List.mem_cons.1 hp with h2|h2
   ·rw[h1,h2]
   ·subst h1;exact absurd e.symm (h.1 p h2)
   ·subst h2;exact absurd e (h.1 q h1)
   ·exact ih h.2 q h1 p h2 e
 exact this aX h
theorem bIn{q:Int×bH}(hq:q∈aX):aX.find? (fun p=>p.2.word==q.2.word)=some q:=by
 have h:=(bJg q hq).1.2;cases e:aX.find? (fun p=>p.2.word==q.2.word) with
 |none=>rw[e] at h;cases h
 |some p =>
  rw[e] at h;rw[bJ6 q hq p (List.mem_of_find?_eq_some e) (Option.some.inj h)]
theorem bFs{k:bH}{i:Nat}:i∈k.fields↔i<13/\k.has.getD i false=true:=by
 unfold bH.fields;rw[List.mem_filter,List.mem_range]
theorem bG2{f:aE}{k:bH}:∀ {l:List Nat},bS f k l=0->∀i,i∈l->bX f k i=0
 | [],_,i,hi=>by cases hi
 |x::r,h,i,hi=>by
  unfold bS at h;split at h
  ·rename_i e;exact absurd h e
  ·rename_i e;rcases List.mem_cons.1 hi with rfl|hi
   ·simpa using e
   ·exact bG2 h i hi
theorem bFx{f:aE}(h:bY f=0)(hc:f.cancelled=false):dC f.key=true/\0<=f.stamp/\-25567<=f.day/\f.day<=84005/\∃q,q∈aX/\q.1=f.kind/\aX.find? (fun p=>p.1==f.kind)=some q/\(∀i,i∈q.2.fields->bT f q.2 i=0)/\(∀i,i<13->i ∉ q.2.fields->f.zero i=true):=by
 unfold bY at h;split at h
 ·cases h
 ·rename_i h1;split at h
  ·cases h
  ·rename_i h2;rw[if_neg (by rw[hc];simp)] at h;split at h
   ·cases h
   ·rename_i h3;cases e:aX.find? (fun p=>p.1==f.kind) with
    |none=>rw[e] at h;cases h
    |some q =>
     rw[e] at h;have hb:=bG2 h;have hk:q.1=f.kind:=by have:=List.find?_some e;simpa using this
     refine⟨by simpa using h1,by omega,by omega,by omega,q,List.mem_of_find?_eq_some e,hk,rfl,fun i hi=>?_,fun i hi hn=>?_⟩
     ·have:=hb i (List.mem_range.2 (bFs.1 hi).1);unfold bX at this
      rwa [if_pos (bFs.1 hi).2] at this
     ·have:=hb i (List.mem_range.2 hi);unfold bX at this;rw[if_neg (fun g=>hn (bFs.2 ⟨hi,g⟩))] at this;split at this
      ·assumption
      ·cases this
end
end Go.Proofs.YthjekgfoidmagaaGreatDoor
