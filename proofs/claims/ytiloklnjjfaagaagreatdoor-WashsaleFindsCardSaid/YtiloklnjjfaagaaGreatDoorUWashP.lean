/- WashQ WashP WashG WashS WashI WashK WashO WashC WashE -/
import Derived.Test.YtiloklnjjfaagaaGreatDoorURound
import Derived.Test.YtiloklnjjfaagaaGreatDoorUGainA
set_option maxHeartbeats 16000000
set_option maxRecDepth 100000
namespace Go.Proofs.YtiloklnjjfaagaaGreatDoor
section
open Go Go.RowKit Num
theorem dBt{N D t:Int}(hD:0<D)(h:N<=t*D):aQ3 N D<=t:=by
 have h1:D*N.fdiv D+N.fmod D=N:=Int.mul_fdiv_add_fmod N D;have h2:0<=N.fmod D:=Int.fmod_nonneg_of_pos _ hD;have h3:N.fdiv D<=t:=by
  refine Int.le_of_mul_le_mul_left (a:=D) ?_ hD;rw[Int.mul_comm D t];omega
 unfold aQ3;split
 ·rename_i g
  by_cases e:N.fdiv D=t
  ·rw[e,Int.mul_comm D t] at h1;omega
  ·omega
 ·exact h3
theorem dBu{N D:Int}(hD:0<D)(h:0<=N):0<=aQ3 N D:=by
 have h1:0<=N.fdiv D:=by rw[Int.fdiv_eq_ediv_of_nonneg _ (by omega)];exact Int.ediv_nonneg h (by omega)
 unfold aQ3;split <;> omega
theorem dAy{D t:Int}(hD:0<D):aQ3 (t*D) D=t:=by
 have h1:(t*D).fdiv D=t:=Int.mul_fdiv_cancel _ (by omega);have h2:(t*D).fmod D=0:=Int.mul_fmod_left _ _;unfold aQ3;rw[h1,h2,if_neg];omega
def bZe(total part all:Int):Int:=aQ3 (eT (total*part) all) (fT (total*part) all)
theorem dAb{t p a:Int}(ha:0<a):∃g:Int,0<g/\eT (t*p) a*g=t*p/\fT (t*p) a*g=a/\0<fT (t*p) a:=by
 have hne:a≠0:=by omega
 have h1:=bLt (N:=t*p) hne;have h2:=bJa (N:=t*p) hne;have h3:=qJ (N:=t*p) hne;rw[if_neg (by omega)] at h1 h2;exact⟨(gE (t*p) a:Int),by omega,h1,h2,bKf hne⟩
theorem bZ7{t p a:Int}(ht:0<=t)(hp:0<=p)(hpa:p<=a)(ha:0<a):0<=bZe t p a/\bZe t p a<=t:=by
 obtain⟨g,hg,h1,h2,h3⟩:=dAb (t:=t) (p:=p) ha;unfold bZe;have hN:0<=eT (t*p) a:=by
  refine Int.le_of_mul_le_mul_right (a:=g) ?_ hg;rw[h1,Int.zero_mul];exact Int.mul_nonneg ht hp
 refine⟨dBu h3 hN,dBt h3 ?_⟩;refine Int.le_of_mul_le_mul_right (a:=g) ?_ hg;rw[h1,Int.mul_assoc,h2];exact Int.mul_le_mul_of_nonneg_left hpa ht
theorem dBs{t a:Int}(ha:0<a):bZe t a a=t:=by
 obtain⟨g,hg,h1,h2,h3⟩:=dAb (t:=t) (p:=a) ha;unfold bZe;have e:eT (t*a) a=t*fT (t*a) a:=by
  refine Int.eq_of_mul_eq_mul_right (show g≠0 by omega) ?_;rw[h1,Int.mul_assoc,h2]
 rw[e];exact dAy h3
end
section
open Go Go.RowKit Num
structure bZ9 where
 cause:List UInt8
 src:List UInt8
 dst:List UInt8
 q:List UInt8
 made:List UInt8
 c:List UInt8
def aLe.openV(x:aLe):Int:=if x.loss=0 then 0 else val x.q-val x.rp
def Bd.roomV(y:Bd):Int:=val y.q-val y.u
def dAv(x:aLe)(ins:List UInt8)(d wash:Int):Bool:=decide (0<wash)&&(x.ins==ins)&&decide (0<x.openV)&&decide (x.cls<=d)&&decide (d<=x.cls+wash)
def dAz(y:Bd)(x:aLe)(d wash:Int):Bool:=(y.ins==x.ins)&&decide (0<y.roomV) && !(y.id==x.lot)&&decide (x.cls-wash<=y.opn)&&decide (y.opn<=min (x.cls+wash) d)
def Bd.part(y:Bd)(q:Int):Bd:={ y with q:=aJ q,c:=aJ (bZe (val y.c) q (val y.q)),u:=if y.u=[] then[] else aJ q }
def Bd.rest(y:Bd)(q:Int):Bd:={ y with q:=aJ (val y.q-q),c:=aJ (val y.c-bZe (val y.c) q (val y.q)),u:=if y.u=[] then[] else aJ (val y.q-q) }
def aLe.repl(x:aLe)(q a:Int):aLe:={ x with rp:=aJ (val x.rp+q),df:=aJ (val x.df+a) }
def Bd.fill(z:Bd)(x:aLe)(a:Int):Bd:={ z with c:=aJ (val z.c+a),u:=z.q,acq:=max (-25567) (z.acq-(x.cls-x.acq)) }
theorem bX9(z:Int):Hi (aJ z)=true:=by unfold Hi;rw[bE];simp
theorem bZy{d:Int}:aLk d=true↔-25567<=d/\d<=84005:=by unfold aLk;simp
theorem bYi{y:Bd}:y.err=0↔(sP y.id=true/\dC y.ins=true)/\(aLk y.acq=true/\aLk y.opn=true)/\y.acq<=y.opn/\(Hi y.q=true/\Hi y.c=true/\Hi y.u=true)/\0<val y.q/\0<=val y.c/\(y.u=[]∨y.u=y.q):=by
 constructor
 ·intro h;unfold Bd.err at h;split at h
  ·cases h
  rename_i h1;split at h
  ·cases h
  rename_i h2;split at h
  ·cases h
  rename_i h3;split at h
  ·cases h
  rename_i h4;split at h
  ·cases h
  rename_i h5;simp only[Bool.not_eq_true',Bool.not_eq_false,Bool.and_eq_true] at h1 h2 h4;refine⟨h1,h2,by omega,⟨h4.1.1,h4.1.2,h4.2⟩,by omega,by omega,?_⟩
  by_cases e:y.u=[]
  ·exact .inl e
  ·exact .inr (Classical.byContradiction fun e'=>h5 (.inr (.inr ⟨e,e'⟩)))
 ·rintro⟨⟨a,b⟩,⟨c,d⟩,e,⟨f,g,i⟩,j,k,l⟩;unfold Bd.err;rw[a,b,c,d,f,g,i,if_neg (by decide),if_neg (by decide),if_neg (by omega),if_neg (by decide),if_neg];rintro(h|h|⟨h,h'⟩)
  ·omega
  ·omega
  ·exact l.elim (fun e=>h e) (fun e=>h' e)
theorem dB3{z:Bd}{x:aLe}{a:Int}(h:z.err=0)(ha:0<=a)(hx:x.acq<=x.cls):(z.fill x a).err=0:=by
 obtain⟨g1,⟨g2,g3⟩,g4,⟨g5,g6,g7⟩,g8,g9,g10⟩:=bYi.1 h;have h2:=bZy.1 g2;refine bYi.2 ⟨g1,⟨bZy.2 ?_,g3⟩,?_,⟨g5,bX9 _,g5⟩,g8,?_,.inr rfl⟩
 ·show -25567<=max (-25567) (z.acq-(x.cls-x.acq))/\max (-25567) (z.acq-(x.cls-x.acq))<=84005;omega
 ·show max (-25567) (z.acq-(x.cls-x.acq))<=z.opn;have:=bZy.1 g3;omega
 ·show 0<=val (aJ (val z.c+a));rw[bE];omega
theorem dCf{y:Bd}{q:Int}{id:List UInt8}(h:y.err=0)(hq:0<q)(hq2:q<val y.q)(hid:sP id=true):({ y.part q with id:=id }:Bd).err=0/\(y.rest q).err=0:=by
 obtain⟨⟨g0,g1⟩,g2,g4,⟨g5,g6,g7⟩,g8,g9,g10⟩:=bYi.1 h;obtain⟨s1,s2⟩:=bZ7 (t:=val y.c) (p:=q) (a:=val y.q) g9 (by omega) (by omega) g8;constructor
 ·refine bYi.2 ⟨⟨hid,g1⟩,g2,g4,⟨bX9 _,bX9 _,?_⟩,?_,?_,?_⟩
  ·show Hi (if y.u=[] then[] else aJ q)=true;split
   ·exact bX9 0
   ·exact bX9 _
  ·show 0<val (aJ q);rw[bE];exact hq
  ·show 0<=val (aJ _);rw[bE];exact s1
  ·show (if y.u=[] then[] else aJ q)=[]∨(if y.u=[] then[] else aJ q)=aJ q
   by_cases e:y.u=[]
   ·rw[if_pos e];exact .inl rfl
   ·rw[if_neg e];exact .inr rfl
 ·refine bYi.2 ⟨⟨g0,g1⟩,g2,g4,⟨bX9 _,bX9 _,?_⟩,?_,?_,?_⟩
  ·show Hi (if y.u=[] then[] else aJ (val y.q-q))=true;split
   ·exact bX9 0
   ·exact bX9 _
  ·show 0<val (aJ (val y.q-q));rw[bE];omega
  ·show 0<=val (aJ _);rw[bE];omega
  ·show (if y.u=[] then[] else aJ (val y.q-q))=[]∨(if y.u=[] then[] else aJ (val y.q-q))=aJ (val y.q-q)
   by_cases e:y.u=[]
   ·rw[if_pos e];exact .inl rfl
   ·rw[if_neg e];exact .inr rfl
end
section
open Go Go.RowKit Num
theorem dBp{z:Int}(h:aJ z=[]):z=0:=by
 have:=congrArg val h;rw[bE] at this;exact this
theorem bY2{x:aLe}:x.err=0↔(dC x.cause=true/\sP x.lot=true/\dC x.ins=true)/\(aLk x.acq=true/\aLk x.cls=true)/\x.acq<=x.cls/\(Hi x.q=true/\Hi x.p=true/\Hi x.c=true/\Hi x.df=true/\Hi x.rp=true)/\(0<=val x.q/\0<=val x.c/\0<=val x.rp/\val x.rp<=val x.q)/\(0<=val x.df/\val x.df<=x.loss/\(x.rp=[]->x.df=[])):=by
 constructor
 ·intro h;unfold aLe.err at h;split at h
  ·cases h
  rename_i h1;split at h
  ·cases h
  rename_i h2;split at h
  ·cases h
  rename_i h3;split at h
  ·cases h
  rename_i h4;split at h
  ·cases h
  rename_i h5;split at h
  ·cases h
  rename_i h6;simp only[Bool.not_eq_true',Bool.not_eq_false,Bool.and_eq_true] at h1 h2 h4;refine⟨⟨h1.1.1,h1.1.2,h1.2⟩,h2,by omega,⟨h4.1.1.1.1,h4.1.1.1.2,h4.1.1.2,h4.1.2,h4.2⟩,⟨by omega,by omega,by omega,by omega⟩,by omega,by omega,fun e=>?_⟩;exact Classical.byContradiction fun e'=>h6 (.inr (.inr ⟨e,e'⟩))
 ·rintro⟨⟨a,b,c⟩,⟨d,e⟩,f,⟨g,h,i,j,k⟩,⟨l,m,n,o⟩,p,q,r⟩;unfold aLe.err;rw[a,b,c,d,e,g,h,i,j,k,if_neg (by decide),if_neg (by decide),if_neg (by omega),if_neg (by decide),if_neg (by omega),if_neg];rintro(h|h|⟨h,h'⟩)
  ·omega
  ·omega
  ·exact h' (r h)
theorem dB8(x:aLe):0<=x.loss:=by unfold aLe.loss;split <;> omega
theorem dA7{x:aLe}(h:0<x.openV):0<x.loss/\x.openV=val x.q-val x.rp:=by
 have:=dB8 x;unfold aLe.openV at *;split at h
 ·omega
 ·rename_i e;rw[if_neg e];exact⟨by omega,rfl⟩
theorem dB1{x:aLe}{q a:Int}(h:x.err=0)(hq:0<q)(hq2:q<=x.openV)(ha:0<=a)(ha2:a<=x.loss-val x.df):(x.repl q a).err=0/\(x.repl q a).openV=x.openV-q/\(x.repl q a).loss=x.loss:=by
 obtain⟨g1,g2,g3,⟨g4,g5,g6,g7,g8⟩,⟨g9,g10,g11,g12⟩,g13,g14,g15⟩:=bY2.1 h;obtain⟨o1,o2⟩:=dA7 (x:=x) (by omega);have hl:(x.repl q a).loss=x.loss:=rfl;refine⟨bY2.2 ⟨g1,g2,g3,⟨g4,g5,g6,bX9 _,bX9 _⟩,⟨g9,g10,?_,?_⟩,?_,?_,fun e=>?_⟩,?_,hl⟩
 ·show 0<=val (aJ (val x.rp+q));rw[bE];omega
 ·show val (aJ (val x.rp+q))<=val x.q;rw[bE];omega
 ·show 0<=val (aJ (val x.df+a));rw[bE];omega
 ·rw[hl];show val (aJ (val x.df+a))<=x.loss;rw[bE];omega
 ·have:=dBp (show aJ (val x.rp+q)=[] from e);omega
 ·unfold aLe.openV;rw[hl,if_neg (by omega),if_neg (by omega)];show val x.q-val (aJ (val x.rp+q))=_;rw[bE];omega
def bWp(x:aLe)(y:Bd):Int:=min y.roomV x.openV
def bXe(x:aLe)(y:Bd):Int:=bZe (x.loss-val x.df) (bWp x y) x.openV
theorem dAp{y:Bd}(h:y.err=0)(hr:0<y.roomV):y.u=[]/\y.roomV=val y.q:=by
 obtain⟨_,_,_,_,_,_,g⟩:=bYi.1 h;unfold Bd.roomV at *;rcases g with e|e
 ·rw[e];exact⟨rfl,by rw[show val []=0 from rfl];omega⟩
 ·rw[e] at hr;omega
theorem bZa{x:aLe}{y:Bd}(hx:x.err=0)(ho:0<x.openV)(hr:0<y.roomV):0<bWp x y/\bWp x y<=x.openV/\0<=bXe x y/\bXe x y<=x.loss-val x.df/\(bWp x y=x.openV->bXe x y=x.loss-val x.df):=by
 obtain⟨_,_,_,_,_,g13,g14,_⟩:=bY2.1 hx;have h1:0<bWp x y:=by unfold bWp;omega
 have h2:bWp x y<=x.openV:=by unfold bWp;omega
 obtain⟨s1,s2⟩:=bZ7 (t:=x.loss-val x.df) (p:=bWp x y) (a:=x.openV) (by omega) (by omega) h2 ho;exact⟨h1,h2,s1,s2,fun e=>by unfold bXe;rw[e];exact dBs ho⟩
theorem dAq{x:aLe}{y:Bd}(hy:y.err=0)(hr:0<y.roomV):(bWp x y=val y.q/\aJ (bWp x y)=y.q)∨(bWp x y=x.openV/\bWp x y<val y.q/\aJ (bWp x y)≠y.q):=by
 obtain⟨e1,e2⟩:=dAp hy hr;obtain⟨_,_,_,⟨g5,_,_⟩,_,_,_⟩:=bYi.1 hy;have hq:aJ (val y.q)=y.q:=by unfold Hi at g5;simpa using g5
 by_cases h:val y.q<=x.openV
 ·have:bWp x y=val y.q:=by unfold bWp;omega
  exact .inl ⟨this,by rw[this,hq]⟩
 ·have:bWp x y=x.openV:=by unfold bWp;omega
  refine .inr ⟨this,by omega,fun e=>?_⟩;have h2:=congrArg val e;rw[bE] at h2;omega
theorem bZr(z:Bd)(x:aLe)(a:Int):(z.fill x a).roomV=0:=by show val z.q-val z.q=0;omega
end
section
open Go Go.RowKit Num
structure bWs where
 lots:List Bd
 gains:List aLe
 steps:List bZ9
 sum:Int
def dB6(cause:List UInt8)(y:Bd):Int:=if(Lib.cut y.id [47]).1=cause then(match Lib.atoiAll (Lib.cut y.id [47]).2.1 with | .ok v=>v|_=>0) else 0
def bZw(ls:List Bd)(cause:List UInt8):Int:=ls.foldl (fun n y=>max n (dB6 cause y)) 0+1
def bZ0(ins:List UInt8):List Bd->Nat->Nat->Nat
 | [],_,at_=>at_
 |y::r,i,at_=>bZ0 ins r (i+1) (if y.ins<=ins then i+1 else at_)
def bZb(ls:List Bd)(z:Bd):List Bd:=ls.take (bZ0 z.ins ls 0 0)++z::ls.drop (bZ0 z.ins ls 0 0)
def bX3(cause:List UInt8)(z:Bd)(a:Int):List bZ9:=if a=0 then[] else[⟨cause,[],z.id,[],[],aJ a⟩]
def bZf(cause:List UInt8)(n:Int):List UInt8:=cause++47::Lib.itoa n
def bYn(ls:List Bd)(cause:List UInt8)(y:Bd)(q:Int):Bd:={ y.part q with id:=bZf cause (bZw ls cause) }
def bXx(s:bWs)(i k:Nat)(x:aLe)(y:Bd)(cause:List UInt8):Option bWs :=
 if aJ (bWp x y)=y.q then
  some ⟨s.lots.set k (y.fill x (bXe x y)),s.gains.set i (x.repl (bWp x y) (bXe x y)),s.steps++bX3 cause (y.fill x (bXe x y)) (bXe x y),s.sum+bXe x y⟩
 else if 9999<bZw s.lots cause then none
 else if 1000<=s.lots.length then none
 else
  some ⟨bZb (s.lots.set k (y.rest (bWp x y))) ((bYn s.lots cause y (bWp x y)).fill x (bXe x y)),s.gains.set i (x.repl (bWp x y) (bXe x y)),
   s.steps ++ [⟨cause,y.id,bZf cause (bZw s.lots cause),aJ (bWp x y),aJ (bWp x y),(bYn s.lots cause y (bWp x y)).c⟩]++bX3 cause ((bYn s.lots cause y (bWp x y)).fill x (bXe x y)) (bXe x y),s.sum+bXe x y⟩
def bWs.left(s:bWs):Nat:=s.gains.countP (fun x=>decide (0<x.openV))+s.lots.countP (fun y=>decide (0<y.roomV))
theorem bZs{α:Type}(p:α->Bool){l:List α}{k:Nat}{y z:α}(h:l[k]?=some y):(l.set k z).countP p+(if p y=true then 1 else 0)=l.countP p+(if p z=true then 1 else 0):=by
 induction l generalizing k with
 |nil=>simp at h
 |cons a r ih =>
  cases k with
  |zero =>
   simp at h;subst h;rw[List.set_cons_zero,List.countP_cons,List.countP_cons];omega
  |succ k =>
   rw[List.set_cons_succ,List.countP_cons,List.countP_cons];have:=ih (k:=k) (by simpa using h);omega
theorem dA1(p:Bd->Bool)(ls:List Bd)(z:Bd):(bZb ls z).countP p=ls.countP p+(if p z=true then 1 else 0):=by
 unfold bZb;rw[List.countP_append,List.countP_cons];have:=congrArg (List.countP p) (List.take_append_drop (bZ0 z.ins ls 0 0) ls);rw[List.countP_append] at this;omega
theorem bZj{ls:List Bd}{z y:Bd}:y∈bZb ls z↔y=z∨y∈ls:=by
 unfold bZb;have e:y∈ls↔y∈ls.take (bZ0 z.ins ls 0 0)∨y∈ls.drop (bZ0 z.ins ls 0 0):=by
  rw[<-List.mem_append,List.take_append_drop]
 rw[List.mem_append,List.mem_cons,e];constructor
 ·rintro(h|h|h)
  ·exact .inr (.inl h)
  ·exact .inl h
  ·exact .inr (.inr h)
 ·rintro(h|h|h)
  ·exact .inr (.inl h)
  ·exact .inl h
  ·exact .inr (.inr h)
theorem bZ3{s s':bWs}{i k:Nat}{x:aLe}{y:Bd}{cause:List UInt8}(hx:s.gains[i]?=some x)(hy:s.lots[k]?=some y)(gx:x.err=0)(gy:y.err=0)(ho:0<x.openV)(hr:0<y.roomV)(h:bXx s i k x y cause=some s'):s'.left<s.left:=by
 obtain⟨b1,b2,b3,b4,b5⟩:=bZa gx ho hr;obtain⟨r1,r2,r3⟩:=dB1 gx b1 b2 b3 b4;have hg:=bZs (fun x=>decide (0<x.openV)) (z:=x.repl (bWp x y) (bXe x y)) hx;unfold bXx at h;split at h
 ·obtain rfl:=Option.some.inj h;have hl:=bZs (fun y=>decide (0<y.roomV)) (z:=y.fill x (bXe x y)) hy;simp only[bZr,decide_eq_true_eq] at hl hg;unfold bWs.left;dsimp only;rw[if_pos ho] at hg;rw[if_pos hr,if_neg (by omega)] at hl;split at hg <;> omega
 ·rename_i hc;split at h
  ·cases h
  split at h
  ·cases h
  obtain rfl:=Option.some.inj h;rcases dAq (x:=x) gy hr with⟨_,e⟩|⟨e1,e2,_⟩
  ·exact absurd e hc
  have hl:=bZs (fun y=>decide (0<y.roomV)) (z:=y.rest (bWp x y)) hy;unfold bWs.left;dsimp only;rw[dA1];simp only[bZr,decide_eq_true_eq] at hl hg ⊢;rw[if_pos ho,if_neg (by rw[r2];omega)] at hg;rw[if_pos hr] at hl;rw[if_neg (by omega)];have:(if 0<(y.rest (bWp x y)).roomV then 1 else 0)<=1:=by split <;> omega
  omega
theorem bZt{α:Type}{l:List α}{k:Nat}{z y:α}(h:y∈l.set k z):y=z∨y∈l:=by
 rcases List.mem_or_eq_of_mem_set h with h|h
 ·exact .inr h
 ·exact .inl h
theorem bY9{s s':bWs}{i k:Nat}{x:aLe}{y:Bd}{cause:List UInt8}(hs:∀x,x∈s.gains->x.err=0)(gx:x.err=0)(ho:0<x.openV)(hr:0<y.roomV)(h:bXx s i k x y cause=some s'):s'.gains=s.gains.set i (x.repl (bWp x y) (bXe x y))/\∀x,x∈s'.gains->x.err=0:=by
 obtain⟨b1,b2,b3,b4,b5⟩:=bZa gx ho hr;obtain⟨r1,r2,r3⟩:=dB1 gx b1 b2 b3 b4;have e:s'.gains=s.gains.set i (x.repl (bWp x y) (bXe x y)):=by
  unfold bXx at h;split at h
  ·obtain rfl:=Option.some.inj h;rfl
  ·split at h
   ·cases h
   split at h
   ·cases h
   obtain rfl:=Option.some.inj h;rfl
 refine⟨e,fun z hz=>?_⟩;rw[e] at hz;rcases bZt hz with rfl|hz
 ·exact r1
 ·exact hs z hz
end
section
open Go Go.RowKit Num
theorem dBd{l:List UInt8}(h:dC l=true):∀x,x∈l->x≠47:=by
 unfold dC at h;simp only[Bool.and_eq_true] at h;intro x hx e;have:=List.all_eq_true.1 h.2 x hx;rw[e] at this
 revert this
 decide
theorem dBo{cause t:List UInt8}(h:dC cause=true):Lib.cut (cause++47::t) [47]=(cause,t,true):=by
 have h1:=aDl (cause++47::t) cause.length (by simp) (by simp[List.getD_eq_getElem?_getD]) (fun j hj=>by
  rw[List.getD_eq_getElem?_getD,List.getElem?_append_left hj,Lg hj];exact dBd h _ (List.getElem_mem hj))
 rw[h1];simp
theorem dA9{n:Int}(h1:1<=n)(h2:n<=9999):oL (Lib.itoa n)=true/\Lib.atoiAll (Lib.itoa n)=.ok n:=by
 have hn:oL (Lib.itoa n)=true:=by
  unfold oL;unfold Lib.itoa;rw[if_neg (by omega)];have hl:=jU n.toNat 4 (by decide) (by have e4:(10:Nat)^4=10000:=(by decide);omega);have hp:=Lib.nDigits_pos n.toNat;rw[<-Lib.decDigits_length] at hl hp;simp only[Bool.and_eq_true,decide_eq_true_eq];exact⟨⟨⟨hp,hl⟩,iJ _⟩,jO _ (by omega)⟩
 refine⟨hn,?_⟩;obtain⟨m,e1,_,_,e2⟩:=(Cs _).1 hn;have:m=n:=by
  have hm:m=bK (Lib.itoa m):=by
   rw[e2];have hn2:=hn;unfold oL at hn2;simp only[Bool.and_eq_true,decide_eq_true_eq] at hn2;obtain⟨⟨⟨q1,q2⟩,q3⟩,q4⟩:=hn2;have:=Iw (l:=Lib.itoa n) (by intro e;rw[e] at q1;simp at q1) q2 q3;rw[this] at e1;injection e1 with e1
   exact e1.symm
  rw[e2] at hm;rw[hm];unfold Lib.itoa;rw[if_neg (by omega)];have:=aXo n.toNat;omega
 rw[e1,this]
theorem dB7{cause:List UInt8}{n:Int}(h:dC cause=true)(h1:1<=n)(h2:n<=9999):sP (bZf cause n)=true:=by
 unfold sP bZf;rw[dBo h];dsimp only;rw[(dA9 h1 h2).1,h];rfl
theorem bZ8(cause:List UInt8):∀(ls:List Bd) (m:Int),m<=ls.foldl (fun n y=>max n (dB6 cause y)) m/\∀y,y∈ls->dB6 cause y<=ls.foldl (fun n y=>max n (dB6 cause y)) m
 | [],m=>⟨Int.le_refl _,fun y hy=>by cases hy⟩
 |z::r,m=>by
  obtain⟨h1,h2⟩:=bZ8 cause r (max m (dB6 cause z));rw[List.foldl_cons];refine⟨by omega,fun y hy=>?_⟩;rcases List.mem_cons.1 hy with rfl|hy
  ·omega
  ·exact h2 y hy
theorem dA8(ls:List Bd)(cause:List UInt8):1<=bZw ls cause:=by
 have:=(bZ8 cause ls 0).1;unfold bZw;omega
theorem dAi{ls:List Bd}{cause:List UInt8}(h:dC cause=true)(h2:bZw ls cause<=9999):bZf cause (bZw ls cause) ∉ ls.map (·.id):=by
 intro hm;obtain⟨y,hy,e⟩:=List.mem_map.1 hm;have h1:=(bZ8 cause ls 0).2 y hy;have hn:dB6 cause y=bZw ls cause:=by
  unfold dB6;rw[e];unfold bZf;rw[dBo h];dsimp only;rw[if_pos rfl,(dA9 (dA8 ls cause) h2).2]
 rw[hn] at h1;unfold bZw at h1;omega
structure bZp(ls:List Bd):Prop where
 ok:∀y,y∈ls->y.err=0
 ids:(ls.map (·.id)).Nodup
 len:ls.length<=1000
theorem dAk{ls:List Bd}{k:Nat}{y z:Bd}(h:ls[k]?=some y)(e:z.id=y.id):(ls.set k z).map (·.id)=ls.map (·.id):=by
 rw[List.map_set,e];apply List.ext_getElem?;intro j;rw[List.getElem?_set];split
 ·rename_i ej;subst ej;have hk:=(Li.1 h).1;rw[List.length_map,if_pos hk,List.getElem?_map,h];rfl
 ·rfl
theorem bZp.set{ls:List Bd}{k:Nat}{y z:Bd}(H:bZp ls)(h:ls[k]?=some y)(e:z.id=y.id)(hz:z.err=0):bZp (ls.set k z) :=
 ⟨fun u hu=>(bZt hu).elim (fun e=>e ▸ hz) (H.ok u),by rw[dAk h e];exact H.ids,by rw[List.length_set];exact H.len⟩
theorem dBm(ls:List Bd)(z:Bd):(bZb ls z).Perm (z::ls):=by
 unfold bZb;have:=List.perm_middle (a:=z) (l₁:=ls.take (bZ0 z.ins ls 0 0)) (l₂:=ls.drop (bZ0 z.ins ls 0 0));rw[List.take_append_drop] at this;exact this
theorem bZp.opened{ls:List Bd}{z:Bd}(H:bZp ls)(hz:z.err=0)(hn:z.id ∉ ls.map (·.id))(hl:ls.length<1000):bZp (bZb ls z):=by
 have hp:=dBm ls z;refine⟨fun u hu=>?_,?_,?_⟩
 ·rcases bZj.1 hu with rfl|hu
  ·exact hz
  ·exact H.ok u hu
 ·exact(hp.map (·.id)).nodup_iff.2 (List.nodup_cons.2 ⟨hn,H.ids⟩)
 ·rw[hp.length_eq,List.length_cons];omega
theorem bY7{s s':bWs}{i k:Nat}{x:aLe}{y:Bd}{cause:List UInt8}(H:bZp s.lots)(hc:dC cause=true)(hy:s.lots[k]?=some y)(gx:x.err=0)(ho:0<x.openV)(hr:0<y.roomV)(h:bXx s i k x y cause=some s'):bZp s'.lots:=by
 have gy:=H.ok y (List.mem_of_getElem? hy);have hac:x.acq<=x.cls:=(bY2.1 gx).2.2.1;obtain⟨b1,b2,b3,b4,b5⟩:=bZa gx ho hr;unfold bXx at h;split at h
 ·obtain rfl:=Option.some.inj h;exact H.set hy rfl (dB3 gy b3 hac)
 ·rename_i hne;split at h
  ·cases h
  rename_i h9;split at h
  ·cases h
  rename_i hl;obtain rfl:=Option.some.inj h;rcases dAq (x:=x) gy hr with⟨_,e⟩|⟨e1,e2,_⟩
  ·exact absurd e hne
  have hid:=dB7 hc (dA8 s.lots cause) (by omega);obtain⟨p1,p2⟩:=dCf gy b1 e2 hid;refine(H.set hy (z:=y.rest (bWp x y)) rfl p2).opened (dB3 p1 b3 hac) ?_ (by rw[List.length_set];omega);rw[dAk hy (z:=y.rest (bWp x y)) rfl];exact dAi hc (by omega)
end
section
open Go Go.RowKit Num
def bXk{α:Type}(f:α->Int)(l:List α):Int:=(l.map f).sum
theorem bXl{α:Type}(f:α->Int)(x:α)(l:List α):bXk f (x::l)=f x+bXk f l:=by unfold bXk;rw[List.map_cons,List.sum_cons]
theorem bXf{α:Type}(f:α->Int):∀l m:List α,bXk f (l++m)=bXk f l+bXk f m
 | [],m=>by simp[bXk]
 |x::l,m=>by rw[List.cons_append,bXl,bXl,bXf f l m];omega
theorem bYr{α:Type}(f:α->Int){y z:α}:∀ {l:List α}{k:Nat},l[k]?=some y->bXk f (l.set k z)=bXk f l-f y+f z
 | [],k,h=>by simp at h
 |a::r,0,h=>by
  simp at h;subst h;rw[List.set_cons_zero,bXl,bXl];omega
 |a::r,k+1,h=>by
  rw[List.set_cons_succ,bXl,bXl,bYr f (l:=r) (k:=k) (by simpa using h)];omega
theorem bZ5(f:Bd->Int)(ls:List Bd)(z:Bd):bXk f (bZb ls z)=bXk f ls+f z:=by
 unfold bZb;have h:=congrArg (bXk f) (List.take_append_drop (bZ0 z.ins ls 0 0) ls);rw[bXf] at h;rw[bXf,bXl];omega
def dA6(ins:List UInt8)(y:Bd):Int:=if y.ins=ins then val y.q else 0
def dBc(ins:List UInt8)(y:Bd):Int:=if y.ins=ins then val y.c else 0
def dBq(ins:List UInt8)(x:aLe):Int:=if x.ins=ins then val x.df else 0
theorem bZu{α:Type}(p:α->Bool){y z:α}(hy:p y=false)(hz:p z=false):∀ {l:List α}{k:Nat},l[k]?=some y->(l.set k z).filter p=l.filter p
 | [],k,h=>by simp at h
 |a::r,0,h=>by
  simp at h;subst h;rw[List.set_cons_zero,List.filter_cons,List.filter_cons,hy,hz];rfl
 |a::r,k+1,h=>by
  rw[List.set_cons_succ,List.filter_cons,List.filter_cons,bZu p hy hz (l:=r) (k:=k) (by simpa using h)]
theorem dA0(p:Bd->Bool)(ls:List Bd){z:Bd}(hz:p z=false):(bZb ls z).filter p=ls.filter p:=by
 unfold bZb;have h:=congrArg (List.filter p) (List.take_append_drop (bZ0 z.ins ls 0 0) ls);rw[List.filter_append] at h;rw[List.filter_append,List.filter_cons,hz];exact h
structure dAa(ins:List UInt8)(s s':bWs):Prop where
 qty:bXk (dA6 ins) s'.lots=bXk (dA6 ins) s.lots
 cost:bXk (dBc ins) s'.lots-bXk (dBc ins) s.lots=s'.sum-s.sum
 dfr:bXk (dBq ins) s'.gains-bXk (dBq ins) s.gains=s'.sum-s.sum
 up:s.sum<=s'.sum
 len:s'.gains.length=s.gains.length
 lots:s'.lots.filter (fun y=>decide (y.ins≠ins))=s.lots.filter (fun y=>decide (y.ins≠ins))
 gains:s'.gains.filter (fun x=>decide (x.ins≠ins))=s.gains.filter (fun x=>decide (x.ins≠ins))
theorem dAa.refl(ins:List UInt8)(s:bWs):dAa ins s s:=⟨rfl,by omega,by omega,by omega,rfl,rfl,rfl⟩
theorem dAa.trans{ins:List UInt8}{a b c:bWs}(h:dAa ins a b)(k:dAa ins b c):dAa ins a c :=
 ⟨k.qty.trans h.qty,by have:=h.cost;have:=k.cost;omega,by have:=h.dfr;have:=k.dfr;omega,by have:=h.up;have:=k.up;omega,k.len.trans h.len,k.lots.trans h.lots,k.gains.trans h.gains⟩
theorem dAe{s s':bWs}{i k:Nat}{x:aLe}{y:Bd}{cause ins:List UInt8}(hx:s.gains[i]?=some x)(hy:s.lots[k]?=some y)(gx:x.err=0)(ho:0<x.openV)(hr:0<y.roomV)(hxi:x.ins=ins)(hyi:y.ins=ins)(h:bXx s i k x y cause=some s'):dAa ins s s':=by
 obtain⟨b1,b2,b3,b4,b5⟩:=bZa gx ho hr;have hgd:∀l,bXk (dBq ins) (s.gains.set i (x.repl (bWp x y) (bXe x y)))-bXk (dBq ins) s.gains=l+bXe x y-l:=fun l=>by
  rw[bYr (dBq ins) hx];have e1:dBq ins x=val x.df:=by unfold dBq;rw[if_pos hxi]
  have e2:dBq ins (x.repl (bWp x y) (bXe x y))=val x.df+bXe x y:=by
   unfold dBq;rw[if_pos (show (x.repl (bWp x y) (bXe x y)).ins=ins from hxi)];show val (aJ (val x.df+bXe x y))=_;rw[bE]
  rw[e1,e2];omega
 have hgf:(s.gains.set i (x.repl (bWp x y) (bXe x y))).filter (fun x=>decide (x.ins≠ins))=s.gains.filter (fun x=>decide (x.ins≠ins)) :=
  bZu _ (by simp[hxi]) (by simpa using(show (x.repl (bWp x y) (bXe x y)).ins=ins from hxi)) hx
 have q0:dA6 ins y=val y.q:=by unfold dA6;rw[if_pos hyi]
 have c0:dBc ins y=val y.c:=by unfold dBc;rw[if_pos hyi]
 unfold bXx at h;split at h
 ·obtain rfl:=Option.some.inj h;have fi:(y.fill x (bXe x y)).ins=ins:=hyi;refine⟨?_,?_,hgd s.sum,by show _<=s.sum+bXe x y;omega,by simp,bZu _ (by simp[hyi]) (by simp[fi]) hy,hgf⟩
  ·show bXk (dA6 ins) (s.lots.set k _)=_;rw[bYr _ hy,q0];have:dA6 ins (y.fill x (bXe x y))=val y.q:=by unfold dA6;rw[if_pos fi];rfl
   rw[this];omega
  ·show bXk (dBc ins) (s.lots.set k _)-_=s.sum+bXe x y-s.sum;rw[bYr _ hy,c0];have:dBc ins (y.fill x (bXe x y))=val y.c+bXe x y:=by
    unfold dBc;rw[if_pos fi];show val (aJ _)=_;rw[bE]
   rw[this];omega
 ·split at h
  ·cases h
  split at h
  ·cases h
  obtain rfl:=Option.some.inj h;have ri:(y.rest (bWp x y)).ins=ins:=hyi;have pi:((bYn s.lots cause y (bWp x y)).fill x (bXe x y)).ins=ins:=hyi;refine⟨?_,?_,hgd s.sum,by show _<=s.sum+bXe x y;omega,by simp,?_,hgf⟩
  ·show bXk (dA6 ins) (bZb (s.lots.set k _) _)=_;rw[bZ5,bYr _ hy,q0];have e1:dA6 ins (y.rest (bWp x y))=val y.q-bWp x y:=by unfold dA6;rw[if_pos ri];show val (aJ _)=_;rw[bE]
   have e2:dA6 ins ((bYn s.lots cause y (bWp x y)).fill x (bXe x y))=bWp x y:=by unfold dA6;rw[if_pos pi];show val (aJ _)=_;rw[bE]
   rw[e1,e2];omega
  ·show bXk (dBc ins) (bZb (s.lots.set k _) _)-_=s.sum+bXe x y-s.sum;rw[bZ5,bYr _ hy,c0];have e1:dBc ins (y.rest (bWp x y))=val y.c-bZe (val y.c) (bWp x y) (val y.q):=by unfold dBc;rw[if_pos ri];show val (aJ _)=_;rw[bE]
   have e2:dBc ins ((bYn s.lots cause y (bWp x y)).fill x (bXe x y))=bZe (val y.c) (bWp x y) (val y.q)+bXe x y:=by
    unfold dBc;rw[if_pos pi];show val (aJ (val (aJ _)+_))=_;rw[bE,bE]
   rw[e1,e2];omega
  ·show (bZb (s.lots.set k _) _).filter _=_;rw[dA0 _ _ (by simp[pi])];exact bZu _ (by simp[hyi]) (by simp[ri]) hy
end
section
open Go Go.RowKit Num
structure bZq(a b:aLe):Prop where
 cause:b.cause=a.cause
 lot:b.lot=a.lot
 ins:b.ins=a.ins
 acq:b.acq=a.acq
 cls:b.cls=a.cls
 q:b.q=a.q
 p:b.p=a.p
 c:b.c=a.c
 rp:val a.rp<=val b.rp
 df:val a.df<=val b.df
 whole:b=a∨(0<b.loss/\(val b.rp=val b.q->val b.df=b.loss))
theorem bZq.refl(a:aLe):bZq a a:=⟨rfl,rfl,rfl,rfl,rfl,rfl,rfl,rfl,Int.le_refl _,Int.le_refl _,.inl rfl⟩
theorem bZq.trans{a b c:aLe}(h:bZq a b)(k:bZq b c):bZq a c :=
 ⟨k.cause.trans h.cause,k.lot.trans h.lot,k.ins.trans h.ins,k.acq.trans h.acq,k.cls.trans h.cls,k.q.trans h.q,k.p.trans h.p,k.c.trans h.c,Int.le_trans h.rp k.rp,Int.le_trans h.df k.df,
  k.whole.elim (fun e=>by rw[e];exact h.whole) .inr⟩
theorem dB0{x:aLe}{y:Bd}(gx:x.err=0)(ho:0<x.openV)(hr:0<y.roomV):bZq x (x.repl (bWp x y) (bXe x y)):=by
 obtain⟨b1,b2,b3,b4,b5⟩:=bZa gx ho hr;obtain⟨o1,o2⟩:=dA7 ho;refine⟨rfl,rfl,rfl,rfl,rfl,rfl,rfl,rfl,?_,?_,.inr ⟨o1,fun e=>?_⟩⟩
 ·show _<=val (aJ (val x.rp+bWp x y));rw[bE];omega
 ·show _<=val (aJ (val x.df+bXe x y));rw[bE];omega
 ·have e1:val (aJ (val x.rp+bWp x y))=val x.q:=e;rw[bE] at e1;have:=b5 (by omega);show val (aJ (val x.df+bXe x y))=x.loss;rw[bE];omega
def bYy(l m:List aLe):Prop:=m.length=l.length/\∀(i:Nat) a b,l[i]?=some a->m[i]?=some b->bZq a b
theorem bYy.refl(l:List aLe):bYy l l:=⟨rfl,fun i a b h k=>by rw[h] at k;rw[<-Option.some.inj k];exact bZq.refl a⟩
theorem bYy.trans{l m n:List aLe}(h:bYy l m)(k:bYy m n):bYy l n:=⟨k.1.trans h.1,fun i a c ha hc=>by
 have hi:=(Li.1 ha).1;obtain⟨b,hb⟩:∃b,m[i]?=some b:=⟨_,Lg (by rw[h.1];exact hi)⟩
 exact(h.2 i a b ha hb).trans (k.2 i b c hb hc)⟩
theorem bYy.set{l:List aLe}{i:Nat}{x z:aLe}(hx:l[i]?=some x)(h:bZq x z):bYy l (l.set i z):=⟨List.length_set,fun j a b ha hb=>by
 rw[List.getElem?_set] at hb;split at hb
 ·rename_i e;subst e;split at hb
  ·rw[hx] at ha;rw[<-Option.some.inj ha,<-Option.some.inj hb];exact h
  ·cases hb
 ·rw[ha] at hb;rw[<-Option.some.inj hb];exact bZq.refl a⟩
theorem dAr{s s':bWs}{i k:Nat}{x:aLe}{y:Bd}{cause:List UInt8}(hx:s.gains[i]?=some x)(hy:s.lots[k]?=some y)(gx:x.err=0)(gy:y.err=0)(ho:0<x.openV)(hr:0<y.roomV)(h:bXx s i k x y cause=some s'):
  bYy s.gains s'.gains/\bXk (fun y:Bd=>val y.u) s'.lots-bXk (fun y:Bd=>val y.u) s.lots=bWp x y/\bXk (fun x:aLe=>val x.rp) s'.gains-bXk (fun x:aLe=>val x.rp) s.gains=bWp x y/\0<bWp x y:=by
 obtain⟨b1,b2,b3,b4,b5⟩:=bZa gx ho hr;obtain⟨u0,u1⟩:=dAp gy hr;have hgr:bXk (fun x:aLe=>val x.rp) (s.gains.set i (x.repl (bWp x y) (bXe x y)))-bXk (fun x:aLe=>val x.rp) s.gains=bWp x y:=by
  rw[bYr _ hx];show _-val x.rp+val (aJ (val x.rp+bWp x y))-_=_;rw[bE];omega
 have n0:val ([]:List UInt8)=0:=rfl;unfold bXx at h;split at h
 ·rename_i hc;obtain rfl:=Option.some.inj h;refine⟨bYy.set hx (dB0 gx ho hr),?_,hgr,b1⟩;show bXk _ (s.lots.set k _)-_=_;rw[bYr _ hy];show _-val y.u+val y.q-_=_;rcases dAq (x:=x) gy hr with⟨e,_⟩|⟨_,_,e⟩
  ·rw[u0,n0];omega
  ·exact absurd hc e
 ·split at h
  ·cases h
  split at h
  ·cases h
  obtain rfl:=Option.some.inj h;refine⟨bYy.set hx (dB0 gx ho hr),?_,hgr,b1⟩;show bXk _ (bZb (s.lots.set k _) _)-_=_;rw[bZ5,bYr _ hy];have e1:val (y.rest (bWp x y)).u=0:=by show val (if y.u=[] then[] else _)=0;rw[if_pos u0];rfl
  have e2:val ((bYn s.lots cause y (bWp x y)).fill x (bXe x y)).u=bWp x y:=by show val (aJ _)=_;rw[bE]
  rw[e1,e2,u0,n0];omega
end
section
open Go Go.RowKit Num
theorem bY6{x:aLe}{ins:List UInt8}{d wash:Int}(h:dAv x ins d wash=true):0<wash/\x.ins=ins/\0<x.openV/\x.cls<=d/\d<=x.cls+wash:=by
 unfold dAv at h;simp only[Bool.and_eq_true,decide_eq_true_eq,beq_iff_eq] at h;exact⟨h.1.1.1.1,h.1.1.1.2,h.1.1.2,h.1.2,h.2⟩
theorem bYt{y:Bd}{x:aLe}{d wash:Int}:dAz y x d wash=true↔y.ins=x.ins/\0<y.roomV/\y.id≠x.lot/\x.cls-wash<=y.opn/\y.opn<=min (x.cls+wash) d:=by
 unfold dAz;simp only[Bool.and_eq_true,decide_eq_true_eq,beq_iff_eq,Bool.not_eq_true',beq_eq_false_iff_ne];constructor
 ·rintro⟨⟨⟨⟨a,b⟩,c⟩,e⟩,f⟩;exact⟨a,b,c,e,f⟩
 ·rintro⟨a,b,c,e,f⟩;exact⟨⟨⟨⟨a,b⟩,c⟩,e⟩,f⟩
inductive bZl(ins:List UInt8)(d wash:Int)(cause:List UInt8):bWs->bWs->Prop
 |refl (s:bWs):bZl ins d wash cause s s
 |step {s s' t:bWs}(i k:Nat) (x:aLe) (y:Bd) (hx:s.gains[i]?=some x) (hd:dAv x ins d wash=true) (hy:s.lots[k]?=some y) (hr:dAz y x d wash=true) (h:bXx s i k x y cause=some s') (r:bZl ins d wash cause s' t):bZl ins d wash cause s t
structure dAw(s:bWs):Prop where
 lots:bZp s.lots
 gains:∀x,x∈s.gains->x.err=0
structure dCg(ins:List UInt8)(s t:bWs):Prop where
 ok:dAw t
 keep:dAa ins s t
 up:bYy s.gains t.gains
 used:bXk (fun y:Bd=>val y.u) t.lots-bXk (fun y:Bd=>val y.u) s.lots=bXk (fun x:aLe=>val x.rp) t.gains-bXk (fun x:aLe=>val x.rp) s.gains
 more:bXk (fun x:aLe=>val x.rp) s.gains<=bXk (fun x:aLe=>val x.rp) t.gains
theorem bZl.keeps{ins:List UInt8}{d wash:Int}{cause:List UInt8}(hc:dC cause=true){s t:bWs}(r:bZl ins d wash cause s t):dAw s->dCg ins s t:=by
 induction r with
 |refl s=>exact fun H=>⟨H,dAa.refl _ _,bYy.refl _,by omega,Int.le_refl _⟩
 |step i k x y hx hd hy hr h _ ih =>
  intro H;have gx:=H.gains x (List.mem_of_getElem? hx);have gy:=H.lots.ok y (List.mem_of_getElem? hy);obtain⟨d1,d2,d3,d4,d5⟩:=bY6 hd;obtain⟨p1,p2,p3,p4,p5⟩:=bYt.1 hr;obtain⟨o1,o2,o3,o4⟩:=dAr hx hy gx gy d3 p2 h;obtain⟨k1,k2,k3,k4,k5⟩:=ih ⟨bY7 H.lots hc hy gx d3 p2 h,(bY9 H.gains gx d3 p2 h).2⟩;exact⟨k1,(dAe hx hy gx d3 p2 d2 (p1.trans d2) h).trans k2,o1.trans k3,by omega,by omega⟩
def dBe(ins:List UInt8)(d wash:Int)(s:bWs)(i:Nat):Prop:=∀x,s.gains[i]?=some x->dAv x ins d wash=true->∀y,y∈s.lots->dAz y x d wash=false
theorem dAs{ins:List UInt8}{d wash:Int}{cause:List UInt8}{s s':bWs}{i j k:Nat}{x:aLe}{y:Bd}(hij:j≠i)(hy:s.lots[k]?=some y)(hr:0<y.roomV)(h:bXx s i k x y cause=some s')(hd:dBe ins d wash s j):dBe ins d wash s' j:=by
 have hym:=List.mem_of_getElem? hy;have key:(∀g,s'.gains[j]?=some g->s.gains[j]?=some g)/\∀u,u∈s'.lots->u.roomV=0∨u∈s.lots∨(u.ins=y.ins/\u.id=y.id/\u.opn=y.opn):=by
  have hset:∀g,(s.gains.set i (x.repl (bWp x y) (bXe x y)))[j]?=some g->s.gains[j]?=some g:=fun g hg=>by rwa [List.getElem?_set_ne (Ne.symm hij)] at hg
  unfold bXx at h;split at h
  ·obtain rfl:=Option.some.inj h;refine⟨hset,fun u hu=>?_⟩;rcases bZt hu with rfl|hu
   ·exact .inl (bZr _ _ _)
   ·exact .inr (.inl hu)
  ·split at h
   ·cases h
   split at h
   ·cases h
   obtain rfl:=Option.some.inj h;refine⟨hset,fun u hu=>?_⟩;rcases bZj.1 hu with rfl|hu
   ·exact .inl (bZr _ _ _)
   ·rcases bZt hu with rfl|hu
    ·exact .inr (.inr ⟨rfl,rfl,rfl⟩)
    ·exact .inr (.inl hu)
 intro g hg hdg u hu;have hg0:=key.1 g hg;cases e:dAz u g d wash with
 |false=>rfl
 |true =>
  obtain⟨q1,q2,q3,q4,q5⟩:=bYt.1 e;rcases key.2 u hu with h0|hm|⟨e1,e2,e3⟩
  ·omega
  ·rw[hd g hg0 hdg u hm] at e;cases e
  ·have:=hd g hg0 hdg y hym;rw[bYt.2 ⟨e1 ▸ q1,hr,e2 ▸ q3,e3 ▸ q4,e3 ▸ q5⟩] at this;cases this
def bY0(ins:List UInt8)(d wash:Int)(s:bWs)(i:Nat):Option (Nat×aLe×Bd) :=
 (s.gains[i]?).bind fun x=>if dAv x ins d wash=true then(s.lots.findIdx? fun y=>dAz y x d wash).bind fun k=>(s.lots[k]?).map fun y=>(k,x,y) else none
theorem dAj{ins:List UInt8}{d wash:Int}{s:bWs}{i:Nat}(h:bY0 ins d wash s i=none):dBe ins d wash s i:=by
 intro x hx hd y hy;unfold bY0 at h;rw[hx] at h;simp only[Option.bind_some] at h;rw[if_pos hd] at h;cases hf:s.lots.findIdx? (fun y=>dAz y x d wash) with
 |none=>exact List.findIdx?_eq_none_iff.1 hf y hy
 |some k =>
  rw[hf] at h;obtain⟨hk,_⟩:=List.findIdx?_eq_some_iff_getElem.1 hf;rw[Option.bind_some,Lg hk] at h;cases h
theorem bYm{ins:List UInt8}{d wash:Int}{s:bWs}{i k:Nat}{x:aLe}{y:Bd}(h:bY0 ins d wash s i=some (k,x,y)):s.gains[i]?=some x/\dAv x ins d wash=true/\s.lots[k]?=some y/\dAz y x d wash=true:=by
 unfold bY0 at h;rw[Option.bind_eq_some_iff] at h;obtain⟨x',hx,h⟩:=h;split at h
 ·rename_i hd;rw[Option.bind_eq_some_iff] at h;obtain⟨k',hk,h⟩:=h;rw[Option.map_eq_some_iff] at h;obtain⟨y',hy,e⟩:=h;injection e with e1 e2
  injection e2 with e2 e3
  subst e1 e2 e3;obtain⟨hkl,hp,_⟩:=List.findIdx?_eq_some_iff_getElem.1 hk;rw[Lg hkl] at hy;have hy':=Option.some.inj hy;subst hy';exact⟨hx,hd,Lg hkl,hp⟩
 ·cases h
end
section
open Go Go.RowKit Num
inductive bZm(ins:List UInt8)(d wash:Int)(cause:List UInt8):bWs->Nat->Option bWs->Prop
 |done {s:bWs}{i:Nat}(h:s.gains.length<=i):bZm ins d wash cause s i (some s)
 |skip {s:bWs}{i:Nat}{r:Option bWs}(h:i<s.gains.length) (hn:bY0 ins d wash s i=none) (e:bZm ins d wash cause s (i+1) r):bZm ins d wash cause s i r
 |limit {s:bWs}{i k:Nat}{x:aLe}{y:Bd}(hn:bY0 ins d wash s i=some (k,x,y)) (h:bXx s i k x y cause=none):bZm ins d wash cause s i none
 |step {s s':bWs}{i k:Nat}{x:aLe}{y:Bd}{r:Option bWs}(hn:bY0 ins d wash s i=some (k,x,y)) (h:bXx s i k x y cause=some s') (e:bZm ins d wash cause s' i r):bZm ins d wash cause s i r
theorem bZm.runs{ins:List UInt8}{d wash:Int}{cause:List UInt8}{s:bWs}{i:Nat}{r:Option bWs}(h:bZm ins d wash cause s i r):∀t,r=some t->(∀j,j<i->dBe ins d wash s j)->bZl ins d wash cause s t/\∀j,dBe ins d wash t j:=by
 induction h with
 | @done s i h =>
  intro t e hd;obtain rfl:=Option.some.inj e;refine⟨.refl _,fun j=>?_⟩
  by_cases hj:j<i
  ·exact hd j hj
  ·intro x hx;have:=(Li.1 hx).1;omega
 | @skip s i r _ hn _ ih =>
  intro t e hd;refine ih t e fun j hj=>?_
  by_cases hji:j<i
  ·exact hd j hji
  ·obtain rfl:j=i:=by omega
   exact dAj hn
 |limit _ _=>intro t e;cases e
 | @step s s' i k x y r hn h _ ih =>
  intro t e hd;obtain⟨hx,hdf,hy,hr⟩:=bYm hn;obtain⟨h1,h2⟩:=ih t e fun j hj=>dAs (by omega) hy (bYt.1 hr).2.1 h (hd j hj)
  exact⟨.step i k x y hx hdf hy hr h h1,h2⟩
theorem bZm.still{ins:List UInt8}{d wash:Int}{cause:List UInt8}{s:bWs}{i:Nat}{r:Option bWs}(h:bZm ins d wash cause s i r):(∀j,dBe ins d wash s j)->r=some s:=by
 induction h with
 |done h=>exact fun _=>rfl
 |skip _ _ _ ih=>exact ih
 | @limit s i k x y hn _ =>
  intro hd;obtain⟨hx,hdf,hy,hr⟩:=bYm hn;rw[hd _ x hx hdf y (List.mem_of_getElem? hy)] at hr;cases hr
 | @step s s' i k x y r hn _ _ _ =>
  intro hd;obtain⟨hx,hdf,hy,hr⟩:=bYm hn;rw[hd _ x hx hdf y (List.mem_of_getElem? hy)] at hr;cases hr
theorem dCd(ins:List UInt8)(d:Int){wash:Int}(h:wash<=0)(s:bWs)(j:Nat):dBe ins d wash s j:=fun x _ hd=>by
 have:=(bY6 hd).1;omega
theorem bZm.ex{ins:List UInt8}{d wash:Int}{cause:List UInt8}(hc:dC cause=true):∀(n m:Nat) (s:bWs) (i:Nat),s.left<=n->s.gains.length-i<=m->dAw s->∃r,bZm ins d wash cause s i r:=by
 intro n
 induction n with
 |zero =>
  intro m
  induction m with
  |zero=>exact fun s i _ hm _=>⟨_,.done (by omega)⟩
  |succ m ihm =>
   intro s i hn hm H
   by_cases hi:s.gains.length<=i
   ·exact⟨_,.done hi⟩
   cases hp:bY0 ins d wash s i with
   |none =>
    obtain⟨r,hr⟩:=ihm s (i+1) hn (by omega) H;exact⟨r,.skip (by omega) hp hr⟩
   |some p =>
    obtain⟨k,x,y⟩:=p;obtain⟨hx,hdf,hy,hr⟩:=bYm hp;cases hq:bXx s i k x y cause with
    |none=>exact⟨_,.limit hp hq⟩
    |some s' =>
     have:=bZ3 hx hy (H.gains x (List.mem_of_getElem? hx)) (H.lots.ok y (List.mem_of_getElem? hy)) (bY6 hdf).2.2.1 (bYt.1 hr).2.1 hq;omega
 |succ n ihn =>
  intro m
  induction m with
  |zero=>exact fun s i _ hm _=>⟨_,.done (by omega)⟩
  |succ m ihm =>
   intro s i hn hm H
   by_cases hi:s.gains.length<=i
   ·exact⟨_,.done hi⟩
   cases hp:bY0 ins d wash s i with
   |none =>
    obtain⟨r,hr⟩:=ihm s (i+1) hn (by omega) H;exact⟨r,.skip (by omega) hp hr⟩
   |some p =>
    obtain⟨k,x,y⟩:=p;obtain⟨hx,hdf,hy,hr⟩:=bYm hp;have gx:=H.gains x (List.mem_of_getElem? hx);have p2:=(bYt.1 hr).2.1;have d3:=(bY6 hdf).2.2.1;cases hq:bXx s i k x y cause with
    |none=>exact⟨_,.limit hp hq⟩
    |some s' =>
     have:=bZ3 hx hy gx (H.lots.ok y (List.mem_of_getElem? hy)) d3 p2 hq;obtain⟨r,hr'⟩:=ihn (s'.gains.length-i) s' i (by omega) (Nl _) ⟨bY7 H.lots hc hy gx d3 p2 hq,(bY9 H.gains gx d3 p2 hq).2⟩;exact⟨r,.step hp hq hr'⟩
end
end Go.Proofs.YtiloklnjjfaagaaGreatDoor
