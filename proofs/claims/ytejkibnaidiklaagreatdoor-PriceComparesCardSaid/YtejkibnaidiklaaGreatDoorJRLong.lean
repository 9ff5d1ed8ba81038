/- RDiv RLongP RLongA RLongB RLongC RLongD RLongR RLongE -/
import Derived.Test.YtejkibnaidiklaaGreatDoorJRNum
import Derived.Test.YtejkibnaidiklaaGreatDoorJWhereA
import Derived.Lib.AppendZeros
set_option maxHeartbeats 16000000
set_option maxRecDepth 100000
namespace Go.Proofs.YtejkibnaidiklaaGreatDoor
open Go.Proofs.Tryz
section
open Go Go.RowKit Num
theorem Sk{x n:Int}(hn:0<n):(x.tmod n=0∨0<=x->x.tdiv n=x/n/\x.tmod n=x%n)/\(¬ x.tmod n=0->x<0->x.tdiv n-1=x/n/\x.tmod n+n=x%n/\x.tmod n<0):=by
 have h1:=Int.mul_tdiv_add_tmod x n;have h2:=Int.mul_ediv_add_emod x n;have h3:=Int.emod_nonneg x (show n≠0 by omega);have h4:=Int.emod_lt_of_pos x hn;have uniq:∀q r:Int,n*q+r=x->0<=r->r<n->q=x/n/\r=x%n:=by
  intro q r e h5 h6;have e2:(n*q+r)/n=q:=by rw[Int.mul_comm,Int.add_comm,Int.add_mul_ediv_right _ _ (by omega),Int.ediv_eq_zero_of_lt h5 h6];omega
  have e3:(n*q+r)%n=r:=by rw[Int.mul_comm,Int.add_comm,Int.add_mul_emod_self_right,Int.emod_eq_of_lt h5 h6]
  rw[e] at e2 e3;exact⟨e2.symm,e3.symm⟩
 constructor
 ·rintro(h|h)
  ·exact uniq _ _ (by rw[h] at h1 ⊢;exact h1) (by omega) (by omega)
  ·exact⟨Int.tdiv_eq_ediv_of_nonneg h,Int.tmod_eq_emod_of_nonneg h⟩
 ·intro h0 hx;have h5:x.tmod n<=0:=by
   have:=Int.tmod_nonneg n (show 0<=-x by omega);rw[Int.neg_tmod] at this;omega
  have h6:-n<x.tmod n:=by
   have:=Int.lt_tmod_of_pos x hn;omega
  have:=uniq (x.tdiv n-1) (x.tmod n+n) (by rw[Int.mul_sub,Int.mul_one];omega) (by omega) (by omega);exact⟨this.1,this.2,by omega⟩
theorem Je(l m:List UInt8)(w:World)(hl:l.length<=1000)(hm:m.length<=1000)(h1:(val l).natAbs<100000000000000000)(h2:(val m).natAbs<100000000000000000)(h0:0<val m):
  Calls prog 152 #[.string ⟨l.toArray⟩,.string ⟨m.toArray⟩] w fun e w'=>e=.returned (.tuple #[.string ⟨(aJ (val l/val m)).toArray⟩,.string ⟨(aJ (val l%val m)).toArray⟩,.int .i64 0])/\Below w.heap.size w w':=by
 have H1:=Hd (fun W=>gU l W (by omega) (gQ (K:=17) (by omega) (by decide)));have H2:=Hd (fun W=>gU m W (by omega) (gQ (K:=17) (by omega) (by decide)));obtain⟨hq1,hq2⟩:=Sk (x:=val l) h0;have hqa:((val l).tdiv (val m)).natAbs<=(val l).natAbs:=by rw[Int.natAbs_tdiv];exact Nat.div_le_self _ _
 have hra:((val l).tmod (val m)).natAbs<(val m).natAbs:=by rw[Int.natAbs_tmod];exact Nat.mod_lt _ (by omega)
 generalize val l=x at *;generalize val m=n at *;obtain⟨q,hq⟩:∃q,q=x.tdiv n:=⟨_,rfl⟩
 obtain⟨r,hr⟩:∃r,r=x.tmod n:=⟨_,rfl⟩
 rw[<-hq,<-hr] at hq1 hq2;rw[<-hq] at hqa;rw[<-hr] at hra;have htd:x.tdiv n=q:=hq.symm;have htm:x.tmod n=r:=hr.symm;have hne:¬ n=0:=by omega
 have hqw:IntKind.i64.wrap q=q:=by rw[IntKind.wrap_i64];omega
 have hn0:(n==0)=false:=by simpa using hne
 have hn1:¬ n<0:=by omega
 by_cases hadj:¬ r=0/\x<0
 ·obtain⟨e1,e2,e3⟩:=hq2 hadj.1 hadj.2;have H3:=Hd (fun W=>nS (x/n) (by omega) (by omega) W);have H4:=Hd (fun W=>nS (x%n) (by omega) (by omega) W);generalize aJ (x/n)=cq at *;generalize aJ (x%n)=cr at *;rw[<-e1] at H3;rw[<-e2] at H4;have hr0:(r==0)=false:=by simpa using hadj.1
  have hqb:-100000000000000001<=q/\q<=100000000000000001:=by omega
  have hrb:-100000000000000001<=r/\r<=100000000000000001:=by omega
  have hnb:n<=100000000000000001:=by omega
  have hd1:decide (r<0)=true:=by simpa using e3
  have hd2:decide (n<0)=false:=by simpa using hn1
  clear hq1 hq2 hqa hra hq hr h1 h2 hadj e1 e2 hl hm;go_enter func152,ntmps152;go_wp2_with fail;refine(H1.out _).mono ?_;rintro e w1 ⟨rfl,rfl⟩;go_wp2_with fail;refine(H2.out _).mono ?_;rintro e w1 ⟨rfl,rfl⟩;go_wp2_with fail;go_quiet (fail);go_wp2_with fail
  all_goals first|(exfalso;omega)|skip
  refine(H3.out _).mono ?_;rintro e w1 ⟨rfl,rfl⟩;go_wp2_with fail;refine(H4.out _).mono ?_;rintro e w1 ⟨rfl,rfl⟩;go_wp2;go_ret3;exact⟨rfl,aD (Br _ _) _⟩
 ·obtain⟨e1,e2⟩:=hq1 (by omega);have H3:=Hd (fun W=>nS (x/n) (by omega) (by omega) W);have H4:=Hd (fun W=>nS (x%n) (by omega) (by omega) W);generalize aJ (x/n)=cq at *;generalize aJ (x%n)=cr at *;rw[<-e1] at H3;rw[<-e2] at H4;have hqb:-100000000000000001<=q/\q<=100000000000000001:=by omega
  have hrb:-100000000000000001<=r/\r<=100000000000000001:=by omega
  have hnb:n<=100000000000000001:=by omega
  have hd2:decide (n<0)=false:=by simpa using hn1
  by_cases hr0:r=0
  ·have hr1:(r==0)=true:=by simpa using hr0
   have hr2:(r != 0)=false:=by simpa using hr0
   clear hq1 hq2 hqa hra hq hr h1 h2 hadj e1 e2 hl hm hr0;go_enter func152,ntmps152;go_wp2_with fail;refine(H1.out _).mono ?_;rintro e w1 ⟨rfl,rfl⟩;go_wp2_with fail;refine(H2.out _).mono ?_;rintro e w1 ⟨rfl,rfl⟩;go_wp2_with fail;go_quiet (fail);go_wp2_with fail
   all_goals first|(exfalso;simp at hr1;omega)|skip
   refine(H3.out _).mono ?_;rintro e w1 ⟨rfl,rfl⟩;go_wp2_with fail;refine(H4.out _).mono ?_;rintro e w1 ⟨rfl,rfl⟩;go_wp2;go_ret3;exact⟨rfl,aD (Br _ _) _⟩
  ·have hr1:(r==0)=false:=by simpa using hr0
   have hd1:decide (r<0)=false:=by
    have hx0:0<=x:=by omega
    have:=Int.tmod_nonneg n hx0;rw[<-hr] at this;simpa using this
   clear hq1 hq2 hqa hra hq hr h1 h2 hadj e1 e2 hl hm;go_enter func152,ntmps152;go_wp2_with fail;refine(H1.out _).mono ?_;rintro e w1 ⟨rfl,rfl⟩;go_wp2_with fail;refine(H2.out _).mono ?_;rintro e w1 ⟨rfl,rfl⟩;go_wp2_with fail;go_quiet (fail);go_wp2_with fail
   all_goals first|(exfalso;simp at hd1;omega)|skip
   refine(H3.out _).mono ?_;rintro e w1 ⟨rfl,rfl⟩;go_wp2_with fail;refine(H4.out _).mono ?_;rintro e w1 ⟨rfl,rfl⟩;go_wp2;go_ret3;exact⟨rfl,aD (Br _ _) _⟩
end
section
open Go Go.RowKit Num
def aXs(x y:Nat)(m n:List Nat)(i:Nat)(o:List Nat)(c:Nat):Prop :=
 o.length=i/\(∀g∈o,g<1000000000)/\c<=1/\(m.length<i->n.length<i->c=0)/\aI o+1000000000^i*(c+(aI (m.drop i)+aI (n.drop i)))=x+y
theorem aWy{m:List Nat}{i:Nat}(h:m.length<=i):m.getD i 0=0:=by rw[List.getD_eq_getElem?_getD,List.getElem?_eq_none h];rfl
theorem aXp(m:List Nat)(k:Nat):aI (m.drop k)=m.getD k 0+1000000000*aI (m.drop (k+1)):=by
 by_cases hk:k<m.length
 ·rw[dI m k hk];rfl
 ·rw[List.drop_eq_nil_of_le (by omega),List.drop_eq_nil_of_le (by omega),aWy (by omega)];simp[aI]
theorem aXz(x y:Nat):aXs x y (aC x) (aC y) 0 [] 0:=⟨rfl,by simp,by decide,fun _ _=>rfl,by simp[aI,aQ]⟩
theorem aX0{x y:Nat}{m n:List Nat}{i:Nat}{o:List Nat}{c:Nat}(h:aXs x y m n i o c)(hm:∀g∈m,g<1000000000)(hn:∀g∈n,g<1000000000):
  aXs x y m n (i+1) (o ++ [(m.getD i 0+n.getD i 0+c)%1000000000]) ((m.getD i 0+n.getD i 0+c)/1000000000):=by
 obtain⟨h1,h2,h3,_,h5⟩:=h;have a1:=bV hm i;have a2:=bV hn i;refine⟨by simp[h1],?_,by omega,fun k1 k2=>?_,?_⟩
 ·intro g hg;rw[List.mem_append] at hg;rcases hg with hg|hg
  ·exact h2 g hg
  ·rw[List.mem_singleton.1 hg];exact Nat.mod_lt _ (by decide)
 ·rw[aWy (by omega),aWy (by omega)];omega
 ·rw[aXp m i,aXp n i] at h5;rw[<-h5,eU,h1,Nat.pow_succ,Nat.mul_assoc,Nat.add_assoc,<-Nat.mul_add];congr 2;simp only[aI];omega
theorem aX9{x y:Nat}{m n:List Nat}{i:Nat}{o:List Nat}{c:Nat}(h:aXs x y m n i o c)(k1:m.length<=i)(k2:n.length<=i)(hc:c=0):fQ o=aC (x+y):=by
 obtain⟨_,h2,_,_,h5⟩:=h;subst hc;rw[List.drop_eq_nil_of_le k1,List.drop_eq_nil_of_le k2] at h5;rw[rG h2];simp only[aI,Nat.add_zero,Nat.mul_zero] at h5;rw[h5]
theorem aYx(g r:Nat)(h:g<1000000000):fQ (g::aC r)=aC (r*1000000000+g):=by
 rw[rG (by intro z hz;rcases List.mem_cons.1 hz with rfl|hz;exact h;exact aO r z hz)];congr 1;simp only[aI,aQ];omega
theorem aWo{q:Nat}(h0:0<q)(h:q<1000000000):aC q=[q]:=by
 rw[iA (by omega),show q/1000000000=0 by omega,aT,Nat.mod_eq_of_lt h]
def aXf(v y low high:Nat):Prop:=low<=high/\high<1000000000/\y*low<=v/\v<y*(high+1)
theorem aX1{r y g:Nat}(hr:r<y)(hg:g<1000000000):aXf (r*1000000000+g) y 0 999999999:=by
 refine⟨by decide,by decide,by simp,?_⟩;have:(r+1)*1000000000<=y*1000000000:=Nat.mul_le_mul_right _ hr;show _<y*1000000000;omega
theorem aXf.up{v y low high mid:Nat}(h:aXf v y low high)(hm:mid=(low+high+1)/2)(hlt:low<high)(hle:y*mid<=v):aXf v y mid high :=
 ⟨by omega,h.2.1,hle,h.2.2.2⟩
theorem aXf.down{v y low high mid:Nat}(h:aXf v y low high)(hm:mid=(low+high+1)/2)(hlt:low<high)(hle:¬ y*mid<=v):aXf v y low (mid-1) :=
 ⟨by omega,by have:=h.2.1;omega,h.2.2.1,by rw[show mid-1+1=mid by omega];omega⟩
theorem aXf.stop{v y q:Nat}(h:aXf v y q q)(_hy:0<y):q=v/y:=by
 obtain⟨_,_,h3,h4⟩:=h;have h5:v/y<q+1:=Nat.div_lt_of_lt_mul h4;have h6:q<=v/y:=(Nat.le_div_iff_mul_le (by omega)).2 (by rw[Nat.mul_comm];exact h3);omega
theorem aWr(x y:Nat):bG (x:Int) (y:Int)=if x<y then -1 else if y<x then 1 else 0:=by
 unfold bG
 by_cases h:x<y
 ·rw[if_pos h,if_pos (by omega)]
 ·rw[if_neg h,if_neg (by omega)]
  by_cases h':y<x
  ·rw[if_pos h',if_pos (by omega)]
  ·rw[if_neg h',if_neg (by omega)]
end
section
open Go Go.RowKit Num
theorem aX2(x y:Nat)(a a':Option Addr)(cap cap':Nat)(w:World)(_h1:(aC x).length<=1000000)(_h2:(aC y).length<=1000000)(hne:(aC x).length≠(aC y).length):
  Calls prog 219 #[.slice a (aC x).length cap,.slice a' (aC y).length cap'] w fun e w'=>e=.returned (.int .i64 (bG (x:Int) (y:Int)))/\w'=w:=by
 rw[aWr];rcases Nat.lt_or_ge (aC x).length (aC y).length with h|h
 ·rw[if_pos (by rcases Nat.lt_or_ge x y with g|g;exact g;exact absurd (bP g) (by omega))];generalize(aC x).length=p at *;generalize(aC y).length=q at *;have hb:((p:Int) != (q:Int))=true:=by simp;omega
  go_enter func219,ntmps219;go_wp2;go_ret;exact⟨rfl,rfl⟩
 ·have h':(aC y).length<(aC x).length:=by omega
  have hyx:y<x:=by rcases Nat.lt_or_ge y x with g|g;exact g;exact absurd (bP g) (by omega)
  rw[if_neg (by omega),if_pos hyx];generalize(aC x).length=p at *;generalize(aC y).length=q at *;have hb:((p:Int) != (q:Int))=true:=by simp;omega
  clear hyx;go_enter func219,ntmps219;go_wp2;go_ret;exact⟨rfl,rfl⟩
theorem aXu(x y:Nat)(a a':Option Addr)(cap cap':Nat)(w:World)(h1:(aC x).length<=1000000)(he:(aC x).length=(aC y).length)
  (hr:dT w a (gi (aC x))) (hr':dT w a' (gi (aC y))) :
  Calls prog 219 #[.slice a (aC x).length cap,.slice a' (aC y).length cap'] w fun e w'=>e=.returned (.int .i64 (bG (x:Int) (y:Int)))/\∃q,w'=w.drewN q:=by
 rw[aWr];obtain⟨m,hm⟩:∃m,m=aC x:=⟨_,rfl⟩
 obtain⟨n,hn⟩:∃n,n=aC y:=⟨_,rfl⟩
 have HM:=Hd (show ∀g∈m,g<1000000000 by rw[hm];exact aO x);have HN:=Hd (show ∀g∈n,g<1000000000 by rw[hn];exact aO y);have HV:Hid (aI m=x):=by show _=_;rw[hm,aQ]
 have HV':Hid (aI n=y):=by show _=_;rw[hn,aQ]
 rw[<-hm] at h1 hr he ⊢;rw[<-hn] at hr' he ⊢;have HR:=Hd hr;have HR':=Hd hr';clear hr hr' hm hn;obtain⟨p,hp⟩:∃p,p=m.length:=⟨_,rfl⟩
 have HP:=Hd hp;have HE:=Hd he;rw[<-he];rw[<-hp] at h1 ⊢;clear hp he;obtain⟨z,hz⟩:∃z:Int,z=if x<y then -1 else if y<x then 1 else 0:=⟨_,rfl⟩
 rw[<-hz];have HZ1:Hid (aI m<aI n->z = -1):=fun h=>by rw[HV.out,HV'.out] at h;rw[hz,if_pos h]
 have HZ2:Hid (aI n<aI m->z=1):=fun h=>by rw[HV.out,HV'.out] at h;rw[hz,if_neg (by omega),if_pos h]
 have HZ3:Hid (m=n->z=0):=fun h=>by have:=HV.out;have:=HV'.out;rw[h] at *;rw[hz,if_neg (by omega),if_neg (by omega)]
 clear hz HV HV';go_enter func219,ntmps219;go_wp2;go_loopw [5] (fun i wr=>∃k:Nat,k<=p/\i=.int .i64 ((k:Int)-1)/\Hid (m.drop k=n.drop k)/\∃q,wr=w.drewN q) (fun i _=>(intOf i+1).toNat)
 case atStart=>exact⟨p,Nl _,rfl,by show _=_;rw[List.drop_of_length_le (by rw[HP.out];exact Nl _),List.drop_of_length_le (by rw[<-HE.out,HP.out];exact Nl _)],0,rfl⟩
 case round =>
  obtain⟨k,hk,rfl,hd,q,rfl⟩:=hrel;rcases Nat.eq_zero_or_pos k with rfl|hpos
  ·have HZ0:=Hd (HZ3.out (by have:=hd.out;simpa using this));go_wp2;go_ret;exact⟨by rw[HZ0.out];rfl,q,rfl⟩
  ·obtain⟨j,rfl⟩:∃j,k=j+1:=⟨k-1,by omega⟩
   have hjm:j<m.length:=by have:=HP.out;omega
   have hjn:j<n.length:=by have:=HE.out;omega
   obtain⟨b,off,rfl,_,hcell⟩:=HR.out.celli (Br _ w) hjm;obtain⟨b',off',rfl,_,hcell'⟩:=HR'.out.celli (Br _ w) hjn;have t1:=Hd (fun h=>HZ1.out (Sh (j:=j) HM.out HE.out hjm hd.out h));have t2:=Hd (fun h=>HZ2.out (Sh (j:=j) HN.out HE.out.symm hjn hd.out.symm h));have t3:=Hd (fun (h:m.getD j 0=n.getD j 0)=>show m.drop j=n.drop j by
    rw[dI m j hjm,dI n j hjn,hd.out,h])
   generalize m.getD j 0=g at *;generalize n.getD j 0=g' at *;clear hd hjm hjn;rcases Nat.lt_trichotomy g g' with hg|hg|hg
   ·have HZ0:=Hd (t1.out hg);go_wp2;go_quiet (fail);go_wp2;go_ret;exact⟨by rw[HZ0.out];rfl,_,World.drewN_drewN _ _ _⟩
   ·subst hg;have t4:=Hd (t3.out rfl);clear t1 t2 t3;go_wp2;go_quiet (fail);go_wp2;go_quiet (fail);go_wp2;go_roundw
    case rel=>exact⟨j,by omega,by simp,t4,_,by first|exact rfl|(simp only[World.drewN_drewN];rfl)⟩
    case measure=>simp[intOf]
   ·have hg':¬ (g:Int)<g':=by omega
    have HZ0:=Hd (t2.out hg);go_wp2;go_quiet (fail);go_wp2;go_quiet (fail);go_wp2;go_ret;exact⟨by rw[HZ0.out];rfl,_,by simp only[World.drewN_drewN];rfl⟩
theorem aWt(x y:Nat)(a a':Option Addr)(cap cap':Nat)(w:World)(h1:(aC x).length<=1000000)(h2:(aC y).length<=1000000)
  (hr:dT w a (gi (aC x))) (hr':dT w a' (gi (aC y))) :
  Calls prog 219 #[.slice a (aC x).length cap,.slice a' (aC y).length cap'] w fun e w'=>e=.returned (.int .i64 (bG (x:Int) (y:Int)))/\Below w.heap.size w w':=by
 by_cases he:(aC x).length=(aC y).length
 ·exact(aXu x y a a' cap cap' w h1 he hr hr').mono fun e w' ⟨h,q,hq⟩=>⟨h,by rw[hq];exact aD (Br _ _) q⟩
 ·exact(aX2 x y a a' cap cap' w h1 h2 he).mono fun e w' ⟨h,hq⟩=>⟨h,by rw[hq];exact Br _ _⟩
def aWk(n:Nat)(d:Option Addr):Prop:=∀b off,d=some ⟨b,off,none⟩->n<=b
theorem aW4{w:World}{base:Nat}{a:Option Addr}{n c:Nat}{xs:List Value}(h:w.ownsRow base 3 1 (.slice a n c) n xs):n<=c/\c<=maxLen:=by
 rcases h.2 with⟨h,hn⟩|⟨g,cap,cur,hv,_,_,h1,h2,_⟩
 ·injection h with h1 h2 h3;rw[hn,h3];exact⟨Nl _,Nat.zero_le _⟩
 ·injection hv with e1 e2 e3;rw[e3];exact⟨h1,h2⟩
theorem aWl{w:World}{base e size n:Nat}{v:Value}{xs:List Value}(h:w.ownsRow base e size v n xs)(k:Nat):(w.drewN k).ownsRow base e size v n xs:=h
theorem aYk(x y:Nat)(a a':Option Addr)(cap cap':Nat)(w:World)(h1:(aC x).length<=1000000)(h2:(aC y).length<=1000000)
  (hr:dT w a (gi (aC x))) (hr':dT w a' (gi (aC y))) :
  Calls prog 218 #[.slice a (aC x).length cap,.slice a' (aC y).length cap'] w fun e w'=>∃d c,e=.returned (.slice d (aC (x+y)).length c)/\dT w' d (gi (aC (x+y)))/\aWk w.heap.size d/\Below w.heap.size w w':=by
 have H0:=Hd (aXz x y);obtain⟨m,hm⟩:∃m,m=aC x:=⟨_,rfl⟩
 obtain⟨n,hn⟩:∃n,n=aC y:=⟨_,rfl⟩
 have HM:=Hd (show ∀g∈m,g<1000000000 by rw[hm];exact aO x);have HN:=Hd (show ∀g∈n,g<1000000000 by rw[hn];exact aO y);rw[<-hm,<-hn] at H0;rw[<-hm] at h1 hr ⊢;rw[<-hn] at h2 hr' ⊢;have HR:=Hd hr;have HR':=Hd hr';clear hr hr' hm hn;obtain⟨p,hp⟩:∃p,p=m.length:=⟨_,rfl⟩
 obtain⟨q,hq⟩:∃q,q=n.length:=⟨_,rfl⟩
 have HP:=Hd hp;have HQ:=Hd hq;rw[<-hp] at h1 ⊢;rw[<-hq] at h2 ⊢;clear hp hq;obtain⟨i0,hi,hz0,hz1,hz2⟩:=info_parts Hj;have HB1:Hid (Below w.heap.size w (w.alloc (.cells #[] 3))):=aB _ _;have HO1:Hid ((w.alloc (.cells #[] 3)).ownsRow w.heap.size 3 1 (.slice (some ⟨w.heap.size,0,none⟩) 0 0) 0 []):=World.ownsRow_made w #[] 0 (Nl _) (Nat.zero_le _) rfl;go_enter func218,ntmps218;go_wp2_with fail;go_loopw [5,6,7] (fun ov cv iv wr=>∃(k:Nat) (o:List Nat) (c:Nat),k<=max p q+1/\iv=.int .i64 (k:Int)/\cv=.int .i64 (c:Int)/\Hid (aXs x y m n k o c)/\Hid (wr.ownsRow w.heap.size 3 1 ov k (gi o))/\Hid (Below w.heap.size w wr)) (fun _ _ iv _=>max p q+1-(intOf iv).toNat)
 case atStart=>exact⟨0,[],0,Nat.zero_le _,rfl,rfl,H0,HO1,HB1⟩
 case round =>
  clear HB1 HO1 H0;obtain⟨k,o,c,hk,rfl,rfl,HS,HO,HB⟩:=hrel
  by_cases hin:k<p∨k<q∨0<c
  ·have hkx:k<=max p q:=by
    rcases hin with h|h|h
    ·omega
    ·omega
    ·rcases Nat.lt_or_ge (max p q) k with g|g
     ·have:=HS.out.2.2.2.1 (by rw[<-HP.out];omega) (by rw[<-HQ.out];omega);omega
     ·exact g
   have hc1:=HS.out.2.2.1;have HT:=Hd (aX0 HS.out HM.out HN.out);have hg1:=bV HM.out k;have hg2:=bV HN.out k;have HG1:Hid (∀W,Below w.heap.size w W->Calls prog 221 #[.slice a p cap,.int .i64 (k:Int)] W fun e w'=>e=.returned (.int .i64 ((m.getD k 0:Nat):Int))/\w'=W):=fun W hb=>by
    have h:=Mv m a cap k W (HR.out.below hb);rw[<-HP.out] at h;exact h
   have HG2:Hid (∀W,Below w.heap.size w W->Calls prog 221 #[.slice a' q cap',.int .i64 (k:Int)] W fun e w'=>e=.returned (.int .i64 ((n.getD k 0:Nat):Int))/\w'=W):=fun W hb=>by
    have h:=Mv n a' cap' k W (HR'.out.below hb);rw[<-HQ.out] at h;exact h
   have HSZ:=Hd HB.out.size;generalize m.getD k 0=g1 at *;generalize n.getD k 0=g2 at *;obtain⟨s,hs⟩:∃s,s=g1+g2+c:=⟨_,rfl⟩
   rw[<-hs] at HT;have w1:IntKind.i64.wrap ((g1:Int)+(g2:Int))=((g1+g2:Nat):Int):=by rw[IntKind.wrap_i64];omega
   have w2:IntKind.i64.wrap (((g1+g2:Nat):Int)+(c:Int))=(s:Int):=by rw[IntKind.wrap_i64];omega
   obtain⟨t,ht⟩:∃t,t=g1+g2:=⟨_,rfl⟩
   rw[<-ht] at w1 w2;obtain⟨r,hrr⟩:∃r,r=s%1000000000:=⟨_,rfl⟩
   obtain⟨u,hu⟩:∃u,u=s/1000000000:=⟨_,rfl⟩
   rw[<-hrr,<-hu] at HT;have e1:((s:Int)).tmod 1000000000=(r:Int):=by rw[hrr];rfl
   have e2:((s:Int)).tdiv 1000000000=(u:Int):=by rw[hu];rfl
   have hub:u<=2:=by omega
   have hkm:k<=1000000:=by omega
   have hsb:s<4000000000:=by omega
   clear hs ht hrr hu HS;rcases(show k<p∨(¬ k<p/\k<q)∨(¬ k<p/\¬ k<q/\(0:Int)<(c:Int)) by omega) with hi1|⟨hi1,hi2⟩|⟨hi1,hi2,hi3⟩
   all_goals
    clear hin;go_wp2_with fail;refine(HG1.out _ HB.out).mono ?_;rintro e w2 ⟨rfl,rfl⟩;go_wp2_with fail;refine(HG2.out _ HB.out).mono ?_;rintro e w2 ⟨rfl,rfl⟩;go_wp2_with (at_builtin;refine wpList_append_own_at _ rfl _ _ 187 rfl w.heap.size 3 i0 (.int .i64 0) 1 8 underlying187 hi hz0 hz1 hz2 rfl (by decide) _ _ _ rfl (HO.out.alloc _) ⟨w2.heap.size,0,none⟩ 1 1 [.int .i64 (r:Int)] rfl rfl (cell_one_new _ _ _) (by simp[Value.oneCell']) (by unfold maxLen;omega) (by omega) (by have:=HSZ.out;simp;omega) ?_);intro v' w3 hown' hgrow _ _;have HB3:=Hd (Ut (HO.out.alloc (.cells #[.int .i64 (r:Int)] 3)) hgrow (aA HB.out (aB _ _)) (by have:=HSZ.out;simp;omega));have HO3:Hid (w3.ownsRow w.heap.size 3 1 v' (k+1) (gi (o ++ [r]))):=by
     show World.ownsRow _ _ _ _ _ _ _;rw[Ct];exact hown'
    clear hgrow hown';go_wp2;go_roundw
    case rel=>exact⟨k+1,_,u,by omega,by go_num,by go_num,HT,HO3,HB3⟩
    case measure=>simp[intOf];omega
  ·obtain⟨d,c2,rfl,hrow⟩:=gK HO.out;have hcc:=aW4 HO.out;have HAB:Hid (aWk w.heap.size d):=fun b off hb=>(HO.out.lt b (by rw[hb];rfl)).1
   have hol:o.length=k:=HS.out.1;have hcut:=bAw o d c2 wr (by omega) (by have:=hcc.2;unfold maxLen at this;omega) hrow;have hend:=aX9 HS.out (by rw[<-HP.out];omega) (by rw[<-HQ.out];omega) (by omega);have HRW:Hid (dT wr d (gi (aC (x+y)))):=by
    obtain⟨z,hz⟩:=pI o;rw[hz,hend,Ct] at hrow;exact hrow.take
   rw[hend,hol] at hcut;have HCUT:=Hd hcut;obtain rfl:c=0:=by omega
   have hi1:¬ k<p:=by omega
   have hi2:¬ k<q:=by omega
   clear hcut hend hrow hol hcc HO HS hin;go_wp2_with fail;refine HCUT.out.mono ?_;rintro e w2 ⟨rfl,hb⟩;go_wp2;go_ret;exact⟨d,c2,rfl,HRW.out.below hb,HAB.out,aA HB.out hb⟩
theorem aWu(x y:Nat)(a a':Option Addr)(cap cap':Nat)(w:World)(hxy:y<=x)(h1:(aC x).length<=1000000)
  (hr:dT w a (gi (aC x))) (hr':dT w a' (gi (aC y))) :
  Calls prog 220 #[.slice a (aC x).length cap,.slice a' (aC y).length cap'] w fun e w'=>∃d c,e=.returned (.slice d (aC (x-y)).length c)/\dT w' d (gi (aC (x-y)))/\aWk w.heap.size d/\Below w.heap.size w w':=by
 have HE:=Hd (Qi (dJ x) (dJ y) (by rw[aQ,aQ];exact hxy) (bP hxy));rw[aQ,aQ] at HE;have h2:=bP hxy;obtain⟨m,hm⟩:∃m,m=aC x:=⟨_,rfl⟩
 obtain⟨n,hn⟩:∃n,n=aC y:=⟨_,rfl⟩
 have HM:=Hd (show ∀g∈m,g<1000000000 by rw[hm];exact aO x);have HN:=Hd (show ∀g∈n,g<1000000000 by rw[hn];exact aO y);rw[<-hm,<-hn] at HE;rw[<-hm] at h1 h2 hr ⊢;rw[<-hn] at h2 hr' ⊢;have HR:=Hd hr;have HR':=Hd hr';clear hr hr' hm hn;obtain⟨p,hp⟩:∃p,p=m.length:=⟨_,rfl⟩
 obtain⟨q,hq⟩:∃q,q=n.length:=⟨_,rfl⟩
 have HP:=Hd hp;have HQ:=Hd hq;rw[<-hp] at h1 h2 ⊢;rw[<-hq] at h2 ⊢;clear hp hq;obtain⟨i0,hi,hz0,hz1,hz2⟩:=info_parts Hj;have HB1:Hid (Below w.heap.size w (w.alloc (.cells #[] 3))):=aB _ _;have HO1:Hid ((w.alloc (.cells #[] 3)).ownsRow w.heap.size 3 1 (.slice (some ⟨w.heap.size,0,none⟩) 0 0) 0 []):=World.ownsRow_made w #[] 0 (Nl _) (Nat.zero_le _) rfl;go_enter func220,ntmps220;go_wp2_with fail;go_loopw [5,6,7,8] (fun ov cv iv _ wr=>∃(k:Nat) (o:List Nat) (c:Nat),k<=p/\iv=.int .i64 (k:Int)/\cv=.int .i64 (c:Int)/\c<=1/\Hid (pP m n k o c)/\Hid (wr.ownsRow w.heap.size 3 1 ov k (gi o))/\Hid (Below w.heap.size w wr)) (fun _ _ iv _ _=>p-(intOf iv).toNat)
 case atStart=>exact⟨0,[],0,Nat.zero_le _,rfl,rfl,by decide,Ds m n,HO1,HB1⟩
 case round =>
  clear HB1 HO1;obtain⟨k,o,c,hk,rfl,rfl,hc1,HS,HO,HB⟩:=hrel
  by_cases hin:k<p
  ·have hkm:k<m.length:=by have:=HP.out;omega
   have hp1:=Hd (fun h=>Kw HS.out hkm h);have hp2:=Hd (fun h=>Kx HS.out hkm h);have hg1:=bV HM.out k;have hg2:=bV HN.out k;have HG2:Hid (∀W,Below w.heap.size w W->Calls prog 221 #[.slice a' q cap',.int .i64 (k:Int)] W fun e w'=>e=.returned (.int .i64 ((n.getD k 0:Nat):Int))/\w'=W):=fun W hb=>by
    have h:=Mv n a' cap' k W (HR'.out.below hb);rw[<-HQ.out] at h;exact h
   obtain⟨b,off,rfl,_,hcell⟩:=HR.out.celli HB.out hkm;have HSZ:=Hd HB.out.size;generalize m.getD k 0=g1 at *;generalize n.getD k 0=g2 at *;obtain⟨d,hd⟩:∃d:Int,d=(g1:Int)-g2:=⟨_,rfl⟩
   obtain⟨d2,hd2⟩:∃d2:Int,d2=d-c:=⟨_,rfl⟩
   have w1:IntKind.i64.wrap ((g1:Int)-(g2:Int))=d:=by rw[IntKind.wrap_i64];omega
   have w2:IntKind.i64.wrap (d-(c:Int))=d2:=by rw[IntKind.wrap_i64];omega
   have hkk:k<=1000000:=by omega
   clear HS hkm
   by_cases hlt:g1<c+g2
   ·obtain⟨r,hrr⟩:∃r,r=g1+1000000000-(c+g2):=⟨_,rfl⟩
    have HT:=Hd (hp1.out hlt);rw[<-hrr] at HT;have w3:IntKind.i64.wrap (d2+1000000000)=(r:Int):=by rw[IntKind.wrap_i64];omega
    have hneg:d2<0:=by omega
    clear hp1 hp2 hrr hd hd2 hlt;go_wp2_with fail;go_quiet (refine Calls.quiet_of_same (HG2.out _ (by first|exact HB.out|exact aD HB.out _)));go_wp2_with (at_builtin;refine wpList_append_own_at _ rfl _ _ 187 rfl w.heap.size 3 i0 (.int .i64 0) 1 8 underlying187 hi hz0 hz1 hz2 rfl (by decide) _ _ _ rfl ((aWl HO.out _).alloc _) ⟨wr.heap.size,0,none⟩ 1 1 [.int .i64 (r:Int)] rfl rfl (cell_one_new (wr.drewN _) _ _) (by simp[Value.oneCell']) (by unfold maxLen;omega) (by omega) (by have:=HSZ.out;simp;omega) ?_);intro v' w3 hown' hgrow _ _;have HB3:=Hd (Ut ((aWl HO.out _).alloc (.cells #[.int .i64 (r:Int)] 3)) hgrow (aA (aD HB.out _) (aB _ _)) (by have:=HSZ.out;simp;omega));have HO3:Hid (w3.ownsRow w.heap.size 3 1 v' (k+1) (gi (o ++ [r]))):=by
     show World.ownsRow _ _ _ _ _ _ _;rw[Ct];exact hown'
    clear hgrow hown';go_wp2;go_roundw
    case rel=>exact⟨k+1,_,1,by omega,by go_num,rfl,Nl _,HT,HO3,HB3⟩
    case measure=>simp[intOf];omega
   ·obtain⟨r,hrr⟩:∃r,r=g1-(c+g2):=⟨_,rfl⟩
    have HT:=Hd (hp2.out hlt);rw[<-hrr] at HT;have w3:d2=(r:Int):=by omega
    subst w3;have hneg:¬ (r:Int)<0:=by omega
    clear hp1 hp2 hrr hd hd2 hlt;go_wp2_with fail;go_quiet (refine Calls.quiet_of_same (HG2.out _ (by first|exact HB.out|exact aD HB.out _)));go_wp2_with (at_builtin;refine wpList_append_own_at _ rfl _ _ 187 rfl w.heap.size 3 i0 (.int .i64 0) 1 8 underlying187 hi hz0 hz1 hz2 rfl (by decide) _ _ _ rfl ((aWl HO.out _).alloc _) ⟨wr.heap.size,0,none⟩ 1 1 [.int .i64 (r:Int)] rfl rfl (cell_one_new (wr.drewN _) _ _) (by simp[Value.oneCell']) (by unfold maxLen;omega) (by omega) (by have:=HSZ.out;simp;omega) ?_);intro v' w3 hown' hgrow _ _;have HB3:=Hd (Ut ((aWl HO.out _).alloc (.cells #[.int .i64 (r:Int)] 3)) hgrow (aA (aD HB.out _) (aB _ _)) (by have:=HSZ.out;simp;omega));have HO3:Hid (w3.ownsRow w.heap.size 3 1 v' (k+1) (gi (o ++ [r]))):=by
     show World.ownsRow _ _ _ _ _ _ _;rw[Ct];exact hown'
    clear hgrow hown';go_wp2;go_roundw
    case rel=>exact⟨k+1,_,0,by omega,by go_num,rfl,by decide,HT,HO3,HB3⟩
    case measure=>simp[intOf];omega
  ·obtain rfl:k=p:=by omega
   obtain⟨d,c2,rfl,hrow⟩:=gK HO.out;have hcc:=aW4 HO.out;have HAB:Hid (aWk w.heap.size d):=fun b off hb=>(HO.out.lt b (by rw[hb];rfl)).1
   have hol:o.length=k:=HS.out.1;have hcut:=bAw o d c2 wr (by omega) (by have:=hcc.2;unfold maxLen at this;omega) hrow;have hme:=Gx (m:=m) (n:=n) (o:=o) (c:=c) (by rw[<-HP.out];exact HS.out);have hend:fQ o=aC (x-y):=by rw[<-hme,HE.out]
   have HRW:Hid (dT wr d (gi (aC (x-y)))):=by
    obtain⟨z,hz⟩:=pI o;rw[hz,hend,Ct] at hrow;exact hrow.take
   rw[hend,hol] at hcut;have HCUT:=Hd hcut;clear hcut hme hend hrow hol hcc HO HS hin;go_wp2_with fail;refine HCUT.out.mono ?_;rintro e w2 ⟨rfl,hb⟩;go_wp2;go_ret;exact⟨d,c2,rfl,HRW.out.below hb,HAB.out,aA HB.out hb⟩
end
section
open Go Go.RowKit Num
theorem aWi{x k:Nat}(h:x<1000000000^k):(aC x).length<=k:=by
 by_cases hx:aC x=[]
 ·rw[hx];exact Nat.zero_le _
 ·have h1:=vA (dJ x) hx;rw[aQ] at h1;rcases Nat.lt_or_ge k (aC x).length with h2|h2
  ·have h3:1000000000^k<=1000000000^((aC x).length-1):=Nat.pow_le_pow_right (by decide) (by omega);omega
  ·exact h2
theorem aXc(x:Nat):x<1000000000^(aC x).length:=by
 have h:=fW (aO x)
 rwa [aQ] at h
theorem aW6(y:Nat){q:Nat}(h:q<1000000000):(aC (y*q)).length<=(aC y).length+1:=by
 refine aWi ?_;rcases Nat.eq_zero_or_pos q with h0|h0
 ·subst h0;rw[Nat.mul_zero];exact Nat.pow_pos (by decide)
 ·rw[Nat.pow_succ];exact Nat.mul_lt_mul'' (aXc y) h
theorem aW3(W:World)(g:Nat):dT (W.alloc (.cells #[.int .i64 (g:Int)] 3)) (some ⟨W.heap.size,0,none⟩) (gi [g]):=by
 have h:=heap_alloc_new W (.cells #[.int .i64 (g:Int)] 3);have:(W.alloc (.cells #[.int .i64 (g:Int)] 3)).heap[W.heap.size]?=some (.cells (gi [g] ++ []).toArray 3 (0,0)):=by rw[List.append_nil];exact h
 exact eC this
theorem aYt(W:World)(g:Nat):(W.alloc (.cells #[.int .i64 (g:Int)] 3)).ownsRow W.heap.size 3 1 (.slice (some ⟨W.heap.size,0,none⟩) 1 1) 1 (gi [g]) :=
 ⟨rfl,.inr ⟨W.heap.size,1,#[.int .i64 (g:Int)],rfl,Nl _,heap_alloc_new W _,Nl _,by unfold maxLen;omega,rfl,rfl⟩⟩
theorem oH.below{w w':World}{B:Nat}{o:List Nat}(h:oH w B o)(hb:Below w.heap.size w w'):oH w' B o:=by
 unfold oH at *;rw[<-h];exact(hb.block B (Ai.1 h).1)
theorem aW9(w:World)(ty:TypeId)(sa:Option Addr)(n cap:Nat)(hle:n<=cap)(a:Option Addr)(c:Nat):
  (Builtin.append_ #[187,187] ty #[.slice sa n cap,.slice a 0 c]).run prog w=.ok (.slice sa n cap) w:=by
 obtain⟨i0,hi,hz0,hz1,hz2⟩:=info_parts Hj;cases sa <;> cases a <;> simp[Builtin.append_,run_underlying underlying187,sizeOf,typeInfo,hi,Builtin.lenOf,Builtin.firstCells,loadCells,loadCellsFrom,storeCells,hle]
theorem aXr(W:World)(ty:TypeId)(g r:Nat)(ra:Option Addr)(rc:Nat)(hl:(aC r).length<=1000000)(hr:dT W ra (gi (aC r))):
  ∃d c w',(Builtin.append_ #[187,187] ty #[.slice (some ⟨W.heap.size,0,none⟩) 1 1,.slice ra (aC r).length rc]).run prog (W.alloc (.cells #[.int .i64 (g:Int)] 3))=.ok (.slice d (g::aC r).length c) w' /\
   dT w' d (gi (g::aC r))/\(g::aC r).length<=c/\c<=9223372036854775807/\Below W.heap.size W w'/\(∀b off,d=some ⟨b,off,none⟩->W.heap.size<=b):=by
 obtain⟨i0,hi,hz0,hz1,hz2⟩:=info_parts Hj;have hO:=aYt W g
 by_cases hn:aC r=[]
 ·rw[hn];refine⟨_,1,_,aW9 _ ty (some ⟨W.heap.size,0,none⟩) 1 1 (Nl _) ra rc,aW3 W g,Nl _,by decide,aB _ _,fun b off h=>by injection h with h;injection h with h;omega⟩
 ·obtain⟨b,off,rfl,hlt,hc⟩:=hr.addr (aEa hn);obtain⟨v',w',h1,h2,h3,_,_⟩:=run_append_own_at (P:=prog) (w:=W.alloc (.cells #[.int .i64 (g:Int)] 3)) W.heap.size 187 ty 3 i0 (.int .i64 0) 1 8 underlying187 hi hz0 hz1 hz2 rfl (by decide) _ _ _ hO ⟨b,off,none⟩ (aC r).length rc (gi (aC r)) (by simp[gi])
   (fun j u hj=>by rw[lM];exact Lib.cell?_alloc_some _ (hc j u hj)) (fun u hu=>by obtain⟨x,_,rfl⟩:=List.mem_map.1 hu;rfl) (by unfold maxLen;omega) (by omega) (by simp)
  obtain⟨d,c,rfl,hrow⟩:=gK h2;have hcc:=aW4 h2;have he:1+(aC r).length=(g::aC r).length:=by rw[List.length_cons];omega
  rw[he] at h1 hcc;refine⟨d,c,w',h1,hrow,hcc.1,by have:=hcc.2;unfold maxLen at this;omega,?_⟩;refine⟨(aB W _).grown h3 (by simp) (fun q hq=>by simp[Value.ownBlock] at hq;omega),fun b off hb=>?_⟩;exact(h2.lt b (by rw[hb];rfl)).1
theorem aXv(x y:Nat)(a a':Option Addr)(cap cap':Nat)(w:World)(h0:0<y)(h1:(aC x).length<=10000)(h2:(aC y).length<=10000)
  (hr:dT w a (gi (aC x))) (hr':dT w a' (gi (aC y))) :
  Calls prog 217 #[.slice a (aC x).length cap,.slice a' (aC y).length cap'] w fun e w'=>∃d c d2 c2,e=.returned (.tuple #[.slice d (aC (x/y)).length c,.slice d2 (aC (x%y)).length c2])/\dT w' d (gi (aC (x/y)))/\dT w' d2 (gi (aC (x%y)))/\Below w.heap.size w w':=by
 obtain⟨m,hm⟩:∃m,m=aC x:=⟨_,rfl⟩
 have HM:=Hd (show ∀g∈m,g<1000000000 by rw[hm];exact aO x);have HV:Hid (aI m=x):=by show _=_;rw[hm,aQ]
 rw[<-hm] at h1 hr ⊢;have HR:=Hd hr;have HR':=Hd hr';clear hr hr' hm;obtain⟨p,hp⟩:∃p,p=m.length:=⟨_,rfl⟩
 obtain⟨q,hq⟩:∃q,q=(aC y).length:=⟨_,rfl⟩
 have HP:=Hd hp;have HQ:=Hd hq;rw[<-hp] at h1 ⊢;rw[<-hq] at h2 ⊢;have HY:=Hd h0;clear hp hq h0;have hmk:=Qk p (by omega) w;have HS0:Hid (oV m y p (List.replicate p 0) 0):=by have:=yO m y HY.out;rw[<-HP.out] at this;exact this
 have HG0:Hid (oH ((w.alloc (.cells (uO p).toArray 3)).alloc (.cells #[] 3)) w.heap.size (List.replicate p 0)):=(oH.made w p).below (aB _ _);have HB0:Hid (Below w.heap.size w ((w.alloc (.cells (uO p).toArray 3)).alloc (.cells #[] 3))):=((Br w.heap.size w).alloc (Nl _) _).alloc (by simp) _;go_enter func217,ntmps217;go_wp2_with fail;clear hmk;go_loopw [7,8,9,10,11] (fun rv iv _ _ _ wr=>∃(k:Nat) (o:List Nat) (r:Nat) (ra:Option Addr) (rc:Nat),k<=p/\iv=.int .i64 ((k:Int)-1)/\rv=.slice ra (aC r).length rc/\Hid (oV m y k o r)/\Hid (oH wr w.heap.size o)/\Hid (dT wr ra (gi (aC r)))/\Hid (Below w.heap.size w wr)) (fun _ iv _ _ _ _=>(intOf iv+1).toNat)
 case atStart=>exact⟨p,_,0,_,_,Nl _,rfl,by rw[aT];rfl,HS0,HG0,.inl (by rw[aT];rfl),HB0⟩
 case round =>
  clear HB0 HG0 HS0;obtain⟨k,o,r,ra,rc,hk,rfl,rfl,HS,HG,HRW,HB⟩:=hrel;have hrlt:r<y:=HS.out.2.2.1;have hrlen:(aC r).length<=10000:=by have:=bP (Nat.le_of_lt hrlt);have:=HQ.out;omega
  rcases Nat.eq_zero_or_pos k with rfl|hpos
  ·have hol:o.length=p:=by rw[HS.out.1,HP.out]
   have hend:=Dk HS.out;rw[HV.out] at hend;have hcut:=bAw o (some ⟨w.heap.size,0,none⟩) p wr (by omega) (by omega) HG.out.row;rw[hend.1,hol] at hcut;have HCUT:=Hd hcut;have HRO:Hid (dT wr (some ⟨w.heap.size,0,none⟩) (gi (aC (x/y)))):=by
    obtain⟨z,hz⟩:=pI o;have h:=HG.out.row;rw[hz,hend.1,Ct] at h;exact h.take
   have HE:=hend.2;clear hcut hend hol HS HG hrlt;subst HE;go_wp2_with fail;refine HCUT.out.mono ?_;rintro e w2 ⟨rfl,hb⟩;go_wp2;go_ret2;exact⟨_,_,_,_,rfl,HRO.out.below hb,HRW.out.below hb,aA HB.out hb⟩
  ·obtain⟨j,rfl⟩:∃j,k=j+1:=⟨k-1,by omega⟩
   have hjm:j<m.length:=by have:=HP.out;omega
   obtain⟨b,off,rfl,hblt,hcell⟩:=HR.out.celli HB.out hjm;have hgl:=bV HM.out j;have HST:=Hd (Bh HS.out hjm HM.out);have HF:=Hd (aX1 hrlt hgl);have hol:o.length=p:=by rw[HS.out.1,HP.out]
   have HCC:=Hd (aYx (m.getD j 0) r hgl);generalize m.getD j 0=g at *;obtain⟨v,hv⟩:∃v,v=r*1000000000+g:=⟨_,rfl⟩
   rw[<-hv] at HST HF HCC;clear hv HS hrlt hjm;obtain⟨d,c,w2,hrun,hrow2,hc1,hc2,hb2,hnb⟩:=aXr wr 187 g r ra rc (by omega) HRW.out;have hvlen:(aC v).length<=10001:=by
    have h:=iW (g::aC r);rw[HCC.out,List.length_cons] at h;omega
   have hcut:=bAw (g::aC r) d c w2 hc1 hc2 hrow2;have hrowv:dT w2 d (gi (aC v)):=by
    obtain⟨z,hz⟩:=pI (g::aC r);rw[hz,HCC.out,Ct] at hrow2;exact hrow2.take
   rw[HCC.out] at hcut;have HCUT:=Hd hcut;have HRV:=Hd hrowv;have HG2:=Hd (HG.out.below hb2);have HB2:=Hd (aA HB.out hb2);have HRUN:=Hd hrun;have HNB:Hid (∀b off,d=some ⟨b,off,none⟩->b≠w.heap.size):=fun b off hb=>by have:=hnb b off hb;have:=HG.out.lt;omega
   clear hnb;generalize(g::aC r).length=gl at *;clear hcut hrowv hrow2 hc1 hc2 hb2 HG HRW HCC hrun;generalize(aC r).length=rl at *;obtain⟨wo,hwo⟩:∃wo,wo=wr:=⟨_,rfl⟩
   subst hwo;go_wp2_with (at_builtin;refine Lib.wpList_append_run _ rfl _ _ _ _ rfl _ _ rfl rfl _ _ HRUN.out ?_);refine HCUT.out.mono ?_;rintro e w3 ⟨rfl,hb3⟩;have HG3:=Hd (HG2.out.below hb3);have HB3:=Hd (aA HB2.out hb3);have HRV3:=Hd (HRV.out.below hb3);clear hb3 HG2 HB2 HRV HCUT HRUN;go_wp2_with fail;go_loopw [9,10,11] (fun lo hi _ wr=>∃(low high:Nat),lo=.int .i64 (low:Int)/\hi=.int .i64 (high:Int)/\low<=high/\high<1000000000/\Hid (aXf v y low high)/\Hid (oH wr w.heap.size o)/\Hid (dT wr d (gi (aC v)))/\Hid (Below w.heap.size w wr)) (fun lo hi _ _=>(intOf hi-intOf lo).toNat)
   case atStart=>exact⟨0,999999999,rfl,rfl,by omega,by omega,HF,HG3,HRV3,HB3⟩
   case round =>
    clear HF HG3 HRV3 HB3;obtain⟨low,high,rfl,rfl,hlh,hhb,HF,HG,HRV,HB⟩:=hrel
    by_cases hlt:low<high
    ·obtain⟨mid,hmid⟩:∃mid,mid=(low+high+1)/2:=⟨_,rfl⟩
     have HUP:=Hd (fun h=>HF.out.up hmid hlt h);have HDN:=Hd (fun h=>HF.out.down hmid hlt h);have hm1:low<mid/\mid<=high:=by omega
     have w1:IntKind.i64.wrap ((low:Int)+(high:Int))=((low+high:Nat):Int):=by rw[IntKind.wrap_i64];omega
     have w2:IntKind.i64.wrap (((low+high:Nat):Int)+1)=((low+high+1:Nat):Int):=by rw[IntKind.wrap_i64];omega
     have e2:(((low+high+1:Nat):Int)).tdiv 2=(mid:Int):=by rw[hmid];rfl
     have hs1:low+high+1<4000000000:=by omega
     obtain⟨s1,hs1e⟩:∃s1,s1=low+high:=⟨_,rfl⟩
     obtain⟨s2,hs2e⟩:∃s2,s2=low+high+1:=⟨_,rfl⟩
     rw[<-hs2e] at w2 e2 hs1;rw[<-hs1e] at w1 w2;have hone:=aWo (q:=mid) (by omega) (by omega);have HT:Hid (∀c,Calls prog 167 #[.slice a' q cap',.slice (some ⟨wr.heap.size,0,none⟩) 1 c] (wr.alloc (.cells #[.int .i64 (mid:Int)] 3)) fun e w'=>∃a5 c5,e=.returned (.slice a5 (aC (y*mid)).length c5)/\dT w' a5 (gi (aC (y*mid)))/\Below wr.heap.size wr w'):=fun c=>by
      have hro:=aW3 wr mid;have hrb:=HR'.out.below (aA HB.out (aB wr (.cells #[.int .i64 (mid:Int)] 3)));rw[<-hone] at hro;have h:=Mp y mid a' (some ⟨wr.heap.size,0,none⟩) cap' c (wr.alloc (.cells #[.int .i64 (mid:Int)] 3)) (by have:=HQ.out;omega) (by rw[hone];simp) hrb hro;rw[<-HQ.out,hone] at h;exact h.mono fun e w' ⟨c,e1,e2,e3⟩=>⟨_,c,e1,e2,aA (aB wr _) e3⟩
     have hml:(aC (y*mid)).length<=1000000:=by have:=aW6 y (q:=mid) (by omega);have:=HQ.out;omega
     have HO:=Hd (fun a5 c5 W (hb:Below wr.heap.size wr W) hra=>aWt (y*mid) v a5 d c5 c W hml (by omega) hra (HRV.out.below hb));rw[aWr] at HO;clear hone hml hmid hs1e hs2e HF
     by_cases hle:y*mid<=v
     ·have HU:=Hd (HUP.out hle);have hz:(if y*mid<v then(-1:Int) else if v<y*mid then 1 else 0)<=0:=by
       split
       ·decide
       ·rw[if_neg (by omega)];exact Int.le_refl 0
      generalize(if y*mid<v then(-1:Int) else if v<y*mid then 1 else 0)=z at *;clear hle HUP HDN;generalize aC (y*mid)=gm at *;go_wp2_with fail;refine(HT.out _).mono ?_;rintro e w5 ⟨a5,c5,rfl,hr5,hb5⟩;have HO5:=Hd (HO.out a5 c5 w5 hb5 hr5);have HB5:=Hd (aA HB.out hb5);have HG5:=Hd (HG.out.below hb5);have HRV5:=Hd (HRV.out.below hb5);clear hr5 hb5 HT HO;generalize gm.length=gml at *;go_wp2_with fail;refine HO5.out.mono ?_;rintro e w6 ⟨rfl,hb6⟩;have HB6:=Hd (aA HB5.out hb6);have HG6:=Hd (HG5.out.below hb6);have HRV6:=Hd (HRV5.out.below hb6);clear hb6 HO5 HB5 HG5 HRV5 HB HG HRV;go_wp2;go_roundw
      case rel=>exact⟨mid,high,rfl,rfl,by omega,hhb,HU,HG6,HRV6,HB6⟩
      case measure=>simp[intOf];omega
     ·have HU:=Hd (HDN.out hle);have hz:¬ (if y*mid<v then(-1:Int) else if v<y*mid then 1 else 0)<=0:=by
       rw[if_neg (by omega),if_pos (by omega)];decide
      generalize(if y*mid<v then(-1:Int) else if v<y*mid then 1 else 0)=z at *;clear hle HUP HDN;generalize aC (y*mid)=gm at *;go_wp2_with fail;refine(HT.out _).mono ?_;rintro e w5 ⟨a5,c5,rfl,hr5,hb5⟩;have HO5:=Hd (HO.out a5 c5 w5 hb5 hr5);have HB5:=Hd (aA HB.out hb5);have HG5:=Hd (HG.out.below hb5);have HRV5:=Hd (HRV.out.below hb5);clear hr5 hb5 HT HO;generalize gm.length=gml at *;go_wp2_with fail;refine HO5.out.mono ?_;rintro e w6 ⟨rfl,hb6⟩;have HB6:=Hd (aA HB5.out hb6);have HG6:=Hd (HG5.out.below hb6);have HRV6:=Hd (HRV5.out.below hb6);clear hb6 HO5 HB5 HG5 HRV5 HB HG HRV;go_wp2;go_roundw
      case rel=>exact⟨low,mid-1,rfl,by go_num,by omega,by omega,HU,HG6,HRV6,HB6⟩
      case measure=>simp[intOf];omega
    ·obtain rfl:low=high:=by omega
     have hq2:=HF.out.stop HY.out;have hjo:j<o.length:=by omega
     have hfr:=HG.out.frozen j;have hgo:=HG.out.cell hjo;have HST2:=HST.out;rw[<-hq2] at HST2;have hmr:v%y=v-y*low:=by rw[hq2];have:=Nat.div_add_mod v y;omega
     have hle:y*low<=v:=HF.out.2.2.1;have HST3:=Hd HST2;rw[hmr] at HST3;generalize o.getD j 0=go at *;have hloB:low<1000000000:=by omega
     clear HST2 hmr hq2 HST hlt hjo hhb hlh;have HG7:=Hd (HG.out.set j low rfl);have HB7:=Hd (HB.out.setCell (p:=⟨w.heap.size,j,none⟩) (Nl _) (.int .i64 (low:Int)));have HRV7:=Hd (HRV.out.setCell (p:=⟨w.heap.size,j,none⟩) (fun b off hb=>HNB.out b off hb) (.int .i64 (low:Int)));obtain⟨W7,hW7⟩:∃W7,W7=wr.setCell ⟨w.heap.size,j,none⟩ (.int .i64 (low:Int)):=⟨_,rfl⟩
     rw[<-hW7] at HG7 HB7 HRV7;have hsz7:W7.heap.size=wr.heap.size:=by rw[hW7];simp[World.setCell]
     have hjp:(j:Int)<(p:Int):=by omega
     by_cases hz:0<low
     ·have hone:=aWo hz hloB;have HT:Hid (∀c,Calls prog 167 #[.slice a' q cap',.slice (some ⟨wr.heap.size,0,none⟩) 1 c] (W7.alloc (.cells #[.int .i64 (low:Int)] 3)) fun e w'=>∃a5 c5,e=.returned (.slice a5 (aC (y*low)).length c5)/\dT w' a5 (gi (aC (y*low)))/\Below W7.heap.size W7 w'):=fun c=>by
       rw[<-hsz7];have hro:=aW3 W7 low;have hrb:=HR'.out.below (aA HB7.out (aB W7 (.cells #[.int .i64 (low:Int)] 3)));rw[<-hone] at hro;have h:=Mp y low a' (some ⟨W7.heap.size,0,none⟩) cap' c (W7.alloc (.cells #[.int .i64 (low:Int)] 3)) (by have:=HQ.out;omega) (by rw[hone];simp) hrb hro;rw[<-HQ.out,hone] at h;exact h.mono fun e w' ⟨c,e1,e2,e3⟩=>⟨_,c,e1,e2,aA (aB W7 _) e3⟩
      have HM7:=Hd (fun a5 c5 W (hb:Below W7.heap.size W7 W) hra=>aWu v (y*low) d a5 c c5 W hle (by omega) (HRV7.out.below hb) hra);clear hone hle HF HG HRV HB HRV7 hsz7;generalize v-y*low=r2 at *;generalize aC (y*low)=gm at *;generalize(aC v).length=lv at *;go_wp2_with fail;rw[<-hW7];clear hW7;refine(HT.out _).mono ?_;rintro e w8 ⟨a5,c5,rfl,hr5,hb5⟩;have HM8:=Hd (HM7.out a5 c5 w8 hb5 hr5);have HB8:=Hd (aA HB7.out hb5);have HG8:=Hd (HG7.out.below hb5);clear hr5 hb5 HT HM7 HB7 HG7;generalize gm.length=gml at *;go_wp2_with fail;refine HM8.out.mono ?_;rintro e w9 ⟨d9,c9,rfl,hr9,_,hb9⟩;have HB9:=Hd (aA HB8.out hb9);have HG9:=Hd (HG8.out.below hb9);have HR9:=Hd hr9;clear hr9 hb9 HM8 HB8 HG8;go_wp2;go_roundw
      case rel=>exact⟨j,_,r2,d9,c9,by omega,by go_num,rfl,HST3,HG9,HR9,HB9⟩
      case measure=>simp[intOf]
     ·obtain rfl:low=0:=by omega
      rw[Nat.mul_zero,Nat.sub_zero] at HST3;clear hsz7;subst hW7;clear hle HF HG HRV HB hz;go_wp2_with fail;go_roundw
      case rel=>exact⟨j,_,v,d,c,by omega,by go_num,rfl,HST3,HG7,HRV7,HB7⟩
      case measure=>simp[intOf]
end
section
open Go Go.RowKit Num
def sgi(n:Bool)(x:Nat):Int:=if n=true then -(x:Int) else(x:Int)
def aXa(n1 n2:Bool)(x y:Nat):Bool×Nat:=if n1=n2 then(n1,x+y) else if y<=x then(n1,x-y) else(n2,y-x)
theorem aXl(n1 n2:Bool)(x y:Nat)(a a':Option Addr)(cap cap':Nat)(w:World)(h1:(aC x).length<=1000000)(h2:(aC y).length<=1000000)
  (hr:dT w a (gi (aC x))) (hr':dT w a' (gi (aC y))) :
  Calls prog 159 #[.agg #[.bool n1,.slice a (aC x).length cap],.agg #[.bool n2,.slice a' (aC y).length cap']] w fun e w'=>∃d c,e=.returned (.agg #[.bool (aXa n1 n2 x y).1,.slice d (aC (aXa n1 n2 x y).2).length c])/\dT w' d (gi (aC (aXa n1 n2 x y).2))/\aWk w.heap.size d/\Below w.heap.size w w':=by
 have HX1:Hid (aP (((w.alloc (.cells #[.bool n1,.slice a (aC x).length cap] 189)).alloc (.cells #[.bool n2,.slice a' (aC y).length cap'] 189)).alloc (.cells #[.bool false,.slice none 0 0] 189)) w.heap.size #[.bool n1,.slice a (aC x).length cap] 189):=((aP.new0 w _ _).below (aB _ _)).below (aB _ _);have HX2:Hid (aP (((w.alloc (.cells #[.bool n1,.slice a (aC x).length cap] 189)).alloc (.cells #[.bool n2,.slice a' (aC y).length cap'] 189)).alloc (.cells #[.bool false,.slice none 0 0] 189)) (w.heap.size+1) #[.bool n2,.slice a' (aC y).length cap'] 189):=by
  have h:=(aP.new0 (w.alloc (.cells #[.bool n1,.slice a (aC x).length cap] 189)) #[.bool n2,.slice a' (aC y).length cap'] 189).below (aB _ (.cells #[.bool false,.slice none 0 0] 189));rw[World.size_alloc] at h;exact h
 have HX3:Hid (aP (((w.alloc (.cells #[.bool n1,.slice a (aC x).length cap] 189)).alloc (.cells #[.bool n2,.slice a' (aC y).length cap'] 189)).alloc (.cells #[.bool false,.slice none 0 0] 189)) (w.heap.size+2) #[.bool false,.slice none 0 0] 189):=by
  have h:=aP.new0 ((w.alloc (.cells #[.bool n1,.slice a (aC x).length cap] 189)).alloc (.cells #[.bool n2,.slice a' (aC y).length cap'] 189)) #[.bool false,.slice none 0 0] 189;rw[World.size_alloc,World.size_alloc] at h;exact h
 have HB:Hid (Below w.heap.size w (((w.alloc (.cells #[.bool n1,.slice a (aC x).length cap] 189)).alloc (.cells #[.bool n2,.slice a' (aC y).length cap'] 189)).alloc (.cells #[.bool false,.slice none 0 0] 189))):=(((Br _ _).alloc (Nl _) _).alloc (by simp) _).alloc (by simp;omega) _;obtain⟨W4,hW4⟩:∃W4,W4=(((w.alloc (.cells #[.bool n1,.slice a (aC x).length cap] 189)).alloc (.cells #[.bool n2,.slice a' (aC y).length cap'] 189)).alloc (.cells #[.bool false,.slice none 0 0] 189)):=⟨_,rfl⟩
 rw[<-hW4] at HX1 HX2 HX3 HB;have k0:W4.cell? ⟨w.heap.size,0,none⟩=some (.bool n1):=HX1.out.cell 0;have k1:W4.cell? ⟨w.heap.size,1,none⟩=some (.slice a (aC x).length cap):=HX1.out.cell 1;have k2:W4.cell? ⟨w.heap.size+1,0,none⟩=some (.bool n2):=HX2.out.cell 0;have k3:W4.cell? ⟨w.heap.size+1,1,none⟩=some (.slice a' (aC y).length cap'):=HX2.out.cell 1;have k4:W4.cell? ⟨w.heap.size+2,0,none⟩=some (.bool false):=HX3.out.cell 0;have k5:W4.cell? ⟨w.heap.size+2,1,none⟩=some (.slice none 0 0):=HX3.out.cell 1;have f4:W4.frozen? ⟨w.heap.size+2,0,none⟩=false:=aR HX3.out.2 0;have f5:W4.frozen? ⟨w.heap.size+2,1,none⟩=false:=aR HX3.out.2 1;have HRA:=Hd (hr.below HB.out);have HRB:=Hd (hr'.below HB.out);clear hr hr'
 by_cases hn:n1=n2
 ·subst hn;have hadd:aXa n1 n1 x y=(n1,x+y):=by unfold aXa;rw[if_pos rfl]
  rw[hadd];have HT:Hid (∀n,Calls prog 218 #[.slice a (aC x).length cap,.slice a' (aC y).length cap'] (W4.drewN n) fun e w'=>∃d c,e=.returned (.slice d (aC (x+y)).length c)/\dT w' d (gi (aC (x+y)))/\aWk W4.heap.size d/\Below W4.heap.size W4 w'):=fun n =>
   (aYk x y a a' cap cap' (W4.drewN n) h1 h2 (HRA.out.below (aD (Br _ _) n)) (HRB.out.below (aD (Br _ _) n))).mono fun e w' ⟨d,c,e1,e2,e4,e3⟩=>⟨d,c,e1,e2,e4,(aD (Br _ _) n).trans e3⟩
  clear HRA HRB hadd h1 h2;generalize x+y=z at *;generalize(aC x).length=lx at *;generalize(aC y).length=ly at *;go_enter func159,ntmps159;go_wp2_with fail;rw[<-hW4];clear hW4;go_region_with (go_at_call 218;refine(HT.out 1).mono ?_;rintro e w5 ⟨a5,c5,rfl,hr5,ha5,hb5⟩;have HA5:Hid (∀b off,a5=some ⟨b,off,none⟩->b≠w.heap.size+2):=(fun b off hb=>by have:=ha5 b off hb;have:=HX3.out.1;omega);have HA6:Hid (aWk w.heap.size a5):=(fun b off hb=>by have:=ha5 b off hb;have:=HB.out.size;omega);have k0:=(HX1.out.below hb5).cell 0;have k1:=(HX1.out.below hb5).cell 1;have k3:=(HX2.out.below hb5).cell 1;have k4:=(HX3.out.below hb5).cell 0;have k5:=(HX3.out.below hb5).cell 1;have f4:=aR (HX3.out.below hb5).2 0;have f5:=aR (HX3.out.below hb5).2 1;have HX5:=Hd (HX3.out.below hb5);have HR5:=Hd hr5;have HB6:=Hd (aA HB.out hb5);clear hr5 hb5 ha5)
  all_goals
   go_wp2_with fail;refine bodyPost_ret (v:=.agg #[.bool n1,.slice a5 (aC z).length c5]) (by simp[results,results159,go_sem,k4,k5]) rfl ⟨a5,c5,rfl,?_,?_,?_⟩
   ·exact(HR5.out.setCell (p:=⟨w.heap.size+2,0,none⟩) (fun b off hb=>HA5.out b off hb) _).setCell (p:=⟨w.heap.size+2,1,none⟩) (fun b off hb=>HA5.out b off hb) _
   ·exact HA6.out
   ·exact(HB6.out.setCell (p:=⟨w.heap.size+2,0,none⟩) (by show _<=w.heap.size+2;omega) _).setCell (p:=⟨w.heap.size+2,1,none⟩) (by show _<=w.heap.size+2;omega) _
 by_cases hle:y<=x
 ·have hadd:aXa n1 n2 x y=(n1,x-y):=by unfold aXa;rw[if_neg hn,if_pos hle]
  rw[hadd];have hnb:(n1==n2)=false:=by simpa using hn
  have hz0:0<=bG (x:Int) (y:Int):=by rw[aWr];split <;> (try split) <;> omega
  have HO:Hid (Calls prog 219 #[.slice a (aC x).length cap,.slice a' (aC y).length cap'] W4 fun e w'=>e=.returned (.int .i64 (bG (x:Int) (y:Int)))/\Below W4.heap.size W4 w'):=aWt x y a a' cap cap' W4 h1 h2 HRA.out HRB.out;have HT:Hid (∀W n,Below W4.heap.size W4 W->Calls prog 220 #[.slice a (aC x).length cap,.slice a' (aC y).length cap'] (W.drewN n) fun e w'=>∃d c,e=.returned (.slice d (aC (x-y)).length c)/\dT w' d (gi (aC (x-y)))/\aWk W.heap.size d/\Below W.heap.size W w'):=fun W n hb =>
   (aWu x y a a' cap cap' (W.drewN n) hle h1 ((HRA.out.below hb).below (aD (Br _ _) n)) ((HRB.out.below hb).below (aD (Br _ _) n))).mono fun e w' ⟨d,c,e1,e2,e4,e3⟩=>⟨d,c,e1,e2,e4,(aD (Br _ _) n).trans e3⟩
  clear HRA HRB hadd h1 h2 hn hle;generalize x-y=z at *;generalize bG (x:Int) (y:Int)=cz at *;generalize(aC x).length=lx at *;generalize(aC y).length=ly at *;go_enter func159,ntmps159;go_wp2_with fail;rw[<-hW4];clear hW4;refine HO.out.mono ?_;rintro e w5 ⟨rfl,hb⟩;have HB5:=Hd (aA HB.out hb);have k0:=(HX1.out.below hb).cell 0;have k1:=(HX1.out.below hb).cell 1;have k2:=(HX2.out.below hb).cell 0;have k3:=(HX2.out.below hb).cell 1;have k4:=(HX3.out.below hb).cell 0;have k5:=(HX3.out.below hb).cell 1;have f4:=aR (HX3.out.below hb).2 0;have f5:=aR (HX3.out.below hb).2 1;have HY1:=Hd (HX1.out.below hb);have HY2:=Hd (HX2.out.below hb);have HY3:=Hd (HX3.out.below hb);have HTT:=Hd (fun n=>HT.out w5 n hb);clear HX1 HX2 HX3 HB HT HO hb;go_wp2_with fail;go_region_with (go_at_call 220;refine(HTT.out 1).mono ?_;rintro e w6 ⟨a5,c5,rfl,hr5,ha5,hb5⟩;have HA5:Hid (∀b off,a5=some ⟨b,off,none⟩->b≠w.heap.size+2):=(fun b off hb=>by have:=ha5 b off hb;have:=HY3.out.1;omega);have HA6:Hid (aWk w.heap.size a5):=(fun b off hb=>by have:=ha5 b off hb;have:=HB5.out.size;omega);have k0:=(HY1.out.below hb5).cell 0;have k1:=(HY1.out.below hb5).cell 1;have k2:=(HY2.out.below hb5).cell 0;have k3:=(HY2.out.below hb5).cell 1;have k4:=(HY3.out.below hb5).cell 0;have k5:=(HY3.out.below hb5).cell 1;have f4:=aR (HY3.out.below hb5).2 0;have f5:=aR (HY3.out.below hb5).2 1;have HX5:=Hd (HY3.out.below hb5);have HR5:=Hd hr5;have HB6:=Hd (aA HB5.out hb5);clear hr5 hb5 ha5)
  all_goals
   go_wp2_with fail;refine bodyPost_ret (v:=.agg #[.bool n1,.slice a5 (aC z).length c5]) (by simp[results,results159,go_sem,k4,k5]) rfl ⟨a5,c5,rfl,?_,?_,?_⟩
   ·exact(HR5.out.setCell (p:=⟨w.heap.size+2,0,none⟩) (fun b off hb=>HA5.out b off hb) _).setCell (p:=⟨w.heap.size+2,1,none⟩) (fun b off hb=>HA5.out b off hb) _
   ·exact HA6.out
   ·exact(HB6.out.setCell (p:=⟨w.heap.size+2,0,none⟩) (by show _<=w.heap.size+2;omega) _).setCell (p:=⟨w.heap.size+2,1,none⟩) (by show _<=w.heap.size+2;omega) _
 ·have hadd:aXa n1 n2 x y=(n2,y-x):=by unfold aXa;rw[if_neg hn,if_neg hle]
  rw[hadd];have hnb:(n1==n2)=false:=by simpa using hn
  have hz0:¬ 0<=bG (x:Int) (y:Int):=by rw[aWr];rw[if_pos (by omega)];decide
  have HO:Hid (Calls prog 219 #[.slice a (aC x).length cap,.slice a' (aC y).length cap'] W4 fun e w'=>e=.returned (.int .i64 (bG (x:Int) (y:Int)))/\Below W4.heap.size W4 w'):=aWt x y a a' cap cap' W4 h1 h2 HRA.out HRB.out;have HT:Hid (∀W n,Below W4.heap.size W4 W->Calls prog 220 #[.slice a' (aC y).length cap',.slice a (aC x).length cap] (W.drewN n) fun e w'=>∃d c,e=.returned (.slice d (aC (y-x)).length c)/\dT w' d (gi (aC (y-x)))/\aWk W.heap.size d/\Below W.heap.size W w'):=fun W n hb =>
   (aWu y x a' a cap' cap (W.drewN n) (by omega) h2 ((HRB.out.below hb).below (aD (Br _ _) n)) ((HRA.out.below hb).below (aD (Br _ _) n))).mono fun e w' ⟨d,c,e1,e2,e4,e3⟩=>⟨d,c,e1,e2,e4,(aD (Br _ _) n).trans e3⟩
  clear HRA HRB hadd h1 h2 hn hle;generalize y-x=z at *;generalize bG (x:Int) (y:Int)=cz at *;generalize(aC x).length=lx at *;generalize(aC y).length=ly at *;go_enter func159,ntmps159;go_wp2_with fail;rw[<-hW4];clear hW4;refine HO.out.mono ?_;rintro e w5 ⟨rfl,hb⟩;have HB5:=Hd (aA HB.out hb);have k0:=(HX1.out.below hb).cell 0;have k1:=(HX1.out.below hb).cell 1;have k2:=(HX2.out.below hb).cell 0;have k3:=(HX2.out.below hb).cell 1;have k4:=(HX3.out.below hb).cell 0;have k5:=(HX3.out.below hb).cell 1;have f4:=aR (HX3.out.below hb).2 0;have f5:=aR (HX3.out.below hb).2 1;have HY1:=Hd (HX1.out.below hb);have HY2:=Hd (HX2.out.below hb);have HY3:=Hd (HX3.out.below hb);have HTT:=Hd (fun n=>HT.out w5 n hb);clear HX1 HX2 HX3 HB HT HO hb;go_wp2_with fail;go_region_with (go_at_call 220;refine(HTT.out 1).mono ?_;rintro e w6 ⟨a5,c5,rfl,hr5,ha5,hb5⟩;have HA5:Hid (∀b off,a5=some ⟨b,off,none⟩->b≠w.heap.size+2):=(fun b off hb=>by have:=ha5 b off hb;have:=HY3.out.1;omega);have HA6:Hid (aWk w.heap.size a5):=(fun b off hb=>by have:=ha5 b off hb;have:=HB5.out.size;omega);have k0:=(HY1.out.below hb5).cell 0;have k1:=(HY1.out.below hb5).cell 1;have k2:=(HY2.out.below hb5).cell 0;have k3:=(HY2.out.below hb5).cell 1;have k4:=(HY3.out.below hb5).cell 0;have k5:=(HY3.out.below hb5).cell 1;have f4:=aR (HY3.out.below hb5).2 0;have f5:=aR (HY3.out.below hb5).2 1;have HX5:=Hd (HY3.out.below hb5);have HR5:=Hd hr5;have HB6:=Hd (aA HB5.out hb5);clear hr5 hb5 ha5)
  all_goals
   go_wp2_with fail;refine bodyPost_ret (v:=.agg #[.bool n2,.slice a5 (aC z).length c5]) (by simp[results,results159,go_sem,k4,k5]) rfl ⟨a5,c5,rfl,?_,?_,?_⟩
   ·exact(HR5.out.setCell (p:=⟨w.heap.size+2,0,none⟩) (fun b off hb=>HA5.out b off hb) _).setCell (p:=⟨w.heap.size+2,1,none⟩) (fun b off hb=>HA5.out b off hb) _
   ·exact HA6.out
   ·exact(HB6.out.setCell (p:=⟨w.heap.size+2,0,none⟩) (by show _<=w.heap.size+2;omega) _).setCell (p:=⟨w.heap.size+2,1,none⟩) (by show _<=w.heap.size+2;omega) _
end
section
open Go Go.RowKit Num
def big:Nat:=10^40
theorem aW8{x:Nat}(h:x<big):(aC x).length<=5:=aWi (Nat.lt_of_lt_of_le h (by decide))
theorem aXi{z:Int}(h:z.natAbs<big):(aJ z).length<=41:=gC (K:=40) (by decide) h
theorem bBp{n:Nat}(h:n<100000000000000000):n<big:=Nat.lt_of_lt_of_le h (by decide)
theorem aXt(l:List UInt8)(w:World)(hl:l.length<=9000000000000000000)(hs:17<(aZ l).length):
  Calls prog 156 #[.string ⟨l.toArray⟩] w fun e w'=>e=.returned (.tuple #[.int .i64 0,.bool false])/\w=w':=by
 have H:=Hd (fR l w hl);generalize aZ l=d at *;generalize dD l=ng at *;go_enter func156,ntmps156;go_wp2_with fail;refine H.out.mono ?_;rintro e w1 ⟨rfl,rfl⟩;clear H;have hs1:(17:Int)<d.length:=by omega
 go_wp2;go_ret2;exact⟨rfl,rfl⟩
theorem aWp(l:List UInt8)(hl:l.length<=1000):∃(v:Int) (b:Bool),(∀W,Calls prog 156 #[.string ⟨l.toArray⟩] W fun e w'=>e=.returned (.tuple #[.int .i64 v,.bool b])/\W=w')/\(b=true->v=val l/\(val l).natAbs<100000000000000000):=by
 by_cases h:(aZ l).length<=17
 ·refine⟨val l,true,fun W=>gU l W (by omega) h,fun _=>⟨rfl,?_⟩⟩;have h1:=mR _ (fD l);rw[tN] at h1;have h2:10^(aZ l).length<=10^17:=Nat.pow_le_pow_right (by decide) h;omega
 ·exact⟨0,false,fun W=>aXt l W (by omega) (by omega),fun h=>by cases h⟩
theorem aY1(l:List UInt8):sgi (dD l) (bK (aZ l))=val l:=rfl
theorem aWa(ng:Bool)(x:Nat)(z:Int)(hz:sgi ng x=z)(a:Option Addr)(cap:Nat)(w:World)(hl:(aC x).length<=6)(hr:dT w a (gi (aC x))):
  Calls prog 158 #[.agg #[.bool ng,.slice a (aC x).length cap]] w fun e w'=>e=.returned (.string ⟨(aJ z).toArray⟩)/\Below w.heap.size w w':=by
 subst hz;exact Mo ng x a cap w hl hr
theorem aXj(l m:List UInt8)(w:World)(hl:l.length<=1000)(hm:m.length<=1000)(h1:(val l).natAbs<big)(h2:(val m).natAbs<big)(h3:(val l*val m).natAbs<big):
  Calls prog 115 #[.string ⟨l.toArray⟩,.string ⟨m.toArray⟩] w fun e w'=>e=.returned (.string ⟨(aJ (val l*val m)).toArray⟩)/\Below w.heap.size w w':=by
 obtain⟨vx,bl,S1,T1⟩:=aWp l hl;obtain⟨vy,bm,S2,T2⟩:=aWp m hm
 by_cases hb:bl=true/\bm=true
 ·exact Ja l m w hl hm (T1 hb.1).2 (T2 hb.2).2
 have H1:=Hd S1;have H2:=Hd S2;clear S1 S2 T1 T2;have H3:=Hd (fun W=>Dd l W (by omega));have H4:=Hd (fun W=>Dd m W (by omega));have ex:=tN l;have ey:=tN m;have hg1:=aW8 (x:=bK (aZ l)) (by omega);have hg2:=aW8 (x:=bK (aZ m)) (by omega);have HSG:=Hd (Ub (dD l) (dD m) (bK (aZ l)) (bK (aZ m)));rw[<-vR,<-vR] at HSG;have hg3:(aC (bK (aZ l)*bK (aZ m))).length<=6:=by
  have h:=aW8 (x:=bK (aZ l)*bK (aZ m)) (by rw[ex,ey,<-Int.natAbs_mul];exact h3);omega
 obtain⟨r,hr⟩:∃r,r=aJ (val l*val m):=⟨_,rfl⟩
 rw[<-hr];have HW:Hid (∀a c W,dT W a (gi (aC (bK (aZ l)*bK (aZ m))))->Calls prog 158 #[.agg #[.bool (dD l != dD m),.slice a (aC (bK (aZ l)*bK (aZ m))).length c]] W fun e w'=>e=.returned (.string ⟨r.toArray⟩)/\Below W.heap.size W w'):=fun a c W h=>by
  have h3:=Mo (dD l != dD m) (bK (aZ l)*bK (aZ m)) a c W hg3 h;rw[HSG.out,<-hr] at h3;exact h3
 have HT:=Hd (fun a a' c c' W hra hrb=>Mp (bK (aZ l)) (bK (aZ m)) a a' c c' W (by omega) (by omega) hra hrb);have hk:bl=false∨(bl=true/\bm=false):=by cases bl <;> cases bm <;> simp at hb ⊢
 clear HSG hg1 hg2 hg3 hr h1 h2 h3 hb ex ey;generalize bK (aZ l)*bK (aZ m)=xy at *;generalize bK (aZ l)=x at *;generalize bK (aZ m)=y at *;generalize dD l=nl at *;generalize dD m=nm at *;go_enter func115,ntmps115;go_wp2_with fail;refine(H1.out _).mono ?_;rintro e w1 ⟨rfl,rfl⟩;go_wp2_with fail;refine(H2.out _).mono ?_;rintro e w1 ⟨rfl,rfl⟩;rcases hk with rfl|⟨rfl,rfl⟩
 all_goals
  go_wp2_with fail;refine(H3.out _).mono ?_;rintro e w2 ⟨a1,cp1,rfl,hr1,hb1⟩;have HB1:=Hd hb1;have HR1:=Hd hr1;clear hb1 hr1;go_wp2_with fail;refine(H4.out _).mono ?_;rintro e w3 ⟨a2,cp2,rfl,hr2,hb2⟩;have HR1':=Hd (HR1.out.below hb2);have HB2:=Hd (aA HB1.out hb2);have HR2:=Hd hr2;clear hb2 hr2 HR1 HB1;have HX1:Hid (aP ((w3.alloc (.cells #[.bool nl,.slice a1 (aC x).length cp1] 189)).alloc (.cells #[.bool nm,.slice a2 (aC y).length cp2] 189)) w3.heap.size #[.bool nl,.slice a1 (aC x).length cp1] 189):=(aP.new0 w3 _ _).below (aB _ _);have HX2:Hid (aP ((w3.alloc (.cells #[.bool nl,.slice a1 (aC x).length cp1] 189)).alloc (.cells #[.bool nm,.slice a2 (aC y).length cp2] 189)) (w3.heap.size+1) #[.bool nm,.slice a2 (aC y).length cp2] 189):=by
   have h:=aP.new0 (w3.alloc (.cells #[.bool nl,.slice a1 (aC x).length cp1] 189)) #[.bool nm,.slice a2 (aC y).length cp2] 189;rw[World.size_alloc] at h;exact h
  have HB4:Hid (Below w3.heap.size w3 ((w3.alloc (.cells #[.bool nl,.slice a1 (aC x).length cp1] 189)).alloc (.cells #[.bool nm,.slice a2 (aC y).length cp2] 189))):=((Br _ _).alloc (Nl _) _).alloc (by simp) _;obtain⟨W4,hW4⟩:∃W4,W4=(w3.alloc (.cells #[.bool nl,.slice a1 (aC x).length cp1] 189)).alloc (.cells #[.bool nm,.slice a2 (aC y).length cp2] 189):=⟨_,rfl⟩
  rw[<-hW4] at HX1 HX2 HB4;have k0:W4.cell? ⟨w3.heap.size,0,none⟩=some (.bool nl):=HX1.out.cell 0;have k1:W4.cell? ⟨w3.heap.size,1,none⟩=some (.slice a1 (aC x).length cp1):=HX1.out.cell 1;have k2:W4.cell? ⟨w3.heap.size+1,0,none⟩=some (.bool nm):=HX2.out.cell 0;have k3:W4.cell? ⟨w3.heap.size+1,1,none⟩=some (.slice a2 (aC y).length cp2):=HX2.out.cell 1;have HRA:=Hd (HR1'.out.below HB4.out);have HRB:=Hd (HR2.out.below HB4.out);have HB5:=Hd (aA HB2.out HB4.out);have HT2:Hid (∀n,Calls prog 167 #[.slice a1 (aC x).length cp1,.slice a2 (aC y).length cp2] (W4.drewN n) fun e w'=>∃a c,e=.returned (.slice a (aC xy).length c)/\dT w' a (gi (aC xy))/\Below W4.heap.size W4 w'):=fun n =>
   (HT.out a1 a2 cp1 cp2 (W4.drewN n) (HRA.out.below (aD (Br _ _) n)) (HRB.out.below (aD (Br _ _) n))).mono fun e w' ⟨c,e1,e2,e3⟩=>⟨_,c,e1,e2,(aD (Br _ _) n).trans e3⟩
  clear HT HR1' HR2 HB2 HB4 HRA HRB;generalize(aC x).length=lx at *;generalize(aC y).length=ly at *;go_wp2_with fail;rw[<-hW4];clear hW4;go_region_held3 (fun W=>W.cell? ⟨w3.heap.size,0,none⟩=some (.bool nl)/\W.cell? ⟨w3.heap.size,1,none⟩=some (.slice a1 lx cp1)/\W.cell? ⟨w3.heap.size+1,0,none⟩=some (.bool nm)/\W.cell? ⟨w3.heap.size+1,1,none⟩=some (.slice a2 ly cp2)) (first|exact⟨k0,k1,k2,k3⟩|go_keep)
   (first|(go_at_call 167;refine(HT2.out 1).mono ?_;rintro e w5 ⟨a5,c5,rfl,hr5,hb5⟩;have k0:=(HX1.out.below hb5).cell 0;have k1:=(HX1.out.below hb5).cell 1;have k2:=(HX2.out.below hb5).cell 0;have k3:=(HX2.out.below hb5).cell 1;have HQ1:=Hd (HX1.out.below hb5);have HQ2:=Hd (HX2.out.below hb5);have HR5:=Hd hr5;have HB6:=Hd (aA HB5.out hb5);clear hr5 hb5)|(go_at_call 158;refine(HW.out _ _ _ HR5.out).mono ?_;rintro e w6 ⟨rfl,hb6⟩;have k0:=(HQ1.out.below hb6).cell 0;have k1:=(HQ1.out.below hb6).cell 1;have k2:=(HQ2.out.below hb6).cell 0;have k3:=(HQ2.out.below hb6).cell 1;have HB7:=Hd (aA HB6.out hb6);clear hb6))
  go_wp2;go_ret;exact⟨rfl,HB7.out⟩
end
section
open Go Go.RowKit Num
section
variable {Γ:Type}{ops:Array Oper}{md:Region.Mode}{ds:List (Nat×Nat)}{val:Γ->Nat->Value}{G:Γ->Array Bool->World->Prop}{t0:Array Value}{d0:List Deferred}
theorem uL.back{γ:Γ}{l:Array Bool}{a:Act}{w:World}(H:uL ops md ds val G t0 d0 γ l a w)(j d:Nat)(hd:((ops[j]?).map fun o=>o.after.any fun e=>e.on==d&&Region.binds md e)=some true)(h:lP l j):lP l d:=by
 cases ho:ops[j]? with
 |none=>rw[ho] at hd;cases hd
 |some o =>
  rw[ho] at hd;simp only[Option.map_some,Option.some.injEq] at hd;obtain⟨k,hk,he⟩:=Array.any_eq_true.1 hd;simp only[Bool.and_eq_true,beq_iff_eq] at he;have:=H.cl j o ho h _ (Array.getElem_mem hk) he.2;rw[he.1] at this;exact this
theorem aYd{l:Array Bool}{i:Nat}(hr:i∈Region.ready md ops l):¬ lP l i:=by
 have h:=(mem_ready.1 hr).1;unfold lP;rw[Array.getD_eq_getD_getElem?] at h ⊢;cases he:l[i]? with
 |none=>rw[he] at h;cases h
 |some b=>rw[he] at h;simp only[Option.getD_some] at h ⊢;rw[h];decide
end
noncomputable def aZb:Array Oper:=(f152.body.bind (jE 13)).getD #[]
def aY4:List (Nat×Nat):=[(0,74),(1,75),(2,76),(3,77),(4,78),(5,79),(6,80),(7,81),(8,82),(9,83),(10,84),(11,17),(12,18)]
structure DlC where
 W0:World
 b:Nat
 nl:Bool
 sx:Value
 sy:Value
 qa:Option Addr
 ql:Nat
 qc:Nat
 ra:Option Addr
 rl:Nat
 rc:Nat
abbrev DlC.q(C:DlC):Value:=.slice C.qa C.ql C.qc
abbrev DlC.r(C:DlC):Value:=.slice C.ra C.rl C.rc
def DlC.val(C:DlC)(γ:Nat×Nat):Nat->Value
 |0=>.pointer (some ⟨C.b,0,none⟩)
 |1=>.bool C.nl
 |2=>.pointer (some ⟨C.b+1,0,none⟩)
 |3=>.bool false
 |4=>.bool C.nl
 |5=>C.q
 |6=>.agg #[.bool C.nl,C.q]
 |7=>.pointer (some ⟨C.b,0,none⟩)
 |8=>.bool C.nl
 |9=>C.r
 |10=>.agg #[.bool C.nl,C.r]
 |11=>.pointer (some ⟨γ.1,0,none⟩)
 |12=>.pointer (some ⟨γ.2,0,none⟩)
 |_=>undef
def DlC.G(C:DlC)(γ:Nat×Nat)(l:Array Bool)(W:World):Prop:=Below C.W0.heap.size C.W0 W/\(lP l 11->C.W0.heap.size<=γ.1/\∃u,u.size=2/\aP W γ.1 u 189/\(lP l 13->u=#[.bool C.nl,C.q]))/\(lP l 12->C.W0.heap.size<=γ.2/\∃u,u.size=2/\aP W γ.2 u 189/\(lP l 14->u=#[.bool C.nl,C.r]))/\(lP l 11->lP l 12->γ.1 ≠ γ.2)
structure DlM(C:DlC)(t0:Array Value):Prop where
 sz:t0.size=106
 t13:t0[13]?=some (.pointer (some ⟨C.b,0,none⟩))
 t14:t0[14]?=some (.pointer (some ⟨C.b+1,0,none⟩))
 t15:t0[15]?=some C.q
 t16:t0[16]?=some C.r
 kx:aP C.W0 C.b #[.bool C.nl,C.sx] 189
 ky:aP C.W0 (C.b+1) #[.bool false,C.sy] 189
theorem aWv:(prog.info? 189).map (·.size)=some 2:=by kernel_rfl
section
variable {C:DlC}{t0:Array Value}{Q:Exit->Act->World->Prop}{l:Array Bool}{w:World}
theorem DlC.keep{γ:Nat×Nat}{i:Nat}(h:C.G γ l w)(h1:i≠11)(h2:i≠12)(h3:i≠13)(h4:i≠14):C.G γ (l.setIfInBounds i true) w:=by
 obtain⟨k,k1,k2,k3⟩:=h;exact⟨k,fun h'=>by obtain⟨c,u,a1,a2,a3⟩:=k1 (mQ h' (Ne.symm h1));exact⟨c,u,a1,a2,fun h''=>a3 (mQ h'' (Ne.symm h3))⟩,fun h'=>by obtain⟨c,u,a1,a2,a3⟩:=k2 (mQ h' (Ne.symm h2));exact⟨c,u,a1,a2,fun h''=>a3 (mQ h'' (Ne.symm h4))⟩,fun h' h''=>k3 (mQ h' (Ne.symm h1)) (mQ h'' (Ne.symm h2))⟩
theorem aYh(M:DlM C t0){a:Act}(hdf:a.defers=[])(ht:a.tmps=t0)(hw:w.drewN 1=C.W0)
  (hQ:∀g1 g2 W,C.W0.heap.size<=g1->C.W0.heap.size<=g2->g1≠g2->aP W g1 #[.bool C.nl,C.q] 189->aP W g2 #[.bool C.nl,C.r] 189->Below C.W0.heap.size C.W0 W->Q .normal { tmps:=iZ (C.val (g1,g2)) aY4 t0,defers:=[] } W):(Code.region 13 aZb true).wp prog Q a w:=by
 have hsz:aZb.size=15:=by kernel_rfl
 refine eV (ds:=aY4) (val:=C.val) (G:=C.G) (by kernel_rfl) (by kernel_rfl) (by decide) (fun p hp=>?_) (by kernel_rfl) ?_ (γ:=(0,0)) hdf ht (by rw[hw];exact⟨Br _ _,fun h=>absurd h (Gu _ _),fun h=>absurd h (Gu _ _),fun h=>absurd h (Gu _ _)⟩) ?_
 ·rw[M.sz];have:∀p,p∈aY4->p.2<106:=by decide
  exact this p hp
 ·intro γ l a w i H hr;have hi:i<15:=by
   obtain⟨_,o,ho,_⟩:=mem_ready.1 hr;have:=(Ai.1 ho).1;rw[hsz] at this;exact this
  have t13:=H.low (s:=13) (by decide) M.t13;have t14:=H.low (s:=14) (by decide) M.t14;have t15:=H.low (s:=15) (by decide) M.t15;have t16:=H.low (s:=16) (by decide) M.t16;have hno:=aYd hr;obtain⟨hB,k1,k2,k3⟩:=H.g;have cx:w.cell? ⟨C.b,0,none⟩=some (.bool C.nl):=(M.kx.below hB).cell 0;have cy:w.cell? ⟨C.b+1,0,none⟩=some (.bool false):=(M.ky.below hB).cell 0
  match i,hi,hr with
  |0,_,hr=>exact aWj (.fieldAddr 189 (.tmp 13) 0) (.pointer (some ⟨C.b,0,none⟩)) (fun o h=>by simp[execOp,h,t13,go_sem]) (DlC.keep H.g (by decide) (by decide) (by decide) (by decide))
  |1,_,hr =>
   have v0:a.tmps[74]?=some (.pointer (some ⟨C.b,0,none⟩)):=H.dep hr 0 74;exact aWj (.load 4 (.tmp 74)) (.bool C.nl) (fun o h=>by simp[execOp,h,v0,cx,go_sem]) (DlC.keep H.g (by decide) (by decide) (by decide) (by decide))
  |2,_,hr=>exact aWj (.fieldAddr 189 (.tmp 14) 0) (.pointer (some ⟨C.b+1,0,none⟩)) (fun o h=>by simp[execOp,h,t14,go_sem]) (DlC.keep H.g (by decide) (by decide) (by decide) (by decide))
  |3,_,hr =>
   have v2:a.tmps[76]?=some (.pointer (some ⟨C.b+1,0,none⟩)):=H.dep hr 2 76;exact aWj (.load 4 (.tmp 76)) (.bool false) (fun o h=>by simp[execOp,h,v2,cy,go_sem]) (DlC.keep H.g (by decide) (by decide) (by decide) (by decide))
  |4,_,hr =>
   have v1:a.tmps[75]?=some (.bool C.nl):=H.dep hr 1 75;have v3:a.tmps[77]?=some (.bool false):=H.dep hr 3 77;exact aWj (.binOp .neq 4 (.tmp 75) (.tmp 77) 4) (.bool C.nl) (fun o h=>by cases hnl:C.nl <;> simp[execOp,h,v1,v3,hnl,go_sem]) (DlC.keep H.g (by decide) (by decide) (by decide) (by decide))
  |5,_,hr=>exact aWj (.move (.tmp 15)) (C.q) (fun o h=>by simp[execOp,h,t15,go_sem]) (DlC.keep H.g (by decide) (by decide) (by decide) (by decide))
  |6,_,hr =>
   have v4:a.tmps[78]?=some (.bool C.nl):=H.dep hr 4 78;have v5:a.tmps[79]?=some C.q:=H.dep hr 5 79;exact aWj (.build 189 #[(0,.tmp 78),(1,.tmp 79)]) (.agg #[.bool C.nl,C.q]) (fun o h=>by simp[execOp,h,v4,v5,go_sem]) (DlC.keep H.g (by decide) (by decide) (by decide) (by decide))
  |7,_,hr=>exact aWj (.fieldAddr 189 (.tmp 13) 0) (.pointer (some ⟨C.b,0,none⟩)) (fun o h=>by simp[execOp,h,t13,go_sem]) (DlC.keep H.g (by decide) (by decide) (by decide) (by decide))
  |8,_,hr =>
   have v7:a.tmps[81]?=some (.pointer (some ⟨C.b,0,none⟩)):=H.dep hr 7 81;exact aWj (.load 4 (.tmp 81)) (.bool C.nl) (fun o h=>by simp[execOp,h,v7,cx,go_sem]) (DlC.keep H.g (by decide) (by decide) (by decide) (by decide))
  |9,_,hr=>exact aWj (.move (.tmp 16)) (C.r) (fun o h=>by simp[execOp,h,t16,go_sem]) (DlC.keep H.g (by decide) (by decide) (by decide) (by decide))
  |10,_,hr =>
   have v8:a.tmps[82]?=some (.bool C.nl):=H.dep hr 8 82;have v9:a.tmps[83]?=some C.r:=H.dep hr 9 83;exact aWj (.build 189 #[(0,.tmp 82),(1,.tmp 83)]) (.agg #[.bool C.nl,C.r]) (fun o h=>by simp[execOp,h,v8,v9,go_sem]) (DlC.keep H.g (by decide) (by decide) (by decide) (by decide))
  |11,_,hr =>
   have h13:¬ lP l 13:=fun h=>hno (H.back 13 11 (by kernel_rfl) h)
   refine aLg (X:=.alloc 189) (v:=.pointer (some ⟨w.heap.size,0,none⟩)) (w':=w.alloc (.cells #[.bool false,.slice none 0 0] 189)) (w.heap.size,γ.2) (fun j hj=>?_) (by kernel_rfl) (fun o h=>by simp[execOp,h,go_sem]) rfl ⟨hB.trans ((aB w _).mono hB.size),fun _=>⟨hB.size,_,rfl,aP.new0 w _ _,fun h=>absurd (mQ h (by decide)) h13⟩,fun h=>by obtain⟨c,u,a1,a2,a3⟩:=k2 (mQ h (by decide));exact⟨c,u,a1,a2.below (aB _ _),fun h''=>a3 (mQ h'' (by decide))⟩,fun _ h=>by obtain⟨c,u,a1,a2,a3⟩:=k2 (mQ h (by decide));have:=a2.1;show w.heap.size ≠ γ.2;omega⟩
   match j,hj with
   |11,hj=>exact absurd hj hno
   |0,_|1,_|2,_|3,_|4,_|5,_|6,_|7,_|8,_|9,_|10,_|12,_=>rfl
   |_+13,_=>rfl
  |12,_,hr =>
   have h14:¬ lP l 14:=fun h=>hno (H.back 14 12 (by kernel_rfl) h)
   refine aLg (X:=.alloc 189) (v:=.pointer (some ⟨w.heap.size,0,none⟩)) (w':=w.alloc (.cells #[.bool false,.slice none 0 0] 189)) (γ.1,w.heap.size) (fun j hj=>?_) (by kernel_rfl) (fun o h=>by simp[execOp,h,go_sem]) rfl ⟨hB.trans ((aB w _).mono hB.size),fun h=>by obtain⟨c,u,a1,a2,a3⟩:=k1 (mQ h (by decide));exact⟨c,u,a1,a2.below (aB _ _),fun h''=>a3 (mQ h'' (by decide))⟩,fun _=>⟨hB.size,_,rfl,aP.new0 w _ _,fun h=>absurd (mQ h (by decide)) h14⟩,fun h _=>by obtain⟨c,u,a1,a2,a3⟩:=k1 (mQ h (by decide));have:=a2.1;show γ.1≠w.heap.size;omega⟩
   match j,hj with
   |12,hj=>exact absurd hj hno
   |0,_|1,_|2,_|3,_|4,_|5,_|6,_|7,_|8,_|9,_|10,_|11,_=>rfl
   |_+13,_=>rfl
  |13,_,hr =>
   have v6:a.tmps[80]?=some (.agg #[.bool C.nl,C.q]):=H.dep hr 6 80;have v11:a.tmps[17]?=some (.pointer (some ⟨γ.1,0,none⟩)):=H.dep hr 11 17;have o11:lP l 11:=aG hr (by kernel_rfl);obtain⟨c,u,a1,a2,a3⟩:=k1 o11;exact aH0 (X:=.store 189 (.tmp 17) (.tmp 80)) (by kernel_rfl) (fun o h=>Bi h (oC v11) (oC v6) a2 aWv a1 (by simp[Value.oneCell'])) ⟨below_setRow hB c _,fun _=>⟨c,_,rfl,Ip a2,fun _=>rfl⟩,fun h=>by obtain⟨c',u',b1,b2,b3⟩:=k2 (mQ h (by decide));exact⟨c',u',b1,pM b2 (Ne.symm (k3 o11 (mQ h (by decide)))),fun h''=>b3 (mQ h'' (by decide))⟩,fun h h'=>k3 o11 (mQ h' (by decide))⟩
  |14,_,hr =>
   have v10:a.tmps[84]?=some (.agg #[.bool C.nl,C.r]):=H.dep hr 10 84;have v12:a.tmps[18]?=some (.pointer (some ⟨γ.2,0,none⟩)):=H.dep hr 12 18;have o12:lP l 12:=aG hr (by kernel_rfl);obtain⟨c,u,a1,a2,a3⟩:=k2 o12;exact aH0 (X:=.store 189 (.tmp 18) (.tmp 84)) (by kernel_rfl) (fun o h=>Bi h (oC v12) (oC v10) a2 aWv a1 (by simp[Value.oneCell'])) ⟨below_setRow hB c _,fun h=>by obtain⟨c',u',b1,b2,b3⟩:=k1 (mQ h (by decide));exact⟨c',u',b1,pM b2 (k3 (mQ h (by decide)) o12),fun h''=>b3 (mQ h'' (by decide))⟩,fun _=>⟨c,_,rfl,Ip a2,fun _=>rfl⟩,fun h h'=>k3 (mQ h (by decide)) o12⟩
  |n+15,h,_=>exact absurd h (by omega)
 ·rintro γ l W hall ⟨hB,k1,k2,k3⟩;have hn:∀j,j<15->lP l j:=fun j hj=>hall j (by rw[hsz];exact hj)
  obtain⟨c,u,a1,a2,a3⟩:=k1 (hn 11 (by decide));obtain⟨c',u',b1,b2,b3⟩:=k2 (hn 12 (by decide));obtain rfl:=a3 (hn 13 (by decide));obtain rfl:=b3 (hn 14 (by decide));exact hQ γ.1 γ.2 W c c' (k3 (hn 11 (by decide)) (hn 12 (by decide))) a2 b2 hB
end
noncomputable def aZa:Array Oper:=(f152.body.bind (jE 17)).getD #[]
def aYg:List (Nat×Nat):=[(0,102),(1,103),(2,104),(3,105),(4,4),(5,5),(6,6)]
structure DwC where
 W0:World
 g1:Nat
 g2:Nat
 b1:Bool
 b2:Bool
 v1:Value
 v2:Value
 s1:ByteArray
 s2:ByteArray
def DwC.val(C:DwC)(_:Unit):Nat->Value
 |0=>.agg #[.bool C.b1,C.v1]
 |1=>.string C.s1
 |2=>.agg #[.bool C.b2,C.v2]
 |3=>.string C.s2
 |4=>.string C.s1
 |5=>.string C.s2
 |_=>.int .i64 0
def DwC.G(C:DwC)(_:Unit)(_:Array Bool)(W:World):Prop:=Below C.W0.heap.size C.W0 W
structure DwM(C:DwC)(t0:Array Value):Prop where
 sz:t0.size=106
 t17:t0[17]?=some (.pointer (some ⟨C.g1,0,none⟩))
 t18:t0[18]?=some (.pointer (some ⟨C.g2,0,none⟩))
 k1:aP C.W0 C.g1 #[.bool C.b1,C.v1] 189
 k2:aP C.W0 C.g2 #[.bool C.b2,C.v2] 189
 h1:∀W,Below C.W0.heap.size C.W0 W->Calls prog 158 #[.agg #[.bool C.b1,C.v1]] W fun e w'=>e=.returned (.string C.s1)/\Below W.heap.size W w'
 h2:∀W,Below C.W0.heap.size C.W0 W->Calls prog 158 #[.agg #[.bool C.b2,C.v2]] W fun e w'=>e=.returned (.string C.s2)/\Below W.heap.size W w'
section
variable {C:DwC}{t0:Array Value}{Q:Exit->Act->World->Prop}{w:World}
theorem aW0(M:DwM C t0){a:Act}(hdf:a.defers=[])(ht:a.tmps=t0)(hw:w.drewN 1=C.W0)
  (hQ:∀W,Below C.W0.heap.size C.W0 W->Q .normal { tmps:=iZ (C.val ()) aYg t0,defers:=[] } W):(Code.region 17 aZa true).wp prog Q a w:=by
 have hsz:aZa.size=7:=by kernel_rfl
 refine eV (ds:=aYg) (val:=C.val) (G:=C.G) (by kernel_rfl) (by kernel_rfl) (by decide) (fun p hp=>?_) (by kernel_rfl) ?_ (γ:=()) hdf ht (by rw[hw];exact Br _ _) (fun _ _ W _ hg=>hQ W hg)
 ·rw[M.sz];have:∀p,p∈aYg->p.2<106:=by decide
  exact this p hp
 ·intro γ l a w i H hr;cases γ;have hi:i<7:=by
   obtain⟨_,o,ho,_⟩:=mem_ready.1 hr;have:=(Ai.1 ho).1;rw[hsz] at this;exact this
  have t17:=H.low (s:=17) (by decide) M.t17;have t18:=H.low (s:=18) (by decide) M.t18;have hb:Below C.W0.heap.size C.W0 w:=H.g
  match i,hi,hr with
  |0,_,hr=>exact aH (X:=.load 189 (.tmp 17)) (by kernel_rfl) (fun o h=>aW h (oC t17) (gR (M.k1.below hb)) underlying189 rfl aWv) rfl hb
  |1,_,hr =>
   have v0:a.tmps[102]?=some (.agg #[.bool C.b1,C.v1]):=H.dep hr 0 102;refine gA (f:=158) (lb:=#[]) (c:=.func 158) (args:=#[.tmp 102]) (ts:=#[189]) (vs:=#[.agg #[.bool C.b1,C.v1]]) (by kernel_rfl) rfl (aXb func158) (by simp[Act.eval,v0]) ((M.h1 w hb).mono ?_);rintro e w' ⟨rfl,hb'⟩;exact⟨_,(),rfl,rfl,fun _ _=>rfl,aA hb hb'⟩
  |2,_,hr=>exact aH (X:=.load 189 (.tmp 18)) (by kernel_rfl) (fun o h=>aW h (oC t18) (gR (M.k2.below hb)) underlying189 rfl aWv) rfl hb
  |3,_,hr =>
   have v2:a.tmps[104]?=some (.agg #[.bool C.b2,C.v2]):=H.dep hr 2 104;refine gA (f:=158) (lb:=#[]) (c:=.func 158) (args:=#[.tmp 104]) (ts:=#[189]) (vs:=#[.agg #[.bool C.b2,C.v2]]) (by kernel_rfl) rfl (aXb func158) (by simp[Act.eval,v2]) ((M.h2 w hb).mono ?_);rintro e w' ⟨rfl,hb'⟩;exact⟨_,(),rfl,rfl,fun _ _=>rfl,aA hb hb'⟩
  |4,_,hr =>
   have v1:a.tmps[103]?=some (.string C.s1):=H.dep hr 1 103;exact aWj (.assign (.tmp 103)) (.string C.s1) (fun o h=>by simp[execOp,h,v1,go_sem]) hb
  |5,_,hr =>
   have v3:a.tmps[105]?=some (.string C.s2):=H.dep hr 3 105;exact aWj (.assign (.tmp 105)) (.string C.s2) (fun o h=>by simp[execOp,h,v3,go_sem]) hb
  |6,_,hr=>exact aWj (.assign (.const (.int .i64 0))) (.int .i64 0) (fun o h=>by simp[execOp,h,go_sem]) hb
  |n+7,h,_=>exact absurd h (by omega)
end
end
section
open Go Go.RowKit Num
theorem aWz{x n q r:Int}(hn:0<n)(e:n*q+r=x)(h5:0<=r)(h6:r<n):q=x/n/\r=x%n:=by
 have e2:(n*q+r)/n=q:=by rw[Int.mul_comm,Int.add_comm,Int.add_mul_ediv_right _ _ (by omega),Int.ediv_eq_zero_of_lt h5 h6];omega
 have e3:(n*q+r)%n=r:=by rw[Int.mul_comm,Int.add_comm,Int.add_mul_emod_self_right,Int.emod_eq_of_lt h5 h6]
 rw[e] at e2 e3;exact⟨e2.symm,e3.symm⟩
theorem aXh{n:Bool}{x y:Nat}(h0:0<y)(h:n=false∨x%y=0):sgi n (x/y)=sgi n x/(y:Int)/\sgi n (x%y)=sgi n x%(y:Int):=by
 have hd:=Nat.div_add_mod x y;have hm:=Nat.mod_lt x h0;have hdi:(y:Int)*((x/y:Nat):Int)+((x%y:Nat):Int)=(x:Int):=by exact_mod_cast hd
 cases n with
 |false=>exact aWz (by omega) hdi (by show (0:Int)<=((x%y:Nat):Int);omega) (by show ((x%y:Nat):Int)<_;omega)
 |true =>
  have hz:x%y=0:=by rcases h with h|h;cases h;exact h
  rw[hz] at hdi ⊢;refine aWz (by omega) ?_ (by decide) (by show (-(0:Int))<_;omega);show (y:Int) * -((x/y:Nat):Int) + -(0:Int) = -(x:Int);rw[Int.mul_neg,<-hdi];simp
theorem aXq{x y:Nat}(h0:0<y)(h:x%y≠0):sgi true (x/y+1)=sgi true x/(y:Int)/\sgi false (y-x%y)=sgi true x%(y:Int):=by
 have hd:=Nat.div_add_mod x y;have hm:=Nat.mod_lt x h0;have hdi:(y:Int)*((x/y:Nat):Int)+((x%y:Nat):Int)=(x:Int):=by exact_mod_cast hd
 refine aWz (by omega) ?_ (by show (0:Int)<=((y-x%y:Nat):Int);omega) (by show ((y-x%y:Nat):Int)<_;omega);show (y:Int) * -((x/y+1:Nat):Int)+((y-x%y:Nat):Int) = -(x:Int);have e1:((y-x%y:Nat):Int)=(y:Int)-((x%y:Nat):Int):=by omega
 have e2:((x/y+1:Nat):Int)=((x/y:Nat):Int)+1:=by omega
 rw[e1,e2,<-hdi,Int.mul_neg,Int.mul_add,Int.mul_one];omega
theorem aUq{P:Program}{ops:Array Oper}{rest:List Oper}{o:Oper}{a:Act}{w:World}{Q:Exit->Act->World->Prop}(hgd:o.guard=none)(ty:TypeId)(x y:Operand)(ho:o.op=.store ty x y)(g:Nat)(hx:a.eval x=.pointer (some ⟨g,0,none⟩))(cells:Array Value)(hy:a.eval y=.agg cells)
  {t:TypeId}{old:Array Value}(hg:aP w g old t) (hi:(P.info? ty).map (·.size)=some cells.size) (hold:old.size=cells.size) (h1:cells.all (·.oneCell')=true)
  (h:∀w',aP w' g cells t->(∀B,B<=g->Below B w w')->(∀b cs T,b≠g->aP w b cs T->aP w' b cs T)->(∀n d xs,g<n->aWk n d->dT w d xs->dT w' d xs)->wpList P ops Q rest (a.put o.dst undef) w'):wpList P ops Q (o::rest) a w:=by
 refine wpList_store_row hgd ty x y ho g cells hx hy t old hg.2 hi hold h1 (h _ ⟨by simp[World.setRow];exact hg.1,setRow_heap _ _ _ _ _ _ hg.2⟩ (fun B hB=>below_setRow (Br _ _) hB _) (fun b cs T hne hb=>pM hb hne) (fun n d xs hn ha hr=>?_));rcases hr with hr|⟨b,off,rfl,hlt,hc⟩
 ·exact .inl hr
 ·have hne:b≠g:=by have:=ha b off rfl;omega
  refine .inr ⟨b,off,rfl,by simp[World.setRow];exact hlt,fun k u hk=>?_⟩;have:=hc k u hk;rw[<-this];unfold World.cell?;rw[show (w.setRow g cells).heap[(⟨b,off+k,none⟩:Addr).block]?=w.heap[b]? from setRow_other w g b cells hne]
theorem aW7:aC 1=[1]:=aWo (by decide) (by decide)
theorem aYi{r y:Nat}(h:r<y):aXa true false r y=(false,y-r):=by unfold aXa;rw[if_neg (by decide),if_neg (by omega)]
theorem aXk(l m:List UInt8)(w:World)(hl:l.length<=1000)(hm:m.length<=1000)(h1:(val l).natAbs<big)(h2:(val m).natAbs<big)(h0:0<val m):
  Calls prog 152 #[.string ⟨l.toArray⟩,.string ⟨m.toArray⟩] w fun e w'=>e=.returned (.tuple #[.string ⟨(aJ (val l/val m)).toArray⟩,.string ⟨(aJ (val l%val m)).toArray⟩,.int .i64 0])/\Below w.heap.size w w':=by
 obtain⟨vx,bl,S1,T1⟩:=aWp l hl;obtain⟨vy,bm,S2,T2⟩:=aWp m hm
 by_cases hb:bl=true/\bm=true
 ·exact Je l m w hl hm (T1 hb.1).2 (T2 hb.2).2 h0
 have hvy:bm=true->(vy==0)=false:=fun h=>by have:=(T2 h).1;simp;omega
 have H1:=Hd S1;have H2:=Hd S2;clear S1 S2 T1 T2;have H3:=Hd (fun W=>Dd l W (by omega));have H4:=Hd (fun W=>Dd m W (by omega));have ex:=tN l;have ey:=tN m;have hng:dD m=false:=by
  cases h:dD m with
  |false=>rfl
  |true=>rw[Gv] at h;simp at h;omega
 have hvm:val m=(bK (aZ m):Int):=by rw[ey];omega
 rw[hng] at H4;have hx:bK (aZ l)<big:=by omega
 have hy:bK (aZ m)<big:=by omega
 have hy0:0<bK (aZ m):=by omega
 rw[hvm,<-aY1 l];clear hvm hng ex ey h1 h2 h0;generalize bK (aZ l)=x at *;generalize bK (aZ m)=y at *;generalize dD l=nl at *;have hg1:=aW8 hx;have hg2:=aW8 hy;have HD:=Hd (fun a a' c c' W hra hrb=>aXv x y a a' c c' W hy0 (by omega) (by omega) hra hrb);obtain⟨zq,hzq⟩:∃zq,zq=sgi nl x/(y:Int):=⟨_,rfl⟩
 obtain⟨zr,hzr⟩:∃zr,zr=sgi nl x%(y:Int):=⟨_,rfl⟩
 rw[<-hzq,<-hzr];have hml:=Nat.mod_lt x hy0;have gq:=bP (Nat.div_le_self x y);have gr:=bP (Nat.le_of_lt hml);have gs:=bP (Nat.sub_le y (x%y));have gq1:(aC (x/y+1)).length<=6:=aWi (k:=6) (Nat.lt_of_le_of_lt (Nat.succ_le_succ (Nat.div_le_self x y)) (Nat.lt_of_le_of_lt hx (by decide)));have HP:=Hd (fun (h:nl=false∨x%y=0)=>And.intro (fun a c W hr=>aWa nl (x/y) zq ((aXh hy0 h).1.trans hzq.symm) a c W (by omega) hr) (fun a c W hr=>aWa nl (x%y) zr ((aXh hy0 h).2.trans hzr.symm) a c W (by omega) hr));have HM:=Hd (fun (h:x%y≠0) (hn:nl=true)=>And.intro (fun a c W hr=>aWa true (x/y+1) zq ((aXq hy0 h).1.trans (by rw[hzq,hn])) a c W gq1 hr) (fun a c W hr=>aWa false (y-x%y) zr ((aXq hy0 h).2.trans (by rw[hzr,hn])) a c W (by omega) hr));have HA1:Hid (∀a a' c c' W,dT W a (gi (aC (x/y)))->dT W a' (gi [1])->Calls prog 159 #[.agg #[.bool true,.slice a (aC (x/y)).length c],.agg #[.bool true,.slice a' 1 c']] W fun e w'=>∃d c,e=.returned (.agg #[.bool true,.slice d (aC (x/y+1)).length c])/\dT w' d (gi (aC (x/y+1)))/\aWk W.heap.size d/\Below W.heap.size W w'):=fun a a' c c' W hr hr'=>by
  have h:=aXl true true (x/y) 1 a a' c c' W (by omega) (by rw[aW7];decide) hr (by rw[aW7];exact hr');rw[aW7] at h;exact h
 have HA2:=Hd (fun a a' c c' W hr hr'=>aXl true false (x%y) y a a' c c' W (by omega) (by omega) hr hr');rw[aYi hml] at HA2;have HZ:Hid ((aC (x%y)).length=0↔x%y=0):=by
  show _↔_;constructor
  ·intro h;exact(bO _).1 (List.eq_nil_of_length_eq_zero h)
  ·intro h;rw[h,aT];rfl
 have hk2:(bl=false/\bm=false)∨(bl=false/\bm=true)∨(bl=true/\bm=false):=by cases bl <;> cases bm <;> simp at hb ⊢
 have HSN:Hid (∀u v:Value,(prog.info? 189).map (·.size)=some (#[u,v]:Array Value).size):=fun _ _=>aWv
 clear hb hx hy hzq hzr hg1 hg2 gq gr gs gq1 hml;go_enter func152,ntmps152;go_wp2_with fail;refine(H1.out _).mono ?_;rintro e w1 ⟨rfl,rfl⟩;go_wp2_with fail;refine(H2.out _).mono ?_;rintro e w1 ⟨rfl,rfl⟩;have HY0:=Hd hy0;clear hy0;rcases hk2 with⟨rfl,rfl⟩|⟨rfl,rfl⟩|⟨rfl,rfl⟩
 all_goals
  first|(have hvy2:=hvy rfl)|skip
  clear hvy;go_wp2_with fail;refine(H3.out _).mono ?_;rintro e w2 ⟨a1,cp1,rfl,hr1,hb1⟩;have HB1:=Hd hb1;have HR1:=Hd hr1;clear hb1 hr1;go_wp2_with fail;refine(H4.out _).mono ?_;rintro e w3 ⟨a2,cp2,rfl,hr2,hb2⟩;have HR1':=Hd (HR1.out.below hb2);have HB2:=Hd (aA HB1.out hb2);have HR2:=Hd hr2;clear hb2 hr2 HR1 HB1;have HX1:Hid (aP ((w3.alloc (.cells #[.bool nl,.slice a1 (aC x).length cp1] 189)).alloc (.cells #[.bool false,.slice a2 (aC y).length cp2] 189)) w3.heap.size #[.bool nl,.slice a1 (aC x).length cp1] 189):=(aP.new0 w3 _ _).below (aB _ _);have HX2:Hid (aP ((w3.alloc (.cells #[.bool nl,.slice a1 (aC x).length cp1] 189)).alloc (.cells #[.bool false,.slice a2 (aC y).length cp2] 189)) (w3.heap.size+1) #[.bool false,.slice a2 (aC y).length cp2] 189):=by
   have h:=aP.new0 (w3.alloc (.cells #[.bool nl,.slice a1 (aC x).length cp1] 189)) #[.bool false,.slice a2 (aC y).length cp2] 189;rw[World.size_alloc] at h;exact h
  have HB4:Hid (Below w3.heap.size w3 ((w3.alloc (.cells #[.bool nl,.slice a1 (aC x).length cp1] 189)).alloc (.cells #[.bool false,.slice a2 (aC y).length cp2] 189))):=((Br _ _).alloc (Nl _) _).alloc (by simp) _;obtain⟨W4,hW4⟩:∃W4,W4=(w3.alloc (.cells #[.bool nl,.slice a1 (aC x).length cp1] 189)).alloc (.cells #[.bool false,.slice a2 (aC y).length cp2] 189):=⟨_,rfl⟩
  rw[<-hW4] at HX1 HX2 HB4;have k0:W4.cell? ⟨w3.heap.size,0,none⟩=some (.bool nl):=HX1.out.cell 0;have k1:W4.cell? ⟨w3.heap.size,1,none⟩=some (.slice a1 (aC x).length cp1):=HX1.out.cell 1;have k2:W4.cell? ⟨w3.heap.size+1,0,none⟩=some (.bool false):=HX2.out.cell 0;have k3:W4.cell? ⟨w3.heap.size+1,1,none⟩=some (.slice a2 (aC y).length cp2):=HX2.out.cell 1;have HRB:=Hd (HR2.out.below HB4.out);have HB5:=Hd (aA HB2.out HB4.out);have HDD:=Hd (HD.out a1 a2 cp1 cp2 W4 (HR1'.out.below HB4.out) HRB.out);clear HD HR1' HR2 HB2 HB4 H3 H4 H1 H2;generalize(aC x).length=lx at *;generalize(aC y).length=ly at *;go_wp2_with fail;rw[<-hW4];clear hW4;refine HDD.out.mono ?_;rintro e w5 ⟨d,c,d2,c2,rfl,hr5,hr6,hb5⟩;have HB6:=Hd (aA HB5.out hb5);have HY1:=Hd (HX1.out.below hb5);have HY2:=Hd (HX2.out.below hb5);have HRB5:=Hd (HRB.out.below hb5);have HQ5:=Hd hr5;have HQ6:=Hd hr6;clear hb5 HX1 HX2 HDD HB5 HRB hr5 hr6 k0 k1 k2 k3;generalize(aC (x/y)).length=lq at *;generalize(aC (x%y)).length=lr at *;generalize(aC (x/y+1)).length=lq1 at *;generalize(aC (y-x%y)).length=lr1 at *;go_wp2_with fail;refine aYh (C:=⟨w5.drewN 1,w3.heap.size,nl,.slice a1 lx cp1,.slice a2 ly cp2,d,lq,c,d2,lr,c2⟩) ⟨rfl,rfl,rfl,rfl,rfl,HY1.out,HY2.out⟩ rfl rfl rfl ?_;intro g1 g2 W l1 l2 hne KQ KR hbW;have HG:Hid (w5.heap.size<=g1/\w5.heap.size<=g2/\g1≠g2):=⟨l1,l2,hne⟩
  have HBW:Hid (Below w5.heap.size w5 W):=(aD (Br w5.heap.size w5) 1).trans hbW;have k0:=(HY1.out.below HBW.out).cell 0;have k2:=(HY2.out.below HBW.out).cell 0;have k3:=(HY2.out.below HBW.out).cell 1;have q0:=KQ.cell 0;have q1:=KQ.cell 1;have r0:=KR.cell 0;have r1:=KR.cell 1;have HKQ:=Hd KQ;have HKR:=Hd KR;clear l1 l2 hne KQ KR hbW;simp only[iZ,aY4,List.foldl,List.setIfInBounds_toArray,List.set_cons_zero,List.set_cons_succ,DlC.val,DlC.q,DlC.r];rcases(show (lr=0)∨((0:Int)<(lr:Int)/\nl=false)∨((0:Int)<(lr:Int)/\nl=true) by cases nl <;> simp <;> omega) with h|⟨h,hn⟩|⟨h,hn⟩
  ·have HP2:=Hd (HP.out (.inr (HZ.out.1 h)));have h':¬ (0:Int)<(lr:Int):=by omega
   clear h HM HA1 HA2;go_wp2_with fail;refine aW0 (C:=⟨W.drewN 1,g1,g2,nl,nl,.slice d lq c,.slice d2 lr c2,⟨(aJ zq).toArray⟩,⟨(aJ zr).toArray⟩⟩) ⟨rfl,rfl,rfl,HKQ.out,HKR.out,fun W1 hb=>HP2.out.1 d c W1 (HQ5.out.below (HBW.out.trans ((aD (Br _ W) 1).trans hb |>.mono HBW.out.size))),fun W1 hb=>HP2.out.2 d2 c2 W1 (HQ6.out.below (HBW.out.trans ((aD (Br _ W) 1).trans hb |>.mono HBW.out.size)))⟩ rfl rfl rfl ?_;intro W2 hb2;have HB2:=Hd (aA HB6.out (HBW.out.trans ((aD (Br _ W) 1).trans hb2 |>.mono HBW.out.size)));clear hb2;simp only[iZ,aYg,List.foldl,List.setIfInBounds_toArray,List.set_cons_zero,List.set_cons_succ,DwC.val];go_wp2;go_ret3;exact⟨rfl,HB2.out⟩
  ·have HP2:=Hd (HP.out (.inl hn));subst hn;clear HM HA1 HA2;go_wp2_with fail;refine aW0 (C:=⟨W.drewN 1,g1,g2,false,false,.slice d lq c,.slice d2 lr c2,⟨(aJ zq).toArray⟩,⟨(aJ zr).toArray⟩⟩) ⟨rfl,rfl,rfl,HKQ.out,HKR.out,fun W1 hb=>HP2.out.1 d c W1 (HQ5.out.below (HBW.out.trans ((aD (Br _ W) 1).trans hb |>.mono HBW.out.size))),fun W1 hb=>HP2.out.2 d2 c2 W1 (HQ6.out.below (HBW.out.trans ((aD (Br _ W) 1).trans hb |>.mono HBW.out.size)))⟩ rfl rfl rfl ?_;intro W2 hb2;have HB2:=Hd (aA HB6.out (HBW.out.trans ((aD (Br _ W) 1).trans hb2 |>.mono HBW.out.size)));clear hb2;simp only[iZ,aYg,List.foldl,List.setIfInBounds_toArray,List.set_cons_zero,List.set_cons_succ,DwC.val];go_wp2;go_ret3;exact⟨rfl,HB2.out⟩
  ·have hzz:x%y≠0:=fun e=>by have:=HZ.out.2 e;omega
   have HM2:=Hd (HM.out hzz hn);subst hn;clear HP HM hzz;go_wp2_with fail;refine(HA1.out d (some ⟨W.heap.size,0,none⟩) c 1 _ ((HQ5.out.below HBW.out).below (aB _ _)) (aW3 W 1)).mono ?_;rintro e w7 ⟨d7,c7,rfl,hr7,hab7,hb7⟩;have hbx:=aA (aB W (.cells #[.int .i64 1] 3)) hb7;have HBX:=Hd hbx;have HB7:=Hd (aA HBW.out hbx);have HKQ7:=Hd (HKQ.out.below hbx);have HKR7:=Hd (HKR.out.below hbx);have HR7:=Hd hr7;have HAB7:=Hd hab7;clear hr7 hab7 hb7 hbx k0 k2 k3 q0 q1 r0 r1 HA1;go_wp2_with (refine aUq rfl 189 _ _ rfl g1 rfl #[.bool true,.slice d7 lq1 c7] rfl HKQ7.out (HSN.out _ _) rfl (by simp[Value.oneCell']) ?_;intro w8 kx bx Rt krow;have HB8:=Hd (HB7.out.trans (bx _ HG.out.1));have HKQ8:=Hd kx;have HKR8:=Hd (Rt _ _ _ HG.out.2.2.symm HKR7.out);have HY8:=Hd (HY2.out.below HB8.out);have HR8:=Hd (krow _ _ _ (by have:=HKQ.out.1;rw[World.size_alloc];omega) HAB7.out HR7.out);have r0:=HKR8.out.cell 0;have r1:=HKR8.out.cell 1;have k2:=HY8.out.cell 0;have k3:=HY8.out.cell 1;clear kx bx Rt krow);refine(HA2.out d2 a2 c2 cp2 w8 (HQ6.out.below HB8.out) (HRB5.out.below HB8.out)).mono ?_;rintro e w9 ⟨d9,c9,rfl,hr9,hab9,hb9⟩;have HB9:=Hd (aA HB8.out hb9);have HKQ9:=Hd (HKQ8.out.below hb9);have HKR9:=Hd (HKR8.out.below hb9);have HR9:=Hd (HR8.out.below hb9);have HS9:=Hd hr9;have HAB9:=Hd hab9;have HG8:Hid (g1<w8.heap.size/\g2<w8.heap.size):=⟨HKQ8.out.1,HKR8.out.1⟩
   clear hr9 hab9 hb9 r0 r1 k2 k3 HA2;go_wp2_with (refine aUq rfl 189 _ _ rfl g2 rfl #[.bool false,.slice d9 lr1 c9] rfl HKR9.out (HSN.out _ _) rfl (by simp[Value.oneCell']) ?_;intro w10 kx bx Rt krow;have HB10:=Hd (HB9.out.trans (bx _ HG.out.2.1));have HKR10:=Hd kx;have HKQ10:=Hd (Rt _ _ _ HG.out.2.2 HKQ9.out);have HR10:=Hd (krow _ _ _ (by have:=HKR.out.1;rw[World.size_alloc];omega) HAB7.out HR9.out);have HS10:=Hd (krow _ _ _ HG8.out.2 HAB9.out HS9.out);clear kx bx Rt krow);simp only[Act.put];have HW1:Hid (∀W1,Below (w10.drewN 1).heap.size (w10.drewN 1) W1->Calls prog 158 #[.agg #[.bool true,.slice d7 lq1 c7]] W1 fun e w'=>e=.returned (.string ⟨(aJ zq).toArray⟩)/\Below W1.heap.size W1 w'):=fun W1 hb=>HM2.out.1 d7 c7 W1 (HR10.out.below ((aD (Br _ w10) 1).trans hb))
   have HW2:Hid (∀W1,Below (w10.drewN 1).heap.size (w10.drewN 1) W1->Calls prog 158 #[.agg #[.bool false,.slice d9 lr1 c9]] W1 fun e w'=>e=.returned (.string ⟨(aJ zr).toArray⟩)/\Below W1.heap.size W1 w'):=fun W1 hb=>HM2.out.2 d9 c9 W1 (HS10.out.below ((aD (Br _ w10) 1).trans hb))
   refine aW0 (C:=⟨w10.drewN 1,g1,g2,true,false,.slice d7 lq1 c7,.slice d9 lr1 c9,⟨(aJ zq).toArray⟩,⟨(aJ zr).toArray⟩⟩) ?M rfl rfl rfl ?_
   case M=>exact⟨rfl,rfl,rfl,HKQ10.out,HKR10.out,HW1.out,HW2.out⟩
   intro W2 hb2;have HB2:=Hd (aA HB6.out (HB10.out.trans ((aD (Br _ w10) 1).trans hb2 |>.mono HB10.out.size)));clear hb2;simp only[iZ,aYg,List.foldl,List.setIfInBounds_toArray,List.set_cons_zero,List.set_cons_succ,DwC.val];go_wp2;go_ret3;exact⟨rfl,HB2.out⟩
end
end Go.Proofs.YtejkibnaidiklaaGreatDoor
