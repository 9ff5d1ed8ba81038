/- RDiv RFrac RFrac2 RLim RNums -/
import Derived.Test.YthjekgfoidmagaaGreatDoorURNum
set_option maxHeartbeats 16000000
set_option maxRecDepth 100000
namespace Go.Proofs.YthjekgfoidmagaaGreatDoor
open Go.Proofs.Tryz
section
open Go Go.RowKit Num
theorem Sk{x n:Int}(hn:0<n):(x.tmod n=0∨0<=x->x.tdiv n=x/n/\x.tmod n=x%n)/\(¬ x.tmod n=0->x<0->x.tdiv n-1=x/n/\x.tmod n+n=x%n/\x.tmod n<0):=by
 have h1:=Int.mul_tdiv_add_tmod x n;have h2:=Int.mul_ediv_add_emod x n;have h3:=Int.emod_nonneg x (show n≠0 by omega);have h4:=Int.emod_lt_of_pos x hn;have uniq:∀q r:Int,n*q+r=x->0<=r->r<n->q=x/n/\r=x%n:=by
  intro q r e h5 h6;have e2:(n*q+r)/n=q:=by rw[Int.mul_comm,Int.add_comm,Int.add_mul_ediv_right _ _ (by omega),Int.ediv_eq_zero_of_lt h5 h6];omega
  have e3:(n*q+r)%n=r:=by rw[Int.mul_comm,Int.add_comm,Int.add_mul_emod_self_right,Int.emod_eq_of_lt h5 h6]
  rw[e] at e2 e3;exact⟨e2.symm,e3.symm⟩
 constructor
 ·rintro(h|h)
  ·exact uniq _ _ (by rw[h] at h1 ⊢;exact h1) (by omega) (by omega)
  ·exact⟨Int.tdiv_eq_ediv_of_nonneg h,Int.tmod_eq_emod_of_nonneg h⟩
 ·intro h0 hx;have h5:x.tmod n<=0:=by
   have:=Int.tmod_nonneg n (show 0<=-x by omega);rw[Int.neg_tmod] at this;omega
  have h6:-n<x.tmod n:=by
   have:=Int.lt_tmod_of_pos x hn;omega
  have:=uniq (x.tdiv n-1) (x.tmod n+n) (by rw[Int.mul_sub,Int.mul_one];omega) (by omega) (by omega);exact⟨this.1,this.2,by omega⟩
theorem Je(l m:List UInt8)(w:World)(hl:l.length<=1000)(hm:m.length<=1000)(h1:(val l).natAbs<100000000000000000)(h2:(val m).natAbs<100000000000000000)(h0:0<val m):
  Calls prog 316 #[.string ⟨l.toArray⟩,.string ⟨m.toArray⟩] w fun e w'=>e=.returned (.tuple #[.string ⟨(aJ (val l/val m)).toArray⟩,.string ⟨(aJ (val l%val m)).toArray⟩,.int .i64 0])/\Below w.heap.size w w':=by
 have H1:=Hd (fun W=>gU l W (by omega) (gQ (K:=17) (by omega) (by decide)));have H2:=Hd (fun W=>gU m W (by omega) (gQ (K:=17) (by omega) (by decide)));obtain⟨hq1,hq2⟩:=Sk (x:=val l) h0;have hqa:((val l).tdiv (val m)).natAbs<=(val l).natAbs:=by rw[Int.natAbs_tdiv];exact Nat.div_le_self _ _
 have hra:((val l).tmod (val m)).natAbs<(val m).natAbs:=by rw[Int.natAbs_tmod];exact Nat.mod_lt _ (by omega)
 generalize val l=x at *;generalize val m=n at *;obtain⟨q,hq⟩:∃q,q=x.tdiv n:=⟨_,rfl⟩
 obtain⟨r,hr⟩:∃r,r=x.tmod n:=⟨_,rfl⟩
 rw[<-hq,<-hr] at hq1 hq2;rw[<-hq] at hqa;rw[<-hr] at hra;have htd:x.tdiv n=q:=hq.symm;have htm:x.tmod n=r:=hr.symm;have hne:¬ n=0:=by omega
 have hqw:IntKind.i64.wrap q=q:=by rw[IntKind.wrap_i64];omega
 have hn0:(n==0)=false:=by simpa using hne
 have hn1:¬ n<0:=by omega
 by_cases hadj:¬ r=0/\x<0
 ·obtain⟨e1,e2,e3⟩:=hq2 hadj.1 hadj.2;have H3:=Hd (fun W=>nS (x/n) (by omega) (by omega) W);have H4:=Hd (fun W=>nS (x%n) (by omega) (by omega) W);generalize aJ (x/n)=cq at *;generalize aJ (x%n)=cr at *;rw[<-e1] at H3;rw[<-e2] at H4;have hr0:(r==0)=false:=by simpa using hadj.1
  have hqb:-100000000000000001<=q/\q<=100000000000000001:=by omega
  have hrb:-100000000000000001<=r/\r<=100000000000000001:=by omega
  have hnb:n<=100000000000000001:=by omega
  have hd1:decide (r<0)=true:=by simpa using e3
  have hd2:decide (n<0)=false:=by simpa using hn1
  clear hq1 hq2 hqa hra hq hr h1 h2 hadj e1 e2 hl hm;go_enter func316,ntmps316;go_wp2_with fail;refine(H1.out _).mono ?_;rintro e w1 ⟨rfl,rfl⟩;go_wp2_with fail;refine(H2.out _).mono ?_;rintro e w1 ⟨rfl,rfl⟩;go_wp2_with fail;go_quiet (fail);go_wp2_with fail
  all_goals first|(exfalso;omega)|skip
  refine(H3.out _).mono ?_;rintro e w1 ⟨rfl,rfl⟩;go_wp2_with fail;refine(H4.out _).mono ?_;rintro e w1 ⟨rfl,rfl⟩;go_wp2;go_ret3;exact⟨rfl,aD (Br _ _) _⟩
 ·obtain⟨e1,e2⟩:=hq1 (by omega);have H3:=Hd (fun W=>nS (x/n) (by omega) (by omega) W);have H4:=Hd (fun W=>nS (x%n) (by omega) (by omega) W);generalize aJ (x/n)=cq at *;generalize aJ (x%n)=cr at *;rw[<-e1] at H3;rw[<-e2] at H4;have hqb:-100000000000000001<=q/\q<=100000000000000001:=by omega
  have hrb:-100000000000000001<=r/\r<=100000000000000001:=by omega
  have hnb:n<=100000000000000001:=by omega
  have hd2:decide (n<0)=false:=by simpa using hn1
  by_cases hr0:r=0
  ·have hr1:(r==0)=true:=by simpa using hr0
   have hr2:(r != 0)=false:=by simpa using hr0
   clear hq1 hq2 hqa hra hq hr h1 h2 hadj e1 e2 hl hm hr0;go_enter func316,ntmps316;go_wp2_with fail;refine(H1.out _).mono ?_;rintro e w1 ⟨rfl,rfl⟩;go_wp2_with fail;refine(H2.out _).mono ?_;rintro e w1 ⟨rfl,rfl⟩;go_wp2_with fail;go_quiet (fail);go_wp2_with fail
   all_goals first|(exfalso;simp at hr1;omega)|skip
   refine(H3.out _).mono ?_;rintro e w1 ⟨rfl,rfl⟩;go_wp2_with fail;refine(H4.out _).mono ?_;rintro e w1 ⟨rfl,rfl⟩;go_wp2;go_ret3;exact⟨rfl,aD (Br _ _) _⟩
  ·have hr1:(r==0)=false:=by simpa using hr0
   have hd1:decide (r<0)=false:=by
    have hx0:0<=x:=by omega
    have:=Int.tmod_nonneg n hx0;rw[<-hr] at this;simpa using this
   clear hq1 hq2 hqa hra hq hr h1 h2 hadj e1 e2 hl hm;go_enter func316,ntmps316;go_wp2_with fail;refine(H1.out _).mono ?_;rintro e w1 ⟨rfl,rfl⟩;go_wp2_with fail;refine(H2.out _).mono ?_;rintro e w1 ⟨rfl,rfl⟩;go_wp2_with fail;go_quiet (fail);go_wp2_with fail
   all_goals first|(exfalso;simp at hd1;omega)|skip
   refine(H3.out _).mono ?_;rintro e w1 ⟨rfl,rfl⟩;go_wp2_with fail;refine(H4.out _).mono ?_;rintro e w1 ⟨rfl,rfl⟩;go_wp2;go_ret3;exact⟨rfl,aD (Br _ _) _⟩
def Sm:Value->Nat
 | .string b=>bK b.data.toList
 |_=>0
theorem rP(n:Nat):Sm (.string ⟨(aU n).toArray⟩)=n:=by show bK (aU n)=n;exact sK n
theorem pL{n:Nat}(h:n<100000000000000000):(aU n).length<=1000:=Nat.le_trans (As (K:=17) (by decide) (by omega)) (by decide)
theorem Wd(p q:Nat)(w:World)(hp:p<100000000000000000)(hq:q<100000000000000000)(h0:0<q):
  Calls prog 316 #[.string ⟨(aU p).toArray⟩,.string ⟨(aU q).toArray⟩] w fun e w'=>e=.returned (.tuple #[.string ⟨(aU (p/q)).toArray⟩,.string ⟨(aU (p%q)).toArray⟩,.int .i64 0])/\Below w.heap.size w w':=by
 have h:=Je (aU p) (aU q) w (pL hp) (pL hq) (by rw[eQ];omega) (by rw[eQ];omega) (by rw[eQ];omega);rw[eQ,eQ,<-Int.natCast_ediv,<-Int.natCast_emod,vL,vL] at h;exact h
theorem Wc(l m:List UInt8)(w:World)(hl:l.length<=1000)(hm:m.length<=1000)(h1:(val l).natAbs<100000000000000000)(h2:(val m).natAbs<100000000000000000):
  Calls prog 302 #[.string ⟨l.toArray⟩,.string ⟨m.toArray⟩] w fun e w'=>e=.returned (.string ⟨(aU (gE (val l) (val m))).toArray⟩)/\Below w.heap.size w w':=by
 have H1:=Hd (fun W=>fR l W (by omega));have H2:=Hd (fun W=>fR m W (by omega));rw[lL] at H1 H2;unfold gE;generalize(val l).natAbs=x at *;generalize(val m).natAbs=y at *;generalize dD l=nl at *;generalize dD m=nm at *;obtain⟨g,hg⟩:∃g,g=Nat.gcd x y:=⟨_,rfl⟩
 rw[<-hg];have HG:=Hd hg.symm;have HX:=Hd (And.intro h1 h2);clear hg h1 h2 hl hm;go_enter func302,ntmps302;go_wp2_with fail;refine(H1.out _).mono ?_;rintro e w1 ⟨rfl,rfl⟩;go_wp2_with fail;refine(H2.out _).mono ?_;rintro e w1 ⟨rfl,rfl⟩;go_wp2_with fail;go_loopw [9,10] (fun xv yv W=>∃(p q:Nat),xv=.string ⟨(aU p).toArray⟩/\yv=.string ⟨(aU q).toArray⟩/\Hid (p<100000000000000000/\q<100000000000000000)/\Hid (Nat.gcd p q=g)/\Hid (Below w.heap.size w W)) (fun _ yv _=>Sm yv)
 case atStart=>exact⟨x,y,rfl,rfl,HX,HG,Br _ _⟩
 case round =>
  obtain⟨p,q,rfl,rfl,HB,HGC,HW⟩:=hrel
  by_cases hq:q=0
  ·have hpg:p=g:=by rw[<-HGC.out,hq,Nat.gcd_zero_right]
   have hnil:aU q=[]:=by rw[hq];rfl
   rw[hnil];rw[hpg];clear hnil hpg hq HGC;go_wp2;go_ret;exact⟨rfl,HW.out⟩
  ·have HD:=Hd (fun W=>Wd p q W HB.out.1 HB.out.2 (by omega));have HB2:Hid (q<100000000000000000/\p%q<100000000000000000):=⟨HB.out.2,Nat.lt_trans (Nat.mod_lt _ (by omega)) HB.out.2⟩
   have HG2:Hid (Nat.gcd q (p%q)=g):=by show _=_;rw[<-HGC.out,Nat.gcd_comm p q,Nat.gcd_rec q p,Nat.gcd_comm]
   have HM:Hid (p%q<q):=Nat.mod_lt _ (by omega);have hne:aU q ≠ []:=fun e=>hq ((qT _).1 e)
   have hne2:(aU q).isEmpty=false:=by simpa using hne
   have HS1:=Hd (rP q);have HS2:=Hd (rP (p%q));clear hq HB HGC hne;obtain⟨s,hs⟩:∃s,s=p%q:=⟨_,rfl⟩
   rw[<-hs] at HD HB2 HG2 HM HS2;clear hs;generalize p/q=pq at *;go_wp2_with fail;refine(HD.out _).mono ?_;rintro e w2 ⟨rfl,hb⟩;have HW2:=Hd (aA HW.out hb);clear hb HD HW;go_wp2_with fail;go_roundw
   case rel=>exact⟨q,s,rfl,rfl,HB2,HG2,HW2⟩
   case measure=>simp only[HS1.out,HS2.out];exact HM.out
end
section
open Go Go.RowKit Num
theorem vN(l:List UInt8)(w:World)(hl:l.length<=1000):
  Calls prog 223 #[.string ⟨l.toArray⟩] w fun e w'=>e=.returned (.bool (decide (val l=0)))/\w'=w:=by
 have H:=Hd (fun W=>iD l [] W (by omega) (by simp));rw[Nj] at H
 by_cases h:val l=0
 ·have e:bG (val l) 0=0:=by rw[h];rfl
  rw[e] at H;rw[decide_eq_true h];clear e h;go_enter func223,ntmps223;go_wp2_with fail;refine(H.out _).mono ?_;rintro e w1 ⟨rfl,rfl⟩;go_wp2;go_ret;exact⟨rfl,rfl⟩
 ·have e:(bG (val l) 0==0)=false:=by unfold bG;split <;> (try split) <;> simp <;> omega
  rw[decide_eq_false h];generalize bG (val l) 0=z at *;clear h;go_enter func223,ntmps223;go_wp2_with fail;refine(H.out _).mono ?_;rintro e w1 ⟨rfl,rfl⟩;go_wp2;go_ret;exact⟨rfl,rfl⟩
theorem Iz(w:World):Calls prog 186 #[] w fun e w'=>e=.returned (.string ⟨([49]:List UInt8).toArray⟩)/\w'=w:=by
 have H:=Hd (fun W=>nS 1 (by decide) (by decide) W);rw[mK] at H;go_enter func186,ntmps186;go_wp2_with fail;refine(H.out _).mono ?_;rintro e w1 ⟨rfl,rfl⟩;go_wp2;go_ret;exact⟨rfl,rfl⟩
theorem Bc(l:List UInt8)(g:Nat)(w:World)(hl:l.length<=1000)(h1:(val l).natAbs<100000000000000000)(hg:g<100000000000000000)(h0:0<g):
  Calls prog 303 #[.string ⟨l.toArray⟩,.string ⟨(aU g).toArray⟩] w fun e w'=>e=.returned (.string ⟨(aJ (val l/(g:Int))).toArray⟩)/\Below w.heap.size w w':=by
 have H:=Hd (fun W=>Je l (aU g) W hl (pL hg) h1 (by rw[eQ];omega) (by rw[eQ];omega));rw[eQ] at H;generalize aJ (val l/(g:Int))=r at *;generalize aJ (val l%(g:Int))=r2 at *;generalize aU g=cg at *;clear hg h1;go_enter func303,ntmps303;go_wp2_with fail;refine(H.out _).mono ?_;rintro e w1 ⟨rfl,hb⟩;have HB:=Hd hb;clear hb;go_wp2;go_ret;exact⟨rfl,HB.out⟩
def gL(n d:List UInt8):List UInt8:=if val d<0 then aJ (-(val n)) else n
def gW(d:List UInt8):List UInt8:=if val d=0 then[49] else if val d<0 then aJ (-(val d)) else d
theorem Bb(n d:List UInt8)(w:World)(hn:n.length<=1000)(hd:d.length<=1000):
  Calls prog 157 #[.agg #[.string ⟨n.toArray⟩,.string ⟨d.toArray⟩]] w fun e w'=>e=.returned (.tuple #[.string ⟨(gL n d).toArray⟩,.string ⟨(gW d).toArray⟩])/\Below w.heap.size w w':=by
 have HZ:=Hd (fun W=>vN d W hd);have HO:=Hd (fun W=>Iz W);have HB:=Hd (aB w (.cells #[.string ⟨n.toArray⟩,.string ⟨d.toArray⟩] 25))
 by_cases h0:val d=0
 ·have e1:gL n d=n:=by unfold gL;rw[if_neg (by omega)]
  have e2:gW d=[49]:=by unfold gW;rw[if_pos h0]
  rw[e1,e2];rw[decide_eq_true h0] at HZ;clear e1 e2 h0;go_enter func157,ntmps157;go_wp2_with fail;refine(HZ.out _).mono ?_;rintro e w1 ⟨rfl,rfl⟩;go_wp2_with fail;go_quiet (refine Calls.quiet_of_same (HO.out _));go_wp2;go_ret2;exact⟨rfl,aD HB.out _⟩
 ·have HC:=Hd (fun W=>iD d [] W (by omega) (by simp));rw[Nj] at HC;rw[decide_eq_false h0] at HZ
  by_cases h1:val d<0
  ·have e1:gL n d=aJ (-(val n)):=by unfold gL;rw[if_pos h1]
   have e2:gW d=aJ (-(val d)):=by unfold gW;rw[if_neg h0,if_pos h1]
   have e3:bG (val d) 0 = -1:=by unfold bG;rw[if_pos h1]
   have HNG:Hid (∀(z:List UInt8) W,z.length<=1000->Calls prog 224 #[.string ⟨z.toArray⟩] W fun e w'=>e=.returned (.string ⟨(aJ (-(val z))).toArray⟩)/\w'=W):=fun z W hz=>(Wa z W (by omega)).mono (fun _ _ ⟨h,h'⟩=>⟨h,h'.symm⟩)
   rw[e1,e2];rw[e3] at HC;clear e1 e2 e3 h0 h1;go_enter func157,ntmps157;go_wp2_with fail;refine(HZ.out _).mono ?_;rintro e w1 ⟨rfl,rfl⟩;go_wp2_with fail;refine(HC.out _).mono ?_;rintro e w1 ⟨rfl,rfl⟩;go_wp2_with fail;go_quiet (refine Calls.quiet_of_same (HNG.out _ _ (by first|exact hn|exact hd)));go_wp2;go_ret2;exact⟨rfl,aD HB.out _⟩
  ·have e1:gL n d=n:=by unfold gL;rw[if_neg h1]
   have e2:gW d=d:=by unfold gW;rw[if_neg h0,if_neg h1]
   have e3:bG (val d) 0=1:=by unfold bG;rw[if_neg h1,if_pos (by omega)]
   rw[e1,e2];rw[e3] at HC;clear e1 e2 e3 h0 h1;go_enter func157,ntmps157;go_wp2_with fail;refine(HZ.out _).mono ?_;rintro e w1 ⟨rfl,rfl⟩;go_wp2_with fail;refine(HC.out _).mono ?_;rintro e w1 ⟨rfl,rfl⟩;go_wp2_with fail;go_quiet (fail);go_wp2;go_ret2;exact⟨rfl,aD HB.out _⟩
theorem Sx{N D:Int}(h:0<D):eT N D=N/(gE N D:Int):=by
 unfold eT;rw[if_neg (by omega),Int.fdiv_eq_ediv_of_nonneg _ (by omega)]
theorem yU{N D:Int}(h:0<D):fT N D=D/(gE N D:Int):=by
 unfold fT;rw[if_neg (by omega),Int.fdiv_eq_ediv_of_nonneg _ (by omega)]
theorem Cj(D:Int):eT 0 D=0:=by unfold eT;simp
theorem Px{D:Int}(h:0<D):fT 0 D=1:=by
 rw[yU h];have e:(gE 0 D:Int)=D:=by unfold gE;simp;omega
 rw[e];exact Int.ediv_self (by omega)
theorem Zg{z:Int}(h:z≠1):nD z=aJ z:=by
 unfold nD;rw[if_neg];intro e;rw[<-mK] at e;exact h (Rn e)
theorem Ur{l:List UInt8}{N g:Int}(h:N=val l)(hl:(val l).natAbs<100000000000000000):(aJ (N/g)).length<=1000:=by
 have h1:(N/g).natAbs<10^17:=by
  have:=Int.natAbs_ediv_le_natAbs N g;rw[h] at this ⊢;omega
 exact Nat.le_trans (gC (K:=17) (by decide) h1) (by decide)
theorem Fi(n d:List UInt8)(w:World)(hn:n.length<=1000)(hd:d.length<=1000)(h1:(val n).natAbs<100000000000000000)(h2:(val d).natAbs<100000000000000000)(h0:0<val d):
  Calls prog 271 #[.string ⟨n.toArray⟩,.string ⟨d.toArray⟩] w fun e w'=>e=.returned (.agg #[.string ⟨(aJ (eT (val n) (val d))).toArray⟩,.string ⟨(nD (fT (val n) (val d))).toArray⟩])/\Below w.heap.size w w':=by
 have HZ:=Hd (fun W=>vN n W hn);have HB0:=Hd (aB w (.cells #[.string ⟨#[]⟩,.string ⟨#[]⟩] 25));have HX0:=Hd (aP.new0 w #[.string ⟨#[]⟩,.string ⟨#[]⟩] 25)
 by_cases hz:val n=0
 ·rw[decide_eq_true hz] at HZ;rw[hz,Cj,Px h0,oO,nA];have k0:=HX0.out.cell 0;have k1:=HX0.out.cell 1;have f0:=aR HX0.out.2 0;have f1:=aR HX0.out.2 1;clear hz h0 h1 h2 HX0;go_enter func271,ntmps271;go_wp2_with fail;refine(HZ.out _).mono ?_;rintro e w1 ⟨rfl,rfl⟩;go_wp2_with fail;refine bodyPost_ret (v:=.agg #[.string ⟨#[]⟩,.string ⟨#[]⟩]) (by simp[results,results271,go_sem,k0,k1]) rfl ⟨rfl,HB0.out⟩
 ·have hgp:0<gE (val n) (val d):=qJ (by omega);have hgl:gE (val n) (val d)<100000000000000000:=Nat.lt_of_le_of_lt (Oi (by omega)) h2;rw[decide_eq_false hz] at HZ;have HG:=Hd (fun W=>Wc n d W hn hd h1 h2);have HE1:=Hd (fun W=>Bc n (gE (val n) (val d)) W hn h1 hgl hgp);have HE2:=Hd (fun W=>Bc d (gE (val n) (val d)) W hd h2 hgl hgp);have HO:=Hd (fun W=>Iz W);rw[<-Sx h0] at HE1;rw[<-yU h0] at HE2;have hdl:(aJ (fT (val n) (val d))).length<=1000:=by rw[yU h0];exact Ur (l:=d) rfl h2
  have HC:=Hd (fun W=>iD (aJ (fT (val n) (val d))) [49] W (by omega) (by simp));rw[bE,jB] at HC;generalize aU (gE (val n) (val d))=cg at *;generalize aJ (eT (val n) (val d))=rn at *;obtain⟨z,hz2⟩:∃z,z=fT (val n) (val d):=⟨_,rfl⟩
  rw[<-hz2] at HE2 HC hdl ⊢;clear hz2 hgp hgl h1 h2 h0 hz;go_enter func271,ntmps271;go_wp2_with fail;refine(HZ.out _).mono ?_;rintro e w1 ⟨rfl,rfl⟩;go_wp2_with fail;refine(HG.out _).mono ?_;rintro e w2 ⟨rfl,hb2⟩;have HX2:=Hd (HX0.out.below hb2);have HB2:=Hd (aA HB0.out hb2);clear hb2 HX0 HB0 HG;go_wp2_with fail;refine(HE1.out _).mono ?_;rintro e w3 ⟨rfl,hb3⟩;have HX3:=Hd (HX2.out.below hb3);have HB3:=Hd (aA HB2.out hb3);clear hb3 HX2 HB2 HE1;go_wp2_with fail;refine(HE2.out _).mono ?_;rintro e w4 ⟨rfl,hb4⟩;have HX4:=Hd (HX3.out.below hb4);have HB4:=Hd (aA HB3.out hb4);clear hb4 HX3 HB3 HE2;have HX5:=Hd (HX4.out.below (aB w4 (.cells #[.string ⟨rn.toArray⟩,.string ⟨(aJ z).toArray⟩] 25)));have HB5:=Hd (aA HB4.out (aB w4 (.cells #[.string ⟨rn.toArray⟩,.string ⟨(aJ z).toArray⟩] 25)));have HX6:=Hd (aP.new0 w4 #[.string ⟨rn.toArray⟩,.string ⟨(aJ z).toArray⟩] 25);have hlt:=HX4.out.1;have HLE:=Hd HB4.out.size;have c0:=HX6.out.cell 0;have c1:=HX6.out.cell 1;have g1:=aR HX6.out.2 1;have k0:=HX5.out.cell 0;have k1:=HX5.out.cell 1;have f0:=aR HX5.out.2 0;have f1:=aR HX5.out.2 1;have hne:w.heap.size≠w4.heap.size:=by omega
  have hne2:w4.heap.size≠w.heap.size:=by omega
  by_cases hz1:z=1
  ·have HC2:Hid (∀W,Calls prog 154 #[.string ⟨(aJ z).toArray⟩,.string ⟨([49]:List UInt8).toArray⟩] W fun e w'=>e=.returned (.int .i64 0)/\w'=W):=fun W=>by
    have h:=HC.out W;rw[hz1,show bG 1 1=0 from rfl,<-hz1] at h;exact h.mono fun _ _ ⟨h,h'⟩=>⟨h,h'.symm⟩
   have hfd:nD z=[]:=by rw[hz1,oO]
   have HFD:=Hd hfd;clear hfd hz1 HC HX4 HB4 hlt;generalize aJ z=cz at *;go_wp2_with fail;go_quiet (first|(go_at_call 186;refine Calls.quiet_of_same (HO.out _))|(go_at_call 154;refine Calls.quiet_of_same (HC2.out _)));go_wp2;refine bodyPost_ret (v:=.agg #[.string ⟨rn.toArray⟩,.string ⟨#[]⟩]) (by simp[results,results271,go_sem,k0,k1]) rfl ⟨by rw[HFD.out],?_⟩;exact(((aD HB5.out _).setCell (p:=⟨w4.heap.size,1,none⟩) HLE.out _).setCell (p:=⟨w.heap.size,0,none⟩) (Nl _) _).setCell (p:=⟨w.heap.size,1,none⟩) (Nl _) _
  ·have hcn:(bG z 1==0)=false:=by unfold bG;split <;> (try split) <;> simp <;> omega
   have HC2:Hid (∀W,Calls prog 154 #[.string ⟨(aJ z).toArray⟩,.string ⟨([49]:List UInt8).toArray⟩] W fun e w'=>e=.returned (.int .i64 (bG z 1))/\w'=W):=fun W =>
    (HC.out W).mono fun _ _ ⟨h,h'⟩=>⟨h,h'.symm⟩
   have HFD:=Hd (Zg hz1);clear hz1 HC HX4 HB4 hlt;generalize bG z 1=cz1 at *;generalize hcz:aJ z=cz at *;go_wp2_with fail;go_quiet (first|(go_at_call 186;refine Calls.quiet_of_same (HO.out _))|(go_at_call 154;refine Calls.quiet_of_same (HC2.out _)));go_wp2;refine bodyPost_ret (v:=.agg #[.string ⟨rn.toArray⟩,.string ⟨cz.toArray⟩]) (by simp[results,results271,go_sem,k0,k1]) rfl ⟨by rw[HFD.out],?_⟩;exact((aD HB5.out _).setCell (p:=⟨w.heap.size,0,none⟩) (Nl _) _).setCell (p:=⟨w.heap.size,1,none⟩) (Nl _) _
theorem mP(n d:List UInt8):val (gL n d)=if val d<0 then -(val n) else val n:=by
 unfold gL;split
 ·rw[bE]
 ·rfl
theorem qD(d:List UInt8):val (gW d)=if lU d<0 then -(lU d) else lU d:=by
 unfold gW lU
 by_cases h:val d=0
 ·rw[if_pos h,if_pos h,if_neg (by omega)];exact jB
 ·rw[if_neg h,if_neg h];split
  ·rw[bE]
  ·rfl
theorem Tn(d:List UInt8):0<val (gW d):=by
 have:=qQ d;rw[qD];split <;> omega
theorem vW(n d:List UInt8):eT (val (gL n d)) (val (gW d))=eT (val n) (lU d)/\fT (val (gL n d)) (val (gW d))=fT (val n) (lU d):=by
 rw[mP,qD];have hd:val d<0↔lU d<0:=by unfold lU;split <;> omega
 by_cases h:lU d<0
 ·rw[if_pos (hd.2 h),if_pos h];unfold eT fT;rw[Hw,if_pos h,if_pos h,if_neg (by omega),if_neg (by omega)];exact⟨rfl,rfl⟩
 ·rw[if_neg (fun e=>h (hd.1 e)),if_neg h];exact⟨rfl,rfl⟩
theorem yW(n d:List UInt8):(val (gL n d)).natAbs=(val n).natAbs:=by rw[mP];split <;> simp
theorem yZ(d:List UInt8):(val (gW d)).natAbs=(lU d).natAbs:=by rw[qD];split <;> simp
theorem yV{n d:List UInt8}{K:Nat}(hK:1<=K)(h:n.length<=K):(gL n d).length<=K+1:=by
 unfold gL;split
 ·exact yH hK h
 ·omega
theorem yY{d:List UInt8}{K:Nat}(hK:1<=K)(h:d.length<=K):(gW d).length<=K+1:=by
 unfold gW;split
 ·simp
 ·split
  ·exact yH hK h
  ·omega
end
section
open Go Go.RowKit Num
theorem Ew{d:List UInt8}{K:Nat}(h:(val d).natAbs<K)(hK:1<K):(lU d).natAbs<K:=by unfold lU;split <;> omega
theorem xS(n d:List UInt8)(w:World)(hn:n.length<=900)(hd:d.length<=900)(h1:(val n).natAbs<100000000000000000)(h2:(val d).natAbs<100000000000000000):
  Calls prog 229 #[.agg #[.string ⟨n.toArray⟩,.string ⟨d.toArray⟩]] w fun e w'=>e=.returned (.agg #[.string ⟨(aJ (eT (val n) (lU d))).toArray⟩,.string ⟨(nD (fT (val n) (lU d))).toArray⟩])/\Below w.heap.size w w':=by
 have HR:=Hd (fun W=>Bb n d W (by omega) (by omega));have HD:=Hd (fun W=>Fi (gL n d) (gW d) W (by have:=yV (d:=d) (K:=900) (by decide) hn;omega) (by have:=yY (K:=900) (by decide) hd;omega) (by rw[yW];exact h1) (by rw[yZ];exact Ew h2 (by decide)) (Tn d));rw[(vW n d).1,(vW n d).2] at HD;generalize gL n d=rn at *;generalize gW d=rd at *;generalize aJ (eT (val n) (lU d))=cn at *;generalize nD (fT (val n) (lU d))=cd at *;have HB:=Hd (((Br w.heap.size w).alloc (Nl _) (.cells #[.string ⟨n.toArray⟩,.string ⟨d.toArray⟩] 25)).alloc (by simp) (.cells #[.string ⟨#[]⟩,.string ⟨#[]⟩] 25));have HX:Hid (aP ((w.alloc (.cells #[.string ⟨n.toArray⟩,.string ⟨d.toArray⟩] 25)).alloc (.cells #[.string ⟨#[]⟩,.string ⟨#[]⟩] 25)) (w.heap.size+1) #[.string ⟨#[]⟩,.string ⟨#[]⟩] 25):=by
  have h:=aP.new0 (w.alloc (.cells #[.string ⟨n.toArray⟩,.string ⟨d.toArray⟩] 25)) #[.string ⟨#[]⟩,.string ⟨#[]⟩] 25;rw[World.size_alloc] at h;exact h
 clear h1 h2;go_enter func229,ntmps229;go_wp2_with fail;refine(HR.out _).mono ?_;rintro e w1 ⟨rfl,hb1⟩;have HX1:=Hd (HX.out.below hb1);have HB1:=Hd (aA HB.out hb1);clear hb1 HX HB HR;go_wp2_with fail;refine(HD.out _).mono ?_;rintro e w2 ⟨rfl,hb2⟩;have HX2:=Hd (HX1.out.below hb2);have HB2:=Hd (aA HB1.out hb2);have k0:=HX2.out.cell 0;have k1:=HX2.out.cell 1;have f0:=aR HX2.out.2 0;have f1:=aR HX2.out.2 1;clear hb2 HX1 HB1 HD;go_wp2;refine bodyPost_ret (v:=.agg #[.string ⟨cn.toArray⟩,.string ⟨cd.toArray⟩]) (by simp[results,results229,go_sem,k0,k1]) rfl ⟨rfl,?_⟩;exact(HB2.out.setCell (p:=⟨w.heap.size+1,0,none⟩) (by show _<=w.heap.size+1;omega) _).setCell (p:=⟨w.heap.size+1,1,none⟩) (by show _<=w.heap.size+1;omega) _
def nE(n d n' d':List UInt8):Int:=bG (val (gL n d)*val (gW d')) (val (gL n' d')*val (gW d))
theorem rX(n d n' d':List UInt8)(w:World)(hn:n.length<=16)(hd:d.length<=16)(hn':n'.length<=16)(hd':d'.length<=16):
  Calls prog 101 #[.agg #[.string ⟨n.toArray⟩,.string ⟨d.toArray⟩],.agg #[.string ⟨n'.toArray⟩,.string ⟨d'.toArray⟩]] w fun e w'=>e=.returned (.int .i64 (nE n d n' d'))/\Below w.heap.size w w':=by
 have HR1:=Hd (fun W=>Bb n d W (by omega) (by omega));have HR2:=Hd (fun W=>Bb n' d' W (by omega) (by omega));have a1:(val (gL n d)).natAbs<100000000000000000:=by rw[yW];exact Nat.lt_of_lt_of_le (lO hn) (by decide)
 have a2:(val (gL n' d')).natAbs<100000000000000000:=by rw[yW];exact Nat.lt_of_lt_of_le (lO hn') (by decide)
 have a3:(val (gW d)).natAbs<100000000000000000:=by rw[yZ];exact Nat.lt_of_lt_of_le (Ew (lO hd) (by decide)) (by decide)
 have a4:(val (gW d')).natAbs<100000000000000000:=by rw[yZ];exact Nat.lt_of_lt_of_le (Ew (lO hd') (by decide)) (by decide)
 have l1:=yV (d:=d) (by decide:1<=16) hn;have l2:=yV (d:=d') (by decide:1<=16) hn';have l3:=yY (by decide:1<=16) hd;have l4:=yY (by decide:1<=16) hd';have HM1:=Hd (fun W=>Ja (gL n d) (gW d') W (by omega) (by omega) a1 a4);have HM2:=Hd (fun W=>Ja (gL n' d') (gW d) W (by omega) (by omega) a2 a3);have m1:=lE (l:=gL n d) (m:=gW d') l1 l4 (by decide);have m2:=lE (l:=gL n' d') (m:=gW d) l2 l3 (by decide);have HC:=Hd (fun W=>iD (aJ (val (gL n d)*val (gW d'))) (aJ (val (gL n' d')*val (gW d))) W (by omega) (by omega));rw[bE,bE] at HC;have hf:bG (val (gL n d)*val (gW d')) (val (gL n' d')*val (gW d))=nE n d n' d':=rfl;rw[hf] at HC;clear a1 a2 a3 a4 l1 l2 l3 l4 m1 m2 hf;generalize nE n d n' d'=z at *;generalize aJ (val (gL n d)*val (gW d'))=p1 at *;generalize aJ (val (gL n' d')*val (gW d))=p2 at *;generalize gL n d=r1 at *;generalize gL n' d'=r2 at *;generalize gW d=s1 at *;generalize gW d'=s2 at *;have HB:=Hd (((Br w.heap.size w).alloc (Nl _) (.cells #[.string ⟨n.toArray⟩,.string ⟨d.toArray⟩] 25)).alloc (by simp) (.cells #[.string ⟨n'.toArray⟩,.string ⟨d'.toArray⟩] 25));have HX:Hid (aP ((w.alloc (.cells #[.string ⟨n.toArray⟩,.string ⟨d.toArray⟩] 25)).alloc (.cells #[.string ⟨n'.toArray⟩,.string ⟨d'.toArray⟩] 25)) (w.heap.size+1) #[.string ⟨n'.toArray⟩,.string ⟨d'.toArray⟩] 25):=by
  have h:=aP.new0 (w.alloc (.cells #[.string ⟨n.toArray⟩,.string ⟨d.toArray⟩] 25)) #[.string ⟨n'.toArray⟩,.string ⟨d'.toArray⟩] 25;rw[World.size_alloc] at h;exact h
 have HX0:Hid (aP ((w.alloc (.cells #[.string ⟨n.toArray⟩,.string ⟨d.toArray⟩] 25)).alloc (.cells #[.string ⟨n'.toArray⟩,.string ⟨d'.toArray⟩] 25)) w.heap.size #[.string ⟨n.toArray⟩,.string ⟨d.toArray⟩] 25):=(aP.new0 w _ _).below (aB _ _);have q0:=HX0.out.cell 0;have q1:=HX0.out.cell 1;go_enter func101,ntmps101;go_wp2_with fail;refine(HR1.out _).mono ?_;rintro e w1 ⟨rfl,hb1⟩;have HB1:=Hd (aA HB.out hb1);have k0:=(HX.out.below hb1).cell 0;have k1:=(HX.out.below hb1).cell 1;clear hb1 HX HX0 HB HR1 q0 q1;go_wp2_with fail;refine(HR2.out _).mono ?_;rintro e w2 ⟨rfl,hb2⟩;have HB2:=Hd (aA HB1.out hb2);clear hb2 HB1 HR2 k0 k1;go_wp2_with fail;refine(HM1.out _).mono ?_;rintro e w3 ⟨rfl,hb3⟩;have HB3:=Hd (aA HB2.out hb3);clear hb3 HB2 HM1;go_wp2_with fail;refine(HM2.out _).mono ?_;rintro e w4 ⟨rfl,hb4⟩;have HB4:=Hd (aA HB3.out hb4);clear hb4 HB3 HM2;go_wp2_with fail;refine(HC.out _).mono ?_;rintro e w5 ⟨rfl,rfl⟩;go_wp2;go_ret;exact⟨rfl,HB4.out⟩
theorem sU(n d:List UInt8)(w:World)(hn:n.length<=16)(hd:d.length<=16):
  Calls prog 156 #[.agg #[.string ⟨n.toArray⟩,.string ⟨d.toArray⟩]] w fun e w'=>e=.returned (.int .i64 (nE n d [] []))/\Below w.heap.size w w':=by
 have HC:=Hd (fun W=>rX n d [] [] W hn hd (by simp) (by simp));have HB:=Hd (aB w (.cells #[.string ⟨n.toArray⟩,.string ⟨d.toArray⟩] 25));generalize nE n d [] []=z at *;go_enter func156,ntmps156;go_wp2_with fail;refine(HC.out _).mono ?_;rintro e w1 ⟨rfl,hb1⟩;have HB1:=Hd (aA HB.out hb1);clear hb1;go_wp2;go_ret;exact⟨rfl,HB1.out⟩
theorem Jd(n d:List UInt8)(w:World)(hn:n.length<=16)(hd:d.length<=16):
  Calls prog 222 #[.agg #[.string ⟨n.toArray⟩,.string ⟨d.toArray⟩]] w fun e w'=>e=.returned (.int .i64 (if Cu n d=true then 0 else 1))/\Below w.heap.size w w':=by
 have HC:=Hd (fun W=>xS n d W (by omega) (by omega) (Nat.lt_of_lt_of_le (lO hn) (by decide)) (Nat.lt_of_lt_of_le (lO hd) (by decide)));unfold Cu;generalize aJ (eT (val n) (lU d))=cn at *;generalize nD (fT (val n) (lU d))=cd at *;have HX0:=Hd (aP.new0 w #[.string ⟨n.toArray⟩,.string ⟨d.toArray⟩] 25);have HB0:=Hd (aB w (.cells #[.string ⟨n.toArray⟩,.string ⟨d.toArray⟩] 25));have HC2:Hid (∀k,Calls prog 229 #[.agg #[.string ⟨n.toArray⟩,.string ⟨d.toArray⟩]] ((w.alloc (.cells #[.string ⟨n.toArray⟩,.string ⟨d.toArray⟩] 25)).drewN k) fun e w'=>e=.returned (.agg #[.string ⟨cn.toArray⟩,.string ⟨cd.toArray⟩])/\Below (w.alloc (.cells #[.string ⟨n.toArray⟩,.string ⟨d.toArray⟩] 25)).heap.size (w.alloc (.cells #[.string ⟨n.toArray⟩,.string ⟨d.toArray⟩] 25)) w'):=fun k =>
  (HC.out _).mono fun e w' ⟨h1,h2⟩=>⟨h1,(aD (Br _ _) k).trans h2⟩
 have k0:=HX0.out.cell 0;have k1:=HX0.out.cell 1;rcases(show (n=cn/\d=cd)∨(n=cn/\¬ d=cd)∨¬ n=cn by by_cases h:n=cn <;> by_cases h':d=cd <;> simp[h,h']) with⟨h1,h2⟩|⟨h1,h2⟩|h1
 ·subst h1 h2;rw[if_pos (by simp)];go_enter func222,ntmps222;go_wp2_with fail;go_region_held3 (fun W=>W.cell? ⟨w.heap.size,0,none⟩=some (.string ⟨n.toArray⟩)/\W.cell? ⟨w.heap.size,1,none⟩=some (.string ⟨d.toArray⟩)) (first|exact⟨k0,k1⟩|go_keep)
   (first|(go_at_call 229;refine(HC2.out 1).mono ?_;rintro e w5 ⟨rfl,hb5⟩;have k0:=(HX0.out.below hb5).cell 0;have k1:=(HX0.out.below hb5).cell 1;have HB5:=Hd (aA HB0.out hb5);clear hb5))
  go_wp2;go_ret;exact⟨rfl,HB5.out⟩
 ·subst h1;rw[if_neg (by simp[h2])];have h2':(d==cd)=false:=by simpa using h2
  go_enter func222,ntmps222;go_wp2_with fail;go_region_held3 (fun W=>W.cell? ⟨w.heap.size,0,none⟩=some (.string ⟨n.toArray⟩)/\W.cell? ⟨w.heap.size,1,none⟩=some (.string ⟨d.toArray⟩)) (first|exact⟨k0,k1⟩|go_keep)
   (first|(go_at_call 229;refine(HC2.out 1).mono ?_;rintro e w5 ⟨rfl,hb5⟩;have k0:=(HX0.out.below hb5).cell 0;have k1:=(HX0.out.below hb5).cell 1;have HB5:=Hd (aA HB0.out hb5);clear hb5))
  go_wp2;go_ret;exact⟨rfl,HB5.out⟩
 ·rw[if_neg (by simp[h1])];have h1':(n==cn)=false:=by simpa using h1
  go_enter func222,ntmps222;go_wp2_with fail;go_region_held3 (fun W=>W.cell? ⟨w.heap.size,0,none⟩=some (.string ⟨n.toArray⟩)/\W.cell? ⟨w.heap.size,1,none⟩=some (.string ⟨d.toArray⟩)) (first|exact⟨k0,k1⟩|go_keep)
   (first|(go_at_call 229;refine(HC2.out 1).mono ?_;rintro e w5 ⟨rfl,hb5⟩;have k0:=(HX0.out.below hb5).cell 0;have k1:=(HX0.out.below hb5).cell 1;have HB5:=Hd (aA HB0.out hb5);clear hb5))
  go_wp2;go_ret;exact⟨rfl,HB5.out⟩
end
section
open Go.RowKit Num
theorem Da(z:Int):(bG z 0<0↔z<0)/\(bG z 0=0↔z=0)/\(0<bG z 0↔0<z):=by
 unfold bG;split
 ·refine⟨?_,?_,?_⟩ <;> omega
 ·split
  ·refine⟨?_,?_,?_⟩ <;> omega
  ·refine⟨?_,?_,?_⟩ <;> omega
theorem Vo(a b:Int):bG a b=bG (a-b) 0:=by
 unfold bG
 by_cases h1:a<b
 ·rw[if_pos h1,if_pos (by omega)]
 ·by_cases h2:b<a
  ·rw[if_neg h1,if_pos h2,if_neg (by omega),if_pos (by omega)]
  ·rw[if_neg h1,if_neg h2,if_neg (by omega),if_neg (by omega)]
theorem Rk{X:Int}{g:Nat}(hg:0<g)(h:X.natAbs%g=0):bG (X.fdiv g) 0=bG X 0:=by
 obtain⟨k,hk⟩:∃k:Int,X=k*(g:Int):=by
  have h1:(g:Int)∣X:=by
   rw[<-Int.dvd_natAbs];exact Int.ofNat_dvd.2 (Nat.dvd_of_mod_eq_zero h)
  obtain⟨k,hk⟩:=h1;exact⟨k,by rw[hk,Int.mul_comm]⟩
 have hf:X.fdiv g=k:=by rw[hk];exact Int.mul_fdiv_cancel k (by omega)
 rw[hf];have hgI:(0:Int)<(g:Int):=by omega
 unfold bG
 by_cases h1:k<0
 ·have:X<0:=by rw[hk];exact Int.mul_neg_of_neg_of_pos h1 hgI
  rw[if_pos h1,if_pos this]
 ·by_cases h2:0<k
  ·have:0<X:=by rw[hk];exact Int.mul_pos h2 hgI
   rw[if_neg h1,if_pos h2,if_neg (by omega),if_pos this]
  ·have h0:k=0:=by omega
   have:X=0:=by rw[hk,h0];simp
   rw[if_neg h1,if_neg h2,if_neg (by omega),if_neg (by omega)]
theorem uT{N D:Int}(hD:D≠0):bG (eT N D) 0=bG (if D<0 then -N else N) 0:=by
 unfold eT;refine Rk (qJ hD) ?_;have:=yF N D;split
 ·rw[Int.natAbs_neg];exact this
 ·exact this
theorem uA:lU []=1:=by unfold lU;rw[if_pos (show val ([]:List UInt8)=0 from rfl)]
theorem Gi:val (gL [] [])=0:=by rw[mP];rfl
theorem yX:val (gW [])=1:=by rw[qD,uA];rfl
theorem oX(d:List UInt8):val d<0↔lU d<0:=by unfold lU;split <;> omega
theorem vD(n d:List UInt8):pW n d=nE n d [] []:=by
 unfold pW nE iY iG;rw[uA,Gi,yX,Int.mul_one,Int.mul_one,Int.zero_mul,Int.mul_one,mP];have e:val ([]:List UInt8)=0:=rfl;rw[e,Int.zero_mul,Int.sub_zero,uT (qQ d)]
 by_cases h:lU d<0
 ·rw[if_pos h,if_pos ((oX d).2 h)]
 ·rw[if_neg h,if_neg (fun e=>h ((oX d).1 e))]
theorem Qx(n d:List UInt8):tU n d=nE n d [49] []:=by
 unfold tU nE iY iG;have e1:val (gL [49] [])=1:=by rw[mP,jB];rfl
 rw[uA,yX,e1,jB,Int.mul_one,Int.mul_one,Int.one_mul,Int.one_mul,Int.mul_one,uT (qQ d),Vo (val (gL n d)),mP,qD]
 by_cases h:lU d<0
 ·rw[if_pos h,if_pos ((oX d).2 h),if_pos h];congr 1;omega
 ·rw[if_neg h,if_neg (fun e=>h ((oX d).1 e)),if_neg h]
theorem Fb{l:List UInt8}(h:l.length<=13):¬ 40<(body l).length:=by have:=uG l;omega
theorem tO{n d:List UInt8}(hn:n.length<=13)(hd:d.length<=13)(p:Bool):lim p false n d=if Cu n d=false then 1 else if nE n d [] []<0∨(p=true/\nE n d [] []=0) then 2 else 0:=by
 unfold lim;rw[vD,if_neg (show ¬ (40<(body n).length∨40<(body d).length) from fun h=>h.elim (Fb hn) (Fb hd))];simp
theorem Ue{n d:List UInt8}(hn:n.length<=13)(hd:d.length<=13):lim false true n d=if Cu n d=false then 1 else if nE n d [] []<0∨0<nE n d [49] [] then 2 else 0:=by
 unfold lim;rw[vD,Qx,if_neg (show ¬ (40<(body n).length∨40<(body d).length) from fun h=>h.elim (Fb hn) (Fb hd))];simp
theorem Yw(a:List UInt8):Cu a []=(a==aJ (val a)):=by
 unfold Cu;have e1:eT (val a) 1=val a:=by
  unfold eT gE;simp
 have e2:fT (val a) 1=1:=by
  unfold fT gE;simp
 rw[uA,e1,e2,oO];simp
theorem Xn{a:List UInt8}(ha:a.length<=13)(p:Bool):lim p false a []=if(a==aJ (val a))=false then 1 else if val a<(if p=true then 1 else 0) then 2 else 0:=by
 rw[tO ha (by simp) p,Yw];have e:nE a [] [] []=bG (val a) 0:=by
  unfold nE;rw[Gi,yX,mP];have e:val ([]:List UInt8)=0:=rfl;rw[e,if_neg (by omega),Int.mul_one,Int.mul_one]
 obtain⟨c1,c2,_⟩:=Da (val a);rw[e];congr 1;have:(bG (val a) 0<0∨p=true/\bG (val a) 0=0)↔val a<(if p=true then 1 else 0):=by
  rw[c1,c2];cases p
  ·simp
  ·simp;omega
 simp only[this]
end
section
open Go Go.RowKit Num
def uY(l:List UInt8):Nat:=if l.head?=some 45 then l.length-1 else l.length
theorem qU(l:List UInt8)(w:World)(hl:l.length<=1000):
  Calls prog 153 #[.string ⟨l.toArray⟩] w fun e w'=>e=.returned (.int .i64 (uY l:Nat))/\w'=w:=by
 cases l with
 |nil =>
  go_enter func153,ntmps153;go_wp2;go_ret;exact⟨rfl,rfl⟩
 |cons c r =>
  have hsz:0<(⟨(c::r).toArray⟩:ByteArray).size:=by rw[aV];simp
  have hgk:((⟨(c::r).toArray⟩:ByteArray)[0]'hsz)=c:=rfl
  by_cases hc:c=45
  ·have e:uY (c::r)=r.length:=by unfold uY;rw[hc];simp
   have hc2:(c.toNat:Int)=45:=by rw[hc];rfl
   rw[e];clear e hc;go_enter func153,ntmps153;go_wp2;go_ret;exact⟨by simp;simp at hl;unfold wrap64;omega,rfl⟩
  ·have e:uY (c::r)=r.length+1:=by unfold uY;rw[if_neg (by simpa using hc)];rfl
   have hc2:((c.toNat:Int)==45)=false:=by
    have:c.toNat≠45:=fun h=>hc (UInt8.toNat_inj.1 h)
    simp;omega
   rw[e];clear e hc;go_enter func153,ntmps153;go_wp2;go_ret;exact⟨by simp,rfl⟩
theorem Dq(l:List UInt8):uY l<=l.length:=by unfold uY;split <;> omega
theorem pO(a:List UInt8)(p:Bool)(w:World)(ha:a.length<=13):
  Calls prog 98 #[.string ⟨a.toArray⟩,.string ⟨(if p=true then([49]:List UInt8) else[]).toArray⟩] w fun e w'=>e=.returned (.int .i64 (lim p false a []))/\w'=w:=by
 have H1:=Hd (fun W=>Mw a W (by omega));have H2:=Hd (fun W=>qU a W (by omega));have hnd:=Dq a;have hnd2:((uY a:Nat):Int)<=13:=by omega
 have H3:=Hd (fun W=>iD a (if p=true then([49]:List UInt8) else[]) W (by omega) (by split <;> simp));have e0:val (if p=true then([49]:List UInt8) else[])=(if p=true then 1 else 0):=by cases p;rfl;exact jB
 rw[e0] at H3;rw[Xn ha p];generalize(if p=true then([49]:List UInt8) else[])=le at *;generalize(if p=true then(1:Int) else 0)=lv at *;have hci:Hi a=(a==aJ (val a)):=by
  unfold Hi;rw[Bool.eq_iff_iff];simp only[decide_eq_true_eq,beq_iff_eq];exact⟨Eq.symm,Eq.symm⟩
 by_cases h1:(a==aJ (val a))=false
 ·rw[if_pos h1];rw[hci,h1] at H1;simp only[Bool.false_eq_true,if_false] at H1;clear h1 hci hnd;go_enter func98,ntmps98;go_wp2_with fail;refine(H1.out _).mono ?_;rintro e w1 ⟨rfl,rfl⟩;go_wp2;go_ret;exact⟨rfl,rfl⟩
 ·rw[if_neg h1];have h1':(a==aJ (val a))=true:=by simpa using h1
  rw[hci,h1'] at H1;simp only[if_true] at H1;have HV:Hid (bG (val a) lv<0↔val a<lv):=by
   show _↔_;unfold bG;split
   ·constructor <;> intro <;> omega
   ·split <;> constructor <;> intro <;> omega
  clear h1 h1' hci hnd e0;generalize bG (val a) lv=cv at *;generalize uY a=nd at *
  by_cases h2:val a<lv
  ·have h3:cv<0:=HV.out.2 h2;rw[if_pos h2];clear h2 HV;go_enter func98,ntmps98;go_wp2_with fail;refine(H1.out _).mono ?_;rintro e w1 ⟨rfl,rfl⟩;go_wp2_with fail;refine(H2.out _).mono ?_;rintro e w1 ⟨rfl,rfl⟩;go_wp2_with fail;refine(H3.out _).mono ?_;rintro e w1 ⟨rfl,rfl⟩;go_wp2;go_ret;exact⟨rfl,rfl⟩
  ·have h3:¬ cv<0:=fun h=>h2 (HV.out.1 h)
   rw[if_neg h2];clear h2 HV;go_enter func98,ntmps98;go_wp2_with fail;refine(H1.out _).mono ?_;rintro e w1 ⟨rfl,rfl⟩;go_wp2_with fail;refine(H2.out _).mono ?_;rintro e w1 ⟨rfl,rfl⟩;go_wp2_with fail;refine(H3.out _).mono ?_;rintro e w1 ⟨rfl,rfl⟩;go_wp2;go_ret;exact⟨rfl,rfl⟩
theorem xQ(l:List UInt8)(w:World)(hl:l.length<=1000):
  Calls prog 95 #[.string ⟨l.toArray⟩] w fun e w'=>e=.returned (.int .i64 (if dC l=true then 0 else 23))/\w'=w:=by
 have H:=Hd (fun W=>mL l W (by omega));generalize dC l=b at *;cases b
 all_goals
  go_enter func95,ntmps95;go_wp2_with fail;refine(H.out _).mono ?_;rintro e w1 ⟨rfl,rfl⟩;go_wp2;go_ret;exact⟨rfl,rfl⟩
theorem Cc(n d:List UInt8)(w:World)(hn:n.length<=13)(hd:d.length<=13):
  Calls prog 155 #[.agg #[.string ⟨n.toArray⟩,.string ⟨d.toArray⟩]] w fun e w'=>e=.returned (.int .i64 (if Cu n d=true then 0 else 1))/\Below w.heap.size w w':=by
 have H1:=Hd (fun W=>Jd n d W (by omega) (by omega));have H2:=Hd (fun W=>qU n W (by omega));have H3:=Hd (fun W=>qU d W (by omega));have n1:uY n<=13:=Nat.le_trans (Dq n) hn;have n2:uY d<=13:=Nat.le_trans (Dq d) hd;generalize uY n=dn at *;generalize uY d=dd at *;have HX:=Hd (aP.new0 w #[.string ⟨n.toArray⟩,.string ⟨d.toArray⟩] 25);have HB:=Hd (aB w (.cells #[.string ⟨n.toArray⟩,.string ⟨d.toArray⟩] 25));generalize Cu n d=b at *;cases b
 ·go_enter func155,ntmps155;go_wp2_with fail;refine(H1.out _).mono ?_;rintro e w1 ⟨rfl,hb⟩;have HB1:=Hd (aA HB.out hb);clear hb;go_wp2;go_ret;exact⟨rfl,HB1.out⟩
 ·go_enter func155,ntmps155;go_wp2_with fail;refine(H1.out _).mono ?_;rintro e w1 ⟨rfl,hb⟩;have HB1:=Hd (aA HB.out hb);have k0:=(HX.out.below hb).cell 0;have k1:=(HX.out.below hb).cell 1;clear hb;go_wp2_with fail;refine(H2.out _).mono ?_;rintro e w2 ⟨rfl,rfl⟩;go_wp2_with fail;refine(H3.out _).mono ?_;rintro e w2 ⟨rfl,rfl⟩;go_wp2;go_ret;exact⟨rfl,HB1.out⟩
theorem gD(n d:List UInt8)(p:Bool)(w:World)(hn:n.length<=13)(hd:d.length<=13):
  Calls prog 100 #[.agg #[.string ⟨n.toArray⟩,.string ⟨d.toArray⟩],.bool p] w fun e w'=>e=.returned (.int .i64 (lim p false n d))/\Below w.heap.size w w':=by
 have H1:=Hd (fun W=>Cc n d W hn hd);have H2:=Hd (fun W=>sU n d W (by omega) (by omega));rw[tO hn hd p];have HX:=Hd (aP.new0 w #[.string ⟨n.toArray⟩,.string ⟨d.toArray⟩] 25);have HB:=Hd (aB w (.cells #[.string ⟨n.toArray⟩,.string ⟨d.toArray⟩] 25));generalize Cu n d=b at *;generalize nE n d [] []=s at *;cases b
 ·go_enter func100,ntmps100;go_wp2_with fail;refine(H1.out _).mono ?_;rintro e w1 ⟨rfl,hb⟩;have HB1:=Hd (aA HB.out hb);clear hb;go_wp2;go_ret;exact⟨rfl,HB1.out⟩
 ·simp only[Bool.true_eq_false,if_false];rcases(show s<0∨(s=0/\p=true)∨(s=0/\p=false)∨0<s by cases p <;> simp <;> omega) with hs|⟨hs,rfl⟩|⟨hs,rfl⟩|hs
  ·rw[if_pos (.inl hs)];go_enter func100,ntmps100;go_wp2_with fail;refine(H1.out _).mono ?_;rintro e w1 ⟨rfl,hb⟩;have HB1:=Hd (aA HB.out hb);have k0:=(HX.out.below hb).cell 0;have k1:=(HX.out.below hb).cell 1;clear hb;go_wp2_with fail;refine(H2.out _).mono ?_;rintro e w2 ⟨rfl,hb⟩;have HB2:=Hd (aA HB1.out hb);clear hb k0 k1;go_wp2;go_ret;exact⟨rfl,HB2.out⟩
  ·rw[if_pos (.inr ⟨rfl,hs⟩)];subst hs;go_enter func100,ntmps100;go_wp2_with fail;refine(H1.out _).mono ?_;rintro e w1 ⟨rfl,hb⟩;have HB1:=Hd (aA HB.out hb);have HX1:=Hd (HX.out.below hb);have k0:=HX1.out.cell 0;have k1:=HX1.out.cell 1;clear hb;go_wp2_with fail;refine(H2.out _).mono ?_;rintro e w2 ⟨rfl,hb⟩;have HB2:=Hd (aA HB1.out hb);have j0:=(HX1.out.below hb).cell 0;have j1:=(HX1.out.below hb).cell 1;clear hb k0 k1;go_wp2_with fail;refine(H2.out _).mono ?_;rintro e w3 ⟨rfl,hb⟩;have HB3:=Hd (aA HB2.out hb);clear hb j0 j1;go_wp2;go_ret;exact⟨rfl,HB3.out⟩
  ·rw[if_neg (by rintro(h|⟨h,_⟩);omega;cases h)];subst hs;go_enter func100,ntmps100;go_wp2_with fail;refine(H1.out _).mono ?_;rintro e w1 ⟨rfl,hb⟩;have HB1:=Hd (aA HB.out hb);have k0:=(HX.out.below hb).cell 0;have k1:=(HX.out.below hb).cell 1;clear hb;go_wp2_with fail;refine(H2.out _).mono ?_;rintro e w2 ⟨rfl,hb⟩;have HB2:=Hd (aA HB1.out hb);clear hb k0 k1;go_wp2;go_ret;exact⟨rfl,HB2.out⟩
  ·rw[if_neg (by rintro(h|⟨_,h⟩) <;> omega)];have hs1:¬ s<0:=by omega
   have hs2:(s==0)=false:=by simp;omega
   cases p
   all_goals
    go_enter func100,ntmps100;go_wp2_with fail;refine(H1.out _).mono ?_;rintro e w1 ⟨rfl,hb⟩;have HB1:=Hd (aA HB.out hb);have HX1:=Hd (HX.out.below hb);have k0:=HX1.out.cell 0;have k1:=HX1.out.cell 1;clear hb;go_wp2_with fail;refine(H2.out _).mono ?_;rintro e w2 ⟨rfl,hb⟩;have HB2:=Hd (aA HB1.out hb);have j0:=(HX1.out.below hb).cell 0;have j1:=(HX1.out.below hb).cell 1;clear hb k0 k1
   ·go_wp2;go_ret;exact⟨rfl,HB2.out⟩
   ·go_wp2_with fail;refine(H2.out _).mono ?_;rintro e w3 ⟨rfl,hb⟩;have HB3:=Hd (aA HB2.out hb);clear hb j0 j1;go_wp2;go_ret;exact⟨rfl,HB3.out⟩
end
end Go.Proofs.YthjekgfoidmagaaGreatDoor
