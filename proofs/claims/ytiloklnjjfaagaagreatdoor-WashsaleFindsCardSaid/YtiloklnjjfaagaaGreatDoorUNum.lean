/- Int Mag TimesP DivP Cal -/
import Derived.Test.YtiloklnjjfaagaaGreatDoorUMem
import Derived.Lib.ItoaNum
set_option maxHeartbeats 16000000
set_option maxRecDepth 100000
section
namespace Go.Proofs.YtiloklnjjfaagaaGreatDoor.Num
open Go.Lib
def bF(c:UInt8):Bool:=decide (48<=c.toNat)&&decide (c.toNat<=57)
def body(l:List UInt8):List UInt8:=if l.head?=some 45 then l.tail else l
def jS(l:List UInt8):Bool:=decide (l.head?=some 45)
def aZ(l:List UInt8):List UInt8:=if(body l).all bF=true then(body l).dropWhile (· == 48) else[]
def dD(l:List UInt8):Bool:=jS l && !(aZ l).isEmpty
def bK(ds:List UInt8):Nat:=ds.foldl (fun n c=>10*n+(c.toNat-48)) 0
def val(l:List UInt8):Int:=if dD l=true then -(bK (aZ l):Int) else(bK (aZ l):Int)
def aU(n:Nat):List UInt8:=if n=0 then[] else decDigits n
def aJ(z:Int):List UInt8:=if z<0 then 45::decDigits z.natAbs else aU z.toNat
theorem Qg(l:List UInt8)(a:Nat):l.foldl (fun n c=>10*n+(c.toNat-48)) a=a*10^l.length+bK l:=by
 induction l generalizing a with
 |nil=>simp[bK]
 |cons c r ih =>
  unfold bK;simp only[List.foldl_cons,List.length_cons];rw[ih,ih (10*0+_),Nat.pow_succ];simp only[Nat.mul_zero,Nat.zero_add,Nat.add_mul];rw[Nat.mul_assoc,Nat.mul_left_comm 10 a,Nat.mul_comm 10,Nat.add_assoc]
theorem mS(l m:List UInt8):bK (l++m)=bK l*10^m.length+bK m:=by
 conv=>lhs;unfold bK
 rw[List.foldl_append];exact Qg m _
theorem gN(c:UInt8)(r:List UInt8):bK (c::r)=(c.toNat-48)*10^r.length+bK r:=by
 have:=mS [c] r;simpa[bK] using this
theorem zF(l:List UInt8)(c:UInt8):bK (l ++ [c])=10*bK l+(c.toNat-48):=by
 rw[mS];simp[bK];omega
theorem dO(c:UInt8):bF c=true↔48<=c.toNat/\c.toNat<=57:=by simp[bF]
theorem mR(l:List UInt8)(h:l.all bF=true):bK l<10^l.length:=by
 induction l with
 |nil=>simp[bK]
 |cons c r ih =>
  simp only[List.all_cons,Bool.and_eq_true] at h;have h1:=(dO c).1 h.1;have h2:=ih h.2;rw[gN,List.length_cons,Nat.pow_succ];have:(c.toNat-48)*10^r.length<=9*10^r.length:=Nat.mul_le_mul_right _ (by omega);omega
theorem vG(d:Nat)(h:d<10):(UInt8.ofNat (48+d)).toNat=48+d:=by
 rw[UInt8.toNat_ofNat'];omega
theorem iJ(n:Nat):(decDigits n).all bF=true:=by
 induction n using Nat.strongRecOn with
 |_ n ih =>
  rw[decDigits];split
  ·rename_i h;simp[bF];omega
  ·rename_i h;rw[List.all_append,ih (n/10) (by omega)];simp[bF];omega
theorem aXo(n:Nat):bK (decDigits n)=n:=by
 induction n using Nat.strongRecOn with
 |_ n ih =>
  rw[decDigits];split
  ·rename_i h;simp[bK];omega
  ·rename_i h;rw[zF,ih (n/10) (by omega),vG (n%10) (by omega)];omega
theorem mB(n:Nat):decDigits n ≠ []:=by
 intro h;have:=decDigits_length n;rw[h] at this;have:=nDigits_pos n;simp at *;omega
theorem qG{l m:List UInt8}(h:l ≠ []):(l++m).head?=l.head? := by
 cases l with
 |nil=>exact absurd rfl h
 |cons a r=>rfl
theorem jO(n:Nat)(h:n≠0):(decDigits n).head?≠some 48:=by
 induction n using Nat.strongRecOn with
 |_ n ih =>
  rw[decDigits];split
  ·rename_i h1;intro hc;have:=congrArg UInt8.toNat (Option.some.inj hc);have e:(48:UInt8).toNat=48:=rfl;rw[vG n h1,e] at this;omega
  ·rename_i h1;rw[qG (mB _)];exact ih (n/10) (by omega) (by omega)
theorem oR(l:List UInt8)(h:l.all bF=true)(h0:l.head?≠some 48)(hne:l ≠ []):l=decDigits (bK l):=by
 generalize hn:l.length=k
 induction k using Nat.strongRecOn generalizing l with
 |_ k ih =>
  rcases List.eq_nil_or_concat l with rfl|⟨r,c,rfl⟩
  ·exact absurd rfl hne
  ·rw[List.concat_eq_append] at *;rw[List.all_append,Bool.and_eq_true] at h;have hc:=(dO c).1 (by simpa using h.2);rw[zF,decDigits];have hcc:UInt8.ofNat (48+(c.toNat-48))=c:=by
    rw[show 48+(c.toNat-48)=c.toNat by omega];simp
   by_cases hr:r=[]
   ·subst hr;rw[dif_pos (by simp[bK];omega)];simp[bK,hcc]
   ·have hr0:r.head?≠some 48:=by rwa [qG hr] at h0
    have e:=ih r.length (by simp at hn;omega) r h.1 hr0 hr rfl;have hpos:1<=bK r:=by
     cases r with
     |nil=>exact absurd rfl hr
     |cons d r' =>
      rw[gN];simp only[List.all_cons,Bool.and_eq_true] at h;have hd:=(dO d).1 h.1.1;have:d.toNat≠48:=by
       intro h48;apply hr0;simp;exact UInt8.toNat_inj.1 h48
      have hp:1<=10^r'.length:=Nat.one_le_pow _ _ (by decide);have:1*1<=(d.toNat-48)*10^r'.length:=Nat.mul_le_mul (by omega) hp;omega
    rw[dif_neg (by omega)];rw[show (10*bK r+(c.toNat-48))/10=bK r by omega,show (10*bK r+(c.toNat-48))%10=c.toNat-48 by omega,hcc,<-e]
theorem Ag(l:List UInt8):(l.dropWhile (· == 48)).head?≠some 48:=by
 induction l with
 |nil=>simp
 |cons c r ih =>
  rw[List.dropWhile_cons];split
  ·exact ih
  ·rename_i h;simp at h ⊢;exact h
theorem Cb{p:UInt8->Bool}(l:List UInt8)(q:UInt8->Bool)(h:l.all p=true):(l.dropWhile q).all p=true:=by
 rw[List.all_eq_true] at *;intro x hx;exact h x ((List.dropWhile_sublist q).mem hx)
theorem fD(l:List UInt8):(aZ l).all bF=true:=by
 unfold aZ;split
 ·rename_i h;exact Cb _ _ h
 ·rfl
theorem jY(l:List UInt8):(aZ l).head?≠some 48:=by
 unfold aZ;split
 ·exact Ag _
 ·simp
theorem sJ(l:List UInt8)(h:l.all bF=true)(h0:l.head?≠some 48)(hne:l ≠ []):bK l≠0:=by
 intro hz;have e:=oR l h h0 hne;rw[hz] at e;rw[e] at h0;exact h0 (by rw[decDigits];simp)
theorem qP(l:List UInt8):aZ l=aU (bK (aZ l)):=by
 unfold aU
 by_cases hd:aZ l=[]
 ·rw[hd];simp[bK]
 ·rw[if_neg (sJ _ (fD l) (jY l) hd)];exact oR _ (fD l) (jY l) hd
theorem tZ(l:List UInt8):aZ l=[]↔bK (aZ l)=0:=by
 constructor
 ·intro h;rw[h];rfl
 ·intro h;by_cases hd:aZ l=[]
  ·exact hd
  ·exact absurd h (sJ _ (fD l) (jY l) hd)
theorem lL(l:List UInt8):aZ l=aU (val l).natAbs:=by
 have:(val l).natAbs=bK (aZ l):=by unfold val;split <;> omega
 rw[this];exact qP l
theorem Gv(l:List UInt8):dD l=decide (val l<0):=by
 unfold val
 by_cases h:dD l=true
 ·rw[if_pos h,h];have:aZ l ≠ []:=by
   unfold dD at h;simp at h;exact h.2
  have:=(not_congr (tZ l)).1 this
  symm;simp;omega
 ·rw[if_neg h];simp at h;rw[h];symm;simp
theorem Rm(l:List UInt8):aJ (val l)=if dD l=true then 45::aZ l else aZ l:=by
 unfold aJ;have hn:=Gv l
 by_cases h:val l<0
 ·rw[if_pos h,hn];simp only[h,decide_true,if_true];rw[lL,aU,if_neg (by omega)]
 ·rw[if_neg h,hn];simp only[h,decide_false];rw[if_neg (by decide),lL];congr 1;omega
theorem qO(l:List UInt8)(h:l.head?≠some 48):l.dropWhile (· == 48)=l:=by
 cases l with
 |nil=>rfl
 |cons c r =>
  rw[List.dropWhile_cons,if_neg];simp at h ⊢;exact h
theorem dGm(n:Nat):(aU n).all bF=true:=by
 unfold aU;split
 ·rfl
 ·exact iJ n
theorem Io(n:Nat):(aU n).head?≠some 48:=by
 unfold aU;split
 ·simp
 ·rename_i h;exact jO n h
theorem uF(n:Nat):(aU n).head?≠some 45:=by
 intro h;have:=dGm n;cases hc:aU n with
 |nil=>rw[hc] at h;simp at h
 |cons c r =>
  rw[hc] at h this;simp at h this;subst h;have:=this.1;simp[bF] at this
theorem sK(n:Nat):bK (aU n)=n:=by
 unfold aU;split
 ·rename_i h;rw[h];rfl
 ·exact aXo n
theorem Iq(n:Nat):body (aU n)=aU n:=by unfold body;rw[if_neg (uF n)]
theorem Eu(n:Nat):aZ (aU n)=aU n:=by
 unfold aZ;rw[Iq,if_pos (dGm n),qO _ (Io n)]
theorem eQ(n:Nat):val (aU n)=n:=by
 have hm:jS (aU n)=false:=by simp[jS];exact uF n
 unfold val dD;rw[Eu,sK,hm];simp
theorem bE(z:Int):val (aJ z)=z:=by
 unfold aJ;split
 ·rename_i h;have hb:body (45::decDigits z.natAbs)=decDigits z.natAbs:=by simp[body]
  have hd:aZ (45::decDigits z.natAbs)=decDigits z.natAbs:=by
   unfold aZ;rw[hb,if_pos (iJ _),qO _ (jO _ (by omega))]
  have hn:dD (45::decDigits z.natAbs)=true:=by
   unfold dD;rw[hd];simp[jS,mB]
  unfold val;rw[if_pos hn,hd,aXo];omega
 ·rename_i h;rw[eQ];omega
theorem nA:aJ 0=[]:=by simp[aJ,aU]
theorem qT(n:Nat):aU n=[]↔n=0:=by
 constructor
 ·intro h;have:=sK n;rw[h] at this;exact this.symm
 ·rintro rfl;rfl
end Go.Proofs.YtiloklnjjfaagaaGreatDoor.Num
end
section
namespace Go.Proofs.YtiloklnjjfaagaaGreatDoor.Num
open Go.Lib
theorem rB{α:Type}{m:List α}(h:m ≠ []):∃r c,m=r ++ [c]:=⟨m.dropLast,m.getLast h,(List.dropLast_concat_getLast h).symm⟩
def aC(n:Nat):List Nat:=if h:n=0 then[] else n%1000000000::aC (n/1000000000)
termination_by n
decreasing_by omega
def aI:List Nat->Nat
 | []=>0
 |g::r=>g+1000000000*aI r
def Cd(m:List Nat):Prop:=(∀g∈m,g<1000000000)/\m.getLast?≠some 0
theorem aT:aC 0=[]:=by rw[aC];simp
theorem iA{n:Nat}(h:n≠0):aC n=n%1000000000::aC (n/1000000000):=by rw[aC,dif_neg h]
theorem bO(n:Nat):aC n=[]↔n=0:=by
 constructor
 ·intro h
  by_cases h0:n=0
  ·exact h0
  ·rw[iA h0] at h;cases h
 ·rintro rfl;exact aT
theorem aQ(n:Nat):aI (aC n)=n:=by
 induction n using Nat.strongRecOn with
 |_ n ih =>
  by_cases h:n=0
  ·subst h;rw[aT];rfl
  ·rw[iA h,aI,ih (n/1000000000) (by omega)];omega
theorem aO(n:Nat):∀g∈aC n,g<1000000000:=by
 induction n using Nat.strongRecOn with
 |_ n ih =>
  intro g hg
  by_cases h:n=0
  ·subst h;rw[aT] at hg;cases hg
  ·rw[iA h] at hg;cases hg with
   |head=>omega
   |tail _ hm=>exact ih (n/1000000000) (by omega) g hm
theorem bP5(n:Nat):(aC n).getLast?≠some 0:=by
 induction n using Nat.strongRecOn with
 |_ n ih =>
  by_cases h:n=0
  ·subst h;rw[aT];simp
  ·rw[iA h]
   by_cases h1:n/1000000000=0
   ·rw[h1,aT];simp;omega
   ·have hne:aC (n/1000000000) ≠ []:=by rw[Ne,bO];exact h1
    rw[List.getLast?_cons_of_ne_nil hne];exact ih _ (by omega)
theorem dJ(n:Nat):Cd (aC n):=⟨aO n,bP5 n⟩
theorem oM{g:Nat}{r:List Nat}(h:r ≠ []):(g::r).getLast?=r.getLast? := by
 cases r with
 |nil=>exact absurd rfl h
 |cons a b=>simp[List.getLast?_cons_cons]
theorem Hk{m:List Nat}(h:m.getLast?≠some 0)(hne:m ≠ []):aI m≠0:=by
 induction m with
 |nil=>exact absurd rfl hne
 |cons g r ih =>
  unfold aI
  by_cases hr:r=[]
  ·subst hr;simp at h;omega
  ·rw[oM hr] at h;have:=ih h hr;omega
theorem yG{m:List Nat}(h:Cd m):m=aC (aI m):=by
 induction m with
 |nil=>rw[aI,aT]
 |cons g r ih =>
  have hg:g<1000000000:=h.1 g (List.mem_cons_self ..);have hp:=Hk h.2 (by simp);rw[iA hp,aI];have hr:Cd r:=by
   refine⟨fun x hx=>h.1 x (List.mem_cons_of_mem _ hx),?_⟩
   by_cases hr:r=[]
   ·subst hr;simp
   ·have:=h.2;rwa [oM hr] at this
  rw[show (g+1000000000*aI r)%1000000000=g by omega,show (g+1000000000*aI r)/1000000000=aI r by omega,<-ih hr]
theorem eU(a b:List Nat):aI (a++b)=aI a+1000000000^a.length*aI b:=by
 induction a with
 |nil=>simp[aI]
 |cons g r ih =>
  simp only[List.cons_append,aI,ih,List.length_cons,Nat.pow_succ,Nat.mul_add];rw[Nat.mul_comm (1000000000^r.length) 1000000000,Nat.mul_assoc,Nat.add_assoc]
theorem fW{m:List Nat}(h:∀g∈m,g<1000000000):aI m<1000000000^m.length:=by
 induction m with
 |nil=>simp[aI]
 |cons g r ih =>
  have h1:=h g (List.mem_cons_self ..);have h2:=ih (fun x hx=>h x (List.mem_cons_of_mem _ hx));rw[aI,List.length_cons,Nat.pow_succ];omega
theorem vA{m:List Nat}(h:Cd m)(hne:m ≠ []):1000000000^(m.length-1)<=aI m:=by
 obtain⟨r,c,rfl⟩:∃r c,m=r ++ [c]:=rB hne
 rw[eU];simp only[List.length_append,List.length_singleton,Nat.add_sub_cancel,aI,Nat.mul_zero,Nat.add_zero];have hc:c≠0:=by have:=h.2;simpa using this
 have:1000000000^r.length*1<=1000000000^r.length*c:=Nat.mul_le_mul_left _ (by omega);omega
def fQ(m:List Nat):List Nat:=(m.reverse.dropWhile (· == 0)).reverse
theorem jP(m:List Nat):fQ (m ++ [0])=fQ m:=by simp[fQ]
theorem iK(m:List Nat)(c:Nat)(h:c≠0):fQ (m ++ [c])=m ++ [c]:=by
 simp[fQ,h]
theorem Rg(m:List Nat):aI (fQ m)=aI m/\(fQ m).getLast?≠some 0/\∀g∈fQ m,g∈m:=by
 generalize hk:m.length=k
 induction k generalizing m with
 |zero=>cases m with
  |nil=>simp[fQ]
  |cons a b=>simp at hk
 |succ k ih =>
  obtain⟨r,c,rfl⟩:∃r c,m=r ++ [c]:=rB (by intro h;rw[h] at hk;simp at hk)
  by_cases hc:c=0
  ·subst hc;rw[jP];obtain⟨a,b,d⟩:=ih r (by simp at hk;omega);refine⟨by rw[a,eU];simp[aI],b,fun g hg=>?_⟩;exact List.mem_append_left _ (d g hg)
  ·rw[iK _ _ hc];exact⟨rfl,by simpa using hc,fun g hg=>hg⟩
theorem rG{m:List Nat}(h:∀g∈m,g<1000000000):fQ m=aC (aI m):=by
 obtain⟨a,b,d⟩:=Rg m;rw[<-a];exact yG ⟨fun g hg=>h g (d g hg),b⟩
theorem Rh{m:List Nat}(h:m.getLast?≠some 0):fQ m=m:=by
 by_cases hm:m=[]
 ·subst hm;rfl
 ·obtain⟨r,c,rfl⟩:∃r c,m=r ++ [c]:=rB hm
  exact iK _ _ (by simpa using h)
theorem Bk(l:List UInt8)(k:Nat):bK l=bK (l.take k)*10^(l.length-k)+bK (l.drop k):=by
 conv=>lhs;rw[<-List.take_append_drop k l]
 rw[mS];simp
theorem xD{ds:List UInt8}(hd:ds.all bF=true){e:Nat}(he:e<=ds.length)(h0:0<e){m:List Nat}(hm:∀g∈m,g<1000000000)
  (hv:aI m+1000000000^m.length*bK (ds.take e)=bK ds) :
  (∀g∈m ++ [bK ((ds.drop (e-9)).take (e-(e-9)))],g<1000000000) /\
  aI (m ++ [bK ((ds.drop (e-9)).take (e-(e-9)))])+1000000000^(m ++ [bK ((ds.drop (e-9)).take (e-(e-9)))]).length*bK (ds.take (e-9))=bK ds:=by
 have hlen:((ds.drop (e-9)).take (e-(e-9))).length=e-(e-9):=by
  rw[List.length_take,List.length_drop];omega
 have hall:((ds.drop (e-9)).take (e-(e-9))).all bF=true:=by
  rw[List.all_eq_true] at *;exact fun x hx=>hd x (List.mem_of_mem_drop (List.mem_of_mem_take hx))
 have hlt:=mR _ hall;rw[hlen] at hlt;constructor
 ·intro g hg;rw[List.mem_append] at hg;rcases hg with hg|hg
  ·exact hm g hg
  ·have:=List.mem_singleton.1 hg;subst this;have:10^(e-(e-9))<=10^9:=Nat.pow_le_pow_right (by decide) (by omega);have e9:10^9=1000000000:=by decide
   omega
 ·have e1:=Bk (ds.take e) (e-9);rw[List.take_take,List.length_take,Nat.min_eq_left (by omega:e-9<=e),Nat.min_eq_left he,List.drop_take] at e1;rw[eU,List.length_append,List.length_singleton,<-hv,e1];simp only[aI,Nat.mul_zero,Nat.add_zero];rw[Nat.pow_succ]
  by_cases h9:9<=e
  ·rw[show e-(e-9)=9 by omega];have e9:10^9=1000000000:=by decide
   rw[e9,Nat.mul_add,Nat.add_assoc,Nat.mul_comm (bK (ds.take (e-9))) 1000000000,<-Nat.mul_assoc,Nat.add_comm (_*bK _) (_*bK _)]
  ·rw[show e-9=0 by omega];simp[bK]
theorem zU{ds:List UInt8}(hd:ds.all bF=true)(h0:ds.head?≠some 48){m:List Nat}(hm:∀g∈m,g<1000000000)(hv:aI m=bK ds)(hl:m.length*9<=ds.length+8):m=aC (bK ds):=by
 rw[<-hv];refine yG ⟨hm,?_⟩;intro hz;have hne:m ≠ []:=by intro h;rw[h] at hz;simp at hz
 obtain⟨r,c,rfl⟩:∃r c,m=r ++ [c]:=rB hne
 simp at hz;subst hz;have hg:aI r=bK ds:=by rw[<-hv,eU];simp[aI]
 have hr:=fW (m:=r) (fun g hg=>hm g (List.mem_append_left _ hg));have hdn:ds ≠ []:=by intro h;rw[h] at hl;simp at hl;omega
 have e:=oR ds hd h0 hdn;have hlow:10^(ds.length-1)<=bK ds:=by
  cases ds with
  |nil=>exact absurd rfl hdn
  |cons d r' =>
   rw[gN];simp only[List.all_cons,Bool.and_eq_true] at hd;have h1:=(dO d).1 hd.1;have h2:d.toNat≠48:=by
    intro h48;apply h0;simp;exact UInt8.toNat_inj.1 h48
   have:1*10^r'.length<=(d.toNat-48)*10^r'.length:=Nat.mul_le_mul_right _ (by omega);simp;omega
 have e9:(1000000000:Nat)=10^9:=by decide
 rw[e9,<-Nat.pow_mul] at hr;have:10^(9*r.length)<=10^(ds.length-1):=Nat.pow_le_pow_right (by decide) (by simp at hl;omega);omega
theorem zT(m:List Nat)(j:Nat)(h:j<m.length):aI m=aI (m.take j)+1000000000^j*(m.getD j 0+1000000000*aI (m.drop (j+1))):=by
 have e:m=m.take j++(m.getD j 0::m.drop (j+1)):=by
  rw[List.getD_eq_getElem?_getD,Lg h,Option.getD_some];rw[<-List.drop_eq_getElem_cons h,List.take_append_drop]
 conv=>lhs;rw[e]
 rw[eU,List.length_take,Nat.min_eq_left (by omega),aI]
theorem Sh{m n:List Nat}(hm:∀g∈m,g<1000000000)(hl:m.length=n.length){j:Nat}(hj:j<m.length)(hd:m.drop (j+1)=n.drop (j+1))(hlt:m.getD j 0<n.getD j 0):aI m<aI n:=by
 rw[zT m j hj,zT n j (by omega),hd];have h1:=fW (m:=m.take j) (fun g hg=>hm g (List.mem_of_mem_take hg));rw[List.length_take,Nat.min_eq_left (by omega)] at h1;generalize 1000000000*aI (n.drop (j+1))=t;have h2:1000000000^j*(m.getD j 0+t+1)<=1000000000^j*(n.getD j 0+t):=Nat.mul_le_mul_left _ (by omega);rw[Nat.mul_add,Nat.mul_one] at h2;omega
def jQ(m n:List Nat):Int :=
 if m.length=n.length then(if aI m<aI n then -1 else if aI n<aI m then 1 else 0) else(m.length:Int)-n.length
theorem Ol{m n:List Nat}(h:m.length=n.length)(hlt:aI m<aI n):jQ m n = -1:=by unfold jQ;rw[if_pos h,if_pos hlt]
theorem Om{m n:List Nat}(h:m.length=n.length)(hlt:aI n<aI m):jQ m n=1:=by unfold jQ;rw[if_pos h,if_neg (by omega),if_pos hlt]
theorem On{m n:List Nat}(h:m.length=n.length)(he:aI m=aI n):jQ m n=0:=by unfold jQ;rw[if_pos h,if_neg (by omega),if_neg (by omega)]
theorem Ap{m n:List Nat}(h:m.length≠n.length):jQ m n=(m.length:Int)-n.length:=by unfold jQ;rw[if_neg h]
theorem bP{x y:Nat}(h:x<=y):(aC x).length<=(aC y).length:=by
 rcases Nat.lt_or_ge (aC y).length (aC x).length with g|g
 ·have hne:aC x ≠ []:=by intro e;rw[e] at g;simp at g
  have a:=vA (dJ x) hne;have b:=fW (aO y);rw[aQ] at a b;have c:1000000000^(aC y).length<=1000000000^((aC x).length-1):=Nat.pow_le_pow_right (by decide) (by omega);omega
 ·exact g
theorem qS(x y:Nat):(x<y->jQ (aC x) (aC y)<0)/\(x=y->jQ (aC x) (aC y)=0)/\(y<x->0<jQ (aC x) (aC y)):=by
 refine⟨fun h=>?_,fun h=>?_,fun h=>?_⟩
 ·have:=bP (Nat.le_of_lt h)
  by_cases he:(aC x).length=(aC y).length
  ·rw[Ol he (by rw[aQ,aQ];exact h)];decide
  ·rw[Ap he];omega
 ·subst h;exact On rfl rfl
 ·have:=bP (Nat.le_of_lt h)
  by_cases he:(aC x).length=(aC y).length
  ·rw[Om he (by rw[aQ,aQ];exact h)];decide
  ·rw[Ap he];omega
theorem nO(x y:Nat):jQ (aC x) (aC y)<0↔x<y:=by
 obtain⟨a,b,c⟩:=qS x y;constructor
 ·intro h;rcases Nat.lt_trichotomy x y with g|g|g
  ·exact g
  ·have:=b g;omega
  ·have:=c g;omega
 ·exact a
def fK(m n:List Nat)(c:Nat):List Nat×Nat :=
 match m with
 | []=>([],c)
 |g::r=>let s:=g+n.headD 0+c;let t:=fK r n.tail (s/1000000000);(s%1000000000::t.1,t.2)
theorem Pz(m n:List Nat)(c:Nat)(h:n.length<=m.length):aI (fK m n c).1+1000000000^m.length*(fK m n c).2=aI m+aI n+c:=by
 induction m generalizing n c with
 |nil =>
  have:n=[]:=List.eq_nil_of_length_eq_zero (by simpa using h);subst this;simp[fK,aI]
 |cons g r ih =>
  have e:=ih n.tail ((g+n.headD 0+c)/1000000000) (by simp at h ⊢;omega);have en:aI n=n.headD 0+1000000000*aI n.tail:=by cases n <;> simp[aI]
  simp only[fK,aI,List.length_cons,Nat.pow_succ];rw[en];generalize(fK r n.tail ((g+n.headD 0+c)/1000000000)).2=q at *;generalize aI (fK r n.tail ((g+n.headD 0+c)/1000000000)).1=p at *;rw[Nat.mul_comm (1000000000^r.length) 1000000000,Nat.mul_assoc];omega
theorem Qa(m n:List Nat)(c:Nat):(fK m n c).1.length=m.length:=by
 induction m generalizing n c with
 |nil=>rfl
 |cons g r ih=>simp[fK,ih]
theorem Tq(m n:List Nat)(c:Nat):∀g∈(fK m n c).1,g<1000000000:=by
 induction m generalizing n c with
 |nil=>simp[fK]
 |cons g r ih =>
  intro x hx;simp only[fK,List.mem_cons] at hx;rcases hx with rfl|hx
  ·exact Nat.mod_lt _ (by decide)
  ·exact ih _ _ x hx
theorem Gl(m n:List Nat)(c:Nat)(hm:∀g∈m,g<1000000000)(hn:∀g∈n,g<1000000000)(hc:c<=1):(fK m n c).2<=1:=by
 induction m generalizing n c with
 |nil=>exact hc
 |cons g r ih =>
  have h1:=hm g (List.mem_cons_self ..);have h2:n.headD 0<1000000000:=by cases n with
   |nil=>decide
   |cons a b=>exact hn a (List.mem_cons_self ..)
  exact ih _ _ (fun x hx=>hm x (List.mem_cons_of_mem _ hx)) (fun x hx=>hn x (List.mem_of_mem_tail hx)) (by omega)
def rQ(m n:List Nat):List Nat:=if(fK m n 0).2=0 then(fK m n 0).1 else(fK m n 0).1 ++ [(fK m n 0).2]
theorem Gk{m n:List Nat}(hm:Cd m)(hn:Cd n)(h:n.length<=m.length):rQ m n=aC (aI m+aI n):=by
 have hv:=Pz m n 0 h;have hl:=Qa m n 0;have hlt:=Tq m n 0;have hcy:=Gl m n 0 hm.1 hn.1 (by decide);unfold rQ
 by_cases hc:(fK m n 0).2=0
 ·rw[if_pos hc];rw[hc] at hv;rw[show aI m+aI n=aI (fK m n 0).1 by omega];refine yG ⟨hlt,?_⟩;intro hz;have hne:(fK m n 0).1 ≠ []:=by intro e;rw[e] at hz;simp at hz
  have hmne:m ≠ []:=by intro e;subst e;exact hne rfl
  have b:=vA hm hmne;obtain⟨r,c,hrc⟩:=rB hne;rw[hrc] at hz hl hv hlt;simp at hz;subst hz;have g1:=fW (m:=r) (fun g hg=>hlt g (List.mem_append_left _ hg));rw[eU] at hv;simp[aI] at hv hl;rw[<-hl,Nat.add_sub_cancel] at b;omega
 ·rw[if_neg hc];have e1:aI ((fK m n 0).1 ++ [(fK m n 0).2])=aI m+aI n:=by
   rw[eU,hl];simp[aI];omega
  rw[<-e1];refine yG ⟨?_,by simpa using hc⟩;intro g hg;rw[List.mem_append] at hg;rcases hg with hg|hg
  ·exact hlt g hg
  ·have:=List.mem_singleton.1 hg;omega
def dS(m n:List Nat)(c:Nat):List Nat×Nat :=
 match m with
 | []=>([],c)
 |g::r=>let s:=c+n.headD 0;if g<s then(let t:=dS r n.tail 1;((g+1000000000-s)::t.1,t.2)) else(let t:=dS r n.tail 0;((g-s)::t.1,t.2))
theorem Ku(m n:List Nat)(c:Nat)(h:n.length<=m.length)(hn:∀g∈n,g<1000000000)(hc:c<=1):aI (dS m n c).1+aI n+c=aI m+1000000000^m.length*(dS m n c).2:=by
 induction m generalizing n c with
 |nil =>
  have:n=[]:=List.eq_nil_of_length_eq_zero (by simpa using h);subst this;simp[dS,aI]
 |cons g r ih =>
  have h2:n.headD 0<1000000000:=by cases n with
   |nil=>decide
   |cons a b=>exact hn a (List.mem_cons_self ..)
  have en:aI n=n.headD 0+1000000000*aI n.tail:=by cases n <;> simp[aI]
  have hnt:∀g∈n.tail,g<1000000000:=fun x hx=>hn x (List.mem_of_mem_tail hx)
  simp only[dS];split
  ·have e:=ih n.tail 1 (by simp at h ⊢;omega) hnt (by decide);simp only[aI,List.length_cons,Nat.pow_succ];rw[en];generalize(dS r n.tail 1).2=q at *;generalize aI (dS r n.tail 1).1=p at *;rw[Nat.mul_comm (1000000000^r.length) 1000000000,Nat.mul_assoc];omega
  ·have e:=ih n.tail 0 (by simp at h ⊢;omega) hnt (by decide);simp only[aI,List.length_cons,Nat.pow_succ];rw[en];generalize(dS r n.tail 0).2=q at *;generalize aI (dS r n.tail 0).1=p at *;rw[Nat.mul_comm (1000000000^r.length) 1000000000,Nat.mul_assoc];omega
theorem Kv(m n:List Nat)(c:Nat):(dS m n c).1.length=m.length:=by
 induction m generalizing n c with
 |nil=>rfl
 |cons g r ih=>simp only[dS];split <;> simp[ih]
theorem Qj(m n:List Nat)(c:Nat)(hm:∀g∈m,g<1000000000):∀g∈(dS m n c).1,g<1000000000:=by
 induction m generalizing n c with
 |nil=>simp[dS]
 |cons g r ih =>
  have h1:=hm g (List.mem_cons_self ..);intro x hx;simp only[dS] at hx;split at hx
  all_goals
   rcases List.mem_cons.1 hx with rfl|hx
   ·omega
   ·exact ih _ _ (fun x hx=>hm x (List.mem_cons_of_mem _ hx)) x hx
theorem Dr(m n:List Nat)(c:Nat)(hc:c<=1):(dS m n c).2<=1:=by
 induction m generalizing n c with
 |nil=>exact hc
 |cons g r ih =>
  simp only[dS];split
  ·exact ih _ _ (by decide)
  ·exact ih _ _ (by decide)
theorem Qi{m n:List Nat}(hm:Cd m)(hn:Cd n)(h:aI n<=aI m)(hl:n.length<=m.length):fQ (dS m n 0).1=aC (aI m-aI n):=by
 have hv:=Ku m n 0 hl hn.1 (by decide);have hlt:=Qj m n 0 hm.1;have hlen:=Kv m n 0;have hc:=Dr m n 0 (by decide);have g1:=fW hlt;rw[hlen] at g1;rw[rG hlt];congr 1;have:(dS m n 0).2=0:=by
  rcases Nat.eq_zero_or_pos (dS m n 0).2 with h0|h0
  ·exact h0
  ·have e1:(dS m n 0).2=1:=by omega
   rw[e1] at hv;omega
 rw[this] at hv;omega
theorem dI(m:List Nat)(k:Nat)(h:k<m.length):m.drop k=m.getD k 0::m.drop (k+1):=by
 rw[List.drop_eq_getElem_cons h,List.getD_eq_getElem?_getD,Lg h];rfl
theorem pC(n:List Nat)(k:Nat):(n.drop k).headD 0=n.getD k 0:=by
 rcases Nat.lt_or_ge k n.length with h|h
 ·rw[dI n k h];rfl
 ·rw[List.drop_eq_nil_of_le h,List.getD_eq_getElem?_getD,List.getElem?_eq_none h];rfl
theorem rA(n:List Nat)(k:Nat):(n.drop k).tail=n.drop (k+1):=by simp
def vO(m n:List Nat)(k:Nat)(o:List Nat)(c:Nat):Prop :=
 o.length=k/\c<=1/\fK m n 0=(o++(fK (m.drop k) (n.drop k) c).1,(fK (m.drop k) (n.drop k) c).2)
theorem vY(m n:List Nat):vO m n 0 [] 0:=⟨rfl,by decide,rfl⟩
theorem vZ{m n:List Nat}{k:Nat}{o:List Nat}{c:Nat}(h:vO m n k o c)(hk:k<m.length)(hm:∀g∈m,g<1000000000)(hn:∀g∈n,g<1000000000):
  vO m n (k+1) (o ++ [(m.getD k 0+n.getD k 0+c)%1000000000]) ((m.getD k 0+n.getD k 0+c)/1000000000):=by
 obtain⟨h1,h2,h3⟩:=h;have hg:m.getD k 0<1000000000:=hm _ (by rw[List.getD_eq_getElem?_getD,Lg hk];exact List.getElem_mem hk);have hg':n.getD k 0<1000000000:=by
  rcases Nat.lt_or_ge k n.length with h|h
  ·exact hn _ (by rw[List.getD_eq_getElem?_getD,Lg h];exact List.getElem_mem h)
  ·rw[List.getD_eq_getElem?_getD,List.getElem?_eq_none h];decide
 refine⟨by simp[h1],by omega,?_⟩;rw[h3,dI m k hk];simp only[fK,pC,rA,List.append_assoc,List.singleton_append]
theorem zB{m n:List Nat}{o:List Nat}{c:Nat}(h:vO m n m.length o c):rQ m n=if c=0 then o else o ++ [c]:=by
 obtain⟨h1,h2,h3⟩:=h;rw[List.drop_length] at h3;simp only[fK,List.append_nil] at h3;unfold rQ;rw[h3]
def pP(m n:List Nat)(k:Nat)(o:List Nat)(c:Nat):Prop :=
 o.length=k/\c<=1/\dS m n 0=(o++(dS (m.drop k) (n.drop k) c).1,(dS (m.drop k) (n.drop k) c).2)
theorem Ds(m n:List Nat):pP m n 0 [] 0:=⟨rfl,by decide,rfl⟩
theorem Kw{m n:List Nat}{k:Nat}{o:List Nat}{c:Nat}(h:pP m n k o c)(hk:k<m.length)(hlt:m.getD k 0<c+n.getD k 0):
  pP m n (k+1) (o ++ [m.getD k 0+1000000000-(c+n.getD k 0)]) 1:=by
 obtain⟨h1,h2,h3⟩:=h;refine⟨by simp[h1],by decide,?_⟩;rw[h3,dI m k hk];simp only[dS,pC,rA,List.append_assoc,List.singleton_append];rw[if_pos hlt]
theorem Kx{m n:List Nat}{k:Nat}{o:List Nat}{c:Nat}(h:pP m n k o c)(hk:k<m.length)(hlt:¬ m.getD k 0<c+n.getD k 0):
  pP m n (k+1) (o ++ [m.getD k 0-(c+n.getD k 0)]) 0:=by
 obtain⟨h1,h2,h3⟩:=h;refine⟨by simp[h1],by decide,?_⟩;rw[h3,dI m k hk];simp only[dS,pC,rA,List.append_assoc,List.singleton_append];rw[if_neg hlt]
theorem Gx{m n:List Nat}{o:List Nat}{c:Nat}(h:pP m n m.length o c):(dS m n 0).1=o:=by
 obtain⟨h1,h2,h3⟩:=h;rw[List.drop_length] at h3;simp only[dS,List.append_nil] at h3;rw[h3]
def Bj(g:Nat):List UInt8:=List.replicate (9-(decDigits g).length) 48++decDigits g
theorem Bl(k:Nat):bK (List.replicate k 48)=0:=by
 induction k with
 |zero=>rfl
 |succ k ih=>rw[List.replicate_succ,gN,ih];simp
theorem jU(g k:Nat)(hk:1<=k)(h:g<10^k):nDigits g<=k:=by
 induction k generalizing g with
 |zero=>omega
 |succ k ih =>
  by_cases h1:g<10
  ·rw[nDigits_small h1];omega
  ·rw[nDigits_big h1];rw[Nat.pow_succ] at h;have hk1:1<=k:=by
    rcases Nat.eq_zero_or_pos k with h0|h0
    ·subst h0;simp at h;omega
    ·exact h0
   have:=ih (g/10) hk1 (by omega);omega
theorem oD(g:Nat)(h:g<1000000000):(decDigits g).length<=9:=by
 rw[decDigits_length];exact jU g 9 (by decide) (by have:(10:Nat)^9=1000000000:=(by decide);omega)
theorem Gn(g:Nat)(h:g<1000000000):(Bj g).length=9:=by
 have:=oD g h;simp[Bj];omega
theorem Tu(g:Nat):bK (Bj g)=g:=by unfold Bj;rw[mS,Bl,aXo];simp
theorem Tv(g:Nat):(Bj g).all bF=true:=by
 unfold Bj;rw[List.all_append,iJ,Bool.and_true,List.all_eq_true];intro x hx;rw[List.eq_of_mem_replicate hx];decide
theorem xV(g q:Nat)(hg:g<1000000000)(hq:q≠0):decDigits (g+1000000000*q)=decDigits q++Bj g:=by
 have h:=oR (decDigits q++Bj g) (by rw[List.all_append,iJ,Tv];rfl) (by rw[qG (mB q)];exact jO q hq) (by simp[mB]);rw[mS,aXo,Tu,Gn g hg] at h;rw[h];congr 1;have:(10:Nat)^9=1000000000:=by decide
 rw[this];omega
theorem Bo{m:List Nat}(h:m.getLast?≠some 0){k:Nat}(hk:k<m.length):aI (m.drop k)≠0:=by
 refine Hk ?_ (by intro e;have:=congrArg List.length e;rw[List.length_drop] at this;simp at this;omega);rw[List.getLast?_drop,if_neg (by omega)];exact h
theorem Al{m:List Nat}(hm:Cd m){k:Nat}(hk:k+1<m.length):decDigits (aI (m.drop k))=decDigits (aI (m.drop (k+1)))++Bj (m.getD k 0):=by
 rw[dI m k (by omega),aI];refine xV _ _ (hm.1 _ ?_) (Bo hm.2 hk);rw[List.getD_eq_getElem?_getD,Lg (by omega)];exact List.getElem_mem _
def Fw(neg:Bool)(x:Nat):List UInt8:=if x=0 then[] else if neg=true then 45::decDigits x else decDigits x
theorem Cf(neg:Bool)(x:Nat):Fw neg x=aJ (if neg=true then -(x:Int) else x):=by
 unfold Fw aJ aU
 by_cases h:x=0
 ·subst h;cases neg <;> simp
 ·cases neg
  ·rw[if_neg h];simp only[Bool.false_eq_true,if_false];rw[if_neg (by omega),if_neg (by omega)];simp
  ·rw[if_neg h];simp only[if_true];rw[if_pos (by omega)];simp
end Go.Proofs.YtiloklnjjfaagaaGreatDoor.Num
end
section
namespace Go.Proofs.YtiloklnjjfaagaaGreatDoor
open Num
theorem mV:∀(o:List Nat) (k v:Nat),k<o.length->aI (o.set k v)+1000000000^k*o.getD k 0=aI o+1000000000^k*v
 | [],k,v,h=>by simp at h
 |g::r,0,v,_=>by simp only[List.set_cons_zero,aI,Nat.pow_zero,Nat.one_mul,List.getD_cons_zero];omega
 |g::r,k+1,v,h=>by
  have ih:=mV r k v (by simpa using h);simp only[List.set_cons_succ,aI,List.getD_cons_succ];rw[Nat.pow_succ,Nat.mul_comm (1000000000^k) 1000000000,Nat.mul_assoc,Nat.mul_assoc];omega
theorem qA{o:List Nat}{k v:Nat}(h:∀g∈o,g<1000000000)(hv:v<1000000000):∀g∈o.set k v,g<1000000000:=by
 intro g hg;rcases List.mem_or_eq_of_mem_set hg with h1|h1
 ·exact h g h1
 ·omega
theorem bV{o:List Nat}(h:∀g∈o,g<1000000000)(k:Nat):o.getD k 0<1000000000:=by
 by_cases hk:k<o.length
 ·rw[List.getD_eq_getElem?_getD,Lg hk];exact h _ (List.getElem_mem hk)
 ·rw[List.getD_eq_getElem?_getD,List.getElem?_eq_none (by omega)];decide
theorem getD_set_ne{o:List Nat}{k j v:Nat}(h:k≠j):(o.set k v).getD j 0=o.getD j 0:=by
 rw[List.getD_eq_getElem?_getD,List.getD_eq_getElem?_getD,List.getElem?_set_ne h]
theorem fM(n:List Nat)(k:Nat)(h:k<n.length):aI (n.take (k+1))=aI (n.take k)+1000000000^k*n.getD k 0:=by
 rw[List.take_add_one,Lg h,eU,List.length_take,Nat.min_eq_left (by omega),List.getD_eq_getElem?_getD,Lg h];simp[aI]
def gI(m n:List Nat)(i:Nat)(o:List Nat):Prop :=
 o.length=m.length+n.length/\(∀g∈o,g<1000000000)/\aI o=aI (m.take i)*aI n/\∀j,i+n.length<=j->o.getD j 0=0
def rI(m n:List Nat)(i k:Nat)(o:List Nat)(c:Nat):Prop :=
 o.length=m.length+n.length/\(∀g∈o,g<1000000000)/\c<1000000000/\aI o+1000000000^(i+k)*c=aI (m.take i)*aI n+1000000000^i*(m.getD i 0*aI (n.take k))/\∀j,i+n.length<=j->o.getD j 0=0
theorem tB(m n:List Nat):gI m n 0 (List.replicate (m.length+n.length) 0):=by
 refine⟨by simp,?_,?_,?_⟩
 ·intro g hg;rw[List.eq_of_mem_replicate hg];decide
 ·have:∀k,aI (List.replicate k 0)=0:=by
   intro k
   induction k with
   |zero=>rfl
   |succ k ih=>rw[List.replicate_succ];simp only[aI,ih]
  rw[this];simp[aI]
 ·intro j _;rw[List.getD_eq_getElem?_getD,List.getElem?_replicate];split <;> rfl
theorem aZc{m n:List Nat}{i:Nat}{o:List Nat}(h:gI m n i o):rI m n i 0 o 0:=by
 obtain⟨h1,h2,h3,h4⟩:=h;exact⟨h1,h2,by decide,by rw[h3];simp[aI],h4⟩
theorem pZ{c g x y:Nat}(hc:c<1000000000)(hg:g<1000000000)(hx:x<1000000000)(hy:y<1000000000):c+(g+x*y)<1000000000*1000000000:=by
 have:x*y<=999999999*999999999:=Nat.mul_le_mul (by omega) (by omega);omega
theorem tA{m n:List Nat}{i k:Nat}{o:List Nat}{c:Nat}(h:rI m n i k o c)(hi:i<m.length)(hk:k<n.length)(hm:∀g∈m,g<1000000000)(hn:∀g∈n,g<1000000000):
  rI m n i (k+1) (o.set (i+k) ((c+(o.getD (i+k) 0+m.getD i 0*n.getD k 0))%1000000000)) ((c+(o.getD (i+k) 0+m.getD i 0*n.getD k 0))/1000000000):=by
 obtain⟨h1,h2,h3,h4,h5⟩:=h;have hb:=pZ h3 (bV h2 (i+k)) (bV hm i) (bV hn k);have hs:=mV o (i+k) ((c+(o.getD (i+k) 0+m.getD i 0*n.getD k 0))%1000000000) (by omega);refine⟨by simpa using h1,qA h2 (Nat.mod_lt _ (by decide)),by omega,?_,fun j hj=>by rw[getD_set_ne (by omega)];exact h5 j hj⟩;rw[fM n k hk];generalize o.getD (i+k) 0=g at *;generalize m.getD i 0=x at *;generalize n.getD k 0=y at *;generalize hS:c+(g+x*y)=s at *;have hdm:=Nat.div_add_mod s 1000000000;have e1:1000000000^(i+(k+1))*(s/1000000000)=1000000000^(i+k)*(1000000000*(s/1000000000)):=by
  rw[<-Nat.add_assoc,Nat.pow_succ,Nat.mul_assoc]
 have e2:1000000000^(i+k)*(1000000000*(s/1000000000))+1000000000^(i+k)*(s%1000000000)=1000000000^(i+k)*c+1000000000^(i+k)*g+1000000000^(i+k)*(x*y):=by
  rw[<-Nat.mul_add,hdm,<-hS,Nat.mul_add,Nat.mul_add,Nat.add_assoc]
 have e3:1000000000^i*(x*(aI (n.take k)+1000000000^k*y))=1000000000^i*(x*aI (n.take k))+1000000000^(i+k)*(x*y):=by
  rw[Nat.mul_add,Nat.mul_add,Nat.pow_add];congr 1;rw[Nat.mul_assoc,Nat.mul_left_comm x]
 rw[e1,e3];omega
theorem tC{m n:List Nat}{i:Nat}{o:List Nat}{c:Nat}(h:rI m n i n.length o c)(hi:i<m.length)(_hn:0<n.length):gI m n (i+1) (o.set (i+n.length) (o.getD (i+n.length) 0+c)):=by
 obtain⟨h1,h2,h3,h4,h5⟩:=h;have h0:=h5 (i+n.length) (Nl _);have hs:=mV o (i+n.length) (o.getD (i+n.length) 0+c) (by omega);rw[h0] at hs ⊢;refine⟨by simpa using h1,qA h2 (by omega),?_,fun j hj=>by rw[getD_set_ne (by omega)];exact h5 j (by omega)⟩;rw[fM m i hi,Nat.add_mul,Nat.mul_assoc];rw[List.take_length] at h4;simp only[Nat.zero_add,Nat.mul_zero,Nat.add_zero] at hs ⊢;omega
theorem vT{m n:List Nat}{o:List Nat}(h:gI m n m.length o):fQ o=aC (aI m*aI n):=by
 obtain⟨_,h2,h3,_⟩:=h;rw[rG h2,h3,List.take_length]
def oV(m:List Nat)(d j:Nat)(o:List Nat)(r:Nat):Prop :=
 o.length=m.length/\(∀g∈o,g<1000000000)/\r<d/\aI (m.drop j)=aI (o.drop j)*d+r
theorem yO(m:List Nat)(d:Nat)(hd:0<d):oV m d m.length (List.replicate m.length 0) 0:=by
 refine⟨by simp,?_,hd,?_⟩
 ·intro g hg;rw[List.eq_of_mem_replicate hg];decide
 ·rw[List.drop_eq_nil_of_le (Nl _),List.drop_eq_nil_of_le (by simp)];simp[aI]
theorem Bh{m:List Nat}{d j:Nat}{o:List Nat}{r:Nat}(h:oV m d (j+1) o r)(hj:j<m.length)(hm:∀g∈m,g<1000000000):
  oV m d j (o.set j ((r*1000000000+m.getD j 0)/d)) ((r*1000000000+m.getD j 0)%d):=by
 obtain⟨h1,h2,h3,h4⟩:=h;have hg:=bV hm j;have hlt:(r*1000000000+m.getD j 0)/d<1000000000:=by
  rw[Nat.div_lt_iff_lt_mul (by omega)];have:(r+1)*1000000000<=d*1000000000:=Nat.mul_le_mul_right _ h3;omega
 refine⟨by simpa using h1,qA h2 hlt,Nat.mod_lt _ (by omega),?_⟩;rw[dI m j hj];have e:(o.set j ((r*1000000000+m.getD j 0)/d)).drop j=((r*1000000000+m.getD j 0)/d)::o.drop (j+1):=by
  rw[List.drop_eq_getElem_cons (by simp;omega)];congr 1
  ·simp
  ·rw[List.drop_set_of_lt (by omega)]
 rw[e];simp only[aI];rw[h4];have hdm:=Nat.div_add_mod (r*1000000000+m.getD j 0) d;generalize(r*1000000000+m.getD j 0)/d=x at *;generalize(r*1000000000+m.getD j 0)%d=y at *;generalize aI (o.drop (j+1))=z at *;rw[Nat.add_mul,Nat.mul_add,Nat.mul_comm x d,Nat.mul_assoc];omega
theorem Dk{m:List Nat}{d:Nat}{o:List Nat}{r:Nat}(h:oV m d 0 o r):fQ o=aC (aI m/d)/\r=aI m%d:=by
 obtain⟨_,h2,h3,h4⟩:=h;rw[List.drop_zero,List.drop_zero] at h4;rw[rG h2];have hq:aI m/d=aI o:=by rw[h4,Nat.mul_comm,Nat.mul_add_div (by omega),Nat.div_eq_of_lt h3];omega
 have hr:aI m%d=r:=by rw[h4,Nat.mul_comm,Nat.mul_add_mod,Nat.mod_eq_of_lt h3]
 rw[hq,hr];exact⟨rfl,rfl⟩
theorem Un{R B P t3 t2 q:Nat}(hq:q*B<=R)(hR:R<(t3+1)*P)(hB:t2*P<=B)(_hP:0<P):q*t2<=t3:=by
 have h1:q*t2*P<=q*B:=by rw[Nat.mul_assoc];exact Nat.mul_le_mul_left _ hB
 have h2:q*t2*P<(t3+1)*P:=by omega
 have h3:=Nat.lt_of_mul_lt_mul_right h2;omega
theorem Um{R B P t3 t2 g:Nat}(hg:g*t2<=t3)(hlt:g<=t2)(hR:t3*P<=R)(hB:B<(t2+1)*P)(h0:0<g):(g-1)*B<=R:=by
 obtain⟨g',rfl⟩:∃g',g=g'+1:=⟨g-1,by omega⟩
 rw[Nat.add_sub_cancel];have h1:g'*B<=g'*((t2+1)*P):=Nat.mul_le_mul_left _ (by omega);have h2:g'*(t2+1)<=(g'+1)*t2:=by rw[Nat.mul_add,Nat.add_mul];omega
 have h3:g'*((t2+1)*P)<=(g'+1)*t2*P:=by rw[<-Nat.mul_assoc];exact Nat.mul_le_mul_right _ h2
 have h4:(g'+1)*t2*P<=t3*P:=Nat.mul_le_mul_right _ hg;omega
end Go.Proofs.YtiloklnjjfaagaaGreatDoor
end
section
namespace Go.Proofs.YtiloklnjjfaagaaGreatDoor
open Num
theorem fC(m:List Nat)(k:Nat):aI m=aI (m.take k)+1000000000^k*aI (m.drop k):=by
 by_cases hk:k<=m.length
 ·conv=>lhs;rw[<-List.take_append_drop k m]
  rw[eU,List.length_take,Nat.min_eq_left hk]
 ·rw[List.take_of_length_le (by omega),List.drop_eq_nil_of_le (by omega)];simp[aI]
theorem jJ{m:List Nat}(h:∀g∈m,g<1000000000)(k:Nat):aI (m.take k)<1000000000^k:=by
 have h1:=fW (m:=m.take k) (fun g hg=>h g (List.mem_of_mem_take hg));have h2:1000000000^(m.take k).length<=1000000000^k:=Nat.pow_le_pow_right (by decide) (by rw[List.length_take];omega);omega
theorem eM(m:List Nat)(k:Nat):aI (m.drop k)=m.getD k 0+1000000000*aI (m.drop (k+1)):=by
 by_cases hk:k<m.length
 ·rw[dI m k hk];rfl
 ·rw[List.drop_eq_nil_of_le (by omega),List.drop_eq_nil_of_le (by omega),List.getD_eq_getElem?_getD,List.getElem?_eq_none (by omega)];simp[aI]
theorem gP{m:List Nat}{k:Nat}(h:aI m<1000000000^k):aI (m.drop k)=0:=by
 have h1:=fC m k;rcases Nat.eq_zero_or_pos (aI (m.drop k)) with h0|h0
 ·exact h0
 ·have:1000000000^k*1<=1000000000^k*aI (m.drop k):=Nat.mul_le_mul_left _ h0;omega
theorem xU{m:List Nat}{k:Nat}(h:aI m<1000000000^k):aI (m.take k)=aI m:=by
 have h1:=fC m k;rw[gP h] at h1;omega
theorem Nn{z t p V:Nat}(h1:V=z+p*t)(h2:z<p):t*p<=V/\V<(t+1)*p:=by
 rw[Nat.add_mul,Nat.one_mul,Nat.mul_comm t p];omega
theorem Si(x y z:Nat):z+1000000000*(y+1000000000*(x+1000000000*0))=(x*1000000000+y)*1000000000+z:=by omega
theorem Sj(y z:Nat):z+1000000000*(y+1000000000*0)=y*1000000000+z:=by omega
theorem aAs{m:List Nat}{s:Nat}(hm:∀g∈m,g<1000000000)(h:aI m<1000000000^(s+3)):
  ((m.getD (s+2) 0*1000000000+m.getD (s+1) 0)*1000000000+m.getD s 0)*1000000000^s<=aI m/\aI m<((m.getD (s+2) 0*1000000000+m.getD (s+1) 0)*1000000000+m.getD s 0+1)*1000000000^s:=by
 have h1:=fC m s;rw[eM m s,eM m (s+1),eM m (s+1+1),gP (k:=s+1+1+1) h,Si] at h1;exact Nn h1 (jJ hm s)
theorem aAt{m:List Nat}{s:Nat}(hm:∀g∈m,g<1000000000)(h:aI m<1000000000^(s+2)):
  (m.getD (s+1) 0*1000000000+m.getD s 0)*1000000000^s<=aI m/\aI m<(m.getD (s+1) 0*1000000000+m.getD s 0+1)*1000000000^s:=by
 have h1:=fC m s;rw[eM m s,eM m (s+1),gP (k:=s+1+1) h,Sj] at h1;exact Nn h1 (jJ hm s)
def nC(A:Nat)(b:List Nat)(L s j:Nat)(a q:List Nat):Prop :=
 a.length=L/\(∀g∈a,g<1000000000)/\q.length=L-(s+2)/\(∀g∈q,g<1000000000)/\aI a<1000000000^j*aI b/\A=aI (q.drop j)*1000000000^j*aI b+aI a
def pR(V:Nat)(b:List Nat)(i g:Nat):Prop:=V<(g+1)*(aI b*1000000000^i)/\g<=999999999
theorem jX{b:List Nat}{s:Nat}(hb:b.length=s+2)(hbl:∀g∈b,g<1000000000):aI b<1000000000^(s+2):=by
 have:=fW hbl;rwa [hb] at this
theorem tY{A:Nat}{b:List Nat}{L s i:Nat}{a q:List Nat}(h:nC A b L s (i+1) a q)(hb:b.length=s+2)(hbl:∀g∈b,g<1000000000):aI a<1000000000^(i+s+3):=by
 obtain⟨_,_,_,_,h5,_⟩:=h;have h1:=jX hb hbl;have h2:1000000000^(i+1)*aI b<=1000000000^(i+1)*1000000000^(s+2):=Nat.mul_le_mul_left _ (by omega);rw[<-Nat.pow_add,show i+1+(s+2)=i+s+3 by omega] at h2;omega
theorem Hl{A:Nat}{b:List Nat}{L s i:Nat}{a q:List Nat}(h:nC A b L s (i+1) a q)(hb:b.length=s+2)(hbl:∀g∈b,g<1000000000)(hpos:0<b.getD (s+1) 0):
  pR (aI a) b i (min ((a.getD (i+s+2) 0*1000000000+a.getD (i+s+1) 0)/b.getD (s+1) 0) 999999999):=by
 have hV:=tY h hb hbl;obtain⟨_,h2,_,_,h5,_⟩:=h;refine⟨?_,Nat.min_le_right _ _⟩;have t3:=(aAs h2 hV).2;have t2:=(aAt hbl (jX hb hbl)).1;generalize hx:a.getD (i+s+2) 0=x at *;generalize a.getD (i+s+1) 0=y at *;have hz:=bV h2 (i+s);generalize a.getD (i+s) 0=z at *;generalize hu:b.getD (s+1) 0=u at *;generalize b.getD s 0=v at *
 by_cases hc:(x*1000000000+y)/u<=999999999
 ·rw[Nat.min_eq_left hc];generalize hg:(x*1000000000+y)/u=g at *;have hlt:x*1000000000+y<u*(g+1):=by rw[<-hg];exact Nat.lt_mul_div_succ _ hpos
  have a1:(x*1000000000+y)*1000000000+z+1<=u*(g+1)*1000000000:=by
   have:(x*1000000000+y+1)*1000000000<=u*(g+1)*1000000000:=Nat.mul_le_mul_right _ hlt;omega
  have a2:=Nat.mul_le_mul_right (1000000000^(i+s)) a1;have a3:u*1000000000*1000000000^s<=aI b:=by
   exact Nat.le_trans (Nat.mul_le_mul_right _ (Nat.le_add_right _ v)) t2
  have a4:u*(g+1)*1000000000*1000000000^(i+s)=(g+1)*(u*1000000000*1000000000^s*1000000000^i):=by
   rw[Nat.add_comm i s,Nat.pow_add];generalize 1000000000^s=p;generalize 1000000000^i=r;rw[Nat.mul_comm u (g+1)];simp only[Nat.mul_assoc]
  have a5:(g+1)*(u*1000000000*1000000000^s*1000000000^i)<=(g+1)*(aI b*1000000000^i):=Nat.mul_le_mul_left _ (Nat.mul_le_mul_right _ a3);omega
 ·rw[Nat.min_eq_right (by omega)];have e:(999999999+1)*(aI b*1000000000^i)=1000000000^(i+1)*aI b:=by
   rw[Nat.pow_succ,Nat.mul_comm (aI b),Nat.mul_comm (1000000000^i) 1000000000,Nat.mul_assoc]
  rw[e];exact h5
theorem Lk{A:Nat}{b:List Nat}{L s i:Nat}{a q:List Nat}{g:Nat}(h:nC A b L s (i+1) a q)(hb:b.length=s+2)(hbl:∀g∈b,g<1000000000)(hg:pR (aI a) b i (g+1))
  (ht:(a.getD (i+s+2) 0*1000000000+a.getD (i+s+1) 0)*1000000000+a.getD (i+s) 0<(g+1)*(b.getD (s+1) 0*1000000000+b.getD s 0)):pR (aI a) b i g:=by
 have hV:=tY h hb hbl;obtain⟨_,h2,_,_,h5,_⟩:=h;have t3:=(aAs h2 hV).2;have t2:=(aAt hbl (jX hb hbl)).1;refine⟨?_,by have:=hg.2;omega⟩;rcases Nat.lt_or_ge (aI a) ((g+1)*(aI b*1000000000^i)) with h0|h0
 ·exact h0
 ·exfalso;have t2':=Nat.mul_le_mul_right (1000000000^i) t2;rw[Nat.mul_assoc,<-Nat.pow_add,Nat.add_comm s i] at t2';have:=Un (R:=aI a) (B:=aI b*1000000000^i) (q:=g+1) h0 t3 t2' (Nat.pos_of_ne_zero (by intro e;have:=Nat.one_le_pow (i+s) 1000000000 (by decide);omega));omega
theorem Qw{A:Nat}{b:List Nat}{L s i:Nat}{a q:List Nat}{g:Nat}(h:nC A b L s (i+1) a q)(hb:b.length=s+2)(hbl:∀g∈b,g<1000000000)(hpos:0<b.getD (s+1) 0)(hg:pR (aI a) b i (g+1))
  (ht:(g+1)*(b.getD (s+1) 0*1000000000+b.getD s 0)<=(a.getD (i+s+2) 0*1000000000+a.getD (i+s+1) 0)*1000000000+a.getD (i+s) 0):g*(aI b*1000000000^i)<=aI a:=by
 have hV:=tY h hb hbl;obtain⟨_,h2,_,_,h5,_⟩:=h;have t3:=(aAs h2 hV).1;have t2:=(aAt hbl (jX hb hbl)).2;have hp:0<1000000000^i:=Nat.pos_of_ne_zero (by intro e;have:=Nat.one_le_pow i 1000000000 (by decide);omega);have t2':=Nat.mul_lt_mul_of_pos_right t2 hp;rw[Nat.mul_assoc,<-Nat.pow_add,Nat.add_comm s i] at t2';have:=Um (R:=aI a) (B:=aI b*1000000000^i) ht (by have:=hg.2;omega) t3 t2' (by omega);simpa using this
def xN(a0 b:List Nat)(g i j:Nat)(a:List Nat)(c:Nat):Prop :=
 a.length=a0.length/\(∀x∈a,x<1000000000)/\c<=999999999/\a.drop (i+j)=a0.drop (i+j)/\aI a+g*aI (b.take j)*1000000000^i=aI a0+c*1000000000^(i+j)
theorem Js(a0 b:List Nat)(g i:Nat)(h:∀x∈a0,x<1000000000):xN a0 b g i 0 a0 0:=⟨rfl,h,by decide,rfl,by simp[aI]⟩
theorem Eh{a b:List Nat}{k:Nat}(h:a.drop k=b.drop k):a.getD k 0=b.getD k 0:=by
 have:=congrArg (fun l=>l.headD 0) h;simpa only[pC] using this
theorem jL{a b:List Nat}{k:Nat}(h:a.drop k=b.drop k):a.drop (k+1)=b.drop (k+1):=by
 have:=congrArg List.tail h;simpa only[rA] using this
theorem xI(a:List Nat){k j v:Nat}(h:k<j):(a.set k v).drop j=a.drop j:=by rw[List.drop_set_of_lt h]
theorem Pj{g y c:Nat}(hg:g<=999999999)(hy:y<1000000000)(hc:c<=999999999):(g*y+c)/1000000000<=999999999/\((g*y+c)/1000000000=999999999->(g*y+c)%1000000000=0)/\g*y<=999999998000000001:=by
 have:g*y<=999999999*999999999:=Nat.mul_le_mul hg (by omega);generalize g*y=p at *;omega
theorem Jt{a0 b:List Nat}{g i j:Nat}{a:List Nat}{c:Nat}(h:xN a0 b g i j a c)(hj:j<b.length)(hij:i+j<a0.length)(hg:g<=999999999)(hbl:∀x∈b,x<1000000000)
  (v c':Nat) (hv:(a.getD (i+j) 0<(g*b.getD j 0+c)%1000000000/\v=a.getD (i+j) 0+1000000000-(g*b.getD j 0+c)%1000000000/\c'=(g*b.getD j 0+c)/1000000000+1)∨(¬ a.getD (i+j) 0<(g*b.getD j 0+c)%1000000000/\v=a.getD (i+j) 0-(g*b.getD j 0+c)%1000000000/\c'=(g*b.getD j 0+c)/1000000000)) :
  xN a0 b g i (j+1) (a.set (i+j) v) c':=by
 obtain⟨h1,h2,h3,h4,h5⟩:=h;have hx:=bV h2 (i+j);have hb:=Pj hg (bV hbl j) h3;have hs:=mV a (i+j) v (by omega);show _/\_/\_/\_/\_;rw[show i+(j+1)=i+j+1 by omega];refine⟨by simpa using h1,qA h2 (by omega),by omega,by rw[xI _ (by omega)];exact jL h4,?_⟩;rw[fM b j hj];generalize a.getD (i+j) 0=x at *;generalize b.getD j 0=y at *;have hdm:=Nat.div_add_mod (g*y+c) 1000000000;have key:v+(g*y+c)=x+1000000000*c':=by
  generalize hS:g*y+c=S at *;omega
 have k2:1000000000^(i+j)*v+(1000000000^(i+j)*(g*y)+1000000000^(i+j)*c)=1000000000^(i+j)*x+1000000000^(i+j)*(1000000000*c'):=by
  rw[<-Nat.mul_add,<-Nat.mul_add,key,Nat.mul_add]
 have e1:g*(aI (b.take j)+1000000000^j*y)*1000000000^i=g*aI (b.take j)*1000000000^i+1000000000^(i+j)*(g*y):=by
  rw[Nat.mul_add,Nat.add_mul,Nat.pow_add];congr 1;generalize 1000000000^j=p;generalize 1000000000^i=r;rw[Nat.mul_left_comm g p y,Nat.mul_assoc,Nat.mul_comm (g*y) r,<-Nat.mul_assoc,Nat.mul_comm p r]
 have e2:c'*1000000000^(i+j+1)=1000000000^(i+j)*(1000000000*c'):=by
  rw[Nat.pow_succ,Nat.mul_comm c',Nat.mul_assoc]
 rw[e1,e2];rw[Nat.mul_comm c] at h5;omega
def vP(a0 b:List Nat)(i j:Nat)(a:List Nat)(c:Nat):Prop :=
 a.length=a0.length/\(∀x∈a,x<1000000000)/\c<=1/\a.drop (i+j)=a0.drop (i+j)/\aI a+c*1000000000^(i+j)=aI a0+aI (b.take j)*1000000000^i
theorem Iu(a0 b:List Nat)(i:Nat)(h:∀x∈a0,x<1000000000):vP a0 b i 0 a0 0:=⟨rfl,h,by decide,rfl,by simp[aI]⟩
theorem Iv{a0 b:List Nat}{i j:Nat}{a:List Nat}{c:Nat}(h:vP a0 b i j a c)(hj:j<b.length)(hij:i+j<a0.length)(hbl:∀x∈b,x<1000000000):
  vP a0 b i (j+1) (a.set (i+j) ((a.getD (i+j) 0+(b.getD j 0+c))%1000000000)) ((a.getD (i+j) 0+(b.getD j 0+c))/1000000000):=by
 obtain⟨h1,h2,h3,h4,h5⟩:=h;have hx:=bV h2 (i+j);have hy:=bV hbl j;have hs:=mV a (i+j) ((a.getD (i+j) 0+(b.getD j 0+c))%1000000000) (by omega);show _/\_/\_/\_/\_;rw[show i+(j+1)=i+j+1 by omega];refine⟨by simpa using h1,qA h2 (Nat.mod_lt _ (by decide)),by omega,by rw[xI _ (by omega)];exact jL h4,?_⟩;rw[fM b j hj];generalize a.getD (i+j) 0=x at *;generalize b.getD j 0=y at *;have hdm:=Nat.div_add_mod (x+(y+c)) 1000000000;have k2:1000000000^(i+j)*(1000000000*((x+(y+c))/1000000000))+1000000000^(i+j)*((x+(y+c))%1000000000)=1000000000^(i+j)*x+(1000000000^(i+j)*y+1000000000^(i+j)*c):=by
  rw[<-Nat.mul_add,hdm,Nat.mul_add,Nat.mul_add]
 have e1:(aI (b.take j)+1000000000^j*y)*1000000000^i=aI (b.take j)*1000000000^i+1000000000^(i+j)*y:=by
  rw[Nat.add_mul,Nat.pow_add];congr 1;rw[Nat.mul_right_comm,Nat.mul_comm (1000000000^j)]
 have e2:(x+(y+c))/1000000000*1000000000^(i+j+1)=1000000000^(i+j)*(1000000000*((x+(y+c))/1000000000)):=by
  rw[Nat.pow_succ,Nat.mul_comm,Nat.mul_assoc]
 rw[e1,e2];rw[Nat.mul_comm c] at h5;omega
theorem Ak{A:Nat}{b:List Nat}{L s i:Nat}{a q:List Nat}(h:nC A b L s (i+1) a q)(hi:i<L-(s+2)){a':List Nat}{g:Nat}(hl:a'.length=L)(hlt:∀x∈a',x<1000000000)(hg:g<=999999999)
  (hv:aI a'+g*(aI b*1000000000^i)=aI a) (hV:aI a<(g+1)*(aI b*1000000000^i)):nC A b L s i a' (q.set i g):=by
 obtain⟨h1,h2,h3,h4,h5,h6⟩:=h;have e:(q.set i g).drop i=g::q.drop (i+1):=by
  rw[List.drop_eq_getElem_cons (by simp;omega)];congr 1
  ·simp
  ·rw[List.drop_set_of_lt (by omega)]
 refine⟨hl,hlt,by simpa using h3,qA h4 (by omega),?_,?_⟩
 ·rw[Nat.add_mul,Nat.one_mul] at hV;rw[Nat.mul_comm];omega
 ·rw[e,h6];simp only[aI];rw[<-hv,Nat.pow_succ];generalize aI (q.drop (i+1))=Q;generalize 1000000000^i=r;generalize aI b=B;generalize aI a'=V;have e1:(g+1000000000*Q)*r*B=g*(B*r)+Q*(r*1000000000)*B:=by
   rw[Nat.add_mul,Nat.add_mul,Nat.mul_assoc g,Nat.mul_comm r B];congr 2;rw[Nat.mul_comm 1000000000 Q,Nat.mul_assoc,Nat.mul_comm 1000000000 r]
  rw[e1];omega
theorem Zs{A:Nat}{b:List Nat}{L s i:Nat}{a q:List Nat}(h:nC A b L s (i+1) a q)(hb:b.length=s+2)(hi:i<L-(s+2)){a1:List Nat}{g c:Nat}(hg:pR (aI a) b i g)
  (hs:xN a b g i b.length a1 c) (hc:c<=a1.getD (i+(s+2)) 0):nC A b L s i (a1.set (i+(s+2)) (a1.getD (i+(s+2)) 0-c)) (q.set i g):=by
 obtain⟨s1,s2,s3,s4,s5⟩:=hs;have hl:=h.1;rw[List.take_length,hb] at s5;have hx:=bV s2 (i+(s+2));have hset:=mV a1 (i+(s+2)) (a1.getD (i+(s+2)) 0-c) (by omega);refine Ak h hi (by simp[s1,hl]) (qA s2 (by omega)) hg.2 ?_ hg.1;generalize a1.getD (i+(s+2)) 0=x at *;obtain⟨d,rfl⟩:∃d,x=c+d:=⟨x-c,by omega⟩
 rw[Nat.add_sub_cancel_left] at hset ⊢;rw[Nat.mul_add,Nat.mul_comm _ c] at hset;rw[Nat.mul_assoc] at s5;omega
theorem Vv{V x m1 m2 c d g P B:Nat}(h1:m1<P)(h2:m2<P)(hB:B<P)(hc:x<c)(s5:m1+P*x+g*B=V+c*P)(k5:m2+P*x+d*P=m1+P*x+B)(hend:∀g',g=g'+1->g'*B<=V):
  0<g/\x+d=c/\m2+(g-1)*B=V/\V<(g-1+1)*B:=by
 obtain⟨e,rfl⟩:∃e,c=x+1+e:=⟨c-x-1,by omega⟩
 have c1:(x+1+e)*P=P*x+P+e*P:=by rw[Nat.add_mul,Nat.add_mul,Nat.one_mul,Nat.mul_comm x]
 rw[c1] at s5;have hlt:V<g*B:=by omega
 have hg0:0<g:=by
  rcases Nat.eq_zero_or_pos g with rfl|h0
  ·simp at hlt
  ·exact h0
 obtain⟨g',rfl⟩:∃g',g=g'+1:=⟨g-1,by omega⟩
 have hle:=hend g' rfl;rw[Nat.add_mul,Nat.one_mul] at s5 hlt;have hd:m2+d*P+g'*B=V+P+e*P:=by omega
 have hdd:d=1+e:=by
  rcases Nat.lt_trichotomy d (1+e) with hh|hh|hh
  ·exfalso;have:(d+1)*P<=(1+e)*P:=Nat.mul_le_mul_right _ hh;rw[Nat.add_mul,Nat.add_mul,Nat.one_mul] at this;omega
  ·exact hh
  ·exfalso;have:(1+e+1)*P<=d*P:=Nat.mul_le_mul_right _ hh;rw[Nat.add_mul,Nat.add_mul,Nat.one_mul] at this;omega
 subst hdd;rw[Nat.add_mul,Nat.one_mul] at hd;rw[Nat.add_sub_cancel,Nat.add_mul,Nat.one_mul];exact⟨by omega,by omega,by omega,by omega⟩
theorem Vg{A:Nat}{b:List Nat}{L s i:Nat}{a q:List Nat}(h:nC A b L s (i+1) a q)(hb:b.length=s+2)(hbl:∀g∈b,g<1000000000)(hi:i<L-(s+2)){a1 a2:List Nat}{g c d:Nat}(hg:pR (aI a) b i g)(hend:∀g',g=g'+1->g'*(aI b*1000000000^i)<=aI a)
  (hs:xN a b g i b.length a1 c) (hc:a1.getD (i+(s+2)) 0<c) (hk:vP a1 b i b.length a2 d) :
  0<g/\a2.getD (i+(s+2)) 0+d=c/\nC A b L s i (a2.set (i+(s+2)) 0) (q.set i (g-1)):=by
 have hV:=tY h hb hbl;obtain⟨s1,s2,s3,s4,s5⟩:=hs;obtain⟨k1,k2,k3,k4,k5⟩:=hk;have hl:=h.1;rw[List.take_length,hb,Nat.mul_assoc] at s5;rw[List.take_length,hb] at k5;rw[hb] at s4 k4;have hz:aI (a.drop (i+(s+2)+1))=0:=gP (by rw[show i+(s+2)+1=i+s+3 by omega];exact hV);have z1:aI (a1.drop (i+(s+2)+1))=0:=by rw[jL s4];exact hz
 have z2:aI (a2.drop (i+(s+2)+1))=0:=by rw[jL k4];exact z1
 have e1:=fC a1 (i+(s+2));have e2:=fC a2 (i+(s+2));rw[eM,z1,Nat.mul_zero,Nat.add_zero (a1.getD (i+(s+2)) 0)] at e1;rw[eM,z2,Nat.mul_zero,Nat.add_zero (a2.getD (i+(s+2)) 0)] at e2;have ex:=Eh k4;have hset:=mV a2 (i+(s+2)) 0 (by omega);rw[Nat.mul_zero,Nat.add_zero (aI a2)] at hset;have hB:aI b*1000000000^i<1000000000^(i+(s+2)):=by
  rw[Nat.add_comm i,Nat.pow_add];exact Nat.mul_lt_mul_of_pos_right (jX hb hbl) (Nat.pos_of_ne_zero (by intro e;have:=Nat.one_le_pow i 1000000000 (by decide);omega))
 rw[ex] at e2 hset ⊢;rw[e1] at s5 k5;rw[e2] at k5 hset;obtain⟨r1,r2,r3,r4⟩:=Vv (jJ s2 _) (jJ k2 _) hB hc s5 k5 hend;refine⟨r1,r2,Ak h hi (by simp[k1,s1,hl]) (qA k2 (by decide)) (Nat.le_trans (Nat.sub_le _ _) hg.2) ?_ r4⟩;rw[Nat.add_right_cancel hset];exact r3
theorem Ik{m b:List Nat}{s:Nat}(hm:∀g∈m,g<1000000000)(hl:s+2<=m.length)(hpos:0<b.getD (s+1) 0):nC (aI m) b (m.length+2) s (m.length+2-(s+2)) (m ++ [0,0]) (List.replicate (m.length+2-(s+2)) 0):=by
 have hz:aI (m ++ [0,0])=aI m:=by rw[eU];simp[aI]
 refine⟨by simp,?_,by simp,?_,?_,?_⟩
 ·intro g hg;rcases List.mem_append.1 hg with h|h
  ·exact hm g h
  ·simp at h;omega
 ·intro g hg;rw[List.eq_of_mem_replicate hg];decide
 ·rw[hz];have h1:=fW hm;have h2:=fC b (s+1);rw[eM] at h2;have h3:1000000000^(s+1)*1<=1000000000^(s+1)*(b.getD (s+1) 0+1000000000*aI (b.drop (s+1+1))):=Nat.mul_le_mul_left _ (by omega);have h4:1000000000^(m.length+2-(s+2))*1000000000^(s+1)<=1000000000^(m.length+2-(s+2))*aI b:=Nat.mul_le_mul_left _ (by omega);rw[<-Nat.pow_add,show m.length+2-(s+2)+(s+1)=m.length+1 by omega,Nat.pow_succ] at h4;omega
 ·rw[hz,List.drop_eq_nil_of_le (by simp)];simp[aI]
theorem Re{A:Nat}{b:List Nat}{L s:Nat}{a q:List Nat}(h:nC A b L s 0 a q)(hb:b.length=s+2)(hbl:∀g∈b,g<1000000000):
  fQ q=aC (A/aI b)/\fQ (a.take (s+2))=aC (A%aI b):=by
 obtain⟨h1,h2,h3,h4,h5,h6⟩:=h;rw[Nat.pow_zero,Nat.one_mul] at h5;rw[List.drop_zero,Nat.pow_zero,Nat.mul_one] at h6;have hB:=jX hb hbl;have hq:A/aI b=aI q:=by rw[h6,Nat.mul_comm,Nat.mul_add_div (by omega),Nat.div_eq_of_lt h5];omega
 have hr:A%aI b=aI a:=by rw[h6,Nat.mul_comm,Nat.mul_add_mod,Nat.mod_eq_of_lt h5]
 rw[hq,hr,rG h4,rG (fun g hg=>h2 g (List.mem_of_mem_take hg)),xU (by omega)];exact⟨rfl,rfl⟩
end Go.Proofs.YtiloklnjjfaagaaGreatDoor
end
section
namespace Go.Proofs.YtiloklnjjfaagaaGreatDoor.Cal
def aEy(y:Int):Bool:=(y%4==0&&y%100 != 0) || y%400==0
def lp(y:Int):Int:=if aEy y=true then 1 else 0
def dim(y m:Int):Int:=if m=2 then 28+lp y else if m=4∨m=6∨m=9∨m=11 then 30 else 31
def dby(y:Int):Int:=365*(y-1900)+((y-1)/4-(y-1)/100+(y-1)/400)-460
def cum(y m:Int):Int :=
 if m=1 then 0 else if m=2 then 31 else if m=3 then 59+lp y else if m=4 then 90+lp y else if m=5 then 120+lp y
 else if m=6 then 151+lp y else if m=7 then 181+lp y else if m=8 then 212+lp y else if m=9 then 243+lp y
 else if m=10 then 273+lp y else if m=11 then 304+lp y else if m=12 then 334+lp y else 365+lp y
def num(y m d:Int):Int:=dby y+cum y m+d-1
def aEn(y m d:Int):Prop:=1900<=y/\y<=2199/\1<=m/\m<=12/\1<=d/\d<=dim y m
def aDs(n:Int)(p:Int×Int×Int):Prop:=aEn p.1 p.2.1 p.2.2/\num p.1 p.2.1 p.2.2=n
noncomputable def civ(n:Int):Int×Int×Int:=Classical.epsilon (aDs n)
noncomputable def Gw(n k:Int):Int:=12*(civ n).1+(civ n).2.1-1+k
noncomputable def rC(n k:Int):Int:=Gw n k/12
noncomputable def yP(n k:Int):Int:=Gw n k%12+1
noncomputable def Sn(n k:Int):Int:=min (civ n).2.2 (dim (rC n k) (yP n k))
noncomputable def aDv(n k:Int):Int:=num (rC n k) (yP n k) (Sn n k)
noncomputable def add(d n:Int):Int×Int :=
 if d < -25567∨84005<d then(0,13) else if n < -4800∨4800<n then(0,2)
 else if rC (d+25567) n<1900∨2199<rC (d+25567) n then(0,13) else(aDv (d+25567) n-25567,0)
end Go.Proofs.YtiloklnjjfaagaaGreatDoor.Cal
end
