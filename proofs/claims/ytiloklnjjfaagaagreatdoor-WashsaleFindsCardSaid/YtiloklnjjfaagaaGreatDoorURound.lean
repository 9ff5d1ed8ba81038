/- Round Red13 -/
import Derived.Test.YtiloklnjjfaagaaGreatDoorUOrder
set_option maxHeartbeats 16000000
set_option maxRecDepth 100000
namespace Go.Proofs.YtiloklnjjfaagaaGreatDoor
open Go.Proofs.Tryz
section
open Go Go.RowKit Num
theorem aRs(z:Int):eT z 1=z:=by unfold eT gE;simp
theorem aRt(z:Int):fT z 1=1:=by unfold fT gE;simp
theorem aQz(z:Int):(aJ z == [])=decide (z=0):=by
 by_cases h:z=0
 ·subst h;rw[nA];rfl
 ·have:aJ z ≠ []:=fun e=>h (by rw[<-bE z,e];rfl)
  simp[h,this]
theorem aQ4{l:List UInt8}(h:0<=val l):dD l=false:=by
 rw[Gv];simp;omega
theorem aRe(n d:List UInt8)(w:World)(hE:iE w)(hn:n.length<=200)(hd:d.length<=200):
  Calls prog 172 #[.agg #[.string ⟨n.toArray⟩,.string ⟨d.toArray⟩]] w fun e w'=>e=.returned (.tuple #[.string ⟨(aJ (eT (val n) (lU d))).toArray⟩,.string ⟨(aJ (fT (val n) (lU d))).toArray⟩])/\Below w.heap.size w w':=by
 have HE:=Hd hE;have HP:=Hd (fun W=>rD n d W (by omega));have HRD:=Hd (fun W hE=>Gf n (jN d) W hE (by omega) (Nat.le_trans (qR (K:=200) (by decide) hd) (by decide)) (by rw[iH];exact qQ d));rw[iH] at HRD;generalize aJ (eT (val n) (lU d))=r1 at *;generalize aJ (fT (val n) (lU d))=r2 at *;generalize jN d=ds at *;clear hE;go_enter func172,ntmps172;go_wp2_with fail;refine(HP.out _).mono ?_;rintro e w1 ⟨rfl,hb1⟩;have HB1:=Hd (aA (aB w (.cells #[.string ⟨n.toArray⟩,.string ⟨d.toArray⟩] 171)) hb1);clear hb1 HP;go_wp2_with fail;refine(HRD.out _ (HE.out.below HB1.out)).mono ?_;rintro e w2 ⟨rfl,hb2⟩;have HB2:=Hd (aA HB1.out hb2);clear hb2;go_wp2;go_ret2;exact⟨rfl,HB2.out⟩
theorem aS8(l:List UInt8)(w:World)(hE:iE w)(hl:l.length<=1000)(h0:0<=val l):
  Calls prog 174 #[.string ⟨l.toArray⟩] w fun e w'=>e=.returned (.bool (decide ((val l).fmod 2=0)))/\Below w.heap.size w w':=by
 have HD:=Hd (Ry l [50] w hE (by omega) (by decide) (by decide) (.inl ((aQ4 h0).trans (by decide))));rw[show val [50]=2 from by decide] at HD;have hz:=aQz ((val l).fmod 2);generalize aJ ((val l).fmod 2)=r at *;generalize aJ ((val l).fdiv 2)=q at *;generalize decide ((val l).fmod 2=0)=b at *;clear hE hl h0;go_enter func174,ntmps174;go_wp2_with fail;refine HD.out.mono ?_;rintro e w1 ⟨rfl,hb1⟩;have HB1:=Hd hb1;clear hb1 HD;go_wp2;go_ret;exact⟨by rw[<-hz];rfl,HB1.out⟩
def aQ3(N D:Int):Int:=if D<N.fmod D+N.fmod D∨(N.fmod D+N.fmod D=D/\¬ (N.fdiv D).fmod 2=0) then N.fdiv D+1 else N.fdiv D
theorem aSs(n d:List UInt8)(w:World)(hE:iE w)(hn:n.length<=130)(hd:d.length<=130)(h0:0<=eT (val n) (lU d))(h1:0<fT (val n) (lU d)):
  Calls prog 139 #[.agg #[.string ⟨n.toArray⟩,.string ⟨d.toArray⟩],.int .i64 1] w fun e w'=>e=.returned (.tuple #[.string ⟨(aJ (aQ3 (eT (val n) (lU d)) (fT (val n) (lU d)))).toArray⟩,.int .i64 0])/\Below w.heap.size w w':=by
 have HE:=Hd hE;have HP:=Hd (fun W hE=>aRe n d W hE (by omega) (by omega));have lp:(aJ (eT (val n) (lU d))).length<=131:=uE (K:=130) (by decide) (Sy (qQ d)) rfl hn;have lq:(aJ (fT (val n) (lU d))).length<=131:=uE (K:=130) (by decide) (Tk (qQ d)) (iH d).symm (qR (K:=130) (by decide) hd);generalize eT (val n) (lU d)=N at *;generalize fT (val n) (lU d)=D at *;have hlow:0<=N.fdiv D:=by rw[Int.fdiv_eq_ediv_of_nonneg _ (by omega)];exact Int.ediv_nonneg h0 (by omega)
 have hrl:0<=N.fmod D/\N.fmod D<D:=⟨Int.fmod_nonneg_of_pos _ h1,Int.fmod_lt_of_pos _ h1⟩
 have hlowle:N.fdiv D<=N:=by rw[Int.fdiv_eq_ediv_of_nonneg _ (by omega)];exact Int.ediv_le_self _ h0
 have abN:N.natAbs<10^131:=by have:=lO lp;rwa [bE] at this
 have abD:D.natAbs<10^131:=by have:=lO lq;rwa [bE] at this
 have ll:(aJ (N.fdiv D)).length<=132:=gC (by decide) (Nat.lt_of_le_of_lt (by omega) abN);have lr:(aJ (N.fmod D)).length<=132:=gC (by decide) (Nat.lt_of_le_of_lt (by omega) abD);have HDV:=Hd (fun W hE=>Ry (aJ N) (aJ D) W hE (by omega) (by omega) (by rw[bE];omega) (.inl ((aQ4 (by rw[bE];exact h0)).trans (aQ4 (by rw[bE];omega)).symm)));rw[bE,bE] at HDV;have HAD:=Hd (fun W hE=>aAg (aJ (N.fdiv D)) [49] W hE (by omega) (by decide));rw[bE,jB] at HAD;have HRR:=Hd (fun W hE=>aAg (aJ (N.fmod D)) (aJ (N.fmod D)) W hE (by omega) (by omega));rw[bE] at HRR;have HCN:=Hd (fun W=>nV (aJ N) [] W (by omega) (by simp));rw[bE,show val []=0 from rfl] at HCN;have l2:(aJ (N.fmod D+N.fmod D)).length<=134:=gC (by decide) (by omega);have HCH:=Hd (fun W=>nV (aJ (N.fmod D+N.fmod D)) (aJ D) W (by omega) (by omega));rw[bE,bE] at HCH;have HEV:=Hd (fun W hE=>aS8 (aJ (N.fdiv D)) W hE (by omega) (by rw[bE];exact hlow));rw[bE] at HEV;have hz:=aQz (N.fmod D);have HRV:Hid (aQ3 N D=if D<N.fmod D+N.fmod D∨(N.fmod D+N.fmod D=D/\¬ (N.fdiv D).fmod 2=0) then N.fdiv D+1 else N.fdiv D):=rfl;have HR0:=Hd hrl;generalize aQ3 N D=rv at *;have hc:bG (N.fmod D+N.fmod D) D=if N.fmod D+N.fmod D<D then -1 else if D<N.fmod D+N.fmod D then 1 else 0:=rfl
 clear abN abD hlow hlowle ll lr l2 lp lq hE hn hd h0 hrl;generalize N.fdiv D=lo at *;generalize N.fmod D=r at *;generalize bG N 0=cn at *;generalize bG (r+r) D=ch at *;obtain⟨ev,hev⟩:∃ev,ev=decide (lo.fmod 2=0):=⟨_,rfl⟩
 rw[<-hev] at HEV
 by_cases hr:r=0
 ·subst hr;have hR:=HR0.out;have HV:Hid (rv=lo):=by show _=_;rw[HRV.out,if_neg (by rintro(h|⟨h,_⟩) <;> omega)]
  have hch:ch = -1:=by rw[hc,if_pos (by omega)]
  have hz':(aJ (0:Int) == [])=true:=by rw[hz];rfl
  subst hch;clear hz hc hR HR0 HRV HEV HAD;generalize aJ (0:Int)=sr at *;go_enter func139,ntmps139;have HB0:=Hd (aB w (.cells #[.string ⟨n.toArray⟩,.string ⟨d.toArray⟩] 171));go_wp2_with fail;refine(HP.out _ (HE.out.below HB0.out)).mono ?_;rintro e w1 ⟨rfl,hb⟩;have HB1:=Hd (aA HB0.out hb);clear hb HP HB0;go_wp2_with fail;refine(HDV.out _ (HE.out.below HB1.out)).mono ?_;rintro e w2 ⟨rfl,hb⟩;have HB2:=Hd (aA HB1.out hb);clear hb HDV HB1;go_wp2_with fail;refine(HCN.out _).mono ?_;rintro e w4 ⟨rfl,hb⟩;have HB4:=Hd (aA HB2.out hb);clear hb HCN;go_wp2_with fail;refine(HRR.out _ (HE.out.below HB4.out)).mono ?_;rintro e w5 ⟨rfl,hb⟩;have HB5:=Hd (aA HB4.out hb);clear hb HRR HB4;go_wp2_with fail;refine(HCH.out _).mono ?_;rintro e w6 ⟨rfl,hb⟩;have HB6:=Hd (aA HB5.out hb);clear hb HCH HB5;go_wp2;go_ret2;exact⟨by rw[HV.out];rfl,HB6.out⟩
 ·have hz':(aJ r == [])=false:=by rw[hz];simpa using hr
  rcases Int.lt_trichotomy (r+r) D with h|h|h
  ·have HV:Hid (rv=lo):=by show _=_;rw[HRV.out,if_neg (by rintro(h'|⟨h',_⟩) <;> omega)]
   have hch:ch = -1:=by rw[hc,if_pos h]
   subst hch;clear HEV;clear hz hc HR0 HRV h hr;go_enter func139,ntmps139;have HB0:=Hd (aB w (.cells #[.string ⟨n.toArray⟩,.string ⟨d.toArray⟩] 171));go_wp2_with fail;refine(HP.out _ (HE.out.below HB0.out)).mono ?_;rintro e w1 ⟨rfl,hb⟩;have HB1:=Hd (aA HB0.out hb);clear hb HP HB0;go_wp2_with fail;refine(HDV.out _ (HE.out.below HB1.out)).mono ?_;rintro e w2 ⟨rfl,hb⟩;have HB2:=Hd (aA HB1.out hb);clear hb HDV HB1;go_wp2_with fail;refine(HAD.out _ (HE.out.below HB2.out)).mono ?_;rintro e w3 ⟨rfl,hb⟩;have HB3:=Hd (aA HB2.out hb);clear hb HAD HB2;go_wp2_with fail;refine(HCN.out _).mono ?_;rintro e w4 ⟨rfl,hb⟩;have HB4:=Hd (aA HB3.out hb);clear hb HCN;go_wp2_with fail;refine(HRR.out _ (HE.out.below HB4.out)).mono ?_;rintro e w5 ⟨rfl,hb⟩;have HB5:=Hd (aA HB4.out hb);clear hb HRR HB4;go_wp2_with fail;refine(HCH.out _).mono ?_;rintro e w6 ⟨rfl,hb⟩;have HB6:=Hd (aA HB5.out hb);clear hb HCH HB5;go_wp2;go_ret2;exact⟨by rw[HV.out];rfl,HB6.out⟩
  ·have hch:ch=0:=by rw[hc,if_neg (by omega),if_neg (by omega)]
   subst hch;have HV0:Hid (rv=if ev=true then lo else lo+1):=by
    show _=_;rw[HRV.out,hev]
    by_cases h2:lo.fmod 2=0
    ·rw[if_neg (by rintro(h'|⟨_,h'⟩);omega;exact h' h2)];simp[h2]
    ·rw[if_pos (.inr ⟨h,h2⟩)];simp[h2]
   clear hev;clear hz hc HR0 HRV h hr;go_enter func139,ntmps139;have HB0:=Hd (aB w (.cells #[.string ⟨n.toArray⟩,.string ⟨d.toArray⟩] 171));go_wp2_with fail;refine(HP.out _ (HE.out.below HB0.out)).mono ?_;rintro e w1 ⟨rfl,hb⟩;have HB1:=Hd (aA HB0.out hb);clear hb HP HB0;go_wp2_with fail;refine(HDV.out _ (HE.out.below HB1.out)).mono ?_;rintro e w2 ⟨rfl,hb⟩;have HB2:=Hd (aA HB1.out hb);clear hb HDV HB1;go_wp2_with fail;refine(HAD.out _ (HE.out.below HB2.out)).mono ?_;rintro e w3 ⟨rfl,hb⟩;have HB3:=Hd (aA HB2.out hb);clear hb HAD HB2;go_wp2_with fail;refine(HCN.out _).mono ?_;rintro e w4 ⟨rfl,hb⟩;have HB4:=Hd (aA HB3.out hb);clear hb HCN;go_wp2_with fail;refine(HRR.out _ (HE.out.below HB4.out)).mono ?_;rintro e w5 ⟨rfl,hb⟩;have HB5:=Hd (aA HB4.out hb);clear hb HRR HB4;go_wp2_with fail;refine(HCH.out _).mono ?_;rintro e w6 ⟨rfl,hb⟩;have HB6:=Hd (aA HB5.out hb);clear hb HCH HB5;go_wp2_with fail;refine(HEV.out _ (HE.out.below HB6.out)).mono ?_;rintro e w7 ⟨rfl,hb⟩;have HB7:=Hd (aA HB6.out hb);clear hb HEV HB6;cases ev with
   |true =>
    have HV:Hid (rv=lo):=HV0.out;go_wp2;go_ret2;exact⟨by rw[HV.out];rfl,HB7.out⟩
   |false =>
    have HV:Hid (rv=lo+1):=HV0.out;go_wp2;go_ret2;exact⟨by rw[HV.out];rfl,HB7.out⟩
  ·have HV:Hid (rv=lo+1):=by show _=_;rw[HRV.out,if_pos (.inl h)]
   have hch:ch=1:=by rw[hc,if_neg (by omega),if_pos h]
   subst hch;clear HEV;clear hz hc HR0 HRV h hr;go_enter func139,ntmps139;have HB0:=Hd (aB w (.cells #[.string ⟨n.toArray⟩,.string ⟨d.toArray⟩] 171));go_wp2_with fail;refine(HP.out _ (HE.out.below HB0.out)).mono ?_;rintro e w1 ⟨rfl,hb⟩;have HB1:=Hd (aA HB0.out hb);clear hb HP HB0;go_wp2_with fail;refine(HDV.out _ (HE.out.below HB1.out)).mono ?_;rintro e w2 ⟨rfl,hb⟩;have HB2:=Hd (aA HB1.out hb);clear hb HDV HB1;go_wp2_with fail;refine(HAD.out _ (HE.out.below HB2.out)).mono ?_;rintro e w3 ⟨rfl,hb⟩;have HB3:=Hd (aA HB2.out hb);clear hb HAD HB2;go_wp2_with fail;refine(HCN.out _).mono ?_;rintro e w4 ⟨rfl,hb⟩;have HB4:=Hd (aA HB3.out hb);clear hb HCN;go_wp2_with fail;refine(HRR.out _ (HE.out.below HB4.out)).mono ?_;rintro e w5 ⟨rfl,hb⟩;have HB5:=Hd (aA HB4.out hb);clear hb HRR HB4;go_wp2_with fail;refine(HCH.out _).mono ?_;rintro e w6 ⟨rfl,hb⟩;have HB6:=Hd (aA HB5.out hb);clear hb HCH HB5;go_wp2;go_ret2;exact⟨by rw[HV.out];rfl,HB6.out⟩
end
section
open Go Go.RowKit Num
theorem bK9(N D:Int):(gE N D:Int)∣N:=Int.ofNat_dvd_left.2 (Nat.gcd_dvd_left _ _)
theorem bLa(N D:Int):(gE N D:Int)∣D:=Int.ofNat_dvd_left.2 (Nat.gcd_dvd_right _ _)
theorem bLt{N D:Int}(hD:D≠0):eT N D*gE N D=if D<0 then -N else N:=by
 have hg:=qJ (N:=N) hD;have hd:(gE N D:Int)∣(if D<0 then -N else N):=by
  split
  ·exact Int.dvd_neg.2 (bK9 N D)
  ·exact bK9 N D
 obtain⟨k,hk⟩:=hd;unfold eT;rw[hk,Int.mul_fdiv_cancel_left _ (by omega),Int.mul_comm]
theorem bJa{N D:Int}(hD:D≠0):fT N D*gE N D=if D<0 then -D else D:=by
 have hg:=qJ (N:=N) hD;have hd:(gE N D:Int)∣(if D<0 then -D else D):=by
  split
  ·exact Int.dvd_neg.2 (bLa N D)
  ·exact bLa N D
 obtain⟨k,hk⟩:=hd;unfold fT;rw[hk,Int.mul_fdiv_cancel_left _ (by omega),Int.mul_comm]
theorem bKf{N D:Int}(hD:D≠0):0<fT N D:=by
 have h:=bJa (N:=N) hD;have hg:=qJ (N:=N) hD;have hp:0<fT N D*gE N D:=by rw[h];split <;> omega
 exact Int.pos_of_mul_pos_left hp (by omega)
theorem bOz{z:Int}(h:0<z):lU (nD z)=z:=by
 unfold nD;split
 ·rename_i e;have:=congrArg val e;rw[bE,jB] at this;rw[this];rfl
 ·unfold lU;rw[bE,if_neg (by omega)]
theorem bPd{N D:Int}(hD:D≠0):eT (eT N D) (fT N D)=eT N D/\fT (eT N D) (fT N D)=fT N D:=by
 have hp:=bKf (N:=N) hD;have hg:=qJ (N:=N) hD;have h1:=bLt (N:=N) hD;have h2:=bJa (N:=N) hD;have h3:gE (eT N D) (fT N D)=1:=by
  have e:gE N D=gE (eT N D) (fT N D)*gE N D:=by
   have h4:gE (eT N D*gE N D) (fT N D*gE N D)=gE (eT N D) (fT N D)*gE N D:=by
    show Nat.gcd _ _=_;rw[Int.natAbs_mul,Int.natAbs_mul,Nat.gcd_mul_right];simp[gE]
   rw[<-h4,h1,h2];split
   ·rw[Hw]
   ·rfl
  have:gE N D*1=gE N D*gE (eT N D) (fT N D):=by rw[Nat.mul_one,Nat.mul_comm];exact e
  exact(Nat.eq_of_mul_eq_mul_left hg this).symm
 have hl:¬ fT N D<0:=by omega
 constructor
 ·rw[show eT (eT N D) (fT N D)=(if fT N D<0 then -(eT N D) else eT N D).fdiv (gE (eT N D) (fT N D)) from rfl,h3,if_neg hl];simp
 ·rw[show fT (eT N D) (fT N D)=(if fT N D<0 then -(fT N D) else fT N D).fdiv (gE (eT N D) (fT N D)) from rfl,h3,if_neg hl];simp
end
end Go.Proofs.YtiloklnjjfaagaaGreatDoor
