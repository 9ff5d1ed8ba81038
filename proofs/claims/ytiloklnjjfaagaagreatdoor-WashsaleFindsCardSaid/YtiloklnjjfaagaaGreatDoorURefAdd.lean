/- RefAdd -/
import Derived.Test.YtiloklnjjfaagaaGreatDoorUMaps
import Derived.Lib.ItoaLen
set_option maxHeartbeats 16000000
set_option maxRecDepth 100000
namespace Go.Proofs.YtiloklnjjfaagaaGreatDoor
open Tryz
open Go.RowKit Num
attribute [local go_sem] eW eN aV
theorem xJ(q:Nat)(h:q≠0):aU q=aU (q/10) ++ [UInt8.ofNat (48+q%10)]:=by
 unfold aU;rw[if_neg h]
 by_cases g:q<10
 ·rw[Lib.decDigits_one g,if_pos (by omega),Nat.mod_eq_of_lt g];rfl
 ·rw[if_neg (by omega),Lib.decDigits,dif_neg g]
theorem Er(d:Nat)(h:d<10):Utf8.encode (48+(d:Int))=⟨[UInt8.ofNat (48+d)].toArray⟩:=by
 match d,h with
 |0,_=>decide
 |1,_=>decide
 |2,_=>decide
 |3,_=>decide
 |4,_=>decide
 |5,_=>decide
 |6,_=>decide
 |7,_=>decide
 |8,_=>decide
 |9,_=>decide
theorem Ty{N q:Nat}{tx:List UInt8}(hN:N<18446744073709551616)(h:Lib.decDigits N=aU q++tx):tx.length<=20:=by
 have h1:=congrArg List.length h;rw[Lib.decDigits_length,List.length_append] at h1;have:=Lib.nDigits_le20 N hN;omega
theorem aAe(N:Nat)(h0:N≠0)(h1:N<=9223372036854775807)(w:World):
  Calls prog 104 #[.int .i64 ((N:Int))] w fun e w'=>e=.returned (.string ⟨(aJ ((N:Int))).toArray⟩)/\w=w':=by
 have hn0:(((N:Int))==0)=false:=by simp;omega
 have hn1:¬ ((N:Int))<0:=by omega
 have hc:Hid (aJ ((N:Int))=Lib.decDigits N):=by
  show _=_;unfold aJ;rw[if_neg (by omega)];unfold aU;simp[h0]
 have hi:Hid (Lib.decDigits N=aU N ++ []):=by show _=_;unfold aU;rw[if_neg h0];simp
 generalize aJ _=r at *;go_enter func104,ntmps104;go_wp2;go_loop [3,4] (fun t m=>∃(q:Nat) (tx:List UInt8),q<=N/\m=.int .i64 ((q:Int))/\t=.string ⟨tx.toArray⟩/\Hid (Lib.decDigits N=aU q++tx)) (fun _ m=>(intOf m).natAbs)
 case atStart=>exact⟨N,[],Nl _,rfl,rfl,hi⟩
 case round =>
  obtain⟨q,tx,hqN,rfl,rfl,hx⟩:=hrel;have htx:=Ty (by omega) hx.out;have hqN:=Hd hqN;have h1:=Hd h1
  by_cases hk:q=0
  ·subst hk;have hd:Hid (Lib.decDigits N=tx):=by show _=_;rw[hx.out];rfl
   go_wp2;go_ret;exact⟨dW (by rw[hc.out,hd.out];rfl),rfl⟩
  ·have hk0:(((q:Int)) != 0)=true:=by simp;omega
   have e1:((q:Int)).tmod 10=((q%10:Nat):Int):=by rfl
   have e2:((q:Int)).tdiv 10=((q/10:Nat):Int):=by rfl
   have hx2:Hid (Lib.decDigits N=aU (q/10)++(UInt8.ofNat (48+q%10)::tx)):=by show _=_;rw[hx.out,xJ q hk];simp
   have hd10:q%10<10:=Nat.mod_lt _ (by decide);have hq10:q/10<q:=Nat.div_lt_self (by omega) (by decide);have hen:=Er (q%10) hd10;clear hx;generalize UInt8.ofNat (48+q%10)=ch at *;generalize q%10=d at *;generalize q/10=q' at *;have hw1:wrap64 (48+(d:Int))=48+(d:Int):=by unfold wrap64;omega
   have hw2:wrap32 (48+(d:Int))=48+(d:Int):=by unfold wrap32;omega
   have hw3:wrap64 ((q':Int))=(q':Int):=by have:=h1.out;have:=hqN.out;unfold wrap64;omega
   have hw4:wrap64 (d:Int)=(d:Int):=by unfold wrap64;omega
   have hq10:=Hd hq10;clear hd10;have hs:¬ (d:Int)<0:=Int.not_lt.2 (Int.natCast_nonneg d);go_wp2;go_round
   case rel=>exact⟨q',_,by have:=hqN.out;have:=hq10.out;omega,rfl,rfl,hx2⟩
   case measure=>have:=hq10.out;simp[intOf];omega
theorem aAf(N:Nat)(h0:N≠0)(h1:N<=9223372036854775807)(n:Int)(hn:n = -(N:Int))(w:World):
  Calls prog 104 #[.int .i64 n] w fun e w'=>e=.returned (.string ⟨(aJ n).toArray⟩)/\w=w':=by
 have hn0:(n==0)=false:=by simp;omega
 have hn1:n<0:=by omega
 have hc:Hid (aJ n=45::Lib.decDigits N):=by
  show _=_;unfold aJ;rw[if_pos hn1,hn];simp
 have hi:Hid (Lib.decDigits N=aU N ++ []):=by show _=_;unfold aU;rw[if_neg h0];simp
 have HN:=Hd hn;have H1:=Hd h1;clear hn h1 h0;generalize aJ _=r at *;go_enter func104,ntmps104;go_wp2;go_loop [3,4] (fun t m=>∃(k:Int) (q:Nat) (tx:List UInt8),Hid (q<=N/\k = -(q:Int))/\m=.int .i64 k/\t=.string ⟨tx.toArray⟩/\Hid (Lib.decDigits N=aU q++tx)) (fun _ m=>(intOf m).natAbs)
 case atStart=>exact⟨n,N,[],⟨Nl _,HN.out⟩,rfl,rfl,hi⟩
 case round =>
  obtain⟨k,q,tx,hq,rfl,rfl,hx⟩:=hrel;have htx:=Ty (by have:=H1.out;omega) hx.out
  by_cases hk:q=0
  ·have hd:Hid (Lib.decDigits N=tx):=by show _=_;rw[hx.out,hk];rfl
   have hk0:(k != 0)=false:=by have:=hq.out.2;simp;omega
   go_wp2;go_ret;exact⟨dW (by rw[hc.out,hd.out];rfl),rfl⟩
  ·have hk0:(k != 0)=true:=by have:=hq.out.2;simp;omega
   have e1:k.tmod 10 = -((q%10:Nat):Int):=by rw[hq.out.2,Int.neg_tmod];rfl
   have e2:k.tdiv 10 = -((q/10:Nat):Int):=by rw[hq.out.2,Int.neg_tdiv];rfl
   have hx2:Hid (Lib.decDigits N=aU (q/10)++(UInt8.ofNat (48+q%10)::tx)):=by show _=_;rw[hx.out,xJ q hk];simp
   have hd10:q%10<10:=Nat.mod_lt _ (by decide);have hq10:Hid (q/10<q/\q<=N/\k = -(q:Int)):=⟨Nat.div_lt_self (by omega) (by decide),hq.out.1,hq.out.2⟩
   have hen:=Er (q%10) hd10;clear hx hq hk;generalize UInt8.ofNat (48+q%10)=ch at *;generalize q%10=d at *;generalize q/10=q' at *;obtain⟨rr,hrr⟩:∃rr,rr = -(d:Int):=⟨_,rfl⟩
   obtain⟨kk,hkk⟩:∃kk,kk = -(q':Int):=⟨_,rfl⟩
   obtain⟨x,hx48⟩:∃x,x=48+(d:Int):=⟨_,rfl⟩
   rw[<-hrr] at e1;rw[<-hkk] at e2;rw[<-hx48] at hen;have hw2:wrap32 x=x:=by unfold wrap32;omega
   have hw3:wrap64 kk=kk:=by have:=hq10.out;have:=H1.out;unfold wrap64;omega
   have HK:Hid (q'<=N/\kk = -(q':Int)):=⟨by have:=hq10.out;omega,hkk⟩
   have HM:Hid (kk.natAbs<k.natAbs):=by have:=hq10.out;show _<_;omega
   by_cases hz:d=0
   ·have hs:¬ rr<0:=by omega
    have hw1:wrap64 (48+rr)=x:=by unfold wrap64;omega
    clear hz hkk hrr hx48 hd10 hq10;go_wp2;go_round
    case rel=>exact⟨kk,q',_,HK,by rw[hw3],rfl,hx2⟩
    case measure=>rw[hw3];exact HM.out
   ·have hs:rr<0:=by omega
    obtain⟨dd,hdd⟩:∃dd,dd=(d:Int):=⟨_,rfl⟩
    have hw4:wrap64 (-rr)=dd:=by unfold wrap64;omega
    have hw1:wrap64 (48+dd)=x:=by unfold wrap64;omega
    clear hz hkk hrr hx48 hd10 hq10 hdd;go_wp2;go_round
    case rel=>exact⟨kk,q',_,HK,by rw[hw3],rfl,hx2⟩
    case measure=>rw[hw3];exact HM.out
theorem nS(n:Int)(h1:-9223372036854775807<=n)(h2:n<=9223372036854775807)(w:World):
  Calls prog 104 #[.int .i64 n] w fun e w'=>e=.returned (.string ⟨(aJ n).toArray⟩)/\w=w':=by
 by_cases h0:n=0
 ·subst h0;rw[nA];go_enter func104,ntmps104;go_wp2;go_ret;exact⟨rfl,rfl⟩
 ·by_cases hn:n<0
  ·exact aAf n.natAbs (by omega) (by omega) n (by omega) w
  ·obtain⟨N,rfl⟩:∃N:Nat,n=N:=⟨n.toNat,by omega⟩
   exact aAe N (by omega) (by omega) w
theorem rR{d:List UInt8}{k:Nat}{c:UInt8}(h:d[k]?=some c):bK (d.take (k+1))=10*bK (d.take k)+(c.toNat-48):=by
 rw[List.take_add_one,h];exact zF _ _
theorem xB{d:List UInt8}(h:d.all bF=true)(k:Nat)(hl:d.length<=17):bK (d.take k)<100000000000000000:=by
 have h1:(d.take k).all bF=true:=by
  rw[List.all_eq_true] at h ⊢;exact fun x hx=>h x (List.mem_of_mem_take hx)
 have h2:=mR _ h1;have h3:10^(d.take k).length<=10^17:=Nat.pow_le_pow_right (by decide) (by simp;omega);omega
theorem gU(l:List UInt8)(w:World)(hl:l.length<=9000000000000000000)(hs:(aZ l).length<=17):
  Calls prog 103 #[.string ⟨l.toArray⟩] w fun e w'=>e=.returned (.tuple #[.int .i64 (val l),.bool true])/\w=w':=by
 have H:=Hd (fR l w hl);have hv:Hid (val l=if dD l=true then -(bK (aZ l):Int) else(bK (aZ l):Int)):=rfl;have hd:=Hd (fD l);generalize aZ l=d at *;generalize val l=r at *;generalize dD l=ng at *;go_enter func103,ntmps103;go_wp2_with fail;refine H.out.mono ?_;rintro e w1 ⟨rfl,rfl⟩;clear H;have hs1:¬ (17:Int)<d.length:=by omega
 go_wp2;go_loop [6,7] (fun t i=>∃(k:Nat) (z:Int),k<=d.length/\i=.int .i64 (k:Int)/\t=.int .i64 z/\Hid (z=(bK (d.take k):Int))) (fun _ i=>d.length-(intOf i).toNat)
 case atStart=>exact⟨0,0,Nat.zero_le _,rfl,rfl,rfl⟩
 case round =>
  obtain⟨k,z,hk,rfl,rfl,hz⟩:=hrel
  by_cases hlt:k<d.length
  ·have hsz:k<(⟨d.toArray⟩:ByteArray).size:=by rw[aV];exact hlt
   obtain⟨c,hc⟩:∃c,d[k]?=some c:=⟨d[k],Lg hlt⟩
   have hgk:((⟨d.toArray⟩:ByteArray)[k]'hsz)=c:=by rw[gF];rw[List.getD_eq_getElem?_getD,hc];rfl
   have hcd:48<=c.toNat/\c.toNat<=57:=(dO c).1 (by have:=hd.out;rw[List.all_eq_true] at this;exact this c (List.mem_of_getElem? hc));have hn1:=xB hd.out k (by omega);have HZ:Hid (wrap64 (wrap64 (10*z)+((c.toNat:Int)-48)%256)=(bK (d.take (k+1)):Int)):=by
    show _=_;rw[rR hc,hz.out];unfold wrap64;omega
   clear hc hn1 hcd;go_wp2;go_round
   case rel=>exact⟨k+1,_,by omega,by go_num,rfl,HZ⟩
   case measure=>simp[intOf];omega
  ·obtain rfl:k=d.length:=by omega
   have hn1:=xB hd.out d.length (by omega);have hz2:Hid (z=(bK d:Int)):=by show _=_;rw[hz.out,List.take_length]
   cases ng
   ·have hr:Hid (r=z):=by show _=_;rw[hv.out,hz2.out];simp
    go_wp2;go_ret2;exact⟨by rw[hr.out];rfl,rfl⟩
   ·have hr:Hid (r=wrap64 (-z)):=by
     show _=_;have:=hz2.out;rw[List.take_length] at hn1;rw[hv.out,this];simp;unfold wrap64;omega
    go_wp2;go_ret2;exact⟨by rw[hr.out];rfl,rfl⟩
theorem gQ{l:List UInt8}{K:Nat}(h:(val l).natAbs<10^K)(hK:1<=K):(aZ l).length<=K:=by
 rw[lL];unfold aU;split
 ·simp
 ·rw[Lib.decDigits_length];exact jU _ K hK h
theorem Wf(l m:List UInt8)(w:World)(hl:l.length<=9000000000000000000)(hm:m.length<=9000000000000000000)(h1:(val l).natAbs<100000000000000000)(h2:(val m).natAbs<100000000000000000):
  Calls prog 52 #[.string ⟨l.toArray⟩,.string ⟨m.toArray⟩] w fun e w'=>e=.returned (.string ⟨(aJ (val l+val m)).toArray⟩)/\w=w':=by
 have H1:=Hd (fun W=>gU l W hl (gQ (K:=17) h1 (by decide)));have H2:=Hd (fun W=>gU m W hm (gQ (K:=17) h2 (by decide)));have H3:=Hd (fun W=>nS (val l+val m) (by omega) (by omega) W);have hw:wrap64 (val l+val m)=val l+val m:=by unfold wrap64;omega
 clear h1 h2;generalize val l=x at *;generalize val m=y at *;generalize aJ _=r at *;go_enter func52,ntmps52;go_wp2_with fail;refine(H1.out _).mono ?_;rintro e w1 ⟨rfl,rfl⟩;go_wp2_with fail;refine(H2.out _).mono ?_;rintro e w1 ⟨rfl,rfl⟩;go_wp2_with fail
 first|rw[hw]|skip
 refine(H3.out _).mono ?_;rintro e w1 ⟨rfl,rfl⟩;go_wp2;go_ret;exact⟨rfl,rfl⟩
theorem Bw(l:List UInt8):aJ (-(val l))=if dD l=true∨aZ l=[] then aZ l else 45::aZ l:=by
 have hd:=lL l;have hn:=Gv l
 by_cases g:val l<0
 ·rw[if_pos (.inl (by rw[hn];simp[g])),hd];unfold aJ;rw[if_neg (by omega),show (-(val l)).toNat=(val l).natAbs by omega]
 ·by_cases g0:val l=0
  ·rw[g0] at hd;have:aZ l=[]:=by rw[hd];rfl
   rw[if_pos (.inr this),this,g0];rfl
  ·have hne:aZ l ≠ []:=by rw[hd];intro e;exact absurd ((qT _).1 e) (by omega)
   rw[if_neg (by rw[hn];simp[hne];omega),hd];unfold aJ aU;rw[if_pos (by omega),if_neg (by omega),show (-(val l)).natAbs=(val l).natAbs by omega]
theorem Wa(l:List UInt8)(w:World)(hl:l.length<=9000000000000000000):
  Calls prog 146 #[.string ⟨l.toArray⟩] w fun e w'=>e=.returned (.string ⟨(aJ (-(val l))).toArray⟩)/\w=w':=by
 have H1:=Hd (fR l w hl);have hr:=Hd (Bw l);have hdl:(aZ l).length<=9000000000000000000:=Nat.le_trans (nN l) hl;generalize aJ _=r at *;generalize dD l=ng at *;generalize aZ l=d at *;go_enter func146,ntmps146;go_wp2_with fail;refine H1.out.mono ?_;rintro e w1 ⟨rfl,rfl⟩;cases ng
 ·by_cases g:d=[]
  ·subst g;go_wp2;go_ret;exact⟨dW (by rw[hr.out];rfl),rfl⟩
  ·have hr2:Hid (r=45::d):=by show _=_;rw[hr.out,if_neg (by simp[g])]
   have g':d.isEmpty=false:=by simpa using g
   go_wp2;go_ret;exact⟨dW (by rw[hr2.out];rfl),rfl⟩
 ·have hr2:Hid (r=d):=by show _=_;rw[hr.out,if_pos (.inl rfl)]
  go_wp2;go_ret;exact⟨dW (by rw[hr2.out];rfl),rfl⟩
theorem aOd(l m:List UInt8)(w:World)(hl:l.length<=9000000000000000000)(hm:m.length<=8000000000000000000)(h1:(val l).natAbs<100000000000000000)(h2:(val m).natAbs<100000000000000000):
  Calls prog 96 #[.string ⟨l.toArray⟩,.string ⟨m.toArray⟩] w fun e w'=>e=.returned (.string ⟨(aJ (val l-val m)).toArray⟩)/\w=w':=by
 have hcl:(aJ (-(val m))).length<=18:=gC (K:=17) (by decide) (by rw[Int.natAbs_neg];exact h2);have H1:=Hd (fun W=>Wa m W (by omega));have H2:=Hd (fun W=>Wf l (aJ (-(val m))) W hl (by omega) h1 (by rw[bE,Int.natAbs_neg];exact h2));rw[bE,<-Int.sub_eq_add_neg] at H2;generalize aJ (-(val m))=nm at *;generalize aJ _=r at *;clear hcl h1 h2;go_enter func96,ntmps96;go_wp2_with fail;refine(H1.out _).mono ?_;rintro e w1 ⟨rfl,rfl⟩;go_wp2_with fail;refine(H2.out _).mono ?_;rintro e w1 ⟨rfl,rfl⟩;go_wp2;go_ret;exact⟨rfl,rfl⟩
end Go.Proofs.YtiloklnjjfaagaaGreatDoor
