/- RefAdd RTimes RRead RWrite RMul -/
import Derived.Test.YthjekgfoidmagaaGreatDoorUViewA
import Derived.Lib.ItoaLen
set_option maxHeartbeats 16000000
set_option maxRecDepth 100000
namespace Go.Proofs.YthjekgfoidmagaaGreatDoor
open Go.Proofs.Tryz
section
open Go.RowKit Num
attribute [local go_sem] eW eN aV
theorem xJ(q:Nat)(h:q≠0):aU q=aU (q/10) ++ [UInt8.ofNat (48+q%10)]:=by
 unfold aU;rw[if_neg h]
 by_cases g:q<10
 ·rw[Lib.decDigits_one g,if_pos (by omega),Nat.mod_eq_of_lt g];rfl
 ·rw[if_neg (by omega),Lib.decDigits,dif_neg g]
theorem Er(d:Nat)(h:d<10):Utf8.encode (48+(d:Int))=⟨[UInt8.ofNat (48+d)].toArray⟩:=by
 match d,h with
 |0,_=>decide
 |1,_=>decide
 |2,_=>decide
 |3,_=>decide
 |4,_=>decide
 |5,_=>decide
 |6,_=>decide
 |7,_=>decide
 |8,_=>decide
 |9,_=>decide
theorem Ty{N q:Nat}{tx:List UInt8}(hN:N<18446744073709551616)(h:Lib.decDigits N=aU q++tx):tx.length<=20:=by
 have h1:=congrArg List.length h;rw[Lib.decDigits_length,List.length_append] at h1;have:=Lib.nDigits_le20 N hN;omega
theorem aAe(N:Nat)(h0:N≠0)(h1:N<=9223372036854775807)(w:World):
  Calls prog 61 #[.int .i64 ((N:Int))] w fun e w'=>e=.returned (.string ⟨(aJ ((N:Int))).toArray⟩)/\w=w':=by
 have hn0:(((N:Int))==0)=false:=by simp;omega
 have hn1:¬ ((N:Int))<0:=by omega
 have hc:Hid (aJ ((N:Int))=Lib.decDigits N):=by
  show _=_;unfold aJ;rw[if_neg (by omega)];unfold aU;simp[h0]
 have hi:Hid (Lib.decDigits N=aU N ++ []):=by show _=_;unfold aU;rw[if_neg h0];simp
 generalize aJ _=r at *;go_enter func61,ntmps61;go_wp2;go_loop [3,4] (fun t m=>∃(q:Nat) (tx:List UInt8),q<=N/\m=.int .i64 ((q:Int))/\t=.string ⟨tx.toArray⟩/\Hid (Lib.decDigits N=aU q++tx)) (fun _ m=>(intOf m).natAbs)
 case atStart=>exact⟨N,[],Nl _,rfl,rfl,hi⟩
 case round =>
  obtain⟨q,tx,hqN,rfl,rfl,hx⟩:=hrel;have htx:=Ty (by omega) hx.out;have hqN:=Hd hqN;have h1:=Hd h1
  by_cases hk:q=0
  ·subst hk;have hd:Hid (Lib.decDigits N=tx):=by show _=_;rw[hx.out];rfl
   go_wp2;go_ret;exact⟨dW (by rw[hc.out,hd.out];rfl),rfl⟩
  ·have hk0:(((q:Int)) != 0)=true:=by simp;omega
   have e1:((q:Int)).tmod 10=((q%10:Nat):Int):=by rfl
   have e2:((q:Int)).tdiv 10=((q/10:Nat):Int):=by rfl
   have hx2:Hid (Lib.decDigits N=aU (q/10)++(UInt8.ofNat (48+q%10)::tx)):=by show _=_;rw[hx.out,xJ q hk];simp
   have hd10:q%10<10:=Nat.mod_lt _ (by decide);have hq10:q/10<q:=Nat.div_lt_self (by omega) (by decide);have hen:=Er (q%10) hd10;clear hx;generalize UInt8.ofNat (48+q%10)=ch at *;generalize q%10=d at *;generalize q/10=q' at *;have hw1:wrap64 (48+(d:Int))=48+(d:Int):=by unfold wrap64;omega
   have hw2:wrap32 (48+(d:Int))=48+(d:Int):=by unfold wrap32;omega
   have hw3:wrap64 ((q':Int))=(q':Int):=by have:=h1.out;have:=hqN.out;unfold wrap64;omega
   have hw4:wrap64 (d:Int)=(d:Int):=by unfold wrap64;omega
   have hq10:=Hd hq10;clear hd10;have hs:¬ (d:Int)<0:=Int.not_lt.2 (Int.natCast_nonneg d);go_wp2;go_round
   case rel=>exact⟨q',_,by have:=hqN.out;have:=hq10.out;omega,rfl,rfl,hx2⟩
   case measure=>have:=hq10.out;simp[intOf];omega
theorem aAf(N:Nat)(h0:N≠0)(h1:N<=9223372036854775807)(n:Int)(hn:n = -(N:Int))(w:World):
  Calls prog 61 #[.int .i64 n] w fun e w'=>e=.returned (.string ⟨(aJ n).toArray⟩)/\w=w':=by
 have hn0:(n==0)=false:=by simp;omega
 have hn1:n<0:=by omega
 have hc:Hid (aJ n=45::Lib.decDigits N):=by
  show _=_;unfold aJ;rw[if_pos hn1,hn];simp
 have hi:Hid (Lib.decDigits N=aU N ++ []):=by show _=_;unfold aU;rw[if_neg h0];simp
 have HN:=Hd hn;have H1:=Hd h1;clear hn h1 h0;generalize aJ _=r at *;go_enter func61,ntmps61;go_wp2;go_loop [3,4] (fun t m=>∃(k:Int) (q:Nat) (tx:List UInt8),Hid (q<=N/\k = -(q:Int))/\m=.int .i64 k/\t=.string ⟨tx.toArray⟩/\Hid (Lib.decDigits N=aU q++tx)) (fun _ m=>(intOf m).natAbs)
 case atStart=>exact⟨n,N,[],⟨Nl _,HN.out⟩,rfl,rfl,hi⟩
 case round =>
  obtain⟨k,q,tx,hq,rfl,rfl,hx⟩:=hrel;have htx:=Ty (by have:=H1.out;omega) hx.out
  by_cases hk:q=0
  ·have hd:Hid (Lib.decDigits N=tx):=by show _=_;rw[hx.out,hk];rfl
   have hk0:(k != 0)=false:=by have:=hq.out.2;simp;omega
   go_wp2;go_ret;exact⟨dW (by rw[hc.out,hd.out];rfl),rfl⟩
  ·have hk0:(k != 0)=true:=by have:=hq.out.2;simp;omega
   have e1:k.tmod 10 = -((q%10:Nat):Int):=by rw[hq.out.2,Int.neg_tmod];rfl
   have e2:k.tdiv 10 = -((q/10:Nat):Int):=by rw[hq.out.2,Int.neg_tdiv];rfl
   have hx2:Hid (Lib.decDigits N=aU (q/10)++(UInt8.ofNat (48+q%10)::tx)):=by show _=_;rw[hx.out,xJ q hk];simp
   have hd10:q%10<10:=Nat.mod_lt _ (by decide);have hq10:Hid (q/10<q/\q<=N/\k = -(q:Int)):=⟨Nat.div_lt_self (by omega) (by decide),hq.out.1,hq.out.2⟩
   have hen:=Er (q%10) hd10;clear hx hq hk;generalize UInt8.ofNat (48+q%10)=ch at *;generalize q%10=d at *;generalize q/10=q' at *;obtain⟨rr,hrr⟩:∃rr,rr = -(d:Int):=⟨_,rfl⟩
   obtain⟨kk,hkk⟩:∃kk,kk = -(q':Int):=⟨_,rfl⟩
   obtain⟨x,hx48⟩:∃x,x=48+(d:Int):=⟨_,rfl⟩
   rw[<-hrr] at e1;rw[<-hkk] at e2;rw[<-hx48] at hen;have hw2:wrap32 x=x:=by unfold wrap32;omega
   have hw3:wrap64 kk=kk:=by have:=hq10.out;have:=H1.out;unfold wrap64;omega
   have HK:Hid (q'<=N/\kk = -(q':Int)):=⟨by have:=hq10.out;omega,hkk⟩
   have HM:Hid (kk.natAbs<k.natAbs):=by have:=hq10.out;show _<_;omega
   by_cases hz:d=0
   ·have hs:¬ rr<0:=by omega
    have hw1:wrap64 (48+rr)=x:=by unfold wrap64;omega
    clear hz hkk hrr hx48 hd10 hq10;go_wp2;go_round
    case rel=>exact⟨kk,q',_,HK,by rw[hw3],rfl,hx2⟩
    case measure=>rw[hw3];exact HM.out
   ·have hs:rr<0:=by omega
    obtain⟨dd,hdd⟩:∃dd,dd=(d:Int):=⟨_,rfl⟩
    have hw4:wrap64 (-rr)=dd:=by unfold wrap64;omega
    have hw1:wrap64 (48+dd)=x:=by unfold wrap64;omega
    clear hz hkk hrr hx48 hd10 hq10 hdd;go_wp2;go_round
    case rel=>exact⟨kk,q',_,HK,by rw[hw3],rfl,hx2⟩
    case measure=>rw[hw3];exact HM.out
theorem nS(n:Int)(h1:-9223372036854775807<=n)(h2:n<=9223372036854775807)(w:World):
  Calls prog 61 #[.int .i64 n] w fun e w'=>e=.returned (.string ⟨(aJ n).toArray⟩)/\w=w':=by
 by_cases h0:n=0
 ·subst h0;rw[nA];go_enter func61,ntmps61;go_wp2;go_ret;exact⟨rfl,rfl⟩
 ·by_cases hn:n<0
  ·exact aAf n.natAbs (by omega) (by omega) n (by omega) w
  ·obtain⟨N,rfl⟩:∃N:Nat,n=N:=⟨n.toNat,by omega⟩
   exact aAe N (by omega) (by omega) w
theorem rR{d:List UInt8}{k:Nat}{c:UInt8}(h:d[k]?=some c):bK (d.take (k+1))=10*bK (d.take k)+(c.toNat-48):=by
 rw[List.take_add_one,h];exact zF _ _
theorem xB{d:List UInt8}(h:d.all bF=true)(k:Nat)(hl:d.length<=17):bK (d.take k)<100000000000000000:=by
 have h1:(d.take k).all bF=true:=by
  rw[List.all_eq_true] at h ⊢;exact fun x hx=>h x (List.mem_of_mem_take hx)
 have h2:=mR _ h1;have h3:10^(d.take k).length<=10^17:=Nat.pow_le_pow_right (by decide) (by simp;omega);omega
theorem gU(l:List UInt8)(w:World)(hl:l.length<=9000000000000000000)(hs:(aZ l).length<=17):
  Calls prog 225 #[.string ⟨l.toArray⟩] w fun e w'=>e=.returned (.tuple #[.int .i64 (val l),.bool true])/\w=w':=by
 have H:=Hd (fR l w hl);have hv:Hid (val l=if dD l=true then -(bK (aZ l):Int) else(bK (aZ l):Int)):=rfl;have hd:=Hd (fD l);generalize aZ l=d at *;generalize val l=r at *;generalize dD l=ng at *;go_enter func225,ntmps225;go_wp2_with fail;refine H.out.mono ?_;rintro e w1 ⟨rfl,rfl⟩;clear H;have hs1:¬ (17:Int)<d.length:=by omega
 go_wp2;go_loop [6,7] (fun t i=>∃(k:Nat) (z:Int),k<=d.length/\i=.int .i64 (k:Int)/\t=.int .i64 z/\Hid (z=(bK (d.take k):Int))) (fun _ i=>d.length-(intOf i).toNat)
 case atStart=>exact⟨0,0,Nat.zero_le _,rfl,rfl,rfl⟩
 case round =>
  obtain⟨k,z,hk,rfl,rfl,hz⟩:=hrel
  by_cases hlt:k<d.length
  ·have hsz:k<(⟨d.toArray⟩:ByteArray).size:=by rw[aV];exact hlt
   obtain⟨c,hc⟩:∃c,d[k]?=some c:=⟨d[k],Lg hlt⟩
   have hgk:((⟨d.toArray⟩:ByteArray)[k]'hsz)=c:=by rw[gF];rw[List.getD_eq_getElem?_getD,hc];rfl
   have hcd:48<=c.toNat/\c.toNat<=57:=(dO c).1 (by have:=hd.out;rw[List.all_eq_true] at this;exact this c (List.mem_of_getElem? hc));have hn1:=xB hd.out k (by omega);have HZ:Hid (wrap64 (wrap64 (10*z)+((c.toNat:Int)-48)%256)=(bK (d.take (k+1)):Int)):=by
    show _=_;rw[rR hc,hz.out];unfold wrap64;omega
   clear hc hn1 hcd;go_wp2;go_round
   case rel=>exact⟨k+1,_,by omega,by go_num,rfl,HZ⟩
   case measure=>simp[intOf];omega
  ·obtain rfl:k=d.length:=by omega
   have hn1:=xB hd.out d.length (by omega);have hz2:Hid (z=(bK d:Int)):=by show _=_;rw[hz.out,List.take_length]
   cases ng
   ·have hr:Hid (r=z):=by show _=_;rw[hv.out,hz2.out];simp
    go_wp2;go_ret2;exact⟨by rw[hr.out];rfl,rfl⟩
   ·have hr:Hid (r=wrap64 (-z)):=by
     show _=_;have:=hz2.out;rw[List.take_length] at hn1;rw[hv.out,this];simp;unfold wrap64;omega
    go_wp2;go_ret2;exact⟨by rw[hr.out];rfl,rfl⟩
theorem gQ{l:List UInt8}{K:Nat}(h:(val l).natAbs<10^K)(hK:1<=K):(aZ l).length<=K:=by
 rw[lL];unfold aU;split
 ·simp
 ·rw[Lib.decDigits_length];exact jU _ K hK h
theorem Wf(l m:List UInt8)(w:World)(hl:l.length<=9000000000000000000)(hm:m.length<=9000000000000000000)(h1:(val l).natAbs<100000000000000000)(h2:(val m).natAbs<100000000000000000):
  Calls prog 161 #[.string ⟨l.toArray⟩,.string ⟨m.toArray⟩] w fun e w'=>e=.returned (.string ⟨(aJ (val l+val m)).toArray⟩)/\w=w':=by
 have H1:=Hd (fun W=>gU l W hl (gQ (K:=17) h1 (by decide)));have H2:=Hd (fun W=>gU m W hm (gQ (K:=17) h2 (by decide)));have H3:=Hd (fun W=>nS (val l+val m) (by omega) (by omega) W);have hw:wrap64 (val l+val m)=val l+val m:=by unfold wrap64;omega
 clear h1 h2;generalize val l=x at *;generalize val m=y at *;generalize aJ _=r at *;go_enter func161,ntmps161;go_wp2_with fail;refine(H1.out _).mono ?_;rintro e w1 ⟨rfl,rfl⟩;go_wp2_with fail;refine(H2.out _).mono ?_;rintro e w1 ⟨rfl,rfl⟩;go_wp2_with fail
 first|rw[hw]|skip
 refine(H3.out _).mono ?_;rintro e w1 ⟨rfl,rfl⟩;go_wp2;go_ret;exact⟨rfl,rfl⟩
theorem Bw(l:List UInt8):aJ (-(val l))=if dD l=true∨aZ l=[] then aZ l else 45::aZ l:=by
 have hd:=lL l;have hn:=Gv l
 by_cases g:val l<0
 ·rw[if_pos (.inl (by rw[hn];simp[g])),hd];unfold aJ;rw[if_neg (by omega),show (-(val l)).toNat=(val l).natAbs by omega]
 ·by_cases g0:val l=0
  ·rw[g0] at hd;have:aZ l=[]:=by rw[hd];rfl
   rw[if_pos (.inr this),this,g0];rfl
  ·have hne:aZ l ≠ []:=by rw[hd];intro e;exact absurd ((qT _).1 e) (by omega)
   rw[if_neg (by rw[hn];simp[hne];omega),hd];unfold aJ aU;rw[if_pos (by omega),if_neg (by omega),show (-(val l)).natAbs=(val l).natAbs by omega]
theorem Wa(l:List UInt8)(w:World)(hl:l.length<=9000000000000000000):
  Calls prog 224 #[.string ⟨l.toArray⟩] w fun e w'=>e=.returned (.string ⟨(aJ (-(val l))).toArray⟩)/\w=w':=by
 have H1:=Hd (fR l w hl);have hr:=Hd (Bw l);have hdl:(aZ l).length<=9000000000000000000:=Nat.le_trans (nN l) hl;generalize aJ _=r at *;generalize dD l=ng at *;generalize aZ l=d at *;go_enter func224,ntmps224;go_wp2_with fail;refine H1.out.mono ?_;rintro e w1 ⟨rfl,rfl⟩;cases ng
 ·by_cases g:d=[]
  ·subst g;go_wp2;go_ret;exact⟨dW (by rw[hr.out];rfl),rfl⟩
  ·have hr2:Hid (r=45::d):=by show _=_;rw[hr.out,if_neg (by simp[g])]
   have g':d.isEmpty=false:=by simpa using g
   go_wp2;go_ret;exact⟨dW (by rw[hr2.out];rfl),rfl⟩
 ·have hr2:Hid (r=d):=by show _=_;rw[hr.out,if_pos (.inl rfl)]
  go_wp2;go_ret;exact⟨dW (by rw[hr2.out];rfl),rfl⟩
end
section
open Go Go.RowKit Num
def gi(m:List Nat):List Value:=m.map fun (g:Nat)=>Value.int .i64 (g:Int)
theorem Up(m:List Nat)(k:Nat)(h:k<m.length):(gi m)[k]?=some (.int .i64 ((m.getD k 0:Nat):Int)):=by
 simp[gi,List.getElem?_map,Lg h,List.getD_eq_getElem?_getD]
theorem aEa{m:List Nat}(h:m ≠ []):gi m ≠ []:=by simp[gi,h]
theorem Ct(a b:List Nat):gi (a++b)=gi a++gi b:=by simp[gi]
theorem aDi(o:List Nat)(k n:Nat):gi (o.set k n)=(gi o).set k (.int .i64 (n:Int)):=by simp[gi,List.map_set]
theorem dT.celli{w w':World}{a:Option Addr}{m:List Nat}(h:dT w a (gi m))(hb:Below w.heap.size w w'){k:Nat}(hk:k<m.length):∃b off,a=some ⟨b,off,none⟩/\b<w.heap.size/\w'.cell? ⟨b,off+k,none⟩=some (.int .i64 ((m.getD k 0:Nat):Int)):=by
 obtain⟨b,off,ha,hlt,hc⟩:=h.addr (aEa (by intro e;rw[e] at hk;simp at hk));exact⟨b,off,ha,hlt,(hb.cell (p:=⟨b,off+k,none⟩) hlt).trans (hc k _ (Up m k hk))⟩
def oH(w:World)(B:Nat)(o:List Nat):Prop:=w.heap[B]?=some (.cells (gi o).toArray 3 (0,0))
theorem oH.lt{w:World}{B:Nat}{o:List Nat}(h:oH w B o):B<w.heap.size:=(Ai.1 h).1
theorem oH.cell{w:World}{B:Nat}{o:List Nat}(h:oH w B o){k:Nat}(hk:k<o.length):w.cell? ⟨B,k,none⟩=some (.int .i64 ((o.getD k 0:Nat):Int)):=by
 rw[aS h];have:=Up o k hk;simpa using this
theorem oH.frozen{w:World}{B:Nat}{o:List Nat}(h:oH w B o)(k:Nat):w.frozen? ⟨B,k,none⟩=false:=aR h k
theorem oH.set{w:World}{B:Nat}{o:List Nat}(h:oH w B o)(k n:Nat){v:Int}(hv:v=n):oH (w.setCell ⟨B,k,none⟩ (.int .i64 v)) B (o.set k n):=by
 subst hv;unfold oH;rw[heap_setCell_same w B k _ _ _ h,aDi];simp
theorem oH.drewN{w:World}{B:Nat}{o:List Nat}(h:oH w B o)(n:Nat):oH (w.drewN n) B o:=h
theorem oH.row{w:World}{B:Nat}{o:List Nat}(h:oH w B o):dT w (some ⟨B,0,none⟩) (gi o):=by
 have:w.heap[B]?=some (.cells (gi o ++ []).toArray 3 (0,0)):=by rw[List.append_nil];exact h
 exact eC this
def uO(n:Nat):List Value:=List.replicate n (.int .i64 0)
theorem Pa(n:Nat):uO n=gi (List.replicate n 0):=by simp[uO,gi]
theorem Hj:(prog.info? 3).map (fun i=>(i.zero,i.size,i.bytes))=some (some (.int .i64 0),1,8):=by kernel_rfl
theorem Qk(x:Nat)(hx:x<=1099511627776)(W:World):
  (Instr.makeSlice 93 (.int .i64 (x:Int)) (.int .i64 (x:Int))).run prog W=.ok (.slice (some ⟨W.heap.size,0,none⟩) x x) (W.alloc (.cells (uO x).toArray 3)):=by
 obtain⟨i0,hi,hz0,hz1,hz2⟩:=info_parts Hj;have h:=run_make (P:=prog) (w:=W) 93 3 i0 (.int .i64 0) underlying93 hi hz0 .i64 .i64 x x (by omega) (by omega) (by rw[hz2];omega) (by omega);simp only[Int.toNat_natCast,hz1,Nat.mul_one] at h;rw[h];have e:madeCells (Value.int .i64 0).cells x=(uO x).toArray:=rS _ _;rw[e]
theorem oH.made(w:World)(n:Nat):oH (w.alloc (.cells (uO n).toArray 3)) w.heap.size (List.replicate n 0):=by
 unfold oH;rw[<-Pa];exact heap_alloc_new w _
theorem Mv(m:List Nat)(a:Option Addr)(cap:Nat)(i:Nat)(w:World)(hr:dT w a (gi m)):
  Calls prog 269 #[.slice a m.length cap,.int .i64 (i:Int)] w fun e w'=>e=.returned (.int .i64 ((m.getD i 0:Nat):Int))/\w'=w:=by
 by_cases h:i<m.length
 ·obtain⟨b,off,rfl,_,hc⟩:=hr.celli (Br _ w) h;clear hr;generalize m.getD i 0=g at *;go_enter func269,ntmps269;go_wp2;go_ret;exact⟨rfl,rfl⟩
 ·have e:m.getD i 0=0:=by rw[List.getD_eq_getElem?_getD,List.getElem?_eq_none (by omega)];rfl
  rw[e];clear hr;go_enter func269,ntmps269;go_wp2;go_ret;exact⟨rfl,rfl⟩
theorem An{m:List Nat}{k:Nat}(hk:k<m.length)(h0:m.getD k 0=0):fQ (m.take (k+1))=fQ (m.take k):=by
 rw[mN m k hk,h0,jP]
theorem Bv{m:List Nat}{k:Nat}(hk:k<m.length)(h0:m.getD k 0≠0):fQ (m.take (k+1))=m.take (k+1):=by
 rw[mN m k hk,iK _ _ h0]
theorem bAw(m:List Nat)(a:Option Addr)(cap:Nat)(w:World)(hcap:m.length<=cap)(hcap2:cap<=9223372036854775807)(hr:dT w a (gi m)):
  Calls prog 270 #[.slice a m.length cap] w fun e w'=>e=.returned (.slice a (fQ m).length cap)/\Below w.heap.size w w':=by
 have HR:=Hd hr;clear hr;go_enter func270,ntmps270;go_wp2_with fail;go_loopw [0] (fun v wr=>∃k:Nat,k<=m.length/\v=.slice a k cap/\Hid (fQ (m.take k)=fQ m)/\Hid (Below w.heap.size w wr)) (fun v _=>Oe v)
 case atStart=>exact⟨m.length,Nl _,rfl,by show _=_;rw[List.take_length],Br _ _⟩
 case round =>
  obtain⟨k,hk,rfl,HC,HB⟩:=hrel;cases k with
  |zero =>
   have hz:Hid ((fQ m).length=0):=by show _=_;rw[<-HC.out];rfl
   go_wp2;go_ret;exact⟨by rw[hz.out];rfl,HB.out⟩
  |succ k =>
   obtain⟨b,off,rfl,_,hc⟩:=HR.out.celli HB.out (k:=k) (by omega)
   by_cases h0:m.getD k 0=0
   ·rw[h0] at hc;have HC2:Hid (fQ (m.take k)=fQ m):=by show _=_;rw[<-HC.out,An (by omega) h0]
    clear h0;go_wp2;go_roundw
    case rel=>exact⟨k,by omega,by go_num,HC2,HB⟩
    case measure=>simp[Oe]
   ·have HN:Hid ((fQ m).length=k+1):=by show _=_;rw[<-HC.out,Bv (by omega) h0,List.length_take];omega
    generalize m.getD k 0=g at *;go_wp2;go_ret;exact⟨by rw[HN.out];first|rfl|simp,HB.out⟩
def Rv(m n:List Nat)(i k:Nat)(o:List Nat)(c:Nat):Prop:=(k<=n.length/\rI m n i k o c)∨(k=n.length+1/\c=0/\gI m n (i+1) o)
theorem Rv.len{m n:List Nat}{i k:Nat}{o:List Nat}{c:Nat}(h:Rv m n i k o c):o.length=m.length+n.length:=by
 rcases h with⟨_,h⟩|⟨_,_,h⟩
 ·exact h.1
 ·exact h.1
theorem Rv.lt{m n:List Nat}{i k:Nat}{o:List Nat}{c:Nat}(h:Rv m n i k o c):(∀g∈o,g<1000000000)/\c<1000000000:=by
 rcases h with⟨_,h⟩|⟨_,rfl,h⟩
 ·exact⟨h.2.1,h.2.2.1⟩
 ·exact⟨h.2.1,by decide⟩
theorem Rv.carry{m n:List Nat}{i k:Nat}{o:List Nat}{c:Nat}(h:Rv m n i k o c)(hk:¬ k<n.length)(hc:0<c):k=n.length/\0<n.length:=by
 rcases h with⟨h1,h⟩|⟨_,rfl,_⟩
 ·obtain rfl:k=n.length:=by omega
  refine⟨rfl,?_⟩;rcases Nat.eq_zero_or_pos n.length with h0|h0
  ·exfalso;have e:n=[]:=List.length_eq_zero_iff.1 h0;subst e;obtain⟨_,_,_,h4,_⟩:=h;have:1000000000^(i+0)*c=0:=by simp[aI] at h4 ⊢;omega
   rcases Nat.mul_eq_zero.1 this with h5|h5
   ·have:=Nat.pow_pos (n:=i+0) (show 0<1000000000 by decide);omega
   ·omega
  ·exact h0
 ·omega
theorem Rv.exit{m n:List Nat}{i k:Nat}{o:List Nat}{c:Nat}(h:Rv m n i k o c)(hi:i<m.length)(hk:¬ k<n.length)(hc:c=0):gI m n (i+1) o:=by
 rcases h with⟨h1,h⟩|⟨_,_,h⟩
 ·obtain rfl:k=n.length:=by omega
  subst hc;obtain⟨h1,h2,h3,h4,h5⟩:=h;refine⟨h1,h2,?_,fun j hj=>h5 j (by omega)⟩;rw[fM m i hi,Nat.add_mul,Nat.mul_assoc];rw[List.take_length,Nat.mul_zero,Nat.add_zero] at h4;exact h4
 ·exact h
theorem Rv.step{m n:List Nat}{i k:Nat}{o:List Nat}{c:Nat}(h:Rv m n i k o c)(hi:i<m.length)(hk:k<n.length∨0<c)(hm:∀g∈m,g<1000000000)(hn:∀g∈n,g<1000000000):
  Rv m n i (k+1) (o.set (i+k) ((o.getD (i+k) 0+m.getD i 0*n.getD k 0+c)%1000000000)) ((o.getD (i+k) 0+m.getD i 0*n.getD k 0+c)/1000000000):=by
 have e:o.getD (i+k) 0+m.getD i 0*n.getD k 0+c=c+(o.getD (i+k) 0+m.getD i 0*n.getD k 0):=by omega
 by_cases hlt:k<n.length
 ·rcases h with⟨_,h⟩|⟨h,_,_⟩
  ·rw[e];exact .inl ⟨hlt,tA h hi hlt hm hn⟩
  ·omega
 ·have hc:0<c:=hk.resolve_left hlt;obtain⟨rfl,h0⟩:=h.carry hlt hc;rcases h with⟨_,h⟩|⟨h,_,_⟩
  ·have hz:=h.2.2.2.2 (i+n.length) (Nl _);have hg:n.getD n.length 0=0:=by rw[List.getD_eq_getElem?_getD,List.getElem?_eq_none (Nl _)];rfl
   have hs:=tC h hi h0;have hcl:=h.2.2.1;rw[hz,Nat.zero_add] at hs;rw[hz,hg,Nat.mul_zero,Nat.zero_add,Nat.mod_eq_of_lt hcl,Nat.div_eq_of_lt hcl];exact .inr ⟨rfl,rfl,hs⟩
  ·omega
theorem Mp(x y:Nat)(a a':Option Addr)(cap cap':Nat)(w:World)(h1:(aC x).length<=1000000)(h2:(aC y).length<=1000000)
  (hr:dT w a (gi (aC x))) (hr':dT w a' (gi (aC y))) :
  Calls prog 228 #[.slice a (aC x).length cap,.slice a' (aC y).length cap'] w fun e w'=>∃c,e=.returned (.slice (some ⟨w.heap.size,0,none⟩) (aC (x*y)).length c)/\dT w' (some ⟨w.heap.size,0,none⟩) (gi (aC (x*y)))/\Below w.heap.size w w':=by
 obtain⟨m,hm⟩:∃m,m=aC x:=⟨_,rfl⟩
 obtain⟨n,hn⟩:∃n,n=aC y:=⟨_,rfl⟩
 have HM:=Hd (show ∀g∈m,g<1000000000 by rw[hm];exact aO x);have HN:=Hd (show ∀g∈n,g<1000000000 by rw[hn];exact aO y);have HV:Hid (x*y=aI m*aI n):=by show _=_;rw[hm,hn,aQ,aQ]
 rw[<-hm] at h1 hr ⊢;rw[<-hn] at h2 hr' ⊢;have HR:=Hd hr;have HR':=Hd hr';clear hr hr' hm hn;obtain⟨p,hp⟩:∃p,p=m.length:=⟨_,rfl⟩
 obtain⟨q,hq⟩:∃q,q=n.length:=⟨_,rfl⟩
 have HP:=Hd hp;have HQ:=Hd hq;rw[<-hp] at h1 ⊢;rw[<-hq] at h2 ⊢;clear hp hq;have hmk:=Qk (p+q) (by omega) w;rw[show ((p+q:Nat):Int)=(p:Int)+q by omega] at hmk;have H0:Hid (gI m n 0 (List.replicate (p+q) 0)):=by have:=tB m n;rw[<-HP.out,<-HQ.out] at this;exact this
 have HG0:=Hd (oH.made w (p+q));have HB0:=Hd ((Br w.heap.size w).alloc (Nl _) (.cells (uO (p+q)).toArray 3));go_enter func228,ntmps228;go_wp2;clear hmk;go_loopw [6] (fun i wr=>∃(k:Nat) (o:List Nat),k<=p/\i=.int .i64 (k:Int)/\Hid (gI m n k o)/\Hid (oH wr w.heap.size o)/\Hid (Below w.heap.size w wr)) (fun i _=>p-(intOf i).toNat)
 case atStart=>exact⟨0,_,Nat.zero_le _,rfl,H0,HG0,HB0⟩
 case round =>
  clear H0 HG0 HB0;obtain⟨k,o,hk,rfl,hT,hG,HB⟩:=hrel
  by_cases hkx:k<p
  ·have hkm:k<m.length:=by have:=HP.out;omega
   obtain⟨b,off,rfl,hlt,hc⟩:=HR.out.celli HB.out hkm;clear hc;obtain⟨wo,hwo⟩:∃wo,wo=wr:=⟨_,rfl⟩
   subst hwo;go_wp2;go_loopw [7,8] (fun cy i wr=>∃(j:Nat) (o':List Nat) (c:Nat),j<=q+1/\i=.int .i64 (j:Int)/\cy=.int .i64 (c:Int)/\Hid (Rv m n k j o' c)/\Hid (oH wr w.heap.size o')/\Hid (Below w.heap.size w wr)) (fun _ i _=>q+1-(intOf i).toNat)
   case atStart=>exact⟨0,o,0,Nat.zero_le _,rfl,rfl,.inl ⟨Nat.zero_le _,aZc hT.out⟩,hG,HB⟩
   case round =>
    clear HB hG hT;obtain⟨j,o',c,hj,rfl,rfl,hT,hG,HB⟩:=hrel;have hol:=hT.out.len;rw[<-HP.out,<-HQ.out] at hol
    by_cases hin:j<q∨0<c
    ·have hjq:j<=q:=by
      rcases hin with h|h
      ·omega
      ·by_cases hjj:j<q
       ·omega
       ·have:=(hT.out.carry (by rw[<-HQ.out];exact hjj) h).1;rw[<-HQ.out] at this;omega
     have hclt:=hT.out.lt.2;have hgo:=hG.out.cell (show k+j<o'.length by omega);have hglt:=bV hT.out.lt.1 (k+j);have hfr:=hG.out.frozen (k+j);have hxlt:=bV HM.out k;have hylt:=bV HN.out j;have HT':=Hd (hT.out.step hkm (by rw[<-HQ.out];exact hin) HM.out HN.out);have hmul:=pZ hclt hglt hxlt hylt;have HGR:Hid (∀W,Below w.heap.size w W->Calls prog 269 #[.slice a' q cap',.int .i64 (j:Int)] W fun e w'=>e=.returned (.int .i64 ((n.getD j 0:Nat):Int))/\w'=W):=fun W hb=>by
      have h:=Mv n a' cap' j W (HR'.out.below hb);rw[<-HQ.out] at h;exact h
     obtain⟨b2,off2,e2,hlt2,hcm⟩:=HR.out.celli HB.out hkm;injection e2 with e2
     injection e2 with e2 e3
     subst e2;subst e3;generalize n.getD j 0=yg at *;generalize o'.getD (k+j) 0=g at *;generalize m.getD k 0=xg at *;obtain⟨xy,hxy⟩:∃xy,xy=xg*yg:=⟨_,rfl⟩
     have exy:(xg:Int)*(yg:Int)=(xy:Int):=by rw[hxy];simp
     rw[<-hxy] at hmul HT';have hkq:(k:Int)+j<(p:Int)+q:=by omega
     have hne:b≠w.heap.size:=by omega
     obtain⟨t,ht⟩:∃t,t=k+j:=⟨_,rfl⟩
     obtain⟨s1,hs1⟩:∃s1,s1=g+xy:=⟨_,rfl⟩
     obtain⟨s2,hs2⟩:∃s2,s2=g+xy+c:=⟨_,rfl⟩
     have w1:IntKind.i64.wrap ((k:Int)+(j:Int))=(t:Int):=by rw[IntKind.wrap_i64];omega
     have w2:IntKind.i64.wrap ((xg:Int)*(yg:Int))=(xy:Int):=by rw[exy,IntKind.wrap_i64];omega
     have w3:IntKind.i64.wrap ((g:Int)+(xy:Int))=(s1:Int):=by rw[IntKind.wrap_i64];omega
     have w4:IntKind.i64.wrap ((s1:Int)+(c:Int))=(s2:Int):=by rw[IntKind.wrap_i64];omega
     have htq:(t:Int)<(p:Int)+(q:Int):=by omega
     have hgo2:wr.cell? ⟨w.heap.size,t,none⟩=some (.int .i64 (g:Int)):=by rw[ht];exact hgo
     have hs3:s2<1000000000*1000000000:=by omega
     have hfr2:wr.frozen? ⟨w.heap.size,t,none⟩=false:=by rw[ht];exact hfr
     have HT2:Hid (Rv m n k (j+1) (o'.set t (s2%1000000000)) (s2/1000000000)):=by rw[hs2,ht];exact HT'.out
     clear hgo HT' hs1 hs2 ht hfr;clear hxy hylt hxlt hT hol hlt2
     by_cases hj2:j<q
     ·clear hin;go_wp2_with fail;go_quiet (refine Calls.quiet_of_same (HGR.out _ (by first|exact HB.out|exact aD HB.out _)));go_wp2;go_roundw
      case rel=>exact⟨j+1,_,s2/1000000000,by omega,by go_num,by go_num,HT2,(hG.out.drewN _).set t (s2%1000000000) (by omega),(aD HB.out _).setCell (p:=⟨w.heap.size,t,none⟩) (Nl _) _⟩
      case measure=>simp[intOf];omega
     ·have hc0:(0:Int)<(c:Int):=by omega
      clear hin;go_wp2_with fail;go_quiet (refine Calls.quiet_of_same (HGR.out _ (by first|exact HB.out|exact aD HB.out _)));go_wp2;go_roundw
      case rel=>exact⟨j+1,_,s2/1000000000,by omega,by go_num,by go_num,HT2,(hG.out.drewN _).set t (s2%1000000000) (by omega),(aD HB.out _).setCell (p:=⟨w.heap.size,t,none⟩) (Nl _) _⟩
      case measure=>simp[intOf];omega
    ·have HX:Hid (gI m n (k+1) o'):=hT.out.exit hkm (by rw[<-HQ.out];omega) (by omega);obtain rfl:c=0:=by omega
     have hj2:¬ j<q:=by omega
     clear hin hT hol;go_wp2;go_roundw
     case rel=>exact⟨k+1,o',by omega,by go_num,HX,hG,HB⟩
     case measure=>simp[intOf];omega
  ·obtain rfl:k=p:=by omega
   have hol:o.length=k+q:=by rw[hT.out.1,HP.out,HQ.out]
   have HCUT:=Hd (bAw o (some ⟨w.heap.size,0,none⟩) (k+q) wr (by omega) (by omega) hG.out.row);have hend:=vT (by rw[<-HP.out];exact hT.out);rw[<-HV.out] at hend;rw[hol,hend] at HCUT;have HE:=Hd hend;have HRW:Hid (dT wr (some ⟨w.heap.size,0,none⟩) (gi (aC (x*y)))):=by
    obtain⟨z,hz⟩:=pI o;have h:=hG.out.row;rw[hz,hend,Ct] at h;exact h.take
   clear hend hol hT hG;go_wp2_with fail;refine HCUT.out.mono ?_;rintro e w2 ⟨rfl,hb⟩;go_wp2;go_ret;exact⟨k+q,rfl,HRW.out.below hb,aA HB.out hb⟩
end
section
open Go Go.RowKit Num
theorem Ro{w:World}{b:Nat}{cs:Array Value}{T:TypeId}(h:aP w b cs T)(j:Nat)(u:Value):aP (w.setCell ⟨b,j,none⟩ u) b (cs.setIfInBounds j u) T:=⟨by simpa[World.setCell] using h.1,heap_setCell_same w b j cs T u h.2⟩
theorem xC(w:World)(b j:Nat)(u:Value):w.grownBy (w.setCell ⟨b,j,none⟩ u) (some b):=⟨rfl,rfl,rfl,by simp[World.setCell],fun k _ hk=>heap_setCell_other w ⟨b,j,none⟩ k u (fun e=>hk (by simp[e]))⟩
theorem aP.grown{w w':World}{b:Nat}{cs:Array Value}{T:TypeId}{row:Option Nat}(h:aP w b cs T)(hg:w.grownBy w' row)(hne:some b≠row):aP w' b cs T :=
 ⟨Nat.lt_of_lt_of_le h.1 hg.size,(hg.block b h.1 hne).trans h.2⟩
def bW8(d:List UInt8)(m:List Nat):Prop:=(∀g∈m,g<1000000000)/\aI m+1000000000^m.length*bK (d.take (d.length-9*m.length))=bK d
theorem Kg(d:List UInt8):bW8 d []:=⟨by simp,by simp[aI]⟩
theorem Gg{d:List UInt8}(hd:d.all bF=true){m:List Nat}{e s:Nat}(he:e=d.length-9*m.length)(hs:s=e-9)(h0:0<e)(h:bW8 d m):bW8 d (m ++ [bK ((d.drop s).take (e-s))]):=by
 have h1:=xD hd (e:=e) (by omega) h0 h.1 (by rw[he];exact h.2);rw[<-hs] at h1;refine⟨h1.1,?_⟩;have h2:=h1.2;rw[show d.length-9*(m ++ [bK ((d.drop s).take (e-s))]).length=s by rw[List.length_append,List.length_singleton];omega];exact h2
theorem Kh{d:List UInt8}(hd:d.all bF=true)(h0:d.head?≠some 48){m:List Nat}(h:bW8 d m)(hl:m.length*9<=d.length+8)(hz:¬ 9*m.length<d.length):m=aC (bK d):=by
 have h2:=h.2;rw[show d.length-9*m.length=0 by omega,List.take_zero,Od,Nat.mul_zero] at h2;exact zU hd h0 h.1 h2 hl
theorem Mf{d:List UInt8}{s k:Nat}{c:UInt8}(hsk:s<=k)(h:d[k]?=some c):bK ((d.drop s).take (k+1-s))=10*bK ((d.drop s).take (k-s))+(c.toNat-48):=by
 rw[show k+1-s=k-s+1 by omega];exact rR (by rw[List.getElem?_drop,show s+(k-s)=k by omega];exact h)
theorem Lx{q c:Nat}(hq:q<1000000000)(hc:48<=c/\c<=57):wrap64 (wrap64 (10*(q:Int))+((c:Int)-48)%256)=((10*q+(c-48):Nat):Int):=by
 unfold wrap64;omega
theorem bCd{d:List UInt8}(h:d.all bF=true){s k:Nat}(hl:k-s<=9):bK ((d.drop s).take (k-s))<1000000000:=by
 have h1:((d.drop s).take (k-s)).all bF=true:=by
  rw[List.all_eq_true] at h ⊢;exact fun x hx=>h x (List.mem_of_mem_drop (List.mem_of_mem_take hx))
 have h2:=mR _ h1;have h3:10^((d.drop s).take (k-s)).length<=10^9:=Nat.pow_le_pow_right (by decide) (by simp;omega);omega
theorem Dd(l:List UInt8)(w:World)(hl:l.length<=1000000):
  Calls prog 226 #[.string ⟨l.toArray⟩] w fun e w'=>∃a c,e=.returned (.agg #[.bool (dD l),.slice a (aC (bK (aZ l))).length c])/\dT w' a (gi (aC (bK (aZ l))))/\Below w.heap.size w w':=by
 have H:=Hd (fun W=>fR l W (by omega));have hdl:=nN l;have hda:=fD l;have hdh:=jY l;generalize aZ l=d at *;generalize dD l=ng at *;have HD:=Hd (And.intro hda hdh);clear hda hdh;obtain⟨i0,hi,hz0,hz1,hz2⟩:=info_parts Hj;go_enter func226,ntmps226;go_wp2_with fail;refine(H.out _).mono ?_;rintro e w1 ⟨rfl,hw1⟩;subst hw1;go_wp2_with fail;have HB0:Hid (aP ((w.alloc (.cells #[.bool false,.slice none 0 0] 227)).alloc (.cells #[.bool ng,.slice none 0 0] 227)) w.heap.size #[.bool false,.slice none 0 0] 227):=(aP.new0 w _ _).below (aB _ _);have HB1:Hid (aP ((w.alloc (.cells #[.bool false,.slice none 0 0] 227)).alloc (.cells #[.bool ng,.slice none 0 0] 227)) (w.heap.size+1) #[.bool ng,.slice none 0 0] 227):=by
  have h:=aP.new0 (w.alloc (.cells #[.bool false,.slice none 0 0] 227)) #[.bool ng,.slice none 0 0] 227;rw[World.size_alloc] at h;exact h
 have HBW:Hid (Below w.heap.size w ((w.alloc (.cells #[.bool false,.slice none 0 0] 227)).alloc (.cells #[.bool ng,.slice none 0 0] 227))):=((Br _ _).alloc (Nl _) _).alloc (by simp) _;go_loopw [6,7,8] (fun en _ _ wr=>∃(m:List Nat) (v:Value),en=.int .i64 ((d.length:Int)-9*(m.length:Int))/\m.length*9<=d.length+8/\Hid (bW8 d m)/\Hid (wr.ownsRow (w.heap.size+2) 3 1 v m.length (gi m))/\Hid (aP wr (w.heap.size+1) #[.bool ng,v] 227)/\Hid (aP wr w.heap.size #[.bool false,.slice none 0 0] 227)/\Hid (Below w.heap.size w wr)) (fun en _ _ _=>(intOf en).toNat)
 case atStart =>
  exact⟨[],_,by simp,by simp,Kg d,World.ownsRow_nil _ _ _ _,HB1,HB0,HBW⟩
 case round =>
  clear HB0 HB1 HBW;obtain⟨m,v,rfl,hml,hv,hown,h1,h0,hbr⟩:=hrel
  by_cases hpos:9*m.length<d.length
  ·obtain⟨e,he⟩:∃e:Nat,e=d.length-9*m.length:=⟨_,rfl⟩
   obtain⟨s,hs⟩:∃s:Nat,s=e-9:=⟨_,rfl⟩
   have hst:=Hd (Gg HD.out.1 he hs (by omega) hv.out);have eI:(d.length:Int)-9*(m.length:Int)=(e:Int):=by omega
   rw[eI];have hmx:max 0 ((e:Int)-9)=(s:Int):=by omega
   have hepos:0<e:=by omega
   have hed:e<=d.length:=by omega
   have hse:s<e:=by omega
   have hse9:e-s<=9:=by omega
   have HE:=Hd he;have HS:=Hd hs;clear he eI hs;obtain⟨wo,hwo⟩:∃wo,wo=wr:=⟨_,rfl⟩
   subst hwo;go_wp2_with fail;clear hmx;go_loopw [7,8] (fun z i W=>∃(k:Nat) (zz:Int),s<=k/\k<=e/\i=.int .i64 (k:Int)/\z=.int .i64 zz/\Hid (zz=(bK ((d.drop s).take (k-s)):Int))/\W=wo) (fun _ i _=>e-(intOf i).toNat)
   case atStart=>exact⟨s,0,Nl _,by omega,rfl,rfl,by show _=_;simp[bK],rfl⟩
   case round =>
    obtain⟨k,zz,hk1,hk2,rfl,rfl,hz,rfl⟩:=hrel
    by_cases hlt:k<e
    ·have hkd:k<d.length:=by omega
     have hsz:k<(⟨d.toArray⟩:ByteArray).size:=by rw[aV];exact hkd
     obtain⟨c,hc⟩:∃c,d[k]?=some c:=⟨d[k],Lg hkd⟩
     have hgk:((⟨d.toArray⟩:ByteArray)[k]'hsz)=c:=by rw[gF];rw[List.getD_eq_getElem?_getD,hc];rfl
     have hcd:48<=c.toNat/\c.toNat<=57:=(dO c).1 (by have:=HD.out.1;rw[List.all_eq_true] at this;exact this c (List.mem_of_getElem? hc));have hn1:=bCd HD.out.1 (s:=s) (k:=k) (by omega);have HZ:Hid (wrap64 (wrap64 (10*zz)+((c.toNat:Int)-48)%256)=(bK ((d.drop s).take (k+1-s)):Int)):=by
      show _=_;rw[Mf hk1 hc,hz.out];exact Lx hn1 hcd
     clear hc hn1 hcd hst hv hown h1 h0 hbr;go_wp2;go_roundw
     case rel=>exact⟨k+1,_,by omega,by omega,by go_num,rfl,HZ,trivial⟩
     case measure=>simp[intOf];omega
    ·obtain rfl:k=e:=by omega
     have hn1:=bCd HD.out.1 (s:=s) (k:=k) hse9;obtain⟨q,hq⟩:∃q,q=bK ((d.drop s).take (k-s)):=⟨_,rfl⟩
     have hzq:zz=(q:Int):=by rw[hq];exact hz.out
     rw[<-hq] at hst hn1;subst hzq;have k1:wr.cell? ⟨w.heap.size+1,1,none⟩=some v:=h1.out.cell 1;have hsz:=hbr.out.size;have hsz1:=h1.out.1;clear hz hq hlt;go_wp2_with (at_builtin;refine wpList_append_own_at _ rfl _ _ 93 rfl (w.heap.size+2) 3 i0 (.int .i64 0) 1 8 underlying93 hi hz0 hz1 hz2 rfl (by decide) _ _ _ rfl (hown.out.alloc _) ⟨wr.heap.size,0,none⟩ 1 1 [.int .i64 (q:Int)] rfl rfl ?c1 ?c2 ?c3 ?c4 ?c5 ?_)
     case c1 =>
      intro j u hj
      match j,hj with
      |0,hj=>simp at hj;subst hj;simp[Addr.add]
     case c2=>intro u hu;simp at hu;subst hu;rfl
     case c3=>unfold maxLen;omega
     case c4=>omega
     case c5=>simp;omega
     intro v' w3 hown' hgrow _ _;obtain⟨a4,c4,hv4,_⟩:=gK hown';subst hv4;have hob:=fun r hr=>((hown.out.alloc (.cells #[.int .i64 (q:Int)] 3)).lt r hr).1
     have hb1:=(h1.out.below (aB wr (.cells #[.int .i64 (q:Int)] 3))).grown hgrow (fun e=>by have:=hob _ e.symm;omega);have hb0:=(h0.out.below (aB wr (.cells #[.int .i64 (q:Int)] 3))).grown hgrow (fun e=>by have:=hob _ e.symm;omega);have k3:w3.cell? ⟨w.heap.size+1,1,none⟩=some v:=hb1.cell 1;have f3:w3.frozen? ⟨w.heap.size+1,1,none⟩=false:=aR hb1.2 1;have HO4:Hid ((w3.setCell ⟨w.heap.size+1,1,none⟩ (.slice a4 (m.length+1) c4)).ownsRow (w.heap.size+2) 3 1 (.slice a4 (m.length+1) c4) (m ++ [q]).length (gi (m ++ [q]))):=by
      show World.ownsRow _ _ _ _ _ _ _;have hk:=hown'.kept (xC w3 (w.heap.size+1) 1 (.slice a4 (m.length+1) c4)) (by
       cases ho:(Value.slice a4 (m.length+1) c4).ownBlock with
       |none=>exact .inl rfl
       |some r=>refine .inr (fun e=>?_);injection e with e;have:=(hown'.lt r ho).1;omega)
      rw[Ct,List.length_append];simpa[gi] using hk
     have HB1:=Hd (Ro hb1 1 (.slice a4 (m.length+1) c4));have HB0:=Hd (hb0.grown (xC w3 (w.heap.size+1) 1 (.slice a4 (m.length+1) c4)) (by intro e;injection e with e;omega));have HBR:Hid (Below w.heap.size w (w3.setCell ⟨w.heap.size+1,1,none⟩ (.slice a4 (m.length+1) c4))):=((hbr.out.alloc hsz _).grown hgrow (by rw[World.size_alloc];omega) (fun r hr=>by have:=hob r hr;omega)).setCell (by show _<=w.heap.size+1;omega) _;clear hown' hgrow hob hb1 hb0 k1 hown h1 h0 hbr hv;go_wp2;go_roundw
     case rel=>exact⟨m ++ [q],_,by have:=HE.out;simp;omega,by have:=HE.out;simp;omega,hst,HO4,HB1,HB0,HBR⟩
     case measure=>have:=HS.out;simp[intOf];omega
  ·have hge:¬ (0:Int)<(d.length:Int)-9*(m.length:Int):=by omega
   have hfin:Hid (m=aC (bK d)):=Kh HD.out.1 HD.out.2 hv.out hml hpos;obtain⟨a0,c0,rfl,hrow⟩:=gK hown.out;have HROW:=Hd hrow;have k0:wr.cell? ⟨w.heap.size,0,none⟩=some (.bool false):=h0.out.cell 0;have k1:wr.cell? ⟨w.heap.size,1,none⟩=some (.slice none 0 0):=h0.out.cell 1;have j0:wr.cell? ⟨w.heap.size+1,0,none⟩=some (.bool ng):=h1.out.cell 0;have j1:wr.cell? ⟨w.heap.size+1,1,none⟩=some (.slice a0 m.length c0):=h1.out.cell 1;have f0:wr.frozen? ⟨w.heap.size,0,none⟩=false:=aR h0.out.2 0;have f1:wr.frozen? ⟨w.heap.size,1,none⟩=false:=aR h0.out.2 1;have hob:=fun q (hq:(Value.slice a0 m.length c0).ownBlock=some q)=>(hown.out.lt q hq).1
   have HNB:Hid (∀b off,a0=some ⟨b,off,none⟩->b≠w.heap.size):=fun b off hb=>by
    have:=hob b (by rw[hb];rfl);omega
   clear hown hrow hob hv h0 h1;go_wp2;refine bodyPost_ret (v:=.agg #[.bool ng,.slice a0 m.length c0]) (by simp[results,results226,go_sem,k0,k1]) rfl ⟨a0,⟨c0,by rw[<-hfin.out]⟩,?_,?_⟩
   ·rw[<-hfin.out];exact((HROW.out.setCell (p:=⟨w.heap.size,0,none⟩) (fun b off hb=>HNB.out b off hb) _).setCell (p:=⟨w.heap.size,1,none⟩) (fun b off hb=>HNB.out b off hb) _)
   ·exact(hbr.out.setCell (p:=⟨w.heap.size,0,none⟩) (Nl _) _).setCell (p:=⟨w.heap.size,1,none⟩) (Nl _) _
end
section
open Go Go.RowKit Num
def WO(m:List Nat)(i:Nat)(tx:List UInt8):Prop:=tx.all bF=true/\tx.length=9*i/\bK tx=aI (m.take i)
def WAt(m:List Nat)(i k q:Nat)(tx:List UInt8):Prop:=tx.all bF=true/\tx.length=9*i+k/\bK tx=aI (m.take i)+10^(9*i)*(m.getD i 0%10^k)/\q=m.getD i 0/10^k
theorem aAr(m:List Nat):WO m 0 []:=⟨rfl,rfl,by simp[bK,aI]⟩
theorem WO.start{m:List Nat}{i:Nat}{tx:List UInt8}(h:WO m i tx):WAt m i 0 (m.getD i 0) tx:=⟨h.1,h.2.1,by rw[h.2.2,Nat.pow_zero,Nat.mod_one,Nat.mul_zero,Nat.add_zero],by rw[Nat.pow_zero,Nat.div_one]⟩
theorem WAt.step{m:List Nat}{i k q:Nat}{tx:List UInt8}(h:WAt m i k q tx):WAt m i (k+1) (q/10) (UInt8.ofNat (48+q%10)::tx):=by
 obtain⟨h1,h2,h3,h4⟩:=h;have hd:=vG (q%10) (Nat.mod_lt _ (by decide));refine⟨?_,by rw[List.length_cons,h2];omega,?_,?_⟩
 ·rw[List.all_cons,h1,Bool.and_true,dO,hd];have:=Nat.mod_lt q (show 0<10 by decide);omega
 ·have e:48+q%10-48=q%10:=by omega
  have e2:q%10*10^(9*i+k)=10^(9*i)*(10^k*(q%10)):=by rw[Nat.pow_add,Nat.mul_comm,Nat.mul_assoc]
  rw[gN,hd,e,h2,h3,Nat.mod_pow_succ,<-h4,Nat.mul_add,e2];generalize 10^(9*i)*(10^k*(q%10))=y;generalize 10^(9*i)*(m.getD i 0%10^k)=z;omega
 ·rw[h4,Nat.div_div_eq_div_mul,Nat.pow_succ]
theorem aEq(i:Nat):10^(9*i)=1000000000^i:=by rw[Nat.pow_mul]
theorem WAt.finish{m:List Nat}{i q:Nat}{tx:List UInt8}(h:WAt m i 9 q tx)(hi:i<m.length)(hm:∀g∈m,g<1000000000):WO m (i+1) tx:=by
 obtain⟨h1,h2,h3,_⟩:=h;refine⟨h1,by rw[h2];omega,?_⟩;rw[h3,fM m i hi,aEq,Nat.mod_eq_of_lt (bV hm i)]
theorem WAt.lt{m:List Nat}{i k q:Nat}{tx:List UInt8}(h:WAt m i k q tx)(hm:∀g∈m,g<1000000000):q<1000000000:=by
 rw[h.2.2.2];exact Nat.lt_of_le_of_lt (Nat.div_le_self _ _) (bV hm i)
theorem rE(l:List UInt8):bK (l.dropWhile (· == 48))=bK l:=by
 induction l with
 |nil=>rfl
 |cons c r ih =>
  by_cases h:c=48
  ·subst h;rw[List.dropWhile_cons_of_pos (by simp),ih,gN];simp
  ·rw[List.dropWhile_cons_of_neg (by simpa using h)]
theorem Wm{l:List UInt8}(h:l.all bF=true):val l=(bK l:Int):=by
 have hh:l.head?≠some 45:=by
  intro e;cases l with
  |nil=>simp at e
  |cons c r =>
   simp at e;subst e;rw[List.all_cons] at h;simp[bF] at h
 have hb:body l=l:=by unfold body;rw[if_neg hh]
 have hn:dD l=false:=by unfold dD jS;rw[decide_eq_false hh];rfl
 unfold val;rw[hn];unfold aZ;rw[hb,if_pos h,rE];rfl
theorem Pe{l:List UInt8}(h:l.all bF=true):val (45::l) = -(bK l:Int):=by
 have hb:body (45::l)=l:=rfl;have hd:aZ (45::l)=l.dropWhile (· == 48):=by unfold aZ;rw[hb,if_pos h]
 unfold val
 by_cases hn:dD (45::l)=true
 ·rw[if_pos hn,hd,rE]
 ·rw[if_neg hn,hd,rE];have h0:aZ (45::l)=[]:=by
   have hm:jS (45::l)=true:=rfl;unfold dD at hn;rw[hm] at hn;simpa using hn
  rw[hd] at h0;have:=congrArg bK h0;rw[rE,Od] at this;rw[this];rfl
theorem Rf{d:Nat}(h:d<10):wrap64 (48+(d:Int))=48+(d:Int)/\wrap32 (48+(d:Int))=48+(d:Int)/\wrap64 (d:Int)=(d:Int):=by
 refine⟨by unfold wrap64;omega,by unfold wrap32;omega,by unfold wrap64;omega⟩
@[irreducible] def Bf(d:Nat)(ch:UInt8):Prop:=Utf8.encode (48+(d:Int))=⟨[ch].toArray⟩
theorem Bf.of{d:Nat}{ch:UInt8}(h:Utf8.encode (48+(d:Int))=⟨[ch].toArray⟩):Bf d ch:=by unfold Bf;exact h
theorem Bf.eq{d:Nat}{ch:UInt8}(h:Bf d ch):Utf8.encode (48+(d:Int))=⟨[ch].toArray⟩:=by unfold Bf at h;exact h
theorem Ju{q:Nat}(h:q<1000000000):wrap64 (q:Int)=(q:Int):=by unfold wrap64;omega
theorem Mo(ng:Bool)(x:Nat)(a:Option Addr)(cap:Nat)(w:World)(hl:(aC x).length<=6)(hr:dT w a (gi (aC x))):
  Calls prog 227 #[.agg #[.bool ng,.slice a (aC x).length cap]] w fun e w'=>e=.returned (.string ⟨(aJ (if ng=true then -(x:Int) else(x:Int))).toArray⟩)/\Below w.heap.size w w':=by
 obtain⟨m,hm⟩:∃m,m=aC x:=⟨_,rfl⟩
 have HM:=Hd (show ∀g∈m,g<1000000000 by rw[hm];exact aO x);have HV:Hid (aI m=x):=by show _=_;rw[hm,aQ]
 rw[<-hm] at hl hr ⊢;clear hm;have HB:=Hd (aB w (.cells #[.bool ng,.slice a m.length cap] 227));have HBX:=Hd (aP.new0 w #[.bool ng,.slice a m.length cap] 227);have HR:=Hd (hr.below HB.out);have HC:=Hd (fun tx W h=>qV tx W h);obtain⟨r,hr2⟩:∃r,r=aJ (if ng=true then -(x:Int) else(x:Int)):=⟨_,rfl⟩
 rw[<-hr2];have HRS:=Hd hr2;clear hr2;have b0:(w.alloc (.cells #[.bool ng,.slice a m.length cap] 227)).cell? ⟨w.heap.size,0,none⟩=some (.bool ng):=HBX.out.cell 0;have b1:(w.alloc (.cells #[.bool ng,.slice a m.length cap] 227)).cell? ⟨w.heap.size,1,none⟩=some (.slice a m.length cap):=HBX.out.cell 1;clear hr HBX;go_enter func227,ntmps227;obtain⟨W0,hW0⟩:∃W0,W0=w.alloc (.cells #[.bool ng,.slice a m.length cap] 227):=⟨_,rfl⟩
 rw[<-hW0] at HB HR b0 b1;go_wp2_with fail;rw[<-hW0];clear hW0;go_loopw [3,4,5,6] (fun tv iv _ _ W=>∃(i:Nat) (tx:List UInt8),i<=m.length/\iv=.int .i64 (i:Int)/\tv=.string ⟨tx.toArray⟩/\Hid (WO m i tx)/\W=W0) (fun _ iv _ _ _=>m.length-(intOf iv).toNat)
 case atStart=>exact⟨0,[],Nat.zero_le _,rfl,rfl,aAr m,rfl⟩
 case round =>
  obtain⟨i,tx,hi,rfl,rfl,hT,rfl⟩:=hrel
  by_cases hlt:i<m.length
  ·obtain⟨b,off,ha,_,hc⟩:=HR.out.celli (Br _ _) hlt;subst ha;have hg:=bV HM.out i;have HS:=Hd hT.out.start;obtain⟨g,hgg⟩:∃g,g=m.getD i 0:=⟨_,rfl⟩
   rw[<-hgg] at hc hg HS;clear hgg;obtain⟨wo,hwo⟩:∃wo,wo=wr:=⟨_,rfl⟩
   subst hwo;go_wp2_with fail;clear hc b0 b1 hg;go_loopw [3,5,6] (fun tv nv kv W=>∃(k q:Nat) (tx:List UInt8),k<=9/\kv=.int .i64 (k:Int)/\nv=.int .i64 (q:Int)/\tv=.string ⟨tx.toArray⟩/\Hid (WAt m i k q tx)/\W=wo) (fun _ _ kv _=>9-(intOf kv).toNat)
   case atStart=>exact⟨0,g,tx,Nat.zero_le _,rfl,rfl,rfl,HS,rfl⟩
   case round =>
    clear hT HS;obtain⟨k,q,tx,hk,rfl,rfl,rfl,hT,rfl⟩:=hrel;have htl:tx.length<=64:=by have:=hT.out.2.1;omega
    have hq:=hT.out.lt HM.out
    by_cases hk9:k<9
    ·have HT2:=Hd hT.out.step;have e1:((q:Int)).tmod 10=((q%10:Nat):Int):=by rfl
     have e2:((q:Int)).tdiv 10=((q/10:Nat):Int):=by rfl
     have hd10:q%10<10:=Nat.mod_lt _ (by decide);have hq10:q/10<=q:=Nat.div_le_self _ _;have hen:=Bf.of (Er (q%10) hd10);obtain⟨hw1,hw2,hw4⟩:=Rf hd10;have hw3:=Ju (Nat.lt_of_le_of_lt hq10 hq);clear hT;generalize UInt8.ofNat (48+q%10)=ch at *;generalize q%10=d at *;generalize q/10=q' at *;clear hd10 hq hq10;have hs:¬ (d:Int)<0:=Int.not_lt.2 (Int.natCast_nonneg d);have HLEN:Hid ([ch].length+tx.length<=1000000):=by show _<=_;rw[List.length_singleton];omega
     go_wp2_with (refine Jo _ rfl (some 29) rfl _ _ _ _ rfl _ [ch] tx rfl hen.eq rfl HLEN.out ?_;simp only[Act.put,List.setIfInBounds_toArray,List.set_cons_zero,List.set_cons_succ,List.singleton_append]);go_roundw
     case rel=>exact⟨k+1,q',_,by omega,by go_num,by rw[hw3],rfl,HT2,trivial⟩
     case measure=>simp[intOf];omega
    ·obtain rfl:k=9:=by omega
     have HT2:=Hd (hT.out.finish hlt HM.out);clear hT;go_wp2;go_roundw
     case rel=>exact⟨i+1,tx,by omega,by go_num,rfl,HT2,trivial⟩
     case measure=>simp[intOf];omega
  ·obtain rfl:i=m.length:=by omega
   have hnt:bK tx=x:=by rw[hT.out.2.2,List.take_length];exact HV.out
   have htl:tx.length<=64:=by have:=hT.out.2.1;omega
   have hv1:=Wm hT.out.1;have hv2:=Pe hT.out.1;rw[hnt] at hv1 hv2;cases ng with
   |true =>
    have HCC:Hid (∀W,Calls prog 122 #[.string ⟨(45::tx).toArray⟩] W fun e w'=>e=.returned (.string ⟨r.toArray⟩)/\W=w'):=fun W=>by
     have h:=HC.out (45::tx) W (by simp;omega);rw[hv2] at h;rw[HRS.out,if_pos rfl];exact h
    clear hv1 hv2 hnt HV hT;go_wp2_with fail;refine(HCC.out _).mono ?_;rintro e w2 ⟨rfl,rfl⟩;go_wp2;go_ret;exact⟨rfl,HB.out⟩
   |false =>
    have HCC:Hid (∀W,Calls prog 122 #[.string ⟨tx.toArray⟩] W fun e w'=>e=.returned (.string ⟨r.toArray⟩)/\W=w'):=fun W=>by
     have h:=HC.out tx W (by omega);rw[hv1] at h;rw[HRS.out,if_neg (by decide)];exact h
    clear hv1 hv2 hnt HV hT;go_wp2_with fail;refine(HCC.out _).mono ?_;rintro e w2 ⟨rfl,rfl⟩;go_wp2;go_ret;exact⟨rfl,HB.out⟩
end
section
open Go Go.RowKit Num
theorem vR(l:List UInt8):val l=if dD l=true then -(bK (aZ l):Int) else(bK (aZ l):Int):=rfl
theorem zV{n:Nat}(h:n<1000000000000000000):(aC n).length<=2:=by
 rw[aC];split
 ·simp
 ·rw[aC];split
  ·simp
  ·rw[aC,dif_pos (by omega)];simp
theorem Ub(a b:Bool)(x y:Nat):(if(a != b)=true then -((x*y:Nat):Int) else((x*y:Nat):Int))=(if a=true then -(x:Int) else(x:Int))*(if b=true then -(y:Int) else(y:Int)):=by
 cases a <;> cases b <;> simp[Int.neg_mul,Int.mul_neg]
theorem Lm{x y:Nat}(hx:x<1000000000000000000)(hy:y<1000000000000000000):(aC (x*y)).length<=6:=by
 have h:x*y<1000000000000000000*1000000000000000000:=Nat.mul_lt_mul'' hx hy;rcases Nat.eq_zero_or_pos (x*y) with h0|h0
 ·rw[h0,aT];simp
 ·have h1:=vA (dJ (x*y)) (by intro e;rw[bO] at e;omega);rw[aQ] at h1;rcases Nat.lt_or_ge 6 (aC (x*y)).length with h2|h2
  ·exfalso;have h3:1000000000^6<=1000000000^((aC (x*y)).length-1):=Nat.pow_le_pow_right (by decide) (by omega);have h4:1000000000^6<=x*y:=Nat.le_trans h3 h1;have h5:(1000000000:Nat)^6=1000000000000000000*1000000000000000000*1000000000000000000:=by decide
   omega
  ·exact h2
theorem Mt(l m:List UInt8)(w:World)(hl:l.length<=1000)(hm:m.length<=1000)(h1:(val l).natAbs<1000000000)(h2:(val m).natAbs<1000000000):
  Calls prog 158 #[.string ⟨l.toArray⟩,.string ⟨m.toArray⟩] w fun e w'=>e=.returned (.string ⟨(aJ (val l*val m)).toArray⟩)/\Below w.heap.size w w':=by
 have H1:=Hd (fun W=>gU l W (by omega) (gQ (K:=17) (by omega) (by decide)));have H2:=Hd (fun W=>gU m W (by omega) (gQ (K:=17) (by omega) (by decide)));obtain⟨p,hp⟩:∃p,p=val l*val m:=⟨_,rfl⟩
 have hpb:-1000000000000000000<=p/\p<=1000000000000000000:=by
  have h3:(val l*val m).natAbs<1000000000*1000000000:=by rw[Int.natAbs_mul];exact Nat.mul_lt_mul'' h1 h2
  rw[<-hp] at h3;omega
 have H3:=Hd (fun W=>nS p (by omega) (by omega) W);have e1:decide (val l<1000000000)=true:=by simp;omega
 have e2:decide (-1000000000<val l)=true:=by simp;omega
 have e3:decide (val m<1000000000)=true:=by simp;omega
 have e4:decide (-1000000000<val m)=true:=by simp;omega
 rw[<-hp];have hw:wrap64 p=p:=by unfold wrap64;omega
 clear h1 h2 hpb;generalize val l=x at *;generalize val m=y at *;generalize aJ p=r at *;have hxy:x*y=p:=hp.symm;clear hp;go_enter func158,ntmps158;go_wp2_with fail;refine(H1.out _).mono ?_;rintro e w1 ⟨rfl,rfl⟩;go_wp2_with fail;refine(H2.out _).mono ?_;rintro e w1 ⟨rfl,rfl⟩;go_wp2_with fail;refine(H3.out _).mono ?_;rintro e w1 ⟨rfl,rfl⟩;go_wp2;go_ret;exact⟨rfl,Br _ _⟩
theorem Ru(l m:List UInt8)(w:World)(hl:l.length<=1000)(hm:m.length<=1000)(h1:(val l).natAbs<100000000000000000)(h2:(val m).natAbs<100000000000000000)(hb:¬ ((val l).natAbs<1000000000/\(val m).natAbs<1000000000)):
  Calls prog 158 #[.string ⟨l.toArray⟩,.string ⟨m.toArray⟩] w fun e w'=>e=.returned (.string ⟨(aJ (val l*val m)).toArray⟩)/\Below w.heap.size w w':=by
 have H1:=Hd (fun W=>gU l W (by omega) (gQ (K:=17) (by omega) (by decide)));have H2:=Hd (fun W=>gU m W (by omega) (gQ (K:=17) (by omega) (by decide)));have H3:=Hd (fun W=>Dd l W (by omega));have H4:=Hd (fun W=>Dd m W (by omega));have ex:bK (aZ l)=(val l).natAbs:=tN l;have ey:bK (aZ m)=(val m).natAbs:=tN m;have hx18:bK (aZ l)<1000000000000000000:=by omega
 have hy18:bK (aZ m)<1000000000000000000:=by omega
 have hg1:=zV hx18;have hg2:=zV hy18;have hg3:=Hd (Lm hx18 hy18);have HSG:=Hd (Ub (dD l) (dD m) (bK (aZ l)) (bK (aZ m)));rw[<-vR,<-vR] at HSG;obtain⟨r,hr⟩:∃r,r=aJ (val l*val m):=⟨_,rfl⟩
 rw[<-hr];have HW:Hid (∀a c W,dT W a (gi (aC (bK (aZ l)*bK (aZ m))))->Calls prog 227 #[.agg #[.bool (dD l != dD m),.slice a (aC (bK (aZ l)*bK (aZ m))).length c]] W fun e w'=>e=.returned (.string ⟨r.toArray⟩)/\Below W.heap.size W w'):=fun a c W h=>by
  have h3:=Mo (dD l != dD m) (bK (aZ l)*bK (aZ m)) a c W hg3.out h;rw[HSG.out,<-hr] at h3;exact h3
 have HT:=Hd (fun a a' c c' W hra hrb=>Mp (bK (aZ l)) (bK (aZ m)) a a' c c' W (by omega) (by omega) hra hrb);have hbad:¬ (val l<1000000000)∨¬ (-1000000000<val l)∨¬ (val m<1000000000)∨¬ (-1000000000<val m):=by omega
 clear HSG hg3 hr h1 h2 hb ex ey hx18 hy18;generalize bK (aZ l)*bK (aZ m)=xy at *;generalize bK (aZ l)=x at *;generalize bK (aZ m)=y at *;generalize dD l=nl at *;generalize dD m=nm at *;generalize val l=vx at *;generalize val m=vy at *;go_enter func158,ntmps158;go_wp2_with fail;refine(H1.out _).mono ?_;rintro e w1 ⟨rfl,rfl⟩;go_wp2_with fail;refine(H2.out _).mono ?_;rintro e w1 ⟨rfl,rfl⟩;have hk:decide (vx<1000000000)=false∨(decide (vx<1000000000)=true/\decide (-1000000000<vx)=false)∨(decide (vx<1000000000)=true/\decide (-1000000000<vx)=true/\decide (vy<1000000000)=false)∨(decide (vx<1000000000)=true/\decide (-1000000000<vx)=true/\decide (vy<1000000000)=true/\decide (-1000000000<vy)=false):=by
  simp only[decide_eq_false_iff_not,decide_eq_true_eq];omega
 clear hbad;rcases hk with c1|⟨c1,c2⟩|⟨c1,c2,c3⟩|⟨c1,c2,c3,c4⟩
 all_goals
  go_wp2_with fail;refine(H3.out _).mono ?_;rintro e w2 ⟨a1,cp1,rfl,hr1,hb1⟩;have HB1:=Hd hb1;have HR1:=Hd hr1;clear hb1 hr1;go_wp2_with fail;refine(H4.out _).mono ?_;rintro e w3 ⟨a2,cp2,rfl,hr2,hb2⟩;have HR1':=Hd (HR1.out.below hb2);have HB2:=Hd (aA HB1.out hb2);have HR2:=Hd hr2;clear hb2 hr2 HR1 HB1;have HX1:Hid (aP ((w3.alloc (.cells #[.bool nl,.slice a1 (aC x).length cp1] 227)).alloc (.cells #[.bool nm,.slice a2 (aC y).length cp2] 227)) w3.heap.size #[.bool nl,.slice a1 (aC x).length cp1] 227):=(aP.new0 w3 _ _).below (aB _ _);have HX2:Hid (aP ((w3.alloc (.cells #[.bool nl,.slice a1 (aC x).length cp1] 227)).alloc (.cells #[.bool nm,.slice a2 (aC y).length cp2] 227)) (w3.heap.size+1) #[.bool nm,.slice a2 (aC y).length cp2] 227):=by
   have h:=aP.new0 (w3.alloc (.cells #[.bool nl,.slice a1 (aC x).length cp1] 227)) #[.bool nm,.slice a2 (aC y).length cp2] 227;rw[World.size_alloc] at h;exact h
  have HB4:Hid (Below w3.heap.size w3 ((w3.alloc (.cells #[.bool nl,.slice a1 (aC x).length cp1] 227)).alloc (.cells #[.bool nm,.slice a2 (aC y).length cp2] 227))):=((Br _ _).alloc (Nl _) _).alloc (by simp) _;obtain⟨W4,hW4⟩:∃W4,W4=(w3.alloc (.cells #[.bool nl,.slice a1 (aC x).length cp1] 227)).alloc (.cells #[.bool nm,.slice a2 (aC y).length cp2] 227):=⟨_,rfl⟩
  rw[<-hW4] at HX1 HX2 HB4;have k0:W4.cell? ⟨w3.heap.size,0,none⟩=some (.bool nl):=HX1.out.cell 0;have k1:W4.cell? ⟨w3.heap.size,1,none⟩=some (.slice a1 (aC x).length cp1):=HX1.out.cell 1;have k2:W4.cell? ⟨w3.heap.size+1,0,none⟩=some (.bool nm):=HX2.out.cell 0;have k3:W4.cell? ⟨w3.heap.size+1,1,none⟩=some (.slice a2 (aC y).length cp2):=HX2.out.cell 1;have HRA:=Hd (HR1'.out.below HB4.out);have HRB:=Hd (HR2.out.below HB4.out);have HB5:=Hd (aA HB2.out HB4.out);have HT2:Hid (∀n,Calls prog 228 #[.slice a1 (aC x).length cp1,.slice a2 (aC y).length cp2] (W4.drewN n) fun e w'=>∃a c,e=.returned (.slice a (aC xy).length c)/\dT w' a (gi (aC xy))/\Below W4.heap.size W4 w'):=fun n =>
   (HT.out a1 a2 cp1 cp2 (W4.drewN n) (HRA.out.below (aD (Br _ _) n)) (HRB.out.below (aD (Br _ _) n))).mono fun e w' ⟨c,e1,e2,e3⟩=>⟨_,c,e1,e2,(aD (Br _ _) n).trans e3⟩
  clear HT HR1' HR2 HB2 HB4 HRA HRB;generalize(aC x).length=lx at *;generalize(aC y).length=ly at *;go_wp2_with fail;rw[<-hW4];clear hW4;go_region_held3 (fun W=>W.cell? ⟨w3.heap.size,0,none⟩=some (.bool nl)/\W.cell? ⟨w3.heap.size,1,none⟩=some (.slice a1 lx cp1)/\W.cell? ⟨w3.heap.size+1,0,none⟩=some (.bool nm)/\W.cell? ⟨w3.heap.size+1,1,none⟩=some (.slice a2 ly cp2)) (first|exact⟨k0,k1,k2,k3⟩|go_keep)
   (first|(go_at_call 228;refine(HT2.out 1).mono ?_;rintro e w5 ⟨a5,c5,rfl,hr5,hb5⟩;have k0:=(HX1.out.below hb5).cell 0;have k1:=(HX1.out.below hb5).cell 1;have k2:=(HX2.out.below hb5).cell 0;have k3:=(HX2.out.below hb5).cell 1;have HQ1:=Hd (HX1.out.below hb5);have HQ2:=Hd (HX2.out.below hb5);have HR5:=Hd hr5;have HB6:=Hd (aA HB5.out hb5);clear hr5 hb5)|(go_at_call 227;refine(HW.out _ _ _ HR5.out).mono ?_;rintro e w6 ⟨rfl,hb6⟩;have k0:=(HQ1.out.below hb6).cell 0;have k1:=(HQ1.out.below hb6).cell 1;have k2:=(HQ2.out.below hb6).cell 0;have k3:=(HQ2.out.below hb6).cell 1;have HB7:=Hd (aA HB6.out hb6);clear hb6))
  go_wp2;go_ret;exact⟨rfl,HB7.out⟩
theorem Ja(l m:List UInt8)(w:World)(hl:l.length<=1000)(hm:m.length<=1000)(h1:(val l).natAbs<100000000000000000)(h2:(val m).natAbs<100000000000000000):
  Calls prog 158 #[.string ⟨l.toArray⟩,.string ⟨m.toArray⟩] w fun e w'=>e=.returned (.string ⟨(aJ (val l*val m)).toArray⟩)/\Below w.heap.size w w':=by
 by_cases hb:(val l).natAbs<1000000000/\(val m).natAbs<1000000000
 ·exact Mt l m w hl hm hb.1 hb.2
 ·exact Ru l m w hl hm h1 h2 hb
end
end Go.Proofs.YthjekgfoidmagaaGreatDoor
