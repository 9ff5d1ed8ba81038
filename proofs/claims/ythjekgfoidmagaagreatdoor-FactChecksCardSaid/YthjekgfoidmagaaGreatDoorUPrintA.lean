/- Shelf5 PrintP Print13 DPrint13 FPrint13 Join Red13 -/
import Derived.Test.YthjekgfoidmagaaGreatDoorUDate
import Derived.Test.YthjekgfoidmagaaGreatDoorUFrac
import Derived.Lib.Join
set_option maxHeartbeats 16000000
set_option maxRecDepth 100000
section
namespace Go.Proofs
open Tryz
def lays165_ren:Go.Shelf.Ren:=⟨fun|165=>112|240=>174|241=>175|276=>240|277=>241|n=>n,fun|70=>130|3=>3|0=>0|4=>4|9=>9|20=>20|72=>132|37=>104|164=>243|5=>5|n=>n,fun|n=>n⟩
theorem lays165:Go.Proofs.Lays.n165 prog lays165_ren:=by iterate 4 all_goals first|kernel_rfl|(intro _;kernel_rfl)|constructor|decide
theorem Builder_Extra_165:Builder.Extra prog lays165_ren:=by iterate 4 all_goals first|kernel_rfl|(intro _;kernel_rfl)|constructor|decide
open Go.RowKit in
theorem Builder_Grow_fresh(B b n:Nat)(w:World)(hB:B<=b)(hbk:w.heap[b]?=some (.cells #[.pointer none,.slice none 0 0] 132 (0,0)))(hBw:B<=w.heap.size)(hn:n<=281474976710656):
  Calls prog 112 #[.pointer (some ⟨b,0,none⟩),.int .i64 n] w fun e w'=>e=.returned (.tuple #[])/\(Lib.BuilderAt 132 5 B b (.pointer (some ⟨b,0,none⟩)) [] w'/\Below B w w'):=Any.Builder_Grow_fresh lays165 Builder_Extra_165 B b n w hB hbk hBw hn
def lays146_ren:Go.Shelf.Ren:=⟨fun|146=>66|221=>130|268=>192|138=>193|143=>80|195=>251|197=>252|218=>253|219=>135|260=>290|217=>200|225=>201|224=>202|267=>203|266=>254|314=>255|n=>n,fun|9=>9|31=>36|3=>3|4=>4|0=>0|105=>252|21=>21|5=>5|46=>129|119=>295|139=>298|138=>297|146=>246|51=>180|n=>n,fun|1=>0|3=>4|4=>5|n=>n⟩
theorem lays146:Go.Proofs.Lays.n146 prog lays146_ren:=by iterate 4 all_goals first|kernel_rfl|(intro _;kernel_rfl)|constructor|decide
open Go.RowKit Go.Lib in
theorem strings_Split(s sep:ByteArray)(m:Int)(w:World)(hs:s.size<4294967281)(hm:w.cell? ⟨0,0,none⟩=some (.int .i64 m))(h1:1<=sep.size):
  Calls prog 66 #[.string s,.string sep] w fun e w' =>
   e=.returned (.slice (some ⟨w.heap.size,0,none⟩) (Lib.countB s sep+1) (Lib.countB s sep+1))/\w'=w.alloc (.cells ((Lib.splitB sep 0 (Lib.countB s sep) s).map Value.string).toArray 9):=Any.strings_Split lays146 (by kernel_rfl) s sep m w hs hm h1
end Go.Proofs
end
section
namespace Go.Proofs.YthjekgfoidmagaaGreatDoor
open Tryz
open Go Go.RowKit Num
def bDr(z:Int):List UInt8:=if z=0 then[48] else aJ z
def bEb(n d:Int):List UInt8:=if d=1 then bDr n else bDr n++47::bDr d
def bDv(s:List UInt8):Option (List UInt8):=if bDr (val s)=s then some (aJ (val s)) else none
def two(n:Int):List UInt8:=List.replicate (2-(Lib.itoa n).length) 48++Lib.itoa n
noncomputable def bDl(d:Int):List UInt8:=Lib.itoa (Cal.civ (d+25567)).1++45::two (Cal.civ (d+25567)).2.1++45::two (Cal.civ (d+25567)).2.2
def bDo(c:UInt8)(ls:List (List UInt8)):List UInt8:=Lib.join ls [c]
end Go.Proofs.YthjekgfoidmagaaGreatDoor
end
section
namespace Go.Proofs.YthjekgfoidmagaaGreatDoor
open Tryz
open Go Go.RowKit Num
theorem bFm(l:List UInt8)(w:World)(hl:l.length<=9000000000000000000):
  Calls prog 119 #[.string ⟨l.toArray⟩] w fun e w'=>e=.returned (.string ⟨(bDr (val l)).toArray⟩)/\Below w.heap.size w w':=by
 have H:=Hd (fun W=>aNa l W hl);unfold bDr
 by_cases hz:val l=0
 ·rw[if_pos hz];rw[hz,nA] at H;clear hz hl;go_enter func119,ntmps119;go_wp2_with fail;refine(H.out _).mono ?_;rintro e w2 ⟨rfl,hb2⟩;go_wp2;go_ret;exact⟨rfl,hb2⟩
 ·rw[if_neg hz];have hne:(aJ (val l) == [])=false:=by simp;exact fun e=>hz ((aM9 _).1 e)
  generalize aJ (val l)=c at *;clear hz hl;go_enter func119,ntmps119;go_wp2_with fail;refine(H.out _).mono ?_;rintro e w2 ⟨rfl,hb2⟩;go_wp2;go_ret;exact⟨rfl,hb2⟩
def bOh(o:Option (List UInt8)):Value:=.tuple #[.string ⟨(o.getD []).toArray⟩,.int .i64 (if o.isSome=true then 0 else 3)]
theorem bHg(l:List UInt8)(w:World)(hl:l.length<=65536):
  Calls prog 249 #[.string ⟨l.toArray⟩] w fun e w'=>e=.returned (bOh (bDv l))/\Below w.heap.size w w':=by
 have HP:=Hd (fun W=>bFm l W (by omega));have HC:=Hd (fun W=>aNa l W (by omega));have h0:decide ((65536:Int)<(l.length:Int))=false:=by simp;omega
 unfold bDv;generalize aJ (val l)=c at *;generalize bDr (val l)=p at *
 by_cases he:p=l
 ·rw[if_pos he];subst he;clear hl;go_enter func249,ntmps249;go_wp2_with fail;refine(HP.out _).mono ?_;rintro e w1 ⟨rfl,hb1⟩;go_wp2_with fail;refine(HC.out _).mono ?_;rintro e w2 ⟨rfl,hb2⟩;go_wp2;go_ret2;exact⟨rfl,aA hb1 hb2⟩
 ·rw[if_neg he];have h1:(p==l)=false:=by simp;exact he
  clear hl he;go_enter func249,ntmps249;go_wp2_with fail;refine(HP.out _).mono ?_;rintro e w1 ⟨rfl,hb1⟩;go_wp2;go_ret2;exact⟨rfl,hb1⟩
end Go.Proofs.YthjekgfoidmagaaGreatDoor
end
section
namespace Go.Proofs.YthjekgfoidmagaaGreatDoor
open Tryz
open Go Go.RowKit Num Cal
attribute [local go_sem] eW aV
theorem bK6{n:Int}(h0:0<=n)(h1:n<=99):(Lib.itoa n).length<=2/\1<=(Lib.itoa n).length:=by
 obtain⟨m,rfl⟩:∃m:Nat,n=m:=⟨n.toNat,by omega⟩
 rw[Lib.itoa_nonneg]
 by_cases h:m<10
 ·rw[Lib.decDigits_one h];simp
 ·rw[Lib.decDigits_two h (by omega)];simp
theorem bMx{n:Int}(h0:0<=n)(h1:n<=99):(two n).length<=2:=by
 have:=bK6 h0 h1;unfold two;simp;omega
theorem bMy(n:Int)(h0:0<=n)(h1:n<=99)(w:World)(hE:iE w):
  Calls prog 116 #[.int .i64 n] w fun e w'=>e=.returned (.string ⟨(two n).toArray⟩)/\Below w.heap.size w w':=by
 have HI:=Hd (fun W hE=>Uj n (by omega) (by omega) W hE);have HE:=Hd hE;obtain⟨g1,g2⟩:=bK6 h0 h1;unfold two;generalize Lib.itoa n=c at *;obtain⟨k,hk⟩:∃k:Nat,k=2-c.length:=⟨_,rfl⟩
 have hkk:(2:Int)-(c.length:Int)=(k:Int):=by omega
 have HR:=Hd (fun W=>Ke k W (by omega));rw[<-hk];have hz:(List.replicate k (48:UInt8)).length<=2:=by simp;omega
 generalize List.replicate k (48:UInt8)=z at *;clear hE hk;go_enter func116,ntmps116;go_wp2_with fail;refine(HI.out _ HE.out).mono ?_;rintro e w1 ⟨rfl,hb1⟩;have HB1:=Hd hb1;clear hb1;go_wp2_with fail;refine(HR.out _).mono ?_;rintro e w2 ⟨rfl,hb2⟩;have HB2:=Hd (aA HB1.out hb2);clear hb2;go_wp2_with fail;refine(HI.out _ (HE.out.below HB2.out)).mono ?_;rintro e w3 ⟨rfl,hb3⟩;have HB3:=Hd (aA HB2.out hb3);clear hb3;go_wp2;go_ret;exact⟨rfl,HB3.out⟩
theorem bJt(d:Int)(h0:-25567<=d)(h1:d<=84005)(w:World)(hE:iE w):
  Calls prog 57 #[.int .i64 d] w fun e w'=>e=.returned (.tuple #[.string ⟨(bDl d).toArray⟩,.int .i64 0])/\Below w.heap.size w w':=by
 have HP:=Hd (Dt.parts_yes d w h0 h1);obtain⟨hv,_⟩:=aM5 (n:=d+25567) (by omega) (by omega);unfold bDl;have HE:=Hd hE;generalize Cal.civ (d+25567)=p at *;obtain⟨y,m,q⟩:=p;dsimp only at *;obtain⟨v1,v2,v3,v4,v5,v6⟩:=hv;have v7:=dim_bd y m;have l1:(Lib.itoa y).length<=4:=by
  obtain⟨m,rfl⟩:∃m:Nat,y=m:=⟨y.toNat,by omega⟩
  rw[Lib.itoa_nonneg,Lib.decDigits_length];exact jU _ _ (by decide) (by omega)
 have l2:=bMx (n:=m) (by omega) (by omega);have l3:=bMx (n:=q) (by omega) (by omega);have HY:=Hd (fun W hE=>Uj y (by omega) (by omega) W hE);have HM:=Hd (fun W hE=>bMy m (by omega) (by omega) W hE);have HQ:=Hd (fun W hE=>bMy q (by omega) (by omega) W hE);clear hE v1 v2 v3 v4 v5 v6 v7 h0 h1;generalize Lib.itoa y=ty at *;generalize two m=tm at *;generalize two q=tq at *;go_enter func57,ntmps57;go_wp2_with fail;refine HP.out.mono ?_;rintro e w1 ⟨rfl,hb1⟩;have HB1:=Hd hb1;clear hb1 HP;go_wp2_with fail;refine(HY.out _ (HE.out.below HB1.out)).mono ?_;rintro e w2 ⟨rfl,hb2⟩;have HB2:=Hd (aA HB1.out hb2);clear hb2;go_wp2_with fail;refine(HM.out _ (HE.out.below HB2.out)).mono ?_;rintro e w3 ⟨rfl,hb3⟩;have HB3:=Hd (aA HB2.out hb3);clear hb3;go_wp2_with fail;refine(HQ.out _ (HE.out.below HB3.out)).mono ?_;rintro e w4 ⟨rfl,hb4⟩;have HB4:=Hd (aA HB3.out hb4);clear hb4;go_wp2;go_ret2;exact⟨by simp,HB4.out⟩
end Go.Proofs.YthjekgfoidmagaaGreatDoor
end
section
namespace Go.Proofs.YthjekgfoidmagaaGreatDoor
open Tryz
open Go Go.RowKit Num
attribute [local go_sem] eW aV
theorem bEl{z:Int}{K:Nat}(h:(aJ z).length<=K)(hK:1<=K):(bDr z).length<=K:=by
 unfold bDr;split
 ·simpa using hK
 ·exact h
theorem bWk{l:List UInt8}{K:Nat}(hK:1<=K)(h:l.length<=K):(aJ (val l)).length<=K+1:=gC hK (lO h)
theorem bH6(n d:List UInt8)(w:World)(hE:iE w){K:Nat}(hK:1<=K)(hK2:K<=70000)(hn:n.length<=K)(hd:d.length<=K):
  Calls prog 181 #[.agg #[.string ⟨n.toArray⟩,.string ⟨d.toArray⟩]] w fun e w'=>e=.returned (.tuple #[.string ⟨(aJ (eT (val n) (lU d))).toArray⟩,.string ⟨(aJ (fT (val n) (lU d))).toArray⟩])/\Below w.heap.size w w':=by
 have HE:=Hd hE;have HP:=Hd (fun W=>rD n d W (by omega));have HRD:=Hd (fun W hE=>bGf n (jN d) W hE hK hK2 hn (qR (K:=K) hK hd) (by rw[iH];exact qQ d));rw[iH] at HRD;generalize aJ (eT (val n) (lU d))=r1 at *;generalize aJ (fT (val n) (lU d))=r2 at *;generalize jN d=ds at *;clear hE;go_enter func181,ntmps181;go_wp2_with fail;refine(HP.out _).mono ?_;rintro e w1 ⟨rfl,hb1⟩;have HB1:=Hd (aA (aB w (.cells #[.string ⟨n.toArray⟩,.string ⟨d.toArray⟩] 25)) hb1);clear hb1 HP;go_wp2_with fail;refine(HRD.out _ (HE.out.below HB1.out)).mono ?_;rintro e w2 ⟨rfl,hb2⟩;have HB2:=Hd (aA HB1.out hb2);clear hb2;go_wp2;go_ret2;exact⟨rfl,HB2.out⟩
theorem bG3(z:Int):aJ z=[49]↔z=1:=by
 constructor
 ·intro h;have:=congrArg val h;rw[bE] at this;exact this
 ·rintro rfl
  kernel_rfl
theorem bJv(n d:List UInt8)(w:World)(hE:iE w){K:Nat}(hK:1<=K)(hK2:K<=70000)(hn:n.length<=K)(hd:d.length<=K):
  Calls prog 121 #[.agg #[.string ⟨n.toArray⟩,.string ⟨d.toArray⟩]] w fun e w'=>e=.returned (.string ⟨(bEb (eT (val n) (lU d)) (fT (val n) (lU d))).toArray⟩)/\Below w.heap.size w w':=by
 have HE:=Hd hE;have HP:=Hd (fun W hE=>bH6 n d W hE hK hK2 hn hd);have hl1:(aJ (eT (val n) (lU d))).length<=K+1:=(uE (K:=K) hK (Sy (qQ d)) rfl hn)
 have hl2:(aJ (fT (val n) (lU d))).length<=K+1:=(uE (K:=K) hK (Tk (qQ d)) (iH d).symm (qR (K:=K) hK hd))
 have H1:=Hd (fun W=>bFm (aJ (eT (val n) (lU d))) W (by omega));have H2:=Hd (fun W=>bFm (aJ (fT (val n) (lU d))) W (by omega));rw[bE] at H1 H2;have hp1:=bEl hl1 (by omega);have hp2:=bEl hl2 (by omega);unfold bEb;have h1:=bG3 (fT (val n) (lU d));generalize fT (val n) (lU d)=D at *;generalize eT (val n) (lU d)=N at *;generalize aJ N=cn at *;generalize bDr N=pn at *;generalize bDr D=pd at *;clear hl1 hl2 hE hn hd
 by_cases hD:D=1
 ·rw[if_pos hD];rw[h1.2 hD] at HP;clear h1 hD H2;go_enter func121,ntmps121;go_wp2_with fail;refine(HP.out _ (HE.out.below (aB w _))).mono ?_;rintro e w1 ⟨rfl,hb1⟩;have HB1:=Hd (aA (aB w (.cells #[.string ⟨n.toArray⟩,.string ⟨d.toArray⟩] 25)) hb1);clear hb1;go_wp2_with fail;refine(H1.out _).mono ?_;rintro e w2 ⟨rfl,hb2⟩;have HB2:=Hd (aA HB1.out hb2);clear hb2;go_wp2;go_ret;exact⟨rfl,HB2.out⟩
 ·rw[if_neg hD];have hne:(aJ D == [49])=false:=by simp;exact fun e=>hD (h1.1 e)
  generalize aJ D=cd at *;clear h1 hD;go_enter func121,ntmps121;go_wp2_with fail;refine(HP.out _ (HE.out.below (aB w _))).mono ?_;rintro e w1 ⟨rfl,hb1⟩;have HB1:=Hd (aA (aB w (.cells #[.string ⟨n.toArray⟩,.string ⟨d.toArray⟩] 25)) hb1);clear hb1;go_wp2_with fail;refine(H1.out _).mono ?_;rintro e w2 ⟨rfl,hb2⟩;have HB2:=Hd (aA HB1.out hb2);clear hb2;go_wp2_with fail;refine(H2.out _).mono ?_;rintro e w3 ⟨rfl,hb3⟩;have HB3:=Hd (aA HB2.out hb3);clear hb3;go_wp2;go_ret;exact⟨by simp,HB3.out⟩
theorem bGc(n d:List UInt8)(w:World)(hE:iE w)(hn:n.length<=2000)(hd:d.length<=2000):
  Calls prog 121 #[.agg #[.string ⟨n.toArray⟩,.string ⟨d.toArray⟩]] w fun e w'=>e=.returned (.string ⟨(bEb (eT (val n) (lU d)) (fT (val n) (lU d))).toArray⟩)/\Below w.heap.size w w' :=
 bJv n d w hE (K:=2000) (by decide) (by decide) hn hd
end Go.Proofs.YthjekgfoidmagaaGreatDoor
end
section
namespace Go.Proofs.YthjekgfoidmagaaGreatDoor
open Tryz
open Go Go.RowKit Num
def bEs(c:UInt8)(ls:List (List UInt8)):List UInt8:=Lib.joinTail [c] ls
theorem bHb(c:UInt8)(x:List UInt8)(r:List (List UInt8)):bDo c (x::r)=x++bEs c r:=Lib.join_cons x r [c]
theorem bLn{c:UInt8}{r:List (List UInt8)}{k:Nat}{y:List UInt8}(h:r[k]?=some y):bEs c (r.take (k+1))=bEs c (r.take k)++c::y:=by
 unfold bEs;rw[Lib.joinTail_take_succ [c] r k y h];simp
theorem bGo{c:UInt8}:∀(r:List (List UInt8)),(bEs c r).length=Lib.lens r+r.length
 | []=>rfl
 |x::r=>by
  have ih:=bGo (c:=c) r;unfold bEs Lib.joinTail Lib.lens at *;simp only[List.map_cons,List.flatten_cons,List.length_append,List.length_cons,List.length_nil,List.sum_cons] at *;omega
theorem bLm(c:UInt8)(r:List (List UInt8))(k:Nat):(bEs c (r.take k)).length<=(bEs c r).length:=by
 rw[bGo,bGo];have:=Lib.lens_take_le r k;have:(r.take k).length<=r.length:=by rw[List.length_take];omega
 omega
theorem bMa(a:Option Addr)(cap:Nat)(c:UInt8)(w:World):
  Calls prog 56 #[.slice a 0 cap,.string ⟨#[c]⟩] w fun e w'=>e=.returned (.string ⟨#[]⟩)/\w=w':=by
 go_enter func56,ntmps56;go_wp2;go_ret;exact⟨rfl,rfl⟩
theorem bNr(b off cap:Nat)(x:List UInt8)(c:UInt8)(w:World)(h:w.cell? ⟨b,off,none⟩=some (.string ⟨x.toArray⟩)):
  Calls prog 56 #[.slice (some ⟨b,off,none⟩) 1 cap,.string ⟨#[c]⟩] w fun e w'=>e=.returned (.string ⟨x.toArray⟩)/\w=w':=by
 go_enter func56,ntmps56;go_wp2;go_ret;exact⟨rfl,rfl⟩
def bGa(ls:List (List UInt8))(k:Nat):Nat:=Lib.lens (ls.take k)
theorem bGq{c:UInt8}{x:List UInt8}{r:List (List UInt8)}:(bDo c (x::r)).length=Lib.lens (x::r)+r.length:=by
 rw[bHb,List.length_append,bGo];unfold Lib.lens;simp only[List.map_cons,List.sum_cons];omega
theorem bMb(b off cap:Nat)(x0:List UInt8)(r:List (List UInt8))(hne:r ≠ [])(c:UInt8)(w:World)(hb:b<w.heap.size)(hcap:r.length+1<=cap)(hlen:(bDo c (x0::r)).length<=100000000)
  (hc:∀j x,(x0::r)[j]?=some x->w.cell? ⟨b,off+j,none⟩=some (.string ⟨x.toArray⟩)) :
  Calls prog 56 #[.slice (some ⟨b,off,none⟩) (r.length+1) cap,.string ⟨#[c]⟩] w fun e w'=>e=.returned (.string ⟨(bDo c (x0::r)).toArray⟩)/\Below w.heap.size w w':=by
 have HC:=Hd hc;have hr1:1<=r.length:=List.length_pos_iff.2 hne;rw[bGq] at hlen;obtain⟨n,hn⟩:∃n,n=r.length+1:=⟨_,rfl⟩
 have HN:=Hd hn;have HLE:Hid (∀k,bGa (x0::r) k<=100000000/\(∀y,(x0::r)[k]?=some y->bGa (x0::r) (k+1)=bGa (x0::r) k+y.length/\bGa (x0::r) (k+1)<=100000000)):=fun k=>by
  have h1:=Lib.lens_take_le (x0::r) k;have h2:=Lib.lens_take_le (x0::r) (k+1);unfold bGa;exact⟨by omega,fun y hy=>⟨Lib.lens_take_succ _ _ _ hy,by omega⟩⟩
 have HFULL:Hid (bGa (x0::r) n=Lib.lens (x0::r)):=by show _=_;rw[hn];unfold bGa;rw[List.take_of_length_le (by simp)]
 have hq:¬ (9223372036854775807/((n:Int)-1)<=1):=by
  have:(2:Int)<=9223372036854775807/((n:Int)-1):=by
   rw[Int.le_ediv_iff_mul_le (by omega)];omega
  omega
 have h0:((n:Int)==0)=false:=beq_eq_false_iff_ne.2 (by omega);have h1:((n:Int)==1)=false:=beq_eq_false_iff_ne.2 (by omega);rw[<-hn] at hcap ⊢;have HL0:Hid (bGa (x0::r) 0=0):=rfl;generalize bGa (x0::r)=L at *;have hn2:2<=n:=by omega
 have hn3:n<=100000001:=by omega
 have HL:=Hd hlen;clear hc hn hne hr1 hlen;go_enter func56,ntmps56;go_wp2_with fail;go_loop [5,41] (fun t i=>∃k:Nat,k<=n/\i=.int .i64 k/\t=.int .i64 ((n-1+L k:Nat):Int)) (fun _ i=>n-(intOf i).toNat)
 case atStart=>exact⟨0,Nat.zero_le _,rfl,by rw[HL0.out];refine congrArg _ ?_;omega⟩
 case round =>
  obtain⟨k,hk,rfl,rfl⟩:=hrel;clear HL0
  by_cases hkn:k<n
  ·obtain⟨y,hy⟩:∃y,(x0::r)[k]?=some y:=⟨(x0::r)[k]'(by have:=HN.out;simp;omega),Lg _⟩
   have hcy:=HC.out k y hy;obtain⟨e1,e2⟩:=(HLE.out k).2 y hy;generalize hA:L (k+1)=A1 at *;generalize L k=A0 at *;have HA:=Hd hA;clear hA hy;go_wp2;exact⟨⟨k+1,by omega,by go_num,by rw[HA.out];refine congrArg _ ?_;omega⟩,by simp[intOf];omega⟩
  ·obtain rfl:k=n:=by omega
   have hLk:=(HLE.out k).1;obtain⟨T,hT⟩:∃T,T=k-1+L k:=⟨_,rfl⟩
   have hTb:T<=300000000:=by omega
   have hC:∀j,(x0++bEs c (r.take j)).length<=100000000:=fun j=>by
    have h1:=HL.out;rw[<-bGq (c:=c),bHb,List.length_append] at h1;have:=bLm c r j;rw[List.length_append];omega
   have HCL:=Hd hC;have HW:Hid (bDo c (x0::r)=x0++bEs c (r.take (k-1))):=by
    show _=_;rw[bHb,List.take_of_length_le (by have:=HN.out;omega)]
   rw[<-hT];clear hT hLk HLE HFULL HL hC hk hkn;go_wp2_with fail;refine(Builder_Grow_fresh w.heap.size w.heap.size T _ (Nl _) (heap_alloc_new w _) (by simp) (by omega)).mono ?_;rintro e w1 ⟨rfl,h1,hb1⟩;have hb1':Below w.heap.size w w1:=(aB w _).trans hb1;have hc0:w1.cell? ⟨b,off,none⟩=some (.string ⟨x0.toArray⟩):=(hb1'.cell (p:=⟨b,off,none⟩) hb).trans (HC.out 0 x0 rfl);have H1:Hid (Lib.IsBuilder 132 5 w.heap.size w.heap.size [] w1):=Or.inr h1;have HB1:=Hd hb1';clear h1 hb1 hb1' hTb;go_wp2_with fail;refine(pU w.heap.size w.heap.size [] ⟨x0.toArray⟩ w1 H1.out (by have:=HCL.out 0;simp at this;simp[aV];omega) HB1.out.size).mono ?_;rintro e w2 ⟨rfl,h2,hb2⟩;have e0:([]:List Value)++Lib.strCells ⟨x0.toArray⟩=Lib.byteCells (x0++bEs c (r.take 0)):=by
    rw[List.nil_append,vU];simp[bEs,Lib.joinTail]
   rw[e0] at h2;have H2:Hid (Lib.IsBuilder 132 5 w.heap.size w.heap.size (Lib.byteCells (x0++bEs c (r.take 0))) w2):=Or.inr h2;have HB2:=Hd (HB1.out.trans hb2);clear h2 hb2 e0 hc0 H1 HB1;go_wp2_with fail;go_loopw [65] (fun i wr=>∃j:Nat,j<=k-1/\i=.int .i64 j/\Hid (Lib.IsBuilder 132 5 w.heap.size w.heap.size (Lib.byteCells (x0++bEs c (r.take j))) wr)/\Hid (Below w.heap.size w wr)) (fun i _=>k-1-(intOf i).toNat)
   case atStart=>exact⟨0,Nat.zero_le _,rfl,H2,HB2⟩
   case round =>
    clear H2 HB2;obtain⟨j,hj,rfl,HB,HBw⟩:=hrel
    by_cases hlt:j<k-1
    ·obtain⟨y,hy⟩:∃y,r[j]?=some y:=⟨r[j]'(by have:=HN.out;omega),Lg _⟩
     have hcy:wr.cell? ⟨b,off+1+j,none⟩=some (.string ⟨y.toArray⟩):=by
      rw[show off+1+j=off+(j+1) by omega];exact(HBw.out.cell (p:=⟨b,off+(j+1),none⟩) hb).trans (HC.out (j+1) y (by simpa using hy))
     have hst:=bLn (c:=c) hy;have hl1:=HCL.out (j+1);rw[hst] at hl1;have hnx:Lib.byteCells (x0++bEs c (r.take j))++Lib.strCells ⟨#[c]⟩++Lib.strCells ⟨y.toArray⟩=Lib.byteCells (x0++bEs c (r.take (j+1))):=by
      rw[hst,show Lib.strCells ⟨#[c]⟩=Lib.byteCells [c] from rfl,vU,<-oT,<-oT];simp
     have hl0:(Lib.byteCells (x0++bEs c (r.take j))).length=x0.length+(bEs c (r.take j)).length:=by rw[Lib.byteCells_length,List.length_append]
     simp only[List.length_append,List.length_cons] at hl1;generalize hne:Lib.byteCells (x0++bEs c (r.take (j+1)))=nx at *;have HNE:=Hd hne;generalize Lib.byteCells (x0++bEs c (r.take j))=cu at *;have HNX:=Hd hnx;clear hnx hst hy hne;go_wp2_with fail;refine(pU w.heap.size w.heap.size _ ⟨#[c]⟩ wr HB.out (by show cu.length+1<=_;omega) HBw.out.size).mono ?_;rintro e w3 ⟨rfl,h3,hb3⟩;have H3:Hid (Lib.IsBuilder 132 5 w.heap.size w.heap.size _ w3):=Or.inr h3;have HB3:=Hd (HBw.out.trans hb3);clear h3 hb3;go_wp2_with fail;refine(pU w.heap.size w.heap.size _ ⟨y.toArray⟩ w3 H3.out (by rw[List.length_append,show (Lib.strCells ⟨#[c]⟩).length=1 from rfl,aV];omega) HB3.out.size).mono ?_;rintro e w4 ⟨rfl,h4,hb4⟩;rw[HNX.out] at h4;have H4:Hid (Lib.IsBuilder 132 5 w.heap.size w.heap.size _ w4):=Or.inr h4;have HB4:=Hd (HB3.out.trans hb4);clear h4 hb4 H3 HB3 HNX;go_wp2;go_roundw
     case rel=>exact⟨j+1,by omega,by go_num,by show Lib.IsBuilder _ _ _ _ _ _;rw[HNE.out];exact H4.out,HB4⟩
     case measure=>simp[intOf];omega
    ·obtain rfl:j=k-1:=by omega
     go_wp2_with fail;refine(Builder_String_any w.heap.size w.heap.size _ wr HB.out HBw.out.size).mono ?_;rintro e w5 ⟨rfl,hb5⟩;have HB5:=Hd (HBw.out.trans hb5);clear hb5;go_wp2;go_ret;exact⟨by rw[HW.out];rfl,HB5.out⟩
theorem bF5(ls:List (List UInt8))(a:Option Addr)(cap:Nat)(c:UInt8)(w:World)(hcap:ls.length<=cap)(hlen:(bDo c ls).length<=100000000)
  (hc:ls=[]∨∃b off,a=some ⟨b,off,none⟩/\b<w.heap.size/\∀j x,ls[j]?=some x->w.cell? ⟨b,off+j,none⟩=some (.string ⟨x.toArray⟩)) :
  Calls prog 56 #[.slice a ls.length cap,.string ⟨#[c]⟩] w fun e w'=>e=.returned (.string ⟨(bDo c ls).toArray⟩)/\Below w.heap.size w w':=by
 match ls,hcap,hlen,hc with
 | [],_,_,_ =>
  refine(bMa a cap c w).mono ?_;rintro e w' ⟨rfl,rfl⟩;exact⟨rfl,Br _ _⟩
 | [x],_,_,hc =>
  obtain h|⟨b,off,rfl,_,h⟩:=hc
  ·cases h
  refine(bNr b off cap x c w (h 0 x rfl)).mono ?_;rintro e w' ⟨rfl,rfl⟩;exact⟨by unfold bDo;rw[Lib.join_one],Br _ _⟩
 |x::y::r,hcap,hlen,hc =>
  obtain h|⟨b,off,rfl,hb,h⟩:=hc
  ·cases h
  exact bMb b off cap x (y::r) (by simp) c w hb hcap hlen h
end Go.Proofs.YthjekgfoidmagaaGreatDoor
end
section
namespace Go.Proofs.YthjekgfoidmagaaGreatDoor
open Tryz
open Go Go.RowKit Num
theorem bK9(N D:Int):(gE N D:Int)∣N:=Int.ofNat_dvd_left.2 (Nat.gcd_dvd_left _ _)
theorem bLa(N D:Int):(gE N D:Int)∣D:=Int.ofNat_dvd_left.2 (Nat.gcd_dvd_right _ _)
theorem bLt{N D:Int}(hD:D≠0):eT N D*gE N D=if D<0 then -N else N:=by
 have hg:=qJ (N:=N) hD;have hd:(gE N D:Int)∣(if D<0 then -N else N):=by
  split
  ·exact Int.dvd_neg.2 (bK9 N D)
  ·exact bK9 N D
 obtain⟨k,hk⟩:=hd;unfold eT;rw[hk,Int.mul_fdiv_cancel_left _ (by omega),Int.mul_comm]
theorem bJa{N D:Int}(hD:D≠0):fT N D*gE N D=if D<0 then -D else D:=by
 have hg:=qJ (N:=N) hD;have hd:(gE N D:Int)∣(if D<0 then -D else D):=by
  split
  ·exact Int.dvd_neg.2 (bLa N D)
  ·exact bLa N D
 obtain⟨k,hk⟩:=hd;unfold fT;rw[hk,Int.mul_fdiv_cancel_left _ (by omega),Int.mul_comm]
theorem bKf{N D:Int}(hD:D≠0):0<fT N D:=by
 have h:=bJa (N:=N) hD;have hg:=qJ (N:=N) hD;have hp:0<fT N D*gE N D:=by rw[h];split <;> omega
 exact Int.pos_of_mul_pos_left hp (by omega)
theorem bOz{z:Int}(h:0<z):lU (nD z)=z:=by
 unfold nD;split
 ·rename_i e;have:=congrArg val e;rw[bE,jB] at this;rw[this];rfl
 ·unfold lU;rw[bE,if_neg (by omega)]
theorem bPd{N D:Int}(hD:D≠0):eT (eT N D) (fT N D)=eT N D/\fT (eT N D) (fT N D)=fT N D:=by
 have hp:=bKf (N:=N) hD;have hg:=qJ (N:=N) hD;have h1:=bLt (N:=N) hD;have h2:=bJa (N:=N) hD;have h3:gE (eT N D) (fT N D)=1:=by
  have e:gE N D=gE (eT N D) (fT N D)*gE N D:=by
   have h4:gE (eT N D*gE N D) (fT N D*gE N D)=gE (eT N D) (fT N D)*gE N D:=by
    show Nat.gcd _ _=_;rw[Int.natAbs_mul,Int.natAbs_mul,Nat.gcd_mul_right];simp[gE]
   rw[<-h4,h1,h2];split
   ·rw[Hw]
   ·rfl
  have:gE N D*1=gE N D*gE (eT N D) (fT N D):=by rw[Nat.mul_one,Nat.mul_comm];exact e
  exact(Nat.eq_of_mul_eq_mul_left hg this).symm
 have hl:¬ fT N D<0:=by omega
 constructor
 ·rw[show eT (eT N D) (fT N D)=(if fT N D<0 then -(eT N D) else eT N D).fdiv (gE (eT N D) (fT N D)) from rfl,h3,if_neg hl];simp
 ·rw[show fT (eT N D) (fT N D)=(if fT N D<0 then -(fT N D) else fT N D).fdiv (gE (eT N D) (fT N D)) from rfl,h3,if_neg hl];simp
end Go.Proofs.YthjekgfoidmagaaGreatDoor
end
