/- Times Divide -/
import Derived.Test.YtiloklnjjfaagaaGreatDoorUPlus
set_option maxHeartbeats 16000000
set_option maxRecDepth 100000
namespace Go.Proofs.YtiloklnjjfaagaaGreatDoor
open Tryz
section
open Go.RowKit Num
def mM(w:World)(B:Nat)(o:List Nat):Prop:=w.heap[B]?=some (.cells (gs o).toArray 144 (0,0))
theorem mM.lt{w:World}{B:Nat}{o:List Nat}(h:mM w B o):B<w.heap.size:=(Ai.1 h).1
theorem mM.cell{w:World}{B:Nat}{o:List Nat}(h:mM w B o){k:Nat}(hk:k<o.length):w.cell? ⟨B,k,none⟩=some (.int .u64 ((o.getD k 0:Nat):Int)):=by
 rw[aS h];have:=mW o k hk;simpa using this
theorem mM.frozen{w:World}{B:Nat}{o:List Nat}(h:mM w B o)(k:Nat):w.frozen? ⟨B,k,none⟩=false:=aR h k
theorem Uo(o:List Nat)(k n:Nat):gs (o.set k n)=(gs o).set k (.int .u64 (n:Int)):=by simp[gs,List.map_set]
theorem mM.set{w:World}{B:Nat}{o:List Nat}(h:mM w B o)(k n:Nat){v:Int}(hv:v=n):mM (w.setCell ⟨B,k,none⟩ (.int .u64 v)) B (o.set k n):=by
 subst hv;unfold mM;rw[heap_setCell_same w B k _ _ _ h,Uo];simp
theorem mM.below{w w':World}{B:Nat}{o:List Nat}(h:mM w B o)(hb:Below w.heap.size w w'):mM w' B o:=(hb.block B h.lt).trans h
theorem mM.row{w:World}{B:Nat}{o:List Nat}(h:mM w B o):dT w (some ⟨B,0,none⟩) (gs o):=by
 have:w.heap[B]?=some (.cells (gs o ++ []).toArray 144 (0,0)):=by rw[List.append_nil];exact h
 exact eC this
theorem mM.other{w:World}{B:Nat}{o:List Nat}(h:mM w B o){p:Addr}(hne:B≠p.block)(v:Value):mM (w.setCell p v) B o:=(Below.heap_setCell w p v B hne).trans h
theorem mM.drewN{w:World}{B:Nat}{o:List Nat}(h:mM w B o)(n:Nat):mM (w.drewN n) B o:=h
theorem Sa(n:Nat):jR n=gs (List.replicate n 0):=by simp[jR,gs]
theorem mM.made(w:World)(n:Nat):mM (w.alloc (.cells (jR n).toArray 144)) w.heap.size (List.replicate n 0):=by
 unfold mM;rw[<-Sa];exact heap_alloc_new w _
theorem dT.cell{w w':World}{a:Option Addr}{m:List Nat}(h:dT w a (gs m))(hb:Below w.heap.size w w'){k:Nat}(hk:k<m.length):∃b off,a=some ⟨b,off,none⟩/\b<w.heap.size/\w'.cell? ⟨b,off+k,none⟩=some (.int .u64 ((m.getD k 0:Nat):Int)):=by
 obtain⟨b,off,ha,hlt,hc⟩:=h.addr (tT (by intro e;rw[e] at hk;simp at hk));exact⟨b,off,ha,hlt,(hb.cell (p:=⟨b,off+k,none⟩) hlt).trans (hc k _ (mW m k hk))⟩
theorem uR(x y:Nat)(a a':Option Addr)(cap cap':Nat)(w:World)(h1:(aC x).length<=100000000000)(h2:(aC y).length<=100000000000)
  (hr:dT w a (gs (aC x))) (hr':dT w a' (gs (aC y))) :
  Calls prog 171 #[.slice a (aC x).length cap,.slice a' (aC y).length cap'] w fun e w'=>∃b c,e=.returned (.slice (some ⟨b,0,none⟩) (aC (x*y)).length c)/\(aC (x*y)).length<=c/\c<=1000000000000/\w.heap.size<=b/\(∃z,mM w' b (aC (x*y)++z)/\c=(aC (x*y)++z).length)/\Below w.heap.size w w':=by
 obtain⟨m,hm⟩:∃m,m=aC x:=⟨_,rfl⟩
 obtain⟨n,hn⟩:∃n,n=aC y:=⟨_,rfl⟩
 have HM:=Hd (show ∀g∈m,g<1000000000 by rw[hm];exact aO x);have HN:=Hd (show ∀g∈n,g<1000000000 by rw[hn];exact aO y);have HV:Hid (x*y=aI m*aI n):=by show _=_;rw[hm,hn,aQ,aQ]
 rw[<-hm] at h1 hr ⊢;rw[<-hn] at h2 hr' ⊢;have HR:=Hd (And.intro hr hr');clear hr hr' hm hn;obtain⟨p,hp⟩:∃p,p=m.length:=⟨_,rfl⟩
 obtain⟨q,hq⟩:∃q,q=n.length:=⟨_,rfl⟩
 have HP:=Hd hp;have HQ:=Hd hq;rw[<-hp] at h1 ⊢;rw[<-hq] at h2 ⊢;clear hp hq;have hmk:=qE (p+q) (p+q) (Nl _) (by omega) w;rw[show ((p+q:Nat):Int)=(p:Int)+q by omega] at hmk;have H0:Hid (gI m n 0 (List.replicate (p+q) 0)):=by have:=tB m n;rw[<-HP.out,<-HQ.out] at this;exact this
 have HG0:=Hd (mM.made w (p+q));have HB0:=Hd ((Br w.heap.size w).alloc (Nl _) (.cells (jR (p+q)).toArray 144));go_enter func171,ntmps171;go_wp2;clear hmk;go_loopw [19] (fun i wr=>∃(k:Nat) (o:List Nat),k<=p/\i=.int .i64 (k:Int)/\Hid (gI m n k o)/\Hid (mM wr w.heap.size o)/\Hid (Below w.heap.size w wr)) (fun i _=>p-(intOf i).toNat)
 case atStart=>exact⟨0,_,Nat.zero_le _,rfl,H0,HG0,HB0⟩
 case round =>
  clear H0 HG0 HB0;obtain⟨k,o,hk,rfl,hT,hG,HB⟩:=hrel
  by_cases hkx:k<p
  ·have hkm:k<m.length:=by have:=HP.out;omega
   obtain⟨b,off,ha,hlt,hc⟩:=HR.out.1.cell HB.out hkm;subst ha;have hxlt:=bV HM.out k;have HX:=Hd (rfl:m.getD k 0=m.getD k 0);obtain⟨xg,hxg⟩:∃xg,xg=m.getD k 0:=⟨_,rfl⟩
   rw[<-hxg] at hc hxlt;have HXG:=Hd hxg;clear hxg HX;obtain⟨wo,hwo⟩:∃wo,wo=wr:=⟨_,rfl⟩
   subst hwo;go_wp2;clear hc;go_loopw [8,26] (fun cy i wr=>∃(j:Nat) (o':List Nat) (c:Nat),j<=q/\i=.int .i64 (j:Int)/\cy=.int .u64 (c:Int)/\c<1000000000/\Hid (rI m n k j o' c)/\Hid (mM wr w.heap.size o')/\Hid (Below w.heap.size w wr)) (fun _ i _=>q-(intOf i).toNat)
   case atStart=>exact⟨0,o,0,Nat.zero_le _,rfl,rfl,by decide,aZc hT.out,hG,HB⟩
   case round =>
    clear HB hG hT;obtain⟨j,o',c,hj,rfl,rfl,hc0,hT,hG,HB⟩:=hrel
    by_cases hjy:j<q
    ·have hjn:j<n.length:=by have:=HQ.out;omega
     obtain⟨b',off',ha',hlt',hc'⟩:=HR.out.2.cell HB.out hjn;subst ha';have hol:o'.length=p+q:=by rw[hT.out.1,HP.out,HQ.out]
     have hylt:=bV HN.out j;have hgo:=hG.out.cell (show k+j<o'.length by omega);have hglt:=bV hT.out.2.1 (k+j);have hfr:=hG.out.frozen (k+j);have HT':=Hd (tA hT.out hkm hjn HM.out HN.out);rw[<-HXG.out] at HT';have hmul:=pZ hc0 hglt hxlt hylt;generalize n.getD j 0=yg at *;generalize o'.getD (k+j) 0=g at *;obtain⟨xy,hxy⟩:∃xy,xy=xg*yg:=⟨_,rfl⟩
     have exy:(xg:Int)*(yg:Int)=(xy:Int):=by rw[hxy];simp
     rw[<-hxy] at hmul HT';clear hxy hylt hol;have hkq:(k:Int)+j<(p:Int)+q:=by omega
     have hne:b'≠w.heap.size:=by omega
     go_wp2;go_roundw
     case rel=>exact⟨j+1,_,(c+(g+xy))/1000000000,by omega,by go_num,by go_num,by omega,HT',hG.out.set (k+j) ((c+(g+xy))%1000000000) (by omega),HB.out.setCell (p:=⟨w.heap.size,k+j,none⟩) (Nl _) _⟩
     case measure=>simp[intOf];omega
    ·obtain rfl:j=q:=by omega
     have hol:o'.length=p+j:=by rw[hT.out.1,HP.out,HQ.out]
     by_cases hq0:j=0
     ·subst hq0;have HT2:Hid (gI m n (k+1) o'):=by
       have e:n=[]:=List.eq_nil_of_length_eq_zero HQ.out.symm;have h:=hT.out;show gI _ _ _ _;rw[e] at h ⊢;obtain⟨t1,t2,t3,t4,t5⟩:=h;have c0:aI o'+1000000000^(k+0)*c=0:=by rw[t4];simp[aI]
       exact⟨t1,t2,by simp[aI];omega,fun j hj=>t5 j (by simp at hj ⊢;omega)⟩
      go_wp2;go_roundw
      case rel=>exact⟨k+1,o',by omega,by go_num,HT2,hG,HB⟩
      case measure=>simp[intOf];omega
     ·have HT2:Hid (gI m n (k+1) (o'.set (k+j) (o'.getD (k+j) 0+c))):=by
       have h:=tC (m:=m) (n:=n) (by rw[<-HQ.out];exact hT.out) hkm (by rw[<-HQ.out];omega);rw[<-HQ.out] at h;exact h
      have hgo:=hG.out.cell (show k+j<o'.length by omega);have hglt:=bV hT.out.2.1 (k+j);have hfr:=hG.out.frozen (k+j);generalize o'.getD (k+j) 0=g at *;have hkq:(k:Int)+j<(p:Int)+j:=by omega
      have hj0:(0:Int)<(j:Int):=by omega
      go_wp2;go_roundw
      case rel=>exact⟨k+1,_,by omega,by go_num,HT2,hG.out.set (k+j) (g+c) (by omega),HB.out.setCell (p:=⟨w.heap.size,k+j,none⟩) (Nl _) _⟩
      case measure=>simp[intOf];omega
  ·obtain rfl:k=p:=by omega
   have hol:o.length=k+q:=by rw[hT.out.1,HP.out,HQ.out]
   have hcut:=uC o (some ⟨w.heap.size,0,none⟩) (k+q) wr (by omega) (by omega) hG.out.row;have hend:=vT (by rw[<-HP.out];exact hT.out);rw[<-HV.out] at hend;rw[hol,hend] at hcut;have HCUT:=Hd hcut;have HE:=Hd (And.intro hend hol);clear hcut hol hend;go_wp2_with (go_at_call 113;refine HCUT.out.mono ?_;rintro e w2 ⟨rfl,rfl⟩);go_ret;obtain⟨z,hz⟩:=pI o;have hl:=iW o;rw[HE.out.1] at hz hl;exact⟨w.heap.size,k+q,rfl,by rw[<-HE.out.2];exact hl,by omega,Nl _,⟨z,by rw[<-hz];exact hG.out,by rw[<-hz];exact HE.out.2.symm⟩,HB.out⟩
theorem yN(x d:Nat)(a:Option Addr)(cap:Nat)(w:World)(h1:(aC x).length<=1000000000000)(hd:0<d)(hd2:d<1000000000)
  (hr:dT w a (gs (aC x))) :
  Calls prog 240 #[.slice a (aC x).length cap,.int .u64 (d:Int)] w fun e w'=>∃b c,e=.returned (.tuple #[.slice (some ⟨b,0,none⟩) (aC (x/d)).length c,.int .u64 ((x%d:Nat):Int)])/\(aC (x/d)).length<=c/\w.heap.size<=b/\dT w' (some ⟨b,0,none⟩) (gs (aC (x/d)))/\Below w.heap.size w w':=by
 obtain⟨m,hm⟩:∃m,m=aC x:=⟨_,rfl⟩
 have HM:=Hd (show ∀g∈m,g<1000000000 by rw[hm];exact aO x);have HV:Hid (aI m=x):=by show _=_;rw[hm,aQ]
 rw[<-hm] at h1 hr ⊢;have HR:=Hd hr;clear hr hm;obtain⟨p,hp⟩:∃p,p=m.length:=⟨_,rfl⟩
 have HP:=Hd hp;rw[<-hp] at h1 ⊢;clear hp;have hmk:=qE p p (Nl _) (by omega) w;have H0:Hid (oV m d p (List.replicate p 0) 0):=by have:=yO m d hd;rw[<-HP.out] at this;exact this
 have HG0:=Hd (mM.made w p);have HB0:=Hd ((Br w.heap.size w).alloc (Nl _) (.cells (jR p).toArray 144));go_enter func240,ntmps240;go_wp2;clear hmk;go_loopw [7,8] (fun cr i wr=>∃(k:Nat) (o:List Nat) (r:Nat),k<=p/\i=.int .i64 ((k:Int)-1)/\cr=.int .u64 (r:Int)/\r<d/\Hid (oV m d k o r)/\Hid (mM wr w.heap.size o)/\Hid (Below w.heap.size w wr)) (fun _ i _=>(intOf i+1).toNat)
 case atStart=>exact⟨p,_,0,Nl _,rfl,rfl,hd,H0,HG0,HB0⟩
 case round =>
  clear H0 HG0 HB0;obtain⟨k,o,r,hk,rfl,rfl,hrd,hT,hG,HB⟩:=hrel;rcases Nat.eq_zero_or_pos k with rfl|hpos
  ·have hol:o.length=p:=by rw[hT.out.1,HP.out]
   have hcut:=uC o (some ⟨w.heap.size,0,none⟩) p wr (by omega) (by omega) hG.out.row;have hend:=Dk hT.out;rw[HV.out] at hend;rw[hol,hend.1] at hcut;have HCUT:=Hd hcut;have HE:=Hd (And.intro hend hol);clear hcut hol hend;go_wp2_with (go_at_call 113;refine HCUT.out.mono ?_;rintro e w2 ⟨rfl,rfl⟩);go_ret2;obtain⟨⟨e1,e2⟩,e3⟩:=HE.out;subst e2;refine⟨w.heap.size,p,rfl,?_,Nl _,?_,HB.out⟩
   ·rw[<-e1,<-e3];exact iW o
   ·rw[<-e1];exact tH hG.out.row
  ·obtain⟨j,rfl⟩:∃j,k=j+1:=⟨k-1,by omega⟩
   have hjm:j<m.length:=by have:=HP.out;omega
   obtain⟨b,off,ha,hlt,hc⟩:=HR.out.cell HB.out hjm;subst ha;have hglt:=bV HM.out j;have hfr:=hG.out.frozen j;have HT':=Hd (Bh hT.out hjm HM.out);have hol:o.length=p:=by rw[hT.out.1,HP.out]
   have hgo:=hG.out.cell (show j<o.length by omega);generalize m.getD j 0=g at *;generalize o.getD j 0=g0 at *;have hne:b≠w.heap.size:=by omega
   have hrb:r*1000000000+g<1000000000000000000:=by omega
   have hd0:(1:Int)<=(d:Int):=by omega
   clear hol;go_wp2;go_roundw
   case rel=>exact⟨j,_,(r*1000000000+g)%d,by omega,by go_num,by go_num,Nat.mod_lt _ hd,HT',hG.out.set j ((r*1000000000+g)/d) (by simp),HB.out.setCell (p:=⟨w.heap.size,j,none⟩) (Nl _) _⟩
   case measure=>simp[intOf]
end
section
open Go.RowKit Num
def fF(w:World)(B:Nat)(o:List Nat)(z:List Value):Prop:=w.heap[B]?=some (.cells (gs o++z).toArray 144 (0,0))
theorem mM.z{w:World}{B:Nat}{o:List Nat}(h:mM w B o):fF w B o []:=by unfold fF;rw[List.append_nil];exact h
theorem fF.lt{w:World}{B:Nat}{o:List Nat}{z:List Value}(h:fF w B o z):B<w.heap.size:=(Ai.1 h).1
theorem fF.cell{w:World}{B:Nat}{o:List Nat}{z:List Value}(h:fF w B o z){k:Nat}(hk:k<o.length):w.cell? ⟨B,k,none⟩=some (.int .u64 ((o.getD k 0:Nat):Int)):=by
 rw[aS h];have:=mW o k hk;rw[List.getElem?_toArray,List.getElem?_append_left (by rw[dB];exact hk)];exact this
theorem fF.frozen{w:World}{B:Nat}{o:List Nat}{z:List Value}(h:fF w B o z)(k:Nat):w.frozen? ⟨B,k,none⟩=false:=aR h k
theorem fF.set{w:World}{B:Nat}{o:List Nat}{z:List Value}(h:fF w B o z){k:Nat}(hk:k<o.length)(n:Nat){v:Int}(hv:v=n):fF (w.setCell ⟨B,k,none⟩ (.int .u64 v)) B (o.set k n) z:=by
 subst hv;unfold fF;rw[heap_setCell_same w B k _ _ _ h,Uo];congr 2;rw[List.setIfInBounds_toArray,List.set_append_left _ _ (by rw[dB];exact hk)]
theorem fF.below{w w':World}{B:Nat}{o:List Nat}{z:List Value}(h:fF w B o z)(hb:Below w.heap.size w w'):fF w' B o z:=(hb.block B h.lt).trans h
theorem fF.row{w:World}{B:Nat}{o:List Nat}{z:List Value}(h:fF w B o z):dT w (some ⟨B,0,none⟩) (gs o):=eC h
theorem fF.other{w:World}{B:Nat}{o:List Nat}{z:List Value}(h:fF w B o z){p:Addr}(hne:B≠p.block)(v:Value):fF (w.setCell p v) B o z:=(Below.heap_setCell w p v B hne).trans h
theorem Cz(x y:Nat)(a a':Option Addr)(cap cap':Nat)(w:World)(hxy:x<y)(h1:(aC x).length<=9223372036854775807)(h2:(aC y).length<=9223372036854775807)
  (hr:dT w a (gs (aC x))) (hr':dT w a' (gs (aC y))) :
  Calls prog 213 #[.slice a (aC x).length cap,.slice a' (aC y).length cap'] w fun e w'=>e=.returned (.tuple #[.slice none 0 0,.slice a (aC x).length cap])/\Below w.heap.size w w':=by
 have HC:=Hd (iX (aC x) (aC y) a a' cap cap' w h1 h2 (aO x) (aO y) hr hr');have hv:=(qS x y).1 hxy;generalize jQ (aC x) (aC y)=cv at *;clear hr hr';generalize(aC x).length=p at *;generalize(aC y).length=q at *;go_enter func213,ntmps213;go_wp2_with fail;refine HC.out.mono ?_;rintro e w1 ⟨rfl,n,rfl⟩;go_wp2;go_ret2;exact⟨rfl,aD (Br _ _) n⟩
theorem jK(d:Nat)(h0:0<d)(h:d<1000000000):aC d=[d]:=by
 rw[iA (by omega),Nat.mod_eq_of_lt h,Nat.div_eq_of_lt h,aT]
theorem Ah(x d:Nat)(a a':Option Addr)(cap cap':Nat)(w:World)(hd0:0<d)(hd:d<1000000000)(hxy:d<=x)(h1:(aC x).length<=1000000000000)
  (hr:dT w a (gs (aC x))) (hr':dT w a' (gs [d])) :
  Calls prog 213 #[.slice a (aC x).length cap,.slice a' 1 cap'] w fun e w'=>∃b b' c c',e=.returned (.tuple #[.slice b (aC (x/d)).length c,.slice b' (aC (x%d)).length c'])/\(aC (x/d)).length<=c/\(aC (x%d)).length<=c'/\eO w.heap.size b/\eO w.heap.size b'/\dT w' b (gs (aC (x/d)))/\dT w' b' (gs (aC (x%d)))/\Below w.heap.size w w':=by
 have hg:=jK d hd0 hd;have hcmp:=iX (aC x) (aC d) a a' cap cap' w (by omega) (by rw[hg];simp) (aO x) (aO d) hr (by rw[hg];exact hr');rw[hg] at hcmp;have HC:=Hd hcmp;have hv:¬ jQ (aC x) [d]<0:=by rw[<-hg,nO];omega
 obtain⟨b,off,ha,hlt,hc⟩:=hr'.addr (by simp[gs]);have hc0:=hc 0 (.int .u64 (d:Int)) (by simp[gs]);rw[Nat.add_zero] at hc0;subst ha;clear hr' hc hcmp;have HS:=Hd (fun W (hb:Below w.heap.size w W)=>yN x d a cap W h1 hd0 hd (hr.below hb));have HF:Hid (fQ [x%d]=aC (x%d)):=by
  show _=_;rw[rG (by simp;have:=Nat.mod_lt x hd0;omega)];simp[aI]
 have hcut:=fun B W (hR:dT W (some ⟨B,0,none⟩) (gs [x%d]))=>uC [x%d] (some ⟨B,0,none⟩) 1 W (by simp) (by simp) hR
 simp only[HF.out,List.length_singleton] at hcut;have HCUT:=Hd hcut;clear hcut hr;generalize jQ (aC x) [d]=cv at *;obtain⟨rm,hrm⟩:∃rm,rm=x%d:=⟨_,rfl⟩
 rw[<-hrm] at HF HCUT HS ⊢;have hqq:∃qq,qq=x/d:=⟨_,rfl⟩
 obtain⟨qq,hqq⟩:=hqq;rw[<-hqq] at HS ⊢;clear hqq hrm;generalize(aC x).length=p at *;go_enter func213,ntmps213;go_wp2_with fail;refine HC.out.mono ?_;rintro e w1 ⟨rfl,n,rfl⟩;have HB:=Hd (aD (Br w.heap.size w) n);have hc1:(w.drewN n).cell? ⟨b,off,none⟩=some (.int .u64 (d:Int)):=hc0;generalize w.drewN n=W at *;clear hc0;go_wp2_with fail;refine(HS.out W HB.out).mono ?_;rintro e w2 ⟨b2,c2,rfl,hle2,hb2,hr2,hbb⟩;have HR2:=Hd hr2;have HB2:=Hd (HB.out.trans (hbb.mono HB.out.size));have HS2:=Hd hbb.size;clear hr2 hbb hc1;go_wp2_with fail;refine(HCUT.out _ _ ?_).mono ?_
 ·exact eC (q:=[]) (heap_alloc_new w2 _)
 rintro e w3 ⟨rfl,rfl⟩;go_wp2;go_ret2;refine⟨some ⟨b2,0,none⟩,some ⟨w2.heap.size,0,none⟩,c2,1,rfl,hle2,?_,eO.of (by have:=HB.out.size;omega),eO.of HB2.out.size,HR2.out.below ((Br _ _).alloc (Nl _) _),?_,HB2.out.alloc HB2.out.size _⟩
 ·rw[<-HF.out];exact iW [rm]
 ·rw[<-HF.out];exact tH (eC (q:=[]) (heap_alloc_new w2 _))
end
end Go.Proofs.YtiloklnjjfaagaaGreatDoor
