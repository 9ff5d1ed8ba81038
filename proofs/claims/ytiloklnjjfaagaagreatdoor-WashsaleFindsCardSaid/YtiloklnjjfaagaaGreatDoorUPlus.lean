/- MagWalk Plus Minus -/
import Derived.Test.YtiloklnjjfaagaaGreatDoorUNum
import Derived.BigQuiet
import Derived.Laws.CopyOwn
set_option maxHeartbeats 16000000
set_option maxRecDepth 100000
namespace Go.Proofs.YtiloklnjjfaagaaGreatDoor
open Tryz
section
open Go.RowKit Num
def gs(m:List Nat):List Value:=m.map fun (g:Nat)=>Value.int .u64 (g:Int)
theorem dB(m:List Nat):(gs m).length=m.length:=by simp[gs]
theorem mW(m:List Nat)(k:Nat)(h:k<m.length):(gs m)[k]?=some (.int .u64 ((m.getD k 0:Nat):Int)):=by
 simp[gs,List.getElem?_map,Lg h,List.getD_eq_getElem?_getD]
theorem tT{m:List Nat}(h:m ≠ []):gs m ≠ []:=by simp[gs,h]
def lenOf:Value->Nat | .slice _ n _=>n|_=>0
theorem mN(m:List Nat)(k:Nat)(h:k<m.length):m.take (k+1)=m.take k ++ [m.getD k 0]:=by
 rw[List.take_succ_eq_append_getElem h,List.getD_eq_getElem?_getD,Lg h];rfl
theorem lI{m:List Nat}{k:Nat}(h:k<m.length):m.getD k 0∈m:=by
 rw[List.getD_eq_getElem?_getD,Lg h];exact List.getElem_mem h
theorem Ex(a:Option Addr)(cap:Nat)(w:World):
  Calls prog 113 #[.slice a 0 cap] w fun e w'=>e=.returned (.slice a 0 cap)/\w=w':=by
 go_enter func113,ntmps113;go_wp2;refine wp_loop_once ?_;go_wp2;go_ret;exact⟨rfl,rfl⟩
theorem Am(m:List Nat)(b off cap:Nat)(w:World)(hl:m.length<=cap)(h63:m.length<=9223372036854775807)(hc:∀k u,(gs m)[k]?=some u->w.cell? ⟨b,off+k,none⟩=some u):
  Calls prog 113 #[.slice (some ⟨b,off,none⟩) m.length cap] w fun e w'=>e=.returned (.slice (some ⟨b,off,none⟩) (fQ m).length cap)/\w=w':=by
 have HC:=Hd hc;obtain⟨n,hn⟩:∃n,n=m.length:=⟨_,rfl⟩
 have HN:=Hd hn;rw[<-hn] at hl h63 ⊢;clear hc hn;have HT:=Hd (show fQ (m.take n)=fQ m by rw[HN.out,List.take_length]);go_enter func113,ntmps113;go_wp2;go_loop [0] (fun v=>∃k:Nat,k<=n/\v=.slice (some ⟨b,off,none⟩) k cap/\Hid (fQ (m.take k)=fQ m)) (fun v=>lenOf v)
 case atStart=>exact⟨n,Nl _,rfl,HT⟩
 case round =>
  obtain⟨k,hk,rfl,hrel⟩:=hrel;clear HT;rcases Nat.eq_zero_or_pos k with rfl|hpos
  ·go_wp2;go_ret;exact⟨dW (by rw[<-hrel.out];simp[fQ]),rfl⟩
  ·obtain⟨j,rfl⟩:∃j,k=j+1:=⟨k-1,by omega⟩
   have hcell:=HC.out j _ (mW m j (by have:=HN.out;omega));have hs:=mN m j (by have:=HN.out;omega);generalize m.getD j 0=g at *;have HS:=Hd hs;clear hs
   by_cases hg:g=0
   ·subst hg;go_wp2;go_round
    case rel=>exact⟨j,by omega,rfl,by rw[<-hrel.out,HS.out,jP];exact rfl⟩
    case measure=>simp[lenOf]
   ·have hg':((g:Int)==0)=false:=by simp;omega
    go_wp2;go_ret;exact⟨dW (by rw[<-hrel.out,HS.out,iK _ _ hg,<-HS.out];simp;have:=HN.out;omega),rfl⟩
theorem uC(m:List Nat)(a:Option Addr)(cap:Nat)(w:World)(hl:m.length<=cap)(h63:m.length<=9223372036854775807)(hr:dT w a (gs m)):
  Calls prog 113 #[.slice a m.length cap] w fun e w'=>e=.returned (.slice a (fQ m).length cap)/\w=w':=by
 by_cases hm:m=[]
 ·subst hm;exact Ex a cap w
 ·obtain⟨b,off,rfl,hlt,hc⟩:=hr.addr (tT hm);exact Am m b off cap w hl h63 hc
theorem Il(m n:List Nat)(a a':Option Addr)(cap cap':Nat)(w:World)(h1:m.length<=9223372036854775807)(h2:n.length<=9223372036854775807)(hne:m.length≠n.length):
  Calls prog 58 #[.slice a m.length cap,.slice a' n.length cap'] w fun e w'=>e=.returned (.int .i64 (jQ m n))/\w=w':=by
 have hv:=Hd (Ap hne);have hb:((m.length:Int) != n.length)=true:=by simp;omega
 generalize m.length=x at *;generalize n.length=y at *;clear hne;go_enter func58,ntmps58;go_wp2;go_ret;exact⟨gG hv.out.symm,rfl⟩
theorem Ey(a a':Option Addr)(cap cap':Nat)(w:World):
  Calls prog 58 #[.slice a 0 cap,.slice a' 0 cap'] w fun e w'=>e=.returned (.int .i64 0)/\w=w':=by
 go_enter func58,ntmps58;go_wp2;refine wp_loop_once ?_;go_wp2;go_ret;exact⟨rfl,rfl⟩
theorem Ez(m n:List Nat)(b off b' off' cap cap':Nat)(w:World)(h1:m.length<=9223372036854775807)(he:n.length=m.length)(hm:∀g∈m,g<1000000000)(hn:∀g∈n,g<1000000000)
  (hc:∀k u,(gs m)[k]?=some u->w.cell? ⟨b,off+k,none⟩=some u) (hc':∀k u,(gs n)[k]?=some u->w.cell? ⟨b',off'+k,none⟩=some u) :
  Calls prog 58 #[.slice (some ⟨b,off,none⟩) m.length cap,.slice (some ⟨b',off',none⟩) n.length cap'] w fun e w'=>e=.returned (.int .i64 (jQ m n))/\∃q,w'=w.drewN q:=by
 have HC:=Hd hc;have HC':=Hd hc';have HM:=Hd (And.intro hm hn);obtain⟨x,hx⟩:∃x,x=m.length:=⟨_,rfl⟩
 have HE:=Hd he;have HX:=Hd hx;rw[he,<-hx];rw[<-hx] at h1;clear hc hc' hm hn he hx;go_enter func58,ntmps58;go_wp2;go_loopw [5] (fun i wr=>∃k:Nat,k<=x/\i=.int .i64 ((k:Int)-1)/\Hid (m.drop k=n.drop k)/\∃q,wr=w.drewN q) (fun i _=>(intOf i+1).toNat)
 case atStart=>exact⟨x,Nl _,rfl,by rw[List.drop_of_length_le (by rw[HX.out];exact Nl _),List.drop_of_length_le (by rw[HE.out,HX.out];exact Nl _)];exact rfl,0,rfl⟩
 case round =>
  obtain⟨k,hk,rfl,hd,q,rfl⟩:=hrel;rcases Nat.eq_zero_or_pos k with rfl|hpos
  ·go_wp2;go_ret;exact⟨gG (On HE.out.symm (by have:=hd.out;simp at this;rw[this])).symm,q,rfl⟩
  ·obtain⟨j,rfl⟩:∃j,k=j+1:=⟨k-1,by omega⟩
   have hcell:=HC.out j _ (mW m j (by have:=HX.out;omega));have hcell':=HC'.out j _ (mW n j (by have:=HX.out;have:=HE.out;omega));have hjm:j<m.length:=by have:=HX.out;omega
   have hjn:j<n.length:=by have:=HX.out;have:=HE.out;omega
   have t1:=Hd (fun h=>Sh (j:=j) HM.out.1 HE.out.symm hjm hd.out h);have t2:=Hd (fun h=>Sh (j:=j) HM.out.2 HE.out hjn hd.out.symm h);have t3:=Hd (fun (h:m.getD j 0=n.getD j 0)=>show m.drop j=n.drop j by
    rw[List.drop_eq_getElem_cons hjm,List.drop_eq_getElem_cons hjn,hd.out];rw[List.getD_eq_getElem?_getD,Lg hjm,List.getD_eq_getElem?_getD,Lg hjn] at h;rw[show m[j]=n[j] from h])
   generalize m.getD j 0=g at *;generalize n.getD j 0=g' at *;clear hd hjm hjn;rcases Nat.lt_trichotomy g g' with hg|hg|hg
   ·go_wp2;go_quiet (fail);go_wp2;go_ret;exact⟨gG (Ol HE.out.symm (t1.out hg)).symm,_,World.drewN_drewN _ _ _⟩
   ·subst hg;have t4:=Hd (t3.out rfl);clear t1 t2 t3;go_wp2;go_quiet (fail);go_wp2;go_quiet (fail);go_wp2;go_roundw
    case rel=>exact⟨j,by omega,by simp,t4,_,by first|exact rfl|(simp only[World.drewN_drewN];rfl)⟩
    case measure=>simp[intOf]
   ·have hg':¬ (g:Int)<g':=by omega
    go_wp2;go_quiet (fail);go_wp2;go_quiet (fail);go_wp2;go_ret;exact⟨gG (Om HE.out.symm (t2.out hg)).symm,_,by simp only[World.drewN_drewN];rfl⟩
theorem iX(m n:List Nat)(a a':Option Addr)(cap cap':Nat)(w:World)(h1:m.length<=9223372036854775807)(h2:n.length<=9223372036854775807)(hm:∀g∈m,g<1000000000)(hn:∀g∈n,g<1000000000)
  (hr:dT w a (gs m)) (hr':dT w a' (gs n)) :
  Calls prog 58 #[.slice a m.length cap,.slice a' n.length cap'] w fun e w'=>e=.returned (.int .i64 (jQ m n))/\∃q,w'=w.drewN q:=by
 by_cases hne:m.length=n.length
 ·by_cases hm0:m=[]
  ·subst hm0;obtain rfl:n=[]:=List.eq_nil_of_length_eq_zero hne.symm;exact(Ey a a' cap cap' w).mono fun e w' ⟨he,hw⟩=>⟨by rw[he];rfl,0,hw.symm⟩
  ·have hn0:n ≠ []:=by rintro rfl;exact hm0 (List.eq_nil_of_length_eq_zero hne)
   obtain⟨b,off,rfl,hlt,hc⟩:=hr.addr (tT hm0);obtain⟨b',off',rfl,hlt',hc'⟩:=hr'.addr (tT hn0);exact Ez m n b off b' off' cap cap' w h1 hne.symm hm hn hc hc'
 ·exact(Il m n a a' cap cap' w h1 h2 hne).mono fun e w' ⟨he,hw⟩=>⟨he,0,hw.symm⟩
end
section
open Go.RowKit Num
theorem pB:(prog.info? 144).map (fun i=>(i.zero,i.size,i.bytes))=some (some (.int .u64 0),1,8):=by kernel_rfl
theorem Nq:(prog.info? 144).map (·.size)=some 1:=by kernel_rfl
theorem lM(b off k:Nat):(⟨b,off,none⟩:Addr).add k=⟨b,off+k,none⟩:=by by_cases hk:k=0 <;> simp[Addr.add,hk]
theorem Ll(m:List Nat):∀v∈gs m,v.oneCell'=true:=by
 intro v hv;obtain⟨g,_,rfl⟩:=List.mem_map.1 hv;rfl
def jR(n:Nat):List Value:=List.replicate n (.int .u64 0)
theorem rS(z:Value)(n:Nat):madeCells #[z] n=(List.replicate n z).toArray:=by
 unfold madeCells;apply Array.ext
 ·simp
 ·intro i h1 h2;simp[Nat.mod_one]
theorem qE(x y:Nat)(hxy:x<=y)(hy:y<=1099511627776)(W:World):
  (Instr.makeSlice 95 (.int .i64 (x:Int)) (.int .i64 (y:Int))).run prog W=.ok (.slice (some ⟨W.heap.size,0,none⟩) x y) (W.alloc (.cells (jR y).toArray 144)):=by
 obtain⟨i0,hi,hz0,hz1,hz2⟩:=info_parts pB;have h:=run_make (P:=prog) (w:=W) 95 144 i0 (.int .u64 0) underlying95 hi hz0 .i64 .i64 x y (by omega) (by omega) (by rw[hz2];omega) (by omega);simp only[Int.toNat_natCast,hz1,Nat.mul_one] at h;rw[h];have e:madeCells (Value.int .u64 0).cells y=(jR y).toArray:=rS _ _;rw[e]
theorem gY(a b:List Nat):gs (a++b)=gs a++gs b:=by simp[gs]
theorem Xf{w:World}{B k:Nat}{T:TypeId}{p q:List Value}{u:Value}(v:Value)(h:w.heap[B]?=some (.cells (p++(u::q)).toArray T (0,0)))(hk:p.length=k):
  (w.setCell ⟨B,k,none⟩ v).heap[B]?=some (.cells (p++(v::q)).toArray T (0,0)):=by
 rw[heap_setCell_same w B k _ T v h];congr 2;subst hk;simp
theorem eC{w:World}{B:Nat}{T:TypeId}{p q:List Value}(h:w.heap[B]?=some (.cells (p++q).toArray T (0,0))):dT w (some ⟨B,0,none⟩) p:=by
 refine .inr ⟨B,0,rfl,(Ai.1 h).1,fun k u hu=>?_⟩;rw[Nat.zero_add,Lib.cell_of_heap h];have hk:k<p.length:=by
  rcases Nat.lt_or_ge k p.length with h|h
  ·exact h
  ·rw[List.getElem?_eq_none h] at hu;cases hu
 simp only[List.getElem?_toArray];rw[List.getElem?_append_left hk];exact hu
theorem eR{w:World}{B k:Nat}{T:TypeId}{o rest:List Nat}{g:Nat}{z:List Value}(h:w.heap[B]?=some (.cells (gs o++(gs (g::rest)++z)).toArray T (0,0)))(hk:o.length=k)(r:Nat){v:Int}(hv:v=r):
  (w.setCell ⟨B,k,none⟩ (.int .u64 v)).heap[B]?=some (.cells (gs o++(gs (r::rest)++z)).toArray T (0,0)):=by
 subst hv;exact Xf (p:=gs o) (q:=gs rest++z) (u:=.int .u64 (g:Int)) (.int .u64 (r:Int)) h (by rw[dB];exact hk)
theorem lK(o rest:List Nat)(r:Nat)(z:List Value):gs o++(gs (r::rest)++z)=gs (o ++ [r])++(gs rest++z):=by simp[gs]
theorem Py(m n:List Nat)(a a':Option Addr)(cap cap':Nat)(w:World)(hle:n.length<=m.length)(hlen:m.length<=1000000000000)(hm:∀g∈m,g<1000000000)(hn:∀g∈n,g<1000000000)
  (hr:dT w a (gs m)) (hr':dT w a' (gs n)) :
  Calls prog 111 #[.slice a m.length cap,.slice a' n.length cap'] w fun e w'=>∃b c,e=.returned (.slice (some ⟨b,0,none⟩) (rQ m n).length c)/\(rQ m n).length<=c/\w.heap.size<=b/\dT w' (some ⟨b,0,none⟩) (gs (rQ m n))/\Below w.heap.size w w':=by
 have HM:=Hd (And.intro hm hn);have HR:=Hd (And.intro hr hr');obtain⟨x,hx⟩:∃x,x=m.length:=⟨_,rfl⟩
 obtain⟨y,hy⟩:∃y,y=n.length:=⟨_,rfl⟩
 have HX:=Hd hx;have HY:=Hd hy;rw[<-hx] at hle hlen ⊢;rw[<-hy] at hle ⊢;clear hm hn hr hr' hx hy;have hlt:¬ x<y:=by omega
 have hmk:=fun W=>qE x (x+1) (by omega) (by omega) W
 rw[show ((x+1:Nat):Int)=(x:Int)+1 by omega] at hmk;go_enter func111,ntmps111;go_wp2_with (with_reducible refine wpList_copy_splice rfl (.tmp 21) (.tmp 22) 95 95 rfl 144 underlying95 Nq _ _ _ _ _ _ rfl rfl w.heap.size 0 (jR (x+1)) 144 ?h1 (gs m) ?h2 ?h3 ?h4 ?h5 w.heap.size w ?h6 ?h7 ?_)
 case h1=>exact heap_alloc_new w _
 case h2=>rw[dB,<-HX.out];simp
 case h3 =>
  intro hp;obtain⟨b,off,ha,hlt,hc⟩:=HR.out.1.addr (by intro e;rw[e] at hp;simp at hp);have hq:∃ad,a=some ad/\∀j v,(gs m)[j]?=some v->(w.alloc (.cells (jR (x+1)).toArray 144)).cell? (ad.add j)=some v:=by
   refine⟨⟨b,off,none⟩,ha,fun j v hj=>?_⟩;rw[lM];exact Lib.cell?_alloc_some _ (hc j v hj)
  first|exact⟨rfl,hq⟩|exact hq
 case h4=>rw[dB,<-HX.out];simp[jR]
 case h5=>exact Ll m
 case h6=>exact(Br _ _).alloc (Nl _) _
 case h7=>exact Nl _
 intro w1 hrow hb1;have hrow:Hid (w1.heap[w.heap.size]?=some (.cells (gs m ++ [Value.int .u64 0]).toArray 144 (0,0))):=by
  have:=hrow.out;rw[show splice (jR (x+1)) 0 (gs m)=gs m ++ [Value.int .u64 0] by
   unfold splice jR;rw[dB,<-HX.out,List.take_zero,List.nil_append,Nat.zero_add,List.drop_replicate,show x+1-x=1 by omega];rfl] at this
  exact this
 go_wp2;go_loopw [6,7,26] (fun cy _ i wr=>∃(k:Nat) (o:List Nat) (c:Nat),k<=x/\i=.int .i64 (k:Int)/\cy=.int .u64 (c:Int)/\c<=1/\Hid (vO m n k o c)/\Hid (wr.heap[w.heap.size]?=some (.cells (gs o++(gs (m.drop k) ++ [Value.int .u64 0])).toArray 144 (0,0)))/\Below w.heap.size w wr) (fun _ _ i _=>x-(intOf i).toNat)
 case atStart=>exact⟨0,[],0,Nat.zero_le _,rfl,rfl,by decide,vY m n,hrow,hb1⟩
 case round =>
  obtain⟨k,o,c,hk,rfl,rfl,hc1,hp,hcell0,hbr⟩:=hrel
  by_cases hkx:k<x
  ·have hkm:k<m.length:=by have:=HX.out;omega
   have hp':=Hd (vZ hp.out hkm HM.out.1 HM.out.2);have hol:o.length=k:=hp.out.1;have hgm:=HM.out.1 _ (lI hkm);have hdr:=dI m k hkm;have hcur:=hcell0.out;rw[hdr] at hcur;generalize m.getD k 0=g at *;have HOL:=Hd hol;have hz:=hbr.size;have hpos:w.heap.size<wr.heap.size:=(Ai.1 hcur).1;have hck:wr.cell? ⟨w.heap.size,k,none⟩=some (.int .u64 (g:Int)):=by
    rw[Lib.cell_of_heap hcur,<-HOL.out];simp[gs]
   have hfk:wr.frozen? ⟨w.heap.size,k,none⟩=false:=Lib.frozen_of_heap hcur k;have HCUR:=Hd hcur;clear hcur hdr hol hcell0
   by_cases hky:k<y
   ·have hkn:k<n.length:=by have:=HY.out;omega
    have hgn:=HM.out.2 _ (lI hkn);obtain⟨b',off',ha',hlt',hc'⟩:=HR.out.2.addr (by intro e;have:=congrArg List.length e;rw[dB] at this;simp at this;rw[this] at hkn;simp at hkn);have hcn:=hc' k _ (mW n k hkn);have hcn2:wr.cell? ⟨b',off'+k,none⟩=some (.int .u64 ((n.getD k 0:Nat):Int)):=(hbr.cell (p:=⟨b',off'+k,none⟩) hlt').trans hcn;have hne:b'≠w.heap.size:=by omega
    generalize n.getD k 0=g' at *;subst ha';clear hc' hcn;go_wp2;go_region;go_wp2;refine⟨⟨k+1,o ++ [(g+g'+c)%1000000000],(g+g'+c)/1000000000,by omega,by go_num,by go_num,by omega,hp',?_,?_⟩,by simp[intOf];omega⟩
    ·have h1:=eR HCUR.out HOL.out (g+c) (v:=(g:Int)+c) (by omega);have h2:=eR h1 HOL.out (g+g'+c) (v:=(g:Int)+c+g') (by omega);have h3:=eR h2 HOL.out ((g+g'+c)%1000000000) (v:=((g:Int)+c+g')%1000000000) (by omega);rw[lK] at h3;exact h3
    ·exact(((hbr.setCell (p:=⟨w.heap.size,k,none⟩) (Nl _) _).setCell (p:=⟨w.heap.size,k,none⟩) (Nl _) _).setCell (p:=⟨w.heap.size,k,none⟩) (Nl _) _).drew
   ·have e0:n.getD k 0=0:=by rw[List.getD_eq_getElem?_getD,List.getElem?_eq_none (by have:=HY.out;omega)];rfl
    rw[e0] at hp';clear e0;go_wp2;refine⟨⟨k+1,o ++ [(g+0+c)%1000000000],(g+0+c)/1000000000,by omega,by go_num,by go_num,by omega,hp',?_,?_⟩,by simp[intOf];omega⟩
    ·have h1:=eR HCUR.out HOL.out (g+c) (v:=(g:Int)+c) (by omega);have h3:=eR h1 HOL.out ((g+0+c)%1000000000) (v:=((g:Int)+c)%1000000000) (by omega);rw[lK] at h3;exact h3
    ·exact(hbr.setCell (p:=⟨w.heap.size,k,none⟩) (Nl _) _).setCell (p:=⟨w.heap.size,k,none⟩) (Nl _) _
  ·obtain rfl:k=x:=by omega
   have hfin:=hp.out;rw[HX.out] at hfin;have hg:=zB hfin;have hol:o.length=k:=hp.out.1;have hcur:=hcell0.out;rw[List.drop_eq_nil_of_le (by rw[HX.out];exact Nl _)] at hcur
   by_cases hc0:c=0
   ·subst hc0;rw[if_pos rfl] at hg;have HF:=Hd (And.intro hg (And.intro hol hcur));clear hg hol hcur hfin hp hcell0;go_wp2;go_ret;obtain⟨h1,h2,h3⟩:=HF.out;refine⟨w.heap.size,k+1,dW (by rw[h1,h2];rfl),by rw[h1,h2];omega,Nl _,?_,hbr⟩;rw[h1];exact eC h3
   ·rw[if_neg hc0] at hg;have hown:wr.ownsRow w.heap.size 144 1 (.slice (some ⟨w.heap.size,0,none⟩) k (k+1)) k (gs o):=by
     refine⟨by rw[dB,hol,Nat.mul_one],.inr ⟨w.heap.size,k+1,_,rfl,Nl _,hcur,by omega,by unfold maxLen;omega,by simp[gs,hol],?_⟩⟩;simp only[Nat.mul_one];rw[show k=(gs o).length by rw[dB,hol],List.take_left'];rfl
    have HOWN:=Hd hown;have HF:=Hd (And.intro hg hol);have hc2:(c:Int)≠0:=by omega
    have hc3:0<(c:Int):=by omega
    have hz:=hbr.size;clear hg hol hcur hfin hp hcell0 hown;obtain⟨i0,hi,hz0,hz1,hz2⟩:=info_parts pB;go_wp2_with (at_builtin;refine wpList_append_own _ rfl _ _ 95 rfl w.heap.size 144 i0 (.int .u64 0) 1 8 underlying95 hi hz0 hz1 hz2 rfl (by decide) _ _ _ rfl (HOWN.out.alloc _) ⟨wr.heap.size,0,none⟩ 1 1 [.int .u64 (c:Int)] rfl rfl ?c1 ?c2 ?c3 ?c4 ?c5 ?_)
    case c1 =>
     intro j u hj
     match j,hj with
     |0,hj=>simp at hj;subst hj;simp[Addr.add]
    case c2=>intro u hu;simp at hu;subst hu;rfl
    case c3=>unfold maxLen;omega
    case c4=>omega
    case c5=>simp;omega
    intro v' w2 hown' hgrow _;obtain⟨g2,cap2,rfl,hg2,hg3⟩:∃g2 cap2,v'=.slice (some ⟨g2,0,none⟩) (k+1) cap2/\k+1<=cap2/\w.heap.size<=g2:=by
     rcases hown'.2 with⟨_,h0⟩|⟨g,cap,cur,hv,hbg,_,hle,_⟩
     ·omega
     ·exact⟨g,cap,hv,hle,hbg⟩
    have HO:=Hd hown';clear hown';go_wp2;go_ret;obtain⟨h1,h2⟩:=HF.out;obtain⟨a2,cap3,e3,hr3⟩:=gK HO.out;obtain rfl:some ⟨g2,0,none⟩=a2:=by injection e3
    refine⟨g2,cap2,dW (by rw[h1];simp[h2]),by rw[h1];simp[h2];omega,hg3,by rw[h1,gY];exact hr3,?_⟩;exact(hbr.alloc hz _).grown hgrow (by simp;omega) (fun q hq=>by simp[Value.ownBlock] at hq;omega)
theorem Kk(m n:List Nat)(a a':Option Addr)(cap cap':Nat)(w:World)(hle:m.length<n.length)(hlen:n.length<=1000000000000)(hm:∀g∈m,g<1000000000)(hn:∀g∈n,g<1000000000)
  (hr:dT w a (gs m)) (hr':dT w a' (gs n)) :
  Calls prog 111 #[.slice a m.length cap,.slice a' n.length cap'] w fun e w'=>∃b c,e=.returned (.slice (some ⟨b,0,none⟩) (rQ n m).length c)/\(rQ n m).length<=c/\w.heap.size<=b/\dT w' (some ⟨b,0,none⟩) (gs (rQ n m))/\Below w.heap.size w w':=by
 have HM:=Hd (And.intro hn hm);have HR:=Hd (And.intro hr' hr);obtain⟨x,hx⟩:∃x,x=n.length:=⟨_,rfl⟩
 obtain⟨y,hy⟩:∃y,y=m.length:=⟨_,rfl⟩
 have HX:=Hd hx;have HY:=Hd hy;rw[<-hx] at hle hlen ⊢;rw[<-hy] at hle ⊢;clear hm hn hr hr' hx hy;have hlt:y<x:=by omega
 have hmk:=fun W=>qE x (x+1) (by omega) (by omega) W
 rw[show ((x+1:Nat):Int)=(x:Int)+1 by omega] at hmk;go_enter func111,ntmps111;go_wp2_with (with_reducible refine wpList_copy_splice rfl (.tmp 21) (.tmp 22) 95 95 rfl 144 underlying95 Nq _ _ _ _ _ _ rfl rfl w.heap.size 0 (jR (x+1)) 144 ?h1 (gs n) ?h2 ?h3 ?h4 ?h5 w.heap.size w ?h6 ?h7 ?_)
 case h1=>exact heap_alloc_new w _
 case h2=>rw[dB,<-HX.out];simp
 case h3 =>
  intro hp;obtain⟨b,off,ha,hlt,hc⟩:=HR.out.1.addr (by intro e;rw[e] at hp;simp at hp);have hq:∃ad,a'=some ad/\∀j v,(gs n)[j]?=some v->(w.alloc (.cells (jR (x+1)).toArray 144)).cell? (ad.add j)=some v:=by
   refine⟨⟨b,off,none⟩,ha,fun j v hj=>?_⟩;rw[lM];exact Lib.cell?_alloc_some _ (hc j v hj)
  first|exact⟨rfl,hq⟩|exact hq
 case h4=>rw[dB,<-HX.out];simp[jR]
 case h5=>exact Ll n
 case h6=>exact(Br _ _).alloc (Nl _) _
 case h7=>exact Nl _
 intro w1 hrow hb1;have hrow:Hid (w1.heap[w.heap.size]?=some (.cells (gs n ++ [Value.int .u64 0]).toArray 144 (0,0))):=by
  have:=hrow.out;rw[show splice (jR (x+1)) 0 (gs n)=gs n ++ [Value.int .u64 0] by
   unfold splice jR;rw[dB,<-HX.out,List.take_zero,List.nil_append,Nat.zero_add,List.drop_replicate,show x+1-x=1 by omega];rfl] at this
  exact this
 go_wp2;go_loopw [6,7,26] (fun cy _ i wr=>∃(k:Nat) (o:List Nat) (c:Nat),k<=x/\i=.int .i64 (k:Int)/\cy=.int .u64 (c:Int)/\c<=1/\Hid (vO n m k o c)/\Hid (wr.heap[w.heap.size]?=some (.cells (gs o++(gs (n.drop k) ++ [Value.int .u64 0])).toArray 144 (0,0)))/\Below w.heap.size w wr) (fun _ _ i _=>x-(intOf i).toNat)
 case atStart=>exact⟨0,[],0,Nat.zero_le _,rfl,rfl,by decide,vY n m,hrow,hb1⟩
 case round =>
  obtain⟨k,o,c,hk,rfl,rfl,hc1,hp,hcell0,hbr⟩:=hrel
  by_cases hkx:k<x
  ·have hkm:k<n.length:=by have:=HX.out;omega
   have hp':=Hd (vZ hp.out hkm HM.out.1 HM.out.2);have hol:o.length=k:=hp.out.1;have hgm:=HM.out.1 _ (lI hkm);have hdr:=dI n k hkm;have hcur:=hcell0.out;rw[hdr] at hcur;generalize n.getD k 0=g at *;have HOL:=Hd hol;have hz:=hbr.size;have hpos:w.heap.size<wr.heap.size:=(Ai.1 hcur).1;have hck:wr.cell? ⟨w.heap.size,k,none⟩=some (.int .u64 (g:Int)):=by
    rw[Lib.cell_of_heap hcur,<-HOL.out];simp[gs]
   have hfk:wr.frozen? ⟨w.heap.size,k,none⟩=false:=Lib.frozen_of_heap hcur k;have HCUR:=Hd hcur;clear hcur hdr hol hcell0
   by_cases hky:k<y
   ·have hkn:k<m.length:=by have:=HY.out;omega
    have hgn:=HM.out.2 _ (lI hkn);obtain⟨b',off',ha',hlt',hc'⟩:=HR.out.2.addr (by intro e;have:=congrArg List.length e;rw[dB] at this;simp at this;rw[this] at hkn;simp at hkn);have hcn:=hc' k _ (mW m k hkn);have hcn2:wr.cell? ⟨b',off'+k,none⟩=some (.int .u64 ((m.getD k 0:Nat):Int)):=(hbr.cell (p:=⟨b',off'+k,none⟩) hlt').trans hcn;have hne:b'≠w.heap.size:=by omega
    generalize m.getD k 0=g' at *;subst ha';clear hc' hcn;go_wp2;go_region;go_wp2;refine⟨⟨k+1,o ++ [(g+g'+c)%1000000000],(g+g'+c)/1000000000,by omega,by go_num,by go_num,by omega,hp',?_,?_⟩,by simp[intOf];omega⟩
    ·have h1:=eR HCUR.out HOL.out (g+c) (v:=(g:Int)+c) (by omega);have h2:=eR h1 HOL.out (g+g'+c) (v:=(g:Int)+c+g') (by omega);have h3:=eR h2 HOL.out ((g+g'+c)%1000000000) (v:=((g:Int)+c+g')%1000000000) (by omega);rw[lK] at h3;exact h3
    ·exact(((hbr.setCell (p:=⟨w.heap.size,k,none⟩) (Nl _) _).setCell (p:=⟨w.heap.size,k,none⟩) (Nl _) _).setCell (p:=⟨w.heap.size,k,none⟩) (Nl _) _).drew
   ·have e0:m.getD k 0=0:=by rw[List.getD_eq_getElem?_getD,List.getElem?_eq_none (by have:=HY.out;omega)];rfl
    rw[e0] at hp';clear e0;go_wp2;refine⟨⟨k+1,o ++ [(g+0+c)%1000000000],(g+0+c)/1000000000,by omega,by go_num,by go_num,by omega,hp',?_,?_⟩,by simp[intOf];omega⟩
    ·have h1:=eR HCUR.out HOL.out (g+c) (v:=(g:Int)+c) (by omega);have h3:=eR h1 HOL.out ((g+0+c)%1000000000) (v:=((g:Int)+c)%1000000000) (by omega);rw[lK] at h3;exact h3
    ·exact(hbr.setCell (p:=⟨w.heap.size,k,none⟩) (Nl _) _).setCell (p:=⟨w.heap.size,k,none⟩) (Nl _) _
  ·obtain rfl:k=x:=by omega
   have hfin:=hp.out;rw[HX.out] at hfin;have hg:=zB hfin;have hol:o.length=k:=hp.out.1;have hcur:=hcell0.out;rw[List.drop_eq_nil_of_le (by rw[HX.out];exact Nl _)] at hcur
   by_cases hc0:c=0
   ·subst hc0;rw[if_pos rfl] at hg;have HF:=Hd (And.intro hg (And.intro hol hcur));clear hg hol hcur hfin hp hcell0;go_wp2;go_ret;obtain⟨h1,h2,h3⟩:=HF.out;refine⟨w.heap.size,k+1,dW (by rw[h1,h2];rfl),by rw[h1,h2];omega,Nl _,?_,hbr⟩;rw[h1];exact eC h3
   ·rw[if_neg hc0] at hg;have hown:wr.ownsRow w.heap.size 144 1 (.slice (some ⟨w.heap.size,0,none⟩) k (k+1)) k (gs o):=by
     refine⟨by rw[dB,hol,Nat.mul_one],.inr ⟨w.heap.size,k+1,_,rfl,Nl _,hcur,by omega,by unfold maxLen;omega,by simp[gs,hol],?_⟩⟩;simp only[Nat.mul_one];rw[show k=(gs o).length by rw[dB,hol],List.take_left'];rfl
    have HOWN:=Hd hown;have HF:=Hd (And.intro hg hol);have hc2:(c:Int)≠0:=by omega
    have hc3:0<(c:Int):=by omega
    have hz:=hbr.size;clear hg hol hcur hfin hp hcell0 hown;obtain⟨i0,hi,hz0,hz1,hz2⟩:=info_parts pB;go_wp2_with (at_builtin;refine wpList_append_own _ rfl _ _ 95 rfl w.heap.size 144 i0 (.int .u64 0) 1 8 underlying95 hi hz0 hz1 hz2 rfl (by decide) _ _ _ rfl (HOWN.out.alloc _) ⟨wr.heap.size,0,none⟩ 1 1 [.int .u64 (c:Int)] rfl rfl ?c1 ?c2 ?c3 ?c4 ?c5 ?_)
    case c1 =>
     intro j u hj
     match j,hj with
     |0,hj=>simp at hj;subst hj;simp[Addr.add]
    case c2=>intro u hu;simp at hu;subst hu;rfl
    case c3=>unfold maxLen;omega
    case c4=>omega
    case c5=>simp;omega
    intro v' w2 hown' hgrow _;obtain⟨g2,cap2,rfl,hg2,hg3⟩:∃g2 cap2,v'=.slice (some ⟨g2,0,none⟩) (k+1) cap2/\k+1<=cap2/\w.heap.size<=g2:=by
     rcases hown'.2 with⟨_,h0⟩|⟨g,cap',cur,hv,hbg,_,hle,_⟩
     ·omega
     ·exact⟨g,cap',hv,hle,hbg⟩
    have HO:=Hd hown';clear hown';go_wp2;go_ret;obtain⟨h1,h2⟩:=HF.out;obtain⟨a2,cap3,e3,hr3⟩:=gK HO.out;obtain rfl:some ⟨g2,0,none⟩=a2:=by injection e3
    refine⟨g2,cap2,dW (by rw[h1];simp[h2]),by rw[h1];simp[h2];omega,hg3,by rw[h1,gY];exact hr3,?_⟩;exact(hbr.alloc hz _).grown hgrow (by simp;omega) (fun q hq=>by simp[Value.ownBlock] at hq;omega)
theorem Tp(x y:Nat)(a a':Option Addr)(cap cap':Nat)(w:World)(h1:(aC x).length<=1000000000000)(h2:(aC y).length<=1000000000000)
  (hr:dT w a (gs (aC x))) (hr':dT w a' (gs (aC y))) :
  Calls prog 111 #[.slice a (aC x).length cap,.slice a' (aC y).length cap'] w fun e w'=>∃b c,e=.returned (.slice (some ⟨b,0,none⟩) (aC (x+y)).length c)/\(aC (x+y)).length<=c/\w.heap.size<=b/\dT w' (some ⟨b,0,none⟩) (gs (aC (x+y)))/\Below w.heap.size w w':=by
 by_cases h:(aC y).length<=(aC x).length
 ·have:=Py (aC x) (aC y) a a' cap cap' w h h1 (aO x) (aO y) hr hr'
  rwa [Gk (dJ x) (dJ y) h,aQ,aQ] at this
 ·have:=Kk (aC x) (aC y) a a' cap cap' w (by omega) h2 (aO x) (aO y) hr hr'
  rwa [Gk (dJ y) (dJ x) (by omega),aQ,aQ,Nat.add_comm] at this
end
section
open Go.RowKit Num
theorem Rl(m:List Nat)(b off cap:Nat)(w:World)(hm:m ≠ [])(hlen:m.length<=1000000000000)(hc:∀k u,(gs m)[k]?=some u->w.cell? ⟨b,off+k,none⟩=some u):
  Calls prog 159 #[.slice (some ⟨b,off,none⟩) m.length cap] w fun e w'=>∃v,e=.returned v/\w'.ownsRow w.heap.size 144 1 v m.length (gs m)/\Below w.heap.size w w':=by
 obtain⟨i0,hi,hz0,hz1,hz2⟩:=info_parts pB;have HC:=Hd hc;have HM:=Hd hm;obtain⟨x,hx⟩:∃x,x=m.length:=⟨_,rfl⟩
 have HX:=Hd hx;rw[<-hx] at hlen ⊢;clear hc hm hx;have hnil:=fun W=>Lib.run_eql_slice_nil (P:=prog) W 95 144 (some ⟨b,off,none⟩) x cap 0 0 underlying95
 go_enter func159,ntmps159;have hown0:∀W:World,w.heap.size<=W.heap.size->(W.alloc (.cells #[] 144)).ownsRow w.heap.size 144 1 (.slice (some ⟨W.heap.size,0,none⟩) 0 0) 0 []:=fun W hW=>World.ownsRow_made W #[] 0 hW (by decide) (by simp)
 have HO:=Hd hown0;clear hown0;go_wp2_with (at_builtin;refine wpList_append_own _ rfl _ _ 95 rfl w.heap.size 144 i0 (.int .u64 0) 1 8 underlying95 hi hz0 hz1 hz2 rfl (by decide) _ _ _ rfl (HO.out w (Nl _)) ⟨b,off,none⟩ x cap (gs m) rfl ?c0 ?c1 ?c2 ?c3 ?c4 ?c5 ?_)
 case c0=>rw[dB,<-HX.out,Nat.mul_one]
 case c1=>intro j u hj;rw[lM];exact Lib.cell?_alloc_some _ (HC.out j u hj)
 case c2=>exact Ll m
 case c3=>unfold maxLen;omega
 case c4=>omega
 case c5=>simp
 intro v' w2 hown' hgrow _;have H1:=Hd hown';clear hown';go_wp2;go_ret;refine⟨v',rfl,?_,?_⟩
 ·exact H1.out
 ·exact((Br _ _).alloc (Nl _) _).grown hgrow (by simp) (fun q hq=>by simp[Value.ownBlock] at hq;omega)
theorem pI(m:List Nat):∃z,m=fQ m++z:=by
 generalize hk:m.length=k
 induction k generalizing m with
 |zero=>exact⟨[],by rw[List.eq_nil_of_length_eq_zero hk];rfl⟩
 |succ k ih =>
  obtain⟨r,c,rfl⟩:∃r c,m=r ++ [c]:=rB (by intro h;rw[h] at hk;simp at hk)
  by_cases hc:c=0
  ·subst hc;rw[jP];obtain⟨z,hz⟩:=ih r (by simp at hk;omega);exact⟨z ++ [0],by rw[<-List.append_assoc,<-hz]⟩
  ·rw[iK _ _ hc];exact⟨[],by simp⟩
theorem iW(m:List Nat):(fQ m).length<=m.length:=by
 obtain⟨z,hz⟩:=pI m;have:=congrArg List.length hz;rw[List.length_append] at this;omega
theorem tH{w:World}{a:Option Addr}{m:List Nat}(h:dT w a (gs m)):dT w a (gs (fQ m)):=by
 obtain⟨z,hz⟩:=pI m;rw[hz,gY] at h;exact h.take
theorem Kt(m n:List Nat)(b off cap:Nat)(a':Option Addr)(cap':Nat)(w:World)(hm0:m ≠ [])(hle:n.length<=m.length)(hlen:m.length<=1000000000000)(hm:∀g∈m,g<1000000000)(hn:∀g∈n,g<1000000000)
  (hc:∀k u,(gs m)[k]?=some u->w.cell? ⟨b,off+k,none⟩=some u) (hr':dT w a' (gs n)) :
  Calls prog 112 #[.slice (some ⟨b,off,none⟩) m.length cap,.slice a' n.length cap'] w fun e w'=>∃a c,e=.returned (.slice a (fQ (dS m n 0).1).length c)/\(fQ (dS m n 0).1).length<=c/\eO w.heap.size a/\dT w' a (gs (fQ (dS m n 0).1))/\Below w.heap.size w w':=by
 have HCL:=Hd (Rl m b off cap w hm0 hlen hc);have HM:=Hd (And.intro hm hn);have HR:=Hd hr';obtain⟨x,hx⟩:∃x,x=m.length:=⟨_,rfl⟩
 obtain⟨y,hy⟩:∃y,y=n.length:=⟨_,rfl⟩
 have HX:=Hd hx;have HY:=Hd hy;have hx0:0<x:=by rw[hx];exact List.length_pos_iff.2 hm0
 rw[<-hx] at hle hlen HCL ⊢;rw[<-hy] at hle ⊢;clear hm hn hr' hx hy hc hm0;go_enter func112,ntmps112;go_wp2_with (go_at_call 159;refine HCL.out.mono ?_);rintro e w1 ⟨v,rfl,hown,hb1⟩;obtain⟨g0,cp,cur,rfl,hB,hg0,hcp,hcp2,hcs,htk⟩:∃g0 cp cur,v=.slice (some ⟨g0,0,none⟩) x cp/\w.heap.size<=g0/\w1.heap[g0]?=some (.cells cur 144 (0,0))/\x<=cp/\cp<=maxLen/\cur.size=cp*1/\cur.toList.take (x*1)=gs m:=by
  rcases hown.2 with⟨_,h0⟩|⟨g,cap,cur,hv,h1,h2,h3,h4,h5,h6⟩
  ·omega
  ·exact⟨g,cap,cur,hv,h1,h2,h3,h4,h5,h6⟩
 have hrow:Hid (∃z,w1.heap[g0]?=some (.cells (gs m++z).toArray 144 (0,0))):=by
  refine⟨cur.toList.drop x,?_⟩;rw[<-htk,Nat.mul_one,List.take_append_drop];exact hg0
 clear hown hg0 hcs htk;obtain⟨z,hrow⟩:=hrow;have HROW:=Hd hrow;clear hrow;unfold maxLen at hcp2;go_wp2;go_loopw [6,7,8,13] (fun cy _ _ i wr=>∃(k:Nat) (o:List Nat) (c:Nat),k<=x/\i=.int .i64 (k:Int)/\cy=.int .u64 (c:Int)/\c<=1/\Hid (pP m n k o c)/\Hid (wr.heap[g0]?=some (.cells (gs o++(gs (m.drop k)++z)).toArray 144 (0,0)))/\Below w.heap.size w wr) (fun _ _ _ i _=>x-(intOf i).toNat)
 case atStart=>exact⟨0,[],0,Nat.zero_le _,rfl,rfl,by decide,Ds m n,HROW,hb1⟩
 case round =>
  obtain⟨k,o,c,hk,rfl,rfl,hc1,hp,hcell0,hbr⟩:=hrel
  by_cases hkx:k<x
  ·have hkm:k<m.length:=by have:=HX.out;omega
   have hp1:=Hd (fun h=>Kw hp.out hkm h);have hp2:=Hd (fun h=>Kx hp.out hkm h);have hol:o.length=k:=hp.out.1;have hgm:=HM.out.1 _ (lI hkm);have hdr:=dI m k hkm;have hcur:=hcell0.out;rw[hdr] at hcur;generalize m.getD k 0=g at *;have HOL:=Hd hol;have hz:=hbr.size;have hpos:g0<wr.heap.size:=(Ai.1 hcur).1;have hck:wr.cell? ⟨g0,k,none⟩=some (.int .u64 (g:Int)):=by
    rw[Lib.cell_of_heap hcur,<-HOL.out];simp[gs]
   have hfk:wr.frozen? ⟨g0,k,none⟩=false:=Lib.frozen_of_heap hcur k;have HCUR:=Hd hcur;clear hcur hdr hol hcell0
   by_cases hky:k<y
   ·have hkn:k<n.length:=by have:=HY.out;omega
    have hgn:=HM.out.2 _ (lI hkn);obtain⟨b',off',ha',hlt',hc'⟩:=HR.out.addr (by intro e;have:=congrArg List.length e;rw[dB] at this;simp at this;rw[this] at hkn;simp at hkn);have hcn:=hc' k _ (mW n k hkn);have hcn2:wr.cell? ⟨b',off'+k,none⟩=some (.int .u64 ((n.getD k 0:Nat):Int)):=(hbr.cell (p:=⟨b',off'+k,none⟩) hlt').trans hcn;generalize n.getD k 0=g' at *;subst ha';clear hc' hcn
    by_cases hgl:g<c+g'
    ·have hpp:=Hd (hp1.out hgl);clear hp1 hp2;go_wp2;refine⟨⟨k+1,o ++ [g+1000000000-(c+g')],1,by omega,by go_num,rfl,by decide,hpp,?_,?_⟩,by simp[intOf];omega⟩
     ·have h1:=eR HCUR.out HOL.out (g+1000000000) (v:=(g:Int)+1000000000) (by omega);have h2:=eR h1 HOL.out (g+1000000000-(c+g')) (v:=(g:Int)+1000000000-(c+g')) (by omega);rw[lK] at h2;exact h2
     ·exact(hbr.setCell (p:=⟨g0,k,none⟩) hB _).setCell (p:=⟨g0,k,none⟩) hB _
    ·have hpp:=Hd (hp2.out hgl);clear hp1 hp2;go_wp2;refine⟨⟨k+1,o ++ [g-(c+g')],0,by omega,by go_num,rfl,by decide,hpp,?_,?_⟩,by simp[intOf];omega⟩
     ·have h2:=eR HCUR.out HOL.out (g-(c+g')) (v:=(g:Int)-(c+g')) (by omega);rw[lK] at h2;exact h2
     ·exact hbr.setCell (p:=⟨g0,k,none⟩) hB _
   ·have e0:n.getD k 0=0:=by rw[List.getD_eq_getElem?_getD,List.getElem?_eq_none (by have:=HY.out;omega)];rfl
    rw[e0] at hp1 hp2;clear e0
    by_cases hgl:g<c+0
    ·have hpp:=Hd (hp1.out hgl);clear hp1 hp2;go_wp2;refine⟨⟨k+1,o ++ [g+1000000000-(c+0)],1,by omega,by go_num,rfl,by decide,hpp,?_,?_⟩,by simp[intOf];omega⟩
     ·have h1:=eR HCUR.out HOL.out (g+1000000000) (v:=(g:Int)+1000000000) (by omega);have h2:=eR h1 HOL.out (g+1000000000-(c+0)) (v:=(g:Int)+1000000000-c) (by omega);rw[lK] at h2;exact h2
     ·exact(hbr.setCell (p:=⟨g0,k,none⟩) hB _).setCell (p:=⟨g0,k,none⟩) hB _
    ·have hpp:=Hd (hp2.out hgl);clear hp1 hp2;go_wp2;refine⟨⟨k+1,o ++ [g-(c+0)],0,by omega,by go_num,rfl,by decide,hpp,?_,?_⟩,by simp[intOf];omega⟩
     ·have h2:=eR HCUR.out HOL.out (g-(c+0)) (v:=(g:Int)-c) (by omega);rw[lK] at h2;exact h2
     ·exact hbr.setCell (p:=⟨g0,k,none⟩) hB _
  ·obtain rfl:k=x:=by omega
   have hfin:=hp.out;rw[HX.out] at hfin;have hg:=Gx hfin;have hol:o.length=k:=hp.out.1;have hcur:=hcell0.out;rw[List.drop_eq_nil_of_le (by rw[HX.out];exact Nl _)] at hcur;have hcut:=Am o g0 0 cp wr (by omega) (by omega) (fun j u hj=>by
    have hr:=eC hcur;obtain⟨b2,off2,e2,_,hc2⟩:=hr.addr (by intro e;have:=congrArg List.length e;rw[dB] at this;simp at this;rw[this] at hol;simp at hol;omega);injection e2 with e2
    injection e2 with e3 e4
    subst e3 e4;exact hc2 j u hj)
   rw[hol] at hcut;have HCUT:=Hd hcut;have HF:=Hd (And.intro hg (And.intro hol hcur));clear hg hol hcur hfin hp hcell0 hcut;go_wp2_with (go_at_call 113;refine HCUT.out.mono ?_;rintro e w2 ⟨rfl,rfl⟩);go_ret;obtain⟨h1,h2,h3⟩:=HF.out;rw[h1];refine⟨some ⟨g0,0,none⟩,cp,rfl,?_,eO.of hB,?_,hbr⟩
   ·have:=iW o;omega
   ·exact tH (eC h3)
theorem Me(n cap:Nat)(w:World):
  Calls prog 159 #[.slice none n cap] w fun e w'=>e=.returned (.slice none 0 0)/\w=w':=by
 have hnil:=fun W=>Lib.run_eql_slice_nil (P:=prog) W 95 144 none n cap 0 0 underlying95
 go_enter func159,ntmps159;go_wp2;go_ret;exact⟨rfl,rfl⟩
theorem Im(ad:Addr)(cap:Nat)(w:World):
  Calls prog 159 #[.slice (some ad) 0 cap] w fun e w'=>∃a c,e=.returned (.slice a 0 c)/\eO w.heap.size a/\Below w.heap.size w w':=by
 obtain⟨i0,hi,hz0,hz1,hz2⟩:=info_parts pB;have hnil:=fun W=>Lib.run_eql_slice_nil (P:=prog) W 95 144 (some ad) 0 cap 0 0 underlying95
 have hown0:∀W:World,w.heap.size<=W.heap.size->(W.alloc (.cells #[] 144)).ownsRow w.heap.size 144 1 (.slice (some ⟨W.heap.size,0,none⟩) 0 0) 0 []:=fun W hW=>World.ownsRow_made W #[] 0 hW (by decide) (by simp)
 have HO:=Hd hown0;clear hown0;go_enter func159,ntmps159;go_wp2_with (at_builtin;refine wpList_append_own _ rfl _ _ 95 rfl w.heap.size 144 i0 (.int .u64 0) 1 8 underlying95 hi hz0 hz1 hz2 rfl (by decide) _ _ _ rfl (HO.out w (Nl _)) ad 0 cap [] rfl ?c0 ?c1 ?c2 ?c3 ?c4 ?c5 ?_)
 case c0=>rfl
 case c1=>intro j u hj;simp at hj
 case c2=>intro u hu;simp at hu
 case c3=>decide
 case c4=>decide
 case c5=>simp
 intro v' w2 hown' hgrow _;obtain⟨a,c,rfl,hfr⟩:∃a c,v'=.slice a 0 c/\eO w.heap.size a:=by
  rcases hown'.2 with⟨h,_⟩|⟨g,cap,cur,hv,hbg,_⟩
  ·exact⟨none,0,h,eO.none _⟩
  ·exact⟨some ⟨g,0,none⟩,cap,hv,eO.of hbg⟩
 have HF:=Hd hfr;clear hown' hfr;go_wp2;go_ret;exact⟨a,c,rfl,HF.out,((Br _ _).alloc (Nl _) _).grown hgrow (by simp) (fun q hq=>by simp[Value.ownBlock] at hq;omega)⟩
theorem Ks(a a':Option Addr)(cap cap':Nat)(w:World):
  Calls prog 112 #[.slice a 0 cap,.slice a' 0 cap'] w fun e w'=>∃b c,e=.returned (.slice b 0 c)/\eO w.heap.size b/\Below w.heap.size w w':=by
 have HC:Hid (Calls prog 159 #[.slice a 0 cap] w fun e w'=>∃b c,e=.returned (.slice b 0 c)/\eO w.heap.size b/\Below w.heap.size w w'):=by
  cases a with
  |none=>exact(Me 0 cap w).mono fun e w' ⟨he,hw⟩=>⟨none,0,he,eO.none _,by rw[<-hw];exact Br _ _⟩
  |some ad=>exact Im ad cap w
 go_enter func112,ntmps112;go_wp2_with (go_at_call 159;refine HC.out.mono ?_);rintro e w1 ⟨b,c,rfl,hf,hb1⟩;have HF:=Hd hf;clear hf;go_wp2;refine wp_loop_once ?_;go_wp2_with (go_at_call 113;refine(Ex b c _).mono ?_;rintro e w2 ⟨rfl,rfl⟩);go_ret;exact⟨b,c,rfl,HF.out,hb1⟩
theorem Cn(x y:Nat)(a a':Option Addr)(cap cap':Nat)(w:World)(hxy:y<=x)(h1:(aC x).length<=1000000000000)
  (hr:dT w a (gs (aC x))) (hr':dT w a' (gs (aC y))) :
  Calls prog 112 #[.slice a (aC x).length cap,.slice a' (aC y).length cap'] w fun e w'=>∃b c,e=.returned (.slice b (aC (x-y)).length c)/\(aC (x-y)).length<=c/\eO w.heap.size b/\dT w' b (gs (aC (x-y)))/\Below w.heap.size w w':=by
 by_cases hx:x=0
 ·subst hx;obtain rfl:y=0:=by omega
  rw[aT];refine(Ks a a' cap cap' w).mono ?_;rintro e w' ⟨b,c,he,hf,hb⟩;exact⟨b,c,he,Nat.zero_le _,hf,.inl rfl,hb⟩
 have hne:aC x ≠ []:=by rw[Ne,bO];exact hx
 obtain⟨b,off,rfl,_,hc⟩:=hr.addr (tT hne);have hl:=bP hxy;have:=Kt (aC x) (aC y) b off cap a' cap' w hne hl h1 (aO x) (aO y) hc hr'
 rwa [Qi (dJ x) (dJ y) (by rw[aQ,aQ];exact hxy) hl,aQ,aQ] at this
end
end Go.Proofs.YtiloklnjjfaagaaGreatDoor
