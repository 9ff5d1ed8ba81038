/- LotAll AgingP Open -/
import Derived.Test.YtiloklnjjfaagaaGreatDoorUMaps
import Derived.Test.YtiloklnjjfaagaaGreatDoorUDate
import Derived.Test.YtiloklnjjfaagaaGreatDoorRows
import Derived.Maps.AppendAt
import Derived.ProofKit
import Derived.OpenShut
import Derived.LaidMore
import Derived.Lay
import Derived.Deep.Slices
import Derived.HandedShaped
import Derived.Stop.Joined
set_option maxHeartbeats 16000000
set_option maxRecDepth 100000
namespace Go.Proofs.YtiloklnjjfaagaaGreatDoor
open Go.Proofs.Tryz
section
open Go.RowKit Num
attribute [local go_sem] eW eN aV
theorem aNt(ls:List Bd)(k:Nat)(id:List UInt8):((ls.take k).map Bd.id).contains id=(ls.take k).any (fun y=>y.id==id):=by
 induction ls.take k with
 |nil=>rfl
 |cons x r ih =>
  simp only[List.map_cons,List.contains_cons,List.any_cons,ih];rw[Bool.beq_comm]
theorem dAu(ls:List Bd)(a:Option Addr)(c:Nat)(w:World)(hE:iE w)(hn:ls.length<=1000000)(hw:Jj w a ls)(hs:∀x,x∈ls->x.small):
  Calls prog 29 #[.slice a ls.length c] w fun e w'=>e=.returned (.int .i64 (aO6 ls))/\Below w.heap.size w w':=by
 by_cases h1000:1000<ls.length
 ·have h1:(1000:Int)<ls.length:=by omega
  rw[show aO6 ls=4 from if_pos h1000];go_enter func29,ntmps29;go_wp2;go_ret;exact⟨rfl,Br _ _⟩
 have h1000:¬ (1000:Int)<ls.length:=by omega
 rw[show aO6 ls=aLj [] ls from if_neg (by omega)];have HS:=Hd hs;have HW:=Hd hw;have HE:=Hd hE;clear hs hw hE;have HG:∃r,r=aLj [] ls:=⟨_,rfl⟩
 obtain⟨r,hr⟩:=HG;rw[<-hr];have HG:=Hd hr;clear hr;have hmm:=@run_makeMap prog;go_enter func29,ntmps29;go_wp2;go_loopw [13] (fun i W=>Hid (Below w.heap.size w W)/\∃k:Nat,k<=ls.length/\i=.int .i64 (k:Int)/\Hid (xY W w.heap.size k ((ls.take k).map Bd.id))/\Hid (r=aLj (ls.take k) (ls.drop k))) (fun i _=>ls.length-(intOf i).toNat)
 case atStart=>exact⟨aB w _,0,Nat.zero_le _,rfl,Pr w,HG⟩
 case round =>
  obtain⟨hB,k,hk,rfl,hS,hp⟩:=hrel
  by_cases hlt:k<ls.length
  ·obtain⟨x,hx⟩:∃x,ls[k]?=some x:=⟨ls[k],Lg hlt⟩
   obtain⟨b,off,ha,k0,k1,k2,k3,k4,k5,k6⟩:=(HW.out.below hB.out).addr hx;subst ha;have hm:=HS.out x (List.mem_of_getElem? hx);have H:=Hd (fun W hW=>aMm x W hW hm.1 hm.2.1 hm.2.2.1 hm.2.2.2.1 hm.2.2.2.2);have HX:=Hd (fun h=>aMy hx hp.out h);have HY:=Hd (fun h1 h2=>aMx hx hp.out h1 h2);have HZ:=Hd (fun h1 h2=>aMs hx hp.out h1 h2);have hxl:x.id.length<=1000:=hm.1;have hT:=Hd (aNl hx);clear hm hx;go_wp2_with fail;have KB:=Hd (aP.new0 wr #[.string ⟨x.id.toArray⟩,.string ⟨x.ins.toArray⟩,.int .i64 x.acq,.int .i64 x.opn,.string ⟨x.q.toArray⟩,.string ⟨x.c.toArray⟩,.string ⟨x.u.toArray⟩] 49);have hB:=Hd (aA hB.out (aB wr (.cells #[.string ⟨x.id.toArray⟩,.string ⟨x.ins.toArray⟩,.int .i64 x.acq,.int .i64 x.opn,.string ⟨x.q.toArray⟩,.string ⟨x.c.toArray⟩,.string ⟨x.u.toArray⟩] 49)));have hS:=Hd (hS.out.below (aB wr (.cells #[.string ⟨x.id.toArray⟩,.string ⟨x.ins.toArray⟩,.int .i64 x.acq,.int .i64 x.opn,.string ⟨x.q.toArray⟩,.string ⟨x.c.toArray⟩,.string ⟨x.u.toArray⟩] 49)));refine(H.out _ (HE.out.below hB.out)).mono ?_;rintro e w1 ⟨rfl,hb⟩;have KB:=Hd (KB.out.below hb);have hB:=Hd (aA hB.out hb);have hS:=hS.out.below hb;have k0:=KB.out.cell 0;clear k1 k2 k3 k4 k5 k6 H hb
   by_cases g:x.err=0
   ·have HY:=Hd (HY.out g);have HZ:=Hd (HZ.out g);rw[g];clear HX;cases hd:(ls.take k).any (fun y=>y.id==x.id)
    ·have HZ:=Hd (HZ.out hd);have hd':((ls.take k).map Bd.id).contains x.id=false:=by rw[aNt];exact hd
     clear hd HY;have hD:=Hd hd';have hT':Hid ((ls.take k).map Bd.id ++ [x.id]=(ls.take (k+1)).map Bd.id):=by show _=_;rw[<-hT.out];simp
     generalize(ls.take k).map Bd.id=ids at *;go_wp2_with (first|(at_lookup;refine sA _ rfl _ _ rfl w.heap.size k ids rfl hS x.id (by unfold maxLen;omega) rfl ?_;rw[hD.out])|(at_mapUpdate;refine aY6 _ rfl _ _ _ rfl w.heap.size k ids rfl hS (by unfold maxLen;omega) x.id (by unfold maxLen;omega) rfl rfl ?_;intro w2 hS2 hg2)|go_in);go_round
     case rel=>exact⟨hB.out.grown hg2 hB.out.size (fun j hj=>by cases hj;exact Nl _),k+1,by omega,by go_num,by rw[<-hT'.out];exact hS2,HZ⟩
     case measure=>simp[intOf];omega
    ·have HY:=Hd (HY.out hd);have hd':((ls.take k).map Bd.id).contains x.id=true:=by rw[aNt];exact hd
     clear hd HZ;have hD:=Hd hd';generalize(ls.take k).map Bd.id=ids at *;go_wp2_with (first|(at_lookup;refine sA _ rfl _ _ rfl w.heap.size k ids rfl hS x.id (by unfold maxLen;omega) rfl ?_;rw[hD.out])|go_in);go_ret;exact⟨gG (by rw[HY.out]),hB.out⟩
   ·have g':(x.err != 0)=true:=by simpa using g
    have G:=Hd g;go_wp2;go_ret;exact⟨gG (by rw[HX.out G.out]),hB.out⟩
  ·obtain rfl:k=ls.length:=by omega
   go_wp2;go_ret;exact⟨gG (by rw[hp.out];simp[aLj]),hB.out⟩
theorem aNs(ls:List Bd)(a:Option Addr)(c:Nat)(w:World)(hE:iE w)(hn:ls.length<=12)(hw:Jj w a ls)(hs:∀x,x∈ls->x.small):
  Calls prog 29 #[.slice a ls.length c] w fun e w'=>e=.returned (.int .i64 (aLj [] ls))/\Below w.heap.size w w':=by
 have h:=dAu ls a c w hE (by omega) hw hs
 rwa [show aO6 ls=aLj [] ls from if_neg (by omega)] at h
end
section
open Go.RowKit Num Dt
def Mx(w:World)(a:Option Addr)(zs:List Int):Prop :=
 zs=[]∨∃b off,a=some ⟨b,off,none⟩/\b<w.heap.size/\∀k z,zs[k]?=some z->w.cell? ⟨b,off+k,none⟩=some (.int .i64 z)
theorem Mx.below{w w':World}{a:Option Addr}{zs:List Int}(h:Mx w a zs)(hb:Below w.heap.size w w'):Mx w' a zs:=by
 rcases h with h|⟨b,off,ha,hlt,hc⟩
 ·exact .inl h
 ·exact .inr ⟨b,off,ha,Nat.lt_of_lt_of_le hlt hb.size,fun k z hz=>(hb.cell (p:=⟨b,off+k,none⟩) hlt).trans (hc k z hz)⟩
theorem Mx.addr{w:World}{a:Option Addr}{zs:List Int}(h:Mx w a zs){k:Nat}{z:Int}(hz:zs[k]?=some z):
  ∃b off,a=some ⟨b,off,none⟩/\w.cell? ⟨b,off+k,none⟩=some (.int .i64 z):=by
 rcases h with h|⟨b,off,ha,_,hc⟩
 ·rw[h] at hz;simp at hz
 ·exact⟨b,off,ha,hc k z hz⟩
def Two(w:World)(base:Nat)(e:TypeId)(size:Nat)(x y:Value)(n m:Nat)(xs ys:List Value):Prop :=
 w.ownsRow base e size x n xs/\w.ownsRow base e size y m ys/\(x.ownBlock=none∨y.ownBlock=none∨x.ownBlock≠y.ownBlock)
theorem Two.swap{w:World}{base:Nat}{e:TypeId}{size:Nat}{x y:Value}{n m:Nat}{xs ys:List Value}(h:Two w base e size x y n m xs ys):Two w base e size y x m n ys xs :=
 ⟨h.2.1,h.1,h.2.2.elim (fun e=>.inr (.inl e)) (fun e=>e.elim .inl (fun e=>.inr (.inr (Ne.symm e))))⟩
theorem Two.below{w w':World}{base:Nat}{e:TypeId}{size:Nat}{x y:Value}{n m:Nat}{xs ys:List Value}(h:Two w base e size x y n m xs ys)(hb:Below w.heap.size w w'):Two w' base e size x y n m xs ys :=
 have hg:w.grownBy w' none:=⟨hb.os,hb.tape,hb.output,hb.size,fun k hk _=>hb.block k hk⟩
 have hne:∀v:Value,v.ownBlock=none∨v.ownBlock≠none:=fun _=>Classical.em _
 ⟨h.1.kept hg (hne x),h.2.1.kept hg (hne y),h.2.2⟩
theorem Two.step{w w':World}{base:Nat}{e:TypeId}{size:Nat}{x y x':Value}{n m n':Nat}{xs ys xs':List Value}(h:Two w base e size x y n m xs ys)(hx:w'.ownsRow base e size x' n' xs')(hg:w.grownBy w' x.ownBlock)(hl:x'.ownBlock=x.ownBlock∨x'.ownBlock=some w.heap.size):
  Two w' base e size x' y n' m xs' ys:=by
 obtain⟨h1,h2,h3⟩:=h;refine⟨hx,h2.kept hg ?_,?_⟩
 ·rcases h3 with h|h|h
  ·rw[h];exact Classical.em _
  ·exact .inl h
  ·exact .inr (Ne.symm h)
 ·rcases hl with hl|hl
  ·rw[hl];exact h3
  ·cases hy:y.ownBlock with
   |none=>exact .inr (.inl rfl)
   |some k =>
    have:=(h2.lt k hy).2;refine .inr (.inr ?_);rw[hl];intro e;injection e with e
    omega
theorem Ut{w w':World}{base:Nat}{e:TypeId}{size:Nat}{x:Value}{n:Nat}{xs:List Value}{w0:World}(h:w.ownsRow base e size x n xs)(hg:w.grownBy w' x.ownBlock)(hb:Below base w0 w)(hB:base<=w.heap.size):Below base w0 w' :=
 hb.grown hg hB (fun k hk=>(h.lt k hk).1)
theorem aO7:(prog.info? 3).map (fun i=>(i.zero,i.size,i.bytes))=some (some (.int .i64 0),1,8):=by kernel_rfl
theorem aOr(l m:List Int):(l++m).map (Value.int .i64)=l.map (Value.int .i64)++m.map (Value.int .i64):=List.map_append
theorem aN9{p:Int->Bool}{zs:List Int}{k:Nat}{z:Int}(hz:zs[k]?=some z):(zs.take (k+1)).filter p=if p z=true then(zs.take k).filter p ++ [z] else(zs.take k).filter p:=by
 rw[List.take_add_one,hz,List.filter_append];cases h:p z <;> simp[h]
end
section
open Go.RowKit Num Dt Go.ChangeShapes Go.WideShapes Go.ChangeAt
section
variable {H:Type}{enc:TypeId×Value->H}{P:Program}{w:World}{base:Nat}{sp:Nat->Bool}{held:Bool}
theorem qM{cs:List Value}{j:Nat}{v:Value}(h:(cs.drop j).take 1=[v]):cs[j]?=some v:=by
 have:((cs.drop j).take 1)[0]?=some v:=by rw[h];rfl
 simpa using this
theorem iB{t:TypeId}{cs:List Value}{j n:Nat}{y:DataW H×List MemPlace}(hu:P.underlying t=some .string)(hc:P.cellsOf t=1)(h:DataW.trod enc P w base sp held n t ((cs.drop j).take (P.cellsOf t))=some y):
  ∃l:List UInt8,cs[j]?=some (Pm l)/\l.length<=maxLen:=by
 rw[hc] at h;obtain⟨s,e1,_,hs⟩:=DataW.trod_string hu h;refine⟨s.data.toList,?_,by simpa using hs⟩;rw[qM e1]
theorem yI{t:TypeId}{k:IntKind}{cs:List Value}{j n:Nat}{y:DataW H×List MemPlace}(hu:P.underlying t=some (.int k))(hc:P.cellsOf t=1)(h:DataW.trod enc P w base sp held n t ((cs.drop j).take (P.cellsOf t))=some y):
  ∃z:Int,cs[j]?=some (.int k z)/\(Lit.int k z).wf=true:=by
 rw[hc] at h;obtain⟨z,e1,_,hs⟩:=DataW.trod_int hu h;exact⟨z,qM e1,hs⟩
theorem Tw{t e:TypeId}{N:Nat}(hN:0<N){v:Value}{d:DataW H}{ps:List MemPlace}(ht:P.underlying t=some (.slice e))(hc:P.cellsOf e=N)(hv:Value.okWide P w .any base t v)(h:DataW.Trod enc P w 0 (fun _=>true) held t v d ps):
  ∃(a:Option Addr) (n c:Nat),v=.slice a n c/\n<=c/\n<=maxLen/\(n=0∨∃b off,a=some ⟨b,off,none⟩/\b<w.heap.size/\∀i,i<n->∃(cs:List Value) (m:Nat) (y:DataW H×List MemPlace),cs.length=N/\(∀j,j<N->w.cell? ⟨b,off+i*N+j,none⟩=cs[j]?)/\DataW.trod enc P w 0 (fun _=>true) held m e cs=some y):=by
 obtain⟨a,n,c,rfl⟩:=okWide_slice ht hv;obtain⟨fuel,hf⟩:=h;rcases Deep.open_slice ht hf with⟨hcs,_⟩|⟨a',len,cap,m,n',D,Pl,hcs,_,hl,hm,hmm,_,hx⟩
 ·simp[Value.cells] at hcs;obtain⟨rfl,rfl,rfl⟩:=hcs;exact⟨none,0,0,rfl,Nl _,Nat.zero_le _,.inl rfl⟩
 ·simp[Value.cells] at hcs;obtain⟨rfl,rfl,rfl⟩:=hcs;simp at hmm;subst hmm;rw[hc] at hx;refine⟨some a',n,m,rfl,hl,by omega,?_⟩
  by_cases h0:n=0
  ·exact .inl h0
  ·have hcell:∀i,i<n->∃(cs:List Value) (m:Nat) (y:DataW H×List MemPlace),cs.length=N/\(∀j,j<N->w.cell? ((a'.add (i*N)).add j)=cs[j]?)/\DataW.trod enc P w 0 (fun _=>true) held m e cs=some y:=by
    intro i hi;obtain⟨cs',h1,h2⟩:=hx i (by omega);obtain⟨_,hlen,hcc⟩:=World.cells?_some h1;exact⟨cs',_,_,hlen,hcc,h2⟩
   obtain⟨b,off,spot⟩:=a';obtain⟨cs,m',y,hlen,hcc,_⟩:=hcell 0 (by omega);have h00:=hcc 0 hN;rw[Lg (by omega)] at h00;have hsp:spot=none:=by simpa[Addr.add] using World.cell?_spot h00
   subst hsp;refine .inr ⟨b,off,rfl,World.block_lt_of_cell? w _ (by simpa[Addr.add] using h00),fun i hi=>?_⟩;obtain⟨cs,m,y,hlen,hcc,ht⟩:=hcell i hi;exact⟨cs,m,y,hlen,fun j hj=>by rw[<-hcc j hj,lM,lM],ht⟩
theorem Dv{α:Type}{n:Nat}{p:Nat->α->Prop}(h:∀i,i<n->∃x,p i x):∃l:List α,l.length=n/\∀(i:Nat) (x:α),l[i]?=some x->p i x:=by
 induction n with
 |zero=>exact⟨[],rfl,fun i x hx=>by simp at hx⟩
 |succ n ih =>
  obtain⟨l,hl,hp⟩:=ih (fun i hi=>h i (by omega));obtain⟨x,hx⟩:=h n (by omega);refine⟨l ++ [x],by simp[hl],fun i y hy=>?_⟩
  by_cases hi:i<l.length
  ·rw[List.getElem?_append_left hi] at hy;exact hp i y hy
  ·rw[List.getElem?_append_right (by omega)] at hy;have h0:i-l.length=0:=by
    rcases Nat.eq_zero_or_pos (i-l.length) with h|h
    ·exact h
    ·rw[List.getElem?_eq_none (by simp;omega)] at hy;cases hy
   rw[h0] at hy;simp at hy;subst hy;obtain rfl:i=n:=by omega
   exact hx
end
section
variable {H:Type}{enc:TypeId×Value->H}{w:World}{base:Nat}{held:Bool}
theorem dCj{v:Value}{d:DataW H}{ps:List MemPlace}(hv:Value.okWide prog w .any base 22 v)(h:DataW.Trod enc prog w 0 (fun _=>true) held 22 v d ps):
  ∃(a:Option Addr) (c:Nat) (ls:List Bd),v=.slice a ls.length c/\ls.length<=c/\ls.length<=maxLen/\Jj w a ls/\∀x,x∈ls->x.fits:=by
 obtain⟨a,n,c,rfl,hnc,hm,hx⟩:=Tw (N:=7) (by decide) underlying22 (by kernel_rfl) hv h;rcases hx with rfl|⟨b,off,rfl,hb,hx⟩
 ·exact⟨a,c,[],rfl,Nat.zero_le _,Nat.zero_le _,.inl rfl,fun x hx=>by simp at hx⟩
 ·obtain⟨ls,hl,hp⟩:=Dv (α:=Bd) (p:=fun i x=>(w.cell? ⟨b,off+i*7,none⟩=some (Pm x.id)/\w.cell? ⟨b,off+i*7+1,none⟩=some (Pm x.ins)/\w.cell? ⟨b,off+i*7+2,none⟩=some (.int .i64 x.acq)/\w.cell? ⟨b,off+i*7+3,none⟩=some (.int .i64 x.opn) /\
  w.cell? ⟨b,off+i*7+4,none⟩=some (Pm x.q)/\w.cell? ⟨b,off+i*7+5,none⟩=some (Pm x.c)/\w.cell? ⟨b,off+i*7+6,none⟩=some (Pm x.u))/\x.fits) (fun i hi=>by
   obtain⟨cs,m,y,hlen,hcc,ht⟩:=hx i hi;obtain⟨xs,k,_,_,_,hxl,hf⟩:=DataW.trod_struct underlying49 ht;have hg:∀i,i<7->∃y,xs[i]?=some y:=fun i hi=>⟨_,Lg (by rw[hxl];exact hi)⟩
   obtain⟨y0,g0⟩:=hg 0 (by decide);obtain⟨y1,g1⟩:=hg 1 (by decide);obtain⟨y2,g2⟩:=hg 2 (by decide);obtain⟨y3,g3⟩:=hg 3 (by decide);obtain⟨y4,g4⟩:=hg 4 (by decide);obtain⟨y5,g5⟩:=hg 5 (by decide);obtain⟨y6,g6⟩:=hg 6 (by decide);obtain⟨id,e0,l0⟩:=iB underlying9 (by kernel_rfl) ((hf 0 _ rfl).trans g0);obtain⟨ins,e1,l1⟩:=iB underlying9 (by kernel_rfl) ((hf 1 _ rfl).trans g1);obtain⟨acq,e2,_⟩:=yI underlying24 (by kernel_rfl) ((hf 2 _ rfl).trans g2);obtain⟨opn,e3,_⟩:=yI underlying24 (by kernel_rfl) ((hf 3 _ rfl).trans g3);obtain⟨q,e4,l4⟩:=iB underlying36 (by kernel_rfl) ((hf 4 _ rfl).trans g4);obtain⟨c,e5,l5⟩:=iB underlying36 (by kernel_rfl) ((hf 5 _ rfl).trans g5);obtain⟨u,e6,l6⟩:=iB underlying36 (by kernel_rfl) ((hf 6 _ rfl).trans g6);unfold maxLen at l0 l1 l4 l5 l6;exact⟨⟨id,ins,acq,opn,q,c,u⟩,⟨(hcc 0 (by decide)).trans e0,(hcc 1 (by decide)).trans e1,(hcc 2 (by decide)).trans e2,(hcc 3 (by decide)).trans e3,(hcc 4 (by decide)).trans e4,(hcc 5 (by decide)).trans e5,(hcc 6 (by decide)).trans e6⟩,by unfold Bd.fits;simp only;omega⟩)
  subst hl;exact⟨_,c,ls,rfl,hnc,hm,.inr ⟨b,off,rfl,hb,fun k x hk=>(hp k x hk).1⟩,fun x hx=>by obtain⟨k,hk⟩:=List.getElem?_of_mem hx;exact(hp k x hk).2⟩
theorem dB5{v:Value}{d:DataW H}{ps:List MemPlace}(hv:Value.okWide prog w .any base 52 v)(h:DataW.Trod enc prog w 0 (fun _=>true) held 52 v d ps):
  ∃(a:Option Addr) (c:Nat) (zs:List Int),v=.slice a zs.length c/\zs.length<=c/\zs.length<=maxLen/\Mx w a zs:=by
 obtain⟨a,n,c,rfl,hnc,hm,hx⟩:=Tw (N:=1) (by decide) underlying52 (by kernel_rfl) hv h;rcases hx with rfl|⟨b,off,rfl,hb,hx⟩
 ·exact⟨a,c,[],rfl,Nat.zero_le _,Nat.zero_le _,.inl rfl⟩
 ·obtain⟨zs,hl,hp⟩:=Dv (α:=Int) (p:=fun i z=>w.cell? ⟨b,off+i,none⟩=some (.int .i64 z)) (fun i hi=>by
   obtain⟨cs,m,y,hlen,hcc,ht⟩:=hx i hi;obtain⟨z,e,_,_⟩:=DataW.trod_int underlying3 ht;refine⟨z,?_⟩;have:=hcc 0 (by decide);rw[e] at this;simpa using this)
  subst hl;exact⟨_,c,zs,rfl,hnc,hm,.inr ⟨b,off,rfl,hb,hp⟩⟩
end
theorem tP{P:Program}{w:World}:∀ {l:List (String×DataW Unit)}{ps:List MemPlace},DataW.LaidVars P w l ps->∀n d,(n,d)∈l ->
  ∃g t cs fuel p,P.globalNamed n=some g/\(P.globals[g]?).map (·.type)=some t/\w.var? P n=some cs/\DataW.trod (fun _=>()) P w 0 (fun _=>true) false fuel t cs.toList=some (d,p)
 | [],_,_,n,d,hm=>by simp at hm
 |(n',d')::r,ps,h,n,d,hm=>by
  obtain⟨g,t,cs,fuel,p,q,hg,ht,hv,hd,hr,_⟩:=h;rcases List.mem_cons.1 hm with e|hm
  ·injection e with e1 e2
   subst e1 e2;exact⟨g,t,cs,fuel,p,hg,ht,hv,hd⟩
  ·exact tP hr n d hm
theorem aE1 : prog.globalNamed "internal/strconv.uint64pow10" = some 2 := by kernel_rfl
theorem aEz : prog.globalNamed "strconv.ErrSyntax" = some 0 := by kernel_rfl
theorem aE0 : prog.globalNamed "strconv.ErrRange" = some 1 := by kernel_rfl
theorem aEt:(prog.globals[2]?).map (·.type)=some 244:=by kernel_rfl
theorem aEr:(prog.globals[0]?).map (·.type)=some 146:=by kernel_rfl
theorem aEs:(prog.globals[1]?).map (·.type)=some 146:=by kernel_rfl
theorem Lt{W:World}{laid:List (String×DataW Unit)}{n1 n2:String}{d1 d2:DataW Unit}(hs:W.ShapedOpen prog)
  (h1 : ("internal/strconv.uint64pow10", Lib.tabData .u64 Lib.pow10Tab) ∈ laid) (h2 : ("strconv.ErrSyntax", .iface n1 d1) ∈ laid) (h3 : ("strconv.ErrRange", .iface n2 d2) ∈ laid)
  (h:laidMet prog laid W):iE W:=by
 obtain⟨ps,hl,_,_⟩:=h;refine⟨?_,?_,?_,?_⟩
 ·obtain⟨g,t,cs,fuel,p,hg,ht,hv,hd⟩:=tP hl _ _ h1;obtain rfl:=Option.some.inj (aE1.symm.trans hg);obtain rfl:=Option.some.inj (aEt.symm.trans ht);unfold Lib.TabIs;rw[hv,<-Lib.cells_of_tab underlying244 underlying144 (by kernel_rfl) (by kernel_rfl) hd]
 ·obtain⟨g,t,cs,fuel,p,hg,ht,hv,hd⟩:=tP hl _ _ h2;obtain rfl:=Option.some.inj (aEz.symm.trans hg);obtain rfl:=Option.some.inj (aEr.symm.trans ht);obtain⟨_,u,v,e,_⟩:=iface_of_trod underlying146 hd;refine⟨u,v,?_⟩;rw[World.var?_cell hg hv 0,Array.eq_one_of_toList e];rfl
 ·obtain⟨g,t,cs,fuel,p,hg,ht,hv,hd⟩:=tP hl _ _ h3;obtain rfl:=Option.some.inj (aE0.symm.trans hg);obtain rfl:=Option.some.inj (aEs.symm.trans ht);obtain⟨_,u,v,e,_⟩:=iface_of_trod underlying146 hd;refine⟨u,v,?_⟩;rw[World.var?_cell hg hv 0,Array.eq_one_of_toList e];rfl
 ·exact cell_of_shapedOpen_int (t:=3) (zero:=#[.int .i64 0]) hs (of_decide_eq_true (by kernel_rfl)) (by kernel_rfl) rfl (by kernel_rfl) (by kernel_rfl) underlying3
theorem oZ{H:Type}{enc:TypeId×Value->H}{C:Checked}{os:Os}{f:FuncId}{fn:Func}{s:ChangeSpec}{conds:List PathCond}{apart fresh handsOn again:Bool}{X:World->Array Value->Prop}
  (hX:∀(w w':World) (args:Array Value),w.heap=w'.heap->X w args->X w' args)
  (own:ownKnob C.prog.godebug=none) (started:os.Started) (noInit:C.prog.inits.idxOf? f=none) (hfn:C.prog.funcs[f]?=some fn)
  (witness:∃(w:World) (tape:Tape) (i:Input),w.os=os/\(w.forCall tape i).Shaped C.prog/\i.vars=[]/\Input.okWide C.prog (w.forCall tape i) .any w.heap.size f i /\
   ((s.pre enc C.prog fn conds apart (w.forCall tape i).memory i.args/\X (w.forCall tape i).memory i.args)/\sizedMet enc C.prog fn (OpenSpec.ofChange s) apart (w.forCall tape i).memory i.args)/\Assume.holds {} C.prog (lone (Frame.enter C.prog f i.args .normal) [] (w.forCall tape i)))
  (contract:∀(W:World) (base:Nat) (args:Array Value) (ds gs:List (DataW H)) (before:List MemPlace),
   (∀(j:Nat) t v,fn.params[j]?=some t->args[j]?=some v->Value.okWide C.prog W .any base t v) ->
   DataW.Whole enc C.prog fn.params.toList s.vars apart W args.toList ds gs before->W.ShapedOpen C.prog->X W args ->
   Calls C.prog f args W fun e W'=>∃v,e=.returned v/\s.post enc C.prog fn apart fresh handsOn again W args v W') :
  ReturnsInHanded {} C os f .any (fun w args=>(s.pre enc C.prog fn conds apart w args/\X w args)/\sizedMet enc C.prog fn (OpenSpec.ofChange s) apart w args) (s.post enc C.prog fn apart fresh handsOn again):=by
 refine returnsInHanded_of_calls own started noInit witness ?_;intro w tape i _ hsh _ hok hpre hholds;obtain⟨_,_,_,fn',hfn',_,_,_,_,hval⟩:=hok;have e:fn'=fn:=Option.some.inj (hfn'.symm.trans hfn);subst e;obtain⟨⟨⟨ds,gs,before,hw,hc⟩,hx⟩,hz⟩:=hpre;have hw':=DataW.Whole.of_heap (w':=w.forCall tape i) (by rfl) hw;refine(contract (w.forCall tape i) w.heap.size i.args ds gs before hval hw' hsh (hX _ _ _ (by rfl) hx)).mono fun e W' ⟨v,he,hp⟩=>?_
 subst he;exact ChangeSpec.post_blind hp
end
end Go.Proofs.YtiloklnjjfaagaaGreatDoor
