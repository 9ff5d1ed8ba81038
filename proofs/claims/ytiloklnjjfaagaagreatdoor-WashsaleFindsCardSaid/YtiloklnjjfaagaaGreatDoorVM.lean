/- WAwakeP WAwake WGreat WLawP WSame -/
import Derived.Test.YtiloklnjjfaagaaGreatDoorVL
import Derived.Test.YtiloklnjjfaagaaGreatDoorURef21
set_option maxHeartbeats 16000000
set_option maxRecDepth 100000
namespace Go.Proofs.YtiloklnjjfaagaaGreatDoor
open Go.Proofs.Tryz
section
open Go Go.RowKit Num
def yEx:Bd:=⟨[98,47,49],[97,98,99],19753,19753,[50,48],[50,48,48],[]⟩
def xEx:aLe:=⟨[115],[97,47,49],[97,98,99],19723,19743,[49,48],[56,48],[49,48,48],[],[]⟩
def tEx:bWs:=⟨[⟨[98,47,49],[97,98,99],19753,19753,[49,48],[49,48,48],[]⟩,⟨[98,47,50],[97,98,99],19733,19753,[49,48],[49,50,48],[49,48]⟩],
 [⟨[115],[97,47,49],[97,98,99],19723,19743,[49,48],[56,48],[49,48,48],[50,48],[49,48]⟩],
 [⟨[98],[98,47,49],[98,47,50],[49,48],[49,48],[49,48,48]⟩,⟨[98],[],[98,47,50],[],[],[50,48]⟩],20⟩
theorem dJd:dEk [yEx] [xEx] 19753 30 [[98],[97,98,99]]=0:=by kernel_rfl
theorem dI4:bY0 [97,98,99] 19753 30 ⟨[yEx],[xEx],[],0⟩ 0=some (0,xEx,yEx):=by kernel_rfl
theorem dI3:bXx ⟨[yEx],[xEx],[],0⟩ 0 0 xEx yEx [98]=some tEx:=by kernel_rfl
theorem dIw:bY0 [97,98,99] 19753 30 tEx 0=none:=by kernel_rfl
theorem dI7:bZm [97,98,99] 19753 30 [98] ⟨[yEx],[xEx],[],0⟩ 0 (some tEx) :=
 .step dI4 dI3 (.skip (by decide) dIw (.done (by decide)))
end
section
open Go Go.RowKit Num
attribute [local go_sem] eW eN aV
theorem dIc{ls:List Bd}{gs:List aLe}{d wash:Int}{cause ins:List UInt8}(h:dEk ls gs d wash [cause,ins]=0):dAw ⟨ls,gs,[],0⟩/\dC cause=true/\dC ins=true/\(-25567<=d/\d<=84005)/\0<=wash/\wash<=366:=by
 unfold dEk at h;split at h
 ·cases h
 rename_i h1;split at h
 ·cases h
 rename_i h2;split at h
 ·cases h
 split at h
 ·cases h
 simp only[List.any_cons,List.any_nil,Bool.or_false,Bool.not_eq_true',Bool.or_eq_true,not_or,Bool.not_eq_false] at h2;refine⟨⟨(dB2 ls).1 (Classical.byContradiction fun e=>h1 (.inl e)),fun x hx=>?_⟩,h2.1,h2.2,by omega,by omega,by omega⟩;refine Classical.byContradiction fun e=>h1 (.inr (List.any_eq_true.2 ⟨x,hx,?_⟩))
 unfold aLe.bad;simpa using e
theorem dFj(ls:List Bd)(gs:List aLe)(la:Option Addr)(lc:Nat)(ga:Option Addr)(gc:Nat)(cause ins:List UInt8)(d wash:Int)(w:World)(hE:iE w)(hl:ls.length<=1000000)(hg:gs.length<=1000)(hL:Jj w la ls)(hG:aL3 w ga gs)
  (hls:∀y,y∈ls->y.id.length<=40/\y.ins.length<=40/\y.q.length<=13/\y.c.length<=13/\y.u.length<=13) (hgs:∀x,x∈gs->x.small) (hc:cause.length<=9223372036854775807) (hi:ins.length<=9223372036854775807) :
  Calls prog 11 #[.slice la ls.length lc,.slice ga gs.length gc,.string ⟨cause.toArray⟩,.int .i64 d,.string ⟨ins.toArray⟩,.int .i64 wash] w fun e W'=>((dEk ls gs d wash [cause,ins]≠0/\e=.returned (.tuple #[.agg dDz,.int .i64 (dEk ls gs d wash [cause,ins])]))∨(dEk ls gs d wash [cause,ins]=0/\∃r,bZm ins d wash cause ⟨ls,gs,[],0⟩ 0 r/\ApR W' w.heap.size d cause ins r e))/\Below w.heap.size w W' :=
 dGj ls gs la lc ga gc cause ins d wash _ w hE hl (by omega) hL hG (fun V sa sc hb hn=>dGi ls gs la lc ga gc d wash [cause,ins] sa sc V (hE.below hb) hl (fun y hy=>by obtain⟨a,b,c,d,e⟩:=hls y hy;exact⟨by omega,by omega,by omega,by omega,by omega⟩) (by omega) (fun x hx=>(hgs x hx).wide) (by simp) (fun s hs=>by
  simp only[List.mem_cons,List.not_mem_nil,or_false] at hs;rcases hs with rfl|rfl
  ·exact hc
  ·exact hi) (hL.below hb) (hG.below hb) hn) fun h=>by
  obtain⟨h1,h2,_,_,h5,h6⟩:=dIc h;exact⟨dD8.start h1 (fun y hy=>by obtain⟨a,b,c,d,_⟩:=hls y hy;exact⟨a,b,c,d⟩) hgs hg,h2,h5,h6⟩
theorem dG6{w:World}{b o:Nat}{v:Value}(h:w.cell? ⟨b,o,none⟩=some v):b<w.heap.size:=by
 rcases Nat.lt_or_ge b w.heap.size with hl|hl
 ·exact hl
 ·simp[World.cell?,Array.getElem?_eq_none hl] at h
theorem dHk{w:World}{b:Nat}{y:Bd}(h:aP w b y.cs 49):Jj w (some ⟨b,0,none⟩) [y] :=
 .inr ⟨b,0,rfl,h.1,fun k x hx=>by
  match k,hx with
  |0,hx=>cases hx;exact⟨h.cell 0,h.cell 1,h.cell 2,h.cell 3,h.cell 4,h.cell 5,h.cell 6⟩
  |n+1,hx=>cases hx⟩
theorem dGv{w:World}{b:Nat}{y:aLe}(h:aP w b y.cs 42):aL3 w (some ⟨b,0,none⟩) [y] :=
 .inr ⟨b,0,rfl,h.1,fun k x hx=>by
  match k,hx with
  |0,hx=>cases hx;exact⟨h.cell 0,h.cell 1,h.cell 2,h.cell 3,h.cell 4,h.cell 5,h.cell 6,h.cell 7,h.cell 8,h.cell 9⟩
  |n+1,hx=>cases hx⟩
theorem dE8(w:World):
  Calls prog 39 #[] w fun e w'=>e=.returned (.tuple #[.slice (some ⟨w.heap.size,0,none⟩) 1 1,.slice (some ⟨w.heap.size+1,0,none⟩) 1 1])/\Jj w' (some ⟨w.heap.size,0,none⟩) [yEx]/\aL3 w' (some ⟨w.heap.size+1,0,none⟩) [xEx]/\Below w.heap.size w w':=by
 obtain⟨w1,h1⟩:∃w1,w1=w.alloc (.cells yEx.cs 49):=⟨_,rfl⟩
 obtain⟨w2,h2⟩:∃w2,w2=w1.alloc (.cells xEx.cs 42):=⟨_,rfl⟩
 have e1:w1.heap.size=w.heap.size+1:=by rw[h1,World.size_alloc]
 have b2:Below w1.heap.size w1 w2:=by rw[h2];exact aB _ _
 have k1:aP w2 w.heap.size yEx.cs 49:=(h1 ▸ aP.new0 w _ _:aP w1 w.heap.size _ _).below b2;have k2:aP w2 (w.heap.size+1) xEx.cs 42:=by rw[<-e1];exact h2 ▸ aP.new0 w1 _ _
 have hb:Below w.heap.size w w2:=aA (h1 ▸ aB _ _) b2;have HL:Hid (Jj w2 (some ⟨w.heap.size,0,none⟩) [yEx]):=dHk k1;have HG:Hid (aL3 w2 (some ⟨w.heap.size+1,0,none⟩) [xEx]):=dGv k2;have HB:=Hd hb;have HW:Hid (w2=(w.alloc (.cells #[.string ⟨#[98,47,49]⟩,.string ⟨#[97,98,99]⟩,.int .i64 19753,.int .i64 19753,.string ⟨#[50,48]⟩,.string ⟨#[50,48,48]⟩,.string ⟨#[]⟩] 49)).alloc (.cells #[.string ⟨#[115]⟩,.string ⟨#[97,47,49]⟩,.string ⟨#[97,98,99]⟩,.int .i64 19723,.int .i64 19743,.string ⟨#[49,48]⟩,.string ⟨#[56,48]⟩,.string ⟨#[49,48,48]⟩,.string ⟨#[]⟩,.string ⟨#[]⟩] 42)):=by show _=_;rw[h2,h1];rfl
 clear h1 h2 e1 b2 k1 k2 hb w1;go_enter func39,ntmps39;go_wp2;go_ret2;rw[<-HW.out];exact⟨rfl,HL.out,HG.out,HB.out⟩
theorem dHq(w:World)(hE:iE w):
  Calls prog 10 #[] w fun e w'=>e=.returned (.bool true)/\Below w.heap.size w w':=by
 have H1:=Hd (dE8 w);have HE:=Hd hE;clear hE;go_enter func10,ntmps10;go_wp2_with fail;refine H1.out.mono ?_;rintro e w1 ⟨rfl,hL,hG,hb⟩;have H2:=Hd (dFj [yEx] [xEx] (some ⟨w.heap.size,0,none⟩) 1 (some ⟨w.heap.size+1,0,none⟩) 1 [98] [97,98,99] 19753 30 w1 (HE.out.below hb) (by decide) (by decide) hL hG (fun y hy=>by rw[List.mem_singleton.1 hy];decide) (fun y hy=>by rw[List.mem_singleton.1 hy];unfold aLe.small;decide) (by decide) (by decide));rw[dJd] at H2;have HB1:=Hd hb;clear hL hG hb H1;go_wp2_with fail;refine H2.out.mono ?_;rintro e w2 ⟨⟨h,_⟩|⟨_,r,hr,hres⟩,hb⟩
 ·exact absurd rfl h
 obtain rfl:=dI7.uniq r hr;obtain⟨v,rfl,lv,gv,tv,ev,rfl,hlo,hga,hst,hev⟩:=hres;obtain⟨za,zc,rfl⟩:=dD0 hst;rcases hev with⟨h,_⟩|⟨_,be,bt,rfl,_,_,hbt,hbe⟩
 ·exact absurd h (by decide)
 obtain⟨xa,xc,rfl,_,hL⟩:=dDb hlo;obtain⟨ya,yc,rfl,_,hG⟩:=dDu hga;have HB2:=Hd (aA HB1.out hb);obtain⟨b1,o1,rfl,k0,k1,k2,k3,k4,k5,k6⟩:=hL.addr (k:=0) rfl;obtain⟨b1',o1',e',l0,l1,l2,l3,l4,l5,l6⟩:=hL.addr (k:=1) rfl;injection e' with e'
 injection e' with e1 e2
 subst e1 e2;obtain⟨b2,o2,rfl,m0,m1,m2,m3,m4,m5,m6,m7,m8,m9⟩:=hG.addr (k:=0) rfl;have n6:=hbe.cell 6;have n1:=hbt.cell 1;have q1:b1<w2.heap.size:=dG6 k0;have q2:b2<w2.heap.size:=dG6 m0;have q3:=hbe.1;have q4:=hbt.1;simp only[show tEx.lots.length=2 from rfl,show tEx.gains.length=1 from rfl,Nat.zero_mul,Nat.one_mul,Nat.add_zero] at *;clear H2 hb hr hlo hga hL hG hst hbt hbe;go_wp2_with fail;go_ret;exact⟨dG (by kernel_rfl),aA HB2.out (aB _ _)⟩
end
section
open Go Go.RowKit Num
attribute [local go_sem] eW eN aV
def dFm(ls:List Bd)(gs:List aLe):Bool:=aNn ls || aO8 gs
theorem dHp(ls:List Bd)(gs:List aLe)(a:Option Addr)(c:Nat)(a2:Option Addr)(c2:Nat)(w:World)(hn:ls.length<=9223372036854775807)(hw:Jj w a ls)(hs:∀x,x∈ls->x.fits)(hn2:gs.length<=9223372036854775807)(hw2:aL3 w a2 gs)(hs2:∀x,x∈gs->x.fits):
  Calls prog 9 #[.slice a ls.length c,.slice a2 gs.length c2] w fun e w'=>e=.returned (.bool (dFm ls gs))/\Below w.heap.size w w':=by
 have H1:=Hd (aOs ls a c w hn hw hs);have H2:=Hd (fun W (hb:Below w.heap.size w W)=>dB4 gs a2 c2 W hn2 (hw2.below hb) hs2);have HG:Hid (dFm ls gs=(aNn ls || aO8 gs)):=rfl;clear hw hs hw2 hs2;generalize dFm ls gs=r at *;generalize aNn ls=b1 at *;generalize aO8 gs=b2 at *;cases b1
 ·go_enter func9,ntmps9;go_wp2_with fail;refine H1.out.mono ?_;rintro e w1 ⟨rfl,hb⟩;have HB:=Hd hb;clear hb;go_wp2_with fail;refine(H2.out _ HB.out).mono ?_;rintro e w2 ⟨rfl,hb⟩;go_wp2;go_ret;exact⟨dG (by rw[HG.out];rfl),aA HB.out hb⟩
 ·go_enter func9,ntmps9;go_wp2_with fail;refine H1.out.mono ?_;rintro e w1 ⟨rfl,hb⟩;go_wp2;go_ret;exact⟨dG (by rw[HG.out];rfl),hb⟩
structure dIh(ls:List Bd)(gs:List aLe):Prop where
 ll:ls.length<=1002
 lots:∀y,y∈ls->y.id.length<=40/\y.ins.length<=40/\y.q.length<=13/\y.c.length<=13/\y.u.length<=13
 gl:gs.length<=12
 gains:∀x,x∈gs->x.small
theorem dI2{ls:List Bd}{gs:List aLe}(h:dFm ls gs=false):dIh ls gs:=by
 obtain⟨h1,h2⟩:=Bool.or_eq_false_iff.1 h;obtain⟨h3,h4⟩:=dCc h2;obtain⟨h5,h6⟩:=Bool.or_eq_false_iff.1 h1;refine⟨?_,fun y hy=>?_,h4,h3⟩
 ·unfold aPi at h5;have:=of_decide_eq_false h5;omega
 ·rw[List.any_eq_false] at h6;have:=h6 y hy;unfold Bd.great at this;simp at this;omega
end
section
open Go Go.RowKit Num
structure dD9(ins:List UInt8)(d wash:Int)(cause:List UInt8)(ls:List Bd)(gs:List aLe)(t:bWs):Prop where
 ends:bZm ins d wash cause ⟨ls,gs,[],0⟩ 0 (some t)
 ok:dAw ⟨ls,gs,[],0⟩
 name:dC cause=true
 fits:dD8 ⟨ls,gs,[],0⟩
theorem dD9.runs{ins:List UInt8}{d wash:Int}{cause:List UInt8}{ls:List Bd}{gs:List aLe}{t:bWs}(E:dD9 ins d wash cause ls gs t):bZl ins d wash cause ⟨ls,gs,[],0⟩ t:=(E.ends.runs t rfl fun j h=>by omega).1
theorem dD9.done{ins:List UInt8}{d wash:Int}{cause:List UInt8}{ls:List Bd}{gs:List aLe}{t:bWs}(E:dD9 ins d wash cause ls gs t):∀j,dBe ins d wash t j:=(E.ends.runs t rfl fun j h=>by omega).2
theorem dD9.keep{ins:List UInt8}{d wash:Int}{cause:List UInt8}{ls:List Bd}{gs:List aLe}{t:bWs}(E:dD9 ins d wash cause ls gs t):dCg ins ⟨ls,gs,[],0⟩ t:=E.runs.keeps E.name E.ok
theorem dD9.fit{ins:List UInt8}{d wash:Int}{cause:List UInt8}{ls:List Bd}{gs:List aLe}{t:bWs}(E:dD9 ins d wash cause ls gs t):dD8 t:=E.runs.fits E.name E.fits
theorem dD9.stOk{ins:List UInt8}{d wash:Int}{cause:List UInt8}{ls:List Bd}{gs:List aLe}{t:bWs}(E:dD9 ins d wash cause ls gs t):dIz t:=E.fit.stOk
theorem dD9.wideG{ins:List UInt8}{d wash:Int}{cause:List UInt8}{ls:List Bd}{gs:List aLe}{t:bWs}(E:dD9 ins d wash cause ls gs t):∀x,x∈t.gains->x.wide:=fun x hx=>by
 obtain⟨a,b,c,d⟩:=E.fit.gi x hx;obtain⟨e,f,g,h,i⟩:=E.stOk.gm x hx;exact⟨by omega,by omega,by omega,by omega,by omega,by omega,by omega,by omega⟩
theorem dD9.smallL{ins:List UInt8}{d wash:Int}{cause:List UInt8}{ls:List Bd}{gs:List aLe}{t:bWs}(E:dD9 ins d wash cause ls gs t):∀y,y∈t.lots->y.small:=fun y hy=>by
 obtain⟨a,b,c,d,e⟩:=E.stOk.lm y hy;exact⟨by omega,by omega,by omega,by omega,by omega⟩
theorem dI1{a b:aLe}(u:bZq a b)(gb:b.err=0)(h1:b.rp≠a.rp)(h2:b.rp=b.q):aJ (val b.p+val b.df)=b.c:=by
 obtain⟨_,_,_,⟨_,_,ic,_,_⟩,_⟩:=bY2.1 gb;rcases u.whole with e|⟨e1,e2⟩
 ·rw[e] at h1;exact absurd rfl h1
 ·have h3:=e2 (by rw[h2]);have hl:b.loss=if val b.c-val b.p<0 then 0 else val b.c-val b.p:=rfl
  rw[hl] at e1 h3;split at e1
  ·omega
  ·rename_i hn;rw[if_neg hn] at h3;rw[h3,show val b.p+(val b.c-val b.p)=val b.c by omega];exact dFx ic
theorem dI0{a b:aLe}(u:bZq a b):({ b with df:=a.df,rp:=a.rp }:aLe)=a:=by
 obtain⟨c,l,i,ac,cl,q,p,cc,df,rp⟩:=a;obtain⟨c',l',i',ac',cl',q',p',cc',df',rp'⟩:=b;have h1:=u.cause;have h2:=u.lot;have h3:=u.ins;have h4:=u.acq;have h5:=u.cls;have h6:=u.q;have h7:=u.p;have h8:=u.c
 simp only at h1 h2 h3 h4 h5 h6 h7 h8;subst h1 h2 h3 h4 h5 h6 h7 h8;rfl
def dEe{α:Type}(p:α->Bool):List α->Nat->List Int
 | [],_=>[]
 |x::r,n=>if p x=true then(n:Int)::dEe p r (n+1) else dEe p r (n+1)
theorem dIg{α:Type}(p:α->Bool)(x:α)(r:List α)(n:Nat):dEe p (x::r) n=if p x=true then(n:Int)::dEe p r (n+1) else dEe p r (n+1):=rfl
theorem dEw{α:Type}(p:α->Bool):∀(a b:List α) (n:Nat),dEe p (a++b) n=dEe p a n++dEe p b (n+a.length)
 | [],b,n=>rfl
 |x::a,b,n=>by
  rw[List.cons_append,dIg,dIg,dEw p a b (n+1),List.length_cons,show n+1+a.length=n+(a.length+1) by omega];split
  ·rfl
  ·rfl
theorem dIm{α:Type}(p:α->Bool){l:List α}{k:Nat}{x:α}(h:l[k]?=some x):dEe p (l.take (k+1)) 0=if p x=true then dEe p (l.take k) 0 ++ [(k:Int)] else dEe p (l.take k) 0:=by
 have hk:=(Li.1 h).1;rw[List.take_add_one,h,Option.toList_some,dEw,List.length_take,Nat.min_eq_left (by omega),Nat.zero_add,dIg];split
 ·rfl
 ·exact List.append_nil _
theorem dHl{α:Type}(p:α->Bool):∀(l:List α) (n:Nat),(dEe p l n).length<=l.length
 | [],_=>Nl _
 |x::r,n=>by
  unfold dEe;have:=dHl p r (n+1);split <;> simp only[List.length_cons] <;> omega
theorem dGl{α:Type}(p:α->Bool):∀(l:List α) (n:Nat) (z:Int),z∈dEe p l n->∃(k:Nat) (x:α),z=((n+k:Nat):Int)/\l[k]?=some x/\p x=true
 | [],_,_,h=>by cases h
 |x::r,n,z,h=>by
  unfold dEe at h;split at h
  ·rename_i hp;rcases List.mem_cons.1 h with e|h
   ·exact⟨0,x,e,rfl,hp⟩
   ·obtain⟨k,y,e,h1,h2⟩:=dGl p r (n+1) z h;exact⟨k+1,y,by rw[e];congr 1;omega,h1,h2⟩
  ·obtain⟨k,y,e,h1,h2⟩:=dGl p r (n+1) z h;exact⟨k+1,y,by rw[e];congr 1;omega,h1,h2⟩
theorem dGu{α:Type}(p:α->Bool):∀(l:List α) (n:Nat),(∀x,x∈l->p x=false)->dEe p l n=[]
 | [],_,_=>rfl
 |x::r,n,h=>by
  unfold dEe;rw[if_neg (by rw[h x List.mem_cons_self];decide)];exact dGu p r (n+1) fun y hy=>h y (List.mem_cons_of_mem _ hy)
theorem dIj{α:Type}(f:α->Int){l:List α}{k:Nat}{x:α}(h:l[k]?=some x):bXk f (l.take (k+1))=bXk f (l.take k)+f x:=by
 rw[List.take_add_one,h,Option.toList_some,bXf,bXl];simp[bXk]
theorem dIi{ls:List Bd}{gs:List aLe}{d wash:Int}{ss:List (List UInt8)}(h1:bZp ls)(h2:∀x,x∈gs->x.err=0)(h3:∀s,s∈ss->dC s=true)(h4:-25567<=d/\d<=84005)(h5:0<=wash/\wash<=366):dEk ls gs d wash ss=0:=by
 unfold dEk;rw[if_neg,if_neg,if_neg (by omega),if_neg (by omega)]
 ·rw[List.any_eq_true];rintro⟨s,hs,h⟩;rw[h3 s hs] at h;cases h
 ·rintro(h|h)
  ·exact h (dFd h1)
  ·obtain⟨x,hx,hb⟩:=List.any_eq_true.1 h;unfold aLe.bad at hb;simp[h2 x hx] at hb
end
section
open Go Go.RowKit Num
attribute [local go_sem] eW eN aV nW
theorem dHi(ls:List Bd)(a a2:Option Addr)(c c2:Nat)(w:World)(hn:ls.length<=1000000)(hw:Jj w a ls)(hw2:Jj w a2 ls):
  Calls prog 24 #[.slice a ls.length c,.slice a2 ls.length c2] w fun e w'=>e=.returned (.bool true)/\Below w.heap.size w w':=by
 have HW:=Hd hw;have HW2:=Hd hw2;clear hw hw2;go_enter func24,ntmps24;go_wp2;go_loopw [5] (fun i W=>Hid (Below w.heap.size w W)/\∃k:Nat,k<=ls.length/\i=.int .i64 (k:Int)) (fun i _=>ls.length-(intOf i).toNat)
 case atStart=>exact⟨Br _ _,0,Nat.zero_le _,rfl⟩
 case round =>
  obtain⟨hB,k,hk,rfl⟩:=hrel
  by_cases hlt:k<ls.length
  ·obtain⟨x,hx⟩:∃x,ls[k]?=some x:=⟨ls[k],Lg hlt⟩
   obtain⟨b,off,ha,k0,k1,k2,k3,k4,k5,k6⟩:=(HW.out.below hB.out).addr hx;obtain⟨b2,off2,ha2,j0,j1,j2,j3,j4,j5,j6⟩:=(HW2.out.below hB.out).addr hx;subst ha ha2;clear hx;go_wp2_with fail;go_quiet (fail);go_wp2;go_round
   case rel=>exact⟨aD hB.out _,k+1,by omega,by go_num⟩
   case measure=>simp[intOf];omega
  ·obtain rfl:k=ls.length:=by omega
   go_wp2;go_ret;exact⟨rfl,hB.out⟩
end
end Go.Proofs.YtiloklnjjfaagaaGreatDoor
