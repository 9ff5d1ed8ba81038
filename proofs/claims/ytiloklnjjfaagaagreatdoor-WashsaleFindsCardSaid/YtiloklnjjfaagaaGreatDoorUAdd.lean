/- Add Sub DivL Len FracP LotP Lot -/
import Derived.Test.YtiloklnjjfaagaaGreatDoorUText
set_option maxHeartbeats 16000000
set_option maxRecDepth 100000
namespace Go.Proofs.YtiloklnjjfaagaaGreatDoor
open Tryz
section
open Go.RowKit Num
theorem nW(w:World)(n:Nat)(p:Addr)(v:Value):(w.drewN n).setCell p v=(w.setCell p v).drewN n:=rfl
attribute [local go_sem] nW
def lX(n:Bool)(x:Nat):Int:=if n=true then -(x:Int) else x
def pN(nx ny:Bool)(x y:Nat):Bool×Nat:=if nx=ny then(nx,x+y) else if x<y then(ny,y-x) else(nx,x-y)
theorem Vz(nx ny:Bool)(x y:Nat):lX (pN nx ny x y).1 (pN nx ny x y).2=lX nx x+lX ny y:=by
 unfold pN
 by_cases h:nx=ny
 ·subst h;rw[if_pos rfl];cases nx <;> simp[lX] <;> omega
 ·rw[if_neg h]
  by_cases h2:x<y
  ·rw[if_pos h2];cases nx <;> cases ny <;> simp_all [lX] <;> omega
  ·rw[if_neg h2];cases nx <;> cases ny <;> simp_all [lX] <;> omega
theorem dCm{x y:Nat}(h:x<=y)(hy:(aC y).length<=100000000000):(aC x).length<=100000000000:=Nat.le_trans (bP h) hy
theorem Vy(n:Bool)(x y:Nat)(a a':Option Addr)(cap cap':Nat)(w:World)(h1:(aC x).length<=100000000000)(h2:(aC y).length<=100000000000)(hr:dT w a (gs (aC x)))(hr':dT w a' (gs (aC y))):
  Calls prog 56 #[.agg #[.bool n,.slice a (aC x).length cap],.agg #[.bool n,.slice a' (aC y).length cap']] w fun e w'=>∃b c,e=.returned (.agg #[.bool n,.slice b (aC (x+y)).length c])/\(aC (x+y)).length<=c/\eO w.heap.size b/\dT w' b (gs (aC (x+y)))/\Below w.heap.size w w':=by
 have HP:=Hd (fun W (hW:Below w.heap.size w W)=>Tp x y a a' cap cap' W (by omega) (by omega) (hr.below hW) (hr'.below hW));generalize(aC x).length=lx at *;generalize(aC y).length=ly at *;have HR:=Hd (And.intro hr hr');clear hr hr';have HB:=Hd (fun o1 o2 o3 n=>show Below w.heap.size w ((((w.alloc o1).alloc o2).alloc o3).drewN n) from aD ((((Br _ _).alloc (Nl _) _).alloc (by simp) _).alloc (by simp;omega) _) n);go_enter func56,ntmps56;go_wp2;go_region_held3 (fun W=>W.cell? ⟨w.heap.size,0,none⟩=some (.bool n)/\W.cell? ⟨w.heap.size,1,none⟩=some (.slice a lx cap)/\W.cell? ⟨w.heap.size+1,1,none⟩=some (.slice a' ly cap')) (first|exact⟨k0,k1,k2⟩|exact⟨(dM _ _ (by omega)).trans k0,(dM _ _ (by omega)).trans k1,(dM _ _ (by omega)).trans k2⟩|go_keep)
  (first|(go_at_call 111;refine(HP.out _ (HB.out _ _ _ 1)).mono ?_;rintro e w1 ⟨b1,c1,rfl,hc1,hf1,hr1,hb1⟩;have hb2:w.heap.size+3<=b1:=(by simp at hf1;omega);obtain⟨q1,q2,q3⟩:=Aw (n:=1) hb1;have k0:=aS q1 0;have k1:=aS q1 1;have k2:=aS q2 1;have k3:=aS q3 0;have k4:=aS q3 1;have f3:=aR q3 0;have f4:=aR q3 1;have Q3:=Hd q3;clear q1 q2 q3))
 have HR1:=Hd hr1;clear hr1 hf1;go_wp2;refine bodyPost_ret (v:=.agg #[.bool n,.slice (some ⟨b1,0,none⟩) (aC (x+y)).length c1]) (by simp[results,results56,go_sem,k3,k4]) rfl ⟨some ⟨b1,0,none⟩,c1,rfl,hc1,eO.of (by omega),?_,?_⟩
 ·exact(HR1.out.setCell (p:=⟨w.heap.size+1+1,0,none⟩) (fun b off hb=>by injection hb with hb;injection hb with hb;show b≠w.heap.size+1+1;omega) _).setCell (p:=⟨w.heap.size+1+1,1,none⟩) (fun b off hb=>by injection hb with hb;injection hb with hb;show b≠w.heap.size+1+1;omega) _
 ·exact(((HB.out _ _ _ 1).trans (hb1.mono (by show w.heap.size<=(((w.alloc _).alloc _).alloc _).heap.size;simp;omega))).setCell (p:=⟨w.heap.size+1+1,0,none⟩) (by show w.heap.size<=w.heap.size+1+1;omega) _).setCell (p:=⟨w.heap.size+1+1,1,none⟩) (by show w.heap.size<=w.heap.size+1+1;omega) _
theorem aDq(nx ny:Bool)(hne:nx≠ny)(x y:Nat)(a a':Option Addr)(cap cap':Nat)(w:World)(hxy:y<=x)(h1:(aC x).length<=100000000000)(h2:(aC y).length<=100000000000)(hr:dT w a (gs (aC x)))(hr':dT w a' (gs (aC y))):
  Calls prog 56 #[.agg #[.bool nx,.slice a (aC x).length cap],.agg #[.bool ny,.slice a' (aC y).length cap']] w fun e w'=>∃b c,e=.returned (.agg #[.bool nx,.slice b (aC (x-y)).length c])/\(aC (x-y)).length<=c/\eO w.heap.size b/\dT w' b (gs (aC (x-y)))/\Below w.heap.size w w':=by
 have HC:=Hd (fun W (hW:Below w.heap.size w W)=>iX (aC x) (aC y) a a' cap cap' W (by omega) (by omega) (aO x) (aO y) (hr.below hW) (hr'.below hW));have HP:=Hd (fun W (hW:Below w.heap.size w W)=>Cn x y a a' cap cap' W hxy (by omega) (hr.below hW) (hr'.below hW));have hcv:=(show ¬ jQ (aC x) (aC y)<0 by rw[nO];omega)
 have hne':(nx==ny)=false:=by simpa using hne
 generalize jQ (aC x) (aC y)=cv at *;generalize(aC x).length=lx at *;generalize(aC y).length=ly at *;have HR:=Hd (And.intro hr hr');clear hr hr' hne;have HB:=Hd (fun o1 o2 o3 n=>show Below w.heap.size w ((((w.alloc o1).alloc o2).alloc o3).drewN n) from aD ((((Br _ _).alloc (Nl _) _).alloc (by simp) _).alloc (by simp;omega) _) n);go_enter func56,ntmps56;go_wp2_with (go_at_call 58;refine(HC.out _ (HB.out _ _ _ 0)).mono ?_;rintro e w1 ⟨rfl,q,rfl⟩);go_region_held3 (fun W=>W.cell? ⟨w.heap.size,0,none⟩=some (.bool nx)/\W.cell? ⟨w.heap.size,1,none⟩=some (.slice a lx cap)/\W.cell? ⟨w.heap.size+1,1,none⟩=some (.slice a' ly cap')) (first|exact⟨k0,k1,k2⟩|exact⟨(dM _ _ (by omega)).trans k0,(dM _ _ (by omega)).trans k1,(dM _ _ (by omega)).trans k2⟩|go_keep)
  (first|(go_at_call 112;refine(HP.out _ (HB.out _ _ _ (q+1))).mono ?_;rintro e w1 ⟨b1,c1,rfl,hc1,hf1,hr1,hb1⟩;replace hf1:eO (w.heap.size+3) b1:=(hf1.mono (by show w.heap.size+3<=(((w.alloc _).alloc _).alloc _).heap.size;simp));obtain⟨q1,q2,q3⟩:=Aw (n:=q+1) hb1;have k0:=aS q1 0;have k1:=aS q1 1;have k2:=aS q2 1;have k3:=aS q3 0;have k4:=aS q3 1;have f3:=aR q3 0;have f4:=aR q3 1;have Q3:=Hd q3;clear q1 q2 q3))
 have HR1:=Hd hr1;have HF1:=Hd hf1;clear hr1 hf1;go_wp2;refine bodyPost_ret (v:=.agg #[.bool nx,.slice b1 (aC (x-y)).length c1]) (by simp[results,results56,go_sem,k3,k4]) rfl ⟨b1,c1,rfl,hc1,HF1.out.mono (by omega),?_,?_⟩
 ·exact(HR1.out.setCell (p:=⟨w.heap.size+1+1,0,none⟩) (fun b off hb=>by have:=HF1.out b off hb;show b≠w.heap.size+1+1;omega) _).setCell (p:=⟨w.heap.size+1+1,1,none⟩) (fun b off hb=>by have:=HF1.out b off hb;show b≠w.heap.size+1+1;omega) _
 ·exact(((HB.out _ _ _ (q+1)).trans (hb1.mono (by show w.heap.size<=(((w.alloc _).alloc _).alloc _).heap.size;simp;omega))).setCell (p:=⟨w.heap.size+1+1,0,none⟩) (by show w.heap.size<=w.heap.size+1+1;omega) _).setCell (p:=⟨w.heap.size+1+1,1,none⟩) (by show w.heap.size<=w.heap.size+1+1;omega) _
theorem aDp(nx ny:Bool)(hne:nx≠ny)(x y:Nat)(a a':Option Addr)(cap cap':Nat)(w:World)(hxy:x<y)(h1:(aC x).length<=100000000000)(h2:(aC y).length<=100000000000)(hr:dT w a (gs (aC x)))(hr':dT w a' (gs (aC y))):
  Calls prog 56 #[.agg #[.bool nx,.slice a (aC x).length cap],.agg #[.bool ny,.slice a' (aC y).length cap']] w fun e w'=>∃b c,e=.returned (.agg #[.bool ny,.slice b (aC (y-x)).length c])/\(aC (y-x)).length<=c/\eO w.heap.size b/\dT w' b (gs (aC (y-x)))/\Below w.heap.size w w':=by
 have HC:=Hd (fun W (hW:Below w.heap.size w W)=>iX (aC x) (aC y) a a' cap cap' W (by omega) (by omega) (aO x) (aO y) (hr.below hW) (hr'.below hW));have HP:=Hd (fun W (hW:Below w.heap.size w W)=>Cn y x a' a cap' cap W (by omega) (by omega) (hr'.below hW) (hr.below hW));have hcv:=(show jQ (aC x) (aC y)<0 by rw[nO];omega)
 have hne':(nx==ny)=false:=by simpa using hne
 generalize jQ (aC x) (aC y)=cv at *;generalize(aC x).length=lx at *;generalize(aC y).length=ly at *;have HR:=Hd (And.intro hr hr');clear hr hr' hne;have HB:=Hd (fun o1 o2 o3 n=>show Below w.heap.size w ((((w.alloc o1).alloc o2).alloc o3).drewN n) from aD ((((Br _ _).alloc (Nl _) _).alloc (by simp) _).alloc (by simp;omega) _) n);go_enter func56,ntmps56;go_wp2_with (go_at_call 58;refine(HC.out _ (HB.out _ _ _ 0)).mono ?_;rintro e w1 ⟨rfl,q,rfl⟩);go_region_held3 (fun W=>W.cell? ⟨w.heap.size,0,none⟩=some (.bool ny)/\W.cell? ⟨w.heap.size,1,none⟩=some (.slice a' ly cap')/\W.cell? ⟨w.heap.size+1,1,none⟩=some (.slice a lx cap)) (first|exact⟨k0,k1,k2⟩|exact⟨(dM _ _ (by omega)).trans k0,(dM _ _ (by omega)).trans k1,(dM _ _ (by omega)).trans k2⟩|go_keep)
  (first|(go_at_call 112;refine(HP.out _ (HB.out _ _ _ (q+1))).mono ?_;rintro e w1 ⟨b1,c1,rfl,hc1,hf1,hr1,hb1⟩;replace hf1:eO (w.heap.size+3) b1:=(hf1.mono (by show w.heap.size+3<=(((w.alloc _).alloc _).alloc _).heap.size;simp));obtain⟨q1,q2,q3⟩:=Aw (n:=q+1) hb1;have k0:=aS q1 0;have k1:=aS q1 1;have k2:=aS q2 1;have k3:=aS q3 0;have k4:=aS q3 1;have f3:=aR q3 0;have f4:=aR q3 1;have Q3:=Hd q3;clear q1 q2 q3))
 have HR1:=Hd hr1;have HF1:=Hd hf1;clear hr1 hf1;go_wp2;refine bodyPost_ret (v:=.agg #[.bool ny,.slice b1 (aC (y-x)).length c1]) (by simp[results,results56,go_sem,k3,k4]) rfl ⟨b1,c1,rfl,hc1,HF1.out.mono (by omega),?_,?_⟩
 ·exact(HR1.out.setCell (p:=⟨w.heap.size+1+1,0,none⟩) (fun b off hb=>by have:=HF1.out b off hb;show b≠w.heap.size+1+1;omega) _).setCell (p:=⟨w.heap.size+1+1,1,none⟩) (fun b off hb=>by have:=HF1.out b off hb;show b≠w.heap.size+1+1;omega) _
 ·exact(((HB.out _ _ _ (q+1)).trans (hb1.mono (by show w.heap.size<=(((w.alloc _).alloc _).alloc _).heap.size;simp;omega))).setCell (p:=⟨w.heap.size+1+1,0,none⟩) (by show w.heap.size<=w.heap.size+1+1;omega) _).setCell (p:=⟨w.heap.size+1+1,1,none⟩) (by show w.heap.size<=w.heap.size+1+1;omega) _
theorem Iy(nx ny:Bool)(x y:Nat)(a a':Option Addr)(cap cap':Nat)(w:World)(h1:(aC x).length<=100000000000)(h2:(aC y).length<=100000000000)(hr:dT w a (gs (aC x)))(hr':dT w a' (gs (aC y))):
  Calls prog 56 #[.agg #[.bool nx,.slice a (aC x).length cap],.agg #[.bool ny,.slice a' (aC y).length cap']] w fun e w'=>∃b c,e=.returned (.agg #[.bool (pN nx ny x y).1,.slice b (aC (pN nx ny x y).2).length c])/\(aC (pN nx ny x y).2).length<=c/\eO w.heap.size b/\dT w' b (gs (aC (pN nx ny x y).2))/\Below w.heap.size w w':=by
 by_cases h:nx=ny
 ·subst h;have e:pN nx nx x y=(nx,x+y):=by unfold pN;rw[if_pos rfl]
  rw[e];exact Vy nx x y a a' cap cap' w h1 h2 hr hr'
 ·by_cases h3:x<y
  ·have e:pN nx ny x y=(ny,y-x):=by unfold pN;rw[if_neg h,if_pos h3]
   rw[e];exact aDp nx ny h x y a a' cap cap' w h3 h1 h2 hr hr'
  ·have e:pN nx ny x y=(nx,x-y):=by unfold pN;rw[if_neg h,if_neg h3]
   rw[e];exact aDq nx ny h x y a a' cap cap' w (by omega) h1 h2 hr hr'
theorem fG(l:List UInt8):val l=lX (dD l) (bK (aZ l)):=rfl
theorem Nm(nx ny:Bool)(x y:Nat):Fw (pN nx ny x y).1 (pN nx ny x y).2=aJ (lX nx x+lX ny y):=by
 rw[Cf,<-Vz];rfl
theorem dL(l:List UInt8):(aC (bK (aZ l))).length<=l.length:=by
 refine Nat.le_trans ?_ (nN l)
 by_cases h:aC (bK (aZ l))=[]
 ·rw[h];exact Nat.zero_le _
 ·have h1:=vA (dJ (bK (aZ l))) h;rw[aQ] at h1;have h2:=mR (aZ l) (fD l);have e9:(1000000000:Nat)=10^9:=by decide
  rw[e9,<-Nat.pow_mul] at h1;have h3:=(Nat.pow_lt_pow_iff_right (a:=10) (by decide)).1 (Nat.lt_of_le_of_lt h1 h2);have:=List.length_pos_iff.2 h;omega
theorem Ov(nx ny:Bool)(x y:Nat):(pN nx ny x y).2<=x+y:=by
 unfold pN;split
 ·simp
 ·split <;> simp <;> omega
theorem Gj(x y:Nat):(aC (x+y)).length<=(aC x).length+(aC y).length+1:=by
 by_cases h:aC (x+y)=[]
 ·rw[h];simp
 ·have h1:=vA (dJ (x+y)) h;rw[aQ] at h1;have h2:=fW (aO x);have h3:=fW (aO y);rw[aQ] at h2 h3;rcases Nat.lt_or_ge ((aC x).length+(aC y).length) ((aC (x+y)).length-1) with g|g
  ·exfalso;have h4:1000000000^((aC x).length+(aC y).length+1)<=1000000000^((aC (x+y)).length-1):=Nat.pow_le_pow_right (by decide) (by omega);have h5:1000000000^(aC x).length<=1000000000^((aC x).length+(aC y).length):=Nat.pow_le_pow_right (by decide) (by omega);have h6:1000000000^(aC y).length<=1000000000^((aC x).length+(aC y).length):=Nat.pow_le_pow_right (by decide) (by omega);rw[Nat.pow_succ] at h4;omega
  ·omega
theorem aAg(l m:List UInt8)(w:World)(hE:iE w)(hl:l.length<=10000000000)(hm:m.length<=10000000000):
  Calls prog 18 #[.string ⟨l.toArray⟩,.string ⟨m.toArray⟩] w fun e w'=>e=.returned (.string ⟨(aJ (val l+val m)).toArray⟩)/\Below w.heap.size w w':=by
 have H1:=Hd (fun W=>dX l W (by omega));have H2:=Hd (fun W=>dX m W (by omega));have g1:=dL l;have g2:=dL m;rw[fG l,fG m,<-Nm];generalize bK (aZ l)=x at *;generalize bK (aZ m)=y at *;generalize dD l=nx at *;generalize dD m=ny at *;have hal:=Ov nx ny x y;have hpl:=Gj x y;have HG:=Hd (And.intro g1 (And.intro g2 (And.intro (bP hal) hpl)));have H3:=Hd (Iy nx ny x y);have HE:=Hd hE;clear hE g1 g2 hal hpl;generalize pN nx ny x y=r at *;go_enter func18,ntmps18;go_wp2_with fail;refine(H1.out _).mono ?_;rintro e w1 ⟨a,c,rfl,hc,hf,hr,hb⟩;go_wp2_with fail;refine(H2.out _).mono ?_;rintro e w2 ⟨a',c',rfl,hc',hf',hr',hb'⟩;go_wp2_with fail;refine(H3.out a a' c c' _ (by have:=HG.out;omega) (by have:=HG.out;omega) (hr.below hb') hr').mono ?_;rintro e w3 ⟨a2,c2,rfl,hc2,hf2,hr2,hb2⟩;go_wp2_with fail;refine(fJ r.2 r.1 a2 c2 _ (HE.out.below (aA (aA hb hb') hb2)) hc2 (by have:=HG.out;omega) hr2).mono ?_;rintro e w4 ⟨rfl,hb3⟩;go_wp2;go_ret;exact⟨rfl,aA (aA (aA hb hb') hb2) hb3⟩
end
section
open Go.RowKit Num
attribute [local go_sem] nW
theorem Nr(n:Bool)(x:Nat):lX (!n) x = -lX n x:=by cases n <;> simp[lX]
theorem aAd(l m:List UInt8)(w:World)(hE:iE w)(hl:l.length<=10000000000)(hm:m.length<=10000000000):
  Calls prog 15 #[.string ⟨l.toArray⟩,.string ⟨m.toArray⟩] w fun e w'=>e=.returned (.string ⟨(aJ (val l-val m)).toArray⟩)/\Below w.heap.size w w':=by
 have H1:=Hd (fun W=>dX l W (by omega));have H2:=Hd (fun W=>dX m W (by omega));have g1:=dL l;have g2:=dL m;rw[fG l,fG m,Int.sub_eq_add_neg,<-Nr,<-Nm];generalize bK (aZ l)=x at *;generalize bK (aZ m)=y at *;generalize dD l=nx at *;generalize dD m=ny at *;have hal:=Ov nx (!ny) x y;have hpl:=Gj x y;have HG:=Hd (And.intro g1 (And.intro g2 (And.intro (bP hal) hpl)));have H3:=Hd (Iy nx (!ny) x y);have HE:=Hd hE;clear hE g1 g2 hal hpl;generalize pN nx (!ny) x y=r at *;go_enter func15,ntmps15;go_wp2_with fail;refine(H2.out _).mono ?_;rintro e w2 ⟨a',c',rfl,hc',hf',hr',hb'⟩;have HR':=Hd hr';clear hr';go_wp2_with fail;have HX:=Hd (fun o n w1 (hb:Below ((w2.alloc o).drewN n).heap.size ((w2.alloc o).drewN n) w1)=>(HR'.out.below (aD ((Br _ _).alloc (Nl _) _) n)).below hb);have HW:=Hd (fun o n=>show Below w.heap.size w ((w2.alloc o).drewN n) from aA hb' (aD ((Br _ _).alloc (Nl _) _) n));go_region_held3 (fun W=>W.cell? ⟨w2.heap.size,0,none⟩=some (.bool !ny)/\W.cell? ⟨w2.heap.size,1,none⟩=some (.slice a' (aC y).length c')) (first|exact⟨k0,k1⟩|exact⟨(hb2.cell hk).trans k0,(hb2.cell hk).trans k1⟩|exact⟨(hb3.cell (p:=⟨w2.heap.size,0,none⟩) hk2).trans ((hb2.cell hk).trans k0),(hb3.cell (p:=⟨w2.heap.size,1,none⟩) hk2).trans ((hb2.cell hk).trans k1)⟩|go_keep)
  (first|(go_at_call 55;refine(H1.out _).mono ?_;rintro e w1 ⟨a,c,rfl,hc,hf,hr,hb⟩;have q1:=sT (n:=1) hb;have k0:=aS q1 0;have k1:=aS q1 1;have hk:w2.heap.size<w1.heap.size:=(Ai.1 q1).1;have hr1:=HX.out _ 1 _ hb;have hbw1:=aA (HW.out _ 1) hb;clear q1 hb)|(go_at_call 56;refine(H3.out a a' c c' _ (by have:=HG.out;omega) (by have:=HG.out;omega) hr hr1).mono ?_;rintro e w3 ⟨a2,c2,rfl,hc2,hf2,hr2,hb2⟩;have hk2:w2.heap.size<w3.heap.size:=Nat.lt_of_lt_of_le hk hb2.size)|(go_at_call 57;refine(fJ r.2 r.1 a2 c2 _ (HE.out.below (aA hbw1 hb2)) hc2 (by have:=HG.out;omega) hr2).mono ?_;rintro e w4 ⟨rfl,hb3⟩))
 go_wp2;go_ret;exact⟨rfl,aA (aA hbw1 hb2) hb3⟩
def bG(a b:Int):Int:=if a<b then -1 else if b<a then 1 else 0
theorem Vm{n:Bool}{x y:Nat}{cv:Int}(h:(x<y->cv<0)/\(x=y->cv=0)/\(y<x->0<cv)):
  max (-1) (min (if n=true then -cv else cv) 1)=bG (lX n x) (lX n y):=by
 obtain⟨h1,h2,h3⟩:=h;unfold bG lX;cases n
 ·simp only[Bool.false_eq_true,if_false];rcases Nat.lt_trichotomy x y with h|h|h
  ·rw[if_pos (by omega)];have:=h1 h;omega
  ·rw[if_neg (by omega),if_neg (by omega)];have:=h2 h;omega
  ·rw[if_neg (by omega),if_pos (by omega)];have:=h3 h;omega
 ·simp only[if_true];rcases Nat.lt_trichotomy x y with h|h|h
  ·rw[if_neg (by omega),if_pos (by omega)];have:=h1 h;omega
  ·rw[if_neg (by omega),if_neg (by omega)];have:=h2 h;omega
  ·rw[if_pos (by omega)];have:=h3 h;omega
theorem tM{l:List UInt8}(h:dD l=true):0<bK (aZ l):=by
 have h1:aZ l ≠ []:=by unfold dD at h;simp at h;exact h.2
 have:=(not_congr (tZ l)).1 h1;omega
theorem nV(l m:List UInt8)(w:World)(hl:l.length<=10000000000)(hm:m.length<=10000000000):
  Calls prog 16 #[.string ⟨l.toArray⟩,.string ⟨m.toArray⟩] w fun e w'=>e=.returned (.int .i64 (bG (val l) (val m)))/\Below w.heap.size w w':=by
 have H1:=Hd (fun W=>dX l W (by omega));have H2:=Hd (fun W=>dX m W (by omega));have g1:=dL l;have g2:=dL m;have p1:=fun h=>tM (l:=l) h
 have p2:=fun h=>tM (l:=m) h
 rw[fG l,fG m];generalize bK (aZ l)=x at *;generalize bK (aZ m)=y at *;generalize dD l=nx at *;generalize dD m=ny at *;have H3:=Hd (iX (aC x) (aC y));have hcv:=qS x y;have hcb:-10000000001<=jQ (aC x) (aC y)/\jQ (aC x) (aC y)<=10000000001:=by
  unfold jQ;split
  ·split
   ·omega
   ·split <;> omega
  ·omega
 generalize jQ (aC x) (aC y)=cv at *;obtain⟨hcb1,hcb2⟩:=hcb;have HV:=Hd (And.intro hcv (And.intro p1 p2));clear hcv p1 p2
 by_cases hn:nx=ny
 ·subst hn;have HF:=Hd (Vm (n:=nx) HV.out.1);cases nx
  all_goals
   go_enter func16,ntmps16;go_wp2_with fail;refine(H1.out _).mono ?_;rintro e w1 ⟨a,c,rfl,hc,hf,hr,hb⟩;go_wp2_with fail;refine(H2.out _).mono ?_;rintro e w2 ⟨a',c',rfl,hc',hf',hr',hb'⟩;have HB:=Hd (fun o1 o2=>show Below w2.heap.size w2 ((w2.alloc o1).alloc o2) from((Br _ _).alloc (Nl _) _).alloc (by simp) _);have HR:=Hd (And.intro (hr.below hb') hr');clear hr hr';go_wp2_with (go_at_call 58;refine(H3.out a a' c c' _ (by omega) (by omega) (aO x) (aO y) (HR.out.1.below (HB.out _ _)) (HR.out.2.below (HB.out _ _))).mono ?_;rintro e w3 ⟨rfl,q,rfl⟩);go_ret;refine⟨gG ?_,aD (aA (aA hb hb') (HB.out _ _)) q⟩;rw[<-HF.out];simp
   try omega
 ·have hn':(nx != ny)=true:=by simpa using hn
  cases nx
  ·have hny:ny=true:=by simpa using hn
   subst hny;have HF:Hid (bG (lX false x) (lX true y)=1):=by
    have:=HV.out.2.2 rfl;show bG _ _=1;unfold bG lX;simp only[Bool.false_eq_true,if_false,if_true];rw[if_neg (by omega),if_pos (by omega)]
   clear hn hn';go_enter func16,ntmps16;go_wp2_with fail;refine(H1.out _).mono ?_;rintro e w1 ⟨a,c,rfl,hc,hf,hr,hb⟩;go_wp2_with fail;refine(H2.out _).mono ?_;rintro e w2 ⟨a',c',rfl,hc',hf',hr',hb'⟩;have HB:=Hd (fun o1 o2=>show Below w2.heap.size w2 ((w2.alloc o1).alloc o2) from((Br _ _).alloc (Nl _) _).alloc (by simp) _);have HR:=Hd (And.intro (hr.below hb') hr');clear hr hr';go_wp2_with (go_at_call 58;refine(H3.out a a' c c' _ (by omega) (by omega) (aO x) (aO y) (HR.out.1.below (HB.out _ _)) (HR.out.2.below (HB.out _ _))).mono ?_;rintro e w3 ⟨rfl,q,rfl⟩);go_ret;refine⟨gG ?_,aD (aA (aA hb hb') (HB.out _ _)) q⟩;rw[HF.out]
   try simp
   try omega
  ·have hny:ny=false:=by simpa using hn
   subst hny;have HF:Hid (bG (lX true x) (lX false y) = -1):=by
    have:=HV.out.2.1 rfl;show bG _ _ = -1;unfold bG lX;simp only[Bool.false_eq_true,if_false,if_true];rw[if_pos (by omega)]
   clear hn hn';go_enter func16,ntmps16;go_wp2_with fail;refine(H1.out _).mono ?_;rintro e w1 ⟨a,c,rfl,hc,hf,hr,hb⟩;go_wp2_with fail;refine(H2.out _).mono ?_;rintro e w2 ⟨a',c',rfl,hc',hf',hr',hb'⟩;have HB:=Hd (fun o1 o2=>show Below w2.heap.size w2 ((w2.alloc o1).alloc o2) from((Br _ _).alloc (Nl _) _).alloc (by simp) _);have HR:=Hd (And.intro (hr.below hb') hr');clear hr hr';go_wp2_with (go_at_call 58;refine(H3.out a a' c c' _ (by omega) (by omega) (aO x) (aO y) (HR.out.1.below (HB.out _ _)) (HR.out.2.below (HB.out _ _))).mono ?_;rintro e w3 ⟨rfl,q,rfl⟩);go_ret;refine⟨gG ?_,aD (aA (aA hb hb') (HB.out _ _)) q⟩;rw[HF.out]
   try simp
   try omega
theorem aLl(n:Int):val (Lib.itoa n)=n:=by
 unfold Lib.itoa;split
 ·rename_i h;have:45::Lib.decDigits n.natAbs=aJ n:=by unfold aJ;rw[if_pos h]
  rw[this,bE]
 ·rename_i h
  by_cases h0:n=0
  ·subst h0;rw[show Lib.decDigits (0:Int).toNat=[48] by rw[Lib.decDigits];simp];decide
  ·have:Lib.decDigits n.toNat=aJ n:=by unfold aJ aU;rw[if_neg h,if_neg (by omega)]
   rw[this,bE]
end
section
open Num
theorem Id{a b q r:Int}(h:a=b*q+r)(hb:b≠0)(h1:0<b->0<=r/\r<b)(h2:b<0->b<r/\r<=0):a.fdiv b=q/\a.fmod b=r:=by
 have key:a.fdiv b=q:=by
  rcases Int.lt_or_lt_of_ne hb with hn|hp
  ·rw[<-Int.neg_fdiv_neg,Int.fdiv_eq_ediv_of_nonneg _ (by omega)];exact((Int.ediv_emod_unique (a:=-a) (b:=-b) (r:=-r) (q:=q) (by omega)).2 ⟨by rw[h,Int.neg_mul];omega,by have:=h2 hn;omega,by have:=h2 hn;omega⟩).1
  ·rw[Int.fdiv_eq_ediv_of_nonneg _ (by omega)];exact((Int.ediv_emod_unique (a:=a) (b:=b) (r:=r) (q:=q) hp).2 ⟨by omega,(h1 hp).1,(h1 hp).2⟩).1
 exact⟨key,by rw[Int.fmod_def,key];omega⟩
theorem Ij(x y:Nat):(x:Int)=(y:Int)*((x/y:Nat):Int)+((x%y:Nat):Int):=by
 have h:=Nat.div_add_mod x y;have:((y*(x/y)+x%y:Nat):Int)=(x:Int):=by rw[h]
 rw[<-this];simp
theorem Lp{nx ny:Bool}{x y:Nat}(hy:y≠0)(h:nx=ny∨x%y=0):(lX nx x).fdiv (lX ny y)=lX (nx != ny) (x/y)/\(lX nx x).fmod (lX ny y)=lX ny (x%y):=by
 have e:=Ij x y;have hm:=Nat.mod_lt x (Nat.pos_of_ne_zero hy);generalize x/y=q at *;generalize x%y=r at *;apply Id
 ·cases nx <;> cases ny <;> simp[lX,Int.neg_mul,Int.mul_neg] at h ⊢ <;> omega
 ·cases ny <;> simp[lX] <;> omega
 ·cases ny <;> simp[lX] <;> omega
 ·cases ny <;> simp[lX] <;> omega
end
section
open Go.RowKit Num
theorem yB(l:List UInt8):(val l).natAbs<10^l.length:=by
 have h1:bK (aZ l)<10^(aZ l).length:=mR _ (fD l);have h2:10^(aZ l).length<=10^l.length:=Nat.pow_le_pow_right (by decide) (nN l);unfold val;split <;> omega
theorem gC{z:Int}{K:Nat}(hK:1<=K)(h:z.natAbs<10^K):(aJ z).length<=K+1:=by
 unfold aJ;split
 ·have:=jU z.natAbs K hK h;simp only[List.length_cons,Lib.decDigits_length];omega
 ·unfold aU;split
  ·simp
  ·have:=jU z.toNat K hK (by omega);rw[Lib.decDigits_length];omega
theorem Wn(K:Nat):2*10^K<=10^(K+1):=by rw[Nat.pow_succ];omega
theorem aPa{l m:List UInt8}{K:Nat}(hl:l.length<=K)(hm:m.length<=K):(aJ (val l+val m)).length<=K+2:=by
 have h1:=yB l;have h2:=yB m;have h3:10^l.length<=10^K:=Nat.pow_le_pow_right (by decide) hl;have h4:10^m.length<=10^K:=Nat.pow_le_pow_right (by decide) hm;have h5:=Wn K;exact gC (by omega) (by omega)
theorem Np{l m:List UInt8}{K:Nat}(hl:l.length<=K)(hm:m.length<=K):(aJ (val l-val m)).length<=K+2:=by
 have h1:=yB l;have h2:=yB m;have h3:10^l.length<=10^K:=Nat.pow_le_pow_right (by decide) hl;have h4:10^m.length<=10^K:=Nat.pow_le_pow_right (by decide) hm;have h5:=Wn K;exact gC (by omega) (by omega)
end
section
open Num Go
def lU(d:List UInt8):Int:=if val d=0 then 1 else val d
def jN(d:List UInt8):List UInt8:=if val d=0 then[49] else d
theorem jB:val [49]=1:=by decide
theorem iH(d:List UInt8):val (jN d)=lU d:=by unfold jN lU;split;exact jB;rfl
theorem qQ(d:List UInt8):lU d≠0:=by unfold lU;split <;> omega
def gE(N D:Int):Nat:=Nat.gcd N.natAbs D.natAbs
def eT(N D:Int):Int:=(if D<0 then -N else N).fdiv (gE N D)
def fT(N D:Int):Int:=(if D<0 then -D else D).fdiv (gE N D)
def nD(z:Int):List UInt8:=if aJ z=[49] then[] else aJ z
theorem Gd:eT 1 1=1:=by unfold eT gE;simp
theorem Gh:fT 1 1=1:=by unfold fT gE;simp
theorem mK:aJ 1=[49]:=by
 unfold aJ aU;rw[if_neg (by decide),if_neg (by decide),Lib.decDigits];rfl
theorem oO:nD 1=[]:=by unfold nD;rw[if_pos mK]
theorem Hw(N D:Int):gE (-N) (-D)=gE N D:=by unfold gE;rw[Int.natAbs_neg,Int.natAbs_neg]
theorem qJ{N D:Int}(h:D≠0):0<gE N D:=Nat.gcd_pos_of_pos_right _ (by omega)
theorem tN(l:List UInt8):bK (aZ l)=(val l).natAbs:=by rw[fG];cases dD l <;> simp[lX]
theorem vL(n:Nat):aJ (n:Int)=aU n:=by unfold aJ;rw[if_neg (by omega)];simp
theorem aNu(n:Nat):val (aU n)=(n:Int):=eQ n
theorem yF(N D:Int):N.natAbs%gE N D=0:=Nat.mod_eq_zero_of_dvd (Nat.gcd_dvd_left _ _)
theorem Ev(N D:Int):D.natAbs%gE N D=0:=Nat.mod_eq_zero_of_dvd (Nat.gcd_dvd_right _ _)
theorem Oi{N D:Int}(h:D≠0):gE N D<=D.natAbs:=Nat.gcd_le_right _ (by omega)
theorem As{n K:Nat}(hK:1<=K)(h:n<10^K):(aU n).length<=K+1:=by rw[<-vL];exact gC hK (by simpa using h)
theorem lO{l:List UInt8}{K:Nat}(h:l.length<=K):(val l).natAbs<10^K:=Nat.lt_of_lt_of_le (yB l) (Nat.pow_le_pow_right (by decide) h)
theorem yH{l:List UInt8}{K:Nat}(hK:1<=K)(h:l.length<=K):(aJ (-val l)).length<=K+1:=gC hK (by rw[Int.natAbs_neg];exact lO h)
theorem Ie(N:Int)(g:Nat)(hg:0<g)(h:N.natAbs%g=0):(N.fdiv g).natAbs<=N.natAbs:=by
 have hd:(g:Int)∣N:=Int.ofNat_dvd_left.2 (Nat.dvd_of_mod_eq_zero h);obtain⟨k,rfl⟩:=hd;rw[Int.mul_fdiv_cancel_left _ (by omega),Int.natAbs_mul];exact Nat.le_mul_of_pos_left _ (by omega)
theorem Sy{N D:Int}(h:D≠0):(eT N D).natAbs<=N.natAbs:=by
 unfold eT;have:=Ie (if D<0 then -N else N) (gE N D) (qJ h) (by split <;> simp[yF]);refine Nat.le_trans this ?_;split <;> simp
theorem Tk{N D:Int}(h:D≠0):(fT N D).natAbs<=D.natAbs:=by
 unfold fT;have:=Ie (if D<0 then -D else D) (gE N D) (qJ h) (by split <;> simp[Ev]);refine Nat.le_trans this ?_;split <;> simp
theorem uE{z y:Int}{l:List UInt8}{K:Nat}(hK:1<=K)(h:z.natAbs<=y.natAbs)(hy:y=val l)(hl:l.length<=K):(aJ z).length<=K+1:=gC hK (by subst hy;exact Nat.lt_of_le_of_lt h (lO hl))
end
section
open Go.RowKit Num
structure Bd where
 id:List UInt8
 ins:List UInt8
 acq:Int
 opn:Int
 q:List UInt8
 c:List UInt8
 u:List UInt8
abbrev Pm(l:List UInt8):Value:=.string ⟨l.toArray⟩
def Bd.v(x:Bd):Value:=.agg #[.string ⟨x.id.toArray⟩,.string ⟨x.ins.toArray⟩,.int .i64 x.acq,.int .i64 x.opn,.string ⟨x.q.toArray⟩,.string ⟨x.c.toArray⟩,.string ⟨x.u.toArray⟩]
def aLk(d:Int):Bool:=decide (-25567<=d)&&decide (d<=84005)
def Hi(l:List UInt8):Bool:=decide (aJ (val l)=l)
def Bd.err(x:Bd):Int :=
 if !(sP x.id&&dC x.ins) then 23
 else if !(aLk x.acq&&aLk x.opn) then 13
 else if x.opn<x.acq then 8
 else if !(Hi x.q&&Hi x.c&&Hi x.u) then 1
 else if val x.q<=0∨val x.c<0∨(x.u ≠ []/\x.u≠x.q) then 2
 else 0
theorem Bd.err_mk(id ins:List UInt8)(acq opn:Int)(q c u:List UInt8):Bd.err ⟨id,ins,acq,opn,q,c,u⟩=(if !(sP id&&dC ins) then 23
 else if !(aLk acq&&aLk opn) then 13
 else if opn<acq then 8
 else if !(Hi q&&Hi c&&Hi u) then 1
 else if val q<=0∨val c<0∨(u ≠ []/\u≠q) then 2
 else 0):=rfl
theorem aNr(a b:Int):bG a b<=0↔a<=b:=by
 unfold bG;split
 ·omega
 ·split <;> omega
theorem Oo(a b:Int):bG a b<0↔a<b:=by
 unfold bG;split
 ·omega
 ·split <;> omega
theorem aL5(l:List UInt8)(w:World)(hl:l.length<=9000000000000000000):
  Calls prog 62 #[.string ⟨l.toArray⟩] w fun e w'=>e=.returned (.int .i64 (if Hi l=true then 0 else 1))/\Below w.heap.size w w':=by
 have h:=aOy l w hl;unfold Hi;simpa using h
theorem Nj:val []=0:=by decide
theorem aPb(l:List UInt8)(w:World)(hl:l.length<=10000000000):
  Calls prog 16 #[.string ⟨l.toArray⟩,.string ⟨#[]⟩] w fun e w'=>e=.returned (.int .i64 (bG (val l) 0))/\Below w.heap.size w w':=by
 have h:=nV l [] w hl (by simp);rw[Nj] at h;exact h
theorem aMr(d:Int)(w:World):
  Calls prog 127 #[.int .i64 d] w fun e w'=>e=.returned (.bool (aLk d))/\w=w':=by
 have hd:=Hd (show aLk d=(decide (-25567<=d)&&decide (d<=84005)) from rfl)
 by_cases g1:-25567<=d <;> by_cases g2:d<=84005
 all_goals
  go_enter func127,ntmps127;go_wp2;go_ret;exact⟨dG (by rw[hd.out];simp[g1,g2]),rfl⟩
theorem aMj(d:Int)(w:World):
  Calls prog 133 #[.int .i64 d] w fun e w'=>e=.returned (.bool (aLk d))/\w=w':=by
 have hd:=Hd (show aLk d=(decide (-25567<=d)&&decide (d<=84005)) from rfl)
 by_cases g1:-25567<=d <;> by_cases g2:d<=84005
 all_goals
  go_enter func133,ntmps133;go_wp2;go_ret;exact⟨dG (by rw[hd.out];simp[g1,g2]),rfl⟩
def aP(w:World)(b:Nat)(cs:Array Value)(T:TypeId):Prop:=b<w.heap.size/\w.heap[b]?=some (.cells cs T (0,0))
theorem aP.below{w w':World}{b:Nat}{cs:Array Value}{T:TypeId}(h:aP w b cs T)(hb:Below w.heap.size w w'):aP w' b cs T :=
 ⟨Nat.lt_of_lt_of_le h.1 hb.size,(hb.block _ h.1).trans h.2⟩
theorem aP.cell{w:World}{b:Nat}{cs:Array Value}{T:TypeId}(h:aP w b cs T)(j:Nat):w.cell? ⟨b,j,none⟩=cs[j]? := aS h.2 j
theorem aP.new(w:World)(cs:Array Value)(T:TypeId)(n:Nat):aP ((w.alloc (.cells cs T)).drewN n) w.heap.size cs T:=⟨by show w.heap.size<(w.alloc _).heap.size;simp,heap_alloc_new w _⟩
theorem aP.new0(w:World)(cs:Array Value)(T:TypeId):aP (w.alloc (.cells cs T)) w.heap.size cs T:=aP.new w cs T 0
theorem aB(w:World)(o:Obj):Below w.heap.size w (w.alloc o):=(Br _ _).alloc (Nl _) _
end
section
open Go.RowKit Num
attribute [local go_sem] eW eN aV
theorem aMm(x:Bd)(w:World)(hE:iE w)(h1:x.id.length<=1000)(h2:x.ins.length<=1000)(h3:x.q.length<=1000)(h4:x.c.length<=1000)(h5:x.u.length<=1000):
  Calls prog 71 #[x.v] w fun e w'=>e=.returned (.int .i64 x.err)/\Below w.heap.size w w':=by
 obtain⟨id,ins,acq,opn,q,c,u⟩:=x;simp only[Bd.v] at *;have hr:=Hd (Bd.err_mk id ins acq opn q c u);have H1:=Hd (fun W hW=>aN7 id W hW (by omega));have H2:=Hd (fun W=>qW ins W (by omega));have H3:=Hd (fun W=>aMr acq W);have H4:=Hd (fun W=>aMr opn W);have H5:=Hd (fun W=>aL5 q W (by omega));have H6:=Hd (fun W=>aL5 c W (by omega));have H7:=Hd (fun W=>aL5 u W (by omega));have H8:=Hd (fun W=>aPb q W (by omega));have H9:=Hd (fun W=>aPb c W (by omega));have HE:=Hd hE;clear hE;generalize Bd.err _=r at *;generalize sP id=b1 at *;generalize dC ins=b2 at *;generalize aLk acq=b3 at *;generalize aLk opn=b4 at *;generalize Hi q=b5 at *;generalize Hi c=b6 at *;generalize Hi u=b7 at *;have KB:=Hd (aP.new0 w #[.string ⟨id.toArray⟩,.string ⟨ins.toArray⟩,.int .i64 acq,.int .i64 opn,.string ⟨q.toArray⟩,.string ⟨c.toArray⟩,.string ⟨u.toArray⟩] 49);have HB:=Hd (aB w (.cells #[.string ⟨id.toArray⟩,.string ⟨ins.toArray⟩,.int .i64 acq,.int .i64 opn,.string ⟨q.toArray⟩,.string ⟨c.toArray⟩,.string ⟨u.toArray⟩] 49));go_enter func71,ntmps71;go_wp2_with fail;refine(H1.out _ (HE.out.below HB.out)).mono ?_;rintro e w1 ⟨rfl,hb⟩;have KB:=Hd (KB.out.below hb);have HB:=Hd (aA HB.out hb);clear hb H1;have k1:=KB.out.cell 1;cases b1
 ·go_wp2;go_ret;exact⟨gG (by rw[hr.out];simp),HB.out⟩
 go_wp2_with fail;refine(H2.out _).mono ?_;rintro e w1 ⟨rfl,hb⟩;have KB:=Hd (KB.out.below hb);have HB:=Hd (aA HB.out hb);clear hb H2 k1;have k2:=KB.out.cell 2;cases b2
 ·go_wp2;go_ret;exact⟨gG (by rw[hr.out];simp),HB.out⟩
 go_wp2_with fail;refine(H3.out _).mono ?_;rintro e w2 ⟨rfl,rfl⟩;have k3:=KB.out.cell 3;cases b3
 ·go_wp2;go_ret;exact⟨gG (by rw[hr.out];simp),HB.out⟩
 go_wp2_with fail;refine(H4.out _).mono ?_;rintro e w2 ⟨rfl,rfl⟩;cases b4
 ·go_wp2;go_ret;exact⟨gG (by rw[hr.out];simp),HB.out⟩
 by_cases g1:opn<acq
 ·go_wp2_with fail;go_ret;exact⟨gG (by rw[hr.out];simp[g1]),HB.out⟩
 have k4:=KB.out.cell 4;have k5:=KB.out.cell 5;have k6:=KB.out.cell 6;go_wp2_with fail;refine wp_loop_rounds 4 ?_;rw[rounds_succ];have KS:=Hd (aP.new0 w1 #[.string ⟨q.toArray⟩,.string ⟨c.toArray⟩,.string ⟨u.toArray⟩] 36);have KB:=Hd (KB.out.below (aB w1 (.cells #[.string ⟨q.toArray⟩,.string ⟨c.toArray⟩,.string ⟨u.toArray⟩] 36)));have HB:=Hd (aA HB.out (aB w1 (.cells #[.string ⟨q.toArray⟩,.string ⟨c.toArray⟩,.string ⟨u.toArray⟩] 36)));have k0:=KS.out.cell 0;clear k2 k3 k4 k5 k6;go_wp2_with fail;refine(H5.out _).mono ?_;rintro e w2 ⟨rfl,hb⟩;have KB:=Hd (KB.out.below hb);have KS:=Hd (KS.out.below hb);have HB:=Hd (aA HB.out hb);have k1:=KS.out.cell 1;clear hb k0;cases b5
 ·go_wp2;go_ret;exact⟨gG (by rw[hr.out];simp[g1]),HB.out⟩
 go_wp2_with fail;rw[rounds_succ];go_wp2_with fail;refine(H6.out _).mono ?_;rintro e w3 ⟨rfl,hb⟩;have KB:=Hd (KB.out.below hb);have KS:=Hd (KS.out.below hb);have HB:=Hd (aA HB.out hb);have k2:=KS.out.cell 2;clear hb k1;cases b6
 ·go_wp2;go_ret;exact⟨gG (by rw[hr.out];simp[g1]),HB.out⟩
 go_wp2_with fail;rw[rounds_succ];go_wp2_with fail;refine(H7.out _).mono ?_;rintro e w4 ⟨rfl,hb⟩;have KB:=Hd (KB.out.below hb);have HB:=Hd (aA HB.out hb);have k4:=KB.out.cell 4;clear hb k2;cases b7
 ·go_wp2;go_ret;exact⟨gG (by rw[hr.out];simp[g1]),HB.out⟩
 go_wp2_with fail;rw[rounds_succ];go_wp2_with fail;refine(H8.out _).mono ?_;rintro e w5 ⟨rfl,hb⟩;have KB:=Hd (KB.out.below hb);have HB:=Hd (aA HB.out hb);have k5:=KB.out.cell 5;have hc1:=Hd (aNr (val q) 0);clear hb k4
 by_cases g2:val q<=0
 ·have t1:=hc1.out.2 g2;go_wp2;go_ret;exact⟨gG (by rw[hr.out];simp[g1,g2]),HB.out⟩
 have t1:=mt hc1.out.1 g2;go_wp2_with fail;refine(H9.out _).mono ?_;rintro e w6 ⟨rfl,hb⟩;have KB:=Hd (KB.out.below hb);have HB:=Hd (aA HB.out hb);have k4:=KB.out.cell 4;have k6:=KB.out.cell 6;have hc2:=Hd (Oo (val c) 0);clear hb k5
 by_cases g3:val c<0
 ·have t2:=hc2.out.2 g3;go_wp2;go_ret;exact⟨gG (by rw[hr.out];simp[g1,g3]),HB.out⟩
 have t2:=mt hc2.out.1 g3;have G:=Hd (And.intro g1 (And.intro g2 g3));have HZ:=HB
 by_cases g4:u=[]
 ·subst g4;go_wp2;go_ret;exact⟨gG (by rw[hr.out];have:=G.out;simp;rw[if_neg (by omega),if_neg (by omega)]),HZ.out⟩
 by_cases g5:u=q
 ·subst g5;go_wp2;go_ret;exact⟨gG (by rw[hr.out];have:=G.out;simp;rw[if_neg (by omega),if_neg (by omega)]),HZ.out⟩
 ·have G5:=Hd (And.intro g4 g5);go_wp2
  ·go_ret;exact⟨gG (by rw[hr.out];have h7:=G.out;have h8:=G5.out;simp;rw[if_neg (by omega),if_pos (.inr (.inr h8))]),HZ.out⟩
  ·exfalso;rename_i hh;have:=G5.out;simp[this] at hh
end
end Go.Proofs.YtiloklnjjfaagaaGreatDoor
